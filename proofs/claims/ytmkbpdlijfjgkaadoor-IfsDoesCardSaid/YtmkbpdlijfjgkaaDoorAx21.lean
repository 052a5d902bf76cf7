/- Slices among the arguments with the bound on their weights. -/
import Derived.Test.YtmkbpdlijfjgkaaDoorAx20
import Derived.Test.YtmkbpdlijfjgkaaDoorAx8
namespace Go.AX
set_option linter.unusedSimpArgs false
set_option linter.unusedVariables false
open Go Go.Proofs Go.ChangeShapes Go.WideShapes Go.ChangeAt
variable {HT : Type} {enc : TypeId × Value → HT} {P : Program}

theorem weightsAll_mem {e : TypeId} {d : DataW HT} {k : Nat} (hk : k ∈ d.weights P e) : ∀ {l : List (DataW HT)}, d ∈ l → k ∈ DataW.weightsAll P e l
  | x :: l, h => by
    rw [DataW.weightsAll, List.mem_append]
    rcases List.mem_cons.1 h with h | h
    · subst h; exact Or.inl hk
    · exact Or.inr (weightsAll_mem hk h)

/-- A slice by its rows, each with its own datum, and a bound on all. -/
theorem open_slcB {w : World} {t e sz B : Nat} {v : Value} {y : DataW HT × List MemPlace} {sp : Nat → Bool} {held : Bool} (hu : P.underlying t = some (.slice e)) (hz : P.cellsOf e = sz) (h0 : sz ≠ 0)
    (h : ∃ fuel, DataW.trod enc P w 0 sp held fuel t [v] = some y) (hB : ∀ k ∈ y.1.weights P t, k ≤ B) :
    ∃ base n cap R, v = .slice base n cap ∧ R.length = n ∧ R.length * P.bytesOf e ≤ B ∧ SlcIn ⟨w, []⟩ sz base cap R ∧
      ∀ (i : Nat) (r : List Value), R[i]? = some r → r.length = sz ∧ ∃ n x, DataW.trod enc P w 0 sp held n e r = some x ∧ ∀ k ∈ x.1.weights P e, k ≤ B := by
  obtain ⟨d, ps⟩ := y
  obtain ⟨fuel, h⟩ := h
  rcases Go.Deep.open_slice hu h with ⟨h1, _⟩ | ⟨a, len, cap, m, n, D, Pl, h1, hb, hle, hm, hmm, hd, hx⟩
  · cases h1
    exact ⟨none, 0, 0, [], rfl, rfl, by simp, ⟨by simp, by simp, fun i hi => by simp at hi, fun b o hb => (by cases hb), fun b o hb => (by cases hb)⟩, fun i r hr => by simp at hr⟩
  · cases h1
    have hcap : cap < 9223372036854775808 := by
      have : maxLen < 9223372036854775808 := by decide
      omega
    cases hd
    dsimp only at hB
    simp only [DataW.weights, hu] at hB
    have hB1 := hB _ (List.mem_cons_self ..)
    simp only [List.length_map, List.length_range] at hB1
    have hB0 : len * P.bytesOf e ≤ B := Nat.le_trans (Nat.mul_le_mul_right _ (by omega)) hB1
    have hBi : ∀ i, i < len → ∀ k ∈ (D i).weights P e, k ≤ B := fun i hi k hk =>
      hB k (List.mem_cons_of_mem _ (List.mem_append.2 (Or.inl (weightsAll_mem hk (List.mem_map.2 ⟨i, List.mem_range.2 hi, rfl⟩)))))
    by_cases hlen : len = 0
    · subst hlen
      exact ⟨some a, 0, cap, [], rfl, rfl, by simp, ⟨by simp, by simp, fun i hi => by simp at hi, fun b o _ i j r c h1 _ => by simp at h1, fun b o _ i r h1 => by simp at h1⟩, fun i r hr => by simp at hr⟩
    · obtain ⟨b, o, spot⟩ := a
      have hsp : spot = none := by
        obtain ⟨cs', h3, _⟩ := hx 0 (by rw [hmm]; split <;> omega)
        rw [hz] at h3
        obtain ⟨_, hlen', hcell⟩ := World.cells?_some h3
        have h4 := hcell 0 (by omega)
        cases spot with
        | none => rfl
        | some q =>
          rw [List.getElem?_eq_getElem (by omega)] at h4
          simp only [Nat.zero_mul] at h4
          unfold World.cell? at h4
          split at h4
          · have : ((Addr.add (Addr.add ⟨b, o, some q⟩ 0) 0).spot.isSome) = true := rfl
            rw [this] at h4; simp at h4
          · cases h4
      subst hsp
      have hlm : len ≤ m := by rw [hmm]; split <;> omega
      obtain ⟨f, hf⟩ := Go.Deep.choose_lt (n := len) (p := fun i cs' => w.cells? 0 ((⟨b, o, none⟩ : Addr).add (i * P.cellsOf e)) (P.cellsOf e) = some cs' ∧ ∃ x, DataW.trod enc P w 0 sp held n e cs' = some x ∧ ∀ k ∈ x.1.weights P e, k ≤ B)
        (fun i hi => by obtain ⟨cs', h3, h4⟩ := hx i (by omega); exact ⟨cs', h3, _, h4, hBi i hi⟩)
      have hcell : ∀ i, i < len → (f i).length = sz ∧ ∀ j, j < sz → w.cell? ⟨b, o + (i * sz + j), none⟩ = (f i)[j]? := fun i hi => by
        obtain ⟨h3, _⟩ := hf i hi
        rw [hz] at h3
        obtain ⟨_, hlen, hcell⟩ := World.cells?_some h3
        refine ⟨hlen, fun j hj => ?_⟩
        have := hcell j hj
        rw [Go.Deep.add_add, Go.AX.add_plain] at this
        exact this
      have hrow : ∀ (i : Nat) (r : List Value), ((List.range len).map f)[i]? = some r → i < len ∧ r = f i := fun i r hr => by
        rw [List.getElem?_map] at hr
        obtain ⟨j, hj, rfl⟩ := Option.map_eq_some_iff.1 hr
        have hi : i < len := by
          rcases Nat.lt_or_ge i len with h | h
          · exact h
          · rw [List.getElem?_eq_none (by simpa using h)] at hj; cases hj
        rw [List.getElem?_range hi] at hj
        cases hj; exact ⟨hi, rfl⟩
      have hlt : ∀ {off : Nat} {c : Value}, w.cell? ⟨b, off, none⟩ = some c → b < w.heap.size := fun {off c} hcc => by
        unfold World.cell? at hcc
        rcases Nat.lt_or_ge b w.heap.size with h | h
        · exact h
        · simp only at hcc; rw [Array.getElem?_eq_none h] at hcc; cases hcc
      refine ⟨some ⟨b, o, none⟩, len, cap, (List.range len).map f, rfl, by simp, by simpa using hB0, ⟨by simpa using hle, by simp only [List.length_map, List.length_range]; omega, fun _ _ => ⟨b, o, rfl⟩, ?_, ?_⟩, ?_⟩
      · intro b' o' hb' i j r c hr hc
        cases hb'
        obtain ⟨hi, rfl⟩ := hrow i r hr
        obtain ⟨q1, q2⟩ := hcell i hi
        have hj : j < sz := by
          rw [← q1]
          rcases Nat.lt_or_ge j (f i).length with h | h
          · exact h
          · rw [List.getElem?_eq_none h] at hc; cases hc
        have := q2 j hj
        rw [hc] at this
        show (if b < w.heap.size then w.cell? ⟨b, o + (i * sz + j), none⟩ else none) = some c
        rw [if_pos (hlt this)]; exact this
      · intro b' o' hb' i r hr
        cases hb'
        obtain ⟨hi, rfl⟩ := hrow i r hr
        obtain ⟨q1, q2⟩ := hcell i hi
        have hbr := baseRow_of (w := w) (b := b) (f i) (o + i * sz) (fun j hj => by rw [show o + i * sz + j = o + (i * sz + j) from by omega]; exact q2 j (by omega))
        have h00 := q2 0 (by omega)
        have hb2 : b < w.heap.size := hlt (h00.trans (List.getElem?_eq_getElem (by omega)))
        show (if b < w.heap.size then baseRow w b (o + i * sz) sz else none) = some (f i)
        rw [if_pos hb2]
        rw [q1] at hbr; exact hbr
      · intro i r hr
        obtain ⟨hi, rfl⟩ := hrow i r hr
        obtain ⟨q1, q2⟩ := hcell i hi
        obtain ⟨_, x, hx'⟩ := hf i hi
        exact ⟨q1, n, x, hx'⟩
end Go.AX
