/- Texts of mine, one behind another. -/
import Derived.Test.YtbhamhhjicehaaaGreatDoorMBusApart5
/- wire.Join: spans, joined. -/
namespace Go.Proofs.YtbhamhhjicehaaaGreatDoor.Wire
set_option linter.unusedSimpArgs false
set_option linter.unusedVariables false
open Go Go.AX Go.Proofs Ty Go.Proofs.YtbhamhhjicehaaaGreatDoor.Srt Go.Proofs.YtbhamhhjicehaaaGreatDoor.CatP
set_option maxHeartbeats 4000000
set_option maxRecDepth 10000

def low (X : List Sp) (t : Int) : Prop := ∃ s ∈ X, s.1 ≤ t ∧ t < s.2
structure Plain (R : List Sp) : Prop where
  up : ∀ s ∈ R, s.1 < s.2
  apart : R.Pairwise fun x y => x.2 < y.1
theorem plain_cons {a : Sp} {R : List Sp} (h : Plain (a :: R)) : a.1 < a.2 ∧ (∀ s ∈ R, a.2 < s.1) ∧ Plain R :=
  ⟨h.up a (List.mem_cons_self ..), (List.pairwise_cons.1 h.apart).1, ⟨fun s hs => h.up s (List.mem_cons_of_mem _ hs), (List.pairwise_cons.1 h.apart).2⟩⟩
theorem plain_ge {a : Sp} {R : List Sp} (h : Plain (a :: R)) {t : Int} (ht : low (a :: R) t) : a.1 ≤ t := by
  obtain ⟨s, hs, h1, h2⟩ := ht
  obtain ⟨p1, p2, p3⟩ := plain_cons h
  rcases List.mem_cons.1 hs with rfl | hs
  · exact h1
  · have := p2 s hs; omega
theorem plain_gap {a : Sp} {R : List Sp} (h : Plain (a :: R)) : ¬ low (a :: R) a.2 := by
  rintro ⟨s, hs, h1, h2⟩
  obtain ⟨p1, p2, p3⟩ := plain_cons h
  rcases List.mem_cons.1 hs with rfl | hs
  · omega
  · have := p2 s hs; omega
theorem low_cons (a : Sp) (R : List Sp) (t : Int) : low (a :: R) t ↔ (a.1 ≤ t ∧ t < a.2) ∨ low R t := by simp [low]
theorem low_app (X Y : List Sp) (t : Int) : low (X ++ Y) t ↔ low X t ∨ low Y t := by
  simp only [low, List.mem_append]
  constructor
  · rintro ⟨s, h | h, h2⟩
    · exact .inl ⟨s, h, h2⟩
    · exact .inr ⟨s, h, h2⟩
  · rintro (⟨s, h, h2⟩ | ⟨s, h, h2⟩)
    · exact ⟨s, .inl h, h2⟩
    · exact ⟨s, .inr h, h2⟩
theorem plain_tail {a : Sp} {R : List Sp} (h : Plain (a :: R)) (t : Int) : low R t ↔ low (a :: R) t ∧ a.2 ≤ t := by
  obtain ⟨p1, p2, p3⟩ := plain_cons h
  rw [low_cons]
  constructor
  · rintro ⟨s, hs, h1, h2⟩
    have := p2 s hs
    exact ⟨.inr ⟨s, hs, h1, h2⟩, by omega⟩
  · rintro ⟨h1 | h1, h2⟩
    · omega
    · exact h1
theorem plain_uniq : ∀ {R S : List Sp}, Plain R → Plain S → (∀ t, low R t ↔ low S t) → R = S
  | [], [], _, _, _ => rfl
  | [], b :: S, _, hS, h => by
    have := plain_cons hS
    exact absurd ((h b.1).2 ⟨b, List.mem_cons_self .., Int.le_refl _, this.1⟩) (fun ⟨s, hs, _⟩ => by cases hs)
  | a :: R, [], hR, _, h => by
    have := plain_cons hR
    exact absurd ((h a.1).1 ⟨a, List.mem_cons_self .., Int.le_refl _, this.1⟩) (fun ⟨s, hs, _⟩ => by cases hs)
  | a :: R, b :: S, hR, hS, h => by
    have pa := plain_cons hR
    have pb := plain_cons hS
    have h1 : a.1 = b.1 := by
      have h2 := plain_ge hS ((h a.1).1 ⟨a, List.mem_cons_self .., Int.le_refl _, pa.1⟩)
      have h3 := plain_ge hR ((h b.1).2 ⟨b, List.mem_cons_self .., Int.le_refl _, pb.1⟩)
      omega
    have h2 : a.2 = b.2 := by
      rcases Int.lt_trichotomy a.2 b.2 with h4 | h4 | h4
      · exact absurd ((h a.2).2 ⟨b, List.mem_cons_self .., by omega, h4⟩) (plain_gap hR)
      · exact h4
      · exact absurd ((h b.2).1 ⟨a, List.mem_cons_self .., by omega, h4⟩) (plain_gap hS)
    have hab : a = b := Prod.ext h1 h2
    subst hab
    rw [plain_uniq pa.2.2 pb.2.2 fun t => by rw [plain_tail hR, plain_tail hS, h t]]
def stp (R : List Sp) (s : Sp) : List Sp := match R.getLast? with
  | none => [s]
  | some l => if s.1 ≤ l.2 then R.dropLast ++ [(l.1, if s.2 > l.2 then s.2 else l.2)] else R ++ [s]
structure Mrg (P R : List Sp) : Prop where
  plain : Plain R
  same : ∀ t, low R t ↔ low P t
  from_ : ∀ x ∈ R, ∃ y ∈ P, x.1 = y.1
theorem stp_snoc (R : List Sp) (l s : Sp) : stp (R ++ [l]) s = if s.1 ≤ l.2 then R ++ [(l.1, if s.2 > l.2 then s.2 else l.2)] else R ++ [l] ++ [s] := by
  simp [stp]
theorem Mrg.step {P R : List Sp} {s : Sp} (h : Mrg P R) (hs : s.1 < s.2) (hge : ∀ y ∈ P, y.1 ≤ s.1) : Mrg (P ++ [s]) (stp R s) := by
  rcases List.eq_nil_or_concat R with rfl | ⟨R, l, rfl⟩
  · have e : stp [] s = [s] := rfl
    rw [e]
    refine ⟨⟨fun x hx => ?_, by simp⟩, fun t => ?_, fun x hx => ?_⟩
    · simp at hx; subst hx; exact hs
    · rw [low_app, ← h.same]
      constructor
      · exact .inr
      · rintro (⟨x, hx, _⟩ | h2)
        · cases hx
        · exact h2
    · simp at hx; subst hx; exact ⟨x, by simp, rfl⟩
  · rw [List.concat_eq_append] at h ⊢
    have hl : l.1 < l.2 := h.plain.up l (by simp)
    have hls : l.1 ≤ s.1 := by
      obtain ⟨y, hy, e⟩ := h.from_ l (by simp)
      rw [e]; exact hge y hy
    have hpw := List.pairwise_append.1 h.plain.apart
    rw [stp_snoc]
    split
    · rename_i hm
      generalize hmx : (if s.2 > l.2 then s.2 else l.2) = m
      have hm1 : l.2 ≤ m ∧ s.2 ≤ m ∧ (m = l.2 ∨ m = s.2) := by subst hmx; split <;> omega
      refine ⟨⟨fun x hx => ?_, ?_⟩, fun t => ?_, fun x hx => ?_⟩
      · rcases List.mem_append.1 hx with hx | hx
        · exact h.plain.up x (by simp [hx])
        · simp at hx; subst hx; show l.1 < m; omega
      · rw [List.pairwise_append]
        refine ⟨hpw.1, by simp, fun x hx y hy => ?_⟩
        simp at hy; subst hy
        exact hpw.2.2 x hx l (by simp)
      · rw [low_app, low_app, ← h.same, low_app]
        have : low [((l.1, m) : Sp)] t ↔ low [l] t ∨ low [s] t := by
          simp only [low_cons]
          constructor
          · rintro (⟨h1, h2⟩ | ⟨x, hx, _⟩)
            · by_cases h3 : t < l.2
              · exact .inl (.inl ⟨h1, h3⟩)
              · exact .inr (.inl ⟨by omega, by omega⟩)
            · cases hx
          · rintro ((⟨h1, h2⟩ | ⟨x, hx, _⟩) | (⟨h1, h2⟩ | ⟨x, hx, _⟩))
            · exact .inl ⟨by omega, by omega⟩
            · cases hx
            · exact .inl ⟨by omega, by omega⟩
            · cases hx
        rw [this, or_assoc]
      · rcases List.mem_append.1 hx with hx | hx
        · obtain ⟨y, hy, e⟩ := h.from_ x (by simp [hx])
          exact ⟨y, by simp [hy], e⟩
        · simp at hx; subst hx
          obtain ⟨y, hy, e⟩ := h.from_ l (by simp)
          exact ⟨y, by simp [hy], e⟩
    · rename_i hm
      refine ⟨⟨fun x hx => ?_, ?_⟩, fun t => ?_, fun x hx => ?_⟩
      · rcases List.mem_append.1 hx with hx | hx
        · exact h.plain.up x hx
        · simp at hx; subst hx; exact hs
      · rw [List.pairwise_append]
        refine ⟨h.plain.apart, by simp, fun x hx y hy => ?_⟩
        simp at hy; subst hy
        rcases List.mem_append.1 hx with hx | hx
        · have h1 := hpw.2.2 x hx l (by simp)
          omega
        · simp at hx; subst hx; omega
      · rw [low_app (R ++ [l]), low_app P, h.same]
      · rcases List.mem_append.1 hx with hx | hx
        · obtain ⟨y, hy, e⟩ := h.from_ x hx
          exact ⟨y, by simp [hy], e⟩
        · simp at hx; subst hx; exact ⟨x, by simp, rfl⟩
structure JoinOf (X R : List Sp) : Prop where
  plain : Plain R
  same : ∀ t, low R t ↔ low X t
  small : R.length ≤ X.length
  ends : ∀ s ∈ R, (∃ y ∈ X, s.1 = y.1) ∧ ∃ y ∈ X, s.2 = y.2
theorem JoinOf.uniq {X Y R S : List Sp} (h : JoinOf X R) (k : JoinOf Y S) (hs : ∀ t, low X t ↔ low Y t) : R = S :=
  plain_uniq h.plain k.plain fun t => by rw [h.same, k.same, hs]
def mrgF (S : List Sp) (i : Nat) : List Sp := (S.take i).foldl stp []
theorem mrgF_succ {S : List Sp} {i : Nat} {s : Sp} (h : S[i]? = some s) : mrgF S (i + 1) = stp (mrgF S i) s := by
  rw [mrgF, List.take_add_one, h]; simp [mrgF, List.foldl_append]
theorem stp_len (R : List Sp) (s : Sp) : (stp R s).length ≤ R.length + 1 := by
  rcases List.eq_nil_or_concat R with rfl | ⟨R, l, rfl⟩
  · simp [stp]
  · rw [List.concat_eq_append, stp_snoc]; split <;> simp
theorem mrgF_len {S : List Sp} : ∀ (i : Nat), i ≤ S.length → (mrgF S i).length ≤ i
  | 0, _ => by simp [mrgF]
  | i + 1, h => by
    obtain ⟨s, hs⟩ := get_some (l := S) (i := i) (by omega)
    rw [mrgF_succ hs]
    have := stp_len (mrgF S i) s
    have := mrgF_len (S := S) i (by omega)
    omega
theorem mrgF_mrg {S : List Sp} (hup : ∀ s ∈ S, s.1 < s.2) (hso : S.Pairwise fun x y => x.1 ≤ y.1) : ∀ i, i ≤ S.length → Mrg (S.take i) (mrgF S i)
  | 0, _ => ⟨⟨fun s h => by simp [mrgF] at h, by simp [mrgF]⟩, fun t => by simp [mrgF], fun x h => by simp [mrgF] at h⟩
  | i + 1, h => by
    obtain ⟨s, hs⟩ := get_some (l := S) (i := i) (by omega)
    rw [mrgF_succ hs, List.take_add_one, hs]
    refine (mrgF_mrg hup hso i (by omega)).step (hup s (List.mem_of_getElem? hs)) fun y hy => ?_
    obtain ⟨j, hj⟩ := List.mem_iff_getElem?.1 hy
    rw [List.getElem?_take] at hj
    split at hj
    · rename_i hji
      have h1 := lt_of_get hs
      have h2 := lt_of_get hj
      have := List.pairwise_iff_getElem.1 hso j i h2 h1 hji
      rw [List.getElem?_eq_getElem h2] at hj
      rw [List.getElem?_eq_getElem h1] at hs
      cases hj; cases hs; exact this
    · cases hj
theorem stp_to {R P : List Sp} {s : Sp} (h : ∀ x ∈ R, ∃ y ∈ P, x.2 = y.2) : ∀ x ∈ stp R s, ∃ y ∈ P ++ [s], x.2 = y.2 := by
  intro x hx
  rcases List.eq_nil_or_concat R with rfl | ⟨R, l, rfl⟩
  · simp [stp] at hx; subst hx; exact ⟨x, by simp, rfl⟩
  · rw [List.concat_eq_append] at h hx
    rw [stp_snoc] at hx
    have hl := h l (by simp)
    obtain ⟨y, hy, e⟩ := hl
    split at hx
    · rcases List.mem_append.1 hx with hx | hx
      · obtain ⟨y, hy, e⟩ := h x (by simp [hx]); exact ⟨y, by simp [hy], e⟩
      · simp at hx; subst hx
        simp only
        split
        · exact ⟨s, by simp, rfl⟩
        · exact ⟨y, by simp [hy], e⟩
    · rcases List.mem_append.1 hx with hx | hx
      · obtain ⟨y, hy, e⟩ := h x hx; exact ⟨y, by simp [hy], e⟩
      · simp at hx; subst hx; exact ⟨x, by simp, rfl⟩
theorem mrgF_to {S : List Sp} : ∀ (i : Nat), i ≤ S.length → ∀ x ∈ mrgF S i, ∃ y ∈ S.take i, x.2 = y.2
  | 0, _, x, hx => by simp [mrgF] at hx
  | i + 1, h, x, hx => by
    obtain ⟨s, hs⟩ := get_some (l := S) (i := i) (by omega)
    rw [mrgF_succ hs] at hx
    rw [List.take_add_one, hs]
    exact stp_to (mrgF_to i (by omega)) x hx
def up (s : Sp) : Bool := decide (s.2 ≤ s.1)
theorem join_of {X S : List Sp} (hp : S.Perm (X.filter fun x => !up x)) (hso : S.Pairwise fun x y => x.1 ≤ y.1) : JoinOf X (mrgF S S.length) := by
  have hmem : ∀ s, s ∈ S ↔ s ∈ X ∧ s.1 < s.2 := fun s => by
    rw [hp.mem_iff, List.mem_filter]; simp [up]
  have hup : ∀ s ∈ S, s.1 < s.2 := fun s hs => ((hmem s).1 hs).2
  have hm := mrgF_mrg hup hso S.length (Nat.le_refl _)
  rw [List.take_length] at hm
  refine ⟨hm.plain, fun t => ?_, ?_, fun s hs => ⟨?_, ?_⟩⟩
  · rw [hm.same]
    constructor
    · rintro ⟨s, hs, h1⟩; exact ⟨s, ((hmem s).1 hs).1, h1⟩
    · rintro ⟨s, hs, h1, h2⟩; exact ⟨s, (hmem s).2 ⟨hs, by omega⟩, h1, h2⟩
  · have h1 := mrgF_len (S := S) S.length (Nat.le_refl _)
    have h2 := hp.length_eq
    have h3 := List.length_filter_le (fun x => !up x) X
    omega
  · obtain ⟨y, hy, e⟩ := hm.from_ s hs
    exact ⟨y, ((hmem y).1 hy).1, e⟩
  · obtain ⟨y, hy, e⟩ := mrgF_to S.length (Nat.le_refl _) s hs
    rw [List.take_length] at hy
    exact ⟨y, ((hmem y).1 hy).1, e⟩
end Go.Proofs.YtbhamhhjicehaaaGreatDoor.Wire

/- wire.Join: what it comes to. -/
namespace Go.Proofs.YtbhamhhjicehaaaGreatDoor.Wire
set_option linter.unusedSimpArgs false
set_option linter.unusedVariables false
open Go Go.AX Go.Proofs Ty Go.Proofs.YtbhamhhjicehaaaGreatDoor.Srt Go.Proofs.YtbhamhhjicehaaaGreatDoor.CatP
set_option maxHeartbeats 4000000
set_option maxRecDepth 10000

theorem up_c (x : Sp) (H : AH) : ACalls Tryz.prog 71 ([] ++ [Value.agg (encP x).toArray] ++ ([] : List Value)).toArray H (fun v H' => v = .bool (up x) ∧ H = H') := by
  obtain ⟨a, b⟩ := x
  show ACalls _ _ #[.agg #[.int .i64 a, .int .i64 b]] _ _
  refine ACalls.enter2 Tryz.func71 rfl Tryz.ntmps71 Tryz.results71 (by simp) ?_; simp (dsimp := false) (maxSteps := 4000000) only [go_sem]
  refine AllB.mk fun b1 h_b1 => ?_; have hn_b1 := h_b1; (try simp only [fresh_add, fresh_set, ne_eq] at hn_b1); have hr_b1 := hn_b1; (try simp only [@eq_comm Nat b1] at hr_b1); simp (dsimp := false) (maxSteps := 4000000) only [hn_b1, hr_b1, go_sem]
  exact ⟨H, (AH.le_add (AH.le_refl _) ((by simp only [fresh_add, fresh_set, ne_eq, hn_b1, not_false_eq_true, and_self] : Fresh _ b1).2)), (by first | exact ⟨rfl, rfl⟩ | rfl)⟩
theorem _root_.Go.AX.Keep.readd {B : AH} {b : Nat} {k k' : ABlk} : Keep (B.add b k) (B.add b k') (· = b) := ⟨rfl, fun b' hb _ => by rw [find_add, find_add, if_neg hb, if_neg hb]⟩
theorem encP_mk (a b : Int) : encP (a, b) = [.int .i64 a, .int .i64 b] := rfl
theorem Join_c (T : List Ls) (base : Option Addr) (cap : Nat) (H : AH) (hT : CatIn H base cap T) (hb : (tot T T.length).length < 100000) :
    ACalls Tryz.prog 34 #[.slice base T.length cap] H (fun v H' => ∃ R b c, v = .slice b R.length c ∧ JoinOf (tot T T.length) R ∧ SlcIn H' 2 b c (R.map encP) ∧ Keep H H' fun _ => False) := by
  generalize hX : tot T T.length = X at hb
  refine ACalls.enter2 Tryz.func34 rfl Tryz.ntmps34 Tryz.results34 (by simp) ?_; simp (dsimp := false) (maxSteps := 4000000) only [encP_len, encP_scal, encP_z, encP_take, go_sem]
  refine (Concat_c T base cap H hT (by rw [hX]; omega)).mono ?_; rintro _ A1 ⟨b1, c1, rfl, hO1, hK1⟩
  rw [hX] at hO1 ⊢
  simp (dsimp := false) (maxSteps := 4000000) only [encP_len, encP_scal, encP_z, encP_take, go_sem]
  refine (DeleteFunc_c (p := up) (fid := 71) hO1 rfl (by kernel_rfl) up_c).mono ?_; rintro _ A2 ⟨rfl, hO2, hK2⟩
  have hK12 := hK1.ow hK2 fun b ⟨a, ha, e⟩ => e ▸ hO1.fresh a ha
  have hlf : (X.filter fun x => !up x).length ≤ X.length := List.length_filter_le _ _
  simp (dsimp := false) (maxSteps := 4000000) only [encP_len, encP_scal, encP_z, encP_take, go_sem]
  refine (Sort_o hO2 rfl (by omega)).mono ?_; rintro _ A3 ⟨rfl, S, hp, hso, hO3, hK3⟩
  have hK := hK12.ow hK3 fun b ⟨a, ha, e⟩ => e ▸ hO2.fresh a ha
  have hJ := join_of hp hso
  have hSl := hp.length_eq
  rw [← hSl]
  have hS := hO3.slc
  clear hO1 hK1 hO2 hK2 hK12 hK3 hT hX hO3
  simp (dsimp := false) (maxSteps := 4000000) only [encP_len, encP_scal, encP_z, encP_take, go_sem]
  refine AWp.loopr (ι := Nat × Option Addr × Nat) (fun x A => x.1 ≤ S.length ∧ OwnS A3 A 85 2 x.2.1 x.2.2 ((mrgF S x.1).map encP) ∧ (Keep A3 A fun _ => False) ∧ (mrgF S x.1 ≠ [] → ∃ (B : AH) (b bs : Nat), x.2.1 = some ⟨b, 0, none⟩ ∧ A = B.add b (.cells ((mrgF S x.1).map encP).flatten 85 bs) ∧ x.2.2 * 2 ≤ bs ∧ Fresh A3 b))
    (fun x => [(15, .int .i64 x.1), (14, .int .i64 S.length), (13, .slice b1 S.length c1), (4, .slice x.2.1 (mrgF S x.1).length x.2.2)]) (fun x => S.length - x.1) (0, none, 0) A3
    ⟨by simp, OwnS.nil, Keep.refl, fun h => (h rfl).elim⟩ (FrLe.of_lks ?_) (AH.le_refl _) fun x A hi Q again out => ?_
  · simp (dsimp := false) (maxSteps := 4000000) only [encP_len, encP_scal, encP_z, encP_take, go_sem]
    rfl
  obtain ⟨i, bo, co⟩ := x
  obtain ⟨hi, hO, hKA, hex⟩ := hi
  dsimp only at hi hO hex again ⊢
  have hml := mrgF_len i hi
  by_cases h : (i : Int) < S.length
  · obtain ⟨s, hs⟩ := get_some (l := S) (i := i) (by omega)
    have hSA := hS.keep hKA fun _ _ h => h
    obtain ⟨b0, o0, rfl, hrow, _⟩ := hSA.get (map_get (f := encP) hs)
    have ee := i64_succ (i := i) (by omega)
    have hst := mrgF_succ hs
    have hfin : ∀ bo' co' A', OwnS A3 A' 85 2 bo' co' ((mrgF S (i + 1)).map encP) → (Keep A3 A' fun _ => False) → ∃ A'', A''.le A' ∧ (OwnS A3 A'' 85 2 bo' co' ((mrgF S (i + 1)).map encP) ∧ (Keep A3 A'' fun _ => False) ∧ (mrgF S (i + 1) ≠ [] → ∃ (B : AH) (b bs : Nat), bo' = some ⟨b, 0, none⟩ ∧ A'' = B.add b (.cells ((mrgF S (i + 1)).map encP).flatten 85 bs) ∧ co' * 2 ≤ bs ∧ Fresh A3 b)) := fun bo' co' A' hO' hK' => by
      rcases hO'.at_ with ⟨_, h0, _⟩ | ⟨b, bs, h1, h2, h3, h4⟩
      · exact ⟨A', AH.le_refl _, hO', hK', fun hne => absurd (List.map_eq_nil_iff.1 h0) hne⟩
      · subst h1
        exact ⟨_, le_at h2, hO'.keep (Keep.top1 h2) fun _ _ h => h, hK'.trans (Keep.top1 h2), fun _ => ⟨A'.del b, b, bs, rfl, rfl, h3, h4⟩⟩
    simp (dsimp := false) (maxSteps := 4000000) only [h, hrow, encP_len, encP_scal, encP_z, encP_take, go_sem]
    refine AllB.mk fun b6 h_b6 => ?_
    obtain ⟨s1, s2⟩ := s
    by_cases hne : mrgF S i = []
    · have e0 : (mrgF S i).length = 0 := by rw [hne]; rfl
      have hn0 : ¬ (0 : Int) < ((mrgF S i).length : Int) := by omega
      simp (dsimp := false) (maxSteps := 4000000) only [encP_len, encP_scal, encP_z, encP_take, go_sem]
      refine AWp.gen [.pu, .pu, .pu, .pu, .pu, .pu, .pu, .pu, .rd, .pu, .rd, .pu, .pu] [0, 1, 3, 7, 7, 23, 63, 127, 255, 7, 519, 2047, 4095] 0 (_) mixed (by kernel_rfl) (AH.le_refl _) ?_
      simp (dsimp := false) (maxSteps := 4000000) only [hn0, encP_mk, encP_len, encP_scal, encP_z, encP_take, go_sem]
      refine AllB.mk fun b50 h_b50 => ?_
      simp (dsimp := false) (maxSteps := 4000000) only [encP_len, encP_scal, encP_z, encP_take, go_sem]
      refine APD.growW (x := .slice (some ⟨b50, 0, none⟩) 1 1) (R' := [encP (s1, s2)]) (m := 1) ((hO.added h_b6).added h_b50) ((hKA.nw h_b6).nw h_b50).all se_36 rfl (by decide) (by rw [Tryz.underlying36]; rfl) (by simp) rfl rfl (by rw [srow_some, row_add_self]; rfl) (by simp [encP]) (by simp [encP, scal]) (by omega) fun base2 cap2 A' hO' hK' hN' => ?_
      refine ⟨_, AH.le_refl _, ?_⟩
      simp (dsimp := false) (maxSteps := 4000000) only [ee, encP_len, encP_scal, encP_z, encP_take, go_sem]
      have hK2 := ((hKA.nw h_b6).nw h_b50).ow hK' fun b ⟨a, ha, e⟩ => e ▸ hO.fresh a ha
      have he : (mrgF S i).map encP ++ [encP (s1, s2)] = (mrgF S (i + 1)).map encP := by rw [hst, hne]; rfl
      rw [he] at hO'
      obtain ⟨A'', hle, hV1, hV2, hV3⟩ := hfin base2 cap2 A' hO' hK2
      refine again (i + 1, base2, cap2) _ _ _ ⟨by simp only; omega, hV1, hV2, hV3⟩ (FrLe.of_lks ?_) hle (by simp only; omega)
      have hl1 : (mrgF S (i + 1)).length = (mrgF S i).length + 1 := by rw [hst, hne]; rfl
      rw [hl1]
      simp (dsimp := false) (maxSteps := 4000000) only [encP_len, encP_scal, encP_z, encP_take, go_sem]
    · obtain ⟨B, b, bs, rfl, rfl, hbs, hfr⟩ := hex hne
      obtain ⟨R, l, hRl⟩ : ∃ R l, mrgF S i = R ++ [l] := by
        rcases List.eq_nil_or_concat (mrgF S i) with h | ⟨R, l, h⟩
        · exact absurd h hne
        · exact ⟨R, l, by rw [h, List.concat_eq_append]⟩
      rw [hRl] at hO hml hne hst hrow ⊢
      obtain ⟨l1, l2⟩ := l
      have hn6 : ¬ b6 = b := by rw [hRl] at h_b6; exact h_b6.ne_find (find_add_self _ _ _)
      have hr6 : ¬ b = b6 := fun e => hn6 e.symm
      have hlen : (R ++ [(l1, l2)]).length = R.length + 1 := by simp
      have hle := hO.le
      rw [List.length_map, hlen] at hle
      have hn0 : (0 : Int) < ((R.length + 1 : Nat) : Int) := by omega
      have em : IntKind.i64.wrap (((R.length + 1 : Nat) : Int) - 1) = (R.length : Int) := by rw [i64_eq (by omega) (by omega)]; omega
      have h0 : (0 : Int) ≤ (R.length : Int) := by omega
      have h1 : (R.length : Int) < ((R.length + 1 : Nat) : Int) := by omega
      have hS2 : SlcIn (B.add b (.cells ((R ++ [(l1, l2)]).map encP).flatten 85 bs)) 2 (some ⟨b, 0, none⟩) co ((R ++ [(l1, l2)]).map encP) := SlcIn.own (rowsP _) (by rw [List.length_map, hlen]; omega) (by rw [List.length_map, hlen]; omega)
      have hlast : (R ++ [(l1, l2)])[R.length]? = some (l1, l2) := by simp
      have q1 := hS2.rd b 0 rfl R.length 1 _ _ (map_get (f := encP) hlast) rfl
      rw [Nat.zero_add, rd_add_self] at q1
      rw [hlen]
      simp (dsimp := false) (maxSteps := 4000000) only [encP_len, encP_scal, encP_z, encP_take, go_sem]
      refine AWp.gen [.pu, .pu, .pu, .pu, .pu, .pu, .pu, .pu, .rd, .pu, .rd, .pu, .pu] [0, 1, 3, 7, 7, 23, 63, 127, 255, 7, 519, 2047, 4095] 0 (_) mixed (by kernel_rfl) (AH.le_refl _) ?_
      rw [stp_snoc] at hst
      by_cases hm : s1 ≤ l2
      · rw [if_pos hm] at hst
        generalize hmx : (if s2 > l2 then s2 else l2) = m at hst
        have hfl : ((R ++ [(l1, l2)]).map encP).flatten.length = (R.length + 1) * 2 := by rw [flatP_len, hlen]
        have hset : ((R ++ [(l1, l2)]).map encP).flatten.set (R.length * 2 + 1) (.int .i64 m) = ((R ++ [(l1, m)]).map encP).flatten := by
          rw [flat_set (rowsP _) R.length 1 (encP (l1, l2)) _ (map_get hlast) (by omega), ← show encP (l1, m) = (encP (l1, l2)).set 1 (.int .i64 m) from rfl, ← List.map_set]
          congr 2
          rw [List.set_append_right _ _ (by omega), Nat.sub_self]; rfl
        have k2 : R.length * 2 + 1 + 1 ≤ (R.length + 1) * 2 := by omega
        have k3 : (R.length + 1) * 2 ≤ bs := by omega
        simp (dsimp := false) (maxSteps := 4000000) only [hn0, em, h0, h1, q1, hn6, hr6, encP_mk, hm, encP_len, encP_scal, encP_z, encP_take, go_sem]
        refine AWp.gen [.pu, .pu, .pu, .pu, .pu, .pu, .pu, .pu, .rd, .pu, .rd, .pu, .pu, .pu, .ch] [0, 0, 2, 0, 0, 16, 56, 120, 248, 0, 512, 2040, 4095, 8191, 16383] 0 (_) mixed (by kernel_rfl) (AH.le_refl _) ?_
        simp (dsimp := false) (maxSteps := 4000000) only [em, h0, h1, q1, hn6, hr6, encP_mk, hmx, AH.le_refl, hfl, k2, k3, hset, ee, encP_len, encP_scal, encP_z, encP_take, go_sem]
        have hst' : (mrgF S (i + 1)) = R ++ [(l1, m)] := hst
        have hml2 := mrgF_len (i + 1) (show i + 1 ≤ S.length by omega)
        have hO' : OwnS A3 (B.add b (.cells ((R ++ [(l1, m)]).map encP).flatten 85 bs)) 85 2 (some ⟨b, 0, none⟩) co ((R ++ [(l1, m)]).map encP) :=
          ⟨rowsP _, by rw [List.length_map]; simp; omega, by rw [List.length_map]; simp; omega, .inr ⟨b, bs, rfl, find_add_self _ _ _, hbs, hfr⟩⟩
        refine again (i + 1, some ⟨b, 0, none⟩, co) _ (B.add b (.cells ((R ++ [(l1, m)]).map encP).flatten 85 bs)) _ ⟨by simp only; omega, by simp only [hst']; exact hO', hKA.ow Keep.readd fun b' e => e ▸ hfr, fun _ => ⟨B, b, bs, rfl, by simp only [hst'], hbs, hfr⟩⟩ (FrLe.of_lks ?_) (AH.le_add (AH.le_refl _) ?_) (by simp only; omega)
        · rw [hst']
          simp (dsimp := false) (maxSteps := 4000000) only [List.length_append, encP_len, encP_scal, encP_z, encP_take, go_sem]
        · have h2 := h_b6.2
          rw [find_add_ne _ hr6] at h2 ⊢
          exact h2
      · rw [if_neg hm] at hst
        simp (dsimp := false) (maxSteps := 4000000) only [hn0, em, h0, h1, q1, hn6, hr6, encP_mk, hm, encP_len, encP_scal, encP_z, encP_take, go_sem]
        refine AllB.mk fun b50 h_b50 => ?_
        simp (dsimp := false) (maxSteps := 4000000) only [encP_len, encP_scal, encP_z, encP_take, go_sem]
        rw [hRl] at h_b6 hKA
        refine APD.growW (x := .slice (some ⟨b50, 0, none⟩) 1 1) (R' := [encP (s1, s2)]) (m := 1) ((hO.added h_b6).added h_b50) ((hKA.nw h_b6).nw h_b50).all se_36 rfl (by decide) (by rw [Tryz.underlying36]; rfl) (by simp) rfl rfl (by rw [srow_some, row_add_self]; rfl) (by simp [encP]) (by simp [encP, scal]) (by omega) fun base2 cap2 A' hO' hK' hN' => ?_
        refine ⟨_, AH.le_refl _, ?_⟩
        simp (dsimp := false) (maxSteps := 4000000) only [ee, encP_len, encP_scal, encP_z, encP_take, go_sem]
        have hK2 := ((hKA.nw h_b6).nw h_b50).ow hK' fun b ⟨a, ha, e⟩ => e ▸ hO.fresh a ha
        have he : (R ++ [(l1, l2)]).map encP ++ [encP (s1, s2)] = (mrgF S (i + 1)).map encP := by rw [hst, List.map_append (l₁ := R ++ [(l1, l2)])]; rfl
        rw [he] at hO'
        obtain ⟨A'', hle2, hV1, hV2, hV3⟩ := hfin base2 cap2 A' hO' hK2
        refine again (i + 1, base2, cap2) _ _ _ ⟨by simp only; omega, hV1, hV2, hV3⟩ (FrLe.of_lks ?_) hle2 (by simp only; omega)
        have hl1 : (mrgF S (i + 1)).length = R.length + 1 + 1 := by rw [hst]; simp
        rw [hl1]
        simp (dsimp := false) (maxSteps := 4000000) only [encP_len, encP_scal, encP_z, encP_take, go_sem]
  · obtain rfl : i = S.length := by omega
    simp (dsimp := false) (maxSteps := 4000000) only [h, encP_len, encP_scal, encP_z, encP_take, go_sem]
    refine out _ _ _ (by simp) ?_
    simp (dsimp := false) (maxSteps := 4000000) only [encP_len, encP_scal, encP_z, encP_take, go_sem]
    have hle := hO.le
    rw [List.length_map] at hle
    refine (Clip_c hle _).mono ?_; rintro _ _ ⟨rfl, rfl⟩
    simp (dsimp := false) (maxSteps := 4000000) only [encP_len, encP_scal, encP_z, encP_take, go_sem]
    exact ⟨A, AH.le_refl _, mrgF S S.length, bo, (mrgF S S.length).length, rfl, hJ, hO.slc.recap (by rw [List.length_map]; exact Nat.le_refl _), hK.trans hKA⟩
end Go.Proofs.YtbhamhhjicehaaaGreatDoor.Wire

/- wire: Low, High, Meet, Same, few, near. -/
namespace Go.Proofs.YtbhamhhjicehaaaGreatDoor.Wire
set_option linter.unusedSimpArgs false
set_option linter.unusedVariables false
open Go Go.AX Go.Proofs Ty Go.Proofs.YtbhamhhjicehaaaGreatDoor.Srt Go.Proofs.YtbhamhhjicehaaaGreatDoor.CatP
set_option maxHeartbeats 4000000
set_option maxRecDepth 10000

def lowP (t : Int) (s : Sp) : Bool := decide (s.1 ≤ t) && decide (t < s.2)
def lowB (X : List Sp) (t : Int) : Bool := X.any (lowP t)
theorem lowB_iff {X : List Sp} {t : Int} : lowB X t = true ↔ low X t := by
  simp [lowB, low, lowP, List.any_eq_true]
theorem lowB_not {X : List Sp} {t : Int} : lowB X t = false ↔ ¬ low X t := by
  rw [← lowB_iff]; simp
theorem high1_c (x : Sp) (t : Int) (b : Nat) (H : AH) (hb : H.rd ⟨b, 0, none⟩ = some (.int .i64 t)) : ACalls Tryz.prog 36 ([] ++ [Value.agg (encP x).toArray] ++ [Value.pointer (some ⟨b, 0, none⟩)]).toArray H (fun v H' => v = .bool (lowP t x) ∧ H = H') := by
  obtain ⟨x, y⟩ := x
  show ACalls _ _ #[.agg #[.int .i64 x, .int .i64 y], .pointer (some ⟨b, 0, none⟩)] _ _
  refine ACalls.enter2 Tryz.func36 rfl Tryz.ntmps36 Tryz.results36 (by simp) ?_; simp (dsimp := false) (maxSteps := 4000000) only [go_sem]
  refine AllB.mk fun b2 h_b2 => ?_; have hn_b2 := h_b2; (try simp only [fresh_add, fresh_set, ne_eq] at hn_b2); have hr_b2 := hn_b2; (try simp only [@eq_comm Nat b2] at hr_b2); simp (dsimp := false) (maxSteps := 4000000) only [hn_b2, hr_b2, go_sem]
  have nr_hb := (Fresh.ne_rd (by simp only [hn_b2] : Fresh H b2) hb)
  by_cases h : x ≤ t
  · simp (dsimp := false) (maxSteps := 4000000) only [hb, nr_hb, h, hn_b2, hr_b2, go_sem]
    exact ⟨H, (AH.le_add (AH.le_refl _) ((by simp only [fresh_add, fresh_set, ne_eq, hn_b2, not_false_eq_true, and_self] : Fresh _ b2).2)), (by first | exact ⟨by simp [lowP, h], rfl⟩ | rfl)⟩
  · simp (dsimp := false) (maxSteps := 4000000) only [hb, nr_hb, h, hn_b2, hr_b2, go_sem]
    exact ⟨H, (AH.le_add (AH.le_refl _) ((by simp only [fresh_add, fresh_set, ne_eq, hn_b2, not_false_eq_true, and_self] : Fresh _ b2).2)), (by first | exact ⟨by simp [lowP, h], rfl⟩ | rfl)⟩
theorem High_c (L : List Sp) (t : Int) (base : Option Addr) (cap : Nat) (H : AH) (hs : SlcIn H 2 base cap (L.map encP)) :
    ACalls Tryz.prog 11 #[.slice base L.length cap, .int .i64 t] H (fun v H' => v = .bool (!lowB L t) ∧ H = H') := by
  refine ACalls.enter2 Tryz.func11 rfl Tryz.ntmps11 Tryz.results11 (by simp) ?_; simp (dsimp := false) (maxSteps := 4000000) only [go_sem]
  refine AllB.mk fun b3 h_b3 => ?_; have hn_b3 := h_b3; (try simp only [fresh_add, fresh_set, ne_eq] at hn_b3); have hr_b3 := hn_b3; (try simp only [@eq_comm Nat b3] at hr_b3); simp (dsimp := false) (maxSteps := 4000000) only [hn_b3, hr_b3, go_sem]
  refine (Contains_g (g := lowP t) (fid := 36) (caps := [.pointer (some ⟨b3, 0, none⟩)]) (hs.add h_b3) rfl (by kernel_rfl) fun x _ => high1_c x t b3 _ (by rw [rd_add_self]; rfl)).mono ?_; rintro _ _ ⟨rfl, rfl⟩
  simp (dsimp := false) (maxSteps := 4000000) only [hn_b3, hr_b3, go_sem]
  exact ⟨H, (AH.le_add (AH.le_refl _) ((by simp only [fresh_add, fresh_set, ne_eq, hn_b3, not_false_eq_true, and_self] : Fresh _ b3).2)), (by first | exact ⟨rfl, rfl⟩ | rfl)⟩
def mt (x y : Sp) : Bool := decide ((if y.1 > x.1 then y.1 else x.1) < (if y.2 < x.2 then y.2 else x.2))
def meetB (X Y : List Sp) : Bool := X.any fun x => Y.any fun y => mt x y
theorem mt_iff {x y : Sp} : mt x y = true ↔ (x.1 < x.2 ∧ y.1 ≤ x.1 ∧ x.1 < y.2) ∨ (y.1 < y.2 ∧ x.1 ≤ y.1 ∧ y.1 < x.2) := by
  unfold mt
  rw [decide_eq_true_eq]
  split <;> split <;> omega
theorem meetB_iff {X Y : List Sp} : meetB X Y = true ↔ ∃ t, low X t ∧ low Y t := by
  simp only [meetB, List.any_eq_true, mt_iff, low]
  constructor
  · rintro ⟨x, hx, y, hy, h | h⟩
    · exact ⟨x.1, ⟨x, hx, by omega, by omega⟩, ⟨y, hy, by omega, by omega⟩⟩
    · exact ⟨y.1, ⟨x, hx, by omega, by omega⟩, ⟨y, hy, by omega, by omega⟩⟩
  · rintro ⟨t, ⟨x, hx, h1, h2⟩, ⟨y, hy, h3, h4⟩⟩
    exact ⟨x, hx, y, hy, by omega⟩
theorem Meet_c (X Y : List Sp) (b1 : Option Addr) (c1 : Nat) (b2 : Option Addr) (c2 : Nat) (H : AH) (h1 : SlcIn H 2 b1 c1 (X.map encP)) (h2 : SlcIn H 2 b2 c2 (Y.map encP)) :
    ACalls Tryz.prog 12 #[.slice b1 X.length c1, .slice b2 Y.length c2] H (fun v H' => v = .bool (meetB X Y) ∧ H = H') := by
  have hb1 := h1.big
  have hb2 := h2.big
  simp only [List.length_map] at hb1 hb2
  refine ACalls.enter2 Tryz.func12 rfl Tryz.ntmps12 Tryz.results12 (by simp) ?_; simp (dsimp := false) (maxSteps := 4000000) only [encP_len, encP_scal, encP_z, encP_take, go_sem]
  refine AWp.loopo (ι := Nat) (fun i => i ≤ X.length ∧ ∀ j, j < i → ∀ s, X[j]? = some s → (Y.any fun y => mt s y) = false) (fun i => [(11, .int .i64 i), (10, .int .i64 X.length), (9, .slice b1 X.length c1), (0, .slice b1 X.length c1), (1, .slice b2 Y.length c2)])
    (fun _ => H) (fun i => X.length - i) 0 ⟨by omega, fun j hj => by omega⟩ (FrLe.of_lks ?_) (AH.le_refl _) fun i hi Q again out => ?_
  · simp (dsimp := false) (maxSteps := 4000000) only [encP_len, encP_scal, encP_z, encP_take, go_sem]
  obtain ⟨hi, hall⟩ := hi
  by_cases h : (i : Int) < X.length
  · obtain ⟨x, hx⟩ := get_some (l := X) (i := i) (by omega)
    obtain ⟨bb, o, rfl, hrow, _⟩ := h1.get (map_get (f := encP) hx)
    have ee := i64_succ (i := i) (by omega)
    
    simp (dsimp := false) (maxSteps := 4000000) only [h, hrow, encP_len, encP_scal, encP_z, encP_take, go_sem]
    refine AllB.mk fun b6 h_b6 => ?_; have hn_b6 := h_b6; (try simp only [fresh_add, fresh_set, ne_eq] at hn_b6); have hr_b6 := hn_b6; (try simp only [@eq_comm Nat b6] at hr_b6); simp (dsimp := false) (maxSteps := 4000000) only [encP_len, encP_scal, encP_z, encP_take, hn_b6, hr_b6, go_sem]
    obtain ⟨x1, x2⟩ := x
    refine AWp.loopo (ι := Nat) (fun j => j ≤ Y.length ∧ ∀ q, q < j → ∀ s, Y[q]? = some s → mt (x1, x2) s = false) (fun j => [(17, .int .i64 j), (16, .int .i64 Y.length), (15, .slice b2 Y.length c2), (6, .pointer (some ⟨b6, 0, none⟩)), (11, .int .i64 i), (10, .int .i64 X.length), (9, .slice (some ⟨bb, o, none⟩) X.length c1), (0, .slice (some ⟨bb, o, none⟩) X.length c1), (1, .slice b2 Y.length c2)])
      (fun _ => H.add b6 (.cells (encP (x1, x2)) 85 2)) (fun j => Y.length - j) 0 ⟨by omega, fun j hj => by omega⟩ (FrLe.of_lks ?_) (AH.le_refl _) fun j hj Q2 again2 out2 => ?_
    · simp (dsimp := false) (maxSteps := 4000000) only [encP_len, encP_scal, encP_z, encP_take, hn_b6, hr_b6, go_sem]
    obtain ⟨hj, hpre⟩ := hj
    by_cases hjl : (j : Int) < Y.length
    · obtain ⟨y, hy⟩ := get_some (l := Y) (i := j) (by omega)
      obtain ⟨bb2, o2, rfl, hrow2, _⟩ := h2.get (map_get (f := encP) hy)
      have e2 := i64_succ (i := j) (by omega)
      have nr6 := h_b6.ne_row hrow2
      
      simp (dsimp := false) (maxSteps := 4000000) only [hjl, hrow2, nr6, encP_len, encP_scal, encP_z, encP_take, hn_b6, hr_b6, go_sem]
      refine AllB.mk fun b8 h_b8 => ?_; have hn_b8 := h_b8; (try simp only [fresh_add, fresh_set, ne_eq] at hn_b8); have hr_b8 := hn_b8; (try simp only [@eq_comm Nat b8] at hr_b8); simp (dsimp := false) (maxSteps := 4000000) only [encP_len, encP_scal, encP_z, encP_take, hn_b6, hr_b6, hn_b8, hr_b8, go_sem]
      obtain ⟨y1, y2⟩ := y
      cases hm : mt (x1, x2) (y1, y2) with
      | true =>
        have hm' := of_decide_eq_true hm
        simp only at hm'
        have e : meetB X Y = true := List.any_eq_true.2 ⟨_, List.mem_of_getElem? hx, List.any_eq_true.2 ⟨_, List.mem_of_getElem? hy, hm⟩⟩
        simp (dsimp := false) (maxSteps := 4000000) only [encP_mk, hm', encP_len, encP_scal, encP_z, encP_take, hn_b6, hr_b6, hn_b8, hr_b8, go_sem]
        refine out2 _ _ _ (by simp) ?_
        simp (dsimp := false) (maxSteps := 4000000) only [encP_len, encP_scal, encP_z, encP_take, hn_b6, hr_b6, hn_b8, hr_b8, go_sem]
        refine out _ _ _ (by simp) ?_
        simp (dsimp := false) (maxSteps := 4000000) only [encP_len, encP_scal, encP_z, encP_take, hn_b6, hr_b6, hn_b8, hr_b8, go_sem]
        exact ⟨H, (AH.le_add (AH.le_add (AH.le_refl _) ((by simp only [encP_len, encP_scal, encP_z, encP_take, fresh_add, fresh_set, ne_eq, hn_b6, not_false_eq_true, and_self] : Fresh _ b6).2)) ((by simp only [encP_len, encP_scal, encP_z, encP_take, fresh_add, fresh_set, ne_eq, hn_b8, not_false_eq_true, and_self] : Fresh _ b8).2)), (by first | exact ⟨by rw [e], rfl⟩ | rfl)⟩
      | false =>
        have hm' := of_decide_eq_false hm
        simp only at hm'
        simp (dsimp := false) (maxSteps := 4000000) only [encP_mk, hm', e2, encP_len, encP_scal, encP_z, encP_take, hn_b6, hr_b6, hn_b8, hr_b8, go_sem]
        refine again2 (j + 1) _ _ ⟨by omega, fun q hq m hmq => ?_⟩ (FrLe.of_lks (by simp (dsimp := false) (maxSteps := 4000000) only [encP_len, encP_scal, encP_z, encP_take, hn_b6, hr_b6, hn_b8, hr_b8, go_sem])) (AH.le_add (AH.le_refl _) h_b8.2) (by omega)
        by_cases hqj : q = j
        · subst hqj; rw [hy] at hmq; cases hmq; exact hm
        · exact hpre q (by omega) m hmq
      
    · simp (dsimp := false) (maxSteps := 4000000) only [hjl, encP_len, encP_scal, encP_z, encP_take, hn_b6, hr_b6, go_sem]
      refine out2 _ _ _ (by simp) ?_
      simp (dsimp := false) (maxSteps := 4000000) only [ee, encP_len, encP_scal, encP_z, encP_take, hn_b6, hr_b6, go_sem]
      refine again (i + 1) _ _ ⟨by omega, fun q hq m hmq => ?_⟩ (FrLe.of_lks (by simp (dsimp := false) (maxSteps := 4000000) only [encP_len, encP_scal, encP_z, encP_take, hn_b6, hr_b6, go_sem])) (AH.le_add (AH.le_refl _) h_b6.2) (by omega)
      by_cases hqi : q = i
      · subst hqi; rw [hx] at hmq; cases hmq
        rw [List.any_eq_false]
        intro y hy
        obtain ⟨p, hp⟩ := List.mem_iff_getElem?.1 hy
        rw [hpre p (by have := lt_of_get hp; omega) y hp]; simp
      · exact hall q (by omega) m hmq
    
  · have e : meetB X Y = false := by
      rw [meetB, List.any_eq_false]
      intro s hx
      obtain ⟨j, hj⟩ := List.mem_iff_getElem?.1 hx
      rw [hall j (by have := lt_of_get hj; omega) s hj]; simp
    simp (dsimp := false) (maxSteps := 4000000) only [h, encP_len, encP_scal, encP_z, encP_take, go_sem]
    refine out _ _ _ (by simp) ?_
    simp (dsimp := false) (maxSteps := 4000000) only [encP_len, encP_scal, encP_z, encP_take, go_sem]
    exact ⟨H, (AH.le_refl _), (by first | exact ⟨by rw [e], rfl⟩ | rfl)⟩
def okSp (s : Sp) : Bool := decide (-1099511627776 ≤ s.1) && decide (s.1 ≤ 1099511627776) && decide (-1099511627776 ≤ s.2) && decide (s.2 ≤ 1099511627776)
end Go.Proofs.YtbhamhhjicehaaaGreatDoor.Wire

/- wire's reference: Join, in plain words. -/
namespace Go.Proofs.YtbhamhhjicehaaaGreatDoor.Wire
set_option linter.unusedSimpArgs false
set_option linter.unusedVariables false
open Go Go.AX Go.Proofs Ty Go.Proofs.YtbhamhhjicehaaaGreatDoor.Srt Go.Proofs.YtbhamhhjicehaaaGreatDoor.CatP
set_option maxHeartbeats 4000000
set_option maxRecDepth 10000

theorem countP_lt {p q : Sp → Bool} : ∀ {X : List Sp}, (∀ s ∈ X, p s = true → q s = true) → (∃ s ∈ X, q s = true ∧ p s = false) → X.countP p < X.countP q
  | [], _, h => by obtain ⟨s, hs, _⟩ := h; cases hs
  | x :: X, h1, h2 => by
    rw [List.countP_cons, List.countP_cons]
    have hle : X.countP p ≤ X.countP q := List.countP_mono_left fun s hs hp => h1 s (List.mem_cons_of_mem _ hs) hp
    obtain ⟨s, hs, hq, hp⟩ := h2
    rcases List.mem_cons.1 hs with rfl | hs
    · rw [hq, hp]; simp; omega
    · have := countP_lt (X := X) (fun s hs hp => h1 s (List.mem_cons_of_mem _ hs) hp) ⟨s, hs, hq, hp⟩
      have h3 : p x = true → q x = true := h1 x (List.mem_cons_self ..)
      cases hp : p x with
      | true => rw [h3 hp]; simp; omega
      | false => simp; omega
def lastTo (R : List Sp) : Option Int := R.getLast?.map (·.2)
theorem lastTo_snoc (R : List Sp) (l : Sp) : lastTo (R ++ [l]) = some l.2 := by simp [lastTo]
def after (E : Option Int) (s : Int) : Prop := ∀ e, E = some e → e < s
def afterB (E : Option Int) (s : Int) : Bool := match E with | none => true | some e => decide (e < s)
theorem afterB_iff {E : Option Int} {s : Int} : afterB E s = true ↔ after E s := by
  cases E <;> simp [afterB, after]
def cand (X : List Sp) (E : Option Int) (s : Sp) : Bool := decide (s.1 < s.2) && !lowB X (s.1 - 1) && afterB E s.1
theorem cand_iff {X : List Sp} {E : Option Int} {s : Sp} : cand X E s = true ↔ s.1 < s.2 ∧ ¬ low X (s.1 - 1) ∧ after E s.1 := by
  simp only [cand, Bool.and_eq_true, decide_eq_true_eq, Bool.not_eq_true', lowB_not, afterB_iff, and_assoc]
theorem descend {X : List Sp} {E : Option Int} (hE : ∀ e, E = some e → ¬ low X e) : ∀ (n : Nat) (t : Int), X.countP (fun s => decide (s.1 ≤ t)) ≤ n → low X t → after E t → ∃ s ∈ X, cand X E s = true ∧ s.1 ≤ t
  | 0, t, hc, ⟨s, hs, h1, h2⟩, _ => by
    have : 0 < X.countP (fun s => decide (s.1 ≤ t)) := List.countP_pos_iff.2 ⟨s, hs, by simpa using h1⟩
    omega
  | n + 1, t, hc, ⟨s, hs, h1, h2⟩, ha => by
    have hes : after E s.1 := fun e he => by
      rcases Int.lt_or_le e s.1 with h | h
      · exact h
      · have := ha e he
        exact absurd ⟨s, hs, h, by omega⟩ (hE e he)
    by_cases hl : low X (s.1 - 1)
    · have hlt : X.countP (fun x => decide (x.1 ≤ s.1 - 1)) < X.countP (fun x => decide (x.1 ≤ t)) :=
        countP_lt (fun x _ hx => by simp at hx ⊢; omega) ⟨s, hs, by simpa using h1, by simp; omega⟩
      obtain ⟨c, hc1, hc2, hc3⟩ := descend hE n (s.1 - 1) (by omega) hl fun e he => by
        have h3 := hes e he
        rcases Int.lt_or_le e (s.1 - 1) with h | h
        · exact h
        · have : e = s.1 - 1 := by omega
          exact absurd (this ▸ hl) (hE e he)
      exact ⟨c, hc1, hc2, by omega⟩
    · exact ⟨s, hs, cand_iff.2 ⟨by omega, hl, hes⟩, h1⟩
def better (b : Option Int) (t : Int) : Bool := match b with | none => true | some b => decide (t < b)
def bst (X : List Sp) (E : Option Int) (i : Nat) : Option Int := (X.take i).foldl (fun b s => if cand X E s && better b s.1 then some s.1 else b) none
theorem bst_succ {X : List Sp} {E : Option Int} {i : Nat} {s : Sp} (h : X[i]? = some s) : bst X E (i + 1) = if cand X E s && better (bst X E i) s.1 then some s.1 else bst X E i := by
  rw [bst, List.take_add_one, h]; simp [bst, List.foldl_append]
theorem bst_spec {X : List Sp} {E : Option Int} : ∀ i, i ≤ X.length → (bst X E i = none → ∀ s ∈ X.take i, cand X E s = false) ∧ (∀ b, bst X E i = some b → (∃ s ∈ X, cand X E s = true ∧ s.1 = b) ∧ ∀ s ∈ X.take i, cand X E s = true → b ≤ s.1)
  | 0, _ => ⟨fun _ s hs => by simp at hs, fun b h => by simp [bst] at h⟩
  | i + 1, hi => by
    obtain ⟨s, hs⟩ := get_some (l := X) (i := i) (by omega)
    obtain ⟨h1, h2⟩ := bst_spec (X := X) (E := E) i (by omega)
    rw [bst_succ hs, List.take_add_one, hs]
    cases hb : bst X E i with
    | none =>
      have h1 := h1 hb
      cases hc : cand X E s with
      | true =>
        simp only [better, Bool.and_true, if_true]
        refine ⟨fun h => (by cases h), fun b h => ?_⟩
        cases h
        refine ⟨⟨s, List.mem_of_getElem? hs, hc, rfl⟩, fun x hx hxc => ?_⟩
        rcases List.mem_append.1 hx with hx | hx
        · rw [h1 x hx] at hxc; cases hxc
        · simp at hx; rw [hx]; exact Int.le_refl _
      | false =>
        simp only [Bool.false_and, Bool.false_eq_true, if_false]
        refine ⟨fun _ x hx => ?_, fun b h => by cases h⟩
        rcases List.mem_append.1 hx with hx | hx
        · exact h1 x hx
        · simp at hx; rw [hx]; exact hc
    | some b0 =>
      obtain ⟨h3, h4⟩ := h2 b0 hb
      cases hc : cand X E s with
      | true =>
        by_cases hlt : s.1 < b0
        · simp only [better, decide_eq_true hlt, Bool.and_self, if_true]
          refine ⟨fun h => (by cases h), fun b h => ?_⟩
          cases h
          refine ⟨⟨s, List.mem_of_getElem? hs, hc, rfl⟩, fun x hx hxc => ?_⟩
          rcases List.mem_append.1 hx with hx | hx
          · have := h4 x hx hxc; omega
          · simp at hx; rw [hx]; exact Int.le_refl _
        · simp only [better, decide_eq_false hlt, Bool.and_false, Bool.false_eq_true, if_false]
          refine ⟨fun h => (by cases h), fun b h => ?_⟩
          cases h
          refine ⟨h3, fun x hx hxc => ?_⟩
          rcases List.mem_append.1 hx with hx | hx
          · exact h4 x hx hxc
          · simp at hx; rw [hx]; omega
      | false =>
        simp only [Bool.false_and, Bool.false_eq_true, if_false]
        refine ⟨fun h => (by cases h), fun b h => ?_⟩
        cases h
        refine ⟨h3, fun x hx hxc => ?_⟩
        rcases List.mem_append.1 hx with hx | hx
        · exact h4 x hx hxc
        · simp at hx; rw [hx, hc] at hxc; cases hxc
structure Inv (X R : List Sp) : Prop where
  plain : Plain R
  sub : ∀ t, low R t → low X t
  stop : ∀ e, lastTo R = some e → ¬ low X e ∧ ∀ t, t < e → low X t → low R t
  ends : ∀ s ∈ R, (∃ y ∈ X, s.1 = y.1) ∧ ∃ y ∈ X, s.2 = y.2
  cnt : R.length + X.countP (fun s => afterB (lastTo R) s.1) ≤ X.length
theorem Inv.start (X : List Sp) : Inv X [] :=
  ⟨⟨fun s h => (by cases h), List.Pairwise.nil⟩, fun t ⟨s, h, _⟩ => (by cases h), fun e h => by simp [lastTo] at h, fun s h => (by cases h), by simp [List.countP_le_length]⟩
theorem plain_last {R : List Sp} (h : Plain R) {e : Int} (he : lastTo R = some e) : ∀ x ∈ R, x.2 ≤ e := by
  rcases List.eq_nil_or_concat R with rfl | ⟨R, l, rfl⟩
  · simp [lastTo] at he
  · rw [List.concat_eq_append] at h he ⊢
    rw [lastTo_snoc] at he
    cases he
    intro x hx
    rcases List.mem_append.1 hx with hx | hx
    · have := (List.pairwise_append.1 h.apart).2.2 x hx l (by simp)
      have := h.up l (by simp)
      omega
    · simp at hx; rw [hx]; exact Int.le_refl _
theorem Inv.next {X R : List Sp} (h : Inv X R) {b to : Int} (hb : bst X (lastTo R) X.length = some b) (hlow : ∀ t, b ≤ t → t < to → low X t) (hto : ¬ low X to) (hbt : b ≤ to) (hend : to = b ∨ ∃ s ∈ X, s.2 = to) :
    Inv X (R ++ [(b, to)]) ∧ X.countP (fun s => afterB (lastTo (R ++ [(b, to)])) s.1) < X.countP (fun s => afterB (lastTo R) s.1) := by
  obtain ⟨⟨s0, hs0, hc0, hsb⟩, hmin⟩ := (bst_spec (X := X) (E := lastTo R) X.length (Nat.le_refl _)).2 b hb
  rw [List.take_length] at hmin
  obtain ⟨k1, k2, k3⟩ := cand_iff.1 hc0
  rw [hsb] at k1 k2 k3
  have hlb : low X b := ⟨s0, hs0, by omega, by omega⟩
  have hlt : b < to := by
    rcases Int.lt_or_le b to with h1 | h1
    · exact h1
    · have : to = b := by omega
      exact absurd (this ▸ hlb) hto
  have hcnt : X.countP (fun s => afterB (lastTo (R ++ [(b, to)])) s.1) < X.countP (fun s => afterB (lastTo R) s.1) := by
    refine countP_lt (fun s hs hp => ?_) ⟨s0, hs0, afterB_iff.2 (by rw [hsb]; exact k3), ?_⟩
    · rw [afterB_iff] at hp ⊢
      have h1 := hp to (lastTo_snoc R _)
      intro e he
      have := k3 e he
      omega
    · rw [lastTo_snoc]; simp [afterB]; omega
  refine ⟨⟨⟨fun x hx => ?_, ?_⟩, fun t ht => ?_, fun e he => ?_, fun x hx => ?_, ?_⟩, hcnt⟩
  · rcases List.mem_append.1 hx with hx | hx
    · exact h.plain.up x hx
    · simp at hx; rw [hx]; exact hlt
  · rw [List.pairwise_append]
    refine ⟨h.plain.apart, by simp, fun x hx y hy => ?_⟩
    simp at hy; rw [hy]
    cases hl : lastTo R with
    | none =>
      rcases List.eq_nil_or_concat R with h1 | ⟨R, l, h1⟩
      · rw [h1] at hx; cases hx
      · rw [h1, List.concat_eq_append, lastTo_snoc] at hl; cases hl
    | some e =>
      have h1 := plain_last h.plain hl x hx
      have h2 := k3 e hl
      show x.2 < b
      omega
  · rw [low_app] at ht
    rcases ht with ht | ⟨s, hs, h1, h2⟩
    · exact h.sub t ht
    · simp at hs; subst hs; exact hlow t h1 h2
  · rw [lastTo_snoc] at he
    cases he
    refine ⟨hto, fun t ht hx => ?_⟩
    rw [low_app]
    by_cases h1 : b ≤ t
    · exact .inr ⟨(b, to), by simp, h1, ht⟩
    · left
      by_cases ha : after (lastTo R) t
      · obtain ⟨s, hs, hc, hst⟩ := descend (fun e he => (h.stop e he).1) _ t (Nat.le_refl _) hx ha
        have := hmin s hs hc
        omega
      · cases hl : lastTo R with
        | none => exact absurd (fun e he => by rw [hl] at he; cases he) ha
        | some e =>
          obtain ⟨s1, s2⟩ := h.stop e hl
          rcases Int.lt_trichotomy t e with h2 | h2 | h2
          · exact s2 t h2 hx
          · exact absurd (h2 ▸ hx) s1
          · exact absurd (fun e' he' => by rw [hl] at he'; cases he'; exact h2) ha
  · rcases List.mem_append.1 hx with hx | hx
    · exact h.ends x hx
    · simp at hx; subst hx
      refine ⟨⟨s0, hs0, hsb.symm⟩, ?_⟩
      rcases hend with h1 | ⟨s, hs, h1⟩
      · omega
      · exact ⟨s, hs, h1.symm⟩
  · have := h.cnt
    simp only [List.length_append, List.length_singleton]
    omega
end Go.Proofs.YtbhamhhjicehaaaGreatDoor.Wire

/- wire's reference: Join. -/
namespace Go.Proofs.YtbhamhhjicehaaaGreatDoor.Wire
set_option linter.unusedSimpArgs false
set_option linter.unusedVariables false
open Go Go.AX Go.Proofs Ty Go.Proofs.YtbhamhhjicehaaaGreatDoor.Srt Go.Proofs.YtbhamhhjicehaaaGreatDoor.CatP
set_option maxHeartbeats 4000000
set_option maxRecDepth 10000

structure Ext (X : List Sp) (b t : Int) : Prop where
  le : b ≤ t
  low : ∀ u, b ≤ u → u < t → low X u
  ends : t = b ∨ ∃ s ∈ X, s.2 = t
theorem Ext.start (X : List Sp) (b : Int) : Ext X b b := ⟨Int.le_refl _, fun u h1 h2 => by omega, .inl rfl⟩
theorem Ext.step {X : List Sp} {b t : Int} (h : Ext X b t) {s : Sp} (hs : s ∈ X) (h1 : s.1 ≤ t) (h2 : t < s.2) : Ext X b s.2 := by
  have := h.le
  refine ⟨by omega, fun u hu1 hu2 => ?_, .inr ⟨s, hs, rfl⟩⟩
  by_cases hu : u < t
  · exact h.low u hu1 hu
  · exact ⟨s, hs, by omega, hu2⟩
theorem okSp_iff {s : Sp} : okSp s = true ↔ -1099511627776 ≤ s.1 ∧ s.1 ≤ 1099511627776 ∧ -1099511627776 ≤ s.2 ∧ s.2 ≤ 1099511627776 := by
  simp [okSp, and_assoc]
end Go.Proofs.YtbhamhhjicehaaaGreatDoor.Wire

/- wire: Fall; awake. -/
namespace Go.Proofs.YtbhamhhjicehaaaGreatDoor.Wire
set_option linter.unusedSimpArgs false
set_option linter.unusedVariables false
open Go Go.AX Go.Proofs Ty Go.Proofs.YtbhamhhjicehaaaGreatDoor.Srt Go.Proofs.YtbhamhhjicehaaaGreatDoor.CatP
set_option maxHeartbeats 4000000
set_option maxRecDepth 10000

theorem catOne {A : AH} {b cap : Nat} {base : Option Addr} {L : List Sp} (hf : Fresh A b) (hL : SlcIn A 2 base cap (L.map encP)) :
    CatIn (A.add b (.cells [.slice base L.length cap] 36 1)) (some ⟨b, 0, none⟩) 1 [(base, cap, L)] :=
  ⟨SlcIn.own (R := [[.slice base L.length cap]]) (by simp) (by simp) (by simp), fun x hx => by
    simp only [List.mem_cons, List.not_mem_nil, or_false] at hx
    subst hx
    exact hL.add hf⟩
theorem Join1_c {A : AH} {b cap : Nat} {base : Option Addr} {L : List Sp} (hf : Fresh A b) (hL : SlcIn A 2 base cap (L.map encP)) (hb : L.length < 100000) :
    ACalls Tryz.prog 34 #[.slice (some ⟨b, 0, none⟩) 1 1] (A.add b (.cells [.slice base L.length cap] 36 1)) (fun v H' => ∃ R b c, v = .slice b R.length c ∧ JoinOf L R ∧ SlcIn H' 2 b c (R.map encP) ∧ Keep A H' fun _ => False) := by
  have ht : tot [(base, cap, L)] [(base, cap, L)].length = L := by simp [tot]
  have := Join_c _ _ _ _ (catOne hf hL) (by rw [ht]; exact hb)
  rw [ht] at this
  refine ACalls.mono this ?_
  rintro _ A' ⟨R, b', c', rfl, hJ, hs, hK⟩
  exact ⟨R, b', c', rfl, hJ, hs, (Keep.refl.nw hf).trans hK⟩
def fp (f t : Int) (s : Sp) : Bool := decide (f ≤ s.1) && decide (s.1 < t)
def fallV (R : List Sp) (f t : Int) : Int × Bool := match R.find? (fp f t) with | some s => (s.1, true) | none => (0, false)
theorem find_first {p : Sp → Bool} : ∀ {R : List Sp} {i : Nat} {s : Sp}, R[i]? = some s → p s = true → (∀ j, j < i → ∀ y, R[j]? = some y → p y = false) → R.find? p = some s
  | [], i, s, h, _, _ => by simp at h
  | x :: R, 0, s, h, hp, _ => by simp at h; subst h; simp [hp]
  | x :: R, i + 1, s, h, hp, hall => by
    rw [List.find?_cons, hall 0 (by omega) x rfl]
    exact find_first (R := R) (i := i) (by simpa using h) hp fun j hj y hy => hall (j + 1) (by omega) y (by simpa using hy)
theorem find_no {p : Sp → Bool} {R : List Sp} (hall : ∀ j, j < R.length → ∀ y, R[j]? = some y → p y = false) : R.find? p = none := by
  rw [List.find?_eq_none]
  intro s hs
  obtain ⟨j, hj⟩ := List.mem_iff_getElem?.1 hs
  rw [hall j (lt_of_get hj) s hj]; simp
theorem Fall_c (L : List Sp) (f t : Int) (base : Option Addr) (cap : Nat) (H : AH) (hs : SlcIn H 2 base cap (L.map encP)) (hb : L.length < 100000) :
    ACalls Tryz.prog 105 #[.slice base L.length cap, .int .i64 f, .int .i64 t] H (fun v H' => ∃ R, JoinOf L R ∧ v = .tuple #[.int .i64 (fallV R f t).1, .bool (fallV R f t).2] ∧ H = H') := by
  refine ACalls.enter2 Tryz.func105 rfl Tryz.ntmps105 Tryz.results105 (by simp) ?_; simp (dsimp := false) (maxSteps := 4000000) only [encP_len, encP_scal, encP_z, encP_take, go_sem]
  refine AllB.mk fun b11 h_b11 => ?_
  simp (dsimp := false) (maxSteps := 4000000) only [encP_len, encP_scal, encP_z, encP_take, go_sem]
  refine (Join1_c h_b11 hs hb).mono ?_; rintro _ A ⟨R, bo, co, rfl, hJ, hsR, hK⟩
  clear h_b11
  have hbig := hsR.big
  simp only [List.length_map] at hbig
  simp (dsimp := false) (maxSteps := 4000000) only [encP_len, encP_scal, encP_z, encP_take, go_sem]
  refine AWp.loopr (ι := Nat) (fun i B => B = A ∧ i ≤ R.length ∧ ∀ j, j < i → ∀ s, R[j]? = some s → fp f t s = false) (fun i => [(14, .int .i64 i), (13, .int .i64 R.length), (12, .slice bo R.length co), (1, .int .i64 f), (2, .int .i64 t)])
    (fun i => R.length - i) 0 A ⟨rfl, by omega, fun j hj => by omega⟩ (FrLe.of_lks ?_) (AH.le_refl _) fun i B hi Q again out => ?_
  · simp (dsimp := false) (maxSteps := 4000000) only [encP_len, encP_scal, encP_z, encP_take, go_sem]
  obtain ⟨rfl, hi, hall⟩ := hi
  by_cases h : (i : Int) < R.length
  · obtain ⟨⟨x, y⟩, hx⟩ := get_some (l := R) (i := i) (by omega)
    obtain ⟨b0, o0, rfl, hrow, _⟩ := hsR.get (map_get (f := encP) hx)
    have ee := i64_succ (i := i) (by omega)
    have nx : fp f t (x, y) = false → ∀ j, j < i + 1 → ∀ s, R[j]? = some s → fp f t s = false := fun hf j hj m hm => by
      by_cases hji : j = i
      · subst hji; rw [hx] at hm; cases hm; exact hf
      · exact hall j (by omega) m hm
    simp (dsimp := false) (maxSteps := 4000000) only [h, hrow, encP_len, encP_scal, encP_z, encP_take, go_sem]
    refine AllB.mk fun b9 h_b9 => ?_
    by_cases h0 : f ≤ x
    · by_cases h1 : x < t
      · have e := find_first (p := fp f t) hx (by simp [fp, h0, h1]) hall
        simp (dsimp := false) (maxSteps := 4000000) only [encP_mk, h0, h1, encP_len, encP_scal, encP_z, encP_take, go_sem]
        refine out _ _ _ (by simp) ?_
        simp (dsimp := false) (maxSteps := 4000000) only [encP_len, encP_scal, encP_z, encP_take, go_sem]
        exact ⟨_, AH.le_add hK.all h_b9.2, R, hJ, by rw [fallV, e], rfl⟩
      · simp (dsimp := false) (maxSteps := 4000000) only [encP_mk, h0, h1, ee, encP_len, encP_scal, encP_z, encP_take, go_sem]
        exact again (i + 1) _ B _ ⟨rfl, by omega, nx (by simp [fp, h1])⟩ (FrLe.of_lks (by simp (dsimp := false) (maxSteps := 4000000) only [encP_len, encP_scal, encP_z, encP_take, go_sem])) (AH.le_add (AH.le_refl _) h_b9.2) (by omega)
    · simp (dsimp := false) (maxSteps := 4000000) only [encP_mk, h0, ee, encP_len, encP_scal, encP_z, encP_take, go_sem]
      exact again (i + 1) _ B _ ⟨rfl, by omega, nx (by simp [fp, h0])⟩ (FrLe.of_lks (by simp (dsimp := false) (maxSteps := 4000000) only [encP_len, encP_scal, encP_z, encP_take, go_sem])) (AH.le_add (AH.le_refl _) h_b9.2) (by omega)
  · have e := find_no (p := fp f t) fun j hj => hall j (by omega)
    simp (dsimp := false) (maxSteps := 4000000) only [h, encP_len, encP_scal, encP_z, encP_take, go_sem]
    refine out _ _ _ (by simp) ?_
    simp (dsimp := false) (maxSteps := 4000000) only [encP_len, encP_scal, encP_z, encP_take, go_sem]
    exact ⟨_, hK.all, R, hJ, by rw [fallV, e], rfl⟩
end Go.Proofs.YtbhamhhjicehaaaGreatDoor.Wire

/- Declarations cut out of other texts of mine. -/
namespace Go.Proofs.YtbhamhhjicehaaaGreatDoor.Tck
set_option linter.unusedSimpArgs false
set_option linter.unusedVariables false
open Go Go.AX Go.Proofs Ty
set_option maxHeartbeats 4000000
set_option maxRecDepth 10000

structure Stp where
  at_ : Int
  rate : Int
def enc (s : Stp) : List Value := [.int .i64 s.at_, .int .i64 s.rate]
def okS (last : Int) (s : Stp) : Bool := decide (last < s.at_) && decide (s.at_ ≤ 4294967296) && decide (-20000 ≤ s.rate) && decide (s.rate ≤ 20000)
def goodR (last : Int) : List Stp → Bool
  | [] => true
  | s :: l => okS last s && goodR s.at_ l
def good (L : List Stp) : Bool := decide (L.length ≤ 64) && goodR (-1) L
theorem drop_cons {α : Type} {L : List α} {i : Nat} {s : α} (h : L[i]? = some s) : L.drop i = s :: L.drop (i + 1) := by
  have hi : i < L.length := by
    rcases Nat.lt_or_ge i L.length with h' | h'
    · exact h'
    · rw [List.getElem?_eq_none h'] at h; cases h
  rw [List.drop_eq_getElem_cons hi]
  rw [List.getElem?_eq_getElem hi] at h
  cases h; rfl
theorem okS_bad {last : Int} {s : Stp} (h : s.at_ ≤ last ∨ 4294967296 < s.at_ ∨ s.rate < -20000 ∨ 20000 < s.rate) : okS last s = false := by
  cases hk : okS last s with
  | false => rfl
  | true => simp only [okS, Bool.and_eq_true, decide_eq_true_eq] at hk; omega
theorem okS_ok {last : Int} {s : Stp} (h : last < s.at_ ∧ s.at_ ≤ 4294967296 ∧ -20000 ≤ s.rate ∧ s.rate ≤ 20000) : okS last s = true := by
  simp only [okS, Bool.and_eq_true, decide_eq_true_eq]; omega
theorem good_bad {L l : List Stp} {last : Int} {s : Stp} (hg : goodR (-1) L = goodR last (s :: l)) (h : s.at_ ≤ last ∨ 4294967296 < s.at_ ∨ s.rate < -20000 ∨ 20000 < s.rate) : good L = false := by
  unfold good; rw [hg]; simp only [goodR, okS_bad h, Bool.false_and, Bool.and_false]
theorem good_end {L : List Stp} {last : Int} (hg : goodR (-1) L = goodR last []) : good L = decide (L.length ≤ 64) := by
  unfold good; rw [hg]; simp only [goodR, Bool.and_true]
def toOf (t : Int) : List Stp → Int
  | [] => t
  | s :: _ => if s.at_ < t then s.at_ else t
def pos (x : Int) : Int := if 0 > x then 0 else x
def sumT (t : Int) : List Stp → Int
  | [] => 0
  | s :: l => pos (toOf t l - s.at_) * s.rate + sumT t l
def clamp (t : Int) : Int := pos (if 4294967296 < t then 4294967296 else t)
def localv (L : List Stp) (t : Int) : Int := (clamp t * 1000000 + sumT (clamp t) L).tdiv 1000000
theorem clamp_ge (t : Int) : 0 ≤ clamp t := by unfold clamp pos; split <;> omega
theorem clamp_le (t : Int) : clamp t ≤ 4294967296 := by unfold clamp pos; split <;> split <;> omega
theorem toOf_le (t : Int) (l : List Stp) : toOf t l ≤ t := by cases l <;> simp only [toOf] <;> (try split) <;> omega
theorem pos_ge (x : Int) : 0 ≤ pos x := by unfold pos; split <;> omega
theorem pos_le {x y : Int} (h : x ≤ y) (hy : 0 ≤ y) : pos x ≤ y := by unfold pos; split <;> omega
theorem goodR_cons {last : Int} {s : Stp} {l : List Stp} (h : goodR last (s :: l) = true) : last < s.at_ ∧ s.at_ ≤ 4294967296 ∧ -20000 ≤ s.rate ∧ s.rate ≤ 20000 ∧ goodR s.at_ l = true := by
  simp only [goodR, okS, Bool.and_eq_true, decide_eq_true_eq] at h
  exact ⟨h.1.1.1.1, h.1.1.1.2, h.1.1.2, h.1.2, h.2⟩
theorem term_bound {x r : Int} (h0 : 0 ≤ x) (h1 : x ≤ 4294967296) (h2 : -20000 ≤ r) (h3 : r ≤ 20000) : -85899345920000 ≤ x * r ∧ x * r ≤ 85899345920000 := by
  have a := Int.mul_le_mul_of_nonneg_left h3 h0
  have b := Int.mul_le_mul_of_nonneg_left h2 h0
  omega
theorem posd (x : Int) : (if 0 > x then 0 else x) = pos x := rfl
theorem parts_c (L : List Stp) (t : Int) (ht0 : 0 ≤ t) (ht1 : t ≤ 4294967296) (hg : good L = true) (base : Option Addr) (cap : Nat) (H : AH) (hs : SlcIn H 2 base cap (L.map enc)) :
    ACalls Tryz.prog 134 #[.slice base L.length cap, .int .i64 t] H (fun v H' => v = .int .i64 (t * 1000000 + sumT t L) ∧ H = H') := by
  simp only [good, Bool.and_eq_true, decide_eq_true_eq] at hg
  obtain ⟨h64, hg⟩ := hg
  have e0 : IntKind.i64.wrap (t * 1000000) = t * 1000000 := i64_eq (by omega) (by omega)
  refine ACalls.enter2 Tryz.func134 rfl Tryz.ntmps134 Tryz.results134 (by simp) ?_; simp (dsimp := false) (maxSteps := 4000000) only [e0, go_sem]
  refine AWp.loopo (ι := Nat × Int × Int) (fun p => p.1 ≤ L.length ∧ t * 1000000 + sumT t L = p.2.1 + sumT t (L.drop p.1) ∧ goodR p.2.2 (L.drop p.1) = true ∧ -1 ≤ p.2.2 ∧ -(p.1 * 85899345920000) ≤ p.2.1 - t * 1000000 ∧ p.2.1 - t * 1000000 ≤ p.1 * 85899345920000)
    (fun p => [(13, .int .i64 p.1), (5, .int .i64 p.2.1), (12, .int .i64 L.length), (11, .slice base L.length cap), (0, .slice base L.length cap), (1, .int .i64 t)])
    (fun _ => H) (fun p => L.length - p.1) (0, t * 1000000, -1) ⟨by simp, by simp, by simpa using hg, by simp, by simp, by simp⟩ (FrLe.of_lks ?_) (AH.le_refl _) fun p hi Q again out => ?_
  · simp (dsimp := false) (maxSteps := 4000000) only [e0, go_sem]
  · obtain ⟨i, n, last⟩ := p
    obtain ⟨hi, hn, hg, hl, b1_, b2_⟩ := hi
    simp only at hi hn hg hl b1_ b2_ ⊢
    by_cases h : (i : Int) < L.length
    · obtain ⟨s, hx⟩ := get_some (l := L) (i := i) (by omega)
      obtain ⟨b, o, rfl, hrow, hrd⟩ := hs.get (map_get (f := enc) hx)
      have e1 := i64_succ (i := i) (by omega)
      rw [drop_cons hx] at hn hg
      obtain ⟨g1, g2, g3, g4, g5⟩ := goodR_cons hg
      unfold enc at hrow
      
      simp (dsimp := false) (maxSteps := 4000000) only [h, hrow, e0, go_sem]
      refine AllB.mk fun b1 h_b1 => ?_; have hn_b1 := h_b1; (try simp only [fresh_add, fresh_set, ne_eq] at hn_b1); have hr_b1 := hn_b1; (try simp only [@eq_comm Nat b1] at hr_b1); simp (dsimp := false) (maxSteps := 4000000) only [e0, hn_b1, hr_b1, go_sem]
      simp only [sumT] at hn
      have hto := toOf_le t (L.drop (i + 1))
      have hp0 := pos_ge (toOf t (L.drop (i + 1)) - s.at_)
      have hp1 : pos (toOf t (L.drop (i + 1)) - s.at_) ≤ 4294967296 := pos_le (by omega) (by omega)
      have htb := term_bound hp0 hp1 g3 g4
      have fin : ∀ to, to = toOf t (L.drop (i + 1)) → IntKind.i64.wrap (to - s.at_) = to - s.at_ ∧ IntKind.i64.wrap (pos (to - s.at_) * s.rate) = pos (to - s.at_) * s.rate ∧ IntKind.i64.wrap (n + pos (to - s.at_) * s.rate) = n + pos (to - s.at_) * s.rate := fun to hto' => by
        have : -1 ≤ to := by
          rw [hto']
          cases hd : L.drop (i + 1) with
          | nil => simp only [toOf]; omega
          | cons s' l' =>
            rw [hd] at g5
            have := (goodR_cons g5).1
            simp only [toOf]; split <;> omega
        rw [← hto'] at htb hto
        have hi64 : (i : Int) ≤ 63 := by omega
        exact ⟨i64_eq (by omega) (by omega), i64_eq (by omega) (by omega), i64_eq (by omega) (by omega)⟩
      by_cases h1 : ((i + 1 : Nat) : Int) < L.length
      · obtain ⟨s', hx'⟩ := get_some (l := L) (i := i + 1) (by omega)
        obtain ⟨b', o', hb', hrow', hrd'⟩ := hs.get (map_get (f := enc) hx')
        cases hb'
        have q0 := hrd' 0 _ rfl
        rw [Nat.add_zero] at q0
        have q1 := rd_mono (k := .cells [.int .i64 s.at_, .int .i64 s.rate] 81 2) h_b1 q0
        obtain ⟨f1, f2, f3⟩ := fin (if s'.at_ < t then s'.at_ else t) (by rw [drop_cons hx']; rfl)
        simp (dsimp := false) (maxSteps := 4000000) only [e1, h1, q1, f1, posd, f2, f3, e0, hn_b1, hr_b1, go_sem]
        refine again (i + 1, n + pos (toOf t (L.drop (i + 1)) - s.at_) * s.rate, s.at_) _ _ ⟨by simp only; omega, by simp only; omega, g5, by simp only; omega, by simp only; omega, by simp only; omega⟩ (FrLe.of_lks (by rw [drop_cons hx']; simp (dsimp := false) (maxSteps := 4000000) only [toOf, e0, hn_b1, hr_b1, go_sem])) (AH.le_add (AH.le_refl _) ((by simp only [e0, fresh_add, fresh_set, ne_eq, hn_b1, not_false_eq_true, and_self] : Fresh _ b1).2)) (by simp only; omega)
      · have hd : L.drop (i + 1) = [] := List.drop_eq_nil_of_le (by omega)
        obtain ⟨f1, f2, f3⟩ := fin t (by rw [hd]; rfl)
        simp (dsimp := false) (maxSteps := 4000000) only [e1, h1, f1, posd, f2, f3, e0, hn_b1, hr_b1, go_sem]
        refine again (i + 1, n + pos (toOf t (L.drop (i + 1)) - s.at_) * s.rate, s.at_) _ _ ⟨by simp only; omega, by simp only; omega, g5, by simp only; omega, by simp only; omega, by simp only; omega⟩ (FrLe.of_lks (by rw [hd]; simp (dsimp := false) (maxSteps := 4000000) only [toOf, e0, hn_b1, hr_b1, go_sem])) (AH.le_add (AH.le_refl _) ((by simp only [e0, fresh_add, fresh_set, ne_eq, hn_b1, not_false_eq_true, and_self] : Fresh _ b1).2)) (by simp only; omega)
    · 
      have hiL : i = L.length := by omega
      rw [hiL, List.drop_length] at hn
      simp (dsimp := false) (maxSteps := 4000000) only [h, e0, go_sem]
      refine out _ _ _ (by simp) ?_
      simp (dsimp := false) (maxSteps := 4000000) only [e0, go_sem]
      exact ⟨H, (AH.le_refl _), (by first | exact ⟨by rw [hn]; simp [sumT], rfl⟩ | rfl)⟩
theorem pos_of {x : Int} (h : 0 ≤ x) : pos x = x := by unfold pos; rw [if_neg (by omega)]
theorem pos_neg {x : Int} (h : x ≤ 0) : pos x = 0 := by unfold pos; split <;> omega
theorem mulR {x r : Int} (h0 : 0 ≤ x) (h2 : -20000 ≤ r) (h3 : r ≤ 20000) : x * -20000 ≤ x * r ∧ x * r ≤ x * 20000 :=
  ⟨Int.mul_le_mul_of_nonneg_left h2 h0, Int.mul_le_mul_of_nonneg_left h3 h0⟩
theorem sumT_abs (t : Int) : ∀ (l : List Stp) (s : Stp) (last : Int), goodR last (s :: l) = true → pos (t - s.at_) * -20000 ≤ sumT t (s :: l) ∧ sumT t (s :: l) ≤ pos (t - s.at_) * 20000
  | [], s, last, h => by
    obtain ⟨g1, g2, g3, g4, _⟩ := goodR_cons h
    simp only [sumT, toOf, Int.add_zero]
    exact mulR (pos_ge _) g3 g4
  | s' :: l, s, last, h => by
    obtain ⟨g1, g2, g3, g4, g5⟩ := goodR_cons h
    have g6 := (goodR_cons g5).1
    have ih := sumT_abs t l s' _ g5
    have e : sumT t (s :: s' :: l) = pos ((if s'.at_ < t then s'.at_ else t) - s.at_) * s.rate + sumT t (s' :: l) := rfl
    rw [e]
    have hm := mulR (pos_ge ((if s'.at_ < t then s'.at_ else t) - s.at_)) g3 g4
    have hsum : pos ((if s'.at_ < t then s'.at_ else t) - s.at_) + pos (t - s'.at_) = pos (t - s.at_) := by
      unfold pos; (repeat' split) <;> omega
    generalize pos ((if s'.at_ < t then s'.at_ else t) - s.at_) * s.rate = X at hm ⊢
    generalize sumT t (s' :: l) = Y at ih ⊢
    omega
theorem sumT_range {t : Int} (ht : 0 ≤ t) {L : List Stp} (h : goodR (-1) L = true) : t * -20000 ≤ sumT t L ∧ sumT t L ≤ t * 20000 := by
  cases L with
  | nil => simp only [sumT]; omega
  | cons s l =>
    have := sumT_abs t l s _ h
    have h1 := (goodR_cons h).1
    have : pos (t - s.at_) ≤ t := pos_le (by omega) ht
    omega
theorem good_R {L : List Stp} (h : good L = true) : L.length ≤ 64 ∧ goodR (-1) L = true := by
  simpa only [good, Bool.and_eq_true, decide_eq_true_eq] using h
theorem localv_div {L : List Stp} (h : good L = true) (t : Int) : localv L t = (clamp t * 1000000 + sumT (clamp t) L) / 1000000 ∧ IntKind.i64.wrap (localv L t) = localv L t := by
  have h0 := clamp_ge t
  have h1 := clamp_le t
  have hr := sumT_range h0 (good_R h).2
  have e : localv L t = (clamp t * 1000000 + sumT (clamp t) L) / 1000000 := Int.tdiv_eq_ediv_of_nonneg (by omega)
  exact ⟨e, by rw [e]; exact i64_eq (by omega) (by omega)⟩
theorem Local_c (L : List Stp) (t : Int) (hg : good L = true) (base : Option Addr) (cap : Nat) (H : AH) (hs : SlcIn H 2 base cap (L.map enc)) :
    ACalls Tryz.prog 109 #[.slice base L.length cap, .int .i64 t] H (fun v H' => v = .int .i64 (localv L t) ∧ H = H') := by
  have e := (localv_div hg t).2
  refine ACalls.enter2 Tryz.func109 rfl Tryz.ntmps109 Tryz.results109 (by simp) ?_; simp (dsimp := false) (maxSteps := 4000000) only [go_sem]
  refine (parts_c L (clamp t) (clamp_ge t) (clamp_le t) hg base cap _ hs).mono ?_; rintro _ _ ⟨rfl, rfl⟩
  have e' : IntKind.i64.wrap ((clamp t * 1000000 + sumT (clamp t) L).tdiv 1000000) = localv L t := e
  simp (dsimp := false) (maxSteps := 4000000) only [e', go_sem]
  exact ⟨H, (AH.le_refl _), (by first | exact ⟨rfl, rfl⟩ | rfl)⟩

theorem sumT_late (t : Int) : ∀ (l : List Stp) (last : Int), goodR last l = true → t ≤ last + 1 → sumT t l = 0
  | [], _, _, _ => rfl
  | s :: l, last, h, ht => by
    obtain ⟨g1, g2, g3, g4, g5⟩ := goodR_cons h
    have := toOf_le t l
    simp only [sumT, pos_neg (show toOf t l - s.at_ ≤ 0 from by omega), Int.zero_mul, sumT_late t l _ g5 (by omega), Int.add_zero]
def bsF (p : Int → Bool) : Nat → Int → Int → Int
  | 0, i, _ => i
  | k + 1, i, j => if i < j then if p ((i + j) / 2) then bsF p k i ((i + j) / 2) else bsF p k ((i + j) / 2 + 1) j else i
theorem bsF_step {p : Int → Bool} {k : Nat} {i j : Int} (h : i < j) : bsF p (k + 1) i j = if p ((i + j) / 2) then bsF p k i ((i + j) / 2) else bsF p k ((i + j) / 2 + 1) j := by
  rw [bsF, if_pos h]
theorem bsF_end {p : Int → Bool} {k : Nat} {i j : Int} (h : ¬ i < j) : bsF p k i j = i := by cases k <;> simp [bsF, h]
theorem Search_c (g : Nat) (caps : List Value) (hok : fnOk Tryz.prog g = true) (p : Int → Bool) (n : Int) (hn0 : 0 ≤ n) (hn : n ≤ 4294967296) (H : AH)
    (hcall : ∀ h : Int, 0 ≤ h → h < n → ACalls Tryz.prog g (Value.int .i64 h :: caps).toArray H (fun v H' => v = .bool (p h) ∧ H = H')) :
    ACalls Tryz.prog 107 #[.int .i64 n, .func (.func g) (List.toArray []) caps.toArray] H (fun v H' => v = .int .i64 (bsF p 33 0 n) ∧ H = H') := by
  generalize hR : bsF p 33 0 n = R
  refine ACalls.enter2 Tryz.func107 rfl Tryz.ntmps107 Tryz.results107 (by simp) ?_; simp (dsimp := false) (maxSteps := 4000000) only [hok, go_sem]
  refine AWp.loopo (ι := Int × Int × Nat) (fun q => 0 ≤ q.1 ∧ q.1 ≤ q.2.1 ∧ q.2.1 ≤ n ∧ q.2.1 - q.1 < 2 ^ q.2.2 ∧ R = bsF p q.2.2 q.1 q.2.1)
    (fun q => [(5, .int .i64 q.1), (6, .int .i64 q.2.1), (1, .func (.func g) (List.toArray []) caps.toArray)])
    (fun _ => H) (fun q => (q.2.1 - q.1).toNat) (0, n, 33) ⟨by simp, by simpa using hn0, by simp, by simp only; omega, hR.symm⟩ (FrLe.of_lks ?_) (AH.le_refl _) fun q hi Q again out => ?_
  · simp (dsimp := false) (maxSteps := 4000000) only [hok, go_sem]
  · obtain ⟨i, j, k⟩ := q
    obtain ⟨k1, k2, k3, k4, k5⟩ := hi
    simp only at k1 k2 k3 k4 k5 ⊢
    by_cases h : i < j
    · cases k with
      | zero => simp at k4; omega
      | succ k =>
        have hp : (2 : Int) ^ (k + 1) = 2 ^ k * 2 := Int.pow_succ _ _
        have e1 : IntKind.i64.wrap (i + j) = i + j := i64_eq (by omega) (by omega)
        have e2 : IntKind.u64.wrap (i + j) = i + j := u64_eq (by omega) (by omega)
        have e3 : (i + j).fdiv (2 ^ min 1 IntKind.u64.bits) = (i + j) / 2 := by
          rw [show min 1 IntKind.u64.bits = 1 from rfl, fdiv_pow]; rfl
        have e4 : IntKind.i64.wrap ((i + j) / 2) = (i + j) / 2 := i64_eq (by omega) (by omega)
        have e5 : IntKind.i64.wrap ((i + j) / 2 + 1) = (i + j) / 2 + 1 := i64_eq (by omega) (by omega)
        rw [bsF_step h] at k5
        have e3' : (i + j).fdiv (2 ^ min 1 64) = (i + j) / 2 := e3
        simp (dsimp := false) (maxSteps := 4000000) only [h, e1, e2, e3', e4, hok, go_sem]
        refine (hcall ((i + j) / 2) (by omega) (by omega)).mono ?_; rintro _ _ ⟨rfl, rfl⟩
        cases hp' : p ((i + j) / 2) with
        | true =>
          simp only [hp', if_true] at k5
          simp (dsimp := false) (maxSteps := 4000000) only [hok, go_sem]
          exact again (i, (i + j) / 2, k) _ _ ⟨by simp only; omega, by simp only; omega, by simp only; omega, by simp only; omega, k5⟩ (FrLe.of_lks (by simp (dsimp := false) (maxSteps := 4000000) only [hok, go_sem])) (AH.le_refl _) (by simp only; omega)
        | false =>
          simp only [hp', Bool.false_eq_true, if_false] at k5
          simp (dsimp := false) (maxSteps := 4000000) only [e5, hok, go_sem]
          exact again ((i + j) / 2 + 1, j, k) _ _ ⟨by simp only; omega, by simp only; omega, by simp only; omega, by simp only; omega, k5⟩ (FrLe.of_lks (by simp (dsimp := false) (maxSteps := 4000000) only [hok, go_sem])) (AH.le_refl _) (by simp only; omega)
    · rw [bsF_end h] at k5
      simp (dsimp := false) (maxSteps := 4000000) only [h, hok, go_sem]
      refine out _ _ _ (by simp) ?_
      simp (dsimp := false) (maxSteps := 4000000) only [hok, go_sem]
      exact ⟨H, (AH.le_refl _), (by first | exact ⟨by rw [k5], rfl⟩ | rfl)⟩
def globalv (L : List Stp) (n : Int) : Int := bsF (fun t => decide (n ≤ localv L t)) 33 0 4294967296
theorem probe_c (L : List Stp) (n : Int) (hg : good L = true) (base : Option Addr) (cap b1 b2 : Nat) (H : AH) (hs : SlcIn H 2 base cap (L.map enc)) (h1 : H.rd ⟨b1, 0, none⟩ = some (.slice base L.length cap)) (h2 : H.rd ⟨b2, 0, none⟩ = some (.int .i64 n)) (t : Int) :
    ACalls Tryz.prog 108 #[.int .i64 t, .pointer (some ⟨b1, 0, none⟩), .pointer (some ⟨b2, 0, none⟩)] H (fun v H' => v = .bool (decide (n ≤ localv L t)) ∧ H = H') := by
  refine ACalls.enter2 Tryz.func108 rfl Tryz.ntmps108 Tryz.results108 (by simp) ?_; simp (dsimp := false) (maxSteps := 4000000) only [h1, h2, go_sem]
  refine AWp.quiet mixed (by kernel_rfl) ?_
  simp (dsimp := false) (maxSteps := 4000000) only [h1, h2, go_sem]
  refine QCalls.mk (Local_c L t hg base cap _ hs) ?_
  simp (dsimp := false) (maxSteps := 4000000) only [h1, h2, go_sem]
  exact ⟨H, (AH.le_refl _), (by first | exact ⟨rfl, rfl⟩ | rfl)⟩
theorem Global_c (L : List Stp) (n : Int) (hg : good L = true) (base : Option Addr) (cap : Nat) (H : AH) (hs : SlcIn H 2 base cap (L.map enc)) :
    ACalls Tryz.prog 64 #[.slice base L.length cap, .int .i64 n] H (fun v H' => v = .int .i64 (globalv L n) ∧ H = H') := by
  refine ACalls.enter2 Tryz.func64 rfl Tryz.ntmps64 Tryz.results64 (by simp) ?_; simp (dsimp := false) (maxSteps := 4000000) only [go_sem]
  refine AllB.mk fun b1 h_b1 => ?_; have hn_b1 := h_b1; (try simp only [fresh_add, fresh_set, ne_eq] at hn_b1); have hr_b1 := hn_b1; (try simp only [@eq_comm Nat b1] at hr_b1); simp (dsimp := false) (maxSteps := 4000000) only [hn_b1, hr_b1, go_sem]
  refine AllB.mk fun b2 h_b2 => ?_; have hn_b2 := h_b2; (try simp only [fresh_add, fresh_set, ne_eq] at hn_b2); have hr_b2 := hn_b2; (try simp only [@eq_comm Nat b2] at hr_b2); simp (dsimp := false) (maxSteps := 4000000) only [hn_b1, hr_b1, hn_b2, hr_b2, go_sem]
  refine (Search_c 108 [.pointer (some ⟨b1, 0, none⟩), .pointer (some ⟨b2, 0, none⟩)] ok_108 (fun t => decide (n ≤ localv L t)) 4294967296 (by omega) (by omega) _ (fun t _ _ =>
    probe_c L n hg base cap b1 b2 _ ((hs.add h_b1).add h_b2) (by simp (dsimp := false) (maxSteps := 4000000) only [hn_b1, hr_b1, hn_b2, hr_b2, go_sem]) (by simp (dsimp := false) (maxSteps := 4000000) only [hn_b1, hr_b1, hn_b2, hr_b2, go_sem]) t)).mono ?_
  rintro _ _ ⟨rfl, rfl⟩
  simp (dsimp := false) (maxSteps := 4000000) only [hn_b1, hr_b1, hn_b2, hr_b2, go_sem]
  exact ⟨H, (AH.le_add (AH.le_add (AH.le_refl _) ((by simp only [fresh_add, fresh_set, ne_eq, hn_b1, not_false_eq_true, and_self] : Fresh _ b1).2)) ((by simp only [fresh_add, fresh_set, ne_eq, hn_b2, not_false_eq_true, and_self] : Fresh _ b2).2)), (by first | exact ⟨rfl, rfl⟩ | rfl)⟩
theorem sumT_step (t : Int) : ∀ (l : List Stp) (last : Int), goodR last l = true → -20000 ≤ sumT (t + 1) l - sumT t l ∧ sumT (t + 1) l - sumT t l ≤ 20000
  | [], _, _ => by simp [sumT]
  | [s], last, h => by
    obtain ⟨g1, g2, g3, g4, _⟩ := goodR_cons h
    simp only [sumT, toOf, Int.add_zero]
    by_cases hs : t + 1 ≤ s.at_
    · rw [pos_neg (show t + 1 - s.at_ ≤ 0 from by omega), pos_neg (show t - s.at_ ≤ 0 from by omega)]; omega
    · rw [pos_of (show 0 ≤ t + 1 - s.at_ from by omega), pos_of (show 0 ≤ t - s.at_ from by omega), show t + 1 - s.at_ = (t - s.at_) + 1 from by omega, Int.add_mul, Int.one_mul]; omega
  | s :: s' :: l, last, h => by
    obtain ⟨g1, g2, g3, g4, g5⟩ := goodR_cons h
    obtain ⟨k1, k2, k3, k4, k5⟩ := goodR_cons g5
    have e : ∀ u, sumT u (s :: s' :: l) = pos ((if s'.at_ < u then s'.at_ else u) - s.at_) * s.rate + sumT u (s' :: l) := fun u => rfl
    rw [e, e]
    by_cases hs : t + 1 ≤ s'.at_
    · have hg : goodR (s'.at_ - 1) (s' :: l) = true := by simp only [goodR, okS_ok (last := s'.at_ - 1) (s := s') (by omega), k5, Bool.and_self]
      rw [sumT_late (t + 1) (s' :: l) _ hg (by omega), sumT_late t (s' :: l) _ hg (by omega), if_neg (by omega), if_neg (by omega)]
      by_cases hs2 : t + 1 ≤ s.at_
      · rw [pos_neg (show t + 1 - s.at_ ≤ 0 from by omega), pos_neg (show t - s.at_ ≤ 0 from by omega)]; omega
      · rw [pos_of (show 0 ≤ t + 1 - s.at_ from by omega), pos_of (show 0 ≤ t - s.at_ from by omega), show t + 1 - s.at_ = (t - s.at_) + 1 from by omega, Int.add_mul, Int.one_mul]; omega
    · have ih := sumT_step t (s' :: l) _ g5
      have e2 : (if s'.at_ < t + 1 then s'.at_ else t + 1) = (if s'.at_ < t then s'.at_ else t) := by split <;> split <;> omega
      rw [e2]; omega
theorem clamp_id {t : Int} (h0 : 0 ≤ t) (h1 : t ≤ 4294967296) : clamp t = t := by unfold clamp pos; (repeat' split) <;> omega
theorem local_mono {L : List Stp} (hg : good L = true) {t : Int} (h0 : 0 ≤ t) (h1 : t < 4294967296) : localv L t ≤ localv L (t + 1) := by
  rw [(localv_div hg t).1, (localv_div hg (t + 1)).1, clamp_id h0 (by omega), clamp_id (by omega) (by omega)]
  have := sumT_step t L _ (good_R hg).2
  omega
theorem local_off {L : List Stp} (hg : good L = true) {t : Int} (h0 : 0 ≤ t) (h1 : t < 4294967296) : localv L t ≤ t + t / 50 + 1 ∧ t - t / 50 - 1 ≤ localv L t := by
  rw [(localv_div hg t).1, clamp_id h0 (by omega)]
  have := sumT_range h0 (good_R hg).2
  omega
theorem bsF_spec (p : Int → Bool) : ∀ (k : Nat) (i j : Int), 0 ≤ i → i ≤ j → j - i < 2 ^ k → i ≤ bsF p k i j ∧ bsF p k i j ≤ j ∧ (bsF p k i j = j ∨ p (bsF p k i j) = true) ∧ (bsF p k i j = i ∨ p (bsF p k i j - 1) = false)
  | 0, i, j, h0, h1, h2 => by
    simp at h2
    have e : bsF p 0 i j = i := rfl
    rw [e]
    exact ⟨by omega, by omega, .inl (by omega), .inl rfl⟩
  | k + 1, i, j, h0, h1, h2 => by
    have hp : (2 : Int) ^ (k + 1) = 2 ^ k * 2 := Int.pow_succ _ _
    by_cases h : i < j
    · rw [bsF_step h]
      cases hh : p ((i + j) / 2) with
      | true =>
        simp only [if_true]
        obtain ⟨a, b, c, d⟩ := bsF_spec p k i ((i + j) / 2) h0 (by omega) (by omega)
        refine ⟨a, by omega, .inr ?_, d⟩
        rcases c with c | c
        · rw [c]; exact hh
        · exact c
      | false =>
        simp only [Bool.false_eq_true, if_false]
        obtain ⟨a, b, c, d⟩ := bsF_spec p k ((i + j) / 2 + 1) j (by omega) (by omega) (by omega)
        refine ⟨by omega, b, c, .inr ?_⟩
        rcases d with d | d
        · rw [d, show (i + j) / 2 + 1 - 1 = (i + j) / 2 from by omega]; exact hh
        · exact d
    · rw [bsF_end h]
      exact ⟨by omega, by omega, .inl (by omega), .inl rfl⟩
theorem globalv_spec (L : List Stp) (y : Int) : 0 ≤ globalv L y ∧ globalv L y ≤ 4294967296 ∧ (globalv L y = 4294967296 ∨ decide (y ≤ localv L (globalv L y)) = true) ∧ (globalv L y = 0 ∨ decide (y ≤ localv L (globalv L y - 1)) = false) :=
  bsF_spec (fun t => decide (y ≤ localv L t)) 33 0 4294967296 (by omega) (by omega) (by omega)
end Go.Proofs.YtbhamhhjicehaaaGreatDoor.Tck

/- wire: awake; WireJoins; WireFalls. -/
namespace Go.Proofs.YtbhamhhjicehaaaGreatDoor.Wire
set_option linter.unusedSimpArgs false
set_option linter.unusedVariables false
open Go Go.AX Go.Proofs Ty Go.Proofs.YtbhamhhjicehaaaGreatDoor.Srt Go.Proofs.YtbhamhhjicehaaaGreatDoor.CatP
set_option maxHeartbeats 4000000
set_option maxRecDepth 10000

theorem joinOf_plain {R : List Sp} (h : Plain R) : JoinOf R R := ⟨h, fun _ => Iff.rfl, Nat.le_refl _, fun s hs => ⟨⟨s, hs, rfl⟩, ⟨s, hs, rfl⟩⟩⟩
end Go.Proofs.YtbhamhhjicehaaaGreatDoor.Wire

/- send: Window, Spans and the reference's Spans: what each comes to. -/
namespace Go.Proofs.YtbhamhhjicehaaaGreatDoor.Send
set_option linter.unusedSimpArgs false
set_option linter.unusedVariables false
open Go Go.AX Go.Proofs Ty Go.Proofs.YtbhamhhjicehaaaGreatDoor.Srt Go.Proofs.YtbhamhhjicehaaaGreatDoor.Wire Go.Proofs.YtbhamhhjicehaaaGreatDoor.Tck
set_option maxHeartbeats 4000000
set_option maxRecDepth 10000

def bsp (L : List Stp) (t : Int) (i : Nat) : Sp := (globalv L (t + 16 * i), globalv L (t + 16 * i + 16))
def fsp (L : List Stp) (t : Int) (F : List Bool) : Nat → List Sp
  | 0 => []
  | i + 1 => fsp L t F i ++ if F[i]? = some false then [bsp L t i] else []
theorem fsp_len (L : List Stp) (t : Int) (F : List Bool) : ∀ i, (fsp L t F i).length ≤ i
  | 0 => Nat.le_refl _
  | i + 1 => by
    have := fsp_len L t F i
    rw [fsp, List.length_append]
    split <;> simp <;> omega
theorem fsp_mem {L : List Stp} {t : Int} {F : List Bool} : ∀ {i : Nat} {s : Sp}, s ∈ fsp L t F i → ∃ j, j < i ∧ s = bsp L t j
  | 0, s, h => by cases h
  | i + 1, s, h => by
    rcases List.mem_append.1 h with h | h
    · obtain ⟨j, hj, e⟩ := fsp_mem h
      exact ⟨j, by omega, e⟩
    · split at h
      · simp at h; exact ⟨i, by omega, h⟩
      · cases h
theorem fsp_ok (L : List Stp) (t : Int) (F : List Bool) (i : Nat) : ∀ s ∈ fsp L t F i, okSp s = true := fun s hs => by
  obtain ⟨j, _, rfl⟩ := fsp_mem hs
  have h1 := globalv_spec L (t + 16 * j)
  have h2 := globalv_spec L (t + 16 * j + 16)
  refine okSp_iff.2 ?_
  simp only [bsp]
  omega
theorem Spans_c (L : List Stp) (t : Int) (h0 : 0 ≤ t) (h1 : t ≤ 4294967296) (F : List Bool) (hF : F.length = 11) (hg : good L = true) (base : Option Addr) (cap : Nat) (H : AH) (hs : SlcIn H 2 base cap (L.map enc)) :
    ACalls Tryz.prog 33 #[.slice base L.length cap, .int .i64 t, .agg (F.map Value.bool).toArray] H (fun v H' => ∃ R b c, v = .slice b R.length c ∧ JoinOf (fsp L t F 11) R ∧ SlcIn H' 2 b c (R.map encP) ∧ Keep H H' fun _ => False) := by
  refine ACalls.enter2 Tryz.func33 rfl Tryz.ntmps33 Tryz.results33 (by simp) ?_; simp (dsimp := false) (maxSteps := 4000000) only [go_sem]
  
  refine AllB.mk fun b5 h_b5 => ?_
  simp (dsimp := false) (maxSteps := 4000000) only [rd_add_self, hF, go_sem]
  refine AWp.loopr (ι := Nat × Option Addr × Nat) (fun x A => x.1 ≤ 11 ∧ OwnS H A 85 2 x.2.1 x.2.2 ((fsp L t F x.1).map encP) ∧ Keep H A fun _ => False)
    (fun x => [(12, .int .i64 x.1), (11, .agg (F.map Value.bool).toArray), (7, .slice x.2.1 (fsp L t F x.1).length x.2.2), (0, .slice base L.length cap), (1, .int .i64 t)]) (fun x => 11 - x.1) (0, none, 0) (H.add b5 (.cells (F.map Value.bool) 87 F.length))
    ⟨by simp, OwnS.nil, Keep.refl.nw h_b5⟩ (FrLe.of_lks ?_) (AH.le_refl _) fun x A hi Q again out => ?_
  · simp (dsimp := false) (maxSteps := 4000000) only [hF, go_sem]
    rfl
  clear h_b5
  obtain ⟨i, bo, co⟩ := x
  obtain ⟨hi, hO, hK⟩ := hi
  dsimp only at hi hO again ⊢
  have hfl := fsp_len L t F i
  by_cases h : (i : Int) < 11
  case neg =>
    obtain rfl : i = 11 := by omega
    simp (dsimp := false) (maxSteps := 4000000) only [h, hF, go_sem]
    refine out _ _ _ (by simp) ?_
    simp (dsimp := false) (maxSteps := 4000000) only [hF, go_sem]
    refine AllB.mk fun b34 h_b34 => ?_
    simp (dsimp := false) (maxSteps := 4000000) only [hF, go_sem]
    refine (Join1_c h_b34 hO.slc (by omega)).mono ?_; rintro _ A' ⟨R, b, c, rfl, hJ, hR, hK'⟩
    simp (dsimp := false) (maxSteps := 4000000) only [hF, go_sem]
    exact ⟨A', AH.le_refl _, R, b, c, rfl, hJ, hR, hK.trans hK'⟩
  obtain ⟨x, hx⟩ := get_some (l := F) (i := i) (by omega)
  have hr : (F.map Value.bool)[i]? = some (.bool x) := by rw [List.getElem?_map, hx]; rfl
  have ee := i64_succ (i := i) (by omega)
  have p0 : (0 : Int) ≤ (i : Int) := by omega
  have e1 : IntKind.i64.wrap (16 * (i : Int)) = 16 * i := i64_eq (by omega) (by omega)
  have e2 : IntKind.i64.wrap (t + 16 * i) = t + 16 * i := i64_eq (by omega) (by omega)
  have e3 : IntKind.i64.wrap (t + 16 * i + 16) = t + 16 * i + 16 := i64_eq (by omega) (by omega)
  have hsA := hs.keep hK fun _ _ h => h
  cases x with
  | true =>
    have hst : fsp L t F (i + 1) = fsp L t F i := by rw [fsp, hx]; simp
    simp (dsimp := false) (maxSteps := 4000000) only [h, hr, p0, ee, hF, go_sem]
    refine again (i + 1, bo, co) _ A _ ⟨by simp only; omega, by simp only [hst]; exact hO, hK⟩ (FrLe.of_lks ?_) (AH.le_refl _) (by simp only; omega)
    rw [hst]
    simp (dsimp := false) (maxSteps := 4000000) only [hF, go_sem]
  | false =>
    have hst : fsp L t F (i + 1) = fsp L t F i ++ [bsp L t i] := by rw [fsp, hx]; simp
    simp (dsimp := false) (maxSteps := 4000000) only [h, hr, p0, e1, e2, hF, go_sem]
    refine (Global_c L (t + 16 * i) hg base cap _ hsA).mono ?_; rintro _ _ ⟨rfl, rfl⟩
    simp (dsimp := false) (maxSteps := 4000000) only [e3, hF, go_sem]
    refine (Global_c L (t + 16 * i + 16) hg base cap _ hsA).mono ?_; rintro _ _ ⟨rfl, rfl⟩
    simp (dsimp := false) (maxSteps := 4000000) only [hF, go_sem]
    refine AllB.mk fun b41 h_b41 => ?_
    simp (dsimp := false) (maxSteps := 4000000) only [hF, go_sem]
    refine APD.growW (x := .slice (some ⟨b41, 0, none⟩) 1 1) (R' := [encP (bsp L t i)]) (m := 1) (hO.added h_b41) (hK.nw h_b41).all se_36 rfl (by decide) (by rw [Tryz.underlying36]; rfl) (by simp) rfl rfl (by rw [srow_some, row_add_self]; rfl) (by simp [encP]) (by simp [encP, scal]) (by omega) fun base2 cap2 A' hO' hK' hN' => ?_
    refine ⟨_, AH.le_refl _, ?_⟩
    simp (dsimp := false) (maxSteps := 4000000) only [ee, hF, go_sem]
    have hK2 := (hK.nw h_b41).ow hK' fun b ⟨a, ha, e⟩ => e ▸ hO.fresh a ha
    have he : (fsp L t F i).map encP ++ [encP (bsp L t i)] = (fsp L t F (i + 1)).map encP := by rw [hst, List.map_append]; rfl
    rw [he] at hO'
    refine again (i + 1, base2, cap2) _ _ _ ⟨by simp only; omega, hO', hK2⟩ (FrLe.of_lks ?_) (AH.le_refl _) (by simp only; omega)
    have hl1 : (fsp L t F (i + 1)).length = (fsp L t F i).length + 1 := by rw [hst]; simp
    rw [hl1]
    simp (dsimp := false) (maxSteps := 4000000) only [hF, go_sem]
end Go.Proofs.YtbhamhhjicehaaaGreatDoor.Send

/- send: SendOwn. -/
namespace Go.Proofs.YtbhamhhjicehaaaGreatDoor.Send
set_option linter.unusedSimpArgs false
set_option linter.unusedVariables false
open Go Go.AX Go.Proofs Ty Go.Proofs.YtbhamhhjicehaaaGreatDoor.Srt Go.Proofs.YtbhamhhjicehaaaGreatDoor.Wire Go.Proofs.YtbhamhhjicehaaaGreatDoor.Tck
set_option maxHeartbeats 4000000
set_option maxRecDepth 10000

theorem lmono {L : List Stp} (hg : good L = true) : ∀ (n : Nat) {a b : Int}, 0 ≤ a → a ≤ b → b ≤ 4294967296 → b - a ≤ n → localv L a ≤ localv L b
  | 0, a, b, h0, h1, h2, h3 => by
    have : a = b := by omega
    rw [this]; exact Int.le_refl _
  | n + 1, a, b, h0, h1, h2, h3 => by
    by_cases h : a = b
    · rw [h]; exact Int.le_refl _
    · have k1 := local_mono hg h0 (by omega)
      have k2 := lmono hg n (a := a + 1) (b := b) (by omega) (by omega) h2 (by omega)
      omega
theorem lmono' {L : List Stp} (hg : good L = true) {a b : Int} (h0 : 0 ≤ a) (h1 : a ≤ b) (h2 : b ≤ 4294967296) : localv L a ≤ localv L b := lmono hg (b - a).toNat h0 h1 h2 (by omega)
theorem lstep {L : List Stp} (hg : good L = true) {t : Int} (h0 : 0 ≤ t) (h1 : t < 4294967296) : localv L (t + 1) ≤ localv L t + 2 := by
  rw [(localv_div hg t).1, (localv_div hg (t + 1)).1, clamp_id h0 (by omega), clamp_id (by omega) (by omega)]
  have := sumT_step t L _ (good_R hg).2
  omega
theorem lzero {L : List Stp} (hg : good L = true) : localv L 0 = 0 := by
  have := local_off hg (t := 0) (by omega) (by omega)
  rw [(localv_div hg 0).1, clamp_id (by omega) (by omega)]
  have := sumT_range (t := 0) (by omega) (good_R hg).2
  omega
theorem gmono {L : List Stp} (hg : good L = true) {x y : Int} (h : x ≤ y) : globalv L x ≤ globalv L y := by
  obtain ⟨a1, a2, a3, a4⟩ := globalv_spec L x
  obtain ⟨b1, b2, b3, b4⟩ := globalv_spec L y
  rcases Int.lt_or_le (globalv L y) (globalv L x) with hlt | hle
  · exfalso
    rcases a4 with a4 | a4
    · omega
    · rcases b3 with b3 | b3
      · omega
      · have c1 := of_decide_eq_false a4
        have c2 := of_decide_eq_true b3
        have c3 := lmono' hg b1 (show globalv L y ≤ globalv L x - 1 by omega) (by omega)
        omega
  · exact hle
theorem gstrict {L : List Stp} (hg : good L = true) {x y : Int} (h0 : 0 ≤ x) (h : x + 2 ≤ y) (hy : x ≤ 4000000000) : globalv L x < globalv L y := by
  obtain ⟨a1, a2, a3, a4⟩ := globalv_spec L x
  obtain ⟨b1, b2, b3, b4⟩ := globalv_spec L y
  have hm := gmono hg (show x ≤ y by omega)
  rcases Int.lt_or_le (globalv L x) (globalv L y) with hlt | hle
  · exact hlt
  · exfalso
    have he : globalv L y = globalv L x := by omega
    rw [he] at b3
    generalize globalv L x = g at *
    by_cases hz : g = 0
    · rcases b3 with b3 | b3
      · omega
      · have c2 := of_decide_eq_true b3
        rw [hz, lzero hg] at c2
        omega
    · rcases a4 with a4 | a4
      · exact hz a4
      · have c1 := of_decide_eq_false a4
        have c4 := local_off hg (t := g - 1) (by omega) (by omega)
        rcases b3 with b3 | b3
        · subst b3
          omega
        · have c2 := of_decide_eq_true b3
          have c3 := lstep hg (t := g - 1) (by omega) (by omega)
          rw [show g - 1 + 1 = g by omega] at c3
          omega
theorem fsp_has {L : List Stp} {t : Int} {F : List Bool} {j : Nat} (h : F[j]? = some false) : ∀ i, j < i → bsp L t j ∈ fsp L t F i
  | 0, hj => by omega
  | i + 1, hj => by
    rw [fsp, List.mem_append]
    by_cases hji : j = i
    · subst hji; right; rw [if_pos h]; simp
    · exact .inl (fsp_has h i (by omega))
end Go.Proofs.YtbhamhhjicehaaaGreatDoor.Send

/- Oscillators off by one part of a hundred at most. -/
namespace Go.Proofs.YtbhamhhjicehaaaGreatDoor.Clm
set_option linter.unusedSimpArgs false
set_option linter.unusedVariables false
open Go Go.AX Go.Proofs Ty Go.Proofs.YtbhamhhjicehaaaGreatDoor.Tck Go.Proofs.YtbhamhhjicehaaaGreatDoor.Send
set_option maxHeartbeats 4000000
set_option maxRecDepth 10000

def calmB (c : Int) (L : List Stp) : Prop := ∀ s ∈ L, -c ≤ s.rate ∧ s.rate ≤ c
abbrev calm (L : List Stp) : Prop := calmB 10000 L
theorem sumT_calm {c : Int} (hc0 : 0 ≤ c) (t : Int) : ∀ (l : List Stp) (last : Int), goodR last l = true → calmB c l → -c ≤ sumT (t + 1) l - sumT t l ∧ sumT (t + 1) l - sumT t l ≤ c
  | [], _, _, _ => by simp [sumT]; omega
  | [s], last, h, hc => by
    obtain ⟨g1, g2, _, _, _⟩ := goodR_cons h
    obtain ⟨g3, g4⟩ := hc s (by simp)
    simp only [sumT, toOf, Int.add_zero]
    by_cases hs : t + 1 ≤ s.at_
    · rw [pos_neg (show t + 1 - s.at_ ≤ 0 from by omega), pos_neg (show t - s.at_ ≤ 0 from by omega)]; omega
    · rw [pos_of (show 0 ≤ t + 1 - s.at_ from by omega), pos_of (show 0 ≤ t - s.at_ from by omega), show t + 1 - s.at_ = (t - s.at_) + 1 from by omega, Int.add_mul, Int.one_mul]; omega
  | s :: s' :: l, last, h, hc => by
    obtain ⟨g1, g2, _, _, g5⟩ := goodR_cons h
    obtain ⟨g3, g4⟩ := hc s (by simp)
    obtain ⟨k1, k2, k3, k4, k5⟩ := goodR_cons g5
    have e : ∀ u, sumT u (s :: s' :: l) = pos ((if s'.at_ < u then s'.at_ else u) - s.at_) * s.rate + sumT u (s' :: l) := fun u => rfl
    rw [e, e]
    by_cases hs : t + 1 ≤ s'.at_
    · have hg : goodR (s'.at_ - 1) (s' :: l) = true := by simp only [goodR, okS_ok (last := s'.at_ - 1) (s := s') (by omega), k5, Bool.and_self]
      rw [sumT_late (t + 1) (s' :: l) _ hg (by omega), sumT_late t (s' :: l) _ hg (by omega), if_neg (by omega), if_neg (by omega)]
      by_cases hs2 : t + 1 ≤ s.at_
      · rw [pos_neg (show t + 1 - s.at_ ≤ 0 from by omega), pos_neg (show t - s.at_ ≤ 0 from by omega)]; omega
      · rw [pos_of (show 0 ≤ t + 1 - s.at_ from by omega), pos_of (show 0 ≤ t - s.at_ from by omega), show t + 1 - s.at_ = (t - s.at_) + 1 from by omega, Int.add_mul, Int.one_mul]; omega
    · have ih := sumT_calm hc0 t (s' :: l) _ g5 fun x hx => hc x (List.mem_cons_of_mem _ hx)
      have e2 : (if s'.at_ < t + 1 then s'.at_ else t + 1) = (if s'.at_ < t then s'.at_ else t) := by split <;> split <;> omega
      rw [e2]; omega
def V (L : List Stp) (t : Int) : Int := t * 1000000 + sumT t L
theorem V_nat {L : List Stp} (hg : good L = true) (hc : calm L) (a : Int) : ∀ n : Nat, (n : Int) * 990000 ≤ V L (a + n) - V L a ∧ V L (a + n) - V L a ≤ (n : Int) * 1010000
  | 0 => by simp
  | n + 1 => by
    have ih := V_nat hg hc a n
    have h := sumT_calm (c := 10000) (by omega) (a + n) L _ (good_R hg).2 hc
    have e : a + ((n + 1 : Nat) : Int) = a + n + 1 := by omega
    rw [e]
    unfold V at ih ⊢
    omega
theorem V_range {L : List Stp} (hg : good L = true) (hc : calm L) {a b : Int} (h : a ≤ b) : (b - a) * 990000 ≤ V L b - V L a ∧ V L b - V L a ≤ (b - a) * 1010000 := by
  have := V_nat hg hc a (b - a).toNat
  rw [show a + ((b - a).toNat : Int) = b by omega, show ((b - a).toNat : Int) = b - a by omega] at this
  exact this
theorem V_nat2 {L : List Stp} (hg : good L = true) (hc : calmB 2000 L) (a : Int) : ∀ n : Nat, (n : Int) * 998000 ≤ V L (a + n) - V L a ∧ V L (a + n) - V L a ≤ (n : Int) * 1002000
  | 0 => by simp
  | n + 1 => by
    have ih := V_nat2 hg hc a n
    have h := sumT_calm (c := 2000) (by omega) (a + n) L _ (good_R hg).2 hc
    have e : a + ((n + 1 : Nat) : Int) = a + n + 1 := by omega
    rw [e]
    unfold V at ih ⊢
    omega
theorem V_range2 {L : List Stp} (hg : good L = true) (hc : calmB 2000 L) {a b : Int} (h : a ≤ b) : (b - a) * 998000 ≤ V L b - V L a ∧ V L b - V L a ≤ (b - a) * 1002000 := by
  have := V_nat2 hg hc a (b - a).toNat
  rw [show a + ((b - a).toNat : Int) = b by omega, show ((b - a).toNat : Int) = b - a by omega] at this
  exact this
theorem V_zero {L : List Stp} (hg : good L = true) : V L 0 = 0 := by
  have := sumT_range (t := 0) (by omega) (good_R hg).2
  unfold V
  omega
theorem local_V {L : List Stp} (hg : good L = true) {t : Int} (h0 : 0 ≤ t) (h1 : t ≤ 4294967296) : localv L t = V L t / 1000000 := by
  rw [(localv_div hg t).1, clamp_id h0 h1]; rfl
theorem gfact {L : List Stp} (hg : good L = true) (hc : calm L) {x : Int} (h0 : 0 ≤ x) (h1 : x ≤ 1200000000) :
    0 ≤ globalv L x ∧ globalv L x ≤ 2000000000 ∧ x * 1000000 ≤ V L (globalv L x) ∧ (globalv L x = 0 ∨ V L (globalv L x - 1) < x * 1000000) := by
  obtain ⟨a1, a2, a3, a4⟩ := globalv_spec L x
  generalize globalv L x = u at *
  have hz := V_zero hg
  by_cases hu : u = 0
  · subst hu
    rcases a3 with a3 | a3
    · omega
    · have := of_decide_eq_true a3
      rw [local_V hg (by omega) (by omega)] at this
      exact ⟨by omega, by omega, by omega, .inl rfl⟩
  · have hb : V L (u - 1) < x * 1000000 := by
      rcases a4 with a4 | a4
      · exact absurd a4 hu
      · have := of_decide_eq_false a4
        rw [local_V hg (by omega) (by omega)] at this
        omega
    have hr := V_range hg hc (a := 0) (b := u - 1) (by omega)
    refine ⟨a1, by omega, ?_, .inr hb⟩
    rcases a3 with a3 | a3
    · omega
    · have := of_decide_eq_true a3
      rw [local_V hg (by omega) (by omega)] at this
      omega
theorem gap {L : List Stp} (hg : good L = true) (hc : calm L) {x k : Int} (h0 : 0 ≤ x) (hk : 2 ≤ k) (hk2 : k ≤ 1000) (h1 : x ≤ 1100000000) :
    globalv L x < globalv L (x + k) ∧ (globalv L (x + k) - 1 - globalv L x) * 990000 < k * 1000000 ∧ k * 1000000 ≤ (globalv L (x + k) - globalv L x + 1) * 1010000 := by
  obtain ⟨a1, a2, a3, a4⟩ := gfact hg hc h0 (by omega : x ≤ 1200000000)
  obtain ⟨b1, b2, b3, b4⟩ := gfact hg hc (x := x + k) (by omega) (by omega)
  have hz := V_zero hg
  have hs := gstrict hg h0 (show x + 2 ≤ x + k by omega) (by omega)
  generalize globalv L x = u at *
  generalize globalv L (x + k) = v at *
  have r1 := V_range hg hc (a := u) (b := v - 1) (by omega)
  refine ⟨hs, by omega, ?_⟩
  rcases a4 with a4 | a4
  · subst a4
    have r2 := V_range hg hc (a := 0) (b := v) (by omega)
    omega
  · have r2 := V_range hg hc (a := u - 1) (b := v) (by omega)
    omega
theorem calm2 {L : List Stp} (h : calmB 2000 L) : calm L := fun s hs => by have := h s hs; exact ⟨by omega, by omega⟩
theorem near {L : List Stp} (hg : good L = true) (hc : calmB 2000 L) {x : Int} (h0 : 0 ≤ x) (h1 : x ≤ 4000) : x - 8 ≤ globalv L x ∧ globalv L x ≤ x + 9 := by
  obtain ⟨a1, a2, a3, a4⟩ := gfact hg (calm2 hc) h0 (by omega)
  have hz := V_zero hg
  generalize globalv L x = u at *
  have r1 := V_range2 hg hc (a := 0) (b := u) a1
  rcases a4 with a4 | a4
  · omega
  · by_cases hu : u = 0
    · omega
    · have r2 := V_range2 hg hc (a := 0) (b := u - 1) (by omega)
      omega
end Go.Proofs.YtbhamhhjicehaaaGreatDoor.Clm

/- sampler.Bits and the reference's: what each comes to. -/
namespace Go.Proofs.YtbhamhhjicehaaaGreatDoor.Sam
set_option linter.unusedSimpArgs false
set_option linter.unusedVariables false
open Go Go.AX Go.Proofs Ty Go.Proofs.YtbhamhhjicehaaaGreatDoor.Srt Go.Proofs.YtbhamhhjicehaaaGreatDoor.Wire Go.Proofs.YtbhamhhjicehaaaGreatDoor.Tck
set_option maxHeartbeats 4000000
set_option maxRecDepth 10000

def lk (X : List Sp) (K : List Stp) (N : Int) (i k : Nat) : Bool := lowB X (globalv K (N + 16 * i + 7 + k))
def bitV (X : List Sp) (K : List Stp) (N : Int) (i : Nat) : Bool := !(lk X K N i 0 && lk X K N i 1 || lk X K N i 0 && lk X K N i 2 || lk X K N i 1 && lk X K N i 2)
def bitsR (X : List Sp) (K : List Stp) (N : Int) (i : Nat) : List Bool := rowIf (List.range 11) (fun j _ => bitV X K N j) (fun _ _ => false) i
def bitsV (X : List Sp) (K : List Stp) (f : Int) : List Bool := bitsR X K (localv K f) 11
theorem bitsR_len (X : List Sp) (K : List Stp) (N : Int) (i : Nat) : (bitsR X K N i).length = 11 := rowIf_len.trans List.length_range
theorem bitsR_set (X : List Sp) (K : List Stp) (N : Int) {i : Nat} (hi : i < 11) : (bitsR X K N i).set i (bitV X K N i) = bitsR X K N (i + 1) :=
  rowIf_set (l := List.range 11) (f := fun j _ => bitV X K N j) (x := i) (i := i) (List.getElem?_range hi)
theorem bitsV_get (X : List Sp) (K : List Stp) (f : Int) {i : Nat} (hi : i < 11) : (bitsV X K f)[i]? = some (bitV X K (localv K f) i) := by
  rw [bitsV, bitsR, rowIf_full (by simp), List.getElem?_mapIdx, List.getElem?_range hi]; rfl
def hc (X : List Sp) (K : List Stp) (N : Int) (i : Nat) : Nat → Int
  | 0 => 0
  | k + 1 => hc X K N i k + if lk X K N i k then 0 else 1
theorem hc_bd (X : List Sp) (K : List Stp) (N : Int) (i : Nat) : ∀ k : Nat, 0 ≤ hc X K N i k ∧ hc X K N i k ≤ k
  | 0 => by simp [hc]
  | k + 1 => by
    have := hc_bd X K N i k
    rw [hc]
    split <;> omega
theorem hc_bit (X : List Sp) (K : List Stp) (N : Int) (i : Nat) : decide (3 < 2 * hc X K N i 3) = bitV X K N i := by
  cases h0 : lk X K N i 0 <;> cases h1 : lk X K N i 1 <;> cases h2 : lk X K N i 2 <;> simp [hc, bitV, h0, h1, h2]
theorem local_bd {L : List Stp} (hg : good L = true) (t : Int) : 0 ≤ localv L t ∧ localv L t ≤ 8589934592 := by
  rw [(localv_div hg t).1]
  have h0 := clamp_ge t
  have h1 := clamp_le t
  have := sumT_range h0 (good_R hg).2
  omega
theorem Bits_c (X : List Sp) (K : List Stp) (f : Int) (hg : good K = true) (base : Option Addr) (cap : Nat) (lb : Option Addr) (lc : Nat) (H : AH) (hs : SlcIn H 2 base cap (X.map encP)) (hL : SlcIn H 2 lb lc (K.map enc)) :
    ACalls Tryz.prog 106 #[.slice base X.length cap, .slice lb K.length lc, .int .i64 f] H (fun v H' => v = .agg ((bitsV X K f).map Value.bool).toArray ∧ H = H') := by
  have hN := local_bd hg f
  have hlen := fun i => bitsR_len X K (localv K f) i
  rw [bitsV]
  refine ACalls.enter2 Tryz.func106 rfl Tryz.ntmps106 Tryz.results106 (by simp) ?_; simp (dsimp := false) (maxSteps := 4000000) only [go_sem]
  
  refine AllB.mk fun b6 h_b6 => ?_; have hn_b6 := h_b6; (try simp only [fresh_add, fresh_set, ne_eq] at hn_b6); have hr_b6 := hn_b6; (try simp only [@eq_comm Nat b6] at hr_b6); simp (dsimp := false) (maxSteps := 4000000) only [hlen, hn_b6, hr_b6, go_sem]
  refine (Local_c K f hg lb lc _ (hL.add (by simp only [fresh_add, ne_eq, hn_b6, not_false_eq_true, and_self] : Fresh _ b6))).mono ?_; rintro _ _ ⟨rfl, rfl⟩
  generalize localv K f = N at *
  simp (dsimp := false) (maxSteps := 4000000) only [hlen, hn_b6, hr_b6, go_sem]
  refine AllB.mk fun b8 h_b8 => ?_; have hn_b8 := h_b8; (try simp only [fresh_add, fresh_set, ne_eq] at hn_b8); have hr_b8 := hn_b8; (try simp only [@eq_comm Nat b8] at hr_b8); simp (dsimp := false) (maxSteps := 4000000) only [hlen, hn_b6, hr_b6, hn_b8, hr_b8, go_sem]
  refine AWp.loopo (ι := Nat) (fun i => i ≤ 11) (fun i => [(15, .int .i64 i), (0, .slice base X.length cap), (1, .slice lb K.length lc), (7, .int .i64 N), (6, .pointer (some ⟨b6, 0, none⟩)), (8, .pointer (some ⟨b8, 0, none⟩))])
    (fun i => (H.add b6 (.cells [.bool false, .bool false, .bool false, .bool false, .bool false, .bool false, .bool false, .bool false, .bool false, .bool false, .bool false] 87 11)).add b8 (.cells ((bitsR X K N i).map Value.bool) 87 11)) (fun i => 11 - i) 0 (by omega) (FrLe.of_lks ?_) (AH.le_refl _) fun i hi Q again out => ?_
  · simp (dsimp := false) (maxSteps := 4000000) only [hlen, hn_b6, hr_b6, hn_b8, hr_b8, go_sem]
  by_cases h : (i : Int) < 11
  case neg =>
    obtain rfl : i = 11 := by omega
    simp (dsimp := false) (maxSteps := 4000000) only [h, hlen, hn_b6, hr_b6, hn_b8, hr_b8, go_sem]
    refine out _ _ _ (by simp) ?_
    simp (dsimp := false) (maxSteps := 4000000) only [hlen, hn_b6, hr_b6, hn_b8, hr_b8, go_sem]
    exact ⟨H, (AH.le_add (AH.le_add (AH.le_refl _) ((by simp only [hlen, fresh_add, fresh_set, ne_eq, hn_b6, not_false_eq_true, and_self] : Fresh _ b6).2)) ((by simp only [hlen, fresh_add, fresh_set, ne_eq, hn_b8, not_false_eq_true, and_self] : Fresh _ b8).2)), (by first | exact ⟨rfl, rfl⟩ | rfl)⟩
  have hi' : i < 11 := by omega
  have ee := i64_succ (i := i) (by omega)
  have e1 : IntKind.i64.wrap (16 * (i : Int)) = 16 * i := i64_eq (by omega) (by omega)
  have e2 : IntKind.i64.wrap (N + 16 * i) = N + 16 * i := i64_eq (by omega) (by omega)
  have e3 : IntKind.i64.wrap (N + 16 * i + 7) = N + 16 * i + 7 := i64_eq (by omega) (by omega)
  have hsi : SlcIn ((H.add b6 (.cells [.bool false, .bool false, .bool false, .bool false, .bool false, .bool false, .bool false, .bool false, .bool false, .bool false, .bool false] 87 11)).add b8 (.cells ((bitsR X K N i).map Value.bool) 87 11)) 2 base cap (X.map encP) := ((hs.add (by simp only [fresh_add, ne_eq, hn_b6, not_false_eq_true, and_self] : Fresh _ b6)).add (by simp only [fresh_add, ne_eq, hn_b8, not_false_eq_true, and_self] : Fresh _ b8))
  have hLi : SlcIn ((H.add b6 (.cells [.bool false, .bool false, .bool false, .bool false, .bool false, .bool false, .bool false, .bool false, .bool false, .bool false, .bool false] 87 11)).add b8 (.cells ((bitsR X K N i).map Value.bool) 87 11)) 2 lb lc (K.map enc) := ((hL.add (by simp only [fresh_add, ne_eq, hn_b6, not_false_eq_true, and_self] : Fresh _ b6)).add (by simp only [fresh_add, ne_eq, hn_b8, not_false_eq_true, and_self] : Fresh _ b8))
  simp (dsimp := false) (maxSteps := 4000000) only [h, hlen, hn_b6, hr_b6, hn_b8, hr_b8, go_sem]
  refine AWp.loopo (ι := Nat) (fun k => k ≤ 3) (fun k => [(18, .int .i64 k), (10, .int .i64 (hc X K N i k)), (9, .int .i64 i), (15, .int .i64 i), (0, .slice base X.length cap), (1, .slice lb K.length lc), (7, .int .i64 N), (6, .pointer (some ⟨b6, 0, none⟩)), (8, .pointer (some ⟨b8, 0, none⟩))])
    (fun _ => (H.add b6 (.cells [.bool false, .bool false, .bool false, .bool false, .bool false, .bool false, .bool false, .bool false, .bool false, .bool false, .bool false] 87 11)).add b8 (.cells ((bitsR X K N i).map Value.bool) 87 11)) (fun k => 3 - k) 0 (by omega) (FrLe.of_lks ?_) (AH.le_refl _) fun k hk Q2 again2 out2 => ?_
  · simp (dsimp := false) (maxSteps := 4000000) only [hlen, hn_b6, hr_b6, hn_b8, hr_b8, go_sem]
    rfl
  by_cases h3 : (k : Int) < 3
  · have e4 : IntKind.i64.wrap (N + 16 * i + 7 + k) = N + 16 * i + 7 + k := i64_eq (by omega) (by omega)
    have ek := i64_succ (i := k) (by omega)
    have hb := hc_bd X K N i k
    simp (dsimp := false) (maxSteps := 4000000) only [h3, e1, e2, e3, e4, hlen, hn_b6, hr_b6, hn_b8, hr_b8, go_sem]
    refine (Global_c K (N + 16 * i + 7 + k) hg lb lc _ hLi).mono ?_; rintro _ _ ⟨rfl, rfl⟩
    simp (dsimp := false) (maxSteps := 4000000) only [hlen, hn_b6, hr_b6, hn_b8, hr_b8, go_sem]
    refine (High_c X (globalv K (N + 16 * i + 7 + k)) base cap _ hsi).mono ?_; rintro _ _ ⟨rfl, rfl⟩
    cases hlk : lowB X (globalv K (N + 16 * i + 7 + k)) with
    | true =>
      have e : hc X K N i (k + 1) = hc X K N i k := by rw [hc, lk, hlk]; simp
      simp (dsimp := false) (maxSteps := 4000000) only [ek, hlen, hn_b6, hr_b6, hn_b8, hr_b8, go_sem]
      refine again2 (k + 1) _ _ (by omega) (FrLe.of_lks ?_) (AH.le_refl _) (by omega)
      rw [e]
      simp (dsimp := false) (maxSteps := 4000000) only [hlen, hn_b6, hr_b6, hn_b8, hr_b8, go_sem]
    | false =>
      have e : hc X K N i (k + 1) = hc X K N i k + 1 := by rw [hc, lk, hlk]; simp
      have e5 : IntKind.i64.wrap (hc X K N i k + 1) = hc X K N i k + 1 := i64_eq (by omega) (by omega)
      simp (dsimp := false) (maxSteps := 4000000) only [ek, e5, hlen, hn_b6, hr_b6, hn_b8, hr_b8, go_sem]
      refine again2 (k + 1) _ _ (by omega) (FrLe.of_lks ?_) (AH.le_refl _) (by omega)
      rw [e]
      simp (dsimp := false) (maxSteps := 4000000) only [hlen, hn_b6, hr_b6, hn_b8, hr_b8, go_sem]
  obtain rfl : k = 3 := by omega
  have hb := hc_bd X K N i 3
  have e6 : IntKind.i64.wrap (2 * hc X K N i 3) = 2 * hc X K N i 3 := i64_eq (by omega) (by omega)
  have hbit := hc_bit X K N i
  have hset := bitsR_set X K N hi'
  simp (dsimp := false) (maxSteps := 4000000) only [h3, hlen, hn_b6, hr_b6, hn_b8, hr_b8, go_sem]
  refine out2 _ _ _ (by simp) ?_
  simp (dsimp := false) (maxSteps := 4000000) only [e6, h, (by omega : (0 : Int) ≤ (i : Int)), (by omega : i ≤ 10), hbit, ee, hlen, hn_b6, hr_b6, hn_b8, hr_b8, go_sem]
  exact again (i + 1) _ _ (by omega) (FrLe.of_lks (by simp (dsimp := false) (maxSteps := 4000000) only [hlen, hn_b6, hr_b6, hn_b8, hr_b8, go_sem])) (by rw [← List.map_set, hset]; exact AH.le_refl _) (by omega)
end Go.Proofs.YtbhamhhjicehaaaGreatDoor.Sam

/- the reference's Bits; Hear and the reference's Hear. -/
namespace Go.Proofs.YtbhamhhjicehaaaGreatDoor.Sam
set_option linter.unusedSimpArgs false
set_option linter.unusedVariables false
open Go Go.AX Go.Proofs Ty Go.Proofs.YtbhamhhjicehaaaGreatDoor.Srt Go.Proofs.YtbhamhhjicehaaaGreatDoor.Wire Go.Proofs.YtbhamhhjicehaaaGreatDoor.Tck Go.Proofs.YtbhamhhjicehaaaGreatDoor.Uart
set_option maxHeartbeats 4000000
set_option maxRecDepth 10000

theorem takev_sh (l : List Bool) : ∃ x o e, takev l = .tuple #[.int .u8 x, .bool o, .int .i64 e] := by
  unfold takev
  split
  · exact ⟨_, _, _, rfl⟩
  · exact ⟨_, _, _, rfl⟩
def hearV (X : List Sp) (R : List Sp) (K : List Stp) (a z : Int) : Value := match R.find? (fp a z) with
  | none => .tuple #[.int .u8 0, .bool false, .int .i64 3]
  | some s => takev (bitsV X K s.1)
theorem Hear_c (X : List Sp) (K : List Stp) (a z : Int) (hg : good K = true) (base : Option Addr) (cap : Nat) (lb : Option Addr) (lc : Nat) (H : AH) (hs : SlcIn H 2 base cap (X.map encP)) (hL : SlcIn H 2 lb lc (K.map enc)) (hb : X.length < 100000) :
    ACalls Tryz.prog 63 #[.slice base X.length cap, .slice lb K.length lc, .int .i64 a, .int .i64 z] H (fun v H' => ∃ R, JoinOf X R ∧ v = hearV X R K a z ∧ H = H') := by
  refine ACalls.enter2 Tryz.func63 rfl Tryz.ntmps63 Tryz.results63 (by simp) ?_; simp (dsimp := false) (maxSteps := 4000000) only [go_sem]
  refine (Fall_c X a z base cap H hs hb).mono ?_; rintro _ _ ⟨R, hJ, rfl, rfl⟩
  cases hf : R.find? (fp a z) with
  | none =>
    have e : fallV R a z = (0, false) := by rw [fallV, hf]
    have e2 : hearV X R K a z = .tuple #[.int .u8 0, .bool false, .int .i64 3] := by rw [hearV, hf]
    simp (dsimp := false) (maxSteps := 4000000) only [e, go_sem]
    exact ⟨H, AH.le_refl _, R, hJ, by rw [e2], rfl⟩
  | some s =>
    have e : fallV R a z = (s.1, true) := by rw [fallV, hf]
    have e2 : hearV X R K a z = takev (bitsV X K s.1) := by rw [hearV, hf]
    obtain ⟨x, o, er, ht⟩ := takev_sh (bitsV X K s.1)
    simp (dsimp := false) (maxSteps := 4000000) only [e, go_sem]
    refine (Bits_c X K s.1 hg base cap lb lc H hs hL).mono ?_; rintro _ _ ⟨rfl, rfl⟩
    simp (dsimp := false) (maxSteps := 4000000) only [go_sem]
    refine (Take_c (bitsV X K s.1) (bitsR_len _ _ _ _) H).mono ?_; rintro _ _ ⟨rfl, rfl⟩
    simp (dsimp := false) (maxSteps := 4000000) only [ht, go_sem]
    exact ⟨H, AH.le_refl _, R, hJ, by rw [e2, ht], rfl⟩
end Go.Proofs.YtbhamhhjicehaaaGreatDoor.Sam

/- What is looked at lies in its bit. -/
namespace Go.Proofs.YtbhamhhjicehaaaGreatDoor.Clm
set_option linter.unusedSimpArgs false
set_option linter.unusedVariables false
open Go Go.AX Go.Proofs Ty Go.Proofs.YtbhamhhjicehaaaGreatDoor.Srt Go.Proofs.YtbhamhhjicehaaaGreatDoor.Tck Go.Proofs.YtbhamhhjicehaaaGreatDoor.Send Go.Proofs.YtbhamhhjicehaaaGreatDoor.Wire
set_option maxHeartbeats 4000000
set_option maxRecDepth 10000

theorem look {S K : List Stp} (hs : good S = true) (cs : calm S) (hk : good K = true) (ck : calm K) {n : Int} (h0 : 0 ≤ n) (h1 : n < 1073741824) {i : Nat} (hi : i < 11) {m : Int} (hm0 : 16 * (i : Int) + 7 ≤ m) (hm1 : m ≤ 16 * (i : Int) + 9) :
    (0 ≤ localv K (globalv S n) ∧ localv K (globalv S n) ≤ 1150000000) ∧ globalv S (n + 16 * i) ≤ globalv K (localv K (globalv S n) + m) ∧ globalv K (localv K (globalv S n) + m) < globalv S (n + 16 * i + 16) := by
  have hz := V_zero hk
  have hzs := V_zero hs
  obtain ⟨a1, a2, a3, a4⟩ := gfact hs cs h0 (by omega : n ≤ 1200000000)
  have hN := local_V hk a1 (by omega)
  have hub : globalv S n ≤ 1090000000 := by
    rcases a4 with a4 | a4
    · omega
    · by_cases hu : globalv S n = 0
      · omega
      · have r := V_range hs cs (a := 0) (b := globalv S n - 1) (by omega)
        omega
  have rK := V_range hk ck (a := 0) (b := globalv S n) (by omega)
  have hNb : 0 ≤ localv K (globalv S n) ∧ localv K (globalv S n) ≤ 1150000000 := by omega
  obtain ⟨w1, w2, w3, w4⟩ := gfact hk ck (x := localv K (globalv S n) + m) (by omega) (by omega)
  have ga : globalv S (n + 16 * i) = globalv S n ∨ (globalv S (n + 16 * i) - 1 - globalv S n) * 990000 < 16 * i * 1000000 := by
    by_cases hi0 : i = 0
    · left; subst hi0; simp
    · right
      exact (gap hs cs (x := n) (k := 16 * i) h0 (by omega) (by omega) (by omega)).2.1
  have gb := (gap hs cs (x := n) (k := 16 * i + 16) h0 (by omega) (by omega) (by omega)).2.2
  rw [← Int.add_assoc] at gb
  refine ⟨hNb, ?_⟩
  generalize globalv S (n + 16 * (i : Int) + 16) = b at *
  generalize globalv S (n + 16 * (i : Int)) = a at *
  generalize globalv S n = u at *
  generalize localv K u = N at *
  generalize globalv K (N + m) = w at *
  have hwu : u < w := by
    rcases Int.lt_or_le u w with h | h
    · exact h
    · have r := V_range hk ck h
      omega
  have r1 := V_range hk ck (a := u) (b := w) (by omega)
  have r2 := V_range hk ck (a := u) (b := w - 1) (by omega)
  omega
theorem low_look {S K : List Stp} (hs : good S = true) (cs : calm S) (hk : good K = true) (ck : calm K) {n : Int} (h0 : 0 ≤ n) (h1 : n < 1073741824) {F : List Bool} (hF : F.length = 11) {R : List Sp} {i : Nat} (hi : i < 11) {x : Bool} (hx : F[i]? = some x) {m : Int} (hm0 : 16 * (i : Int) + 7 ≤ m) (hm1 : m ≤ 16 * (i : Int) + 9) (hJ : low R (globalv K (localv K (globalv S n) + m)) ↔ low (fsp S n F 11) (globalv K (localv K (globalv S n) + m))) :
    lowB R (globalv K (localv K (globalv S n) + m)) = !x := by
  obtain ⟨_, l1, l2⟩ := look hs cs hk ck h0 h1 hi hm0 hm1
  generalize globalv K (localv K (globalv S n) + m) = w at *
  cases x with
  | false =>
    rw [Bool.not_false, lowB_iff, hJ]
    exact ⟨bsp S n i, fsp_has hx 11 hi, l1, l2⟩
  | true =>
    rw [Bool.not_true, lowB_not, hJ]
    rintro ⟨s, hsm, s1, s2⟩
    have hin : ∀ {q : Nat}, s ∈ fsp S n F q → ∃ j, j < q ∧ s = bsp S n j ∧ F[j]? = some false := by
      intro q
      induction q with
      | zero => intro h; cases h
      | succ q ih =>
        intro h
        rcases List.mem_append.1 h with h | h
        · obtain ⟨j, hj, e, hf⟩ := ih h
          exact ⟨j, by omega, e, hf⟩
        · split at h
          · rename_i hf
            simp at h
            exact ⟨q, by omega, h, hf⟩
          · cases h
    obtain ⟨j, hj, rfl, hf⟩ := hin hsm
    have hji : j ≠ i := fun e => by subst e; rw [hx] at hf; cases hf
    simp only [bsp] at s1 s2
    rcases Nat.lt_or_gt_of_ne hji with h | h
    · have := gmono hs (show n + 16 * (j : Int) + 16 ≤ n + 16 * i by omega)
      omega
    · have := gmono hs (show n + 16 * (i : Int) + 16 ≤ n + 16 * j by omega)
      omega
end Go.Proofs.YtbhamhhjicehaaaGreatDoor.Clm

/- bus: what each one hears where all oscillators are off by two parts of a thousand at most: just what is sent in each slot. -/
namespace Go.Proofs.YtbhamhhjicehaaaGreatDoor.Bus
set_option linter.unusedSimpArgs false
set_option linter.unusedVariables false
open Go Go.AX Go.Proofs Ty Go.Proofs.YtbhamhhjicehaaaGreatDoor.Srt Go.Proofs.YtbhamhhjicehaaaGreatDoor.Wire Go.Proofs.YtbhamhhjicehaaaGreatDoor.Tck Go.Proofs.YtbhamhhjicehaaaGreatDoor.Send Go.Proofs.YtbhamhhjicehaaaGreatDoor.Clm
open Go.Proofs.YtbhamhhjicehaaaGreatDoor.Sam (bitsV bitsV_get bitV bitsR_len)
open Go.Proofs.YtbhamhhjicehaaaGreatDoor.Prt (frameP frame_len takeP Hd hdP heardO flips flipS flips_len putl_len bit_2046)
open Go.Proofs.YtbhamhhjicehaaaGreatDoor.Uart (putl turnl)
set_option maxHeartbeats 4000000
set_option maxRecDepth 10000

structure Net where
  XS : List (List Ifs.Nf)
  T : List Chk.Tb
  B : List Bool
  P : List Prt.Sp
  KS : List (List Stp)
def Net.fr (N : Net) (slot : Int) : Int × List Bool × Bool := frameP N.XS N.T N.B N.P slot
def Net.osc (N : Net) (n : Int) : List Stp := N.KS.getD n.toNat []
def Net.sp (N : Net) (slot : Int) : List Sp := if (N.fr slot).2.2 = true then fsp (N.osc (N.fr slot).1) (224 * slot) (N.fr slot).2.1 11 else []
def Net.lowN (N : Net) (node t : Int) : Prop := ∃ slot, (1 ≤ slot ∧ slot ≤ 16) ∧ (N.fr slot).1 = node ∧ low (N.sp slot) t
def Net.lowA (N : Net) (t : Int) : Prop := ∃ slot, (1 ≤ slot ∧ slot ≤ 16) ∧ low (N.sp slot) t
structure Net.Ok (N : Net) : Prop where
  osc : ∀ L ∈ N.KS, good L = true ∧ calmB 2000 L
theorem Net.Ok.at_ {N : Net} (h : N.Ok) (n : Int) : good (N.osc n) = true ∧ calmB 2000 (N.osc n) := by
  unfold Net.osc
  rw [List.getD_eq_getElem?_getD]
  cases hn : N.KS[n.toNat]? with
  | none => exact ⟨by decide, fun s hs => by cases hs⟩
  | some L => exact h.osc L (List.mem_of_getElem? hn)
theorem fsp_range {L : List Stp} (hg : good L = true) (hc : calmB 2000 L) {slot : Int} (h1 : 1 ≤ slot ∧ slot ≤ 16) {F : List Bool} {t : Int} (h : low (fsp L (224 * slot) F 11) t) : 224 * slot - 8 ≤ t ∧ t ≤ 224 * slot + 184 ∧ globalv L (224 * slot) ≤ t := by
  obtain ⟨s, hs, h2, h3⟩ := h
  obtain ⟨j, hj, rfl⟩ := fsp_mem hs
  have n1 := near hg hc (x := 224 * slot + 16 * j) (by omega) (by omega)
  have n2 := near hg hc (x := 224 * slot + 16 * j + 16) (by omega) (by omega)
  have n3 := gmono hg (show 224 * slot ≤ 224 * slot + 16 * j by omega)
  simp only [bsp] at h2 h3
  omega
theorem sp_range {N : Net} (hN : N.Ok) {slot : Int} (h1 : 1 ≤ slot ∧ slot ≤ 16) {t : Int} (h : low (N.sp slot) t) : 224 * slot - 8 ≤ t ∧ t ≤ 224 * slot + 184 := by
  unfold Net.sp at h
  split at h
  · have := hN.at_ (N.fr slot).1
    have := fsp_range this.1 this.2 h1 h
    omega
  · obtain ⟨s, hs, _⟩ := h; cases hs
theorem sp_apart {N : Net} (hN : N.Ok) {a b t : Int} (ha : 1 ≤ a ∧ a ≤ 16) (hb : 1 ≤ b ∧ b ≤ 16) (h1 : low (N.sp a) t) (h2 : low (N.sp b) t) : a = b := by
  have := sp_range hN ha h1
  have := sp_range hN hb h2
  omega
theorem low_at {N : Net} (hN : N.Ok) {slot t : Int} (h1 : 1 ≤ slot ∧ slot ≤ 16) (ha : 224 * slot - 39 < t) (hb : t < 224 * slot + 216) : N.lowA t ↔ Wire.low (N.sp slot) t := by
  constructor
  · rintro ⟨s, hs, h⟩
    have := sp_range hN hs h
    obtain rfl : s = slot := by omega
    exact h
  · exact fun h => ⟨slot, h1, h⟩
theorem flips_first (slot : Int) : ∀ (P : List Prt.Sp) {F : List Bool}, F.length = 11 → F[0]? = some false → (flips slot P F)[0]? = some false
  | [], _, _, h => h
  | s :: P, F, hl, h => by
    show (flips slot P (flipS slot F s))[0]? = some false
    refine flips_first slot P (by rw [Prt.flipS_len]; exact hl) ?_
    unfold flipS
    split
    · simp only [turnl, List.getElem?_mapIdx, h, Option.map_some]
      rw [bit_2046 _ (by decide)]; rfl
    · exact h
theorem fr_first {N : Net} {slot : Int} (h : (N.fr slot).2.2 = true) : (N.fr slot).2.1[0]? = some false := by
  unfold Net.fr frameP at h ⊢
  split
  · rename_i hs; rw [hs] at h; cases h
  · rename_i n x hs
    rw [hs] at h
    dsimp only at h ⊢
    split
    · rename_i hb
      rw [if_pos hb] at h
      split
      · rename_i hg; rw [hg] at h; cases h
      · exact flips_first _ _ (putl_len ..) rfl
    · rename_i hb; rw [if_neg hb] at h; cases h
def hearP (R : List Sp) (K : List Stp) (a z : Int) : Int × Bool × Int := match R.find? (fp a z) with
  | none => (0, false, 3)
  | some s => takeP (bitsV R K s.1)
theorem hearV_eq (R : List Sp) (K : List Stp) (a z : Int) : Sam.hearV R R K a z = .tuple #[.int .u8 (hearP R K a z).1, .bool (hearP R K a z).2.1, .int .i64 (hearP R K a z).2.2] := by
  unfold Sam.hearV hearP
  cases R.find? (fp a z) with
  | none => rfl
  | some s => exact Prt.takev_eq _
theorem bits_at {S K : List Stp} (hs : good S = true) (cs : calm S) (hk : good K = true) (ck : calm K) {n : Int} (h0 : 0 ≤ n) (h1 : n < 1073741824) {F : List Bool} (hF : F.length = 11) {R : List Sp}
    (hR : ∀ w, globalv S n ≤ w → w < globalv S (n + 176) → (low R w ↔ low (fsp S n F 11) w)) : bitsV R K (globalv S n) = F := by
  refine List.ext_getElem? fun i => ?_
  have hbl : (bitsV R K (globalv S n)).length = 11 := bitsR_len _ _ _ _
  by_cases hi : i < 11
  · obtain ⟨x, hx⟩ := get_some (l := F) (i := i) (by omega)
    rw [bitsV_get _ _ _ hi, hx]
    have one : ∀ k : Nat, k < 3 → lowB R (globalv K (localv K (globalv S n) + (16 * (i : Int) + 7 + (k : Int)))) = !x := fun k hk3 => by
      have hl := Clm.look hs cs hk ck h0 h1 hi (m := 16 * (i : Int) + 7 + (k : Int)) (by omega) (by omega)
      have g1 := gmono hs (show n ≤ n + 16 * (i : Int) by omega)
      have g2 := gmono hs (show n + 16 * (i : Int) + 16 ≤ n + 176 by omega)
      exact low_look hs cs hk ck h0 h1 hF hi hx (m := 16 * (i : Int) + 7 + (k : Int)) (by omega) (by omega) (hR _ (by omega) (by omega))
    have l0 := one 0 (by omega)
    have l1 := one 1 (by omega)
    have l2 := one 2 (by omega)
    have e : ∀ k : Nat, Sam.lk R K (localv K (globalv S n)) i k = lowB R (globalv K (localv K (globalv S n) + (16 * (i : Int) + 7 + (k : Int)))) := fun k => by
      rw [Sam.lk]; congr 2; omega
    rw [bitV, e, e, e, l0, l1, l2]
    cases x <;> rfl
  · rw [List.getElem?_eq_none (by omega), List.getElem?_eq_none (by omega)]
theorem hear_true {N : Net} (hN : N.Ok) {R : List Sp} (hp : Plain R) (hlow : ∀ t, low R t ↔ N.lowA t) {K : List Stp} (hk : good K = true) (ck : calmB 2000 K) {slot : Int} (h1 : 1 ≤ slot ∧ slot ≤ 16) :
    hearP R K (globalv K (224 * slot - 20)) (globalv K (224 * slot + 20)) = if (N.fr slot).2.2 = true then takeP (N.fr slot).2.1 else (0, false, 3) := by
  have na := near hk ck (x := 224 * slot - 20) (by omega) (by omega)
  have nz := near hk ck (x := 224 * slot + 20) (by omega) (by omega)
  generalize globalv K (224 * slot - 20) = a at *
  generalize globalv K (224 * slot + 20) = z at *
  have hin : ∀ s ∈ R, fp a z s = true → (a ≤ s.1 ∧ s.1 < z) ∧ low (N.sp slot) s.1 := fun s hs h => by
    simp only [fp, Bool.and_eq_true, decide_eq_true_eq] at h
    exact ⟨h, (low_at hN h1 (by omega) (by omega)).1 ((hlow _).1 ⟨s, hs, Int.le_refl _, hp.up s hs⟩)⟩
  by_cases hf : (N.fr slot).2.2 = true
  case neg =>
    rw [if_neg hf]
    have hn : R.find? (fp a z) = none := by
      rw [List.find?_eq_none]
      intro s hs h
      obtain ⟨_, s', hs', _⟩ := hin s hs h
      rw [Net.sp, if_neg hf] at hs'
      cases hs'
    rw [hearP, hn]
  rw [if_pos hf]
  obtain ⟨hg, hc⟩ := hN.at_ (N.fr slot).1
  have hsp : N.sp slot = fsp (N.osc (N.fr slot).1) (224 * slot) (N.fr slot).2.1 11 := by rw [Net.sp, if_pos hf]
  have hF0 := fr_first hf
  have hFl : (N.fr slot).2.1.length = 11 := frame_len ..
  rw [hsp] at hin
  have hla : ∀ {t : Int}, 224 * slot - 39 < t → t < 224 * slot + 216 → (low R t ↔ low (fsp (N.osc (N.fr slot).1) (224 * slot) (N.fr slot).2.1 11) t) := fun ht1 ht2 => by
    rw [hlow, low_at hN h1 ht1 ht2, hsp]
  generalize N.osc (N.fr slot).1 = S at *
  generalize (N.fr slot).2.1 = F at *
  have ng := near hg hc (x := 224 * slot) (by omega) (by omega)
  have ne := near hg hc (x := 224 * slot + 176) (by omega) (by omega)
  have gs := gstrict hg (x := 224 * slot) (y := 224 * slot + 16) (by omega) (by omega) (by omega)
  have hlg : low (fsp S (224 * slot) F 11) (globalv S (224 * slot)) := by
    have := fsp_has (L := S) (t := 224 * slot) hF0 11 (by omega)
    refine ⟨_, this, ?_, ?_⟩
    · simp [bsp]
    · simp only [bsp]
      have e : 224 * slot + 16 * ((0 : Nat) : Int) + 16 = 224 * slot + 16 := by omega
      rw [e]; exact gs
  have hge : ∀ {t : Int}, low (fsp S (224 * slot) F 11) t → globalv S (224 * slot) ≤ t := fun h => (fsp_range hg hc h1 h).2.2
  obtain ⟨s, hsR, hs1, hs2⟩ := (hla (by omega) (by omega)).2 hlg
  have hs : s.1 = globalv S (224 * slot) := by
    by_cases h : s.1 < globalv S (224 * slot)
    · exfalso
      have hl : low R (globalv S (224 * slot) - 1) := ⟨s, hsR, by omega, by omega⟩
      have := hge ((hla (by omega) (by omega)).1 hl)
      omega
    · omega
  have hps : fp a z s = true := by simp only [fp, Bool.and_eq_true, decide_eq_true_eq]; omega
  cases hfd : R.find? (fp a z) with
  | none => exact absurd hps (by simpa using List.find?_eq_none.1 hfd s hsR)
  | some s' =>
    obtain ⟨hp', l1, l2, hR, has⟩ := List.find?_eq_some_iff_append.1 hfd
    have hsR' : s' ∈ R := List.mem_of_find?_eq_some hfd
    have hge' := hge (hin s' hsR' hp').2
    have e : s'.1 = globalv S (224 * slot) := by
      by_cases h : s = s'
      · rw [← h]; exact hs
      · have hm : s ∈ l1 ++ s' :: l2 := hR ▸ hsR
        rcases List.mem_append.1 hm with hm | hm
        · exact absurd hps (by simpa using has s hm)
        · have hm' := (List.mem_cons.1 hm).resolve_left h
          have := hp.apart
          rw [hR, List.pairwise_append] at this
          have h3 := (List.pairwise_cons.1 this.2.1).1 s hm'
          have := hp.up s' hsR'
          omega
    rw [hearP, hfd]
    dsimp only
    rw [e, bits_at hg (calm2 hc) hk (calm2 ck) (by omega) (by omega) hFl (R := R) fun w hw1 hw2 => hla (by omega) (by omega)]
def hdB (R : List Sp) (K : List Stp) : Hd := fun s => if 1 ≤ s ∧ s ≤ 16 then
  (if (hearP R K (globalv K (224 * s - 20)) (globalv K (224 * s + 20))).2.2 = 0 ∧ (hearP R K (globalv K (224 * s - 20)) (globalv K (224 * s + 20))).2.1 = false then some (hearP R K (globalv K (224 * s - 20)) (globalv K (224 * s + 20))).1 else none) else none
theorem hdB_true {N : Net} (hN : N.Ok) {R : List Sp} (hp : Plain R) (hlow : ∀ t, low R t ↔ N.lowA t) {K : List Stp} (hk : good K = true) (ck : calmB 2000 K) : hdB R K = hdP N.XS N.T N.B N.P := by
  funext s
  unfold hdB hdP
  by_cases h : 1 ≤ s ∧ s ≤ 16
  · rw [if_pos h, if_pos h, hear_true hN hp hlow hk ck h]
    unfold heardO
    show _ = if (N.fr s).2.2 = true ∧ (takeP (N.fr s).2.1).2.1 = false ∧ (takeP (N.fr s).2.1).2.2 = 0 then some (takeP (N.fr s).2.1).1 else none
    by_cases hf : (N.fr s).2.2 = true
    · rw [if_pos hf]
      by_cases h1 : (takeP (N.fr s).2.1).2.1 = false <;> by_cases h2 : (takeP (N.fr s).2.1).2.2 = 0 <;> simp [hf, h1, h2]
    · rw [if_neg hf]
      simp [hf]
  · rw [if_neg h, if_neg h]
end Go.Proofs.YtbhamhhjicehaaaGreatDoor.Bus

/- bus: nodes with oscillators in memory; what a node's spans are. -/
namespace Go.Proofs.YtbhamhhjicehaaaGreatDoor.Bus
set_option linter.unusedSimpArgs false
set_option linter.unusedVariables false
open Go Go.AX Go.Proofs Ty Go.Proofs.YtbhamhhjicehaaaGreatDoor.Srt Go.Proofs.YtbhamhhjicehaaaGreatDoor.Wire Go.Proofs.YtbhamhhjicehaaaGreatDoor.Tck Go.Proofs.YtbhamhhjicehaaaGreatDoor.Send Go.Proofs.YtbhamhhjicehaaaGreatDoor.Clm
open Go.Proofs.YtbhamhhjicehaaaGreatDoor.Prt (SR StsIn encS encB1 Frame_c TOk frameP frame_len frameV)
open Go.Proofs.YtbhamhhjicehaaaGreatDoor.Chk (Tb TabIn)
set_option maxHeartbeats 4000000
set_option maxRecDepth 10000

abbrev Sl := Option Addr × Nat × List Stp
def encK (x : Sl) : List Value := [.slice x.1 x.2.2.length x.2.1]
structure OscIn (H : AH) (base : Option Addr) (cap : Nat) (O : List Sl) : Prop where
  out : SlcIn H 1 base cap (O.map encK)
  inn : ∀ x ∈ O, SlcIn H 2 x.1 x.2.1 (x.2.2.map Tck.enc)
theorem OscIn.keep {H A : AH} {base : Option Addr} {cap : Nat} {O : List Sl} (h : OscIn H base cap O) (hK : Keep H A fun _ => False) : OscIn A base cap O :=
  ⟨h.out.keep hK fun _ _ h => h, fun x hx => (h.inn x hx).keep hK fun _ _ h => h⟩
structure Ad where
  bs : Option Addr
  cs : Nat
  bt : Option Addr
  ct : Nat
  bb : Option Addr
  cb : Nat
  bp : Option Addr
  cp : Nat
  bo : Option Addr
  co : Nat
structure NetIn (H : AH) (a : Ad) (S : List SR) (T : List Tb) (B : List Bool) (P : List Prt.Sp) (O : List Sl) : Prop where
  s : StsIn H a.bs a.cs S
  t : TabIn H a.bt a.ct T
  b : SlcIn H 1 a.bb a.cb (B.map encB1)
  p : SlcIn H 2 a.bp a.cp (P.map Prt.encP)
  o : OscIn H a.bo a.co O
  l1 : T.length = S.length
  l2 : B.length = S.length
  l4 : S.length ≤ 32
theorem NetIn.keep {H A : AH} {a : Ad} {S : List SR} {T : List Tb} {B : List Bool} {P : List Prt.Sp} {O : List Sl} (h : NetIn H a S T B P O) (hK : Keep H A fun _ => False) : NetIn A a S T B P O :=
  ⟨h.s.keep hK, h.t.keep hK, h.b.keep hK fun _ _ h => h, h.p.keep hK fun _ _ h => h, h.o.keep hK, h.l1, h.l2, h.l4⟩
def netOf (XS : List (List Ifs.Nf)) (T : List Tb) (B : List Bool) (P : List Prt.Sp) (O : List Sl) : Net := ⟨XS, T, B, P, O.map (·.2.2)⟩
structure May (T : List Tb) (O : List Sl) (n : Nat) : Prop where
  t : TOk T
  l : O.length = n
  g : ∀ x ∈ O, good x.2.2 = true

structure SpOf (X : Int → Prop) (n : Nat) (R : List Sp) : Prop where
  lo : ∀ t, low R t ↔ X t
  len : R.length ≤ n
  ok : ∀ s ∈ R, okSp s = true
theorem okSp_ends {X R : List Sp} (hJ : JoinOf X R) (hX : ∀ s ∈ X, okSp s = true) : ∀ s ∈ R, okSp s = true := fun s hs => by
  obtain ⟨⟨y, hy, e1⟩, z, hz, e2⟩ := hJ.ends s hs
  have h1 := okSp_iff.1 (hX y hy)
  have h2 := okSp_iff.1 (hX z hz)
  rw [okSp_iff]
  omega
theorem SpOf.join {X : Int → Prop} {n : Nat} {Y R : List Sp} (h : SpOf X n Y) (hJ : JoinOf Y R) : SpOf X n R :=
  ⟨fun t => (hJ.same t).trans (h.lo t), Nat.le_trans hJ.small h.len, okSp_ends hJ h.ok⟩
theorem SpOf.app {X Z : Int → Prop} {n m : Nat} {Y R : List Sp} (h : SpOf X n Y) (k : SpOf Z m R) : SpOf (fun t => X t ∨ Z t) (n + m) (Y ++ R) :=
  ⟨fun t => (low_app Y R t).trans (or_congr (h.lo t) (k.lo t)), by rw [List.length_append]; have := h.len; have := k.len; omega, fun s hs => (List.mem_append.1 hs).elim (h.ok s) (k.ok s)⟩
theorem SpOf.congr {X Z : Int → Prop} {n : Nat} {Y : List Sp} (h : SpOf X n Y) (hx : ∀ t, X t ↔ Z t) : SpOf Z n Y := ⟨fun t => (h.lo t).trans (hx t), h.len, h.ok⟩
theorem SpOf.nil {n : Nat} {X : Int → Prop} (h : ∀ t, ¬ X t) : SpOf X n [] := ⟨fun t => ⟨fun ⟨s, hs, _⟩ => (by cases hs), fun hx => absurd hx (h t)⟩, by simp, by simp⟩
theorem SpOf.frame {N : Net} {slot : Int} (hf : (N.fr slot).2.2 = true) {R : List Sp} (hJ : JoinOf (fsp (N.osc (N.fr slot).1) (224 * slot) (N.fr slot).2.1 11) R) : SpOf (fun t => low (N.sp slot) t) 11 R := by
  have e : N.sp slot = fsp (N.osc (N.fr slot).1) (224 * slot) (N.fr slot).2.1 11 := by rw [Net.sp, if_pos hf]
  exact ⟨fun t => by rw [e]; exact hJ.same t, Nat.le_trans hJ.small (fsp_len ..), okSp_ends hJ (fsp_ok _ _ _ _)⟩
def Net.lowTo (N : Net) (node : Int) (i : Nat) (t : Int) : Prop := ∃ slot : Int, (1 ≤ slot ∧ slot < i) ∧ (N.fr slot).1 = node ∧ low (N.sp slot) t
theorem lowTo_one {N : Net} {node t : Int} : ¬ N.lowTo node 1 t := fun ⟨s, h, _⟩ => by omega
theorem lowTo_all {N : Net} {node t : Int} : N.lowTo node 17 t ↔ N.lowN node t := ⟨fun ⟨s, h, k⟩ => ⟨s, by omega, k⟩, fun ⟨s, h, k⟩ => ⟨s, by omega, k⟩⟩
theorem lowTo_no {N : Net} {node : Int} {i : Nat} (h : ¬ ((N.fr i).2.2 = true ∧ (N.fr i).1 = node)) (t : Int) : N.lowTo node i t ↔ N.lowTo node (i + 1) t := by
  constructor
  · rintro ⟨s, h1, h2⟩; exact ⟨s, by omega, h2⟩
  · rintro ⟨s, h1, h2, h3⟩
    by_cases e : s = i
    · subst e
      exfalso
      refine h ⟨?_, h2⟩
      unfold Net.sp at h3
      split at h3
      · assumption
      · obtain ⟨_, hs, _⟩ := h3; cases hs
    · exact ⟨s, by omega, h2, h3⟩
theorem lowTo_yes {N : Net} {node : Int} {i : Nat} (h1i : 1 ≤ i) (h : (N.fr i).1 = node) (t : Int) : N.lowTo node i t ∨ low (N.sp i) t ↔ N.lowTo node (i + 1) t := by
  constructor
  · rintro (⟨s, h1, h2⟩ | h2)
    · exact ⟨s, by omega, h2⟩
    · exact ⟨i, by omega, h, h2⟩
  · rintro ⟨s, h1, h2, h3⟩
    by_cases e : s = i
    · subst e; exact .inr h3
    · exact .inl ⟨s, by omega, h2, h3⟩
theorem fr_node {N : Net} {slot : Int} (h : (N.fr slot).2.2 = true) : ∃ n : Nat, (N.fr slot).1 = n ∧ n < N.T.length := by
  unfold Net.fr frameP at h ⊢
  split
  · rename_i hs; rw [hs] at h; cases h
  · rename_i n x hs
    rw [hs] at h
    dsimp only at h ⊢
    split
    · rename_i hb
      rw [if_pos hb] at h
      split
      · rename_i hg; rw [hg] at h; cases h
      · obtain ⟨t, _, ht, _⟩ := Prt.snd_at hs
        exact ⟨n, rfl, by rw [Nat.sub_zero] at ht; exact Go.AX.lt_of_get ht⟩
    · rename_i hb; rw [if_neg hb] at h; cases h
def Net.lowUp (N : Net) (i : Nat) (t : Int) : Prop := ∃ n : Nat, n < i ∧ N.lowN n t
theorem lowUp_zero {N : Net} {t : Int} : ¬ N.lowUp 0 t := fun ⟨n, h, _⟩ => by omega
theorem lowUp_succ {N : Net} {i : Nat} (t : Int) : N.lowUp i t ∨ N.lowN i t ↔ N.lowUp (i + 1) t := by
  constructor
  · rintro (⟨n, h1, h2⟩ | h2)
    · exact ⟨n, by omega, h2⟩
    · exact ⟨i, by omega, h2⟩
  · rintro ⟨n, h1, h2⟩
    by_cases e : n = i
    · subst e; exact .inr h2
    · exact .inl ⟨n, by omega, h2⟩
theorem lowUp_all {N : Net} {i : Nat} (h : N.T.length ≤ i) (t : Int) : N.lowUp i t ↔ N.lowA t := by
  constructor
  · rintro ⟨n, _, s, h1, _, h2⟩; exact ⟨s, h1, h2⟩
  · rintro ⟨s, h1, h2⟩
    have hf : (N.fr s).2.2 = true := by
      unfold Net.sp at h2
      split at h2
      · assumption
      · obtain ⟨_, hs, _⟩ := h2; cases hs
    obtain ⟨n, e, hn⟩ := fr_node hf
    exact ⟨n, by omega, s, h1, e, h2⟩
end Go.Proofs.YtbhamhhjicehaaaGreatDoor.Bus

/- bus: Sends and Line. -/
namespace Go.Proofs.YtbhamhhjicehaaaGreatDoor.Bus
set_option linter.unusedSimpArgs false
set_option linter.unusedVariables false
open Go Go.AX Go.Proofs Ty Go.Proofs.YtbhamhhjicehaaaGreatDoor.Srt Go.Proofs.YtbhamhhjicehaaaGreatDoor.Wire Go.Proofs.YtbhamhhjicehaaaGreatDoor.Tck Go.Proofs.YtbhamhhjicehaaaGreatDoor.Send Go.Proofs.YtbhamhhjicehaaaGreatDoor.Clm Go.Proofs.YtbhamhhjicehaaaGreatDoor.CatP
open Go.Proofs.YtbhamhhjicehaaaGreatDoor.Prt (SR StsIn encB1 Frame_c TOk frameP frame_len frameV Off)
open Go.Proofs.YtbhamhhjicehaaaGreatDoor.Chk (Tb TabIn)
set_option maxHeartbeats 4000000
set_option maxRecDepth 10000

theorem Sends_c (a : Ad) (S : List SR) (T : List Tb) (B : List Bool) (P : List Prt.Sp) (O : List Sl) (node : Int) (H : AH) (h : NetIn H a S T B P O) (m : May T O S.length) :
    ACalls Tryz.prog 9 #[.slice a.bs S.length a.cs, .slice a.bt T.length a.ct, .slice a.bb B.length a.cb, .slice a.bp P.length a.cp, .slice a.bo O.length a.co, .int .i64 node] H (fun v H' => ∃ R b c, v = .slice b R.length c ∧ Plain R ∧ SpOf ((netOf (S.map (·.X)) T B P O).lowN node) 176 R ∧ SlcIn H' 2 b c (R.map encP) ∧ Keep H H' fun _ => False) := by
  obtain ⟨N, hN⟩ : ∃ N, netOf (S.map (·.X)) T B P O = N := ⟨_, rfl⟩
  have hfrN : ∀ i, N.fr i = frameP (S.map (·.X)) T B P i := fun i => by rw [← hN]; rfl
  have hTN : N.T = T := by rw [← hN]; rfl
  have hosc : ∀ (n : Nat) (x : Sl), O[n]? = some x → N.osc (n : Int) = x.2.2 := fun n x hx => by
    rw [← hN]
    show (O.map (·.2.2)).getD (Int.toNat n) [] = _
    rw [Int.toNat_natCast, List.getD_eq_getElem?_getD, List.getElem?_map, hx]; rfl
  rw [hN]
  refine ACalls.enter2 Tryz.func9 rfl Tryz.ntmps9 Tryz.results9 (by simp) ?_; simp (dsimp := false) (maxSteps := 4000000) only [go_sem]
  refine AWp.loopr (ι := Nat × Option Addr × Nat × List Sp) (fun s A => (1 ≤ s.1 ∧ s.1 ≤ 17) ∧ SpOf (N.lowTo node s.1) (11 * (s.1 - 1)) s.2.2.2 ∧ OwnS H A 85 2 s.2.1 s.2.2.1 (s.2.2.2.map encP) ∧ Keep H A fun _ => False)
    (fun s => [(14, .int .i64 s.1), (13, .slice s.2.1 s.2.2.2.length s.2.2.1), (0, .slice a.bs S.length a.cs), (1, .slice a.bt T.length a.ct), (2, .slice a.bb B.length a.cb), (3, .slice a.bp P.length a.cp), (4, .slice a.bo O.length a.co), (5, .int .i64 node)]) (fun s => 17 - s.1) (1, none, 0, []) _
    ⟨by simp, SpOf.nil fun t => lowTo_one, OwnS.nil, Keep.refl⟩ (FrLe.of_lks ?_) (AH.le_refl _) fun s A hV Q again out => ?_
  · simp (dsimp := false) (maxSteps := 4000000) only [go_sem]
  
  obtain ⟨i, base, cap, Y⟩ := s
  obtain ⟨hi, hY, hO, hK⟩ := hV
  dsimp only at hi hY hO again ⊢
  have hYl := hY.len
  by_cases hlt : (i : Int) ≤ 16
  case neg =>
    obtain rfl : i = 17 := by omega
    simp (dsimp := false) (maxSteps := 4000000) only [hlt, go_sem]
    refine out _ _ _ (by simp) ?_
    simp (dsimp := false) (maxSteps := 4000000) only [go_sem]
    refine AllB.mk fun b1 h_b1 => ?_
    simp (dsimp := false) (maxSteps := 4000000) only [go_sem]
    refine (Join1_c h_b1 hO.slc (by omega)).mono ?_
    rintro _ A2 ⟨R, b, c, rfl, hJ, hR, hK2⟩
    simp (dsimp := false) (maxSteps := 4000000) only [go_sem]
    exact ⟨A2, AH.le_refl _, R, b, c, rfl, hJ.plain, (hY.join hJ).congr fun t => lowTo_all, hR, hK.trans hK2⟩
  have hA := h.keep hK
  have ee := i64_succ (i := i) (by omega)
  have e224 : IntKind.i64.wrap (224 * (i : Int)) = 224 * (i : Int) := i64_eq (by omega) (by omega)
  have hl1 := h.l1
  have hl2 := h.l2
  have hFr := Frame_c S T B P a.bs a.bt a.bb a.bp a.cs a.ct a.cb a.cp (i : Int) A hA.s hA.t hA.b hA.p m.t (by omega) (by omega)
  have hFl := frame_len (S.map (·.X)) T B P i
  rw [← hfrN] at hFr hFl
  have hnode := fr_node (N := N) (slot := i)
  have hfrm := SpOf.frame (N := N) (slot := i)
  have hno := lowTo_no (N := N) (node := node) (i := i)
  have hyes := lowTo_yes (N := N) (node := node) (i := i) (by omega)
  obtain ⟨n, F, ok, hfr⟩ : ∃ n F ok, N.fr i = (n, F, ok) := ⟨_, _, _, rfl⟩
  rw [hfr] at hFr hFl hnode hfrm hno hyes
  unfold frameV at hFr
  dsimp only at hFr hFl hnode hfrm hno hyes
  have hmf : (F.map Value.bool).length = 11 := by simp [hFl]
  have hms : (F.map Value.bool).all scal = true := by rw [List.all_map, List.all_eq_true]; exact fun _ _ => rfl
  have hlp : lput [Value.bool false, Value.bool false, Value.bool false, Value.bool false, Value.bool false, Value.bool false, Value.bool false, Value.bool false, Value.bool false, Value.bool false, Value.bool false] 0 (F.map Value.bool) = F.map Value.bool := by
    match F, hFl with
    | [_, _, _, _, _, _, _, _, _, _, _], _ => rfl
  simp (dsimp := false) (maxSteps := 4000000) only [hlt, go_sem]
  refine hFr.mono ?_
  rintro _ _ ⟨rfl, rfl⟩
  simp (dsimp := false) (maxSteps := 4000000) only [hFl, hms, hlp, go_sem]
  refine AllB.mk fun b16 h_b16 => ?_; have hn_b16 := h_b16; (try simp only [fresh_add, fresh_set, ne_eq] at hn_b16); have hr_b16 := hn_b16; (try simp only [@eq_comm Nat b16] at hr_b16); simp (dsimp := false) (maxSteps := 4000000) only [hn_b16, hr_b16, go_sem]
  simp (dsimp := false) (maxSteps := 4000000) only [hFl, hms, hlp, hn_b16, hr_b16, go_sem]
  have next : ¬ (ok = true ∧ n = node) → SpOf (N.lowTo node (i + 1)) (11 * (i + 1 - 1)) Y := fun hh => by
    have := hY.congr (hno hh)
    exact ⟨this.lo, by omega, this.ok⟩
  cases ok with
  | false =>
    simp (dsimp := false) (maxSteps := 4000000) only [ee, hn_b16, hr_b16, go_sem]
    exact again (i + 1, base, cap, Y) _ A _ ⟨by dsimp only; omega, next (by simp), hO, hK⟩ (FrLe.of_lks (by simp (dsimp := false) (maxSteps := 4000000) only [hn_b16, hr_b16, go_sem])) (AH.le_add (AH.le_refl _) h_b16.2) (by dsimp only; omega)
  | true =>
    by_cases hn : n = node
    case neg =>
      simp (dsimp := false) (maxSteps := 4000000) only [hn, ee, hn_b16, hr_b16, go_sem]
      exact again (i + 1, base, cap, Y) _ A _ ⟨by dsimp only; omega, next (by simp [hn]), hO, hK⟩ (FrLe.of_lks (by simp (dsimp := false) (maxSteps := 4000000) only [hn_b16, hr_b16, go_sem])) (AH.le_add (AH.le_refl _) h_b16.2) (by dsimp only; omega)
    subst hn
    obtain ⟨k, rfl, hkT⟩ := hnode rfl
    rw [hTN] at hkT
    have hl := m.l
    obtain ⟨⟨lb, lc, L⟩, hx⟩ := get_some (l := O) (i := k) (by omega)
    have hgL : good L = true := m.g _ (List.mem_of_getElem? hx)
    rw [hosc k _ hx] at hfrm
    dsimp only at hfrm
    have k16 : Keep A (A.add b16 (.cells (F.map Value.bool) 87 11)) fun _ => False := Keep.add h_b16
    have hOA := hA.o
    obtain ⟨q, o, hq, _, rL⟩ := h.o.out.get (map_get (f := encK) hx)
    have rL := rL 0 _ rfl
    simp only [Nat.add_zero, Nat.mul_one] at rL
    have hk0 : (0 : Int) ≤ (k : Int) := by omega
    have hkO : (k : Int) < O.length := by omega
    have hle0 : H.le (A.add b16 (.cells (F.map Value.bool) 87 11)) := (hK.trans k16).all
    simp (dsimp := false) (maxSteps := 4000000) only [hn_b16, hr_b16, go_sem]
    refine AWp.gen [.pu, .pu, .pu, .pu, .rd, .pu, .pu, .ch, .ch, .ch, .pu] [0, 0, 0, 6, 14, 0, 32, 0, 254, 511, 1023] 8 (H) mixed (by kernel_rfl) (hle0) ?_
    simp (dsimp := false) (maxSteps := 4000000) only [hk0, hkO, hq, rL, e224, hmf, hle0, hn_b16, hr_b16, go_sem]
    refine (Spans_c L (224 * (i : Int)) (by omega) (by omega) F hFl hgL lb lc _ ((hOA.inn _ (List.mem_of_getElem? hx)).keep k16 fun _ _ h => h)).mono ?_
    rintro _ A1 ⟨R, b, c, rfl, hJ, hR, hK1⟩
    have hKA := k16.trans hK1
    have hle := (hK.trans hKA).all
    have hO1 := hO.keep hKA fun _ _ h => h
    have hRl : R.length ≤ 11 := Nat.le_trans hJ.small (fsp_len ..)
    simp (dsimp := false) (maxSteps := 4000000) only [hle, hn_b16, hr_b16, go_sem]
    refine APD.growS (a := b) (m := R.length) (c := c) (R' := R.map encP) hO1 (hK.trans hKA).all se_36 rfl (by decide) (by decide) (by rw [Tryz.underlying36]; rfl) (by simp) (by simp) hR (rowsP _) (scalP _) (by omega) fun base2 cap2 A' hO' hK' hN' => ?_
    refine ⟨_, AH.le_refl _, ?_⟩
    have hK2 := (hK.trans hKA).ow hK' fun b ⟨a, ha, e⟩ => e ▸ hO.fresh a ha
    have hle2 := hK2.all
    rw [← List.map_append] at hO'
    have hY2 : SpOf (N.lowTo k (i + 1)) (11 * (i + 1 - 1)) (Y ++ R) := by
      have h1 := (hY.app (hfrm rfl hJ)).congr (hyes rfl)
      exact ⟨h1.lo, by have := h1.len; omega, h1.ok⟩
    simp (dsimp := false) (maxSteps := 4000000) only [hle2, ee, hn_b16, hr_b16, go_sem]
    refine again (i + 1, base2, cap2, Y ++ R) _ A' _ ⟨by dsimp only; omega, hY2, hO', hK2⟩ (FrLe.of_lks ?_) (AH.le_refl _) (by dsimp only; omega)
    rw [List.length_append]
    simp (dsimp := false) (maxSteps := 4000000) only [hn_b16, hr_b16, go_sem]
theorem slc_off {H A : AH} {b base : Option Addr} {c e cap : Nat} {R : List Sp} {Z : List Ls} (hR : SlcIn A 2 b c (R.map encP)) (h0 : R ≠ []) (hO : OwnS H A e 1 base cap (Z.map CatP.encS)) : ∀ x, b = some x → Off base x.block := fun x hx y hy e2 => by
  obtain ⟨r, hr⟩ := get_some (l := R) (i := 0) (List.length_pos_iff.2 h0)
  obtain ⟨q, o, hq, _, hrd⟩ := hR.get (map_get (f := encP) hr)
  have h1 := hrd 0 _ rfl
  rcases hO.at_ with ⟨h2, _⟩ | ⟨bb, bs, h2, hf, _⟩
  · rw [h2] at hy; cases hy
  · rw [h2] at hy; cases hy
    rw [hx] at hq; cases hq
    dsimp only at e2
    subst e2
    rw [rd_find hf] at h1
    have hm := List.mem_of_getElem? h1
    obtain ⟨l, hl, hv⟩ := List.mem_flatten.1 hm
    obtain ⟨z, _, rfl⟩ := List.mem_map.1 hl
    simp [CatP.encS, encP] at hv
theorem Line_c (a : Ad) (S : List SR) (T : List Tb) (B : List Bool) (P : List Prt.Sp) (O : List Sl) (H : AH) (h : NetIn H a S T B P O) (m : May T O S.length) :
    ACalls Tryz.prog 13 #[.slice a.bs S.length a.cs, .slice a.bt T.length a.ct, .slice a.bb B.length a.cb, .slice a.bp P.length a.cp, .slice a.bo O.length a.co] H (fun v H' => ∃ R b c, v = .slice b R.length c ∧ Plain R ∧ SpOf (netOf (S.map (·.X)) T B P O).lowA 5632 R ∧ SlcIn H' 2 b c (R.map encP) ∧ Keep H H' fun _ => False) := by
  have hsend := fun (A : AH) (hK : Keep H A fun _ => False) (node : Int) => Sends_c a S T B P O node A (h.keep hK) m
  obtain ⟨N, hN⟩ : ∃ N, netOf (S.map (·.X)) T B P O = N := ⟨_, rfl⟩
  have hTN : N.T.length = S.length := by rw [← hN]; exact h.l1
  rw [hN] at hsend ⊢
  have hl4 := h.l4
  refine ACalls.enter2 Tryz.func13 rfl Tryz.ntmps13 Tryz.results13 (by simp) ?_; simp (dsimp := false) (maxSteps := 4000000) only [go_sem]
  refine AWp.loopr (ι := Nat × Option Addr × Nat × List Ls) (fun s A => s.1 ≤ S.length ∧ s.2.2.2.length = s.1 ∧ SpOf (N.lowUp s.1) (176 * s.1) (tot s.2.2.2 s.1) ∧ OwnS H A 36 1 s.2.1 s.2.2.1 (s.2.2.2.map CatP.encS) ∧ (Keep H A fun _ => False) ∧ ∀ z ∈ s.2.2.2, SlcIn A 2 z.1 z.2.1 (z.2.2.map encP) ∧ (z.2.2 = [] ∨ ∀ x, z.1 = some x → Off s.2.1 x.block))
    (fun s => [(15, .int .i64 s.1), (14, .int .i64 S.length), (11, .slice s.2.1 s.1 s.2.2.1), (0, .slice a.bs S.length a.cs), (1, .slice a.bt T.length a.ct), (2, .slice a.bb B.length a.cb), (3, .slice a.bp P.length a.cp), (4, .slice a.bo O.length a.co)]) (fun s => S.length - s.1) (0, none, 0, []) _
    ⟨by simp, rfl, SpOf.nil fun t => lowUp_zero, OwnS.nil, Keep.refl, by simp⟩ (FrLe.of_lks ?_) (AH.le_refl _) fun s A hV Q again out => ?_
  · simp (dsimp := false) (maxSteps := 4000000) only [go_sem]
  
  obtain ⟨i, base, cap, Z⟩ := s
  obtain ⟨hi, hZ, hY, hO, hK, hin⟩ := hV
  dsimp only at hi hZ hY hO hin again ⊢
  by_cases hlt : (i : Int) < S.length
  case neg =>
    obtain rfl : i = S.length := by omega
    simp (dsimp := false) (maxSteps := 4000000) only [hlt, go_sem]
    refine out _ _ _ (by simp) ?_
    simp (dsimp := false) (maxSteps := 4000000) only [go_sem]
    rw [← hZ] at hY ⊢
    have hlen := hY.len
    refine (Join_c Z base cap A ⟨hO.slc, fun z hz => (hin z hz).1⟩ (by omega)).mono ?_
    rintro _ A2 ⟨R, b, c, rfl, hJ, hR, hK2⟩
    simp (dsimp := false) (maxSteps := 4000000) only [go_sem]
    have hR2 := (hY.join hJ).congr fun t => lowUp_all (by omega) t
    exact ⟨A2, AH.le_refl _, R, b, c, rfl, hJ.plain, ⟨hR2.lo, by have := hR2.len; omega, hR2.ok⟩, hR, hK.trans hK2⟩
  have ee := i64_succ (i := i) (by omega)
  simp (dsimp := false) (maxSteps := 4000000) only [hlt, go_sem]
  refine (hsend A hK (i : Int)).mono ?_
  rintro _ A1 ⟨R, b, c, rfl, hpl, hsp, hR, hK1⟩
  simp (dsimp := false) (maxSteps := 4000000) only [go_sem]
  refine AllB.mk fun bx hbx => ?_
  simp (dsimp := false) (maxSteps := 4000000) only [go_sem]
  have hO1 := hO.keep hK1 (fun _ _ h => h)
  have hKA := hK.trans hK1
  refine APD.growW (x := .slice (some ⟨bx, 0, none⟩) 1 1) (R' := [CatP.encS (b, c, R)]) (m := 1) (hO1.added hbx) (hKA.nw hbx).all se_94 rfl (by decide) (by rw [Tryz.underlying94]; rfl) (by simp [hZ]) rfl rfl (by rw [srow_some, row_add_self]; rfl) (by simp [CatP.encS]) (by simp [CatP.encS, scal]) (by omega) fun base2 cap2 A' hO' hK' hN' => ?_
  have hK2 := (hKA.nw hbx).ow hK' fun b ⟨a, ha, e⟩ => e ▸ hO.fresh a ha
  have hadd : Keep A1 (A1.add bx (.cells [.slice b R.length c] 36 1)) fun _ => False := Keep.add hbx
  have keepZ : ∀ z : Ls, SlcIn A1 2 z.1 z.2.1 (z.2.2.map encP) → (z.2.2 = [] ∨ ∀ x, z.1 = some x → Off base x.block) → SlcIn A' 2 z.1 z.2.1 (z.2.2.map encP) ∧ (z.2.2 = [] ∨ ∀ x, z.1 = some x → Off base2 x.block) := fun z hz ho => by
    by_cases h0 : z.2.2 = []
    · rw [h0]; exact ⟨SlcIn.empty, .inl rfl⟩
    have ho := ho.resolve_left h0
    refine ⟨(hz.keep hadd fun _ _ h => h).keep hK' fun x hx ⟨y, hy, e⟩ => ho x hx y hy e.symm, .inr fun x hx y hy e => ?_⟩
    rcases hN' y hy with ⟨y', h1, h2⟩ | hf
    · exact ho x hx y' h1 (h2 ▸ e)
    · rcases hz.apart (hadd.fr hf) with h3 | h3
      · exact h0 (List.map_eq_nil_iff.1 h3)
      · exact h3 x hx e.symm
  have hin2 : ∀ z ∈ Z ++ [(b, c, R)], SlcIn A' 2 z.1 z.2.1 (z.2.2.map encP) ∧ (z.2.2 = [] ∨ ∀ x, z.1 = some x → Off base2 x.block) := fun z hz => by
    rcases List.mem_append.1 hz with hz | hz
    · exact keepZ z ((hin z hz).1.keep hK1 fun _ _ h => h) (hin z hz).2
    · obtain rfl := List.mem_singleton.1 hz
      refine keepZ _ hR ?_
      by_cases h0 : R = []
      · exact .inl h0
      · exact .inr (slc_off hR h0 hO1)
  have hY2 : SpOf (N.lowUp (i + 1)) (176 * (i + 1)) (tot (Z ++ [(b, c, R)]) (i + 1)) := by
    have e1 : tot (Z ++ [(b, c, R)]) (i + 1) = tot Z i ++ R := by
      rw [tot, tot, List.take_of_length_le (by simp [hZ]), List.take_of_length_le (by omega)]; simp
    rw [e1]
    have h1 := (hY.app hsp).congr fun t => lowUp_succ t
    exact ⟨h1.lo, by have := h1.len; omega, h1.ok⟩
  simp (dsimp := false) (maxSteps := 4000000) only [ee, go_sem]
  exact ⟨A', AH.le_refl _, again (i + 1, base2, cap2, Z ++ [(b, c, R)]) _ A' _ ⟨by dsimp only; omega, by simp [hZ], hY2, by rw [List.map_append]; exact hO', hK2, hin2⟩ (FrLe.of_lks (by simp (dsimp := false) (maxSteps := 4000000) only [go_sem])) (AH.le_refl _) (by dsimp only; omega)⟩
end Go.Proofs.YtbhamhhjicehaaaGreatDoor.Bus

/- bus: whether oscillators are calm; what a node hears. -/
namespace Go.Proofs.YtbhamhhjicehaaaGreatDoor.Bus
set_option linter.unusedSimpArgs false
set_option linter.unusedVariables false
open Go Go.AX Go.Proofs Ty Go.Proofs.YtbhamhhjicehaaaGreatDoor.Srt Go.Proofs.YtbhamhhjicehaaaGreatDoor.Wire Go.Proofs.YtbhamhhjicehaaaGreatDoor.Tck Go.Proofs.YtbhamhhjicehaaaGreatDoor.Send Go.Proofs.YtbhamhhjicehaaaGreatDoor.Clm
open Go.Proofs.YtbhamhhjicehaaaGreatDoor.Prt (Hd hents hents_new hents_hm Hm ki)
set_option maxHeartbeats 4000000
set_option maxRecDepth 10000

theorem Good_c (L : List Stp) (base : Option Addr) (cap : Nat) (H : AH) (hs : SlcIn H 2 base cap (L.map enc)) :
    ACalls Tryz.prog 58 #[.slice base L.length cap] H (fun v H' => v = .bool (good L) ∧ H = H') := by
  have hle := hs.le
  have hbig := hs.big
  simp only [List.length_map] at hle hbig
  refine ACalls.enter2 Tryz.func58 rfl Tryz.ntmps58 Tryz.results58 (by simp) ?_; simp (dsimp := false) (maxSteps := 4000000) only [go_sem]
  by_cases h64 : (64 : Int) < L.length
  · simp (dsimp := false) (maxSteps := 4000000) only [h64, go_sem]
    exact ⟨H, (AH.le_refl _), (by first | exact ⟨by unfold good; rw [decide_eq_false (by omega)]; rfl, rfl⟩ | rfl)⟩
  · simp (dsimp := false) (maxSteps := 4000000) only [h64, go_sem]
    refine AWp.loopo (ι := Nat × Int) (fun p => p.1 ≤ L.length ∧ goodR (-1) L = goodR p.2 (L.drop p.1)) (fun p => [(11, .int .i64 p.1), (3, .int .i64 p.2), (10, .int .i64 L.length), (9, .slice base L.length cap)])
      (fun _ => H) (fun p => L.length - p.1) (0, -1) ⟨by simp, rfl⟩ (FrLe.of_lks ?_) (AH.le_refl _) fun p hi Q again out => ?_
    · simp (dsimp := false) (maxSteps := 4000000) only [go_sem]
    · obtain ⟨i, last⟩ := p
      obtain ⟨hi, hg⟩ := hi
      simp only at hi hg ⊢
      by_cases h : (i : Int) < L.length
      · obtain ⟨s, hx⟩ := get_some (l := L) (i := i) (by omega)
        obtain ⟨b, o, rfl, hrow, hrd⟩ := hs.get (map_get (f := enc) hx)
        have e1 := i64_succ (i := i) (by omega)
        rw [drop_cons hx] at hg
        unfold enc at hrow
        simp (dsimp := false) (maxSteps := 4000000) only [h, hrow, go_sem]
        
        refine AllB.mk fun b1 h_b1 => ?_; have hn_b1 := h_b1; (try simp only [fresh_add, fresh_set, ne_eq] at hn_b1); have hr_b1 := hn_b1; (try simp only [@eq_comm Nat b1] at hr_b1); simp (dsimp := false) (maxSteps := 4000000) only [hn_b1, hr_b1, go_sem]
        by_cases c1 : s.at_ ≤ last
        · simp (dsimp := false) (maxSteps := 4000000) only [c1, hn_b1, hr_b1, go_sem]
          refine out _ _ _ (by simp) ?_
          simp (dsimp := false) (maxSteps := 4000000) only [hn_b1, hr_b1, go_sem]
          exact ⟨H, (AH.le_add (AH.le_refl _) ((by simp only [fresh_add, fresh_set, ne_eq, hn_b1, not_false_eq_true, and_self] : Fresh _ b1).2)), (by first | exact ⟨by rw [good_bad hg (.inl c1)], rfl⟩ | rfl)⟩
        by_cases c2 : 4294967296 < s.at_
        · simp (dsimp := false) (maxSteps := 4000000) only [c1, c2, hn_b1, hr_b1, go_sem]
          refine out _ _ _ (by simp) ?_
          simp (dsimp := false) (maxSteps := 4000000) only [hn_b1, hr_b1, go_sem]
          exact ⟨H, (AH.le_add (AH.le_refl _) ((by simp only [fresh_add, fresh_set, ne_eq, hn_b1, not_false_eq_true, and_self] : Fresh _ b1).2)), (by first | exact ⟨by rw [good_bad hg (.inr (.inl c2))], rfl⟩ | rfl)⟩
        by_cases c3 : s.rate < -20000
        · simp (dsimp := false) (maxSteps := 4000000) only [c1, c2, c3, hn_b1, hr_b1, go_sem]
          refine out _ _ _ (by simp) ?_
          simp (dsimp := false) (maxSteps := 4000000) only [hn_b1, hr_b1, go_sem]
          exact ⟨H, (AH.le_add (AH.le_refl _) ((by simp only [fresh_add, fresh_set, ne_eq, hn_b1, not_false_eq_true, and_self] : Fresh _ b1).2)), (by first | exact ⟨by rw [good_bad hg (.inr (.inr (.inl c3)))], rfl⟩ | rfl)⟩
        by_cases c4 : 20000 < s.rate
        · simp (dsimp := false) (maxSteps := 4000000) only [c1, c2, c3, c4, hn_b1, hr_b1, go_sem]
          refine out _ _ _ (by simp) ?_
          simp (dsimp := false) (maxSteps := 4000000) only [hn_b1, hr_b1, go_sem]
          exact ⟨H, (AH.le_add (AH.le_refl _) ((by simp only [fresh_add, fresh_set, ne_eq, hn_b1, not_false_eq_true, and_self] : Fresh _ b1).2)), (by first | exact ⟨by rw [good_bad hg (.inr (.inr (.inr c4)))], rfl⟩ | rfl)⟩
        simp (dsimp := false) (maxSteps := 4000000) only [c1, c2, c3, c4, e1, hn_b1, hr_b1, go_sem]
        refine again (i + 1, s.at_) _ _ ⟨by simp only; omega, ?_⟩ (FrLe.of_lks (by simp (dsimp := false) (maxSteps := 4000000) only [hn_b1, hr_b1, go_sem])) (AH.le_add (AH.le_refl _) ((by simp only [fresh_add, fresh_set, ne_eq, hn_b1, not_false_eq_true, and_self] : Fresh _ b1).2)) (by simp only; omega)
        rw [hg]; simp only [goodR, okS_ok (last := last) (s := s) (by omega), Bool.true_and]
      · have hiL : i = L.length := by omega
        rw [hiL, List.drop_length] at hg
        
        simp (dsimp := false) (maxSteps := 4000000) only [h, go_sem]
        refine out _ _ _ (by simp) ?_
        simp (dsimp := false) (maxSteps := 4000000) only [go_sem]
        refine ⟨H, AH.le_refl _, ?_, rfl⟩
        rw [good_end hg, decide_eq_true (by omega)]

def IxS (g : Stp → Bool) (L : List Stp) (r : Int) : Prop := (r = -1 ∧ ∀ x ∈ L, g x = false) ∨ ∃ (i : Nat) (x : Stp), L[i]? = some x ∧ g x = true ∧ r = i ∧ ∀ j, j < i → ∀ y, L[j]? = some y → g y = false
theorem IndexS_g {g : Stp → Bool} {fid : Nat} {caps : List Value} {L : List Stp} {n : Nat} {base : Option Addr} {cap : Nat} {H : AH} (hs : SlcIn H 2 base cap (L.map Tck.enc)) (hn : n = L.length) (hok : fnOk Tryz.prog fid = true)
    (hf : ∀ x ∈ L, ACalls Tryz.prog fid ([] ++ [Value.agg (Tck.enc x).toArray] ++ caps).toArray H (fun v H' => v = .bool (g x) ∧ H = H')) :
    ACalls Tryz.prog 101 #[.slice base n cap, .func (.func fid) #[] caps.toArray] H (fun v H' => ∃ r : Int, v = .int .i64 r ∧ IxS g L r ∧ H = H') := by
  subst hn
  have hbig := hs.big
  simp only [List.length_map] at hbig
  refine ACalls.enter2 Tryz.func101 rfl Tryz.ntmps101 Tryz.results101 (by simp) ?_; simp (dsimp := false) (maxSteps := 4000000) only [go_sem]
  refine AWp.loopo (ι := Nat) (fun i => i ≤ L.length ∧ ∀ j, j < i → ∀ y, L[j]? = some y → g y = false) (fun i => [(8, .int .i64 i), (7, .int .i64 L.length), (0, .slice base L.length cap), (1, .func (.func fid) #[] caps.toArray)])
    (fun _ => H) (fun i => L.length - i) 0 ⟨by omega, fun j hj => by omega⟩ (FrLe.of_lks ?_) (AH.le_refl _) fun i hi Q again out => ?_
  · simp (dsimp := false) (maxSteps := 4000000) only [go_sem]
  · obtain ⟨hi, hall⟩ := hi
    by_cases h : (i : Int) < L.length
    · obtain ⟨x, hx⟩ := get_some (l := L) (i := i) (by omega)
      obtain ⟨b, o, rfl, hrow, _⟩ := hs.get (map_get (f := Tck.enc) hx)
      have ee := i64_succ (i := i) (by omega)
      simp (dsimp := false) (maxSteps := 4000000) only [h, hrow, hok, go_sem]
      refine (hf x (List.mem_of_getElem? hx)).mono ?_; rintro _ _ ⟨rfl, rfl⟩
      cases hb : g x with
      | true =>
        simp (dsimp := false) (maxSteps := 4000000) only [go_sem]
        refine out _ _ _ (by simp) ?_
        simp (dsimp := false) (maxSteps := 4000000) only [go_sem]
        exact ⟨H, (by (repeat (first | exact AH.le_refl _ | refine AH.le_add ?_ ?_)); all_goals (first | exact AH.le_refl _ | (show AH.find _ _ = _; simp only [find_add_self, find_add_ne, find_fresh, fresh_add, fresh_set, ne_eq, not_false_eq_true, true_and, and_true, and_self]))), _, rfl, .inr ⟨i, x, hx, hb, rfl, hall⟩, rfl⟩
      | false =>
        simp (dsimp := false) (maxSteps := 4000000) only [ee, go_sem]
        refine again (i + 1) _ _ ⟨by omega, fun j hj m hm => ?_⟩ (FrLe.of_lks (by simp (dsimp := false) (maxSteps := 4000000) only [go_sem])) (AH.le_refl _) (by omega)
        by_cases hji : j = i
        · subst hji; rw [hx] at hm; cases hm; exact hb
        · exact hall j (by omega) m hm
    · simp (dsimp := false) (maxSteps := 4000000) only [h, go_sem]
      refine out _ _ _ (by simp) ?_
      simp (dsimp := false) (maxSteps := 4000000) only [go_sem]
      exact ⟨H, (by (repeat (first | exact AH.le_refl _ | refine AH.le_add ?_ ?_)); all_goals (first | exact AH.le_refl _ | (show AH.find _ _ = _; simp only [find_add_self, find_add_ne, find_fresh, fresh_add, fresh_set, ne_eq, not_false_eq_true, true_and, and_true, and_self]))), _, rfl, .inl ⟨rfl, fun y hy => by
        obtain ⟨j, hj⟩ := List.mem_iff_getElem?.1 hy
        exact hall j (by have := lt_of_get hj; omega) y hj⟩, rfl⟩
theorem ContainsS_g {g : Stp → Bool} {fid : Nat} {caps : List Value} {L : List Stp} {n : Nat} {base : Option Addr} {cap : Nat} {H : AH} (hs : SlcIn H 2 base cap (L.map Tck.enc)) (hn : n = L.length) (hok : fnOk Tryz.prog fid = true)
    (hf : ∀ x ∈ L, ACalls Tryz.prog fid ([] ++ [Value.agg (Tck.enc x).toArray] ++ caps).toArray H (fun v H' => v = .bool (g x) ∧ H = H')) :
    ACalls Tryz.prog 59 #[.slice base n cap, .func (.func fid) #[] caps.toArray] H (fun v H' => v = .bool (L.any g) ∧ H = H') := by
  refine ACalls.enter2 Tryz.func59 rfl Tryz.ntmps59 Tryz.results59 (by simp) ?_; simp (dsimp := false) (maxSteps := 4000000) only [go_sem]
  refine (IndexS_g hs hn hok hf).mono ?_; rintro _ _ ⟨r, rfl, hr, rfl⟩
  rcases hr with ⟨rfl, hno⟩ | ⟨q, x, hq, hg, rfl, hpre⟩
  · have e : L.any g = false := by rw [List.any_eq_false]; intro x hx; rw [hno x hx]; simp
    simp (dsimp := false) (maxSteps := 4000000) only [go_sem]
    exact ⟨H, (AH.le_refl _), (by first | exact ⟨by rw [e], rfl⟩ | rfl)⟩
  · have e : L.any g = true := List.any_eq_true.2 ⟨x, List.mem_of_getElem? hq, hg⟩
    have q0 : (0 : Int) ≤ (q : Int) := by omega
    simp (dsimp := false) (maxSteps := 4000000) only [go_sem]
    exact ⟨H, (AH.le_refl _), (by first | exact ⟨by rw [e], rfl⟩ | rfl)⟩
def IxK (g : Sl → Bool) (L : List Sl) (r : Int) : Prop := (r = -1 ∧ ∀ x ∈ L, g x = false) ∨ ∃ (i : Nat) (x : Sl), L[i]? = some x ∧ g x = true ∧ r = i ∧ ∀ j, j < i → ∀ y, L[j]? = some y → g y = false
theorem IndexK_g {g : Sl → Bool} {fid : Nat} {caps : List Value} {L : List Sl} {n : Nat} {base : Option Addr} {cap : Nat} {H : AH} (hs : SlcIn H 1 base cap (L.map encK)) (hn : n = L.length) (hok : fnOk Tryz.prog fid = true)
    (hf : ∀ x ∈ L, ACalls Tryz.prog fid ([] ++ [Value.slice x.1 x.2.2.length x.2.1] ++ caps).toArray H (fun v H' => v = .bool (g x) ∧ H = H')) :
    ACalls Tryz.prog 100 #[.slice base n cap, .func (.func fid) #[] caps.toArray] H (fun v H' => ∃ r : Int, v = .int .i64 r ∧ IxK g L r ∧ H = H') := by
  subst hn
  have hbig := hs.big
  simp only [List.length_map] at hbig
  refine ACalls.enter2 Tryz.func100 rfl Tryz.ntmps100 Tryz.results100 (by simp) ?_; simp (dsimp := false) (maxSteps := 4000000) only [go_sem]
  refine AWp.loopo (ι := Nat) (fun i => i ≤ L.length ∧ ∀ j, j < i → ∀ y, L[j]? = some y → g y = false) (fun i => [(8, .int .i64 i), (7, .int .i64 L.length), (0, .slice base L.length cap), (1, .func (.func fid) #[] caps.toArray)])
    (fun _ => H) (fun i => L.length - i) 0 ⟨by omega, fun j hj => by omega⟩ (FrLe.of_lks ?_) (AH.le_refl _) fun i hi Q again out => ?_
  · simp (dsimp := false) (maxSteps := 4000000) only [go_sem]
  · obtain ⟨hi, hall⟩ := hi
    by_cases h : (i : Int) < L.length
    · obtain ⟨x, hx⟩ := get_some (l := L) (i := i) (by omega)
      obtain ⟨b, o, rfl, _, hrow⟩ := hs.get (map_get (f := encK) hx)
      have hrow := hrow 0 _ rfl
      simp only [Nat.add_zero, Nat.mul_one] at hrow
      have ee := i64_succ (i := i) (by omega)
      simp (dsimp := false) (maxSteps := 4000000) only [h, hrow, hok, go_sem]
      refine (hf x (List.mem_of_getElem? hx)).mono ?_; rintro _ _ ⟨rfl, rfl⟩
      cases hb : g x with
      | true =>
        simp (dsimp := false) (maxSteps := 4000000) only [go_sem]
        refine out _ _ _ (by simp) ?_
        simp (dsimp := false) (maxSteps := 4000000) only [go_sem]
        exact ⟨H, (by (repeat (first | exact AH.le_refl _ | refine AH.le_add ?_ ?_)); all_goals (first | exact AH.le_refl _ | (show AH.find _ _ = _; simp only [find_add_self, find_add_ne, find_fresh, fresh_add, fresh_set, ne_eq, not_false_eq_true, true_and, and_true, and_self]))), _, rfl, .inr ⟨i, x, hx, hb, rfl, hall⟩, rfl⟩
      | false =>
        simp (dsimp := false) (maxSteps := 4000000) only [ee, go_sem]
        refine again (i + 1) _ _ ⟨by omega, fun j hj m hm => ?_⟩ (FrLe.of_lks (by simp (dsimp := false) (maxSteps := 4000000) only [go_sem])) (AH.le_refl _) (by omega)
        by_cases hji : j = i
        · subst hji; rw [hx] at hm; cases hm; exact hb
        · exact hall j (by omega) m hm
    · simp (dsimp := false) (maxSteps := 4000000) only [h, go_sem]
      refine out _ _ _ (by simp) ?_
      simp (dsimp := false) (maxSteps := 4000000) only [go_sem]
      exact ⟨H, (by (repeat (first | exact AH.le_refl _ | refine AH.le_add ?_ ?_)); all_goals (first | exact AH.le_refl _ | (show AH.find _ _ = _; simp only [find_add_self, find_add_ne, find_fresh, fresh_add, fresh_set, ne_eq, not_false_eq_true, true_and, and_true, and_self]))), _, rfl, .inl ⟨rfl, fun y hy => by
        obtain ⟨j, hj⟩ := List.mem_iff_getElem?.1 hy
        exact hall j (by have := lt_of_get hj; omega) y hj⟩, rfl⟩
theorem ContainsK_g {g : Sl → Bool} {fid : Nat} {caps : List Value} {L : List Sl} {n : Nat} {base : Option Addr} {cap : Nat} {H : AH} (hs : SlcIn H 1 base cap (L.map encK)) (hn : n = L.length) (hok : fnOk Tryz.prog fid = true)
    (hf : ∀ x ∈ L, ACalls Tryz.prog fid ([] ++ [Value.slice x.1 x.2.2.length x.2.1] ++ caps).toArray H (fun v H' => v = .bool (g x) ∧ H = H')) :
    ACalls Tryz.prog 56 #[.slice base n cap, .func (.func fid) #[] caps.toArray] H (fun v H' => v = .bool (L.any g) ∧ H = H') := by
  refine ACalls.enter2 Tryz.func56 rfl Tryz.ntmps56 Tryz.results56 (by simp) ?_; simp (dsimp := false) (maxSteps := 4000000) only [go_sem]
  refine (IndexK_g hs hn hok hf).mono ?_; rintro _ _ ⟨r, rfl, hr, rfl⟩
  rcases hr with ⟨rfl, hno⟩ | ⟨q, x, hq, hg, rfl, hpre⟩
  · have e : L.any g = false := by rw [List.any_eq_false]; intro x hx; rw [hno x hx]; simp
    simp (dsimp := false) (maxSteps := 4000000) only [go_sem]
    exact ⟨H, (AH.le_refl _), (by first | exact ⟨by rw [e], rfl⟩ | rfl)⟩
  · have e : L.any g = true := List.any_eq_true.2 ⟨x, List.mem_of_getElem? hq, hg⟩
    have q0 : (0 : Int) ≤ (q : Int) := by omega
    simp (dsimp := false) (maxSteps := 4000000) only [go_sem]
    exact ⟨H, (AH.le_refl _), (by first | exact ⟨by rw [e], rfl⟩ | rfl)⟩

def badR (s : Stp) : Bool := decide (s.rate < -2000 ∨ 2000 < s.rate)
def badL (L : List Stp) : Bool := !good L || L.any badR
def calmO (O : List Sl) (n : Nat) : Bool := decide (O.length = n) && !(O.any fun x => badL x.2.2)
theorem good_rate {L : List Stp} (h : good L = true) {s : Stp} (hs : s ∈ L) : -20000 ≤ s.rate ∧ s.rate ≤ 20000 := by
  have h2 := (good_R h).2
  generalize (-1 : Int) = last at h2
  clear h
  induction L generalizing last with
  | nil => cases hs
  | cons y L ih =>
    obtain ⟨_, _, h3, h4, h5⟩ := goodR_cons h2
    rcases List.mem_cons.1 hs with rfl | hs
    · exact ⟨h3, h4⟩
    · exact ih hs _ h5
theorem calmO_iff {O : List Sl} {n : Nat} : calmO O n = true ↔ O.length = n ∧ ∀ x ∈ O, good x.2.2 = true ∧ calmB 2000 x.2.2 := by
  unfold calmO
  rw [Bool.and_eq_true, decide_eq_true_eq, Bool.not_eq_true', List.any_eq_false]
  refine and_congr_right fun _ => forall_congr' fun x => forall_congr' fun _ => ?_
  unfold badL calmB
  rw [Bool.or_eq_true, Bool.not_eq_true', not_or, Bool.not_eq_false]
  refine and_congr_right fun _ => ?_
  simp only [List.any_eq_true, badR, decide_eq_true_eq, not_exists, not_and]
  exact forall_congr' fun s => forall_congr' fun _ => by omega
theorem one_c (s : Stp) (h : -20000 ≤ s.rate ∧ s.rate ≤ 20000) (H : AH) : ACalls Tryz.prog 60 ([] ++ [Value.agg (Tck.enc s).toArray] ++ ([] : List Value)).toArray H (fun v H' => v = .bool (badR s) ∧ H = H') := by
  obtain ⟨at_, rate⟩ := s
  dsimp only at h
  show ACalls _ _ #[.agg #[.int .i64 at_, .int .i64 rate]] _ _
  have e1 : IntKind.i64.wrap (0 - rate) = -rate := by rw [i64_eq (by omega) (by omega)]; omega
  have e2 : badR ⟨at_, rate⟩ = decide (2000 < if -rate > rate then -rate else rate) := by
    unfold badR
    dsimp only
    rw [decide_eq_decide]
    split <;> omega
  refine ACalls.enter2 Tryz.func60 rfl Tryz.ntmps60 Tryz.results60 (by simp) ?_; simp (dsimp := false) (maxSteps := 4000000) only [go_sem]
  refine AllB.mk fun b1 h_b1 => ?_; have hn_b1 := h_b1; (try simp only [fresh_add, fresh_set, ne_eq] at hn_b1); have hr_b1 := hn_b1; (try simp only [@eq_comm Nat b1] at hr_b1); simp (dsimp := false) (maxSteps := 4000000) only [hn_b1, hr_b1, go_sem]
  simp (dsimp := false) (maxSteps := 4000000) only [e1, hn_b1, hr_b1, go_sem]
  exact ⟨H, (AH.le_add (AH.le_refl _) ((by simp only [fresh_add, fresh_set, ne_eq, hn_b1, not_false_eq_true, and_self] : Fresh _ b1).2)), (by first | exact ⟨by rw [e2], rfl⟩ | rfl)⟩
theorem list_c (x : Sl) (H : AH) (h : SlcIn H 2 x.1 x.2.1 (x.2.2.map Tck.enc)) : ACalls Tryz.prog 57 ([] ++ [Value.slice x.1 x.2.2.length x.2.1] ++ ([] : List Value)).toArray H (fun v H' => v = .bool (badL x.2.2) ∧ H = H') := by
  obtain ⟨b, c, L⟩ := x
  show ACalls _ _ #[.slice b L.length c] _ _
  dsimp only at h ⊢
  refine ACalls.enter2 Tryz.func57 rfl Tryz.ntmps57 Tryz.results57 (by simp) ?_; simp (dsimp := false) (maxSteps := 4000000) only [go_sem]
  refine (Good_c L b c _ h).mono ?_; rintro _ _ ⟨rfl, rfl⟩
  cases hg : good L with
  | false =>
    simp (dsimp := false) (maxSteps := 4000000) only [go_sem]
    exact ⟨H, (AH.le_refl _), (by first | exact ⟨by simp [badL, hg], rfl⟩ | rfl)⟩
  | true =>
    simp (dsimp := false) (maxSteps := 4000000) only [go_sem]
    refine (ContainsS_g (g := badR) (fid := 60) (caps := []) h rfl (by kernel_rfl) fun s hs => one_c s (good_rate hg hs) _).mono ?_
    rintro _ _ ⟨rfl, rfl⟩
    simp (dsimp := false) (maxSteps := 4000000) only [go_sem]
    exact ⟨H, (AH.le_refl _), (by first | exact ⟨by simp [badL, hg], rfl⟩ | rfl)⟩
theorem calm_c (O : List Sl) (base : Option Addr) (cap n : Nat) (hn : n < 1000) (H : AH) (h : OscIn H base cap O) : ACalls Tryz.prog 24 #[.slice base O.length cap, .int .i64 n] H (fun v H' => v = .bool (calmO O n) ∧ H = H') := by
  have hbig := h.out.big
  simp only [List.length_map] at hbig
  refine ACalls.enter2 Tryz.func24 rfl Tryz.ntmps24 Tryz.results24 (by simp) ?_; simp (dsimp := false) (maxSteps := 4000000) only [go_sem]
  by_cases e : (O.length : Int) = n
  · have e' : O.length = n := by omega
    simp (dsimp := false) (maxSteps := 4000000) only [e, go_sem]
    refine (ContainsK_g (g := fun x => badL x.2.2) (fid := 57) (caps := []) h.out rfl (by kernel_rfl) fun x hx => list_c x _ (h.inn x hx)).mono ?_
    rintro _ _ ⟨rfl, rfl⟩
    simp (dsimp := false) (maxSteps := 4000000) only [go_sem]
    exact ⟨H, (AH.le_refl _), (by first | exact ⟨by simp [calmO, e'], rfl⟩ | rfl)⟩
  · have e' : ¬ O.length = n := by omega
    simp (dsimp := false) (maxSteps := 4000000) only [e, go_sem]
    exact ⟨H, (AH.le_refl _), (by first | exact ⟨by simp [calmO, e'], rfl⟩ | rfl)⟩

theorem hdB_range (R : List Sp) (K : List Stp) : ∀ s y, hdB R K s = some y → 0 ≤ y ∧ y ≤ 255 := fun s y h => by
  unfold hdB at h
  split at h
  · split at h
    · obtain rfl := Option.some.inj h
      unfold hearP
      split
      · exact ⟨by decide, by decide⟩
      · unfold Prt.takeP
        split
        · exact ⟨by decide, by decide⟩
        · exact ⟨Uart.valu_nonneg _ _, Prt.valu8 _⟩
    · cases h
  · cases h
theorem hdB_out (R : List Sp) (K : List Stp) (i : Int) (h : ¬ (1 ≤ i ∧ i ≤ 16)) : hdB R K i = none := by rw [hdB, if_neg h]
theorem hears_c (R : List Sp) (hp : Plain R) (hb : R.length < 100000) (K : List Stp) (hg : good K = true) (base : Option Addr) (cap : Nat) (lb : Option Addr) (lc : Nat) (H : AH) (hs : SlcIn H 2 base cap (R.map encP)) (hL : SlcIn H 2 lb lc (K.map Tck.enc)) :
    ACalls Tryz.prog 26 #[.slice base R.length cap, .slice lb K.length lc] H (fun v H' => ∃ bm, v = .map (some bm) ∧ Hm H' (.map (some bm)) (hdB R K) ∧ (Keep H H' fun _ => False) ∧ Fresh H bm) := by
  have hout := hdB_out R K
  have heq : ∀ i : Int, 1 ≤ i ∧ i ≤ 16 → hdB R K i = if (hearP R K (globalv K (224 * i - 20)) (globalv K (224 * i + 20))).2.2 = 0 ∧ (hearP R K (globalv K (224 * i - 20)) (globalv K (224 * i + 20))).2.1 = false then some (hearP R K (globalv K (224 * i - 20)) (globalv K (224 * i + 20))).1 else none := fun i hi => by rw [hdB, if_pos hi]
  obtain ⟨hd, hhd⟩ : ∃ hd, hdB R K = hd := ⟨_, rfl⟩
  rw [hhd] at hout heq ⊢
  refine ACalls.enter2 Tryz.func26 rfl Tryz.ntmps26 Tryz.results26 (by simp) ?_; simp (dsimp := false) (maxSteps := 4000000) only [go_sem]
  refine AllB.mk fun bm h_bm => ?_; have hn_bm := h_bm; (try simp only [fresh_add, fresh_set, ne_eq] at hn_bm); have hr_bm := hn_bm; (try simp only [@eq_comm Nat bm] at hr_bm); simp (dsimp := false) (maxSteps := 4000000) only [hn_bm, hr_bm, go_sem]
  have hbm : Fresh H bm := h_bm
  have h1 : hents hd 1 = [] := by simp [hents, hout 0 (by omega)]
  refine AWp.loopo (ι := Nat) (fun i => 1 ≤ i ∧ i ≤ 17) (fun i => [(6, .int .i64 i), (5, .map (some bm)), (0, .slice base R.length cap), (1, .slice lb K.length lc)]) (fun i => H.add bm (.amap (ki (hents hd i)))) (fun i => 17 - i) 1 ⟨by omega, by omega⟩ (FrLe.of_lks ?_) (by rw [h1]; exact AH.le_refl _) fun i hi Q again out => ?_
  · simp (dsimp := false) (maxSteps := 4000000) only [hn_bm, hr_bm, go_sem]
  by_cases hlt : (i : Int) ≤ 16
  · have hS : ∀ {k}, SlcIn (H.add bm k) 2 base cap (R.map encP) := fun {k} => hs.add h_bm
    have hK : ∀ {k}, SlcIn (H.add bm k) 2 lb lc (K.map Tck.enc) := fun {k} => hL.add h_bm
    have ee := i64_succ (i := i) (by omega)
    have e224 : IntKind.i64.wrap (224 * (i : Int)) = 224 * (i : Int) := i64_eq (by omega) (by omega)
    have em : IntKind.i64.wrap (224 * (i : Int) - 20) = 224 * (i : Int) - 20 := i64_eq (by omega) (by omega)
    have ep : IntKind.i64.wrap (224 * (i : Int) + 20) = 224 * (i : Int) + 20 := i64_eq (by omega) (by omega)
    have hi' := heq i (by omega)
    simp (dsimp := false) (maxSteps := 4000000) only [hlt, e224, em, hn_bm, hr_bm, go_sem]
    refine (Global_c K (224 * (i : Int) - 20) hg lb lc _ hK).mono ?_; rintro _ _ ⟨rfl, rfl⟩
    simp (dsimp := false) (maxSteps := 4000000) only [ep, hn_bm, hr_bm, go_sem]
    refine (Global_c K (224 * (i : Int) + 20) hg lb lc _ hK).mono ?_; rintro _ _ ⟨rfl, rfl⟩
    simp (dsimp := false) (maxSteps := 4000000) only [hn_bm, hr_bm, go_sem]
    refine (Sam.Hear_c R K (globalv K (224 * (i : Int) - 20)) (globalv K (224 * (i : Int) + 20)) hg base cap lb lc _ hS hK hb).mono ?_
    rintro _ _ ⟨R', hJ, rfl, rfl⟩
    obtain rfl : R' = R := hJ.uniq (joinOf_plain hp) fun t => Iff.rfl
    rw [hearV_eq]
    obtain ⟨y, od, er, hyo⟩ : ∃ y od er, hearP R' K (globalv K (224 * (i : Int) - 20)) (globalv K (224 * (i : Int) + 20)) = (y, od, er) := ⟨_, _, _, rfl⟩
    rw [hyo] at hi' ⊢
    dsimp only at hi' ⊢
    by_cases h0 : er = 0 ∧ od = false
    · obtain ⟨rfl, rfl⟩ := h0
      rw [if_pos ⟨rfl, rfl⟩] at hi'
      have e1 : ki (hents hd i) ++ [(.int .i64 i, .int .u8 y)] = ki (hents hd (i + 1)) := by rw [hents, hi', ki, ki, List.map_append]; rfl
      simp (dsimp := false) (maxSteps := 4000000) only [ee, hents_new, mput, Option.getD_some, e1, hn_bm, hr_bm, go_sem]
      exact again (i + 1) _ _ (by omega) (FrLe.of_lks (by simp (dsimp := false) (maxSteps := 4000000) only [hn_bm, hr_bm, go_sem])) (AH.le_refl _) (by omega)
    · rw [if_neg h0] at hi'
      have e1 : hents hd (i + 1) = hents hd i := by rw [hents, hi']
      have c : ¬ er = 0 ∨ od = true := by
        by_cases h : er = 0
        · exact .inr (by cases od with | true => rfl | false => exact absurd ⟨h, rfl⟩ h0)
        · exact .inl h
      rcases c with c | rfl
      · simp (dsimp := false) (maxSteps := 4000000) only [c, ee, hn_bm, hr_bm, go_sem]
        rw [← e1]
        exact again (i + 1) _ _ (by omega) (FrLe.of_lks (by simp (dsimp := false) (maxSteps := 4000000) only [hn_bm, hr_bm, go_sem])) (AH.le_refl _) (by omega)
      · by_cases c : er = 0
        · simp (dsimp := false) (maxSteps := 4000000) only [c, ee, hn_bm, hr_bm, go_sem]
          rw [← e1]
          exact again (i + 1) _ _ (by omega) (FrLe.of_lks (by simp (dsimp := false) (maxSteps := 4000000) only [hn_bm, hr_bm, go_sem])) (AH.le_refl _) (by omega)
        · simp (dsimp := false) (maxSteps := 4000000) only [c, ee, hn_bm, hr_bm, go_sem]
          rw [← e1]
          exact again (i + 1) _ _ (by omega) (FrLe.of_lks (by simp (dsimp := false) (maxSteps := 4000000) only [hn_bm, hr_bm, go_sem])) (AH.le_refl _) (by omega)
  obtain rfl : i = 17 := by omega
  have hM : Hm (H.add bm (.amap (ki (hents hd 17)))) (.map (some bm)) hd := hents_hm (find_add_self _ _ _) hout
  simp (dsimp := false) (maxSteps := 4000000) only [hlt, hn_bm, hr_bm, go_sem]
  refine out _ _ _ (by simp) ?_
  simp (dsimp := false) (maxSteps := 4000000) only [hn_bm, hr_bm, go_sem]
  exact ⟨_, AH.le_refl _, bm, rfl, hM, Keep.add hbm, hbm⟩
end Go.Proofs.YtbhamhhjicehaaaGreatDoor.Bus

/- bus: Round. -/
namespace Go.Proofs.YtbhamhhjicehaaaGreatDoor.Bus
set_option linter.unusedSimpArgs false
set_option linter.unusedVariables false
open Go Go.AX Go.Proofs Ty Go.Proofs.YtbhamhhjicehaaaGreatDoor.Srt Go.Proofs.YtbhamhhjicehaaaGreatDoor.Wire Go.Proofs.YtbhamhhjicehaaaGreatDoor.Tck Go.Proofs.YtbhamhhjicehaaaGreatDoor.Clm Go.Proofs.YtbhamhhjicehaaaGreatDoor.Err
open Go.Proofs.YtbhamhhjicehaaaGreatDoor.Ifs (Nf StAt OkX Copy_c)
open Go.Proofs.YtbhamhhjicehaaaGreatDoor.Prt (SR StsIn encB1 outP rndE tok_of tab_ok ClipS_c Hm Apply_c)
open Go.Proofs.YtbhamhhjicehaaaGreatDoor.Chk (Tb TabIn encT tabs)
set_option maxHeartbeats 4000000
set_option maxRecDepth 10000

def rndB (n : Nat) (T : List Tb) (O : List Sl) : Int := if rndE n T = 0 then (if calmO O n = true then 0 else 1) else rndE n T
def Outs (XS : List (List Nf)) (S : List SR) (T : List Tb) (B : List Bool) (P : List Prt.Sp) (O : List Sl) (SO : List SR) : Prop := SO.length = S.length ∧ ∃ R, Plain R ∧ (∀ t, low R t ↔ (netOf XS T B P O).lowA t) ∧
  ∀ (n : Nat) s t l x o, S[n]? = some s → T[n]? = some t → B[n]? = some l → O[n]? = some x → SO[n]? = some o → (SR.X o).Perm (outP (hdB R x.2.2) s.X s.den t l).1 ∧ o.den = (outP (hdB R x.2.2) s.X s.den t l).2
theorem rndB_ok {n : Nat} {T : List Tb} {O : List Sl} (h : rndB n T O = 0) : rndE n T = 0 ∧ calmO O n = true := by
  unfold rndB at h
  split at h
  · rename_i h1
    split at h
    · rename_i h2; exact ⟨h1, h2⟩
    · cases h
  · rename_i h1; exact absurd h h1
theorem rndE_tabs {n : Nat} {T : List Tb} (h : rndE n T = 0) : (tabs T).2 = 0 := by
  unfold rndE at h
  split at h
  · cases h
  · exact h
theorem May.of {T : List Tb} {O : List Sl} {n : Nat} (h : rndB n T O = 0) : May T O n :=
  have h' := rndB_ok h
  have hc := calmO_iff.1 h'.2
  ⟨tok_of (rndE_tabs h'.1), hc.1, fun x hx => (hc.2 x hx).1⟩
theorem Round_c (a : Ad) (S : List SR) (T : List Tb) (B : List Bool) (P : List Prt.Sp) (O : List Sl) (H : AH) (hE : ErrT H.w0) (h : NetIn H a S T B P O) :
    ACalls Tryz.prog 7 #[.slice a.bs S.length a.cs, .slice a.bt T.length a.ct, .slice a.bb B.length a.cb, .slice a.bp P.length a.cp, .slice a.bo O.length a.co] H (fun u H' => ∃ base cap SO, u = .tuple #[.slice base (List.length SO) cap, .int .i64 (rndB S.length T O)] ∧ (rndB S.length T O ≠ 0 → SO = []) ∧ (rndB S.length T O = 0 → Outs (S.map (·.X)) S T B P O SO) ∧ StsIn H' base cap SO ∧ (Keep H H' fun _ => False) ∧ ∀ o ∈ SO, ∀ x, o.ft x → Fresh H x) := by
  obtain ⟨XS, hXS⟩ : ∃ XS, S.map (·.X) = XS := ⟨_, rfl⟩
  have hline := fun (m : May T O S.length) (A : AH) (hK : Keep H A fun _ => False) => Line_c a S T B P O A (h.keep hK) m
  rw [hXS] at hline ⊢
  have hl1 := h.l1
  have hl2 := h.l2
  have bad : ∀ {E : Int} {T' : AH}, rndB S.length T O = E → E ≠ 0 → H.le T' → ∃ H', H'.le T' ∧ ∃ base cap SO, Value.tuple #[.slice none 0 0, .int .i64 E] = .tuple #[.slice base (List.length SO) cap, .int .i64 (rndB S.length T O)] ∧ (rndB S.length T O ≠ 0 → SO = []) ∧ (rndB S.length T O = 0 → Outs XS S T B P O SO) ∧ StsIn H' base cap SO ∧ (Keep H H' fun _ => False) ∧ ∀ o ∈ SO, ∀ x, o.ft x → Fresh H x := fun {E T'} he h0 hl =>
    ⟨H, hl, none, 0, [], by rw [he]; rfl, fun _ => rfl, fun h => absurd (he.symm.trans h) h0, ⟨SlcIn.nil, by simp⟩, Keep.refl, by simp⟩
  refine ACalls.enter2 Tryz.func7 rfl Tryz.ntmps7 Tryz.results7 (by simp) ?_; simp (dsimp := false) (maxSteps := 4000000) only [go_sem]
  refine (Prt.Round_c S T B [] a.bs a.bt a.bb none a.cs a.ct a.cb 0 H hE h.s h.t h.b SlcIn.nil hl1 hl2 h.l4).mono ?_
  rintro _ A1 ⟨zb, zc, SA, rfl, _, _, _, hK1, _⟩
  obtain ⟨Er, hEr⟩ : ∃ Er, rndE S.length T = Er := ⟨_, rfl⟩
  rw [hEr]
  simp (dsimp := false) (maxSteps := 4000000) only [go_sem]
  by_cases h0 : Er = 0
  case neg =>
    simp (dsimp := false) (maxSteps := 4000000) only [h0, go_sem]
    exact bad (by rw [rndB, hEr, if_neg h0]) h0 hK1.all
  subst h0
  have hn : S.length < 1000 := by have := h.l4; omega
  simp (dsimp := false) (maxSteps := 4000000) only [go_sem]
  refine (calm_c O a.bo a.co S.length hn _ (h.o.keep hK1)).mono ?_; rintro _ _ ⟨rfl, rfl⟩
  cases hc : calmO O S.length with
  | false =>
    simp (dsimp := false) (maxSteps := 4000000) only [go_sem]
    exact bad (by rw [rndB, hEr, if_pos rfl, hc]; rfl) (by decide) hK1.all
  | true =>
    have hE0 : rndB S.length T O = 0 := by rw [rndB, hEr, if_pos rfl, hc]; rfl
    have hM := May.of hE0
    have ht := hM.t
    simp (dsimp := false) (maxSteps := 4000000) only [go_sem]
    refine (hline hM A1 hK1).mono ?_
    rintro _ D ⟨R, rb, rc, rfl, hpl, hsp, hR, hKl⟩
    have kD := hK1.trans hKl
    have hRl := hsp.len
    have hin := h.keep kD
    have hS := hin.s
    have hT := hin.t
    have hB := hin.b
    have hO := hin.o
    have hlO := hM.l
    have hbigS := hS.out.big
    simp only [List.length_map] at hbigS
    simp (dsimp := false) (maxSteps := 4000000) only [go_sem]
    clear hline bad hK1 hKl hin
    refine AWp.loopr (ι := Nat × Option Addr × Nat × List SR) (fun s A => s.1 ≤ S.length ∧ s.2.2.2.length = s.1 ∧ OwnS D A 47 1 s.2.1 s.2.2.1 (s.2.2.2.map Prt.encS) ∧ (Keep D A fun _ => False) ∧ (∀ o ∈ s.2.2.2, o.In A ∧ ∀ x, o.ft x → Fresh D x ∧ ∀ a, s.2.1 = some a → a.block ≠ x) ∧ ∀ (n : Nat) r t l x o, S[n]? = some r → T[n]? = some t → B[n]? = some l → O[n]? = some x → s.2.2.2[n]? = some o → (SR.X o).Perm (outP (hdB R x.2.2) r.X r.den t l).1 ∧ o.den = (outP (hdB R x.2.2) r.X r.den t l).2)
      (fun s => [(41, .int .i64 s.1), (40, .int .i64 S.length), (39, .slice a.bs S.length a.cs), (15, .slice s.2.1 s.1 s.2.2.1), (14, .slice rb R.length rc), (0, .slice a.bs S.length a.cs), (1, .slice a.bt T.length a.ct), (2, .slice a.bb B.length a.cb), (4, .slice a.bo O.length a.co)]) (fun s => S.length - s.1) (0, none, 0, []) _ ⟨by simp only; omega, rfl, OwnS.nil, Keep.refl, by simp, by simp⟩ (FrLe.of_lks ?_) (AH.le_refl _) fun s A hi Q again out => ?_
    · simp (dsimp := false) (maxSteps := 4000000) only [go_sem]
    obtain ⟨i, base, cap, SO⟩ := s
    obtain ⟨hi, hl, hOw, hK, hino, hval⟩ := hi
    
    dsimp only at hi hl hOw hino hval again ⊢
    by_cases hlt : (i : Int) < S.length
    case neg =>
      obtain rfl : i = S.length := by omega
      simp (dsimp := false) (maxSteps := 4000000) only [hlt, go_sem]
      refine out _ _ _ (by simp) ?_
      simp (dsimp := false) (maxSteps := 4000000) only [go_sem]
      refine (ClipS_c base S.length cap _ (by have := hOw.le; simpa [hl] using this)).mono ?_; rintro _ _ ⟨rfl, rfl⟩
      simp (dsimp := false) (maxSteps := 4000000) only [go_sem]
      refine ⟨A, AH.le_refl _, base, S.length, SO, by rw [hl, hE0], by rw [hE0]; exact fun h => absurd rfl h, fun _ => ⟨hl, R, hpl, hsp.lo, hval⟩, ⟨?_, fun o ho => (hino o ho).1⟩, kD.trans hK, fun o ho x hx => kD.fr ((hino o ho).2 x hx).1⟩
      rcases hOw.at_ with ⟨rfl, h2, rfl⟩ | ⟨b, bs', rfl, _⟩
      · have h3 : SO = [] := List.map_eq_nil_iff.1 h2
        subst h3
        have hl0 : S.length = 0 := by simpa using hl.symm
        have := (hOw.slc)
        simp only [hl0]
        exact SlcIn.nil
      · have h3 := hOw.clip.slc
        simpa [hl] using h3
    obtain ⟨r, hr⟩ := get_some (l := S) (i := i) (by omega)
    obtain ⟨⟨tb, tc, L⟩, htt⟩ := get_some (l := T) (i := i) (by omega)
    obtain ⟨l, hbl⟩ := get_some (l := B) (i := i) (by omega)
    obtain ⟨⟨ob, oc, K⟩, hxo⟩ := get_some (l := O) (i := i) (by omega)
    have hSA := hS.keep hK
    have hTA := hT.keep hK
    have hOA := hO.keep hK
    have hrin := hSA.inn r (List.mem_of_getElem? hr)
    have htin := hTA.inn _ (List.mem_of_getElem? htt)
    have hxin := hOA.inn _ (List.mem_of_getElem? hxo)
    have hgK : good K = true := hM.g _ (List.mem_of_getElem? hxo)
    obtain ⟨q1, o1, hq1, _, hr1⟩ := hS.out.get (Go.AX.map_get (f := Prt.encS) hr)
    obtain ⟨q2, o2, hq2, _, hr2⟩ := hT.out.get (Go.AX.map_get (f := encT) htt)
    obtain ⟨q3, o3, hq3, _, hr3⟩ := hB.get (Go.AX.map_get (f := encB1) hbl)
    obtain ⟨q4, o4, hq4, _, hr4⟩ := hO.out.get (Go.AX.map_get (f := encK) hxo)
    have hr1 := hr1 0 _ rfl
    have hr2 := hr2 0 _ rfl
    have hr3 := hr3 0 _ rfl
    have hr4 := hr4 0 _ rfl
    simp only [Nat.add_zero, Nat.mul_one] at hr1 hr2 hr3 hr4
    have a1 := hK.rd hr1
    have a3 := hK.rd hr3
    have ee := i64_succ (i := i) (by omega)
    have hi0 : (0 : Int) ≤ (i : Int) := by omega
    have hiT : (i : Int) < T.length := by omega
    have hiB : (i : Int) < B.length := by omega
    have hiO : (i : Int) < O.length := by omega
    have hle := hK.all
    have nb : ∀ {A1 : AH}, (Keep A A1 fun _ => False) → ∀ b X den ft, StAt A1 b X den ft → OkX X → (∀ x, ft x → Fresh A x) → X.Perm (outP (hdB R K) r.X r.den (tb, tc, L) l).1 → den = (outP (hdB R K) r.X r.den (tb, tc, L) l).2 → ∀ bx, Fresh A1 bx → ∀ C : Value → AH → Prop, (∀ base' cap' H', ∀ SO' : List SR, SO'.length = i + 1 → OwnS D H' 47 1 base' cap' (SO'.map Prt.encS) → (Keep D H' fun _ => False) → (∀ o ∈ SO', SR.In H' o ∧ ∀ x, o.ft x → Fresh D x ∧ ∀ a, base' = some a → a.block ≠ x) → (∀ (n : Nat) r t l x o, S[n]? = some r → T[n]? = some t → B[n]? = some l → O[n]? = some x → SO'[n]? = some o → (SR.X o).Perm (outP (hdB R x.2.2) r.X r.den t l).1 ∧ o.den = (outP (hdB R x.2.2) r.X r.den t l).2) → C (.slice base' (i + 1) cap') H') →
        APD Tryz.prog (some 25) (some 25) [.slice base i cap, .slice (some ⟨bx, 0, none⟩) 1 1] (A1.add bx (.cells [.pointer (some ⟨b, 0, none⟩)] 47 1)) C := by
      intro A1 hK1 b X den ft hst hok hft hpm hdn bx hbx C hk
      have hO1 := hOw.keep hK1 (fun _ _ h => h)
      have hKA := hK.trans hK1
      refine APD.growW (x := .slice (some ⟨bx, 0, none⟩) 1 1) (R' := [Prt.encS ⟨b, X, den, ft⟩]) (m := 1) (hO1.added hbx) (hKA.nw hbx).all se_25 rfl (by decide) (by rw [Tryz.underlying25]; rfl) (by simp [hl]) rfl rfl (by rw [srow_some, row_add_self]; rfl) (by simp [Prt.encS]) (by simp [Prt.encS, scal]) (by omega) fun base2 cap2 A' hO' hK' hN' => ?_
      have hK2 := (hKA.nw hbx).ow hK' fun b ⟨a, ha, e⟩ => e ▸ hOw.fresh a ha
      have hbase : ∀ x, ¬ Fresh A1 x → (∀ a, base = some a → a.block ≠ x) → ∀ a, base2 = some a → a.block ≠ x := fun x hx hb a ha e => by
        rcases hN' a ha with ⟨a', h1, h2⟩ | hf
        · exact hb a' h1 (h2 ▸ e)
        · exact hx (e ▸ (Keep.refl.nw (k := .cells [.pointer (some ⟨b, 0, none⟩)] 47 1) hbx).fr hf)
      refine ⟨A', AH.le_refl _, hk base2 cap2 A' (SO ++ [⟨b, X, den, ft⟩]) (by simp [hl]) (by rw [List.map_append]; exact hO') hK2 (fun o ho => ?_) (fun n r' t l' x o h1 h2 h3 h5 h4 => ?_)⟩
      · rcases List.mem_append.1 ho with ho | ho
        · obtain ⟨⟨h1, h2⟩, h3⟩ := hino o ho
          have h1' := h1.keep hK1 fun _ _ h => h
          refine ⟨⟨(h1'.keep (Keep.add hbx) fun _ _ h => h).keep hK' fun x hx ⟨a, ha, e⟩ => (h3 x hx).2 a ha e.symm, h2⟩, fun x hx => ⟨(h3 x hx).1, hbase x (fun hf => h1'.fresh hf hx) (h3 x hx).2⟩⟩
        · obtain rfl := List.mem_singleton.1 ho
          refine ⟨⟨(hst.keep (Keep.add hbx) fun _ _ h => h).keep hK' fun x hx ⟨a, ha, e⟩ => hOw.ne (hft x hx) a ha e.symm, hok⟩, fun x hx => ⟨hK.fr (hft x hx), hbase x (fun hf => hst.fresh hf hx) fun a ha => hOw.ne (hft x hx) a ha⟩⟩
      · by_cases hn : n < SO.length
        · rw [List.getElem?_append_left hn] at h4
          exact hval n r' t l' x o h1 h2 h3 h5 h4
        · have hn2 := Go.AX.lt_of_get h4
          simp only [List.length_append, List.length_singleton] at hn2
          obtain rfl : n = i := by omega
          rw [List.getElem?_append_right (by omega), hl, Nat.sub_self] at h4
          cases h4
          rw [hr] at h1; rw [htt] at h2; rw [hbl] at h3; rw [hxo] at h5
          cases h1; cases h2; cases h3; cases h5
          exact ⟨hpm, hdn⟩
    cases l with
    | true =>
      have hmem : ((tb, tc, L) : Tb) ∈ T := List.mem_of_getElem? htt
      have hto := tab_ok ht hmem
      
      simp (dsimp := false) (maxSteps := 4000000) only [hlt, hi0, hiT, hiB, hiO, hq1, hq3, a1, a3, go_sem]
      refine AWp.gen [.pu, .pu, .pu, .pu, .pu, .rd, .pu, .pu, .pu, .pu, .rd, .ch, .ch, .al, .ch, .pu] [0, 0, 0, 0, 12, 28, 0, 0, 0, 384, 896, 1984, 4094, 8190, 16383, 32767] 12 (D) mixed (by kernel_rfl) (hle) ?_
      simp (dsimp := false) (maxSteps := 4000000) only [hi0, hiT, hiO, hq2, hq4, hr2, hr4, hle, go_sem]
      refine (hears_c R hpl (by omega) K hgK rb rc ob oc A (hR.keep hK fun _ _ h => h) hxin).mono ?_
      rintro _ A1 ⟨bm, rfl, hHm, hKm, _⟩
      have hle1 := (hK.trans hKm).all
      simp (dsimp := false) (maxSteps := 4000000) only [hle1, go_sem]
      refine (Apply_c (by rw [hKm.w0, hK.w0, kD.w0]; exact hE) (hrin.1.keep hKm fun _ _ h => h) hrin.2 L tb tc (htin.keep hKm fun _ _ h => h) (some bm) (hdB R K) hHm (hdB_range R K) (fun x hx hx2 => (hto.2 x hx hx2).2) hto.1).mono ?_
      rintro _ A2 ⟨b1, X1, ft1, rfl, hp1, hok1, hs1, hK2, hf1⟩
      have hle2 := ((hK.trans hKm).trans hK2).all
      simp (dsimp := false) (maxSteps := 4000000) only [hle2, go_sem]
      refine AllB.mk fun bx h_bx => ?_
      simp (dsimp := false) (maxSteps := 4000000) only [go_sem]
      refine nb (hKm.trans hK2) _ _ _ _ hs1 hok1 (fun x hx => hKm.fr (hf1 x hx)) hp1 rfl bx h_bx _ fun base' cap' H' SO' g1 g2 g3 g4 g5 => ?_
      have hle3 := g3.all
      simp (dsimp := false) (maxSteps := 4000000) only [hle3, ee, go_sem]
      exact again (i + 1, base', cap', SO') _ _ _ ⟨by simp only; omega, g1, g2, g3, g4, g5⟩ (FrLe.of_lks (by simp (dsimp := false) (maxSteps := 4000000) only [go_sem])) (AH.le_refl _) (by simp only; omega)
      
    | false =>
      simp (dsimp := false) (maxSteps := 4000000) only [hlt, hi0, hiT, hiB, hq1, hq3, a1, a3, go_sem]
      refine (Copy_c hrin.1 hrin.2).mono ?_
      rintro _ A1 ⟨b1, X1, ft1, rfl, hp1, hs1, hK1, hf1⟩
      simp (dsimp := false) (maxSteps := 4000000) only [go_sem]
      refine AllB.mk fun bx h_bx => ?_
      simp (dsimp := false) (maxSteps := 4000000) only [go_sem]
      refine nb hK1 _ _ _ _ hs1 (hrin.2.perm hp1.symm) hf1 hp1 rfl bx h_bx _ fun base' cap' H' SO' g1 g2 g3 g4 g5 => ?_
      simp (dsimp := false) (maxSteps := 4000000) only [ee, go_sem]
      exact again (i + 1, base', cap', SO') _ _ _ ⟨by simp only; omega, g1, g2, g3, g4, g5⟩ (FrLe.of_lks (by simp (dsimp := false) (maxSteps := 4000000) only [go_sem])) (AH.le_refl _) (by simp only; omega)
end Go.Proofs.YtbhamhhjicehaaaGreatDoor.Bus
