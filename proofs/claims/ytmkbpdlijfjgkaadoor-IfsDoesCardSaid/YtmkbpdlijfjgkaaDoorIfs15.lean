/- the reference's store: Add. -/
import Derived.Test.YtmkbpdlijfjgkaaDoorIfs11
namespace Go.Proofs.YtmkbpdlijfjgkaaDoor.Ifs
set_option linter.unusedSimpArgs false
set_option linter.unusedVariables false
open Go Go.AX Go.Proofs Ty Go.Proofs.YtmkbpdlijfjgkaaDoor.File
set_option maxHeartbeats 4000000
set_option maxRecDepth 10000

theorem SlcIn.drop {H : AH} {sz b o cap : Nat} {R : List (List Value)} (h : SlcIn H sz (some ⟨b, o, none⟩) cap R) (k : Nat) (hk : k ≤ R.length) : SlcIn H sz (some ⟨b, if cap = k then o else o + k * sz, none⟩) (cap - k) (R.drop k) := by
  have hle := h.le
  have hbig := h.big
  by_cases hc : cap = k
  · have hR : R.drop k = [] := List.drop_eq_nil_of_le (by omega)
    rw [hR]; exact SlcIn.empty
  · rw [if_neg hc]
    refine ⟨by rw [List.length_drop]; omega, by rw [List.length_drop]; omega, fun i hi => ⟨b, o + k * sz, rfl⟩, fun b' o' hb i j r' c h1 h2 => ?_, fun b' o' hb i r' h1 => ?_⟩
    · cases hb
      have := h.rd b o rfl (k + i) j r' c (by rw [List.getElem?_drop] at h1; exact h1) h2
      rw [show o + ((k + i) * sz + j) = o + k * sz + (i * sz + j) from by rw [Nat.add_mul]; omega] at this
      exact this
    · cases hb
      have := h.row b o rfl (k + i) r' (by rw [List.getElem?_drop] at h1; exact h1)
      rw [show o + (k + i) * sz = o + k * sz + i * sz from by rw [Nat.add_mul]; omega] at this
      exact this
theorem ins_at {n : Int} {f : Fl} : ∀ {X : List Nf} {k : Nat}, (∀ x ∈ X.take k, x.1 < n) → (∀ x, X[k]? = some x → ¬ x.1 < n) → ins n f X = X.take k ++ (n, f) :: X.drop k
  | [], k, _, _ => by simp [ins]
  | x :: l, 0, _, h => by
    rw [ins, if_neg (h x rfl)]; rfl
  | x :: l, k + 1, h1, h2 => by
    rw [ins, if_pos (h1 x (by simp))]
    rw [ins_at (k := k) (fun y hy => h1 y (by simp [hy])) (fun y hy => h2 y (by simpa using hy))]
    rfl
/-- The blocks that a store reads are there. -/
def RefK (H : AH) (rd : Nat → Prop) : Prop := ∀ x, rd x → ¬ Fresh H x
theorem RefK.keep {H H' : AH} {rd ex : Nat → Prop} (h : RefK H rd) (hK : Keep H H' ex) (hd : ∀ x, rd x → ¬ ex x) : RefK H' rd := fun x hx hf => h x hx (hK.fresh hf (hd x hx))
def RefS (H : AH) (b : Nat) (Z : List RF) (den : Int) (rd : Nat → Prop) : Prop := ∃ base cap, H.find b = some (.cells [.slice base Z.length cap, .int .i64 den] 28 2) ∧ NmIn H base cap Z rd ∧ ¬ rd b ∧ ((base = none ∧ Z = [] ∧ cap = 0) ∨ ∃ q o, base = some ⟨q, o, none⟩) ∧ RefK H rd
theorem RefS.at {H : AH} {b : Nat} {Z : List RF} {den : Int} {rd : Nat → Prop} (h : RefS H b Z den rd) : RefAt H b Z den rd := by
  obtain ⟨base, cap, h1, h2, h3, _⟩ := h
  exact ⟨base, cap, h1, h2, h3⟩
theorem RefS.keep {H H' : AH} {b : Nat} {Z : List RF} {den : Int} {rd ex : Nat → Prop} (h : RefS H b Z den rd) (hK : Keep H H' ex) (hd : ∀ x, rd x → ¬ ex x) (hb : ¬ ex b) : RefS H' b Z den rd := by
  obtain ⟨base, cap, h1, h2, h3, h4, h5⟩ := h
  exact ⟨base, cap, hK.find hb h1, h2.keep hK hd, h3, h4, h5.keep hK hd⟩
theorem rowsN (Z : List RF) : ∀ r ∈ Z.map encN, r.length = 3 := fun r hr => by
  obtain ⟨z, _, rfl⟩ := List.mem_map.1 hr
  rfl
theorem scalN (Z : List RF) : ((Z.map encN).flatten).all scal = true := by
  rw [List.all_flatten, List.all_map, List.all_eq_true]
  intro r _; rfl
theorem RefAdd_c {H : AH} {b : Nat} {Z : List RF} {den : Int} {rd : Nat → Prop} (h : RefS H b Z den rd) (hX : OkX (Z.map RF.nf)) (hS : Srt (Z.map RF.nf)) (n p : Int) (R : List Rc) (base : Option Addr) (cap : Nat) (hs : SlcIn H 4 base cap (R.map enc)) (hb : R = [] ∨ ∀ a, base = some a → a.block ≠ b ∧ ¬ Fresh H a.block) :
    ACalls Tryd.prog 10 #[.pointer (some ⟨b, 0, none⟩), .int .i64 n, fv p base R.length cap] H (fun u H' => ∃ Z' rd', u = .int .i64 (addE (Z.map RF.nf) n (p, R)) ∧ Z'.map RF.nf = (if addE (Z.map RF.nf) n (p, R) = 0 then ins n (p, R) (Z.map RF.nf) else Z.map RF.nf) ∧ RefS H' b Z' den rd' ∧ Keep H H' (· = b) ∧ ∀ x, rd' x → rd x ∨ Fresh H x ∨ (R ≠ [] ∧ ∃ a, base = some a ∧ x = a.block)) := by
  have hat := fun H1 (h1 : RefAt H1 b Z den rd) => at_c h1 n
  have hgood := fun H1 (h1 : SlcIn H1 4 base cap (R.map enc)) => File.RefGood_c p R base cap H1 h1
  have hZl : Z.length ≤ 64 := by have := hX.len; simpa using this
  have bad : ∀ {e : Int} {T : AH}, addE (Z.map RF.nf) n (p, R) = e → e ≠ 0 → H.le T → ∃ H', H'.le T ∧ ∃ Z' rd', Value.int .i64 e = .int .i64 (addE (Z.map RF.nf) n (p, R)) ∧ Z'.map RF.nf = (if addE (Z.map RF.nf) n (p, R) = 0 then ins n (p, R) (Z.map RF.nf) else Z.map RF.nf) ∧ RefS H' b Z' den rd' ∧ Keep H H' (· = b) ∧ ∀ x, rd' x → rd x ∨ Fresh H x ∨ (R ≠ [] ∧ ∃ a, base = some a ∧ x = a.block) := fun {e T} he h0 hl =>
    ⟨H, hl, Z, rd, by rw [he], by rw [he, if_neg h0], h, Keep.refl, fun x h => .inl h⟩
  unfold fv at hgood ⊢
  refine ACalls.enter2 Tryd.func10 rfl Tryd.ntmps10 Tryd.results10 (by simp) ?_; simp (dsimp := false) (maxSteps := 4000000) only [go_sem, ↓reduceIte, Nat.reduceEqDiff, Nat.reduceLT, Nat.reduceLeDiff, Nat.reduceAdd, Nat.reduceMul, Nat.reduceSub, reduceCtorEq, Int.reduceToNat, Int.reduceLT, Int.reduceLE, Int.reduceEq, Int.reduceNe, Int.reduceBEq, Nat.reduceBEq, Int.reduceBNe, Nat.reduceBNe, Int.reduceAdd, Int.reduceSub, Int.reduceMul, Int.reduceNeg]
  refine AllB.mk fun b5 h_b5 => ?_; have hn_b5 := h_b5; (try simp only [fresh_add, fresh_set, ne_eq] at hn_b5); have hr_b5 := hn_b5; (try simp only [@eq_comm Nat b5] at hr_b5); simp (dsimp := false) (maxSteps := 4000000) only [hn_b5, hr_b5, go_sem, ↓reduceIte, Nat.reduceEqDiff, Nat.reduceLT, Nat.reduceLeDiff, Nat.reduceAdd, Nat.reduceMul, Nat.reduceSub, reduceCtorEq, Int.reduceToNat, Int.reduceLT, Int.reduceLE, Int.reduceEq, Int.reduceNe, Int.reduceBEq, Nat.reduceBEq, Int.reduceBNe, Nat.reduceBNe, Int.reduceAdd, Int.reduceSub, Int.reduceMul, Int.reduceNeg]
  by_cases a1 : n < 0
  · simp (dsimp := false) (maxSteps := 4000000) only [a1, hn_b5, hr_b5, go_sem, ↓reduceIte, Nat.reduceEqDiff, Nat.reduceLT, Nat.reduceLeDiff, Nat.reduceAdd, Nat.reduceMul, Nat.reduceSub, reduceCtorEq, Int.reduceToNat, Int.reduceLT, Int.reduceLE, Int.reduceEq, Int.reduceNe, Int.reduceBEq, Nat.reduceBEq, Int.reduceBNe, Nat.reduceBNe, Int.reduceAdd, Int.reduceSub, Int.reduceMul, Int.reduceNeg]
    exact bad (by simp [addE, a1]) (by decide) (AH.le_add (AH.le_refl _) ((by simp only [fresh_add, fresh_set, ne_eq, hn_b5, not_false_eq_true, and_self] : Fresh _ b5).2))
  by_cases a2 : 63 < n
  · simp (dsimp := false) (maxSteps := 4000000) only [a1, a2, hn_b5, hr_b5, go_sem, ↓reduceIte, Nat.reduceEqDiff, Nat.reduceLT, Nat.reduceLeDiff, Nat.reduceAdd, Nat.reduceMul, Nat.reduceSub, reduceCtorEq, Int.reduceToNat, Int.reduceLT, Int.reduceLE, Int.reduceEq, Int.reduceNe, Int.reduceBEq, Nat.reduceBEq, Int.reduceBNe, Nat.reduceBNe, Int.reduceAdd, Int.reduceSub, Int.reduceMul, Int.reduceNeg]
    exact bad (by have : 64 ≤ n := by omega
                  simp [addE, this]) (by decide) (AH.le_add (AH.le_refl _) ((by simp only [fresh_add, fresh_set, ne_eq, hn_b5, not_false_eq_true, and_self] : Fresh _ b5).2))
  have a3 : ¬ 64 ≤ n := by omega
  simp (dsimp := false) (maxSteps := 4000000) only [a1, a2, hn_b5, hr_b5, go_sem, ↓reduceIte, Nat.reduceEqDiff, Nat.reduceLT, Nat.reduceLeDiff, Nat.reduceAdd, Nat.reduceMul, Nat.reduceSub, reduceCtorEq, Int.reduceToNat, Int.reduceLT, Int.reduceLE, Int.reduceEq, Int.reduceNe, Int.reduceBEq, Nat.reduceBEq, Int.reduceBNe, Nat.reduceBNe, Int.reduceAdd, Int.reduceSub, Int.reduceMul, Int.reduceNeg]
  refine (hgood _ (hs.add (by simp only [fresh_add, ne_eq, hn_b5, not_false_eq_true, and_self] : Fresh _ b5))).mono ?_; rintro _ _ ⟨rfl, rfl⟩
  cases hg : goodF p R with
  | false =>
    simp (dsimp := false) (maxSteps := 4000000) only [hn_b5, hr_b5, go_sem, ↓reduceIte, Nat.reduceEqDiff, Nat.reduceLT, Nat.reduceLeDiff, Nat.reduceAdd, Nat.reduceMul, Nat.reduceSub, reduceCtorEq, Int.reduceToNat, Int.reduceLT, Int.reduceLE, Int.reduceEq, Int.reduceNe, Int.reduceBEq, Nat.reduceBEq, Int.reduceBNe, Nat.reduceBNe, Int.reduceAdd, Int.reduceSub, Int.reduceMul, Int.reduceNeg]
    exact bad (by simp [addE, a1, a3, hg]) (by decide) (AH.le_add (AH.le_refl _) ((by simp only [fresh_add, fresh_set, ne_eq, hn_b5, not_false_eq_true, and_self] : Fresh _ b5).2))
  | true =>
    
    simp (dsimp := false) (maxSteps := 4000000) only [hn_b5, hr_b5, go_sem, ↓reduceIte, Nat.reduceEqDiff, Nat.reduceLT, Nat.reduceLeDiff, Nat.reduceAdd, Nat.reduceMul, Nat.reduceSub, reduceCtorEq, Int.reduceToNat, Int.reduceLT, Int.reduceLE, Int.reduceEq, Int.reduceNe, Int.reduceBEq, Nat.reduceBEq, Int.reduceBNe, Nat.reduceBNe, Int.reduceAdd, Int.reduceSub, Int.reduceMul, Int.reduceNeg]
    refine (hat _ (h.at.keep (Keep.add h_b5 (ex := fun _ => False)) (fun _ _ h => h) fun h => h)).mono ?_
    rintro _ _ ⟨r, rfl, ho, rfl⟩
    rcases ho with ⟨rfl, hl⟩ | ⟨i, z, rfl, hz, hn, hl⟩
    case' inr =>
      have hi0 : (0 : Int) ≤ (i : Int) := by omega
      simp (dsimp := false) (maxSteps := 4000000) only [hi0, hn_b5, hr_b5, go_sem, ↓reduceIte, Nat.reduceEqDiff, Nat.reduceLT, Nat.reduceLeDiff, Nat.reduceAdd, Nat.reduceMul, Nat.reduceSub, reduceCtorEq, Int.reduceToNat, Int.reduceLT, Int.reduceLE, Int.reduceEq, Int.reduceNe, Int.reduceBEq, Nat.reduceBEq, Int.reduceBNe, Nat.reduceBNe, Int.reduceAdd, Int.reduceSub, Int.reduceMul, Int.reduceNeg]
      exact bad (by simp [addE, a1, a3, hg, hl]) (by decide) (AH.le_add (AH.le_refl _) ((by simp only [fresh_add, fresh_set, ne_eq, hn_b5, not_false_eq_true, and_self] : Fresh _ b5).2))
    obtain ⟨zb, zc, ht, hZ, hnb, hzb, hk⟩ := h
    have he : addE (Z.map RF.nf) n (p, R) = 0 := by simp [addE, a1, a3, hg, hl]
    rw [he]
    simp (dsimp := false) (maxSteps := 4000000) only [hn_b5, hr_b5, go_sem, ↓reduceIte, Nat.reduceEqDiff, Nat.reduceLT, Nat.reduceLeDiff, Nat.reduceAdd, Nat.reduceMul, Nat.reduceSub, reduceCtorEq, Int.reduceToNat, Int.reduceLT, Int.reduceLE, Int.reduceEq, Int.reduceNe, Int.reduceBEq, Nat.reduceBEq, Int.reduceBNe, Nat.reduceBNe, Int.reduceAdd, Int.reduceSub, Int.reduceMul, Int.reduceNeg]
    refine AllB.mk fun bl h_bl => ?_
    have hn_bl : ¬ bl = b5 ∧ Fresh H bl := by simpa only [fresh_add, ne_eq] using h_bl
    simp (dsimp := false) (maxSteps := 4000000) only [hn_b5, hr_b5, go_sem, ↓reduceIte, Nat.reduceEqDiff, Nat.reduceLT, Nat.reduceLeDiff, Nat.reduceAdd, Nat.reduceMul, Nat.reduceSub, reduceCtorEq, Int.reduceToNat, Int.reduceLT, Int.reduceLE, Int.reduceEq, Int.reduceNe, Int.reduceBEq, Nat.reduceBEq, Int.reduceBNe, Nat.reduceBNe, Int.reduceAdd, Int.reduceSub, Int.reduceMul, Int.reduceNeg]
    obtain ⟨H1, hH1⟩ : ∃ H1, H.add b5 (.cells [.int .i64 p, .slice base R.length cap] 35 2) = H1 := ⟨_, rfl⟩
    have k1 : Keep H H1 fun _ => False := hH1 ▸ Keep.add h_b5
    have f5 : H1.find b5 = some (.cells [.int .i64 p, .slice base R.length cap] 35 2) := by rw [← hH1, find_add_self]
    rw [hH1] at h_bl ⊢
    have ht1 := k1.find (fun h => h) ht
    have hZ1 := hZ.keep k1 fun _ _ h => h
    have hs1 := hs.keep k1 fun _ _ h => h
    refine AWp.loopr (ι := Nat × Option Addr × Nat) (fun s A => s.1 ≤ Z.length ∧ (∀ x ∈ (Z.map RF.nf).take s.1, x.1 < n) ∧ OwnS H1 A 56 3 s.2.1 s.2.2 ((Z.take s.1).map encN) ∧ Keep H1 A fun _ => False)
      (fun s => [(8, .int .i64 s.1), (7, .slice s.2.1 s.1 s.2.2), (0, .pointer (some ⟨b, 0, none⟩)), (1, .int .i64 n), (5, .pointer (some ⟨b5, 0, none⟩))]) (fun s => Z.length - s.1) (0, some ⟨bl, 0, none⟩, 0) (H1.add bl (.cells [] 56 0))
      ⟨by simp, by simp, OwnS.new h_bl (AH.le_refl _) rfl rfl rfl (by simp) (by simp), Keep.add h_bl⟩ (FrLe.of_lks ?_) (AH.le_refl _) fun s A hV Q again out => ?_
    · simp (dsimp := false) (maxSteps := 4000000) only [hn_b5, hr_b5, go_sem, ↓reduceIte, Nat.reduceEqDiff, Nat.reduceLT, Nat.reduceLeDiff, Nat.reduceAdd, Nat.reduceMul, Nat.reduceSub, reduceCtorEq, Int.reduceToNat, Int.reduceLT, Int.reduceLE, Int.reduceEq, Int.reduceNe, Int.reduceBEq, Nat.reduceBEq, Int.reduceBNe, Nat.reduceBNe, Int.reduceAdd, Int.reduceSub, Int.reduceMul, Int.reduceNeg]
    clear hn_bl h_bl
    
    obtain ⟨i, ob, oc⟩ := s
    obtain ⟨hi, hlt, hO, hK⟩ := hV
    dsimp only at hi hlt hO hK ⊢
    have htA := hK.find (fun h => h) ht1
    have hZA := hZ1.keep hK fun _ _ h => h
    have r0 : A.rd ⟨b, 0, none⟩ = some (.slice zb Z.length zc) := by rw [rd_find htA]; rfl
    have hi0 : (0 : Int) ≤ (i : Int) := by omega
    have ee := i64_succ (i := i) (by omega)
    have hti : (Z.take i).length = i := by rw [List.length_take]; omega
    have hro : ((i : Int) < Z.length ∧ ∃ z, Z[i]? = some z ∧ ∃ b_ o, zb = some ⟨b_, o, none⟩ ∧ A.row b_ (o + i * 3) 3 = some (encN z) ∧ A.rd ⟨b_, o + i * 3, none⟩ = some (.int .i64 z.n)) ∨ ¬ (i : Int) < Z.length := by
      by_cases hin : (i : Int) < Z.length
      · obtain ⟨z, hz⟩ := get_some (l := Z) (i := i) (by omega)
        obtain ⟨b_, o, he, hrow, hrd⟩ := hZA.out.get (Go.AX.map_get (f := encN) hz)
        exact .inl ⟨hin, z, hz, b_, o, he, hrow, hrd 0 _ rfl⟩
      · exact .inr hin
    rcases hro with ⟨hin, z, hz, b_, o, he, hrow, rz⟩ | hin
    case' inl => by_cases hzn : z.n < n
    case' pos =>
      subst he
      
      simp (dsimp := false) (maxSteps := 4000000) only [r0, hin, rz, hi0, hzn, go_sem, ↓reduceIte, Nat.reduceEqDiff, Nat.reduceLT, Nat.reduceLeDiff, Nat.reduceAdd, Nat.reduceMul, Nat.reduceSub, reduceCtorEq, Int.reduceToNat, Int.reduceLT, Int.reduceLE, Int.reduceEq, Int.reduceNe, Int.reduceBEq, Nat.reduceBEq, Int.reduceBNe, Nat.reduceBNe, Int.reduceAdd, Int.reduceSub, Int.reduceMul, Int.reduceNeg]
      unfold encN at hrow
      simp (dsimp := false) (maxSteps := 4000000) only [r0, hin, hi0, hrow, go_sem, ↓reduceIte, Nat.reduceEqDiff, Nat.reduceLT, Nat.reduceLeDiff, Nat.reduceAdd, Nat.reduceMul, Nat.reduceSub, reduceCtorEq, Int.reduceToNat, Int.reduceLT, Int.reduceLE, Int.reduceEq, Int.reduceNe, Int.reduceBEq, Nat.reduceBEq, Int.reduceBNe, Nat.reduceBNe, Int.reduceAdd, Int.reduceSub, Int.reduceMul, Int.reduceNeg]
      refine AllB.mk fun bx h_bx => ?_; have hn_bx := h_bx; (try simp only [fresh_add, fresh_set, ne_eq] at hn_bx); have hr_bx := hn_bx; (try simp only [@eq_comm Nat bx] at hr_bx); simp (dsimp := false) (maxSteps := 4000000) only [hn_bx, hr_bx, go_sem, ↓reduceIte, Nat.reduceEqDiff, Nat.reduceLT, Nat.reduceLeDiff, Nat.reduceAdd, Nat.reduceMul, Nat.reduceSub, reduceCtorEq, Int.reduceToNat, Int.reduceLT, Int.reduceLE, Int.reduceEq, Int.reduceNe, Int.reduceBEq, Nat.reduceBEq, Int.reduceBNe, Nat.reduceBNe, Int.reduceAdd, Int.reduceSub, Int.reduceMul, Int.reduceNeg]
      have hO2 : OwnS H1 (A.add bx (.cells (encN z) 56 3)) 56 3 ob oc ((Z.take i).map encN) := hO.added h_bx
      have hK2 : Keep H1 (A.add bx (.cells (encN z) 56 3)) fun _ => False := hK.nw h_bx
      refine APD.growW (x := .slice (some ⟨bx, 0, none⟩) 1 1) (R' := [encN z]) (m := 1) hO2 hK2.all se_26 rfl (by decide) (by rw [Tryd.underlying26]; rfl) (by rw [List.length_map, hti]) rfl rfl (by rw [srow_some, row_add_self]; rfl) (by simp [encN]) (by simp [encN, scal]) (by omega) fun base' cap' A' hO' hK' hN' => ?_
      refine ⟨A', AH.le_refl _, ?_⟩
      simp (dsimp := false) (maxSteps := 4000000) only [ee, hn_bx, hr_bx, go_sem, ↓reduceIte, Nat.reduceEqDiff, Nat.reduceLT, Nat.reduceLeDiff, Nat.reduceAdd, Nat.reduceMul, Nat.reduceSub, reduceCtorEq, Int.reduceToNat, Int.reduceLT, Int.reduceLE, Int.reduceEq, Int.reduceNe, Int.reduceBEq, Nat.reduceBEq, Int.reduceBNe, Nat.reduceBNe, Int.reduceAdd, Int.reduceSub, Int.reduceMul, Int.reduceNeg]
      refine again (i + 1, base', cap') _ A' _ ⟨by dsimp only; omega, fun x hx => ?_, ?_, hK2.ow hK' fun b ⟨a, ha, e⟩ => e ▸ hO.fresh a ha⟩ (FrLe.of_lks (by simp (dsimp := false) (maxSteps := 4000000) only [hn_bx, hr_bx, go_sem, ↓reduceIte, Nat.reduceEqDiff, Nat.reduceLT, Nat.reduceLeDiff, Nat.reduceAdd, Nat.reduceMul, Nat.reduceSub, reduceCtorEq, Int.reduceToNat, Int.reduceLT, Int.reduceLE, Int.reduceEq, Int.reduceNe, Int.reduceBEq, Nat.reduceBEq, Int.reduceBNe, Nat.reduceBNe, Int.reduceAdd, Int.reduceSub, Int.reduceMul, Int.reduceNeg])) (AH.le_refl _) (by dsimp only; omega)
      · dsimp only at hx
        rw [List.take_add_one, List.mem_append] at hx
        rcases hx with hx | hx
        · exact hlt x hx
        · rw [List.getElem?_map, hz] at hx
          simp at hx; subst hx; exact hzn
      · dsimp only
        rw [List.take_add_one, List.map_append, hz]
        exact hO'
      
    case' neg =>
      have hge : ∀ x, (Z.map RF.nf)[i]? = some x → ¬ x.1 < n := fun x hx => by
        rw [List.getElem?_map, hz] at hx; cases hx; exact hzn
      
      simp (dsimp := false) (maxSteps := 4000000) only [r0, hin, he, rz, hi0, hzn, go_sem, ↓reduceIte, Nat.reduceEqDiff, Nat.reduceLT, Nat.reduceLeDiff, Nat.reduceAdd, Nat.reduceMul, Nat.reduceSub, reduceCtorEq, Int.reduceToNat, Int.reduceLT, Int.reduceLE, Int.reduceEq, Int.reduceNe, Int.reduceBEq, Nat.reduceBEq, Int.reduceBNe, Nat.reduceBNe, Int.reduceAdd, Int.reduceSub, Int.reduceMul, Int.reduceNeg]
      refine out _ _ _ (by simp) ?_
      clear hz hrow rz hzn he
      
    case' inr =>
      have hge : ∀ x, (Z.map RF.nf)[i]? = some x → ¬ x.1 < n := fun x hx => by
        rw [List.getElem?_eq_none (by rw [List.length_map]; omega)] at hx; cases hx
      
      simp (dsimp := false) (maxSteps := 4000000) only [r0, hin, go_sem, ↓reduceIte, Nat.reduceEqDiff, Nat.reduceLT, Nat.reduceLeDiff, Nat.reduceAdd, Nat.reduceMul, Nat.reduceSub, reduceCtorEq, Int.reduceToNat, Int.reduceLT, Int.reduceLE, Int.reduceEq, Int.reduceNe, Int.reduceBEq, Nat.reduceBEq, Int.reduceBNe, Nat.reduceBNe, Int.reduceAdd, Int.reduceSub, Int.reduceMul, Int.reduceNeg]
      refine out _ _ _ (by simp) ?_
      
    all_goals
      clear out again
      have hins := ins_at (f := (p, R)) hlt hge
      have w5 : A.row b5 0 2 = some [.int .i64 p, .slice base R.length cap] := row_find (hK.find (fun h => h) f5) (by simp)
      
      simp (dsimp := false) (maxSteps := 4000000) only [go_sem, ↓reduceIte, Nat.reduceEqDiff, Nat.reduceLT, Nat.reduceLeDiff, Nat.reduceAdd, Nat.reduceMul, Nat.reduceSub, reduceCtorEq, Int.reduceToNat, Int.reduceLT, Int.reduceLE, Int.reduceEq, Int.reduceNe, Int.reduceBEq, Nat.reduceBEq, Int.reduceBNe, Nat.reduceBNe, Int.reduceAdd, Int.reduceSub, Int.reduceMul, Int.reduceNeg]
      have w51 : H1.row b5 0 2 = some [.int .i64 p, .slice base R.length cap] := row_find f5 (by simp)
      refine AWp.gen [.pu, .pu, .pu, .rd, .pu, .al, .ch, .pu, .pu, .pu, .rd, .pu, .pu, .ch, .pu, .pu, .ch] [0, 0, 0, 0, 12, 28, 62, 0, 128, 384, 896, 0, 3968, 8190, 16383, 32767, 65535] 7 (H1) mixed (by kernel_rfl) (hK.all) ?_
      simp (dsimp := false) (maxSteps := 4000000) only [w5, w51, hK.all, go_sem, ↓reduceIte, Nat.reduceEqDiff, Nat.reduceLT, Nat.reduceLeDiff, Nat.reduceAdd, Nat.reduceMul, Nat.reduceSub, reduceCtorEq, Int.reduceToNat, Int.reduceLT, Int.reduceLE, Int.reduceEq, Int.reduceNe, Int.reduceBEq, Nat.reduceBEq, Int.reduceBNe, Nat.reduceBNe, Int.reduceAdd, Int.reduceSub, Int.reduceMul, Int.reduceNeg]
      refine AllB.mk fun bx h_bx => ?_; have hn_bx := h_bx; (try simp only [fresh_add, fresh_set, ne_eq] at hn_bx); have hr_bx := hn_bx; (try simp only [@eq_comm Nat bx] at hr_bx); simp (dsimp := false) (maxSteps := 4000000) only [hn_bx, hr_bx, go_sem, ↓reduceIte, Nat.reduceEqDiff, Nat.reduceLT, Nat.reduceLeDiff, Nat.reduceAdd, Nat.reduceMul, Nat.reduceSub, reduceCtorEq, Int.reduceToNat, Int.reduceLT, Int.reduceLE, Int.reduceEq, Int.reduceNe, Int.reduceBEq, Nat.reduceBEq, Int.reduceBNe, Nat.reduceBNe, Int.reduceAdd, Int.reduceSub, Int.reduceMul, Int.reduceNeg]
      have hO2 : OwnS H1 (A.add bx (.cells (encN ⟨n, p, base, cap, R⟩) 56 3)) 56 3 ob oc ((Z.take i).map encN) := hO.added h_bx
      have hK2 : Keep H1 (A.add bx (.cells (encN ⟨n, p, base, cap, R⟩) 56 3)) fun _ => False := hK.nw h_bx
      refine APD.growW (x := .slice (some ⟨bx, 0, none⟩) 1 1) (R' := [encN ⟨n, p, base, cap, R⟩]) (m := 1) hO2 hK2.all se_26 rfl (by decide) (by rw [Tryd.underlying26]; rfl) (by rw [List.length_map, hti]) rfl rfl (by rw [srow_some, row_add_self]; rfl) (by simp [encN]) (by simp [encN, scal]) (by omega) fun base2 cap2 A2 hO3 hK3 hN3 => ?_
      refine ⟨A2, AH.le_refl _, ?_⟩
      have k2 : Keep H1 A2 fun _ => False := hK2.ow hK3 fun b ⟨a, ha, e⟩ => e ▸ hO.fresh a ha
      have r2 : H1.rd ⟨b, 0, none⟩ = some (.slice zb Z.length zc) := by rw [rd_find ht1]; rfl
      have hi' : (i : Int) ≤ Z.length := by omega
      have hzc : Z.length ≤ zc := by have := hZ.out.le; simpa using this
      have hzc' : (Z.length : Int) ≤ zc := by omega
      
      have hR0 : R ≠ [] := fun e => by subst e; simp [goodF] at hg
      have hb' := hb.resolve_left hR0
      have hbk : ∀ {x}, Fresh H1 x → x ≠ b := fun hf e => hf.ne_find ht1 e
      have fin : ∀ base3 cap3 (A3 : AH), OwnS H1 A3 56 3 base3 cap3 (((Z.take i).map encN ++ [encN ⟨n, p, base, cap, R⟩]) ++ (Z.map encN).drop i) → (Keep H1 A3 fun _ => False) → ∃ H', H'.le (A3.set b (.cells [.slice base3 (Z.length + 1) cap3, .int .i64 den] 28 2)) ∧ ∃ Z' rd', Z'.map RF.nf = ins n (p, R) (Z.map RF.nf) ∧ RefS H' b Z' den rd' ∧ Keep H H' (· = b) ∧ ∀ x, rd' x → rd x ∨ Fresh H x ∨ (R ≠ [] ∧ ∃ a, base = some a ∧ x = a.block) := fun base3 cap3 A3 hO4 k3 => by
        have hZe : (Z.take i ++ (⟨n, p, base, cap, R⟩ : RF) :: Z.drop i).map encN = ((Z.take i).map encN ++ [encN ⟨n, p, base, cap, R⟩]) ++ (Z.map encN).drop i := by simp [List.map_drop]
        have hZl' : (Z.take i ++ (⟨n, p, base, cap, R⟩ : RF) :: Z.drop i).length = Z.length + 1 := by simp; omega
        rw [← hZe] at hO4
        have hne3 : ∀ a, base3 = some a → a.block ≠ b := fun a ha => hbk (hO4.fresh a ha)
        have hset : Keep A3 (A3.set b (.cells [.slice base3 (Z.length + 1) cap3, .int .i64 den] 28 2)) (· = b) := Keep.set
        have hKH : Keep H (A3.set b (.cells [.slice base3 (Z.length + 1) cap3, .int .i64 den] 28 2)) (· = b) := (((k1.trans k3).mono fun _ h => h.elim)).trans hset
        have hN := (hZ1.keep k3 fun _ _ h => h).keep hset fun x hx e => hnb (e ▸ hx)
        have hsz' := (hs1.keep k3 fun _ _ h => h).keep hset fun a ha => (hb' a ha).1
        refine ⟨_, AH.le_refl _, Z.take i ++ ⟨n, p, base, cap, R⟩ :: Z.drop i, fun x => rd x ∨ (∃ a, base3 = some a ∧ x = a.block) ∨ ∃ a, base = some a ∧ x = a.block, ?_, ⟨base3, cap3, ?_, ⟨?_, fun z hz => ?_, .inr fun a ha => .inr (.inl ⟨a, ha, rfl⟩), fun z hz => ?_⟩, ?_, ?_, ?_⟩, hKH, ?_⟩
        · rw [hins]; simp [RF.nf, List.map_take, List.map_drop]
        · rw [find_set, if_pos rfl, hZl']
        · exact hO4.slc.keep hset hne3
        · rcases List.mem_append.1 hz with hz | hz
          · exact hN.inn z (List.mem_of_mem_take hz)
          · rcases List.mem_cons.1 hz with rfl | hz
            · exact hsz'
            · exact hN.inn z (List.mem_of_mem_drop hz)
        · rcases List.mem_append.1 hz with hz | hz
          · exact (hZ.r2 z (List.mem_of_mem_take hz)).imp id fun h a ha => .inl (h a ha)
          · rcases List.mem_cons.1 hz with rfl | hz
            · exact .inr fun a ha => .inr (.inr ⟨a, ha, rfl⟩)
            · exact (hZ.r2 z (List.mem_of_mem_drop hz)).imp id fun h a ha => .inl (h a ha)
        · rintro (h | ⟨a, ha, e⟩ | ⟨a, ha, e⟩)
          · exact hnb h
          · exact hne3 a ha e.symm
          · exact (hb' a ha).1 e.symm
        · rcases hO4.at_ with ⟨_, h, _⟩ | ⟨b', bs, h, _⟩
          · simp at h
          · exact .inr ⟨b', 0, h⟩
        · rintro x (h | ⟨a, ha, e⟩ | ⟨a, ha, e⟩) hf
          · exact hk x h (hKH.fresh hf fun e => hnb (e ▸ h))
          · subst e
            rcases hO4.at_ with ⟨h, _⟩ | ⟨b', bs, h, hfd, _⟩
            · rw [ha] at h; cases h
            · rw [ha] at h; cases h
              have := hf.2
              rw [find_set, if_neg (hne3 _ ha), hfd] at this; cases this
          · subst e
            exact (hb' a ha).2 (hKH.fresh hf (hb' a ha).1)
        · rintro x (h | ⟨a, ha, e⟩ | ⟨a, ha, e⟩)
          · exact .inl h
          · subst e; exact .inr (.inl (k1.fr (hO4.fresh a ha)))
          · exact .inr (.inr ⟨hR0, a, ha, e⟩)
      rcases hzb with ⟨rfl, rfl, rfl⟩ | ⟨q, o, rfl⟩
      · obtain rfl : i = 0 := by simpa using hi
        simp (dsimp := false) (maxSteps := 4000000) only [r2, k2.all, go_sem, ↓reduceIte, Nat.reduceEqDiff, Nat.reduceLT, Nat.reduceLeDiff, Nat.reduceAdd, Nat.reduceMul, Nat.reduceSub, reduceCtorEq, Int.reduceToNat, Int.reduceLT, Int.reduceLE, Int.reduceEq, Int.reduceNe, Int.reduceBEq, Nat.reduceBEq, Int.reduceBNe, Nat.reduceBNe, Int.reduceAdd, Int.reduceSub, Int.reduceMul, Int.reduceNeg]
        refine APD.growS (m := 0) (R' := ([] : List RF).map encN) hO3 k2.all se_26 rfl (by decide) (by decide) (by rw [Tryd.underlying26]; rfl) (by simp) rfl SlcIn.empty (rowsN []) (scalN []) (by omega) fun base3 cap3 A3 hO4 hK4 hN4 => ?_
        refine ⟨A3, AH.le_refl _, ?_⟩
        have k3 : Keep H1 A3 fun _ => False := k2.ow hK4 fun b ⟨a, ha, e⟩ => e ▸ hO3.fresh a ha
        have hw : A3.wrs b 0 [.slice base3 1 cap3] = some (A3.set b (.cells [.slice base3 1 cap3, .int .i64 den] 28 2)) := by
          simp [AH.wrs, k3.find (fun h => h) ht1, lput, scal]
        simp (dsimp := false) (maxSteps := 4000000) only [hw, go_sem, ↓reduceIte, Nat.reduceEqDiff, Nat.reduceLT, Nat.reduceLeDiff, Nat.reduceAdd, Nat.reduceMul, Nat.reduceSub, reduceCtorEq, Int.reduceToNat, Int.reduceLT, Int.reduceLE, Int.reduceEq, Int.reduceNe, Int.reduceBEq, Nat.reduceBEq, Int.reduceBNe, Nat.reduceBNe, Int.reduceAdd, Int.reduceSub, Int.reduceMul, Int.reduceNeg]
        exact fin base3 cap3 A3 hO4 k3
      · simp (dsimp := false) (maxSteps := 4000000) only [r2, k2.all, hi', hzc', hi0, go_sem, ↓reduceIte, Nat.reduceEqDiff, Nat.reduceLT, Nat.reduceLeDiff, Nat.reduceAdd, Nat.reduceMul, Nat.reduceSub, reduceCtorEq, Int.reduceToNat, Int.reduceLT, Int.reduceLE, Int.reduceEq, Int.reduceNe, Int.reduceBEq, Nat.reduceBEq, Int.reduceBNe, Nat.reduceBNe, Int.reduceAdd, Int.reduceSub, Int.reduceMul, Int.reduceNeg]
        refine APD.growS (m := Z.length - i) (R' := (Z.map encN).drop i) hO3 k2.all se_26 rfl (by decide) (by decide) (by rw [Tryd.underlying26]; rfl) (by rw [List.length_append, List.length_map, hti]; rfl) (by simp) (SlcIn.drop (hZ1.keep k2 fun _ _ h => h).out i (by simpa using hi)) (fun r hr => rowsN Z r (List.mem_of_mem_drop hr)) (by rw [← List.map_drop]; exact scalN _) (by omega) fun base3 cap3 A3 hO4 hK4 hN4 => ?_
        refine ⟨A3, AH.le_refl _, ?_⟩
        have k3 : Keep H1 A3 fun _ => False := k2.ow hK4 fun b ⟨a, ha, e⟩ => e ▸ hO3.fresh a ha
        rw [show i + 1 + (Z.length - i) = Z.length + 1 from by omega]
        have hw : A3.wrs b 0 [.slice base3 (Z.length + 1) cap3] = some (A3.set b (.cells [.slice base3 (Z.length + 1) cap3, .int .i64 den] 28 2)) := by
          simp [AH.wrs, k3.find (fun h => h) ht1, lput, scal]
        simp (dsimp := false) (maxSteps := 4000000) only [hw, go_sem, ↓reduceIte, Nat.reduceEqDiff, Nat.reduceLT, Nat.reduceLeDiff, Nat.reduceAdd, Nat.reduceMul, Nat.reduceSub, reduceCtorEq, Int.reduceToNat, Int.reduceLT, Int.reduceLE, Int.reduceEq, Int.reduceNe, Int.reduceBEq, Nat.reduceBEq, Int.reduceBNe, Nat.reduceBNe, Int.reduceAdd, Int.reduceSub, Int.reduceMul, Int.reduceNeg]
        exact fin base3 cap3 A3 hO4 k3
      
    
end Go.Proofs.YtmkbpdlijfjgkaaDoor.Ifs
