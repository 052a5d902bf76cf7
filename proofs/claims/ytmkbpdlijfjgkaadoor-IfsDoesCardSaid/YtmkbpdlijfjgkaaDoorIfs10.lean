/- ifs: Files. -/
import Derived.Test.YtmkbpdlijfjgkaaDoorIfs6
import Derived.Test.YtmkbpdlijfjgkaaDoorIfs8
import Derived.Test.YtmkbpdlijfjgkaaDoorIfs9
import Derived.Test.YtmkbpdlijfjgkaaDoorAx23
namespace Go.Proofs.YtmkbpdlijfjgkaaDoor.Ifs
set_option linter.unusedSimpArgs false
set_option linter.unusedVariables false
open Go Go.AX Go.Proofs Ty Go.Proofs.YtmkbpdlijfjgkaaDoor.File
set_option maxHeartbeats 4000000
set_option maxRecDepth 10000

theorem OkX.len {X : List Nf} (h : OkX X) : X.length ≤ 64 := by
  have h1 : (X.map fun x => x.1.toNat).Nodup := by
    have : (X.map fun x => x.1.toNat) = (X.map (·.1)).map Int.toNat := by rw [List.map_map]; rfl
    rw [this, List.Nodup, List.pairwise_map]
    refine List.Pairwise.imp_of_mem ?_ h.kd
    intro a b ha hb hab e
    obtain ⟨x, hx, rfl⟩ := List.mem_map.1 ha
    obtain ⟨y, hy, rfl⟩ := List.mem_map.1 hb
    have := (h.ok x hx).1; have := (h.ok y hy).1
    exact hab (by omega)
  have := nodup_range_le (n := 64) h1 (fun k hk => by
    obtain ⟨x, hx, rfl⟩ := List.mem_map.1 hk
    have := (h.ok x hx).1; omega)
  simpa using this
theorem Files_nil (H : AH) : ACalls Tryd.prog 20 #[.pointer none] H (fun v H' => v = .slice none 0 0 ∧ H = H') := by
  refine ACalls.enter2 Tryd.func20 rfl Tryd.ntmps20 Tryd.results20 (by simp) ?_; simp (dsimp := false) (maxSteps := 4000000) only [go_sem, ↓reduceIte, Nat.reduceEqDiff, Nat.reduceLT, Nat.reduceLeDiff, Nat.reduceAdd, Nat.reduceMul, Nat.reduceSub, reduceCtorEq, Int.reduceToNat, Int.reduceLT, Int.reduceLE, Int.reduceEq, Int.reduceNe, Int.reduceBEq, Nat.reduceBEq, Int.reduceBNe, Nat.reduceBNe, Int.reduceAdd, Int.reduceSub, Int.reduceMul, Int.reduceNeg]
  exact ⟨H, AH.le_refl _, rfl⟩
theorem ClipN_c (base : Option Addr) (n cap : Nat) (H : AH) (h : n ≤ cap) :
    ACalls Tryd.prog 38 #[.slice base n cap] H (fun v H' => v = .slice base n n ∧ H = H') := by
  refine ACalls.enter2 Tryd.func38 rfl Tryd.ntmps38 Tryd.results38 (by simp) ?_; simp (dsimp := false) (maxSteps := 4000000) only [go_sem, ↓reduceIte, Nat.reduceEqDiff, Nat.reduceLT, Nat.reduceLeDiff, Nat.reduceAdd, Nat.reduceMul, Nat.reduceSub, reduceCtorEq, Int.reduceToNat, Int.reduceLT, Int.reduceLE, Int.reduceEq, Int.reduceNe, Int.reduceBEq, Nat.reduceBEq, Int.reduceBNe, Nat.reduceBNe, Int.reduceAdd, Int.reduceSub, Int.reduceMul, Int.reduceNeg]
  have h' : (n : Int) ≤ cap := by omega
  simp (dsimp := false) (maxSteps := 4000000) only [h', Int.le_refl, go_sem, ↓reduceIte, Nat.reduceEqDiff, Nat.reduceLT, Nat.reduceLeDiff, Nat.reduceAdd, Nat.reduceMul, Nat.reduceSub, reduceCtorEq, Int.reduceToNat, Int.reduceLT, Int.reduceLE, Int.reduceEq, Int.reduceNe, Int.reduceBEq, Nat.reduceBEq, Int.reduceBNe, Nat.reduceBNe, Int.reduceAdd, Int.reduceSub, Int.reduceMul, Int.reduceNeg]
  exact ⟨H, (AH.le_refl _), (by first | exact ⟨rfl, rfl⟩ | rfl)⟩
def zOf (X : List Nf) (k : Int) : Nf := (k, (lk k X).getD (0, []))
theorem zOf_map {X : List Nf} (h : Kd X) : (X.map (·.1)).map (zOf X) = X := by
  rw [List.map_map]
  conv => rhs; rw [← List.map_id X]
  refine List.map_congr_left fun x hx => ?_
  simp [zOf, lk_mem h (f := x.2) (n := x.1) hx]
theorem nf_of_ks {X : List Nf} (hX : Kd X) {Z : List RF} {ks : List Int} (hz : Z.map (·.n) = ks) (hl : ∀ z ∈ Z, lk z.n X = some (z.p, z.R)) (hp : ks.Perm (X.map (·.1))) (hs : ks.Pairwise (· ≤ ·)) : (Z.map RF.nf).Perm X ∧ Srt (Z.map RF.nf) := by
  have e : Z.map RF.nf = ks.map (zOf X) := by
    rw [← hz, List.map_map]
    refine List.map_congr_left fun z h => ?_
    simp [zOf, RF.nf, hl z h]
  refine ⟨?_, ?_⟩
  · rw [e]
    have := hp.map (zOf X)
    rwa [zOf_map hX] at this
  · have hnd : ks.Nodup := hp.nodup_iff.2 hX
    have : ks.Pairwise (· < ·) := by
      have := List.Pairwise.and hs hnd
      exact this.imp fun ⟨h1, h2⟩ => by omega
    rw [← hz, List.pairwise_map] at this
    rw [Srt, List.pairwise_map]
    exact this
/-- A file in a list that is being built: its own block. -/
def Own1 (H1 A : AH) (base : Option Addr) (X : List Nf) (z : RF) : Prop := ∃ zb bs, z.base = some ⟨zb, 0, none⟩ ∧ z.cap = z.R.length ∧ A.find zb = some (.cells (z.R.map enc).flatten 32 bs) ∧ z.R.length * 4 ≤ bs ∧ Fresh H1 zb ∧ (∀ a, base = some a → zb ≠ a.block) ∧ lk z.n X = some (z.p, z.R)
theorem Files_c {H : AH} {b : Nat} {X : List Nf} {den : Int} {ft : Nat → Prop} (h : StAt H b X den ft) (hX : OkX X) :
    ACalls Tryd.prog 20 #[.pointer (some ⟨b, 0, none⟩)] H (fun u H' => ∃ base cap Z rd, u = .slice base (List.length Z) cap ∧ (Z.map RF.nf).Perm X ∧ Srt (Z.map RF.nf) ∧ NmIn H' base cap Z rd ∧ Keep H H' (fun _ => False) ∧ ∀ x, rd x → Fresh H x) := by
  obtain ⟨bm, ms, h1, rfl, hft⟩ := h
  have hlen : ms.length ≤ 64 := by have := hX.len; simpa using this
  have hn64 : ∀ m ∈ ms, 0 ≤ m.n ∧ m.n < 64 := fun m hm => (hX.ok m.nf (List.mem_map_of_mem hm)).1
  have r0 : H.rd ⟨b, 0, none⟩ = some (.map (some bm)) := by rw [rd_find h1.top]; rfl
  refine ACalls.enter2 Tryd.func20 rfl Tryd.ntmps20 Tryd.results20 (by simp) ?_; simp (dsimp := false) (maxSteps := 4000000) only [go_sem, ↓reduceIte, Nat.reduceEqDiff, Nat.reduceLT, Nat.reduceLeDiff, Nat.reduceAdd, Nat.reduceMul, Nat.reduceSub, reduceCtorEq, Int.reduceToNat, Int.reduceLT, Int.reduceLE, Int.reduceEq, Int.reduceNe, Int.reduceBEq, Nat.reduceBEq, Int.reduceBNe, Nat.reduceBNe, Int.reduceAdd, Int.reduceSub, Int.reduceMul, Int.reduceNeg]
  simp (dsimp := false) (maxSteps := 4000000) only [r0, go_sem, ↓reduceIte, Nat.reduceEqDiff, Nat.reduceLT, Nat.reduceLeDiff, Nat.reduceAdd, Nat.reduceMul, Nat.reduceSub, reduceCtorEq, Int.reduceToNat, Int.reduceLT, Int.reduceLE, Int.reduceEq, Int.reduceNe, Int.reduceBEq, Nat.reduceBEq, Int.reduceBNe, Nat.reduceBNe, Int.reduceAdd, Int.reduceSub, Int.reduceMul, Int.reduceNeg]
  refine (Keys_c bm).mono ?_
  rintro _ _ ⟨bk, h_bk, rfl, rfl⟩
  simp (dsimp := false) (maxSteps := 4000000) only [go_sem, ↓reduceIte, Nat.reduceEqDiff, Nat.reduceLT, Nat.reduceLeDiff, Nat.reduceAdd, Nat.reduceMul, Nat.reduceSub, reduceCtorEq, Int.reduceToNat, Int.reduceLT, Int.reduceLE, Int.reduceEq, Int.reduceNe, Int.reduceBEq, Nat.reduceBEq, Int.reduceBNe, Nat.reduceBNe, Int.reduceAdd, Int.reduceSub, Int.reduceMul, Int.reduceNeg]
  have nk1 : bk ≠ b := h_bk.ne_find h1.top
  have nk2 : bk ≠ bm := h_bk.ne_find h1.map
  refine (Sorted_c (ms := ms) (find_add_self _ _ _) (by rw [find_add, if_neg (Ne.symm nk2)]; exact h1.map) h1.kd hn64 hlen).mono ?_
  rintro _ H1 ⟨kb, kc, ks, rfl, hperm, hsrt, hks, hK1, _⟩
  have hkl : ks.length = ms.length := by rw [hperm.length_eq, List.length_map]
  have hK1' : Keep H H1 fun _ => False := (Keep.add h_bk).trans hK1
  have hS := h1.keep hK1' fun _ _ h => h
  have hperm' : ks.Perm ((ms.map MF.nf).map (·.1)) := by rw [List.map_map]; exact hperm
  simp (dsimp := false) (maxSteps := 4000000) only [go_sem, ↓reduceIte, Nat.reduceEqDiff, Nat.reduceLT, Nat.reduceLeDiff, Nat.reduceAdd, Nat.reduceMul, Nat.reduceSub, reduceCtorEq, Int.reduceToNat, Int.reduceLT, Int.reduceLE, Int.reduceEq, Int.reduceNe, Int.reduceBEq, Nat.reduceBEq, Int.reduceBNe, Nat.reduceBNe, Int.reduceAdd, Int.reduceSub, Int.reduceMul, Int.reduceNeg]
  refine AWp.loopr (ι := Nat × Option Addr × Nat × List RF) (fun s A => s.1 ≤ ks.length ∧ s.2.2.2.map (·.n) = ks.take s.1 ∧ OwnS H1 A 56 3 s.2.1 s.2.2.1 (s.2.2.2.map encN) ∧ (Keep H1 A fun _ => False) ∧ ∀ z ∈ s.2.2.2, Own1 H1 A s.2.1 (ms.map MF.nf) z)
    (fun s => [(15, .int .i64 s.1), (14, .int .i64 ks.length), (13, .slice kb ks.length kc), (3, .slice s.2.1 s.2.2.2.length s.2.2.1), (0, .pointer (some ⟨b, 0, none⟩))]) (fun s => ks.length - s.1) (0, none, 0, []) H1
    ⟨by simp, rfl, OwnS.nil, Keep.refl, by simp⟩ (FrLe.of_lks ?_) (AH.le_refl _) fun s A hV Q again out => ?_
  · simp (dsimp := false) (maxSteps := 4000000) only [go_sem, ↓reduceIte, Nat.reduceEqDiff, Nat.reduceLT, Nat.reduceLeDiff, Nat.reduceAdd, Nat.reduceMul, Nat.reduceSub, reduceCtorEq, Int.reduceToNat, Int.reduceLT, Int.reduceLE, Int.reduceEq, Int.reduceNe, Int.reduceBEq, Nat.reduceBEq, Int.reduceBNe, Nat.reduceBNe, Int.reduceAdd, Int.reduceSub, Int.reduceMul, Int.reduceNeg]
  obtain ⟨i, base, cap, Z⟩ := s
  obtain ⟨hi, hz, hO, hK, hZ⟩ := hV
  dsimp only at hi hz hO hK hZ ⊢
  have hZl : Z.length = i := by have := congrArg List.length hz; rw [List.length_map, List.length_take] at this; omega
  have hSA := hS.keep hK fun _ _ h => h
  by_cases hlt : (i : Int) < ks.length
  case neg =>
    obtain rfl : i = ks.length := by omega
    simp (dsimp := false) (maxSteps := 4000000) only [hlt, go_sem, ↓reduceIte, Nat.reduceEqDiff, Nat.reduceLT, Nat.reduceLeDiff, Nat.reduceAdd, Nat.reduceMul, Nat.reduceSub, reduceCtorEq, Int.reduceToNat, Int.reduceLT, Int.reduceLE, Int.reduceEq, Int.reduceNe, Int.reduceBEq, Nat.reduceBEq, Int.reduceBNe, Nat.reduceBNe, Int.reduceAdd, Int.reduceSub, Int.reduceMul, Int.reduceNeg]
    refine out _ _ _ (by simp) ?_
    simp (dsimp := false) (maxSteps := 4000000) only [go_sem, ↓reduceIte, Nat.reduceEqDiff, Nat.reduceLT, Nat.reduceLeDiff, Nat.reduceAdd, Nat.reduceMul, Nat.reduceSub, reduceCtorEq, Int.reduceToNat, Int.reduceLT, Int.reduceLE, Int.reduceEq, Int.reduceNe, Int.reduceBEq, Nat.reduceBEq, Int.reduceBNe, Nat.reduceBNe, Int.reduceAdd, Int.reduceSub, Int.reduceMul, Int.reduceNeg]
    refine (ClipN_c base Z.length cap _ (by have := hO.le; simpa using this)).mono ?_; rintro _ _ ⟨rfl, rfl⟩
    simp (dsimp := false) (maxSteps := 4000000) only [go_sem, ↓reduceIte, Nat.reduceEqDiff, Nat.reduceLT, Nat.reduceLeDiff, Nat.reduceAdd, Nat.reduceMul, Nat.reduceSub, reduceCtorEq, Int.reduceToNat, Int.reduceLT, Int.reduceLE, Int.reduceEq, Int.reduceNe, Int.reduceBEq, Nat.reduceBEq, Int.reduceBNe, Nat.reduceBNe, Int.reduceAdd, Int.reduceSub, Int.reduceMul, Int.reduceNeg]
    rw [List.take_length] at hz
    obtain ⟨p1, p2⟩ := nf_of_ks h1.kd hz (fun z h => by obtain ⟨_, _, _, _, _, _, _, _, h⟩ := hZ z h; exact h) hperm' hsrt
    refine ⟨A, AH.le_refl _, base, Z.length, Z, fun x => Fresh H x, rfl, p1, p2, ⟨hO.slc.recap (by simp), fun z hz => ?_, ?_, fun z hz => ?_⟩, hK1'.trans hK, fun x hx => hx⟩
    · obtain ⟨zb, bs, e1, e2, e3, e4, _⟩ := hZ z hz
      have := hO.big
      rw [e1, e2]
      refine SlcIn.of_find e3 (rows4 _) (by simp) ?_
      obtain ⟨_, _, _, _, _, _, _, _, hl⟩ := hZ z hz
      obtain ⟨_, hgd, _⟩ := hX.lk hl
      have := (goodF_len hgd).2
      dsimp only at this
      rw [List.length_map]; omega
    · cases hb : base with
      | none => exact .inr fun a h => by cases h
      | some a => exact .inr fun a' h => by cases h; exact hK1'.fr (hO.fresh a hb)
    · obtain ⟨zb, bs, e1, _, _, _, e5, _⟩ := hZ z hz
      exact .inr fun a h => by rw [e1] at h; cases h; exact hK1'.fr e5
  obtain ⟨k, hk⟩ := get_some (l := ks) (i := i) (by omega)
  have hksA : SlcIn A 1 kb kc (ks.map encI) := hks.keep hK fun _ _ h => h
  obtain ⟨kb_, ko, rfl, _, hrd⟩ := hksA.get (Go.AX.map_get (f := encI) hk)
  have rk := hrd 0 _ rfl
  simp only [Nat.add_zero, Nat.mul_one] at rk
  have hi0 : (0 : Int) ≤ (i : Int) := by omega
  have ee := i64_succ (i := i) (by omega)
  have rA : A.rd ⟨b, 0, none⟩ = some (.map (some bm)) := by rw [rd_find hSA.top]; rfl
  have hmp : A.mp bm = some (ms.map MF.ent) := by rw [AH.mp, hSA.map]
  obtain ⟨m0, hm0, hmk⟩ := List.mem_map.1 (hperm.mem_iff.1 (List.mem_of_getElem? hk))
  rcases hSA.at_ k with ⟨_, hl⟩ | ⟨j, m, hm, hj, hn, hl⟩
  · exact absurd (lk_none.1 hl m0.nf (List.mem_map_of_mem hm0)) (by simp [MF.nf, hmk])
  have hmem := List.mem_of_getElem? hj
  obtain ⟨_, hgd, _⟩ := hX.lk hl
  obtain ⟨hl1, hl2⟩ := goodF_len hgd
  dsimp only at hl1 hl2
  have hs := hSA.slc hmem (by omega)
  have hown := fun H1 (hs : SlcIn H1 4 (some ⟨m.blk, 0, none⟩) m.R.length (m.R.map enc)) => own_c m.p m.R _ _ H1 hs (by omega) (by omega)
  unfold fv at hown
  unfold MF.val fv at hm
  have hmp' : A.mp bm = some (ms.map MF.ent) := hmp
  
  simp (dsimp := false) (maxSteps := 4000000) only [hlt, hi0, rk, rA, hmp, hm, go_sem, ↓reduceIte, Nat.reduceEqDiff, Nat.reduceLT, Nat.reduceLeDiff, Nat.reduceAdd, Nat.reduceMul, Nat.reduceSub, reduceCtorEq, Int.reduceToNat, Int.reduceLT, Int.reduceLE, Int.reduceEq, Int.reduceNe, Int.reduceBEq, Nat.reduceBEq, Int.reduceBNe, Nat.reduceBNe, Int.reduceAdd, Int.reduceSub, Int.reduceMul, Int.reduceNeg]
  refine (hown _ hs).mono ?_; rintro _ _ ⟨b9, bs, h_b9, rfl, hbs, rfl⟩
  have hn_b9 := h_b9; (try simp only [fresh_add, fresh_set, ne_eq] at hn_b9); have hr_b9 := hn_b9; (try simp only [@eq_comm Nat b9] at hr_b9)
  simp (dsimp := false) (maxSteps := 4000000) only [hn_b9, hr_b9, go_sem, ↓reduceIte, Nat.reduceEqDiff, Nat.reduceLT, Nat.reduceLeDiff, Nat.reduceAdd, Nat.reduceMul, Nat.reduceSub, reduceCtorEq, Int.reduceToNat, Int.reduceLT, Int.reduceLE, Int.reduceEq, Int.reduceNe, Int.reduceBEq, Nat.reduceBEq, Int.reduceBNe, Nat.reduceBNe, Int.reduceAdd, Int.reduceSub, Int.reduceMul, Int.reduceNeg]
  refine AllB.mk fun bl h_bl => ?_; have hn_bl := h_bl; (try simp only [fresh_add, fresh_set, ne_eq] at hn_bl); have hr_bl := hn_bl; (try simp only [@eq_comm Nat bl] at hr_bl); simp (dsimp := false) (maxSteps := 4000000) only [hn_b9, hr_b9, hn_bl, hr_bl, go_sem, ↓reduceIte, Nat.reduceEqDiff, Nat.reduceLT, Nat.reduceLeDiff, Nat.reduceAdd, Nat.reduceMul, Nat.reduceSub, reduceCtorEq, Int.reduceToNat, Int.reduceLT, Int.reduceLE, Int.reduceEq, Int.reduceNe, Int.reduceBEq, Nat.reduceBEq, Int.reduceBNe, Nat.reduceBNe, Int.reduceAdd, Int.reduceSub, Int.reduceMul, Int.reduceNeg]
  let z : RF := ⟨k, m.p, some ⟨b9, 0, none⟩, m.R.length, m.R⟩
  have h_bl' : Fresh A bl := hn_bl.2
  have hO2 : OwnS H1 ((A.add b9 (.cells (m.R.map enc).flatten 32 bs)).add bl (.cells (encN z) 56 3)) 56 3 base cap (Z.map encN) := (hO.added h_b9).added h_bl
  have hK2 : Keep H1 ((A.add b9 (.cells (m.R.map enc).flatten 32 bs)).add bl (.cells (encN z) 56 3)) fun _ => False := (hK.nw h_b9).nw h_bl
  refine APD.growW (x := .slice (some ⟨bl, 0, none⟩) 1 1) (R' := [encN z]) (m := 1) hO2 hK2.all se_26 rfl (by decide) (by rw [Tryd.underlying26]; rfl) (by simp) rfl rfl (by rw [srow_some, row_add_self]; rfl) (by simp [encN]) (by simp [encN, scal]) (by omega) fun base' cap' A' hO' hK' hN' => ?_
  have hK2A : Keep A ((A.add b9 (.cells (m.R.map enc).flatten 32 bs)).add bl (.cells (encN z) 56 3)) fun _ => False := (Keep.refl.nw h_b9).nw h_bl
  have step : ∀ y : RF, ∀ zb bs', y.base = some ⟨zb, 0, none⟩ → y.cap = y.R.length → ((A.add b9 (.cells (m.R.map enc).flatten 32 bs)).add bl (.cells (encN z) 56 3)).find zb = some (.cells (y.R.map enc).flatten 32 bs') → y.R.length * 4 ≤ bs' → Fresh H1 zb → (∀ a, base = some a → zb ≠ a.block) → lk y.n (ms.map MF.nf) = some (y.p, y.R) → Own1 H1 A' base' (ms.map MF.nf) y := fun y zb bs' e1 e2 e3 e4 e5 e6 e7 => by
    refine ⟨zb, bs', e1, e2, hK'.find (fun ⟨a, ha, hb⟩ => e6 a ha hb) e3, e4, e5, fun a ha hb => ?_, e7⟩
    rcases hN' a ha with ⟨a', h1, h2⟩ | h1
    · exact e6 a' h1 (hb.trans h2)
    · exact h1.ne_find e3 hb.symm
  refine ⟨A', AH.le_refl _, ?_⟩
  simp (dsimp := false) (maxSteps := 4000000) only [ee, hn_b9, hr_b9, hn_bl, hr_bl, go_sem, ↓reduceIte, Nat.reduceEqDiff, Nat.reduceLT, Nat.reduceLeDiff, Nat.reduceAdd, Nat.reduceMul, Nat.reduceSub, reduceCtorEq, Int.reduceToNat, Int.reduceLT, Int.reduceLE, Int.reduceEq, Int.reduceNe, Int.reduceBEq, Nat.reduceBEq, Int.reduceBNe, Nat.reduceBNe, Int.reduceAdd, Int.reduceSub, Int.reduceMul, Int.reduceNeg]
  refine again (i + 1, base', cap', Z ++ [z]) _ A' _ ⟨by dsimp only; omega, ?_, ?_, hK2.ow hK' fun b ⟨a, ha, e⟩ => e ▸ hO.fresh a ha, fun y hy => ?_⟩ (FrLe.of_lks ?_) (AH.le_refl _) (by dsimp only; omega)
  · dsimp only
    rw [List.map_append, hz, List.take_add_one, hk]; rfl
  · dsimp only
    rw [List.map_append]; exact hO'
  · rcases List.mem_append.1 hy with hy | hy
    · obtain ⟨zb, bs', e1, e2, e3, e4, e5, e6, e7⟩ := hZ y hy
      exact step y zb bs' e1 e2 (hK2A.find (fun h => h) e3) e4 e5 e6 e7
    · rw [List.mem_singleton.1 hy]
      exact step z b9 bs rfl rfl (by rw [find_add, if_neg (Ne.symm hn_bl.1), find_add_self]) hbs (hK.fr h_b9) (fun a ha e => hO.ne h_b9 a ha e.symm) hl
  · simp only [List.length_append, List.length_singleton]
    simp (dsimp := false) (maxSteps := 4000000) only [hn_b9, hr_b9, hn_bl, hr_bl, go_sem, ↓reduceIte, Nat.reduceEqDiff, Nat.reduceLT, Nat.reduceLeDiff, Nat.reduceAdd, Nat.reduceMul, Nat.reduceSub, reduceCtorEq, Int.reduceToNat, Int.reduceLT, Int.reduceLE, Int.reduceEq, Int.reduceNe, Int.reduceBEq, Nat.reduceBEq, Int.reduceBNe, Nat.reduceBNe, Int.reduceAdd, Int.reduceSub, Int.reduceMul, Int.reduceNeg]
end Go.Proofs.YtmkbpdlijfjgkaaDoor.Ifs
