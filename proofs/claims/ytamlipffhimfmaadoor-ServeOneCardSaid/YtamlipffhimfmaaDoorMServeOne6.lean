/- Texts of mine, one behind another. -/
import Derived.Test.YtamlipffhimfmaaDoorMServeOne5
/- ifs: Files. -/
namespace Go.Proofs.YtamlipffhimfmaaDoor.Ifs
set_option linter.unusedSimpArgs false
set_option linter.unusedVariables false
open Go Go.AX Go.Proofs Ty Go.Proofs.YtamlipffhimfmaaDoor.File
set_option maxHeartbeats 4000000
set_option maxRecDepth 10000

theorem OkX.len {X : List Nf} (h : OkX X) : X.length ≤ 64 := by
  have h1 : (X.map fun x => x.1.toNat).Nodup := by
    have : (X.map fun x => x.1.toNat) = (X.map (·.1)).map Int.toNat := by rw [List.map_map]; rfl
    rw [this, List.Nodup, List.pairwise_map]
    refine List.Pairwise.imp_of_mem ?_ h.kd
    intro a b ha hb hab e
    obtain ⟨x, hx, rfl⟩ := List.mem_map.1 ha
    obtain ⟨y, hy, rfl⟩ := List.mem_map.1 hb
    have := (h.ok x hx).1; have := (h.ok y hy).1
    exact hab (by omega)
  have := nodup_range_le (n := 64) h1 (fun k hk => by
    obtain ⟨x, hx, rfl⟩ := List.mem_map.1 hk
    have := (h.ok x hx).1; omega)
  simpa using this
theorem Files_nil (H : AH) : ACalls Tryd.prog 5 #[.pointer none] H (fun v H' => v = .slice none 0 0 ∧ H = H') := by
  refine ACalls.enter2 Tryd.func5 rfl Tryd.ntmps5 Tryd.results5 (by simp) ?_; simp (dsimp := false) (maxSteps := 4000000) only [go_sem, ↓reduceIte, Nat.reduceEqDiff, Nat.reduceLT, Nat.reduceLeDiff, Nat.reduceAdd, Nat.reduceMul, Nat.reduceSub, reduceCtorEq, Int.reduceToNat, Int.reduceLT, Int.reduceLE, Int.reduceEq, Int.reduceNe, Int.reduceBEq, Nat.reduceBEq, Int.reduceBNe, Nat.reduceBNe, Int.reduceAdd, Int.reduceSub, Int.reduceMul, Int.reduceNeg]
  exact ⟨H, AH.le_refl _, rfl⟩
theorem ClipN_c (base : Option Addr) (n cap : Nat) (H : AH) (h : n ≤ cap) :
    ACalls Tryd.prog 15 #[.slice base n cap] H (fun v H' => v = .slice base n n ∧ H = H') := by
  refine ACalls.enter2 Tryd.func15 rfl Tryd.ntmps15 Tryd.results15 (by simp) ?_; simp (dsimp := false) (maxSteps := 4000000) only [go_sem, ↓reduceIte, Nat.reduceEqDiff, Nat.reduceLT, Nat.reduceLeDiff, Nat.reduceAdd, Nat.reduceMul, Nat.reduceSub, reduceCtorEq, Int.reduceToNat, Int.reduceLT, Int.reduceLE, Int.reduceEq, Int.reduceNe, Int.reduceBEq, Nat.reduceBEq, Int.reduceBNe, Nat.reduceBNe, Int.reduceAdd, Int.reduceSub, Int.reduceMul, Int.reduceNeg]
  have h' : (n : Int) ≤ cap := by omega
  simp (dsimp := false) (maxSteps := 4000000) only [h', Int.le_refl, go_sem, ↓reduceIte, Nat.reduceEqDiff, Nat.reduceLT, Nat.reduceLeDiff, Nat.reduceAdd, Nat.reduceMul, Nat.reduceSub, reduceCtorEq, Int.reduceToNat, Int.reduceLT, Int.reduceLE, Int.reduceEq, Int.reduceNe, Int.reduceBEq, Nat.reduceBEq, Int.reduceBNe, Nat.reduceBNe, Int.reduceAdd, Int.reduceSub, Int.reduceMul, Int.reduceNeg]
  exact ⟨H, (AH.le_refl _), (by first | exact ⟨rfl, rfl⟩ | rfl)⟩
def zOf (X : List Nf) (k : Int) : Nf := (k, (lk k X).getD (0, []))
theorem zOf_map {X : List Nf} (h : Kd X) : (X.map (·.1)).map (zOf X) = X := by
  rw [List.map_map]
  conv => rhs; rw [← List.map_id X]
  refine List.map_congr_left fun x hx => ?_
  simp [zOf, lk_mem h (f := x.2) (n := x.1) hx]
theorem nf_of_ks {X : List Nf} (hX : Kd X) {Z : List RF} {ks : List Int} (hz : Z.map (·.n) = ks) (hl : ∀ z ∈ Z, lk z.n X = some (z.p, z.R)) (hp : ks.Perm (X.map (·.1))) (hs : ks.Pairwise (· ≤ ·)) : (Z.map RF.nf).Perm X ∧ Srt (Z.map RF.nf) := by
  have e : Z.map RF.nf = ks.map (zOf X) := by
    rw [← hz, List.map_map]
    refine List.map_congr_left fun z h => ?_
    simp [zOf, RF.nf, hl z h]
  refine ⟨?_, ?_⟩
  · rw [e]
    have := hp.map (zOf X)
    rwa [zOf_map hX] at this
  · have hnd : ks.Nodup := hp.nodup_iff.2 hX
    have : ks.Pairwise (· < ·) := by
      have := List.Pairwise.and hs hnd
      exact this.imp fun ⟨h1, h2⟩ => by omega
    rw [← hz, List.pairwise_map] at this
    rw [Srt, List.pairwise_map]
    exact this
/-- A file in a list that is being built: its own block. -/
def Own1 (H1 A : AH) (base : Option Addr) (X : List Nf) (z : RF) : Prop := ∃ zb bs, z.base = some ⟨zb, 0, none⟩ ∧ z.cap = z.R.length ∧ A.find zb = some (.cells (z.R.map enc).flatten 26 bs) ∧ z.R.length * 4 ≤ bs ∧ Fresh H1 zb ∧ (∀ a, base = some a → zb ≠ a.block) ∧ lk z.n X = some (z.p, z.R)
theorem Files_c {H : AH} {b : Nat} {X : List Nf} {den : Int} {ft : Nat → Prop} (h : StAt H b X den ft) (hX : OkX X) :
    ACalls Tryd.prog 5 #[.pointer (some ⟨b, 0, none⟩)] H (fun u H' => ∃ base cap Z rd, u = .slice base (List.length Z) cap ∧ (Z.map RF.nf).Perm X ∧ Srt (Z.map RF.nf) ∧ NmIn H' base cap Z rd ∧ Keep H H' (fun _ => False) ∧ ∀ x, rd x → Fresh H x) := by
  obtain ⟨bm, ms, h1, rfl, hft⟩ := h
  have hlen : ms.length ≤ 64 := by have := hX.len; simpa using this
  have hn64 : ∀ m ∈ ms, 0 ≤ m.n ∧ m.n < 64 := fun m hm => (hX.ok m.nf (List.mem_map_of_mem hm)).1
  have r0 : H.rd ⟨b, 0, none⟩ = some (.map (some bm)) := by rw [rd_find h1.top]; rfl
  refine ACalls.enter2 Tryd.func5 rfl Tryd.ntmps5 Tryd.results5 (by simp) ?_; simp (dsimp := false) (maxSteps := 4000000) only [go_sem, ↓reduceIte, Nat.reduceEqDiff, Nat.reduceLT, Nat.reduceLeDiff, Nat.reduceAdd, Nat.reduceMul, Nat.reduceSub, reduceCtorEq, Int.reduceToNat, Int.reduceLT, Int.reduceLE, Int.reduceEq, Int.reduceNe, Int.reduceBEq, Nat.reduceBEq, Int.reduceBNe, Nat.reduceBNe, Int.reduceAdd, Int.reduceSub, Int.reduceMul, Int.reduceNeg]
  simp (dsimp := false) (maxSteps := 4000000) only [r0, go_sem, ↓reduceIte, Nat.reduceEqDiff, Nat.reduceLT, Nat.reduceLeDiff, Nat.reduceAdd, Nat.reduceMul, Nat.reduceSub, reduceCtorEq, Int.reduceToNat, Int.reduceLT, Int.reduceLE, Int.reduceEq, Int.reduceNe, Int.reduceBEq, Nat.reduceBEq, Int.reduceBNe, Nat.reduceBNe, Int.reduceAdd, Int.reduceSub, Int.reduceMul, Int.reduceNeg]
  refine (Keys_c bm).mono ?_
  rintro _ _ ⟨bk, h_bk, rfl, rfl⟩
  simp (dsimp := false) (maxSteps := 4000000) only [go_sem, ↓reduceIte, Nat.reduceEqDiff, Nat.reduceLT, Nat.reduceLeDiff, Nat.reduceAdd, Nat.reduceMul, Nat.reduceSub, reduceCtorEq, Int.reduceToNat, Int.reduceLT, Int.reduceLE, Int.reduceEq, Int.reduceNe, Int.reduceBEq, Nat.reduceBEq, Int.reduceBNe, Nat.reduceBNe, Int.reduceAdd, Int.reduceSub, Int.reduceMul, Int.reduceNeg]
  have nk1 : bk ≠ b := h_bk.ne_find h1.top
  have nk2 : bk ≠ bm := h_bk.ne_find h1.map
  refine (Sorted_c (ms := ms) (find_add_self _ _ _) (by rw [find_add, if_neg (Ne.symm nk2)]; exact h1.map) h1.kd hn64 hlen).mono ?_
  rintro _ H1 ⟨kb, kc, ks, rfl, hperm, hsrt, hks, hK1, _⟩
  have hkl : ks.length = ms.length := by rw [hperm.length_eq, List.length_map]
  have hK1' : Keep H H1 fun _ => False := (Keep.add h_bk).trans hK1
  have hS := h1.keep hK1' fun _ _ h => h
  have hperm' : ks.Perm ((ms.map MF.nf).map (·.1)) := by rw [List.map_map]; exact hperm
  simp (dsimp := false) (maxSteps := 4000000) only [go_sem, ↓reduceIte, Nat.reduceEqDiff, Nat.reduceLT, Nat.reduceLeDiff, Nat.reduceAdd, Nat.reduceMul, Nat.reduceSub, reduceCtorEq, Int.reduceToNat, Int.reduceLT, Int.reduceLE, Int.reduceEq, Int.reduceNe, Int.reduceBEq, Nat.reduceBEq, Int.reduceBNe, Nat.reduceBNe, Int.reduceAdd, Int.reduceSub, Int.reduceMul, Int.reduceNeg]
  refine AWp.loopr (ι := Nat × Option Addr × Nat × List RF) (fun s A => s.1 ≤ ks.length ∧ s.2.2.2.map (·.n) = ks.take s.1 ∧ OwnS H1 A 48 3 s.2.1 s.2.2.1 (s.2.2.2.map encN) ∧ (Keep H1 A fun _ => False) ∧ ∀ z ∈ s.2.2.2, Own1 H1 A s.2.1 (ms.map MF.nf) z)
    (fun s => [(15, .int .i64 s.1), (14, .int .i64 ks.length), (13, .slice kb ks.length kc), (3, .slice s.2.1 s.2.2.2.length s.2.2.1), (0, .pointer (some ⟨b, 0, none⟩))]) (fun s => ks.length - s.1) (0, none, 0, []) H1
    ⟨by simp, rfl, OwnS.nil, Keep.refl, by simp⟩ (FrLe.of_lks ?_) (AH.le_refl _) fun s A hV Q again out => ?_
  · simp (dsimp := false) (maxSteps := 4000000) only [go_sem, ↓reduceIte, Nat.reduceEqDiff, Nat.reduceLT, Nat.reduceLeDiff, Nat.reduceAdd, Nat.reduceMul, Nat.reduceSub, reduceCtorEq, Int.reduceToNat, Int.reduceLT, Int.reduceLE, Int.reduceEq, Int.reduceNe, Int.reduceBEq, Nat.reduceBEq, Int.reduceBNe, Nat.reduceBNe, Int.reduceAdd, Int.reduceSub, Int.reduceMul, Int.reduceNeg]
  obtain ⟨i, base, cap, Z⟩ := s
  obtain ⟨hi, hz, hO, hK, hZ⟩ := hV
  dsimp only at hi hz hO hK hZ ⊢
  have hZl : Z.length = i := by have := congrArg List.length hz; rw [List.length_map, List.length_take] at this; omega
  have hSA := hS.keep hK fun _ _ h => h
  by_cases hlt : (i : Int) < ks.length
  case neg =>
    obtain rfl : i = ks.length := by omega
    simp (dsimp := false) (maxSteps := 4000000) only [hlt, go_sem, ↓reduceIte, Nat.reduceEqDiff, Nat.reduceLT, Nat.reduceLeDiff, Nat.reduceAdd, Nat.reduceMul, Nat.reduceSub, reduceCtorEq, Int.reduceToNat, Int.reduceLT, Int.reduceLE, Int.reduceEq, Int.reduceNe, Int.reduceBEq, Nat.reduceBEq, Int.reduceBNe, Nat.reduceBNe, Int.reduceAdd, Int.reduceSub, Int.reduceMul, Int.reduceNeg]
    refine out _ _ _ (by simp) ?_
    simp (dsimp := false) (maxSteps := 4000000) only [go_sem, ↓reduceIte, Nat.reduceEqDiff, Nat.reduceLT, Nat.reduceLeDiff, Nat.reduceAdd, Nat.reduceMul, Nat.reduceSub, reduceCtorEq, Int.reduceToNat, Int.reduceLT, Int.reduceLE, Int.reduceEq, Int.reduceNe, Int.reduceBEq, Nat.reduceBEq, Int.reduceBNe, Nat.reduceBNe, Int.reduceAdd, Int.reduceSub, Int.reduceMul, Int.reduceNeg]
    refine (ClipN_c base Z.length cap _ (by have := hO.le; simpa using this)).mono ?_; rintro _ _ ⟨rfl, rfl⟩
    simp (dsimp := false) (maxSteps := 4000000) only [go_sem, ↓reduceIte, Nat.reduceEqDiff, Nat.reduceLT, Nat.reduceLeDiff, Nat.reduceAdd, Nat.reduceMul, Nat.reduceSub, reduceCtorEq, Int.reduceToNat, Int.reduceLT, Int.reduceLE, Int.reduceEq, Int.reduceNe, Int.reduceBEq, Nat.reduceBEq, Int.reduceBNe, Nat.reduceBNe, Int.reduceAdd, Int.reduceSub, Int.reduceMul, Int.reduceNeg]
    rw [List.take_length] at hz
    obtain ⟨p1, p2⟩ := nf_of_ks h1.kd hz (fun z h => by obtain ⟨_, _, _, _, _, _, _, _, h⟩ := hZ z h; exact h) hperm' hsrt
    refine ⟨A, AH.le_refl _, base, Z.length, Z, fun x => Fresh H x, rfl, p1, p2, ⟨hO.slc.recap (by simp), fun z hz => ?_, ?_, fun z hz => ?_⟩, hK1'.trans hK, fun x hx => hx⟩
    · obtain ⟨zb, bs, e1, e2, e3, e4, _⟩ := hZ z hz
      have := hO.big
      rw [e1, e2]
      refine SlcIn.of_find e3 (rows4 _) (by simp) ?_
      obtain ⟨_, _, _, _, _, _, _, _, hl⟩ := hZ z hz
      obtain ⟨_, hgd, _⟩ := hX.lk hl
      have := (goodF_len hgd).2
      dsimp only at this
      rw [List.length_map]; omega
    · cases hb : base with
      | none => exact .inr fun a h => by cases h
      | some a => exact .inr fun a' h => by cases h; exact hK1'.fr (hO.fresh a hb)
    · obtain ⟨zb, bs, e1, _, _, _, e5, _⟩ := hZ z hz
      exact .inr fun a h => by rw [e1] at h; cases h; exact hK1'.fr e5
  obtain ⟨k, hk⟩ := get_some (l := ks) (i := i) (by omega)
  have hksA : SlcIn A 1 kb kc (ks.map encI) := hks.keep hK fun _ _ h => h
  obtain ⟨kb_, ko, rfl, _, hrd⟩ := hksA.get (Go.AX.map_get (f := encI) hk)
  have rk := hrd 0 _ rfl
  simp only [Nat.add_zero, Nat.mul_one] at rk
  have hi0 : (0 : Int) ≤ (i : Int) := by omega
  have ee := i64_succ (i := i) (by omega)
  have rA : A.rd ⟨b, 0, none⟩ = some (.map (some bm)) := by rw [rd_find hSA.top]; rfl
  have hmp : A.mp bm = some (ms.map MF.ent) := by rw [AH.mp, hSA.map]
  obtain ⟨m0, hm0, hmk⟩ := List.mem_map.1 (hperm.mem_iff.1 (List.mem_of_getElem? hk))
  rcases hSA.at_ k with ⟨_, hl⟩ | ⟨j, m, hm, hj, hn, hl⟩
  · exact absurd (lk_none.1 hl m0.nf (List.mem_map_of_mem hm0)) (by simp [MF.nf, hmk])
  have hmem := List.mem_of_getElem? hj
  obtain ⟨_, hgd, _⟩ := hX.lk hl
  obtain ⟨hl1, hl2⟩ := goodF_len hgd
  dsimp only at hl1 hl2
  have hs := hSA.slc hmem (by omega)
  have hown := fun H1 (hs : SlcIn H1 4 (some ⟨m.blk, 0, none⟩) m.R.length (m.R.map enc)) => own_c m.p m.R _ _ H1 hs (by omega) (by omega)
  unfold fv at hown
  unfold MF.val fv at hm
  have hmp' : A.mp bm = some (ms.map MF.ent) := hmp
  
  simp (dsimp := false) (maxSteps := 4000000) only [hlt, hi0, rk, rA, hmp, hm, go_sem, ↓reduceIte, Nat.reduceEqDiff, Nat.reduceLT, Nat.reduceLeDiff, Nat.reduceAdd, Nat.reduceMul, Nat.reduceSub, reduceCtorEq, Int.reduceToNat, Int.reduceLT, Int.reduceLE, Int.reduceEq, Int.reduceNe, Int.reduceBEq, Nat.reduceBEq, Int.reduceBNe, Nat.reduceBNe, Int.reduceAdd, Int.reduceSub, Int.reduceMul, Int.reduceNeg]
  refine (hown _ hs).mono ?_; rintro _ _ ⟨b9, bs, h_b9, rfl, hbs, rfl⟩
  have hn_b9 := h_b9; (try simp only [fresh_add, fresh_set, ne_eq] at hn_b9); have hr_b9 := hn_b9; (try simp only [@eq_comm Nat b9] at hr_b9)
  simp (dsimp := false) (maxSteps := 4000000) only [hn_b9, hr_b9, go_sem, ↓reduceIte, Nat.reduceEqDiff, Nat.reduceLT, Nat.reduceLeDiff, Nat.reduceAdd, Nat.reduceMul, Nat.reduceSub, reduceCtorEq, Int.reduceToNat, Int.reduceLT, Int.reduceLE, Int.reduceEq, Int.reduceNe, Int.reduceBEq, Nat.reduceBEq, Int.reduceBNe, Nat.reduceBNe, Int.reduceAdd, Int.reduceSub, Int.reduceMul, Int.reduceNeg]
  refine AllB.mk fun bl h_bl => ?_; have hn_bl := h_bl; (try simp only [fresh_add, fresh_set, ne_eq] at hn_bl); have hr_bl := hn_bl; (try simp only [@eq_comm Nat bl] at hr_bl); simp (dsimp := false) (maxSteps := 4000000) only [hn_b9, hr_b9, hn_bl, hr_bl, go_sem, ↓reduceIte, Nat.reduceEqDiff, Nat.reduceLT, Nat.reduceLeDiff, Nat.reduceAdd, Nat.reduceMul, Nat.reduceSub, reduceCtorEq, Int.reduceToNat, Int.reduceLT, Int.reduceLE, Int.reduceEq, Int.reduceNe, Int.reduceBEq, Nat.reduceBEq, Int.reduceBNe, Nat.reduceBNe, Int.reduceAdd, Int.reduceSub, Int.reduceMul, Int.reduceNeg]
  let z : RF := ⟨k, m.p, some ⟨b9, 0, none⟩, m.R.length, m.R⟩
  have h_bl' : Fresh A bl := hn_bl.2
  have hO2 : OwnS H1 ((A.add b9 (.cells (m.R.map enc).flatten 26 bs)).add bl (.cells (encN z) 48 3)) 48 3 base cap (Z.map encN) := (hO.added h_b9).added h_bl
  have hK2 : Keep H1 ((A.add b9 (.cells (m.R.map enc).flatten 26 bs)).add bl (.cells (encN z) 48 3)) fun _ => False := (hK.nw h_b9).nw h_bl
  refine APD.growW (x := .slice (some ⟨bl, 0, none⟩) 1 1) (R' := [encN z]) (m := 1) hO2 hK2.all se_22 rfl (by decide) (by rw [Tryd.underlying22]; rfl) (by simp) rfl rfl (by rw [srow_some, row_add_self]; rfl) (by simp [encN]) (by simp [encN, scal]) (by omega) fun base' cap' A' hO' hK' hN' => ?_
  have hK2A : Keep A ((A.add b9 (.cells (m.R.map enc).flatten 26 bs)).add bl (.cells (encN z) 48 3)) fun _ => False := (Keep.refl.nw h_b9).nw h_bl
  have step : ∀ y : RF, ∀ zb bs', y.base = some ⟨zb, 0, none⟩ → y.cap = y.R.length → ((A.add b9 (.cells (m.R.map enc).flatten 26 bs)).add bl (.cells (encN z) 48 3)).find zb = some (.cells (y.R.map enc).flatten 26 bs') → y.R.length * 4 ≤ bs' → Fresh H1 zb → (∀ a, base = some a → zb ≠ a.block) → lk y.n (ms.map MF.nf) = some (y.p, y.R) → Own1 H1 A' base' (ms.map MF.nf) y := fun y zb bs' e1 e2 e3 e4 e5 e6 e7 => by
    refine ⟨zb, bs', e1, e2, hK'.find (fun ⟨a, ha, hb⟩ => e6 a ha hb) e3, e4, e5, fun a ha hb => ?_, e7⟩
    rcases hN' a ha with ⟨a', h1, h2⟩ | h1
    · exact e6 a' h1 (hb.trans h2)
    · exact h1.ne_find e3 hb.symm
  refine ⟨A', AH.le_refl _, ?_⟩
  simp (dsimp := false) (maxSteps := 4000000) only [ee, hn_b9, hr_b9, hn_bl, hr_bl, go_sem, ↓reduceIte, Nat.reduceEqDiff, Nat.reduceLT, Nat.reduceLeDiff, Nat.reduceAdd, Nat.reduceMul, Nat.reduceSub, reduceCtorEq, Int.reduceToNat, Int.reduceLT, Int.reduceLE, Int.reduceEq, Int.reduceNe, Int.reduceBEq, Nat.reduceBEq, Int.reduceBNe, Nat.reduceBNe, Int.reduceAdd, Int.reduceSub, Int.reduceMul, Int.reduceNeg]
  refine again (i + 1, base', cap', Z ++ [z]) _ A' _ ⟨by dsimp only; omega, ?_, ?_, hK2.ow hK' fun b ⟨a, ha, e⟩ => e ▸ hO.fresh a ha, fun y hy => ?_⟩ (FrLe.of_lks ?_) (AH.le_refl _) (by dsimp only; omega)
  · dsimp only
    rw [List.map_append, hz, List.take_add_one, hk]; rfl
  · dsimp only
    rw [List.map_append]; exact hO'
  · rcases List.mem_append.1 hy with hy | hy
    · obtain ⟨zb, bs', e1, e2, e3, e4, e5, e6, e7⟩ := hZ y hy
      exact step y zb bs' e1 e2 (hK2A.find (fun h => h) e3) e4 e5 e6 e7
    · rw [List.mem_singleton.1 hy]
      exact step z b9 bs rfl rfl (by rw [find_add, if_neg (Ne.symm hn_bl.1), find_add_self]) hbs (hK.fr h_b9) (fun a ha e => hO.ne h_b9 a ha e.symm) hl
  · simp only [List.length_append, List.length_singleton]
    simp (dsimp := false) (maxSteps := 4000000) only [hn_b9, hr_b9, hn_bl, hr_bl, go_sem, ↓reduceIte, Nat.reduceEqDiff, Nat.reduceLT, Nat.reduceLeDiff, Nat.reduceAdd, Nat.reduceMul, Nat.reduceSub, reduceCtorEq, Int.reduceToNat, Int.reduceLT, Int.reduceLE, Int.reduceEq, Int.reduceNe, Int.reduceBEq, Nat.reduceBEq, Int.reduceBNe, Nat.reduceBNe, Int.reduceAdd, Int.reduceSub, Int.reduceMul, Int.reduceNeg]
end Go.Proofs.YtamlipffhimfmaaDoor.Ifs

/- ifs: what a deed keeps; Set of nobody; few. -/
namespace Go.Proofs.YtamlipffhimfmaaDoor.Ifs
set_option linter.unusedSimpArgs false
set_option linter.unusedVariables false
open Go Go.AX Go.Proofs Ty Go.Proofs.YtamlipffhimfmaaDoor.File Go.Proofs.YtamlipffhimfmaaDoor.Err
set_option maxHeartbeats 4000000
set_option maxRecDepth 10000

theorem next_ok {r : Rc} (h : RcOk r) : RcOk (Nxt.nextR r) := by
  have e := next4 h
  obtain ⟨x0, x1, x2, x3⟩ := r
  obtain ⟨⟨a0, a1⟩, ⟨b0, b1⟩, ⟨c0, c1⟩, ⟨d0, d1⟩⟩ := h
  dsimp only at a0 a1 b0 b1 c0 c1 d0 d1 e
  generalize Nxt.nextR (x0, x1, x2, x3) = y at e ⊢
  obtain ⟨y0, y1, y2, y3⟩ := y
  simp only [enc, List.cons.injEq, Value.int.injEq, true_and, and_true] at e
  obtain ⟨rfl, rfl, rfl, rfl⟩ := e
  refine ⟨?_, ?_, ?_, ?_⟩ <;> dsimp only <;> omega
theorem OkX.do {X : List Nf} (h : OkX X) (op fl rec : Int) {v : Rc} (hv : RcOk v) : OkX (doX X op fl rec v) := by
  unfold doX
  split
  · rename_i e
    cases hl : Ifs.lk fl X with
    | none => exact h
    | some f =>
      obtain ⟨_, h2, h3⟩ := h.lk hl
      have hm : mayF f.1 f.2 op rec = 0 := by
        unfold doE at e
        split at e
        · cases e
        · rw [hl] at e; exact e
      dsimp only [doF]
      unfold doR
      have hne : (op = 1 ∨ op = 2) → rec.toNat ≠ 0 := fun ho hr => by
        obtain ⟨g, o0, o1, r0, r1, _⟩ := mayF_ok hm
        have : rec = 0 := by omega
        subst this
        rw [mayF_head g (by omega) (by omega) (by omega), if_neg (by omega)] at hm
        cases hm
      split
      · rename_i ho
        refine h.rp hl (goodF_set h2 (hne (.inl ho))) fun r hr => ?_
        rcases List.mem_or_eq_of_mem_set hr with hr | hr
        · exact h3 r hr
        · subst hr; exact hv
      split
      · rename_i ho
        refine h.rp hl (goodF_set h2 (hne (.inr ho))) fun r hr => ?_
        rcases List.mem_or_eq_of_mem_set hr with hr | hr
        · exact h3 r hr
        · subst hr
          refine next_ok ?_
          rw [List.getD_eq_getElem?_getD]
          cases hx : f.2[rec.toNat]? with
          | none => exact ⟨by decide, by decide, by decide, by decide⟩
          | some r => exact h3 r (List.mem_of_getElem? hx)
      · exact h.rp hl h2 h3
  · exact h
theorem few_in {R : List Rc} {base : Option Addr} {cap : Nat} {H : AH} (hs : SlcIn H 4 base cap (R.map enc)) : SlcIn H 4 base cap ((R.take 260).map enc) := by
  rw [List.map_take]
  exact hs.take
end Go.Proofs.YtamlipffhimfmaaDoor.Ifs

/- the reference's store: Add. -/
namespace Go.Proofs.YtamlipffhimfmaaDoor.Ifs
set_option linter.unusedSimpArgs false
set_option linter.unusedVariables false
open Go Go.AX Go.Proofs Ty Go.Proofs.YtamlipffhimfmaaDoor.File
set_option maxHeartbeats 4000000
set_option maxRecDepth 10000

theorem SlcIn.drop {H : AH} {sz b o cap : Nat} {R : List (List Value)} (h : SlcIn H sz (some ⟨b, o, none⟩) cap R) (k : Nat) (hk : k ≤ R.length) : SlcIn H sz (some ⟨b, if cap = k then o else o + k * sz, none⟩) (cap - k) (R.drop k) := by
  have hle := h.le
  have hbig := h.big
  by_cases hc : cap = k
  · have hR : R.drop k = [] := List.drop_eq_nil_of_le (by omega)
    rw [hR]; exact SlcIn.empty
  · rw [if_neg hc]
    refine ⟨by rw [List.length_drop]; omega, by rw [List.length_drop]; omega, fun i hi => ⟨b, o + k * sz, rfl⟩, fun b' o' hb i j r' c h1 h2 => ?_, fun b' o' hb i r' h1 => ?_⟩
    · cases hb
      have := h.rd b o rfl (k + i) j r' c (by rw [List.getElem?_drop] at h1; exact h1) h2
      rw [show o + ((k + i) * sz + j) = o + k * sz + (i * sz + j) from by rw [Nat.add_mul]; omega] at this
      exact this
    · cases hb
      have := h.row b o rfl (k + i) r' (by rw [List.getElem?_drop] at h1; exact h1)
      rw [show o + (k + i) * sz = o + k * sz + i * sz from by rw [Nat.add_mul]; omega] at this
      exact this
theorem ins_at {n : Int} {f : Fl} : ∀ {X : List Nf} {k : Nat}, (∀ x ∈ X.take k, x.1 < n) → (∀ x, X[k]? = some x → ¬ x.1 < n) → ins n f X = X.take k ++ (n, f) :: X.drop k
  | [], k, _, _ => by simp [ins]
  | x :: l, 0, _, h => by
    rw [ins, if_neg (h x rfl)]; rfl
  | x :: l, k + 1, h1, h2 => by
    rw [ins, if_pos (h1 x (by simp))]
    rw [ins_at (k := k) (fun y hy => h1 y (by simp [hy])) (fun y hy => h2 y (by simpa using hy))]
    rfl
/-- The blocks that a store reads are there. -/
def RefK (H : AH) (rd : Nat → Prop) : Prop := ∀ x, rd x → ¬ Fresh H x
theorem RefK.keep {H H' : AH} {rd ex : Nat → Prop} (h : RefK H rd) (hK : Keep H H' ex) (hd : ∀ x, rd x → ¬ ex x) : RefK H' rd := fun x hx hf => h x hx (hK.fresh hf (hd x hx))
def RefS (H : AH) (b : Nat) (Z : List RF) (den : Int) (rd : Nat → Prop) : Prop := ∃ base cap, H.find b = some (.cells [.slice base Z.length cap, .int .i64 den] 42 2) ∧ NmIn H base cap Z rd ∧ ¬ rd b ∧ ((base = none ∧ Z = [] ∧ cap = 0) ∨ ∃ q o, base = some ⟨q, o, none⟩) ∧ RefK H rd
theorem RefS.at {H : AH} {b : Nat} {Z : List RF} {den : Int} {rd : Nat → Prop} (h : RefS H b Z den rd) : RefAt H b Z den rd := by
  obtain ⟨base, cap, h1, h2, h3, _⟩ := h
  exact ⟨base, cap, h1, h2, h3⟩
theorem RefS.keep {H H' : AH} {b : Nat} {Z : List RF} {den : Int} {rd ex : Nat → Prop} (h : RefS H b Z den rd) (hK : Keep H H' ex) (hd : ∀ x, rd x → ¬ ex x) (hb : ¬ ex b) : RefS H' b Z den rd := by
  obtain ⟨base, cap, h1, h2, h3, h4, h5⟩ := h
  exact ⟨base, cap, hK.find hb h1, h2.keep hK hd, h3, h4, h5.keep hK hd⟩
theorem rowsN (Z : List RF) : ∀ r ∈ Z.map encN, r.length = 3 := fun r hr => by
  obtain ⟨z, _, rfl⟩ := List.mem_map.1 hr
  rfl
theorem scalN (Z : List RF) : ((Z.map encN).flatten).all scal = true := by
  rw [List.all_flatten, List.all_map, List.all_eq_true]
  intro r _; rfl
theorem RefAdd_c {H : AH} {b : Nat} {Z : List RF} {den : Int} {rd : Nat → Prop} (h : RefS H b Z den rd) (hX : OkX (Z.map RF.nf)) (hS : Srt (Z.map RF.nf)) (n p : Int) (R : List Rc) (base : Option Addr) (cap : Nat) (hs : SlcIn H 4 base cap (R.map enc)) (hb : R = [] ∨ ∀ a, base = some a → a.block ≠ b ∧ ¬ Fresh H a.block) :
    ACalls Tryd.prog 24 #[.pointer (some ⟨b, 0, none⟩), .int .i64 n, fv p base R.length cap] H (fun u H' => ∃ Z' rd', u = .int .i64 (addE (Z.map RF.nf) n (p, R)) ∧ Z'.map RF.nf = (if addE (Z.map RF.nf) n (p, R) = 0 then ins n (p, R) (Z.map RF.nf) else Z.map RF.nf) ∧ RefS H' b Z' den rd' ∧ Keep H H' (· = b) ∧ ∀ x, rd' x → rd x ∨ Fresh H x ∨ (R ≠ [] ∧ ∃ a, base = some a ∧ x = a.block)) := by
  have hat := fun H1 (h1 : RefAt H1 b Z den rd) => at_c h1 n
  have hgood := fun H1 (h1 : SlcIn H1 4 base cap (R.map enc)) => File.RefGood_c p R base cap H1 h1
  have hZl : Z.length ≤ 64 := by have := hX.len; simpa using this
  have bad : ∀ {e : Int} {T : AH}, addE (Z.map RF.nf) n (p, R) = e → e ≠ 0 → H.le T → ∃ H', H'.le T ∧ ∃ Z' rd', Value.int .i64 e = .int .i64 (addE (Z.map RF.nf) n (p, R)) ∧ Z'.map RF.nf = (if addE (Z.map RF.nf) n (p, R) = 0 then ins n (p, R) (Z.map RF.nf) else Z.map RF.nf) ∧ RefS H' b Z' den rd' ∧ Keep H H' (· = b) ∧ ∀ x, rd' x → rd x ∨ Fresh H x ∨ (R ≠ [] ∧ ∃ a, base = some a ∧ x = a.block) := fun {e T} he h0 hl =>
    ⟨H, hl, Z, rd, by rw [he], by rw [he, if_neg h0], h, Keep.refl, fun x h => .inl h⟩
  unfold fv at hgood ⊢
  refine ACalls.enter2 Tryd.func24 rfl Tryd.ntmps24 Tryd.results24 (by simp) ?_; simp (dsimp := false) (maxSteps := 4000000) only [go_sem, ↓reduceIte, Nat.reduceEqDiff, Nat.reduceLT, Nat.reduceLeDiff, Nat.reduceAdd, Nat.reduceMul, Nat.reduceSub, reduceCtorEq, Int.reduceToNat, Int.reduceLT, Int.reduceLE, Int.reduceEq, Int.reduceNe, Int.reduceBEq, Nat.reduceBEq, Int.reduceBNe, Nat.reduceBNe, Int.reduceAdd, Int.reduceSub, Int.reduceMul, Int.reduceNeg]
  refine AllB.mk fun b5 h_b5 => ?_; have hn_b5 := h_b5; (try simp only [fresh_add, fresh_set, ne_eq] at hn_b5); have hr_b5 := hn_b5; (try simp only [@eq_comm Nat b5] at hr_b5); simp (dsimp := false) (maxSteps := 4000000) only [hn_b5, hr_b5, go_sem, ↓reduceIte, Nat.reduceEqDiff, Nat.reduceLT, Nat.reduceLeDiff, Nat.reduceAdd, Nat.reduceMul, Nat.reduceSub, reduceCtorEq, Int.reduceToNat, Int.reduceLT, Int.reduceLE, Int.reduceEq, Int.reduceNe, Int.reduceBEq, Nat.reduceBEq, Int.reduceBNe, Nat.reduceBNe, Int.reduceAdd, Int.reduceSub, Int.reduceMul, Int.reduceNeg]
  by_cases a1 : n < 0
  · simp (dsimp := false) (maxSteps := 4000000) only [a1, hn_b5, hr_b5, go_sem, ↓reduceIte, Nat.reduceEqDiff, Nat.reduceLT, Nat.reduceLeDiff, Nat.reduceAdd, Nat.reduceMul, Nat.reduceSub, reduceCtorEq, Int.reduceToNat, Int.reduceLT, Int.reduceLE, Int.reduceEq, Int.reduceNe, Int.reduceBEq, Nat.reduceBEq, Int.reduceBNe, Nat.reduceBNe, Int.reduceAdd, Int.reduceSub, Int.reduceMul, Int.reduceNeg]
    exact bad (by simp [addE, a1]) (by decide) (AH.le_add (AH.le_refl _) ((by simp only [fresh_add, fresh_set, ne_eq, hn_b5, not_false_eq_true, and_self] : Fresh _ b5).2))
  by_cases a2 : 63 < n
  · simp (dsimp := false) (maxSteps := 4000000) only [a1, a2, hn_b5, hr_b5, go_sem, ↓reduceIte, Nat.reduceEqDiff, Nat.reduceLT, Nat.reduceLeDiff, Nat.reduceAdd, Nat.reduceMul, Nat.reduceSub, reduceCtorEq, Int.reduceToNat, Int.reduceLT, Int.reduceLE, Int.reduceEq, Int.reduceNe, Int.reduceBEq, Nat.reduceBEq, Int.reduceBNe, Nat.reduceBNe, Int.reduceAdd, Int.reduceSub, Int.reduceMul, Int.reduceNeg]
    exact bad (by have : 64 ≤ n := by omega
                  simp [addE, this]) (by decide) (AH.le_add (AH.le_refl _) ((by simp only [fresh_add, fresh_set, ne_eq, hn_b5, not_false_eq_true, and_self] : Fresh _ b5).2))
  have a3 : ¬ 64 ≤ n := by omega
  simp (dsimp := false) (maxSteps := 4000000) only [a1, a2, hn_b5, hr_b5, go_sem, ↓reduceIte, Nat.reduceEqDiff, Nat.reduceLT, Nat.reduceLeDiff, Nat.reduceAdd, Nat.reduceMul, Nat.reduceSub, reduceCtorEq, Int.reduceToNat, Int.reduceLT, Int.reduceLE, Int.reduceEq, Int.reduceNe, Int.reduceBEq, Nat.reduceBEq, Int.reduceBNe, Nat.reduceBNe, Int.reduceAdd, Int.reduceSub, Int.reduceMul, Int.reduceNeg]
  refine (hgood _ (hs.add (by simp only [fresh_add, ne_eq, hn_b5, not_false_eq_true, and_self] : Fresh _ b5))).mono ?_; rintro _ _ ⟨rfl, rfl⟩
  cases hg : goodF p R with
  | false =>
    simp (dsimp := false) (maxSteps := 4000000) only [hn_b5, hr_b5, go_sem, ↓reduceIte, Nat.reduceEqDiff, Nat.reduceLT, Nat.reduceLeDiff, Nat.reduceAdd, Nat.reduceMul, Nat.reduceSub, reduceCtorEq, Int.reduceToNat, Int.reduceLT, Int.reduceLE, Int.reduceEq, Int.reduceNe, Int.reduceBEq, Nat.reduceBEq, Int.reduceBNe, Nat.reduceBNe, Int.reduceAdd, Int.reduceSub, Int.reduceMul, Int.reduceNeg]
    exact bad (by simp [addE, a1, a3, hg]) (by decide) (AH.le_add (AH.le_refl _) ((by simp only [fresh_add, fresh_set, ne_eq, hn_b5, not_false_eq_true, and_self] : Fresh _ b5).2))
  | true =>
    
    simp (dsimp := false) (maxSteps := 4000000) only [hn_b5, hr_b5, go_sem, ↓reduceIte, Nat.reduceEqDiff, Nat.reduceLT, Nat.reduceLeDiff, Nat.reduceAdd, Nat.reduceMul, Nat.reduceSub, reduceCtorEq, Int.reduceToNat, Int.reduceLT, Int.reduceLE, Int.reduceEq, Int.reduceNe, Int.reduceBEq, Nat.reduceBEq, Int.reduceBNe, Nat.reduceBNe, Int.reduceAdd, Int.reduceSub, Int.reduceMul, Int.reduceNeg]
    refine (hat _ (h.at.keep (Keep.add h_b5 (ex := fun _ => False)) (fun _ _ h => h) fun h => h)).mono ?_
    rintro _ _ ⟨r, rfl, ho, rfl⟩
    rcases ho with ⟨rfl, hl⟩ | ⟨i, z, rfl, hz, hn, hl⟩
    case' inr =>
      have hi0 : (0 : Int) ≤ (i : Int) := by omega
      simp (dsimp := false) (maxSteps := 4000000) only [hi0, hn_b5, hr_b5, go_sem, ↓reduceIte, Nat.reduceEqDiff, Nat.reduceLT, Nat.reduceLeDiff, Nat.reduceAdd, Nat.reduceMul, Nat.reduceSub, reduceCtorEq, Int.reduceToNat, Int.reduceLT, Int.reduceLE, Int.reduceEq, Int.reduceNe, Int.reduceBEq, Nat.reduceBEq, Int.reduceBNe, Nat.reduceBNe, Int.reduceAdd, Int.reduceSub, Int.reduceMul, Int.reduceNeg]
      exact bad (by simp [addE, a1, a3, hg, hl]) (by decide) (AH.le_add (AH.le_refl _) ((by simp only [fresh_add, fresh_set, ne_eq, hn_b5, not_false_eq_true, and_self] : Fresh _ b5).2))
    obtain ⟨zb, zc, ht, hZ, hnb, hzb, hk⟩ := h
    have he : addE (Z.map RF.nf) n (p, R) = 0 := by simp [addE, a1, a3, hg, hl]
    rw [he]
    simp (dsimp := false) (maxSteps := 4000000) only [hn_b5, hr_b5, go_sem, ↓reduceIte, Nat.reduceEqDiff, Nat.reduceLT, Nat.reduceLeDiff, Nat.reduceAdd, Nat.reduceMul, Nat.reduceSub, reduceCtorEq, Int.reduceToNat, Int.reduceLT, Int.reduceLE, Int.reduceEq, Int.reduceNe, Int.reduceBEq, Nat.reduceBEq, Int.reduceBNe, Nat.reduceBNe, Int.reduceAdd, Int.reduceSub, Int.reduceMul, Int.reduceNeg]
    refine AllB.mk fun bl h_bl => ?_
    have hn_bl : ¬ bl = b5 ∧ Fresh H bl := by simpa only [fresh_add, ne_eq] using h_bl
    simp (dsimp := false) (maxSteps := 4000000) only [hn_b5, hr_b5, go_sem, ↓reduceIte, Nat.reduceEqDiff, Nat.reduceLT, Nat.reduceLeDiff, Nat.reduceAdd, Nat.reduceMul, Nat.reduceSub, reduceCtorEq, Int.reduceToNat, Int.reduceLT, Int.reduceLE, Int.reduceEq, Int.reduceNe, Int.reduceBEq, Nat.reduceBEq, Int.reduceBNe, Nat.reduceBNe, Int.reduceAdd, Int.reduceSub, Int.reduceMul, Int.reduceNeg]
    obtain ⟨H1, hH1⟩ : ∃ H1, H.add b5 (.cells [.int .i64 p, .slice base R.length cap] 46 2) = H1 := ⟨_, rfl⟩
    have k1 : Keep H H1 fun _ => False := hH1 ▸ Keep.add h_b5
    have f5 : H1.find b5 = some (.cells [.int .i64 p, .slice base R.length cap] 46 2) := by rw [← hH1, find_add_self]
    rw [hH1] at h_bl ⊢
    have ht1 := k1.find (fun h => h) ht
    have hZ1 := hZ.keep k1 fun _ _ h => h
    have hs1 := hs.keep k1 fun _ _ h => h
    refine AWp.loopr (ι := Nat × Option Addr × Nat) (fun s A => s.1 ≤ Z.length ∧ (∀ x ∈ (Z.map RF.nf).take s.1, x.1 < n) ∧ OwnS H1 A 48 3 s.2.1 s.2.2 ((Z.take s.1).map encN) ∧ Keep H1 A fun _ => False)
      (fun s => [(8, .int .i64 s.1), (7, .slice s.2.1 s.1 s.2.2), (0, .pointer (some ⟨b, 0, none⟩)), (1, .int .i64 n), (5, .pointer (some ⟨b5, 0, none⟩))]) (fun s => Z.length - s.1) (0, some ⟨bl, 0, none⟩, 0) (H1.add bl (.cells [] 48 0))
      ⟨by simp, by simp, OwnS.new h_bl (AH.le_refl _) rfl rfl rfl (by simp) (by simp), Keep.add h_bl⟩ (FrLe.of_lks ?_) (AH.le_refl _) fun s A hV Q again out => ?_
    · simp (dsimp := false) (maxSteps := 4000000) only [hn_b5, hr_b5, go_sem, ↓reduceIte, Nat.reduceEqDiff, Nat.reduceLT, Nat.reduceLeDiff, Nat.reduceAdd, Nat.reduceMul, Nat.reduceSub, reduceCtorEq, Int.reduceToNat, Int.reduceLT, Int.reduceLE, Int.reduceEq, Int.reduceNe, Int.reduceBEq, Nat.reduceBEq, Int.reduceBNe, Nat.reduceBNe, Int.reduceAdd, Int.reduceSub, Int.reduceMul, Int.reduceNeg]
    clear hn_bl h_bl
    
    obtain ⟨i, ob, oc⟩ := s
    obtain ⟨hi, hlt, hO, hK⟩ := hV
    dsimp only at hi hlt hO hK ⊢
    have htA := hK.find (fun h => h) ht1
    have hZA := hZ1.keep hK fun _ _ h => h
    have r0 : A.rd ⟨b, 0, none⟩ = some (.slice zb Z.length zc) := by rw [rd_find htA]; rfl
    have hi0 : (0 : Int) ≤ (i : Int) := by omega
    have ee := i64_succ (i := i) (by omega)
    have hti : (Z.take i).length = i := by rw [List.length_take]; omega
    have hro : ((i : Int) < Z.length ∧ ∃ z, Z[i]? = some z ∧ ∃ b_ o, zb = some ⟨b_, o, none⟩ ∧ A.row b_ (o + i * 3) 3 = some (encN z) ∧ A.rd ⟨b_, o + i * 3, none⟩ = some (.int .i64 z.n)) ∨ ¬ (i : Int) < Z.length := by
      by_cases hin : (i : Int) < Z.length
      · obtain ⟨z, hz⟩ := get_some (l := Z) (i := i) (by omega)
        obtain ⟨b_, o, he, hrow, hrd⟩ := hZA.out.get (Go.AX.map_get (f := encN) hz)
        exact .inl ⟨hin, z, hz, b_, o, he, hrow, hrd 0 _ rfl⟩
      · exact .inr hin
    rcases hro with ⟨hin, z, hz, b_, o, he, hrow, rz⟩ | hin
    case' inl => by_cases hzn : z.n < n
    case' pos =>
      subst he
      
      simp (dsimp := false) (maxSteps := 4000000) only [r0, hin, rz, hi0, hzn, go_sem, ↓reduceIte, Nat.reduceEqDiff, Nat.reduceLT, Nat.reduceLeDiff, Nat.reduceAdd, Nat.reduceMul, Nat.reduceSub, reduceCtorEq, Int.reduceToNat, Int.reduceLT, Int.reduceLE, Int.reduceEq, Int.reduceNe, Int.reduceBEq, Nat.reduceBEq, Int.reduceBNe, Nat.reduceBNe, Int.reduceAdd, Int.reduceSub, Int.reduceMul, Int.reduceNeg]
      unfold encN at hrow
      simp (dsimp := false) (maxSteps := 4000000) only [r0, hin, hi0, hrow, go_sem, ↓reduceIte, Nat.reduceEqDiff, Nat.reduceLT, Nat.reduceLeDiff, Nat.reduceAdd, Nat.reduceMul, Nat.reduceSub, reduceCtorEq, Int.reduceToNat, Int.reduceLT, Int.reduceLE, Int.reduceEq, Int.reduceNe, Int.reduceBEq, Nat.reduceBEq, Int.reduceBNe, Nat.reduceBNe, Int.reduceAdd, Int.reduceSub, Int.reduceMul, Int.reduceNeg]
      refine AllB.mk fun bx h_bx => ?_; have hn_bx := h_bx; (try simp only [fresh_add, fresh_set, ne_eq] at hn_bx); have hr_bx := hn_bx; (try simp only [@eq_comm Nat bx] at hr_bx); simp (dsimp := false) (maxSteps := 4000000) only [hn_bx, hr_bx, go_sem, ↓reduceIte, Nat.reduceEqDiff, Nat.reduceLT, Nat.reduceLeDiff, Nat.reduceAdd, Nat.reduceMul, Nat.reduceSub, reduceCtorEq, Int.reduceToNat, Int.reduceLT, Int.reduceLE, Int.reduceEq, Int.reduceNe, Int.reduceBEq, Nat.reduceBEq, Int.reduceBNe, Nat.reduceBNe, Int.reduceAdd, Int.reduceSub, Int.reduceMul, Int.reduceNeg]
      have hO2 : OwnS H1 (A.add bx (.cells (encN z) 48 3)) 48 3 ob oc ((Z.take i).map encN) := hO.added h_bx
      have hK2 : Keep H1 (A.add bx (.cells (encN z) 48 3)) fun _ => False := hK.nw h_bx
      refine APD.growW (x := .slice (some ⟨bx, 0, none⟩) 1 1) (R' := [encN z]) (m := 1) hO2 hK2.all se_22 rfl (by decide) (by rw [Tryd.underlying22]; rfl) (by rw [List.length_map, hti]) rfl rfl (by rw [srow_some, row_add_self]; rfl) (by simp [encN]) (by simp [encN, scal]) (by omega) fun base' cap' A' hO' hK' hN' => ?_
      refine ⟨A', AH.le_refl _, ?_⟩
      simp (dsimp := false) (maxSteps := 4000000) only [ee, hn_bx, hr_bx, go_sem, ↓reduceIte, Nat.reduceEqDiff, Nat.reduceLT, Nat.reduceLeDiff, Nat.reduceAdd, Nat.reduceMul, Nat.reduceSub, reduceCtorEq, Int.reduceToNat, Int.reduceLT, Int.reduceLE, Int.reduceEq, Int.reduceNe, Int.reduceBEq, Nat.reduceBEq, Int.reduceBNe, Nat.reduceBNe, Int.reduceAdd, Int.reduceSub, Int.reduceMul, Int.reduceNeg]
      refine again (i + 1, base', cap') _ A' _ ⟨by dsimp only; omega, fun x hx => ?_, ?_, hK2.ow hK' fun b ⟨a, ha, e⟩ => e ▸ hO.fresh a ha⟩ (FrLe.of_lks (by simp (dsimp := false) (maxSteps := 4000000) only [hn_bx, hr_bx, go_sem, ↓reduceIte, Nat.reduceEqDiff, Nat.reduceLT, Nat.reduceLeDiff, Nat.reduceAdd, Nat.reduceMul, Nat.reduceSub, reduceCtorEq, Int.reduceToNat, Int.reduceLT, Int.reduceLE, Int.reduceEq, Int.reduceNe, Int.reduceBEq, Nat.reduceBEq, Int.reduceBNe, Nat.reduceBNe, Int.reduceAdd, Int.reduceSub, Int.reduceMul, Int.reduceNeg])) (AH.le_refl _) (by dsimp only; omega)
      · dsimp only at hx
        rw [List.take_add_one, List.mem_append] at hx
        rcases hx with hx | hx
        · exact hlt x hx
        · rw [List.getElem?_map, hz] at hx
          simp at hx; subst hx; exact hzn
      · dsimp only
        rw [List.take_add_one, List.map_append, hz]
        exact hO'
      
    case' neg =>
      have hge : ∀ x, (Z.map RF.nf)[i]? = some x → ¬ x.1 < n := fun x hx => by
        rw [List.getElem?_map, hz] at hx; cases hx; exact hzn
      
      simp (dsimp := false) (maxSteps := 4000000) only [r0, hin, he, rz, hi0, hzn, go_sem, ↓reduceIte, Nat.reduceEqDiff, Nat.reduceLT, Nat.reduceLeDiff, Nat.reduceAdd, Nat.reduceMul, Nat.reduceSub, reduceCtorEq, Int.reduceToNat, Int.reduceLT, Int.reduceLE, Int.reduceEq, Int.reduceNe, Int.reduceBEq, Nat.reduceBEq, Int.reduceBNe, Nat.reduceBNe, Int.reduceAdd, Int.reduceSub, Int.reduceMul, Int.reduceNeg]
      refine out _ _ _ (by simp) ?_
      clear hz hrow rz hzn he
      
    case' inr =>
      have hge : ∀ x, (Z.map RF.nf)[i]? = some x → ¬ x.1 < n := fun x hx => by
        rw [List.getElem?_eq_none (by rw [List.length_map]; omega)] at hx; cases hx
      
      simp (dsimp := false) (maxSteps := 4000000) only [r0, hin, go_sem, ↓reduceIte, Nat.reduceEqDiff, Nat.reduceLT, Nat.reduceLeDiff, Nat.reduceAdd, Nat.reduceMul, Nat.reduceSub, reduceCtorEq, Int.reduceToNat, Int.reduceLT, Int.reduceLE, Int.reduceEq, Int.reduceNe, Int.reduceBEq, Nat.reduceBEq, Int.reduceBNe, Nat.reduceBNe, Int.reduceAdd, Int.reduceSub, Int.reduceMul, Int.reduceNeg]
      refine out _ _ _ (by simp) ?_
      
    all_goals
      clear out again
      have hins := ins_at (f := (p, R)) hlt hge
      have w5 : A.row b5 0 2 = some [.int .i64 p, .slice base R.length cap] := row_find (hK.find (fun h => h) f5) (by simp)
      
      simp (dsimp := false) (maxSteps := 4000000) only [go_sem, ↓reduceIte, Nat.reduceEqDiff, Nat.reduceLT, Nat.reduceLeDiff, Nat.reduceAdd, Nat.reduceMul, Nat.reduceSub, reduceCtorEq, Int.reduceToNat, Int.reduceLT, Int.reduceLE, Int.reduceEq, Int.reduceNe, Int.reduceBEq, Nat.reduceBEq, Int.reduceBNe, Nat.reduceBNe, Int.reduceAdd, Int.reduceSub, Int.reduceMul, Int.reduceNeg]
      have w51 : H1.row b5 0 2 = some [.int .i64 p, .slice base R.length cap] := row_find f5 (by simp)
      refine AWp.gen [.pu, .pu, .pu, .rd, .pu, .al, .ch, .pu, .pu, .pu, .rd, .pu, .pu, .ch, .pu, .pu, .ch] [0, 0, 0, 0, 12, 28, 62, 0, 128, 384, 896, 0, 3968, 8190, 16383, 32767, 65535] 7 (H1) mixed (by kernel_rfl) (hK.all) ?_
      simp (dsimp := false) (maxSteps := 4000000) only [w5, w51, hK.all, go_sem, ↓reduceIte, Nat.reduceEqDiff, Nat.reduceLT, Nat.reduceLeDiff, Nat.reduceAdd, Nat.reduceMul, Nat.reduceSub, reduceCtorEq, Int.reduceToNat, Int.reduceLT, Int.reduceLE, Int.reduceEq, Int.reduceNe, Int.reduceBEq, Nat.reduceBEq, Int.reduceBNe, Nat.reduceBNe, Int.reduceAdd, Int.reduceSub, Int.reduceMul, Int.reduceNeg]
      refine AllB.mk fun bx h_bx => ?_; have hn_bx := h_bx; (try simp only [fresh_add, fresh_set, ne_eq] at hn_bx); have hr_bx := hn_bx; (try simp only [@eq_comm Nat bx] at hr_bx); simp (dsimp := false) (maxSteps := 4000000) only [hn_bx, hr_bx, go_sem, ↓reduceIte, Nat.reduceEqDiff, Nat.reduceLT, Nat.reduceLeDiff, Nat.reduceAdd, Nat.reduceMul, Nat.reduceSub, reduceCtorEq, Int.reduceToNat, Int.reduceLT, Int.reduceLE, Int.reduceEq, Int.reduceNe, Int.reduceBEq, Nat.reduceBEq, Int.reduceBNe, Nat.reduceBNe, Int.reduceAdd, Int.reduceSub, Int.reduceMul, Int.reduceNeg]
      have hO2 : OwnS H1 (A.add bx (.cells (encN ⟨n, p, base, cap, R⟩) 48 3)) 48 3 ob oc ((Z.take i).map encN) := hO.added h_bx
      have hK2 : Keep H1 (A.add bx (.cells (encN ⟨n, p, base, cap, R⟩) 48 3)) fun _ => False := hK.nw h_bx
      refine APD.growW (x := .slice (some ⟨bx, 0, none⟩) 1 1) (R' := [encN ⟨n, p, base, cap, R⟩]) (m := 1) hO2 hK2.all se_22 rfl (by decide) (by rw [Tryd.underlying22]; rfl) (by rw [List.length_map, hti]) rfl rfl (by rw [srow_some, row_add_self]; rfl) (by simp [encN]) (by simp [encN, scal]) (by omega) fun base2 cap2 A2 hO3 hK3 hN3 => ?_
      refine ⟨A2, AH.le_refl _, ?_⟩
      have k2 : Keep H1 A2 fun _ => False := hK2.ow hK3 fun b ⟨a, ha, e⟩ => e ▸ hO.fresh a ha
      have r2 : H1.rd ⟨b, 0, none⟩ = some (.slice zb Z.length zc) := by rw [rd_find ht1]; rfl
      have hi' : (i : Int) ≤ Z.length := by omega
      have hzc : Z.length ≤ zc := by have := hZ.out.le; simpa using this
      have hzc' : (Z.length : Int) ≤ zc := by omega
      
      have hR0 : R ≠ [] := fun e => by subst e; simp [goodF] at hg
      have hb' := hb.resolve_left hR0
      have hbk : ∀ {x}, Fresh H1 x → x ≠ b := fun hf e => hf.ne_find ht1 e
      have fin : ∀ base3 cap3 (A3 : AH), OwnS H1 A3 48 3 base3 cap3 (((Z.take i).map encN ++ [encN ⟨n, p, base, cap, R⟩]) ++ (Z.map encN).drop i) → (Keep H1 A3 fun _ => False) → ∃ H', H'.le (A3.set b (.cells [.slice base3 (Z.length + 1) cap3, .int .i64 den] 42 2)) ∧ ∃ Z' rd', Z'.map RF.nf = ins n (p, R) (Z.map RF.nf) ∧ RefS H' b Z' den rd' ∧ Keep H H' (· = b) ∧ ∀ x, rd' x → rd x ∨ Fresh H x ∨ (R ≠ [] ∧ ∃ a, base = some a ∧ x = a.block) := fun base3 cap3 A3 hO4 k3 => by
        have hZe : (Z.take i ++ (⟨n, p, base, cap, R⟩ : RF) :: Z.drop i).map encN = ((Z.take i).map encN ++ [encN ⟨n, p, base, cap, R⟩]) ++ (Z.map encN).drop i := by simp [List.map_drop]
        have hZl' : (Z.take i ++ (⟨n, p, base, cap, R⟩ : RF) :: Z.drop i).length = Z.length + 1 := by simp; omega
        rw [← hZe] at hO4
        have hne3 : ∀ a, base3 = some a → a.block ≠ b := fun a ha => hbk (hO4.fresh a ha)
        have hset : Keep A3 (A3.set b (.cells [.slice base3 (Z.length + 1) cap3, .int .i64 den] 42 2)) (· = b) := Keep.set
        have hKH : Keep H (A3.set b (.cells [.slice base3 (Z.length + 1) cap3, .int .i64 den] 42 2)) (· = b) := (((k1.trans k3).mono fun _ h => h.elim)).trans hset
        have hN := (hZ1.keep k3 fun _ _ h => h).keep hset fun x hx e => hnb (e ▸ hx)
        have hsz' := (hs1.keep k3 fun _ _ h => h).keep hset fun a ha => (hb' a ha).1
        refine ⟨_, AH.le_refl _, Z.take i ++ ⟨n, p, base, cap, R⟩ :: Z.drop i, fun x => rd x ∨ (∃ a, base3 = some a ∧ x = a.block) ∨ ∃ a, base = some a ∧ x = a.block, ?_, ⟨base3, cap3, ?_, ⟨?_, fun z hz => ?_, .inr fun a ha => .inr (.inl ⟨a, ha, rfl⟩), fun z hz => ?_⟩, ?_, ?_, ?_⟩, hKH, ?_⟩
        · rw [hins]; simp [RF.nf, List.map_take, List.map_drop]
        · rw [find_set, if_pos rfl, hZl']
        · exact hO4.slc.keep hset hne3
        · rcases List.mem_append.1 hz with hz | hz
          · exact hN.inn z (List.mem_of_mem_take hz)
          · rcases List.mem_cons.1 hz with rfl | hz
            · exact hsz'
            · exact hN.inn z (List.mem_of_mem_drop hz)
        · rcases List.mem_append.1 hz with hz | hz
          · exact (hZ.r2 z (List.mem_of_mem_take hz)).imp id fun h a ha => .inl (h a ha)
          · rcases List.mem_cons.1 hz with rfl | hz
            · exact .inr fun a ha => .inr (.inr ⟨a, ha, rfl⟩)
            · exact (hZ.r2 z (List.mem_of_mem_drop hz)).imp id fun h a ha => .inl (h a ha)
        · rintro (h | ⟨a, ha, e⟩ | ⟨a, ha, e⟩)
          · exact hnb h
          · exact hne3 a ha e.symm
          · exact (hb' a ha).1 e.symm
        · rcases hO4.at_ with ⟨_, h, _⟩ | ⟨b', bs, h, _⟩
          · simp at h
          · exact .inr ⟨b', 0, h⟩
        · rintro x (h | ⟨a, ha, e⟩ | ⟨a, ha, e⟩) hf
          · exact hk x h (hKH.fresh hf fun e => hnb (e ▸ h))
          · subst e
            rcases hO4.at_ with ⟨h, _⟩ | ⟨b', bs, h, hfd, _⟩
            · rw [ha] at h; cases h
            · rw [ha] at h; cases h
              have := hf.2
              rw [find_set, if_neg (hne3 _ ha), hfd] at this; cases this
          · subst e
            exact (hb' a ha).2 (hKH.fresh hf (hb' a ha).1)
        · rintro x (h | ⟨a, ha, e⟩ | ⟨a, ha, e⟩)
          · exact .inl h
          · subst e; exact .inr (.inl (k1.fr (hO4.fresh a ha)))
          · exact .inr (.inr ⟨hR0, a, ha, e⟩)
      rcases hzb with ⟨rfl, rfl, rfl⟩ | ⟨q, o, rfl⟩
      · obtain rfl : i = 0 := by simpa using hi
        simp (dsimp := false) (maxSteps := 4000000) only [r2, k2.all, go_sem, ↓reduceIte, Nat.reduceEqDiff, Nat.reduceLT, Nat.reduceLeDiff, Nat.reduceAdd, Nat.reduceMul, Nat.reduceSub, reduceCtorEq, Int.reduceToNat, Int.reduceLT, Int.reduceLE, Int.reduceEq, Int.reduceNe, Int.reduceBEq, Nat.reduceBEq, Int.reduceBNe, Nat.reduceBNe, Int.reduceAdd, Int.reduceSub, Int.reduceMul, Int.reduceNeg]
        refine APD.growS (m := 0) (R' := ([] : List RF).map encN) hO3 k2.all se_22 rfl (by decide) (by decide) (by rw [Tryd.underlying22]; rfl) (by simp) rfl SlcIn.empty (rowsN []) (scalN []) (by omega) fun base3 cap3 A3 hO4 hK4 hN4 => ?_
        refine ⟨A3, AH.le_refl _, ?_⟩
        have k3 : Keep H1 A3 fun _ => False := k2.ow hK4 fun b ⟨a, ha, e⟩ => e ▸ hO3.fresh a ha
        have hw : A3.wrs b 0 [.slice base3 1 cap3] = some (A3.set b (.cells [.slice base3 1 cap3, .int .i64 den] 42 2)) := by
          simp [AH.wrs, k3.find (fun h => h) ht1, lput, scal]
        simp (dsimp := false) (maxSteps := 4000000) only [hw, go_sem, ↓reduceIte, Nat.reduceEqDiff, Nat.reduceLT, Nat.reduceLeDiff, Nat.reduceAdd, Nat.reduceMul, Nat.reduceSub, reduceCtorEq, Int.reduceToNat, Int.reduceLT, Int.reduceLE, Int.reduceEq, Int.reduceNe, Int.reduceBEq, Nat.reduceBEq, Int.reduceBNe, Nat.reduceBNe, Int.reduceAdd, Int.reduceSub, Int.reduceMul, Int.reduceNeg]
        exact fin base3 cap3 A3 hO4 k3
      · simp (dsimp := false) (maxSteps := 4000000) only [r2, k2.all, hi', hzc', hi0, go_sem, ↓reduceIte, Nat.reduceEqDiff, Nat.reduceLT, Nat.reduceLeDiff, Nat.reduceAdd, Nat.reduceMul, Nat.reduceSub, reduceCtorEq, Int.reduceToNat, Int.reduceLT, Int.reduceLE, Int.reduceEq, Int.reduceNe, Int.reduceBEq, Nat.reduceBEq, Int.reduceBNe, Nat.reduceBNe, Int.reduceAdd, Int.reduceSub, Int.reduceMul, Int.reduceNeg]
        refine APD.growS (m := Z.length - i) (R' := (Z.map encN).drop i) hO3 k2.all se_22 rfl (by decide) (by decide) (by rw [Tryd.underlying22]; rfl) (by rw [List.length_append, List.length_map, hti]; rfl) (by simp) (SlcIn.drop (hZ1.keep k2 fun _ _ h => h).out i (by simpa using hi)) (fun r hr => rowsN Z r (List.mem_of_mem_drop hr)) (by rw [← List.map_drop]; exact scalN _) (by omega) fun base3 cap3 A3 hO4 hK4 hN4 => ?_
        refine ⟨A3, AH.le_refl _, ?_⟩
        have k3 : Keep H1 A3 fun _ => False := k2.ow hK4 fun b ⟨a, ha, e⟩ => e ▸ hO3.fresh a ha
        rw [show i + 1 + (Z.length - i) = Z.length + 1 from by omega]
        have hw : A3.wrs b 0 [.slice base3 (Z.length + 1) cap3] = some (A3.set b (.cells [.slice base3 (Z.length + 1) cap3, .int .i64 den] 42 2)) := by
          simp [AH.wrs, k3.find (fun h => h) ht1, lput, scal]
        simp (dsimp := false) (maxSteps := 4000000) only [hw, go_sem, ↓reduceIte, Nat.reduceEqDiff, Nat.reduceLT, Nat.reduceLeDiff, Nat.reduceAdd, Nat.reduceMul, Nat.reduceSub, reduceCtorEq, Int.reduceToNat, Int.reduceLT, Int.reduceLE, Int.reduceEq, Int.reduceNe, Int.reduceBEq, Nat.reduceBEq, Int.reduceBNe, Nat.reduceBNe, Int.reduceAdd, Int.reduceSub, Int.reduceMul, Int.reduceNeg]
        exact fin base3 cap3 A3 hO4 k3
      
    
end Go.Proofs.YtamlipffhimfmaaDoor.Ifs

/- serve: the reference's store of a list. -/
namespace Go.Proofs.YtamlipffhimfmaaDoor.Srv
set_option linter.unusedSimpArgs false
set_option linter.unusedVariables false
open Go Go.AX Go.Proofs Ty Go.Proofs.YtamlipffhimfmaaDoor.File Go.Proofs.YtamlipffhimfmaaDoor.Ifs
set_option maxHeartbeats 4000000
set_option maxRecDepth 10000

def addR (Y : List Nf) (x : Nf) : List Nf := if goodF x.2.1 x.2.2 = true then (if addE Y x.1 x.2 = 0 then ins x.1 x.2 Y else Y) else Y
def refX (L : List Nf) : List Nf := L.foldl addR []
theorem addR_srt {Y : List Nf} (h : Srt Y) (x : Nf) : Srt (addR Y x) := by
  unfold addR
  split
  · split
    · rename_i e
      refine ins_srt h ?_
      unfold addE at e
      split at e
      · cases e
      split at e
      · cases e
      split at e
      · cases e
      · rename_i h1; simpa using h1
    · exact h
  · exact h
theorem addR_ok {Y : List Nf} (h : OkX Y) (x : Nf) (hr : ∀ r ∈ x.2.2, RcOk r) : OkX (addR Y x) := by
  unfold addR
  split
  · split
    · rename_i e
      have := h.add x.1 x.2 hr
      rw [addX, if_pos e] at this
      exact this.perm ((List.perm_append_singleton _ _).trans (ins_perm x.1 x.2 Y).symm)
    · exact h
  · exact h
theorem RefStore_c (L : List RF) (base : Option Addr) (cap : Nat) (H : AH) (hs : SlcIn H 3 base cap (L.map encN)) (hz : ∀ z ∈ L, SlcIn H 4 z.base z.cap (z.R.map enc) ∧ ∀ r ∈ z.R, RcOk r) :
    ACalls Tryd.prog 10 #[.slice base L.length cap] H (fun v H' => ∃ br Z rd, v = .pointer (some ⟨br, 0, none⟩) ∧ Z.map RF.nf = refX ((L.take 8).map RF.nf) ∧ RefS H' br Z 0 rd ∧ OkX (Z.map RF.nf) ∧ Srt (Z.map RF.nf) ∧ Fresh H br ∧ (Keep H H' fun _ => False) ∧ ∀ x, rd x → Fresh H x ∨ ∃ z ∈ L, z.R ≠ [] ∧ ∃ a, z.base = some a ∧ x = a.block) := by
  refine ACalls.enter2 Tryd.func10 rfl Tryd.ntmps10 Tryd.results10 (by simp) ?_; simp (dsimp := false) (maxSteps := 4000000) only [go_sem, ↓reduceIte, Nat.reduceEqDiff, Nat.reduceLT, Nat.reduceLeDiff, Nat.reduceAdd, Nat.reduceMul, Nat.reduceSub, reduceCtorEq, Int.reduceToNat, Int.reduceLT, Int.reduceLE, Int.reduceEq, Int.reduceNe, Int.reduceBEq, Nat.reduceBEq, Int.reduceBNe, Nat.reduceBNe, Int.reduceAdd, Int.reduceSub, Int.reduceMul, Int.reduceNeg]
  refine AllB.mk fun br h_br => ?_; have hn_br := h_br; (try simp only [fresh_add, fresh_set, ne_eq] at hn_br); have hr_br := hn_br; (try simp only [@eq_comm Nat br] at hr_br); simp (dsimp := false) (maxSteps := 4000000) only [hn_br, hr_br, go_sem, ↓reduceIte, Nat.reduceEqDiff, Nat.reduceLT, Nat.reduceLeDiff, Nat.reduceAdd, Nat.reduceMul, Nat.reduceSub, reduceCtorEq, Int.reduceToNat, Int.reduceLT, Int.reduceLE, Int.reduceEq, Int.reduceNe, Int.reduceBEq, Nat.reduceBEq, Int.reduceBNe, Nat.reduceBNe, Int.reduceAdd, Int.reduceSub, Int.reduceMul, Int.reduceNeg]
  have hst : RefS (H.add br (.cells [.slice none 0 0, .int .i64 0] 42 2)) br [] 0 (fun _ => False) := ⟨none, 0, find_add_self _ _ _, ⟨SlcIn.nil, by simp, .inl rfl, by simp⟩, fun h => h, .inl ⟨rfl, rfl, rfl⟩, fun x h => h.elim⟩
  have hfr : Fresh H br := h_br
  refine AWp.loopr (ι := Nat × List RF × (Nat → Prop)) (fun s A => s.1 ≤ L.length ∧ s.1 ≤ 8 ∧ RefS A br s.2.1 0 s.2.2 ∧ s.2.1.map RF.nf = refX ((L.take s.1).map RF.nf) ∧ OkX (s.2.1.map RF.nf) ∧ Srt (s.2.1.map RF.nf) ∧ (Keep H A fun _ => False) ∧ ∀ x, s.2.2 x → Fresh H x ∨ ∃ z ∈ L, z.R ≠ [] ∧ ∃ a, z.base = some a ∧ x = a.block)
    (fun s => [(4, .int .i64 s.1), (3, .pointer (some ⟨br, 0, none⟩)), (0, .slice base L.length cap)]) (fun s => 8 - s.1) (0, [], fun _ => False) _
    ⟨by simp, by simp, hst, rfl, OkX.nil, by simp [Srt], Keep.add h_br, fun x h => h.elim⟩ (FrLe.of_lks ?_) (AH.le_refl _) fun s A hV Q again out => ?_
  · simp (dsimp := false) (maxSteps := 4000000) only [hn_br, hr_br, go_sem, ↓reduceIte, Nat.reduceEqDiff, Nat.reduceLT, Nat.reduceLeDiff, Nat.reduceAdd, Nat.reduceMul, Nat.reduceSub, reduceCtorEq, Int.reduceToNat, Int.reduceLT, Int.reduceLE, Int.reduceEq, Int.reduceNe, Int.reduceBEq, Nat.reduceBEq, Int.reduceBNe, Nat.reduceBNe, Int.reduceAdd, Int.reduceSub, Int.reduceMul, Int.reduceNeg]
  clear hst hn_br hr_br h_br
  
  obtain ⟨i, Z, rd⟩ := s
  obtain ⟨hi, hi2, hS, hZ, hok, hso, hK, hrd⟩ := hV
  dsimp only at hi hi2 hS hZ hok hso hK hrd ⊢
  by_cases hlt : (i : Int) < L.length ∧ (i : Int) < 8
  · obtain ⟨z, hzi⟩ := get_some (l := L) (i := i) (by omega)
    obtain ⟨hzs, hzr⟩ := hz z (List.mem_of_getElem? hzi)
    obtain ⟨q, o, rfl, _, hr⟩ := (hs.keep hK fun _ _ h => h).get (Go.AX.map_get (f := encN) hzi)
    have rz := hr 0 _ rfl
    simp only [Nat.add_zero] at rz
    have hx1 : A.row q (o + i * 3 + 1) 2 = some [.int .i64 z.p, .slice z.base z.R.length z.cap] := row_of_rd rfl (by decide) fun j c hj => by
      rw [Nat.add_assoc _ 1 j, Nat.add_comm 1 j]
      exact hr (j + 1) c hj
    have ee := i64_succ (i := i) (by omega)
    have hi0 : (0 : Int) ≤ (i : Int) := by omega
    have hzA := hzs.keep hK fun _ _ h => h
    have hgc := fun H1 (h : SlcIn H1 4 z.base z.cap (z.R.map enc)) => File.RefGood_c z.p z.R z.base z.cap H1 h
    unfold fv at hgc
    have hstep : refX ((L.take (i + 1)).map RF.nf) = addR (refX ((L.take i).map RF.nf)) z.nf := by
      rw [List.take_add_one, hzi, refX, refX, List.map_append, List.foldl_append]; rfl
    simp (dsimp := false) (maxSteps := 4000000) only [hlt.1, hlt.2, go_sem, ↓reduceIte, Nat.reduceEqDiff, Nat.reduceLT, Nat.reduceLeDiff, Nat.reduceAdd, Nat.reduceMul, Nat.reduceSub, reduceCtorEq, Int.reduceToNat, Int.reduceLT, Int.reduceLE, Int.reduceEq, Int.reduceNe, Int.reduceBEq, Nat.reduceBEq, Int.reduceBNe, Nat.reduceBNe, Int.reduceAdd, Int.reduceSub, Int.reduceMul, Int.reduceNeg]
    simp (dsimp := false) (maxSteps := 4000000) only [hlt.1, hlt.2, hi0, hx1, go_sem, ↓reduceIte, Nat.reduceEqDiff, Nat.reduceLT, Nat.reduceLeDiff, Nat.reduceAdd, Nat.reduceMul, Nat.reduceSub, reduceCtorEq, Int.reduceToNat, Int.reduceLT, Int.reduceLE, Int.reduceEq, Int.reduceNe, Int.reduceBEq, Nat.reduceBEq, Int.reduceBNe, Nat.reduceBNe, Int.reduceAdd, Int.reduceSub, Int.reduceMul, Int.reduceNeg]
    refine AllB.mk fun b5 h_b5 => ?_; have hn_b5 := h_b5; (try simp only [fresh_add, fresh_set, ne_eq] at hn_b5); have hr_b5 := hn_b5; (try simp only [@eq_comm Nat b5] at hr_b5); simp (dsimp := false) (maxSteps := 4000000) only [hn_b5, hr_b5, go_sem, ↓reduceIte, Nat.reduceEqDiff, Nat.reduceLT, Nat.reduceLeDiff, Nat.reduceAdd, Nat.reduceMul, Nat.reduceSub, reduceCtorEq, Int.reduceToNat, Int.reduceLT, Int.reduceLE, Int.reduceEq, Int.reduceNe, Int.reduceBEq, Nat.reduceBEq, Int.reduceBNe, Nat.reduceBNe, Int.reduceAdd, Int.reduceSub, Int.reduceMul, Int.reduceNeg]
    refine (hgc _ (hzA.add h_b5)).mono ?_; rintro _ _ ⟨rfl, rfl⟩
    cases hg : goodF z.p z.R with
    | false =>
      simp (dsimp := false) (maxSteps := 4000000) only [ee, hn_b5, hr_b5, go_sem, ↓reduceIte, Nat.reduceEqDiff, Nat.reduceLT, Nat.reduceLeDiff, Nat.reduceAdd, Nat.reduceMul, Nat.reduceSub, reduceCtorEq, Int.reduceToNat, Int.reduceLT, Int.reduceLE, Int.reduceEq, Int.reduceNe, Int.reduceBEq, Nat.reduceBEq, Int.reduceBNe, Nat.reduceBNe, Int.reduceAdd, Int.reduceSub, Int.reduceMul, Int.reduceNeg]
      exact again (i + 1, Z, rd) _ A _ ⟨by dsimp only; omega, by dsimp only; omega, hS, by dsimp only; rw [hstep, hZ, addR, if_neg (by simp [RF.nf, hg])], hok, hso, hK, hrd⟩ (FrLe.of_lks (by simp (dsimp := false) (maxSteps := 4000000) only [hn_b5, hr_b5, go_sem, ↓reduceIte, Nat.reduceEqDiff, Nat.reduceLT, Nat.reduceLeDiff, Nat.reduceAdd, Nat.reduceMul, Nat.reduceSub, reduceCtorEq, Int.reduceToNat, Int.reduceLT, Int.reduceLE, Int.reduceEq, Int.reduceNe, Int.reduceBEq, Nat.reduceBEq, Int.reduceBNe, Nat.reduceBNe, Int.reduceAdd, Int.reduceSub, Int.reduceMul, Int.reduceNeg])) (AH.le_add (AH.le_refl _) h_b5.2) (by dsimp only; omega)
    | true =>
      have hR0 : z.R ≠ [] := fun e => by rw [e] at hg; simp [goodF] at hg
      have k5 : Keep H _ fun _ => False := hK.nw (k := .cells [.int .i64 z.p, .slice z.base z.R.length z.cap] 46 2) h_b5
      simp (dsimp := false) (maxSteps := 4000000) only [hn_b5, hr_b5, go_sem, ↓reduceIte, Nat.reduceEqDiff, Nat.reduceLT, Nat.reduceLeDiff, Nat.reduceAdd, Nat.reduceMul, Nat.reduceSub, reduceCtorEq, Int.reduceToNat, Int.reduceLT, Int.reduceLE, Int.reduceEq, Int.reduceNe, Int.reduceBEq, Nat.reduceBEq, Int.reduceBNe, Nat.reduceBNe, Int.reduceAdd, Int.reduceSub, Int.reduceMul, Int.reduceNeg]
      refine AWp.gen [.pu, .pu, .pu, .pu, .pu, .rd, .rd, .ch] [0, 0, 0, 6, 14, 30, 0, 127] 0 (_) mixed (by kernel_rfl) (AH.le_refl _) ?_
      have n5 : ¬ b5 = q := h_b5.ne_row hx1
      simp (dsimp := false) (maxSteps := 4000000) only [hi0, hlt.1, rz, n5, hn_b5, hr_b5, go_sem, ↓reduceIte, Nat.reduceEqDiff, Nat.reduceLT, Nat.reduceLeDiff, Nat.reduceAdd, Nat.reduceMul, Nat.reduceSub, reduceCtorEq, Int.reduceToNat, Int.reduceLT, Int.reduceLE, Int.reduceEq, Int.reduceNe, Int.reduceBEq, Nat.reduceBEq, Int.reduceBNe, Nat.reduceBNe, Int.reduceAdd, Int.reduceSub, Int.reduceMul, Int.reduceNeg]
      refine (RefAdd_c (hS.keep (Keep.add h_b5 (ex := fun _ => False)) (fun _ _ h => h) fun h => h) hok hso z.n z.p z.R z.base z.cap (hzA.add h_b5) (.inr fun a ha => ⟨?_, fun hf => ?_⟩)).mono ?_
      · exact (hzs.apart hfr).elim (fun h => absurd (List.map_eq_nil_iff.1 h) hR0) fun h => h a ha
      · exact (hzs.apart (k5.fr hf)).elim (fun h => hR0 (List.map_eq_nil_iff.1 h)) fun h => h a ha rfl
      rintro _ B ⟨Z', rd', rfl, hZ', hrB, hKB, hrd'⟩
      have hadd : Z'.map RF.nf = addR (Z.map RF.nf) z.nf := by
        rw [hZ', addR]
        exact (if_pos (show goodF z.nf.2.1 z.nf.2.2 = true from hg)).symm
      simp (dsimp := false) (maxSteps := 4000000) only [ee, hn_b5, hr_b5, go_sem, ↓reduceIte, Nat.reduceEqDiff, Nat.reduceLT, Nat.reduceLeDiff, Nat.reduceAdd, Nat.reduceMul, Nat.reduceSub, reduceCtorEq, Int.reduceToNat, Int.reduceLT, Int.reduceLE, Int.reduceEq, Int.reduceNe, Int.reduceBEq, Nat.reduceBEq, Int.reduceBNe, Nat.reduceBNe, Int.reduceAdd, Int.reduceSub, Int.reduceMul, Int.reduceNeg]
      exact again (i + 1, Z', rd') _ B _ ⟨by dsimp only; omega, by dsimp only; omega, hrB, by dsimp only; rw [hadd, hstep, hZ], by dsimp only; rw [hadd]; exact addR_ok hok _ hzr, by dsimp only; rw [hadd]; exact addR_srt hso _, k5.ow hKB fun x e => e ▸ hfr, fun x hx => by
        rcases hrd' x hx with h | h | ⟨h, a, ha, e⟩
        · exact hrd x h
        · exact .inl (k5.fr h)
        · exact .inr ⟨z, List.mem_of_getElem? hzi, h, a, ha, e⟩⟩ (FrLe.of_lks (by simp (dsimp := false) (maxSteps := 4000000) only [hn_b5, hr_b5, go_sem, ↓reduceIte, Nat.reduceEqDiff, Nat.reduceLT, Nat.reduceLeDiff, Nat.reduceAdd, Nat.reduceMul, Nat.reduceSub, reduceCtorEq, Int.reduceToNat, Int.reduceLT, Int.reduceLE, Int.reduceEq, Int.reduceNe, Int.reduceBEq, Nat.reduceBEq, Int.reduceBNe, Nat.reduceBNe, Int.reduceAdd, Int.reduceSub, Int.reduceMul, Int.reduceNeg])) (AH.le_refl _) (by dsimp only; omega)
  
  have hno : ¬ (i : Int) < L.length ∨ ((i : Int) < L.length ∧ ¬ (i : Int) < 8) := by omega
  have ht : L.take i = L.take 8 := by
    rcases hno with h | ⟨_, h⟩
    · rw [List.take_of_length_le (by omega), List.take_of_length_le (by omega)]
    · rw [show i = 8 from by omega]
  rw [ht] at hZ
  clear hlt again
  rcases hno with a | ⟨a, a'⟩
  case' inl =>
    
    simp (dsimp := false) (maxSteps := 4000000) only [a, go_sem, ↓reduceIte, Nat.reduceEqDiff, Nat.reduceLT, Nat.reduceLeDiff, Nat.reduceAdd, Nat.reduceMul, Nat.reduceSub, reduceCtorEq, Int.reduceToNat, Int.reduceLT, Int.reduceLE, Int.reduceEq, Int.reduceNe, Int.reduceBEq, Nat.reduceBEq, Int.reduceBNe, Nat.reduceBNe, Int.reduceAdd, Int.reduceSub, Int.reduceMul, Int.reduceNeg]
    refine out _ _ _ (by simp) ?_
    
  case' inr =>
    simp (dsimp := false) (maxSteps := 4000000) only [a, a', go_sem, ↓reduceIte, Nat.reduceEqDiff, Nat.reduceLT, Nat.reduceLeDiff, Nat.reduceAdd, Nat.reduceMul, Nat.reduceSub, reduceCtorEq, Int.reduceToNat, Int.reduceLT, Int.reduceLE, Int.reduceEq, Int.reduceNe, Int.reduceBEq, Nat.reduceBEq, Int.reduceBNe, Nat.reduceBNe, Int.reduceAdd, Int.reduceSub, Int.reduceMul, Int.reduceNeg]
    refine out _ _ _ (by simp) ?_
  all_goals
    simp (dsimp := false) (maxSteps := 4000000) only [go_sem, ↓reduceIte, Nat.reduceEqDiff, Nat.reduceLT, Nat.reduceLeDiff, Nat.reduceAdd, Nat.reduceMul, Nat.reduceSub, reduceCtorEq, Int.reduceToNat, Int.reduceLT, Int.reduceLE, Int.reduceEq, Int.reduceNe, Int.reduceBEq, Nat.reduceBEq, Int.reduceBNe, Nat.reduceBNe, Int.reduceAdd, Int.reduceSub, Int.reduceMul, Int.reduceNeg]
    exact ⟨A, AH.le_refl _, br, Z, rd, rfl, hZ, hS, hok, hso, hfr, hK, hrd⟩
end Go.Proofs.YtamlipffhimfmaaDoor.Srv

/- serve: build. -/
namespace Go.Proofs.YtamlipffhimfmaaDoor.Srv
set_option linter.unusedSimpArgs false
set_option linter.unusedVariables false
open Go Go.AX Go.Proofs Ty Go.Proofs.YtamlipffhimfmaaDoor.File Go.Proofs.YtamlipffhimfmaaDoor.Ifs
set_option maxHeartbeats 4000000
set_option maxRecDepth 10000

theorem add_next {Z : List RF} {i : Nat} {z : RF} (hX : OkX (Z.map RF.nf)) (hz : Z[i]? = some z) : addE ((Z.take i).map RF.nf) z.n (z.p, z.R) = 0 := by
  obtain ⟨h1, h2, _⟩ := hX.ok z.nf (List.mem_map_of_mem (List.mem_of_getElem? hz))
  have h3 : lk z.n ((Z.take i).map RF.nf) = none := by
    rw [lk_none]
    intro x hx e
    obtain ⟨y, hy, rfl⟩ := List.mem_map.1 hx
    obtain ⟨j, hj⟩ := List.mem_iff_getElem?.1 hy
    have hji : j < i := by have := Go.AX.lt_of_get hj; rw [List.length_take] at this; omega
    rw [List.getElem?_take, if_pos hji] at hj
    have hk := hX.kd
    have e1 : ((Z.map RF.nf).map (·.1))[j]? = some z.n := by simp [hj, e]
    have e2 : ((Z.map RF.nf).map (·.1))[i]? = some z.n := by simp [hz, RF.nf]
    have := (List.getElem?_inj (by simpa using Go.AX.lt_of_get hj) hk).1 (e1.trans e2.symm)
    omega
  have h1' : (0 ≤ z.n ∧ z.n < 64) := h1
  have h2' : goodF z.p z.R = true := h2
  unfold addE
  rw [if_neg (by omega), if_neg (by rw [h2']; decide), h3]
  rfl
theorem build_c (L : List RF) (base : Option Addr) (cap : Nat) (H : AH) (hs : SlcIn H 3 base cap (L.map encN)) (hz : ∀ z ∈ L, SlcIn H 4 z.base z.cap (z.R.map enc) ∧ ∀ r ∈ z.R, RcOk r) :
    ACalls Tryd.prog 4 #[.slice base L.length cap] H (fun v H' => ∃ b br Z ft rd, v = .tuple #[.pointer (some ⟨b, 0, none⟩), .pointer (some ⟨br, 0, none⟩)] ∧ Z.map RF.nf = refX ((L.take 8).map RF.nf) ∧ StAt H' b (Z.map RF.nf) 0 ft ∧ RefS H' br Z 0 rd ∧ OkX (Z.map RF.nf) ∧ Srt (Z.map RF.nf) ∧ (Keep H H' fun _ => False) ∧ (∀ x, ft x → Fresh H x) ∧ Fresh H br ∧ (∀ x, rd x → ¬ ft x) ∧ ¬ ft br) := by
  refine ACalls.enter2 Tryd.func4 rfl Tryd.ntmps4 Tryd.results4 (by simp) ?_; simp (dsimp := false) (maxSteps := 4000000) only [go_sem, ↓reduceIte, Nat.reduceEqDiff, Nat.reduceLT, Nat.reduceLeDiff, Nat.reduceAdd, Nat.reduceMul, Nat.reduceSub, reduceCtorEq, Int.reduceToNat, Int.reduceLT, Int.reduceLE, Int.reduceEq, Int.reduceNe, Int.reduceBEq, Nat.reduceBEq, Int.reduceBNe, Nat.reduceBNe, Int.reduceAdd, Int.reduceSub, Int.reduceMul, Int.reduceNeg]
  refine (New_c H).mono ?_
  rintro _ A0 ⟨b, ft0, rfl, hs0, hK0, hf0⟩
  simp (dsimp := false) (maxSteps := 4000000) only [go_sem, ↓reduceIte, Nat.reduceEqDiff, Nat.reduceLT, Nat.reduceLeDiff, Nat.reduceAdd, Nat.reduceMul, Nat.reduceSub, reduceCtorEq, Int.reduceToNat, Int.reduceLT, Int.reduceLE, Int.reduceEq, Int.reduceNe, Int.reduceBEq, Nat.reduceBEq, Int.reduceBNe, Nat.reduceBNe, Int.reduceAdd, Int.reduceSub, Int.reduceMul, Int.reduceNeg]
  refine (RefStore_c L base cap _ (hs.keep hK0 fun _ _ h => h) fun z h => ⟨(hz z h).1.keep hK0 fun _ _ h => h, (hz z h).2⟩).mono ?_
  rintro _ A1 ⟨br, Z, rd, rfl, hZ, hS, hok, hso, hfr, hK1, hrd⟩
  have hs1 := hs0.keep hK1 fun _ _ h => h
  have hK := hK0.trans hK1
  have hZl : Z.length ≤ 64 := by have := hok.len; simpa using this
  have hd : ∀ x, rd x → ¬ ft0 x := fun x hx hf => by
    rcases hrd x hx with h | ⟨z, hz1, hR, a, ha, e⟩
    · exact hs0.fresh h hf
    · have := hf0 x hf
      exact ((hz z hz1).1.apart this).elim (fun h => hR (List.map_eq_nil_iff.1 h)) fun h => h a ha e.symm
  have hdb : ¬ ft0 br := hs0.fresh hfr
  have hfrH : Fresh H br := hK0.fr hfr
  simp (dsimp := false) (maxSteps := 4000000) only [go_sem, ↓reduceIte, Nat.reduceEqDiff, Nat.reduceLT, Nat.reduceLeDiff, Nat.reduceAdd, Nat.reduceMul, Nat.reduceSub, reduceCtorEq, Int.reduceToNat, Int.reduceLT, Int.reduceLE, Int.reduceEq, Int.reduceNe, Int.reduceBEq, Nat.reduceBEq, Int.reduceBNe, Nat.reduceBNe, Int.reduceAdd, Int.reduceSub, Int.reduceMul, Int.reduceNeg]
  refine AWp.loopr (ι := Nat × (Nat → Prop)) (fun s A => s.1 ≤ Z.length ∧ StAt A b ((Z.take s.1).map RF.nf) 0 s.2 ∧ RefS A br Z 0 rd ∧ (Keep H A fun _ => False) ∧ (∀ x, s.2 x → Fresh H x) ∧ (∀ x, rd x → ¬ s.2 x) ∧ ¬ s.2 br)
    (fun s => [(6, .int .i64 s.1), (4, .pointer (some ⟨b, 0, none⟩)), (5, .pointer (some ⟨br, 0, none⟩))]) (fun s => Z.length - s.1) (0, ft0) A1
    ⟨by simp, hs1, hS, hK, hf0, hd, hdb⟩ (FrLe.of_lks ?_) (AH.le_refl _) fun s A hV Q again out => ?_
  · simp (dsimp := false) (maxSteps := 4000000) only [go_sem, ↓reduceIte, Nat.reduceEqDiff, Nat.reduceLT, Nat.reduceLeDiff, Nat.reduceAdd, Nat.reduceMul, Nat.reduceSub, reduceCtorEq, Int.reduceToNat, Int.reduceLT, Int.reduceLE, Int.reduceEq, Int.reduceNe, Int.reduceBEq, Nat.reduceBEq, Int.reduceBNe, Nat.reduceBNe, Int.reduceAdd, Int.reduceSub, Int.reduceMul, Int.reduceNeg]
  clear hs1 hS hK hf0 hd hdb hs0 hK0 hK1 hrd
  obtain ⟨i, ft⟩ := s
  obtain ⟨hi, hst, hS, hK, hf, hd, hdb⟩ := hV
  dsimp only at hi hst hS hK hf hd hdb ⊢
  obtain ⟨zb, zc, hbr, hN, _, _, hkn⟩ := id hS
  have r0 : A.rd ⟨br, 0, none⟩ = some (.slice zb Z.length zc) := by rw [rd_find hbr]; rfl
  by_cases hlt : (i : Int) < Z.length
  · obtain ⟨z, hzi⟩ := get_some (l := Z) (i := i) (by omega)
    obtain ⟨q, o, rfl, _, hr⟩ := hN.out.get (Go.AX.map_get (f := encN) hzi)
    have rz := hr 0 _ rfl
    simp only [Nat.add_zero] at rz
    have hx1 : A.row q (o + i * 3 + 1) 2 = some [.int .i64 z.p, .slice z.base z.R.length z.cap] := row_of_rd rfl (by decide) fun j c hj => by
      rw [Nat.add_assoc _ 1 j, Nat.add_comm 1 j]
      exact hr (j + 1) c hj
    have ee := i64_succ (i := i) (by omega)
    have hi0 : (0 : Int) ≤ (i : Int) := by omega
    have hadd := add_next hok hzi
    simp (dsimp := false) (maxSteps := 4000000) only [r0, hlt, go_sem, ↓reduceIte, Nat.reduceEqDiff, Nat.reduceLT, Nat.reduceLeDiff, Nat.reduceAdd, Nat.reduceMul, Nat.reduceSub, reduceCtorEq, Int.reduceToNat, Int.reduceLT, Int.reduceLE, Int.reduceEq, Int.reduceNe, Int.reduceBEq, Nat.reduceBEq, Int.reduceBNe, Nat.reduceBNe, Int.reduceAdd, Int.reduceSub, Int.reduceMul, Int.reduceNeg]
    refine AWp.gen [.pu, .pu, .pu, .pu, .rd, .pu, .pu, .pu, .rd, .pu, .pu, .pu, .rd, .pu, .pu, .pu, .rd, .ch] [0, 0, 2, 6, 14, 0, 62, 126, 254, 0, 512, 1536, 3584, 0, 15872, 32256, 65024, 131071] 0 (_) mixed (by kernel_rfl) (AH.le_refl _) ?_
    simp (dsimp := false) (maxSteps := 4000000) only [r0, hlt, hi0, rz, hx1, go_sem, ↓reduceIte, Nat.reduceEqDiff, Nat.reduceLT, Nat.reduceLeDiff, Nat.reduceAdd, Nat.reduceMul, Nat.reduceSub, reduceCtorEq, Int.reduceToNat, Int.reduceLT, Int.reduceLE, Int.reduceEq, Int.reduceNe, Int.reduceBEq, Nat.reduceBEq, Int.reduceBNe, Nat.reduceBNe, Int.reduceAdd, Int.reduceSub, Int.reduceMul, Int.reduceNeg]
    refine (Add_c hst z.n z.p z.R z.base z.cap (hN.inn z (List.mem_of_getElem? hzi))).mono ?_
    rintro _ B ⟨ft', rfl, hstB, hKB, hfB⟩
    have hX' : addX ((Z.take i).map RF.nf) z.n (z.p, z.R) = (Z.take (i + 1)).map RF.nf := by
      rw [addX, if_pos hadd, List.take_add_one, hzi, List.map_append]; rfl
    rw [hX'] at hstB
    simp (dsimp := false) (maxSteps := 4000000) only [ee, go_sem, ↓reduceIte, Nat.reduceEqDiff, Nat.reduceLT, Nat.reduceLeDiff, Nat.reduceAdd, Nat.reduceMul, Nat.reduceSub, reduceCtorEq, Int.reduceToNat, Int.reduceLT, Int.reduceLE, Int.reduceEq, Int.reduceNe, Int.reduceBEq, Nat.reduceBEq, Int.reduceBNe, Nat.reduceBNe, Int.reduceAdd, Int.reduceSub, Int.reduceMul, Int.reduceNeg]
    exact again (i + 1, ft') _ B _ ⟨by dsimp only; omega, hstB, hS.keep hKB hd hdb, hK.ow hKB hf, fun x hx => (hfB x hx).elim (hf x) fun h => hK.fr h, fun x hx hx' => (hfB x hx').elim (hd x hx) fun h => hkn x hx h, fun hx => (hfB _ hx).elim hdb fun h => h.ne_find hbr rfl⟩ (FrLe.of_lks (by simp (dsimp := false) (maxSteps := 4000000) only [go_sem, ↓reduceIte, Nat.reduceEqDiff, Nat.reduceLT, Nat.reduceLeDiff, Nat.reduceAdd, Nat.reduceMul, Nat.reduceSub, reduceCtorEq, Int.reduceToNat, Int.reduceLT, Int.reduceLE, Int.reduceEq, Int.reduceNe, Int.reduceBEq, Nat.reduceBEq, Int.reduceBNe, Nat.reduceBNe, Int.reduceAdd, Int.reduceSub, Int.reduceMul, Int.reduceNeg])) (AH.le_refl _) (by dsimp only; omega)
  · obtain rfl : i = Z.length := by omega
    rw [List.take_length] at hst
    simp (dsimp := false) (maxSteps := 4000000) only [r0, hlt, go_sem, ↓reduceIte, Nat.reduceEqDiff, Nat.reduceLT, Nat.reduceLeDiff, Nat.reduceAdd, Nat.reduceMul, Nat.reduceSub, reduceCtorEq, Int.reduceToNat, Int.reduceLT, Int.reduceLE, Int.reduceEq, Int.reduceNe, Int.reduceBEq, Nat.reduceBEq, Int.reduceBNe, Nat.reduceBNe, Int.reduceAdd, Int.reduceSub, Int.reduceMul, Int.reduceNeg]
    refine out _ _ _ (by simp) ?_
    simp (dsimp := false) (maxSteps := 4000000) only [go_sem, ↓reduceIte, Nat.reduceEqDiff, Nat.reduceLT, Nat.reduceLeDiff, Nat.reduceAdd, Nat.reduceMul, Nat.reduceSub, reduceCtorEq, Int.reduceToNat, Int.reduceLT, Int.reduceLE, Int.reduceEq, Int.reduceNe, Int.reduceBEq, Nat.reduceBEq, Int.reduceBNe, Nat.reduceBNe, Int.reduceAdd, Int.reduceSub, Int.reduceMul, Int.reduceNeg]
    exact ⟨A, AH.le_refl _, b, br, Z, ft, rd, rfl, hZ, hst, hS, hok, hso, hK, hf, hfrH, hd, hdb⟩
end Go.Proofs.YtamlipffhimfmaaDoor.Srv

/- serve: checked, Data, Open, Ask. -/
namespace Go.Proofs.YtamlipffhimfmaaDoor.Srv
set_option linter.unusedSimpArgs false
set_option linter.unusedVariables false
open Go Go.AX Go.Proofs Ty Go.Proofs.YtamlipffhimfmaaDoor.File
set_option maxHeartbeats 4000000
set_option maxRecDepth 10000

def enc1 (x : Int) : List Value := [.int .u8 x]
def chk (l : List Int) : Int := l.foldl (fun c x => ibits .xor .u8 c x) 90
theorem chk_take {l : List Int} {i : Nat} {x : Int} (h : l[i]? = some x) : chk (l.take (i + 1)) = ibits .xor .u8 (chk (l.take i)) x := by
  rw [chk, chk, List.take_add_one, h, List.foldl_append]; rfl
theorem checked_c (l : List Int) (base : Option Addr) (cap : Nat) (H : AH) (hs : SlcIn H 1 base cap (l.map enc1)) :
    ACalls Tryd.prog 32 #[.slice base l.length cap] H (fun v H' => v = .int .u8 (chk l) ∧ H = H') := by
  have hbig := hs.big
  simp only [List.length_map] at hbig
  refine ACalls.enter2 Tryd.func32 rfl Tryd.ntmps32 Tryd.results32 (by simp) ?_; simp (dsimp := false) (maxSteps := 4000000) only [go_sem, ↓reduceIte, Nat.reduceEqDiff, Nat.reduceLT, Nat.reduceLeDiff, Nat.reduceAdd, Nat.reduceMul, Nat.reduceSub, reduceCtorEq, Int.reduceToNat, Int.reduceLT, Int.reduceLE, Int.reduceEq, Int.reduceNe, Int.reduceBEq, Nat.reduceBEq, Int.reduceBNe, Nat.reduceBNe, Int.reduceAdd, Int.reduceSub, Int.reduceMul, Int.reduceNeg]
  refine AWp.loopo (ι := Nat) (fun i => i ≤ l.length) (fun i => [(8, .int .i64 i), (7, .int .i64 l.length), (6, .slice base l.length cap), (3, .int .u8 (chk (l.take i)))]) (fun _ => H) (fun i => l.length - i) 0 (by omega) (FrLe.of_lks ?_) (AH.le_refl _) fun i hi Q again out => ?_
  · have e0 : chk [] = 90 := rfl
    simp (dsimp := false) (maxSteps := 4000000) only [List.take_zero, e0, go_sem, ↓reduceIte, Nat.reduceEqDiff, Nat.reduceLT, Nat.reduceLeDiff, Nat.reduceAdd, Nat.reduceMul, Nat.reduceSub, reduceCtorEq, Int.reduceToNat, Int.reduceLT, Int.reduceLE, Int.reduceEq, Int.reduceNe, Int.reduceBEq, Nat.reduceBEq, Int.reduceBNe, Nat.reduceBNe, Int.reduceAdd, Int.reduceSub, Int.reduceMul, Int.reduceNeg]
  by_cases hlt : (i : Int) < l.length
  · obtain ⟨x, hx⟩ := get_some (l := l) (i := i) (by omega)
    obtain ⟨b_, o, rfl, _, hrd⟩ := hs.get (Go.AX.map_get (f := enc1) hx)
    have rx := hrd 0 _ rfl
    simp only [Nat.add_zero, Nat.mul_one] at rx
    have ee := i64_succ (i := i) (by omega)
    have hi0 : (0 : Int) ≤ (i : Int) := by omega
    simp (dsimp := false) (maxSteps := 4000000) only [hlt, hi0, rx, ee, go_sem, ↓reduceIte, Nat.reduceEqDiff, Nat.reduceLT, Nat.reduceLeDiff, Nat.reduceAdd, Nat.reduceMul, Nat.reduceSub, reduceCtorEq, Int.reduceToNat, Int.reduceLT, Int.reduceLE, Int.reduceEq, Int.reduceNe, Int.reduceBEq, Nat.reduceBEq, Int.reduceBNe, Nat.reduceBNe, Int.reduceAdd, Int.reduceSub, Int.reduceMul, Int.reduceNeg]
    rw [← chk_take hx]
    exact again (i + 1) _ _ (by omega) (FrLe.of_lks (by simp (dsimp := false) (maxSteps := 4000000) only [go_sem, ↓reduceIte, Nat.reduceEqDiff, Nat.reduceLT, Nat.reduceLeDiff, Nat.reduceAdd, Nat.reduceMul, Nat.reduceSub, reduceCtorEq, Int.reduceToNat, Int.reduceLT, Int.reduceLE, Int.reduceEq, Int.reduceNe, Int.reduceBEq, Nat.reduceBEq, Int.reduceBNe, Nat.reduceBNe, Int.reduceAdd, Int.reduceSub, Int.reduceMul, Int.reduceNeg])) (AH.le_refl _) (by omega)
  · obtain rfl : i = l.length := by omega
    rw [List.take_length]
    simp (dsimp := false) (maxSteps := 4000000) only [hlt, go_sem, ↓reduceIte, Nat.reduceEqDiff, Nat.reduceLT, Nat.reduceLeDiff, Nat.reduceAdd, Nat.reduceMul, Nat.reduceSub, reduceCtorEq, Int.reduceToNat, Int.reduceLT, Int.reduceLE, Int.reduceEq, Int.reduceNe, Int.reduceBEq, Nat.reduceBEq, Int.reduceBNe, Nat.reduceBNe, Int.reduceAdd, Int.reduceSub, Int.reduceMul, Int.reduceNeg]
    refine out _ _ _ (by simp) ?_
    simp (dsimp := false) (maxSteps := 4000000) only [go_sem, ↓reduceIte, Nat.reduceEqDiff, Nat.reduceLT, Nat.reduceLeDiff, Nat.reduceAdd, Nat.reduceMul, Nat.reduceSub, reduceCtorEq, Int.reduceToNat, Int.reduceLT, Int.reduceLE, Int.reduceEq, Int.reduceNe, Int.reduceBEq, Nat.reduceBEq, Int.reduceBNe, Nat.reduceBNe, Int.reduceAdd, Int.reduceSub, Int.reduceMul, Int.reduceNeg]
    exact ⟨H, AH.le_refl _, rfl⟩
/-- A row of bytes in a block of our own. -/
theorem row1 {H : AH} {b e m : Nat} {l k : List Int} {cs : List Value} (hf : H.find b = some (.cells cs e m)) (hc : cs = (k.map enc1).flatten) (hl : l = k.take l.length) (hb : k.length < 9223372036854775808) (cap : Nat) (hcap : l.length ≤ cap) : SlcIn H 1 (some ⟨b, 0, none⟩) cap (l.map enc1) := by
  subst hc
  have h1 : SlcIn H 1 (some ⟨b, 0, none⟩) k.length (k.map enc1) := SlcIn.of_find hf (fun r hr => by obtain ⟨_, _, rfl⟩ := List.mem_map.1 hr; rfl) (by simp) (by simpa using hb)
  have h2 := h1.take (n := l.length)
  rw [← List.map_take, ← hl] at h2
  exact h2.recap (by simpa using hcap)
def rl (r : Rc) : List Int := [r.1, r.2.1, r.2.2.1, r.2.2.2]
def dataV (r : Rc) : Value := .agg #[.int .u8 r.1, .int .u8 r.2.1, .int .u8 r.2.2.1, .int .u8 r.2.2.2, .int .u8 (chk (rl r))]
theorem Data_c (r : Rc) (H : AH) : ACalls Tryd.prog 17 #[.agg (enc r).toArray] H (fun v H' => v = dataV r ∧ H = H') := by
  obtain ⟨r0, r1, r2, r3⟩ := r
  have hck := fun H1 b (h : SlcIn H1 1 (some ⟨b, 0, none⟩) 4 ([r0, r1, r2, r3].map enc1)) => checked_c [r0, r1, r2, r3] (some ⟨b, 0, none⟩) 4 H1 h
  dsimp only [enc]
  refine ACalls.enter2 Tryd.func17 rfl Tryd.ntmps17 Tryd.results17 (by simp) ?_; simp (dsimp := false) (maxSteps := 4000000) only [go_sem, ↓reduceIte, Nat.reduceEqDiff, Nat.reduceLT, Nat.reduceLeDiff, Nat.reduceAdd, Nat.reduceMul, Nat.reduceSub, reduceCtorEq, Int.reduceToNat, Int.reduceLT, Int.reduceLE, Int.reduceEq, Int.reduceNe, Int.reduceBEq, Nat.reduceBEq, Int.reduceBNe, Nat.reduceBNe, Int.reduceAdd, Int.reduceSub, Int.reduceMul, Int.reduceNeg]
  refine AllB.mk fun b1 h_b1 => ?_; have hn_b1 := h_b1; (try simp only [fresh_add, fresh_set, ne_eq] at hn_b1); have hr_b1 := hn_b1; (try simp only [@eq_comm Nat b1] at hr_b1); simp (dsimp := false) (maxSteps := 4000000) only [hn_b1, hr_b1, go_sem, ↓reduceIte, Nat.reduceEqDiff, Nat.reduceLT, Nat.reduceLeDiff, Nat.reduceAdd, Nat.reduceMul, Nat.reduceSub, reduceCtorEq, Int.reduceToNat, Int.reduceLT, Int.reduceLE, Int.reduceEq, Int.reduceNe, Int.reduceBEq, Nat.reduceBEq, Int.reduceBNe, Nat.reduceBNe, Int.reduceAdd, Int.reduceSub, Int.reduceMul, Int.reduceNeg]
  refine AllB.mk fun b2 h_b2 => ?_; have hn_b2 := h_b2; (try simp only [fresh_add, fresh_set, ne_eq] at hn_b2); have hr_b2 := hn_b2; (try simp only [@eq_comm Nat b2] at hr_b2); simp (dsimp := false) (maxSteps := 4000000) only [hn_b1, hr_b1, hn_b2, hr_b2, go_sem, ↓reduceIte, Nat.reduceEqDiff, Nat.reduceLT, Nat.reduceLeDiff, Nat.reduceAdd, Nat.reduceMul, Nat.reduceSub, reduceCtorEq, Int.reduceToNat, Int.reduceLT, Int.reduceLE, Int.reduceEq, Int.reduceNe, Int.reduceBEq, Nat.reduceBEq, Int.reduceBNe, Nat.reduceBNe, Int.reduceAdd, Int.reduceSub, Int.reduceMul, Int.reduceNeg]
  refine AWp.gen [.pu, .rd, .pu, .rd, .pu, .rd, .pu, .rd, .pu, .ch, .pu, .ch] [0, 1, 0, 4, 0, 16, 0, 64, 0, 256, 1023, 2047] 10 (_) mixed (by kernel_rfl) (AH.le_refl _) ?_
  simp (dsimp := false) (maxSteps := 4000000) only [hn_b1, hr_b1, hn_b2, hr_b2, go_sem, ↓reduceIte, Nat.reduceEqDiff, Nat.reduceLT, Nat.reduceLeDiff, Nat.reduceAdd, Nat.reduceMul, Nat.reduceSub, reduceCtorEq, Int.reduceToNat, Int.reduceLT, Int.reduceLE, Int.reduceEq, Int.reduceNe, Int.reduceBEq, Nat.reduceBEq, Int.reduceBNe, Nat.reduceBNe, Int.reduceAdd, Int.reduceSub, Int.reduceMul, Int.reduceNeg]
  refine ACalls.mono (hck _ b1 (row1 (k := [r0, r1, r2, r3]) (cs := [.int .u8 r0, .int .u8 r1, .int .u8 r2, .int .u8 r3]) (e := 26) (m := 4) (by (show AH.find _ _ = _; simp only [find_add_self, find_add_ne, find_fresh, fresh_add, fresh_set, ne_eq, not_false_eq_true, true_and, and_true, and_self, hn_b1, hr_b1, hn_b2, hr_b2])) rfl rfl (by simp) 4 (by simp))) ?_; rintro _ _ ⟨rfl, rfl⟩
  simp (dsimp := false) (maxSteps := 4000000) only [hn_b1, hr_b1, hn_b2, hr_b2, go_sem, ↓reduceIte, Nat.reduceEqDiff, Nat.reduceLT, Nat.reduceLeDiff, Nat.reduceAdd, Nat.reduceMul, Nat.reduceSub, reduceCtorEq, Int.reduceToNat, Int.reduceLT, Int.reduceLE, Int.reduceEq, Int.reduceNe, Int.reduceBEq, Nat.reduceBEq, Int.reduceBNe, Nat.reduceBNe, Int.reduceAdd, Int.reduceSub, Int.reduceMul, Int.reduceNeg]
  exact ⟨H, (AH.le_add (AH.le_add (AH.le_refl _) ((by simp only [fresh_add, fresh_set, ne_eq, hn_b1, not_false_eq_true, and_self] : Fresh _ b1).2)) ((by simp only [fresh_add, fresh_set, ne_eq, hn_b2, not_false_eq_true, and_self] : Fresh _ b2).2)), (by first | exact ⟨rfl, rfl⟩ | rfl)⟩
theorem rdop_arr {P : Program} {H : AH} {t n e len cap : Nat} {a : Option Addr} {K : Value → Prop} (hu : P.underlying t = some (.array n e)) (hl : n ≤ len) : rdop P H (Instr.arrayAt t (.slice a len cap)) K = nv (.pointer a) K := by
  unfold rdop
  have : ¬ len < n := by omega
  simp only [Instr.arrayAt, qrun_bind, qrun_underlying, hu, Option.bind_some, if_neg this, qrun_pure]
  rfl
def openV (r : Rc) (x : Int) : Value := if chk (rl r) = x then .tuple #[.agg (enc r).toArray, .int .i64 0] else .tuple #[.agg (enc zr).toArray, .int .i64 14]
theorem Open_c (r : Rc) (x : Int) (H : AH) : ACalls Tryd.prog 19 #[.agg #[.int .u8 r.1, .int .u8 r.2.1, .int .u8 r.2.2.1, .int .u8 r.2.2.2, .int .u8 x]] H (fun v H' => v = openV r x ∧ H = H') := by
  have hd := fun H1 => Data_c r H1
  obtain ⟨r0, r1, r2, r3⟩ := r
  unfold dataV at hd
  dsimp only [enc] at hd ⊢
  refine ACalls.enter2 Tryd.func19 rfl Tryd.ntmps19 Tryd.results19 (by simp) ?_; simp (dsimp := false) (maxSteps := 4000000) only [go_sem, ↓reduceIte, Nat.reduceEqDiff, Nat.reduceLT, Nat.reduceLeDiff, Nat.reduceAdd, Nat.reduceMul, Nat.reduceSub, reduceCtorEq, Int.reduceToNat, Int.reduceLT, Int.reduceLE, Int.reduceEq, Int.reduceNe, Int.reduceBEq, Nat.reduceBEq, Int.reduceBNe, Nat.reduceBNe, Int.reduceAdd, Int.reduceSub, Int.reduceMul, Int.reduceNeg]
  refine AllB.mk fun b1 h_b1 => ?_; have hn_b1 := h_b1; (try simp only [fresh_add, fresh_set, ne_eq] at hn_b1); have hr_b1 := hn_b1; (try simp only [@eq_comm Nat b1] at hr_b1); simp (dsimp := false) (maxSteps := 4000000) only [hn_b1, hr_b1, go_sem, ↓reduceIte, Nat.reduceEqDiff, Nat.reduceLT, Nat.reduceLeDiff, Nat.reduceAdd, Nat.reduceMul, Nat.reduceSub, reduceCtorEq, Int.reduceToNat, Int.reduceLT, Int.reduceLE, Int.reduceEq, Int.reduceNe, Int.reduceBEq, Nat.reduceBEq, Int.reduceBNe, Nat.reduceBNe, Int.reduceAdd, Int.reduceSub, Int.reduceMul, Int.reduceNeg]
  refine AllB.mk fun b2 h_b2 => ?_; have hn_b2 := h_b2; (try simp only [fresh_add, fresh_set, ne_eq] at hn_b2); have hr_b2 := hn_b2; (try simp only [@eq_comm Nat b2] at hr_b2); simp (dsimp := false) (maxSteps := 4000000) only [hn_b1, hr_b1, hn_b2, hr_b2, go_sem, ↓reduceIte, Nat.reduceEqDiff, Nat.reduceLT, Nat.reduceLeDiff, Nat.reduceAdd, Nat.reduceMul, Nat.reduceSub, reduceCtorEq, Int.reduceToNat, Int.reduceLT, Int.reduceLE, Int.reduceEq, Int.reduceNe, Int.reduceBEq, Nat.reduceBEq, Int.reduceBNe, Nat.reduceBNe, Int.reduceAdd, Int.reduceSub, Int.reduceMul, Int.reduceNeg]
  have har := fun H1 K a cap => rdop_arr (P := Tryd.prog) (H := H1) (cap := cap) (a := a) (K := K) Tryd.underlying26 (Nat.le_refl 4)
  simp (dsimp := false) (maxSteps := 4000000) only [har, hn_b1, hr_b1, hn_b2, hr_b2, go_sem, ↓reduceIte, Nat.reduceEqDiff, Nat.reduceLT, Nat.reduceLeDiff, Nat.reduceAdd, Nat.reduceMul, Nat.reduceSub, reduceCtorEq, Int.reduceToNat, Int.reduceLT, Int.reduceLE, Int.reduceEq, Int.reduceNe, Int.reduceBEq, Nat.reduceBEq, Int.reduceBNe, Nat.reduceBNe, Int.reduceAdd, Int.reduceSub, Int.reduceMul, Int.reduceNeg]
  refine AllB.mk fun b4 h_b4 => ?_; have hn_b4 := h_b4; (try simp only [fresh_add, fresh_set, ne_eq] at hn_b4); have hr_b4 := hn_b4; (try simp only [@eq_comm Nat b4] at hr_b4); simp (dsimp := false) (maxSteps := 4000000) only [hn_b1, hr_b1, hn_b2, hr_b2, hn_b4, hr_b4, go_sem, ↓reduceIte, Nat.reduceEqDiff, Nat.reduceLT, Nat.reduceLeDiff, Nat.reduceAdd, Nat.reduceMul, Nat.reduceSub, reduceCtorEq, Int.reduceToNat, Int.reduceLT, Int.reduceLE, Int.reduceEq, Int.reduceNe, Int.reduceBEq, Nat.reduceBEq, Int.reduceBNe, Nat.reduceBNe, Int.reduceAdd, Int.reduceSub, Int.reduceMul, Int.reduceNeg]
  refine AWp.gen [.rd, .ch, .rd, .pu] [0, 1, 0, 7] 2 (_) mixed (by kernel_rfl) (AH.le_refl _) ?_
  simp (dsimp := false) (maxSteps := 4000000) only [hn_b1, hr_b1, hn_b2, hr_b2, hn_b4, hr_b4, go_sem, ↓reduceIte, Nat.reduceEqDiff, Nat.reduceLT, Nat.reduceLeDiff, Nat.reduceAdd, Nat.reduceMul, Nat.reduceSub, reduceCtorEq, Int.reduceToNat, Int.reduceLT, Int.reduceLE, Int.reduceEq, Int.reduceNe, Int.reduceBEq, Nat.reduceBEq, Int.reduceBNe, Nat.reduceBNe, Int.reduceAdd, Int.reduceSub, Int.reduceMul, Int.reduceNeg]
  refine (hd _).mono ?_; rintro _ _ ⟨rfl, rfl⟩
  simp (dsimp := false) (maxSteps := 4000000) only [hn_b1, hr_b1, hn_b2, hr_b2, hn_b4, hr_b4, go_sem, ↓reduceIte, Nat.reduceEqDiff, Nat.reduceLT, Nat.reduceLeDiff, Nat.reduceAdd, Nat.reduceMul, Nat.reduceSub, reduceCtorEq, Int.reduceToNat, Int.reduceLT, Int.reduceLE, Int.reduceEq, Int.reduceNe, Int.reduceBEq, Nat.reduceBEq, Int.reduceBNe, Nat.reduceBNe, Int.reduceAdd, Int.reduceSub, Int.reduceMul, Int.reduceNeg]
  by_cases h : chk (rl (r0, r1, r2, r3)) = x
  · have hb : (chk (rl (r0, r1, r2, r3)) == x) = true := by simp [h]
    simp (dsimp := false) (maxSteps := 4000000) only [hb, hn_b1, hr_b1, hn_b2, hr_b2, hn_b4, hr_b4, go_sem, ↓reduceIte, Nat.reduceEqDiff, Nat.reduceLT, Nat.reduceLeDiff, Nat.reduceAdd, Nat.reduceMul, Nat.reduceSub, reduceCtorEq, Int.reduceToNat, Int.reduceLT, Int.reduceLE, Int.reduceEq, Int.reduceNe, Int.reduceBEq, Nat.reduceBEq, Int.reduceBNe, Nat.reduceBNe, Int.reduceAdd, Int.reduceSub, Int.reduceMul, Int.reduceNeg]
    exact ⟨H, (AH.le_add (AH.le_add (AH.le_add (AH.le_refl _) ((by simp only [fresh_add, fresh_set, ne_eq, hn_b1, not_false_eq_true, and_self] : Fresh _ b1).2)) ((by simp only [fresh_add, fresh_set, ne_eq, hn_b2, not_false_eq_true, and_self] : Fresh _ b2).2)) ((by simp only [fresh_add, fresh_set, ne_eq, hn_b4, not_false_eq_true, and_self] : Fresh _ b4).2)), by rw [openV, if_pos h]; rfl, rfl⟩
  · have hb : (chk (rl (r0, r1, r2, r3)) == x) = false := by simp [h]
    simp (dsimp := false) (maxSteps := 4000000) only [hb, hn_b1, hr_b1, hn_b2, hr_b2, hn_b4, hr_b4, go_sem, ↓reduceIte, Nat.reduceEqDiff, Nat.reduceLT, Nat.reduceLeDiff, Nat.reduceAdd, Nat.reduceMul, Nat.reduceSub, reduceCtorEq, Int.reduceToNat, Int.reduceLT, Int.reduceLE, Int.reduceEq, Int.reduceNe, Int.reduceBEq, Nat.reduceBEq, Int.reduceBNe, Nat.reduceBNe, Int.reduceAdd, Int.reduceSub, Int.reduceMul, Int.reduceNeg]
    exact ⟨H, (AH.le_add (AH.le_add (AH.le_add (AH.le_refl _) ((by simp only [fresh_add, fresh_set, ne_eq, hn_b1, not_false_eq_true, and_self] : Fresh _ b1).2)) ((by simp only [fresh_add, fresh_set, ne_eq, hn_b2, not_false_eq_true, and_self] : Fresh _ b2).2)) ((by simp only [fresh_add, fresh_set, ne_eq, hn_b4, not_false_eq_true, and_self] : Fresh _ b4).2)), by rw [openV, if_neg h]; rfl, rfl⟩
end Go.Proofs.YtamlipffhimfmaaDoor.Srv

/- addr.Take and its reference; the fixed fact; the two statements as_ calls. -/
namespace Go.Proofs.YtamlipffhimfmaaDoor
set_option linter.unusedSimpArgs false
set_option linter.unusedVariables false
open Go Go.AX Go.Proofs Ty
set_option maxHeartbeats 2000000
set_option maxRecDepth 10000

def atakev (x y : Int) : Value := if x < 192 then .tuple #[.agg #[.int .i64 (x / 64), .int .i64 (x % 64), .int .i64 y], .int .i64 0] else .tuple #[.agg #[.int .i64 0, .int .i64 0, .int .i64 0], .int .i64 2]

theorem shr6 : ∀ x : Fin 256, IntKind.i64.wrap ((x.val : Int).fdiv (2 ^ min 6 8)) = (x.val : Int) / 64 := by decide +kernel
theorem and63 : ∀ x : Fin 256, IntKind.i64.wrap (ibits .and .u8 (x.val : Int) 63) = (x.val : Int) % 64 := by decide +kernel
theorem shr6' {x : Int} (h : 0 ≤ x ∧ x < 256) : IntKind.i64.wrap (x.fdiv (2 ^ min 6 8)) = x / 64 := by
  obtain ⟨n, rfl⟩ := Int.eq_ofNat_of_zero_le h.1
  exact shr6 ⟨n, by omega⟩
theorem and63' {x : Int} (h : 0 ≤ x ∧ x < 256) : IntKind.i64.wrap (ibits .and .u8 x 63) = x % 64 := by
  obtain ⟨n, rfl⟩ := Int.eq_ofNat_of_zero_le h.1
  exact and63 ⟨n, by omega⟩

theorem Take_c (x y : Int) (hx : 0 ≤ x ∧ x < 256) (hy : 0 ≤ y ∧ y < 256) (H : AH) : ACalls Tryd.prog 42 #[.agg #[.int .u8 x, .int .u8 y]] H (fun v H' => v = atakev x y ∧ H = H') := by
  have e1 := shr6' hx
  have e2 := and63' hx
  have e3 : IntKind.i64.wrap y = y := i64_eq (by omega) (by omega)
  refine ACalls.enter2 Tryd.func42 rfl Tryd.ntmps42 Tryd.results42 (by simp) ?_; simp (dsimp := false) (maxSteps := 4000000) only [go_sem, ↓reduceIte, Nat.reduceEqDiff, Nat.reduceLT, Nat.reduceLeDiff, Nat.reduceAdd, Nat.reduceMul, Nat.reduceSub, reduceCtorEq, Int.reduceToNat, Int.reduceLT, Int.reduceLE, Int.reduceEq, Int.reduceNe, Int.reduceBEq, Nat.reduceBEq, Int.reduceBNe, Nat.reduceBNe, Int.reduceAdd, Int.reduceSub, Int.reduceMul, Int.reduceNeg]
  
  refine AllB.mk fun b1 h_b1 => ?_; have hn_b1 := h_b1; (try simp only [fresh_add, fresh_set, ne_eq] at hn_b1); have hr_b1 := hn_b1; (try simp only [@eq_comm Nat b1] at hr_b1); simp (dsimp := false) (maxSteps := 4000000) only [e1, e2, e3, hn_b1, hr_b1, go_sem, ↓reduceIte, Nat.reduceEqDiff, Nat.reduceLT, Nat.reduceLeDiff, Nat.reduceAdd, Nat.reduceMul, Nat.reduceSub, reduceCtorEq, Int.reduceToNat, Int.reduceLT, Int.reduceLE, Int.reduceEq, Int.reduceNe, Int.reduceBEq, Nat.reduceBEq, Int.reduceBNe, Nat.reduceBNe, Int.reduceAdd, Int.reduceSub, Int.reduceMul, Int.reduceNeg]
  refine AllB.mk fun b2 h_b2 => ?_; have hn_b2 := h_b2; (try simp only [fresh_add, fresh_set, ne_eq] at hn_b2); have hr_b2 := hn_b2; (try simp only [@eq_comm Nat b2] at hr_b2); simp (dsimp := false) (maxSteps := 4000000) only [e1, e2, e3, hn_b1, hr_b1, hn_b2, hr_b2, go_sem, ↓reduceIte, Nat.reduceEqDiff, Nat.reduceLT, Nat.reduceLeDiff, Nat.reduceAdd, Nat.reduceMul, Nat.reduceSub, reduceCtorEq, Int.reduceToNat, Int.reduceLT, Int.reduceLE, Int.reduceEq, Int.reduceNe, Int.reduceBEq, Nat.reduceBEq, Int.reduceBNe, Nat.reduceBNe, Int.reduceAdd, Int.reduceSub, Int.reduceMul, Int.reduceNeg]
  refine AllB.mk fun b3 h_b3 => ?_; have hn_b3 := h_b3; (try simp only [fresh_add, fresh_set, ne_eq] at hn_b3); have hr_b3 := hn_b3; (try simp only [@eq_comm Nat b3] at hr_b3); simp (dsimp := false) (maxSteps := 4000000) only [e1, e2, e3, hn_b1, hr_b1, hn_b2, hr_b2, hn_b3, hr_b3, go_sem, ↓reduceIte, Nat.reduceEqDiff, Nat.reduceLT, Nat.reduceLeDiff, Nat.reduceAdd, Nat.reduceMul, Nat.reduceSub, reduceCtorEq, Int.reduceToNat, Int.reduceLT, Int.reduceLE, Int.reduceEq, Int.reduceNe, Int.reduceBEq, Nat.reduceBEq, Int.reduceBNe, Nat.reduceBNe, Int.reduceAdd, Int.reduceSub, Int.reduceMul, Int.reduceNeg]
  refine (Good_c _ _ _ _).mono ?_; rintro _ _ ⟨rfl, rfl⟩
  by_cases h : x < 192
  · have hg : agood (x / 64) (x % 64) y = true := by simp only [agood, decide_eq_true_eq]; omega
    simp (dsimp := false) (maxSteps := 4000000) only [hg, e1, e2, e3, hn_b1, hr_b1, hn_b2, hr_b2, hn_b3, hr_b3, go_sem, ↓reduceIte, Nat.reduceEqDiff, Nat.reduceLT, Nat.reduceLeDiff, Nat.reduceAdd, Nat.reduceMul, Nat.reduceSub, reduceCtorEq, Int.reduceToNat, Int.reduceLT, Int.reduceLE, Int.reduceEq, Int.reduceNe, Int.reduceBEq, Nat.reduceBEq, Int.reduceBNe, Nat.reduceBNe, Int.reduceAdd, Int.reduceSub, Int.reduceMul, Int.reduceNeg]
    exact ⟨H, (AH.le_add (AH.le_add (AH.le_add (AH.le_refl _) ((by simp only [e1, e2, e3, fresh_add, fresh_set, ne_eq, hn_b1, not_false_eq_true, and_self] : Fresh _ b1).2)) ((by simp only [e1, e2, e3, fresh_add, fresh_set, ne_eq, hn_b2, not_false_eq_true, and_self] : Fresh _ b2).2)) ((by simp only [e1, e2, e3, fresh_add, fresh_set, ne_eq, hn_b3, not_false_eq_true, and_self] : Fresh _ b3).2)), (by first | exact ⟨by simp [atakev, h], rfl⟩ | rfl)⟩
  · have hg : agood (x / 64) (x % 64) y = false := by simp only [agood, decide_eq_false_iff_not]; omega
    simp (dsimp := false) (maxSteps := 4000000) only [hg, e1, e2, e3, hn_b1, hr_b1, hn_b2, hr_b2, hn_b3, hr_b3, go_sem, ↓reduceIte, Nat.reduceEqDiff, Nat.reduceLT, Nat.reduceLeDiff, Nat.reduceAdd, Nat.reduceMul, Nat.reduceSub, reduceCtorEq, Int.reduceToNat, Int.reduceLT, Int.reduceLE, Int.reduceEq, Int.reduceNe, Int.reduceBEq, Nat.reduceBEq, Int.reduceBNe, Nat.reduceBNe, Int.reduceAdd, Int.reduceSub, Int.reduceMul, Int.reduceNeg]
    exact ⟨H, (AH.le_add (AH.le_add (AH.le_add (AH.le_refl _) ((by simp only [e1, e2, e3, fresh_add, fresh_set, ne_eq, hn_b1, not_false_eq_true, and_self] : Fresh _ b1).2)) ((by simp only [e1, e2, e3, fresh_add, fresh_set, ne_eq, hn_b2, not_false_eq_true, and_self] : Fresh _ b2).2)) ((by simp only [e1, e2, e3, fresh_add, fresh_set, ne_eq, hn_b3, not_false_eq_true, and_self] : Fresh _ b3).2)), (by first | exact ⟨by simp [atakev, h], rfl⟩ | rfl)⟩
end Go.Proofs.YtamlipffhimfmaaDoor

/- serve: Ask, wrap. -/
namespace Go.Proofs.YtamlipffhimfmaaDoor.Srv
set_option linter.unusedSimpArgs false
set_option linter.unusedVariables false
open Go Go.AX Go.Proofs Ty Go.Proofs.YtamlipffhimfmaaDoor.File
set_option maxHeartbeats 4000000
set_option maxRecDepth 10000

/-- An error of a node that is silent. -/
def silV (e : Int) : Value := if e = 0 then .nilIface else .iface 87 (.agg #[.iface 32 (.int .i64 e)])
theorem wrap_c (e : Int) (H : AH) : ACalls Tryd.prog 43 #[.int .i64 e] H (fun v H' => v = silV e ∧ H = H') := by
  refine ACalls.enter2 Tryd.func43 rfl Tryd.ntmps43 Tryd.results43 (by simp) ?_; simp (dsimp := false) (maxSteps := 4000000) only [go_sem, ↓reduceIte, Nat.reduceEqDiff, Nat.reduceLT, Nat.reduceLeDiff, Nat.reduceAdd, Nat.reduceMul, Nat.reduceSub, reduceCtorEq, Int.reduceToNat, Int.reduceLT, Int.reduceLE, Int.reduceEq, Int.reduceNe, Int.reduceBEq, Nat.reduceBEq, Int.reduceBNe, Nat.reduceBNe, Int.reduceAdd, Int.reduceSub, Int.reduceMul, Int.reduceNeg]
  by_cases h : e = 0
  · subst h
    simp (dsimp := false) (maxSteps := 4000000) only [go_sem, ↓reduceIte, Nat.reduceEqDiff, Nat.reduceLT, Nat.reduceLeDiff, Nat.reduceAdd, Nat.reduceMul, Nat.reduceSub, reduceCtorEq, Int.reduceToNat, Int.reduceLT, Int.reduceLE, Int.reduceEq, Int.reduceNe, Int.reduceBEq, Nat.reduceBEq, Int.reduceBNe, Nat.reduceBNe, Int.reduceAdd, Int.reduceSub, Int.reduceMul, Int.reduceNeg]
    exact ⟨H, (AH.le_refl _), (by first | exact ⟨rfl, rfl⟩ | rfl)⟩
  · simp (dsimp := false) (maxSteps := 4000000) only [h, go_sem, ↓reduceIte, Nat.reduceEqDiff, Nat.reduceLT, Nat.reduceLeDiff, Nat.reduceAdd, Nat.reduceMul, Nat.reduceSub, reduceCtorEq, Int.reduceToNat, Int.reduceLT, Int.reduceLE, Int.reduceEq, Int.reduceNe, Int.reduceBEq, Nat.reduceBEq, Int.reduceBNe, Nat.reduceBNe, Int.reduceAdd, Int.reduceSub, Int.reduceMul, Int.reduceNeg]
    exact ⟨H, AH.le_refl _, by rw [silV, if_neg h], rfl⟩
def askOk (n a b c : Int) : Prop := 1 ≤ n ∧ n ≤ 254 ∧ agood a b c = true
instance {n a b c : Int} : Decidable (askOk n a b c) := by unfold askOk; infer_instance
def askL (n a b c : Int) : List Int := [n, 64 * a + b, c]
def askV (n a b c : Int) : Value := if askOk n a b c then .tuple #[.agg #[.int .u8 n, .int .u8 (64 * a + b), .int .u8 c, .int .u8 (chk (askL n a b c))], .int .i64 0] else .tuple #[.agg #[.int .u8 0, .int .u8 0, .int .u8 0, .int .u8 0], .int .i64 1]
theorem Ask_c (n a b c : Int) (H : AH) : ACalls Tryd.prog 16 #[.int .i64 n, .agg #[.int .i64 a, .int .i64 b, .int .i64 c]] H (fun v H' => v = askV n a b c ∧ H = H') := by
  have hck := fun H1 q (h : SlcIn H1 1 (some ⟨q, 0, none⟩) 4 ((askL n a b c).map enc1)) => checked_c (askL n a b c) (some ⟨q, 0, none⟩) 4 H1 h
  refine ACalls.enter2 Tryd.func16 rfl Tryd.ntmps16 Tryd.results16 (by simp) ?_; simp (dsimp := false) (maxSteps := 4000000) only [go_sem, ↓reduceIte, Nat.reduceEqDiff, Nat.reduceLT, Nat.reduceLeDiff, Nat.reduceAdd, Nat.reduceMul, Nat.reduceSub, reduceCtorEq, Int.reduceToNat, Int.reduceLT, Int.reduceLE, Int.reduceEq, Int.reduceNe, Int.reduceBEq, Nat.reduceBEq, Int.reduceBNe, Nat.reduceBNe, Int.reduceAdd, Int.reduceSub, Int.reduceMul, Int.reduceNeg]
  refine AllB.mk fun b3 h_b3 => ?_; have hn_b3 := h_b3; (try simp only [fresh_add, fresh_set, ne_eq] at hn_b3); have hr_b3 := hn_b3; (try simp only [@eq_comm Nat b3] at hr_b3); simp (dsimp := false) (maxSteps := 4000000) only [hn_b3, hr_b3, go_sem, ↓reduceIte, Nat.reduceEqDiff, Nat.reduceLT, Nat.reduceLeDiff, Nat.reduceAdd, Nat.reduceMul, Nat.reduceSub, reduceCtorEq, Int.reduceToNat, Int.reduceLT, Int.reduceLE, Int.reduceEq, Int.reduceNe, Int.reduceBEq, Nat.reduceBEq, Int.reduceBNe, Nat.reduceBNe, Int.reduceAdd, Int.reduceSub, Int.reduceMul, Int.reduceNeg]
  refine AllB.mk fun b4 h_b4 => ?_; have hn_b4 := h_b4; (try simp only [fresh_add, fresh_set, ne_eq] at hn_b4); have hr_b4 := hn_b4; (try simp only [@eq_comm Nat b4] at hr_b4); simp (dsimp := false) (maxSteps := 4000000) only [hn_b3, hr_b3, hn_b4, hr_b4, go_sem, ↓reduceIte, Nat.reduceEqDiff, Nat.reduceLT, Nat.reduceLeDiff, Nat.reduceAdd, Nat.reduceMul, Nat.reduceSub, reduceCtorEq, Int.reduceToNat, Int.reduceLT, Int.reduceLE, Int.reduceEq, Int.reduceNe, Int.reduceBEq, Nat.reduceBEq, Int.reduceBNe, Nat.reduceBNe, Int.reduceAdd, Int.reduceSub, Int.reduceMul, Int.reduceNeg]
  refine (Go.Proofs.YtamlipffhimfmaaDoor.Put_c a b c _).mono ?_; rintro _ _ ⟨rfl, rfl⟩
  unfold aputv
  by_cases hg : agood a b c = true
  case' neg =>
    rw [if_neg hg]
    
    simp (dsimp := false) (maxSteps := 4000000) only [hn_b3, hr_b3, hn_b4, hr_b4, go_sem, ↓reduceIte, Nat.reduceEqDiff, Nat.reduceLT, Nat.reduceLeDiff, Nat.reduceAdd, Nat.reduceMul, Nat.reduceSub, reduceCtorEq, Int.reduceToNat, Int.reduceLT, Int.reduceLE, Int.reduceEq, Int.reduceNe, Int.reduceBEq, Nat.reduceBEq, Int.reduceBNe, Nat.reduceBNe, Int.reduceAdd, Int.reduceSub, Int.reduceMul, Int.reduceNeg]
    refine AllB.mk fun b6 h_b6 => ?_; have hn_b6 := h_b6; (try simp only [fresh_add, fresh_set, ne_eq] at hn_b6); have hr_b6 := hn_b6; (try simp only [@eq_comm Nat b6] at hr_b6); simp (dsimp := false) (maxSteps := 4000000) only [hn_b3, hr_b3, hn_b4, hr_b4, hn_b6, hr_b6, go_sem, ↓reduceIte, Nat.reduceEqDiff, Nat.reduceLT, Nat.reduceLeDiff, Nat.reduceAdd, Nat.reduceMul, Nat.reduceSub, reduceCtorEq, Int.reduceToNat, Int.reduceLT, Int.reduceLE, Int.reduceEq, Int.reduceNe, Int.reduceBEq, Nat.reduceBEq, Int.reduceBNe, Nat.reduceBNe, Int.reduceAdd, Int.reduceSub, Int.reduceMul, Int.reduceNeg]
    have hno : ¬ askOk n a b c := fun h => hg h.2.2
    by_cases h1 : n < 1
    · simp (dsimp := false) (maxSteps := 4000000) only [h1, hn_b3, hr_b3, hn_b4, hr_b4, hn_b6, hr_b6, go_sem, ↓reduceIte, Nat.reduceEqDiff, Nat.reduceLT, Nat.reduceLeDiff, Nat.reduceAdd, Nat.reduceMul, Nat.reduceSub, reduceCtorEq, Int.reduceToNat, Int.reduceLT, Int.reduceLE, Int.reduceEq, Int.reduceNe, Int.reduceBEq, Nat.reduceBEq, Int.reduceBNe, Nat.reduceBNe, Int.reduceAdd, Int.reduceSub, Int.reduceMul, Int.reduceNeg]
      exact ⟨H, (AH.le_add (AH.le_add (AH.le_add (AH.le_refl _) ((by simp only [fresh_add, fresh_set, ne_eq, hn_b3, not_false_eq_true, and_self] : Fresh _ b3).2)) ((by simp only [fresh_add, fresh_set, ne_eq, hn_b4, not_false_eq_true, and_self] : Fresh _ b4).2)) ((by simp only [fresh_add, fresh_set, ne_eq, hn_b6, not_false_eq_true, and_self] : Fresh _ b6).2)), by rw [askV, if_neg hno], rfl⟩
    by_cases h2 : 254 < n
    · simp (dsimp := false) (maxSteps := 4000000) only [h1, h2, hn_b3, hr_b3, hn_b4, hr_b4, hn_b6, hr_b6, go_sem, ↓reduceIte, Nat.reduceEqDiff, Nat.reduceLT, Nat.reduceLeDiff, Nat.reduceAdd, Nat.reduceMul, Nat.reduceSub, reduceCtorEq, Int.reduceToNat, Int.reduceLT, Int.reduceLE, Int.reduceEq, Int.reduceNe, Int.reduceBEq, Nat.reduceBEq, Int.reduceBNe, Nat.reduceBNe, Int.reduceAdd, Int.reduceSub, Int.reduceMul, Int.reduceNeg]
      exact ⟨H, (AH.le_add (AH.le_add (AH.le_add (AH.le_refl _) ((by simp only [fresh_add, fresh_set, ne_eq, hn_b3, not_false_eq_true, and_self] : Fresh _ b3).2)) ((by simp only [fresh_add, fresh_set, ne_eq, hn_b4, not_false_eq_true, and_self] : Fresh _ b4).2)) ((by simp only [fresh_add, fresh_set, ne_eq, hn_b6, not_false_eq_true, and_self] : Fresh _ b6).2)), by rw [askV, if_neg hno], rfl⟩
    simp (dsimp := false) (maxSteps := 4000000) only [h1, h2, hn_b3, hr_b3, hn_b4, hr_b4, hn_b6, hr_b6, go_sem, ↓reduceIte, Nat.reduceEqDiff, Nat.reduceLT, Nat.reduceLeDiff, Nat.reduceAdd, Nat.reduceMul, Nat.reduceSub, reduceCtorEq, Int.reduceToNat, Int.reduceLT, Int.reduceLE, Int.reduceEq, Int.reduceNe, Int.reduceBEq, Nat.reduceBEq, Int.reduceBNe, Nat.reduceBNe, Int.reduceAdd, Int.reduceSub, Int.reduceMul, Int.reduceNeg]
    exact ⟨H, (AH.le_add (AH.le_add (AH.le_add (AH.le_refl _) ((by simp only [fresh_add, fresh_set, ne_eq, hn_b3, not_false_eq_true, and_self] : Fresh _ b3).2)) ((by simp only [fresh_add, fresh_set, ne_eq, hn_b4, not_false_eq_true, and_self] : Fresh _ b4).2)) ((by simp only [fresh_add, fresh_set, ne_eq, hn_b6, not_false_eq_true, and_self] : Fresh _ b6).2)), by rw [askV, if_neg hno], rfl⟩
    
  rw [if_pos hg]
  simp (dsimp := false) (maxSteps := 4000000) only [hn_b3, hr_b3, hn_b4, hr_b4, go_sem, ↓reduceIte, Nat.reduceEqDiff, Nat.reduceLT, Nat.reduceLeDiff, Nat.reduceAdd, Nat.reduceMul, Nat.reduceSub, reduceCtorEq, Int.reduceToNat, Int.reduceLT, Int.reduceLE, Int.reduceEq, Int.reduceNe, Int.reduceBEq, Nat.reduceBEq, Int.reduceBNe, Nat.reduceBNe, Int.reduceAdd, Int.reduceSub, Int.reduceMul, Int.reduceNeg]
  refine AllB.mk fun b6 h_b6 => ?_; have hn_b6 := h_b6; (try simp only [fresh_add, fresh_set, ne_eq] at hn_b6); have hr_b6 := hn_b6; (try simp only [@eq_comm Nat b6] at hr_b6); simp (dsimp := false) (maxSteps := 4000000) only [hn_b3, hr_b3, hn_b4, hr_b4, hn_b6, hr_b6, go_sem, ↓reduceIte, Nat.reduceEqDiff, Nat.reduceLT, Nat.reduceLeDiff, Nat.reduceAdd, Nat.reduceMul, Nat.reduceSub, reduceCtorEq, Int.reduceToNat, Int.reduceLT, Int.reduceLE, Int.reduceEq, Int.reduceNe, Int.reduceBEq, Nat.reduceBEq, Int.reduceBNe, Nat.reduceBNe, Int.reduceAdd, Int.reduceSub, Int.reduceMul, Int.reduceNeg]
  by_cases h1 : n < 1
  · simp (dsimp := false) (maxSteps := 4000000) only [h1, hn_b3, hr_b3, hn_b4, hr_b4, hn_b6, hr_b6, go_sem, ↓reduceIte, Nat.reduceEqDiff, Nat.reduceLT, Nat.reduceLeDiff, Nat.reduceAdd, Nat.reduceMul, Nat.reduceSub, reduceCtorEq, Int.reduceToNat, Int.reduceLT, Int.reduceLE, Int.reduceEq, Int.reduceNe, Int.reduceBEq, Nat.reduceBEq, Int.reduceBNe, Nat.reduceBNe, Int.reduceAdd, Int.reduceSub, Int.reduceMul, Int.reduceNeg]
    exact ⟨H, (AH.le_add (AH.le_add (AH.le_add (AH.le_refl _) ((by simp only [fresh_add, fresh_set, ne_eq, hn_b3, not_false_eq_true, and_self] : Fresh _ b3).2)) ((by simp only [fresh_add, fresh_set, ne_eq, hn_b4, not_false_eq_true, and_self] : Fresh _ b4).2)) ((by simp only [fresh_add, fresh_set, ne_eq, hn_b6, not_false_eq_true, and_self] : Fresh _ b6).2)), by rw [askV, if_neg (fun h => by have := h.1; omega)], rfl⟩
  by_cases h2 : 254 < n
  · simp (dsimp := false) (maxSteps := 4000000) only [h1, h2, hn_b3, hr_b3, hn_b4, hr_b4, hn_b6, hr_b6, go_sem, ↓reduceIte, Nat.reduceEqDiff, Nat.reduceLT, Nat.reduceLeDiff, Nat.reduceAdd, Nat.reduceMul, Nat.reduceSub, reduceCtorEq, Int.reduceToNat, Int.reduceLT, Int.reduceLE, Int.reduceEq, Int.reduceNe, Int.reduceBEq, Nat.reduceBEq, Int.reduceBNe, Nat.reduceBNe, Int.reduceAdd, Int.reduceSub, Int.reduceMul, Int.reduceNeg]
    exact ⟨H, (AH.le_add (AH.le_add (AH.le_add (AH.le_refl _) ((by simp only [fresh_add, fresh_set, ne_eq, hn_b3, not_false_eq_true, and_self] : Fresh _ b3).2)) ((by simp only [fresh_add, fresh_set, ne_eq, hn_b4, not_false_eq_true, and_self] : Fresh _ b4).2)) ((by simp only [fresh_add, fresh_set, ne_eq, hn_b6, not_false_eq_true, and_self] : Fresh _ b6).2)), by rw [askV, if_neg (fun h => by have := h.2.1; omega)], rfl⟩
  have en : IntKind.u8.wrap n = n := u8_eq (by omega) (by omega)
  simp (dsimp := false) (maxSteps := 4000000) only [h1, h2, en, hn_b3, hr_b3, hn_b4, hr_b4, hn_b6, hr_b6, go_sem, ↓reduceIte, Nat.reduceEqDiff, Nat.reduceLT, Nat.reduceLeDiff, Nat.reduceAdd, Nat.reduceMul, Nat.reduceSub, reduceCtorEq, Int.reduceToNat, Int.reduceLT, Int.reduceLE, Int.reduceEq, Int.reduceNe, Int.reduceBEq, Nat.reduceBEq, Int.reduceBNe, Nat.reduceBNe, Int.reduceAdd, Int.reduceSub, Int.reduceMul, Int.reduceNeg]
  refine AllB.mk fun b8 h_b8 => ?_; have hn_b8 := h_b8; (try simp only [fresh_add, fresh_set, ne_eq] at hn_b8); have hr_b8 := hn_b8; (try simp only [@eq_comm Nat b8] at hr_b8); simp (dsimp := false) (maxSteps := 4000000) only [hn_b3, hr_b3, hn_b4, hr_b4, hn_b6, hr_b6, hn_b8, hr_b8, go_sem, ↓reduceIte, Nat.reduceEqDiff, Nat.reduceLT, Nat.reduceLeDiff, Nat.reduceAdd, Nat.reduceMul, Nat.reduceSub, reduceCtorEq, Int.reduceToNat, Int.reduceLT, Int.reduceLE, Int.reduceEq, Int.reduceNe, Int.reduceBEq, Nat.reduceBEq, Int.reduceBNe, Nat.reduceBNe, Int.reduceAdd, Int.reduceSub, Int.reduceMul, Int.reduceNeg]
  refine ACalls.mono (hck _ b8 (row1 (k := [n, 64 * a + b, c, 0]) (cs := [.int .u8 n, .int .u8 (64 * a + b), .int .u8 c, .int .u8 0]) (e := 25) (m := 4) (by (show AH.find _ _ = _; simp only [find_add_self, find_add_ne, find_fresh, fresh_add, fresh_set, ne_eq, not_false_eq_true, true_and, and_true, and_self, hn_b3, hr_b3, hn_b4, hr_b4, hn_b6, hr_b6, hn_b8, hr_b8])) rfl rfl (by simp) 4 (by simp [askL]))) ?_; rintro _ _ ⟨rfl, rfl⟩
  simp (dsimp := false) (maxSteps := 4000000) only [hn_b3, hr_b3, hn_b4, hr_b4, hn_b6, hr_b6, hn_b8, hr_b8, go_sem, ↓reduceIte, Nat.reduceEqDiff, Nat.reduceLT, Nat.reduceLeDiff, Nat.reduceAdd, Nat.reduceMul, Nat.reduceSub, reduceCtorEq, Int.reduceToNat, Int.reduceLT, Int.reduceLE, Int.reduceEq, Int.reduceNe, Int.reduceBEq, Nat.reduceBEq, Int.reduceBNe, Nat.reduceBNe, Int.reduceAdd, Int.reduceSub, Int.reduceMul, Int.reduceNeg]
  exact ⟨H, (AH.le_add (AH.le_add (AH.le_add (AH.le_add (AH.le_refl _) ((by simp only [fresh_add, fresh_set, ne_eq, hn_b3, not_false_eq_true, and_self] : Fresh _ b3).2)) ((by simp only [fresh_add, fresh_set, ne_eq, hn_b4, not_false_eq_true, and_self] : Fresh _ b4).2)) ((by simp only [fresh_add, fresh_set, ne_eq, hn_b6, not_false_eq_true, and_self] : Fresh _ b6).2)) ((by simp only [fresh_add, fresh_set, ne_eq, hn_b8, not_false_eq_true, and_self] : Fresh _ b8).2)), by rw [askV, if_pos ⟨by omega, by omega, hg⟩], rfl⟩
end Go.Proofs.YtamlipffhimfmaaDoor.Srv

/- serve: answer. -/
namespace Go.Proofs.YtamlipffhimfmaaDoor.Srv
set_option linter.unusedSimpArgs false
set_option linter.unusedVariables false
open Go Go.AX Go.Proofs Ty Go.Proofs.YtamlipffhimfmaaDoor.File Go.Proofs.YtamlipffhimfmaaDoor.Ifs Go.Proofs.YtamlipffhimfmaaDoor.Err
set_option maxHeartbeats 4000000
set_option maxRecDepth 10000

/-- An asking, and a record's bytes. -/
structure Aq where
  n : Int
  a0 : Int
  a1 : Int
  a2 : Int
  a3 : Int
  d : Rc
  d4 : Int
def Aq.op (q : Aq) : Int := q.a1 / 64
def Aq.fl (q : Aq) : Int := q.a1 % 64
def Aq.v (q : Aq) : Rc := if q.op = 1 then q.d else zr
/-- Why nothing is asked of the store; 0: something is. -/
def Aq.pre (q : Aq) : Int := if chk [q.a0, q.a1, q.a2] ≠ q.a3 ∨ q.a0 ≠ q.n then 14 else if ¬ q.a1 < 192 then 2 else if q.op = 1 ∧ chk (rl q.d) ≠ q.d4 then 14 else 0
def Aq.E (q : Aq) (X : List Nf) : Int := if q.pre = 0 then doE X q.op q.fl q.a2 else q.pre
def Aq.W (q : Aq) (X : List Nf) : Rc := if q.pre = 0 then doW X q.op q.fl q.a2 q.v else zr
def Aq.X (q : Aq) (X : List Nf) : List Nf := if q.pre = 0 then doX X q.op q.fl q.a2 q.v else X
def Aq.D (q : Aq) (X : List Nf) (d : Int) : Int := if q.pre = 0 then doD X q.op q.fl q.a2 d else d
def Aq.ask (q : Aq) : Value := .agg #[.int .u8 q.a0, .int .u8 q.a1, .int .u8 q.a2, .int .u8 q.a3]
def Aq.dat (q : Aq) : Value := .agg #[.int .u8 q.d.1, .int .u8 q.d.2.1, .int .u8 q.d.2.2.1, .int .u8 q.d.2.2.2, .int .u8 q.d4]
structure Aq.Ok (q : Aq) : Prop where
  h0 : 0 ≤ q.a0 ∧ q.a0 < 256
  h1 : 0 ≤ q.a1 ∧ q.a1 < 256
  h2 : 0 ≤ q.a2 ∧ q.a2 < 256
  hd : RcOk q.d
theorem answer_c {H : AH} {b : Nat} {X : List Nf} {den : Int} {ft : Nat → Prop} (hE : ErrT H.w0) (h : StAt H b X den ft) (hX : OkX X) (q : Aq) (hq : q.Ok) :
    ACalls Tryd.prog 33 #[.pointer (some ⟨b, 0, none⟩), .int .i64 q.n, q.ask, q.dat] H (fun u H' => ∃ ft', u = .tuple #[.agg (enc (q.W X)).toArray, silV (q.E X)] ∧ StAt H' b (q.X X) (q.D X den) ft' ∧ Keep H H' ft ∧ ∀ x, ft' x → ft x ∨ Fresh H x) := by
  have bad : ∀ {e : Int} {u : Value} {T : AH}, q.pre = e → e ≠ 0 → u = silV e → H.le T → ∃ H', H'.le T ∧ ∃ ft', Value.tuple #[.agg (enc zr).toArray, u] = .tuple #[.agg (enc (q.W X)).toArray, silV (q.E X)] ∧ StAt H' b (q.X X) (q.D X den) ft' ∧ Keep H H' ft ∧ ∀ x, ft' x → ft x ∨ Fresh H x := fun {e u T} he h0 hu hl => by
    subst hu
    have h1 : ¬ q.pre = 0 := by rw [he]; exact h0
    exact ⟨H, hl, ft, by rw [Aq.W, Aq.E, if_neg h1, if_neg h1, he], by rw [Aq.X, Aq.D, if_neg h1, if_neg h1]; exact h, Keep.refl, fun x h => .inl h⟩
  obtain ⟨h0, h1, h2, hd⟩ := hq
  have e0 : IntKind.i64.wrap q.a0 = q.a0 := i64_eq (by omega) (by omega)
  have hck := fun H1 p (h : SlcIn H1 1 (some ⟨p, 0, none⟩) 4 ([q.a0, q.a1, q.a2].map enc1)) => checked_c [q.a0, q.a1, q.a2] (some ⟨p, 0, none⟩) 4 H1 h
  have hop := fun H1 => Open_c q.d q.d4 H1
  unfold Aq.ask Aq.dat
  refine ACalls.enter2 Tryd.func33 rfl Tryd.ntmps33 Tryd.results33 (by simp) ?_; simp (dsimp := false) (maxSteps := 4000000) only [enc_len, enc_scal, lput_enc, take_enc, go_sem, ↓reduceIte, Nat.reduceEqDiff, Nat.reduceLT, Nat.reduceLeDiff, Nat.reduceAdd, Nat.reduceMul, Nat.reduceSub, reduceCtorEq, Int.reduceToNat, Int.reduceLT, Int.reduceLE, Int.reduceEq, Int.reduceNe, Int.reduceBEq, Nat.reduceBEq, Int.reduceBNe, Nat.reduceBNe, Int.reduceAdd, Int.reduceSub, Int.reduceMul, Int.reduceNeg]
  refine AllB.mk fun b6 h_b6 => ?_; have hn_b6 := h_b6; (try simp only [fresh_add, fresh_set, ne_eq] at hn_b6); have hr_b6 := hn_b6; (try simp only [@eq_comm Nat b6] at hr_b6); simp (dsimp := false) (maxSteps := 4000000) only [enc_len, enc_scal, lput_enc, take_enc, hn_b6, hr_b6, go_sem, ↓reduceIte, Nat.reduceEqDiff, Nat.reduceLT, Nat.reduceLeDiff, Nat.reduceAdd, Nat.reduceMul, Nat.reduceSub, reduceCtorEq, Int.reduceToNat, Int.reduceLT, Int.reduceLE, Int.reduceEq, Int.reduceNe, Int.reduceBEq, Nat.reduceBEq, Int.reduceBNe, Nat.reduceBNe, Int.reduceAdd, Int.reduceSub, Int.reduceMul, Int.reduceNeg]
  refine AllB.mk fun b7 h_b7 => ?_; have hn_b7 := h_b7; (try simp only [fresh_add, fresh_set, ne_eq] at hn_b7); have hr_b7 := hn_b7; (try simp only [@eq_comm Nat b7] at hr_b7); simp (dsimp := false) (maxSteps := 4000000) only [enc_len, enc_scal, lput_enc, take_enc, hn_b6, hr_b6, hn_b7, hr_b7, go_sem, ↓reduceIte, Nat.reduceEqDiff, Nat.reduceLT, Nat.reduceLeDiff, Nat.reduceAdd, Nat.reduceMul, Nat.reduceSub, reduceCtorEq, Int.reduceToNat, Int.reduceLT, Int.reduceLE, Int.reduceEq, Int.reduceNe, Int.reduceBEq, Nat.reduceBEq, Int.reduceBNe, Nat.reduceBNe, Int.reduceAdd, Int.reduceSub, Int.reduceMul, Int.reduceNeg]
  refine AllB.mk fun b8 h_b8 => ?_; have hn_b8 := h_b8; (try simp only [fresh_add, fresh_set, ne_eq] at hn_b8); have hr_b8 := hn_b8; (try simp only [@eq_comm Nat b8] at hr_b8); simp (dsimp := false) (maxSteps := 4000000) only [enc_len, enc_scal, lput_enc, take_enc, hn_b6, hr_b6, hn_b7, hr_b7, hn_b8, hr_b8, go_sem, ↓reduceIte, Nat.reduceEqDiff, Nat.reduceLT, Nat.reduceLeDiff, Nat.reduceAdd, Nat.reduceMul, Nat.reduceSub, reduceCtorEq, Int.reduceToNat, Int.reduceLT, Int.reduceLE, Int.reduceEq, Int.reduceNe, Int.reduceBEq, Nat.reduceBEq, Int.reduceBNe, Nat.reduceBNe, Int.reduceAdd, Int.reduceSub, Int.reduceMul, Int.reduceNeg]
  refine AWp.gen [.pu, .pu, .pu, .pu, .ch, .pu, .rd, .pu, .pu, .pu, .pu, .rd, .pu, .pu, .pu, .pu] [0, 1, 3, 7, 15, 7, 39, 127, 255, 511, 1023, 2047, 4095, 1023, 16383, 32767] 5 (_) mixed (by kernel_rfl) (AH.le_refl _) ?_
  simp (dsimp := false) (maxSteps := 4000000) only [enc_len, enc_scal, lput_enc, take_enc, hn_b6, hr_b6, hn_b7, hr_b7, hn_b8, hr_b8, go_sem, ↓reduceIte, Nat.reduceEqDiff, Nat.reduceLT, Nat.reduceLeDiff, Nat.reduceAdd, Nat.reduceMul, Nat.reduceSub, reduceCtorEq, Int.reduceToNat, Int.reduceLT, Int.reduceLE, Int.reduceEq, Int.reduceNe, Int.reduceBEq, Nat.reduceBEq, Int.reduceBNe, Nat.reduceBNe, Int.reduceAdd, Int.reduceSub, Int.reduceMul, Int.reduceNeg]
  refine ACalls.mono (hck _ b6 (row1 (k := [q.a0, q.a1, q.a2, q.a3]) (cs := [.int .u8 q.a0, .int .u8 q.a1, .int .u8 q.a2, .int .u8 q.a3]) (e := 25) (m := 4) (by (show AH.find _ _ = _; simp only [find_add_self, find_add_ne, find_fresh, fresh_add, fresh_set, ne_eq, not_false_eq_true, true_and, and_true, and_self, enc_len, enc_scal, lput_enc, take_enc, hn_b6, hr_b6, hn_b7, hr_b7, hn_b8, hr_b8])) rfl rfl (by simp) 4 (by simp))) ?_; rintro _ _ ⟨rfl, rfl⟩
  by_cases c1 : chk [q.a0, q.a1, q.a2] = q.a3
  case' neg =>
    have cb : (chk [q.a0, q.a1, q.a2] != q.a3) = true := by simp [c1]
    simp (dsimp := false) (maxSteps := 4000000) only [cb, enc_len, enc_scal, lput_enc, take_enc, hn_b6, hr_b6, hn_b7, hr_b7, hn_b8, hr_b8, go_sem, ↓reduceIte, Nat.reduceEqDiff, Nat.reduceLT, Nat.reduceLeDiff, Nat.reduceAdd, Nat.reduceMul, Nat.reduceSub, reduceCtorEq, Int.reduceToNat, Int.reduceLT, Int.reduceLE, Int.reduceEq, Int.reduceNe, Int.reduceBEq, Nat.reduceBEq, Int.reduceBNe, Nat.reduceBNe, Int.reduceAdd, Int.reduceSub, Int.reduceMul, Int.reduceNeg]
    exact bad (e := 14) (by simp [Aq.pre, c1]) (by decide) (by rw [silV, if_neg (by decide)]) (AH.le_add (AH.le_add (AH.le_add (AH.le_refl _) ((by simp only [enc_len, enc_scal, lput_enc, take_enc, fresh_add, fresh_set, ne_eq, hn_b6, not_false_eq_true, and_self] : Fresh _ b6).2)) ((by simp only [enc_len, enc_scal, lput_enc, take_enc, fresh_add, fresh_set, ne_eq, hn_b7, not_false_eq_true, and_self] : Fresh _ b7).2)) ((by simp only [enc_len, enc_scal, lput_enc, take_enc, fresh_add, fresh_set, ne_eq, hn_b8, not_false_eq_true, and_self] : Fresh _ b8).2))
  have cb : (chk [q.a0, q.a1, q.a2] != q.a3) = false := by simp [c1]
  by_cases c2 : q.a0 = q.n
  case' neg =>
    have cb2 : (q.a0 != q.n) = true := by simp [c2]
    simp (dsimp := false) (maxSteps := 4000000) only [cb, e0, cb2, enc_len, enc_scal, lput_enc, take_enc, hn_b6, hr_b6, hn_b7, hr_b7, hn_b8, hr_b8, go_sem, ↓reduceIte, Nat.reduceEqDiff, Nat.reduceLT, Nat.reduceLeDiff, Nat.reduceAdd, Nat.reduceMul, Nat.reduceSub, reduceCtorEq, Int.reduceToNat, Int.reduceLT, Int.reduceLE, Int.reduceEq, Int.reduceNe, Int.reduceBEq, Nat.reduceBEq, Int.reduceBNe, Nat.reduceBNe, Int.reduceAdd, Int.reduceSub, Int.reduceMul, Int.reduceNeg]
    exact bad (e := 14) (by simp [Aq.pre, c2]) (by decide) (by rw [silV, if_neg (by decide)]) (AH.le_add (AH.le_add (AH.le_add (AH.le_refl _) ((by simp only [enc_len, enc_scal, lput_enc, take_enc, fresh_add, fresh_set, ne_eq, hn_b6, not_false_eq_true, and_self] : Fresh _ b6).2)) ((by simp only [enc_len, enc_scal, lput_enc, take_enc, fresh_add, fresh_set, ne_eq, hn_b7, not_false_eq_true, and_self] : Fresh _ b7).2)) ((by simp only [enc_len, enc_scal, lput_enc, take_enc, fresh_add, fresh_set, ne_eq, hn_b8, not_false_eq_true, and_self] : Fresh _ b8).2))
  have cb2 : (q.a0 != q.n) = false := by simp [c2]
  simp (dsimp := false) (maxSteps := 4000000) only [cb, e0, cb2, enc_len, enc_scal, lput_enc, take_enc, hn_b6, hr_b6, hn_b7, hr_b7, hn_b8, hr_b8, go_sem, ↓reduceIte, Nat.reduceEqDiff, Nat.reduceLT, Nat.reduceLeDiff, Nat.reduceAdd, Nat.reduceMul, Nat.reduceSub, reduceCtorEq, Int.reduceToNat, Int.reduceLT, Int.reduceLE, Int.reduceEq, Int.reduceNe, Int.reduceBEq, Nat.reduceBEq, Int.reduceBNe, Nat.reduceBNe, Int.reduceAdd, Int.reduceSub, Int.reduceMul, Int.reduceNeg]
  refine (Go.Proofs.YtamlipffhimfmaaDoor.Take_c q.a1 q.a2 h1 h2 _).mono ?_; rintro _ _ ⟨rfl, rfl⟩
  unfold atakev
  by_cases t : q.a1 < 192
  case' neg =>
    rw [if_neg t]
    
    simp (dsimp := false) (maxSteps := 4000000) only [enc_len, enc_scal, lput_enc, take_enc, hn_b6, hr_b6, hn_b7, hr_b7, hn_b8, hr_b8, go_sem, ↓reduceIte, Nat.reduceEqDiff, Nat.reduceLT, Nat.reduceLeDiff, Nat.reduceAdd, Nat.reduceMul, Nat.reduceSub, reduceCtorEq, Int.reduceToNat, Int.reduceLT, Int.reduceLE, Int.reduceEq, Int.reduceNe, Int.reduceBEq, Nat.reduceBEq, Int.reduceBNe, Nat.reduceBNe, Int.reduceAdd, Int.reduceSub, Int.reduceMul, Int.reduceNeg]
    refine AllB.mk fun b10 h_b10 => ?_; have hn_b10 := h_b10; (try simp only [fresh_add, fresh_set, ne_eq] at hn_b10); have hr_b10 := hn_b10; (try simp only [@eq_comm Nat b10] at hr_b10); simp (dsimp := false) (maxSteps := 4000000) only [enc_len, enc_scal, lput_enc, take_enc, hn_b6, hr_b6, hn_b7, hr_b7, hn_b8, hr_b8, hn_b10, hr_b10, go_sem, ↓reduceIte, Nat.reduceEqDiff, Nat.reduceLT, Nat.reduceLeDiff, Nat.reduceAdd, Nat.reduceMul, Nat.reduceSub, reduceCtorEq, Int.reduceToNat, Int.reduceLT, Int.reduceLE, Int.reduceEq, Int.reduceNe, Int.reduceBEq, Nat.reduceBEq, Int.reduceBNe, Nat.reduceBNe, Int.reduceAdd, Int.reduceSub, Int.reduceMul, Int.reduceNeg]
    refine (wrap_c 2 _).mono ?_; rintro _ _ ⟨rfl, rfl⟩
    simp (dsimp := false) (maxSteps := 4000000) only [enc_len, enc_scal, lput_enc, take_enc, hn_b6, hr_b6, hn_b7, hr_b7, hn_b8, hr_b8, hn_b10, hr_b10, go_sem, ↓reduceIte, Nat.reduceEqDiff, Nat.reduceLT, Nat.reduceLeDiff, Nat.reduceAdd, Nat.reduceMul, Nat.reduceSub, reduceCtorEq, Int.reduceToNat, Int.reduceLT, Int.reduceLE, Int.reduceEq, Int.reduceNe, Int.reduceBEq, Nat.reduceBEq, Int.reduceBNe, Nat.reduceBNe, Int.reduceAdd, Int.reduceSub, Int.reduceMul, Int.reduceNeg]
    exact bad (e := 2) (by unfold Aq.pre; rw [if_neg (fun h => h.elim (fun h => h c1) fun h => h c2), if_pos t]) (by decide) rfl (AH.le_add (AH.le_add (AH.le_add (AH.le_add (AH.le_refl _) ((by simp only [enc_len, enc_scal, lput_enc, take_enc, fresh_add, fresh_set, ne_eq, hn_b6, not_false_eq_true, and_self] : Fresh _ b6).2)) ((by simp only [enc_len, enc_scal, lput_enc, take_enc, fresh_add, fresh_set, ne_eq, hn_b7, not_false_eq_true, and_self] : Fresh _ b7).2)) ((by simp only [enc_len, enc_scal, lput_enc, take_enc, fresh_add, fresh_set, ne_eq, hn_b8, not_false_eq_true, and_self] : Fresh _ b8).2)) ((by simp only [enc_len, enc_scal, lput_enc, take_enc, fresh_add, fresh_set, ne_eq, hn_b10, not_false_eq_true, and_self] : Fresh _ b10).2))
    
  rw [if_pos t]
  simp (dsimp := false) (maxSteps := 4000000) only [enc_len, enc_scal, lput_enc, take_enc, hn_b6, hr_b6, hn_b7, hr_b7, hn_b8, hr_b8, go_sem, ↓reduceIte, Nat.reduceEqDiff, Nat.reduceLT, Nat.reduceLeDiff, Nat.reduceAdd, Nat.reduceMul, Nat.reduceSub, reduceCtorEq, Int.reduceToNat, Int.reduceLT, Int.reduceLE, Int.reduceEq, Int.reduceNe, Int.reduceBEq, Nat.reduceBEq, Int.reduceBNe, Nat.reduceBNe, Int.reduceAdd, Int.reduceSub, Int.reduceMul, Int.reduceNeg]
  refine AllB.mk fun b10 h_b10 => ?_; have hn_b10 := h_b10; (try simp only [fresh_add, fresh_set, ne_eq] at hn_b10); have hr_b10 := hn_b10; (try simp only [@eq_comm Nat b10] at hr_b10); simp (dsimp := false) (maxSteps := 4000000) only [enc_len, enc_scal, lput_enc, take_enc, hn_b6, hr_b6, hn_b7, hr_b7, hn_b8, hr_b8, hn_b10, hr_b10, go_sem, ↓reduceIte, Nat.reduceEqDiff, Nat.reduceLT, Nat.reduceLeDiff, Nat.reduceAdd, Nat.reduceMul, Nat.reduceSub, reduceCtorEq, Int.reduceToNat, Int.reduceLT, Int.reduceLE, Int.reduceEq, Int.reduceNe, Int.reduceBEq, Nat.reduceBEq, Int.reduceBNe, Nat.reduceBNe, Int.reduceAdd, Int.reduceSub, Int.reduceMul, Int.reduceNeg]
  refine AllB.mk fun b12 h_b12 => ?_; have hn_b12 := h_b12; (try simp only [fresh_add, fresh_set, ne_eq] at hn_b12); have hr_b12 := hn_b12; (try simp only [@eq_comm Nat b12] at hr_b12); simp (dsimp := false) (maxSteps := 4000000) only [enc_len, enc_scal, lput_enc, take_enc, hn_b6, hr_b6, hn_b7, hr_b7, hn_b8, hr_b8, hn_b10, hr_b10, hn_b12, hr_b12, go_sem, ↓reduceIte, Nat.reduceEqDiff, Nat.reduceLT, Nat.reduceLeDiff, Nat.reduceAdd, Nat.reduceMul, Nat.reduceSub, reduceCtorEq, Int.reduceToNat, Int.reduceLT, Int.reduceLE, Int.reduceEq, Int.reduceNe, Int.reduceBEq, Nat.reduceBEq, Int.reduceBNe, Nat.reduceBNe, Int.reduceAdd, Int.reduceSub, Int.reduceMul, Int.reduceNeg]
  by_cases o : q.a1 / 64 = 1
  case' pos =>
    simp (dsimp := false) (maxSteps := 4000000) only [o, enc_len, enc_scal, lput_enc, take_enc, hn_b6, hr_b6, hn_b7, hr_b7, hn_b8, hr_b8, hn_b10, hr_b10, hn_b12, hr_b12, go_sem, ↓reduceIte, Nat.reduceEqDiff, Nat.reduceLT, Nat.reduceLeDiff, Nat.reduceAdd, Nat.reduceMul, Nat.reduceSub, reduceCtorEq, Int.reduceToNat, Int.reduceLT, Int.reduceLE, Int.reduceEq, Int.reduceNe, Int.reduceBEq, Nat.reduceBEq, Int.reduceBNe, Nat.reduceBNe, Int.reduceAdd, Int.reduceSub, Int.reduceMul, Int.reduceNeg]
    refine (hop _).mono ?_; rintro _ _ ⟨rfl, rfl⟩
    unfold openV
    by_cases k : chk (rl q.d) = q.d4
    case' neg =>
      rw [if_neg k]
      
      simp (dsimp := false) (maxSteps := 4000000) only [enc_len, enc_scal, lput_enc, take_enc, hn_b6, hr_b6, hn_b7, hr_b7, hn_b8, hr_b8, hn_b10, hr_b10, hn_b12, hr_b12, go_sem, ↓reduceIte, Nat.reduceEqDiff, Nat.reduceLT, Nat.reduceLeDiff, Nat.reduceAdd, Nat.reduceMul, Nat.reduceSub, reduceCtorEq, Int.reduceToNat, Int.reduceLT, Int.reduceLE, Int.reduceEq, Int.reduceNe, Int.reduceBEq, Nat.reduceBEq, Int.reduceBNe, Nat.reduceBNe, Int.reduceAdd, Int.reduceSub, Int.reduceMul, Int.reduceNeg]
      refine (wrap_c 14 _).mono ?_; rintro _ _ ⟨rfl, rfl⟩
      simp (dsimp := false) (maxSteps := 4000000) only [enc_len, enc_scal, lput_enc, take_enc, hn_b6, hr_b6, hn_b7, hr_b7, hn_b8, hr_b8, hn_b10, hr_b10, hn_b12, hr_b12, go_sem, ↓reduceIte, Nat.reduceEqDiff, Nat.reduceLT, Nat.reduceLeDiff, Nat.reduceAdd, Nat.reduceMul, Nat.reduceSub, reduceCtorEq, Int.reduceToNat, Int.reduceLT, Int.reduceLE, Int.reduceEq, Int.reduceNe, Int.reduceBEq, Nat.reduceBEq, Int.reduceBNe, Nat.reduceBNe, Int.reduceAdd, Int.reduceSub, Int.reduceMul, Int.reduceNeg]
      exact bad (e := 14) (by unfold Aq.pre Aq.op; rw [if_neg (fun h => h.elim (fun h => h c1) fun h => h c2), if_neg (fun h => h t), if_pos ⟨o, k⟩]) (by decide) rfl (AH.le_add (AH.le_add (AH.le_add (AH.le_add (AH.le_add (AH.le_refl _) ((by simp only [enc_len, enc_scal, lput_enc, take_enc, fresh_add, fresh_set, ne_eq, hn_b6, not_false_eq_true, and_self] : Fresh _ b6).2)) ((by simp only [enc_len, enc_scal, lput_enc, take_enc, fresh_add, fresh_set, ne_eq, hn_b7, not_false_eq_true, and_self] : Fresh _ b7).2)) ((by simp only [enc_len, enc_scal, lput_enc, take_enc, fresh_add, fresh_set, ne_eq, hn_b8, not_false_eq_true, and_self] : Fresh _ b8).2)) ((by simp only [enc_len, enc_scal, lput_enc, take_enc, fresh_add, fresh_set, ne_eq, hn_b10, not_false_eq_true, and_self] : Fresh _ b10).2)) ((by simp only [enc_len, enc_scal, lput_enc, take_enc, fresh_add, fresh_set, ne_eq, hn_b12, not_false_eq_true, and_self] : Fresh _ b12).2))
      
    rw [if_pos k]
    simp (dsimp := false) (maxSteps := 4000000) only [enc_len, enc_scal, lput_enc, take_enc, hn_b6, hr_b6, hn_b7, hr_b7, hn_b8, hr_b8, hn_b10, hr_b10, hn_b12, hr_b12, go_sem, ↓reduceIte, Nat.reduceEqDiff, Nat.reduceLT, Nat.reduceLeDiff, Nat.reduceAdd, Nat.reduceMul, Nat.reduceSub, reduceCtorEq, Int.reduceToNat, Int.reduceLT, Int.reduceLE, Int.reduceEq, Int.reduceNe, Int.reduceBEq, Nat.reduceBEq, Int.reduceBNe, Nat.reduceBNe, Int.reduceAdd, Int.reduceSub, Int.reduceMul, Int.reduceNeg]
    have hv : q.v = q.d := by rw [Aq.v, Aq.op]; exact if_pos o
    have hp : q.pre = 0 := by unfold Aq.pre Aq.op; rw [if_neg (fun h => h.elim (fun h => h c1) fun h => h c2), if_neg (fun h => h t), if_neg (fun h => h.2 k)]
    have hf8 : Fresh H b8 := hn_b8.2.2
    have hdo := fun H1 (hE1 : ErrT H1.w0) (h1 : StAt H1 b X den ft) => Do_c hE1 h1 hX q.op q.fl q.a2 q.v
    rw [hv] at hdo
    refine (hdo _ (by simp only [w0_add]; exact hE) (h.keep (ex := fun _ => False) (((((Keep.refl.nw h_b6).nw h_b7).nw h_b8).nw (by simp only [fresh_add, ne_eq, hn_b10, not_false_eq_true, and_self])).nw (by simp only [fresh_add, ne_eq, hn_b12, not_false_eq_true, and_self])) fun _ _ h => h)).mono ?_
    rintro _ A ⟨ft', rfl, hst, hK, hf⟩
    rw [← hv] at hst
    have hnf8 : ¬ ft b8 := h.fresh hf8
    have hHA : Keep H A ft := (((((((Keep.refl.nw h_b6).nw h_b7).nw h_b8).nw (by simp only [fresh_add, ne_eq, hn_b10, not_false_eq_true, and_self])).nw (by simp only [fresh_add, ne_eq, hn_b12, not_false_eq_true, and_self])) : Keep H _ fun _ => False).mono fun _ h => h.elim).trans hK
    have hff : ∀ x, ft' x → ft x ∨ Fresh H x := fun x hx => (hf x hx).imp id fun h => ((((((Keep.refl.nw h_b6).nw h_b7).nw h_b8).nw (by simp only [fresh_add, ne_eq, hn_b10, not_false_eq_true, and_self])).nw (by simp only [fresh_add, ne_eq, hn_b12, not_false_eq_true, and_self])) : Keep H _ fun _ => False).fr h
    have f8' : ¬ ft' b8 := fun hx => (hf _ hx).elim hnf8 fun h' => by
      have := h'.2
      rw [show AH.find _ b8 = some (.cells [.int .u8 0, .int .u8 0, .int .u8 0, .int .u8 0] 26 4) from (by (show AH.find _ _ = _; simp only [find_add_self, find_add_ne, find_fresh, fresh_add, fresh_set, ne_eq, not_false_eq_true, true_and, and_true, and_self, enc_len, enc_scal, lput_enc, take_enc, hn_b6, hr_b6, hn_b7, hr_b7, hn_b8, hr_b8, hn_b10, hr_b10, hn_b12, hr_b12]))] at this; cases this
    have f8 : A.find b8 = some (.cells [.int .u8 0, .int .u8 0, .int .u8 0, .int .u8 0] 26 4) := hK.find hnf8 (by (show AH.find _ _ = _; simp only [find_add_self, find_add_ne, find_fresh, fresh_add, fresh_set, ne_eq, not_false_eq_true, true_and, and_true, and_self, enc_len, enc_scal, lput_enc, take_enc, hn_b6, hr_b6, hn_b7, hr_b7, hn_b8, hr_b8, hn_b10, hr_b10, hn_b12, hr_b12]))
    rw [← hv, doV]
    clear hK hf hdo
  case' neg =>
    have ob : (q.a1 / 64 == 1) = false := by simp [o]
    simp (dsimp := false) (maxSteps := 4000000) only [o, enc_len, enc_scal, lput_enc, take_enc, hn_b6, hr_b6, hn_b7, hr_b7, hn_b8, hr_b8, hn_b10, hr_b10, hn_b12, hr_b12, go_sem, ↓reduceIte, Nat.reduceEqDiff, Nat.reduceLT, Nat.reduceLeDiff, Nat.reduceAdd, Nat.reduceMul, Nat.reduceSub, reduceCtorEq, Int.reduceToNat, Int.reduceLT, Int.reduceLE, Int.reduceEq, Int.reduceNe, Int.reduceBEq, Nat.reduceBEq, Int.reduceBNe, Nat.reduceBNe, Int.reduceAdd, Int.reduceSub, Int.reduceMul, Int.reduceNeg]
    have hv : q.v = zr := by rw [Aq.v, Aq.op]; exact if_neg o
    have hp : q.pre = 0 := by unfold Aq.pre Aq.op; rw [if_neg (fun h => h.elim (fun h => h c1) fun h => h c2), if_neg (fun h => h t), if_neg (fun h => o h.1)]
    have hf8 : Fresh H b8 := hn_b8.2.2
    have hdo := fun H1 (hE1 : ErrT H1.w0) (h1 : StAt H1 b X den ft) => Do_c hE1 h1 hX q.op q.fl q.a2 q.v
    rw [hv] at hdo
    refine (hdo _ (by simp only [w0_add]; exact hE) (h.keep (ex := fun _ => False) (((((Keep.refl.nw h_b6).nw h_b7).nw h_b8).nw (by simp only [fresh_add, ne_eq, hn_b10, not_false_eq_true, and_self])).nw (by simp only [fresh_add, ne_eq, hn_b12, not_false_eq_true, and_self])) fun _ _ h => h)).mono ?_
    rintro _ A ⟨ft', rfl, hst, hK, hf⟩
    rw [← hv] at hst
    have hnf8 : ¬ ft b8 := h.fresh hf8
    have hHA : Keep H A ft := (((((((Keep.refl.nw h_b6).nw h_b7).nw h_b8).nw (by simp only [fresh_add, ne_eq, hn_b10, not_false_eq_true, and_self])).nw (by simp only [fresh_add, ne_eq, hn_b12, not_false_eq_true, and_self])) : Keep H _ fun _ => False).mono fun _ h => h.elim).trans hK
    have hff : ∀ x, ft' x → ft x ∨ Fresh H x := fun x hx => (hf x hx).imp id fun h => ((((((Keep.refl.nw h_b6).nw h_b7).nw h_b8).nw (by simp only [fresh_add, ne_eq, hn_b10, not_false_eq_true, and_self])).nw (by simp only [fresh_add, ne_eq, hn_b12, not_false_eq_true, and_self])) : Keep H _ fun _ => False).fr h
    have f8' : ¬ ft' b8 := fun hx => (hf _ hx).elim hnf8 fun h' => by
      have := h'.2
      rw [show AH.find _ b8 = some (.cells [.int .u8 0, .int .u8 0, .int .u8 0, .int .u8 0] 26 4) from (by (show AH.find _ _ = _; simp only [find_add_self, find_add_ne, find_fresh, fresh_add, fresh_set, ne_eq, not_false_eq_true, true_and, and_true, and_self, enc_len, enc_scal, lput_enc, take_enc, hn_b6, hr_b6, hn_b7, hr_b7, hn_b8, hr_b8, hn_b10, hr_b10, hn_b12, hr_b12]))] at this; cases this
    have f8 : A.find b8 = some (.cells [.int .u8 0, .int .u8 0, .int .u8 0, .int .u8 0] 26 4) := hK.find hnf8 (by (show AH.find _ _ = _; simp only [find_add_self, find_add_ne, find_fresh, fresh_add, fresh_set, ne_eq, not_false_eq_true, true_and, and_true, and_self, enc_len, enc_scal, lput_enc, take_enc, hn_b6, hr_b6, hn_b7, hr_b7, hn_b8, hr_b8, hn_b10, hr_b10, hn_b12, hr_b12]))
    rw [← hv, doV]
    clear hK hf hdo
  all_goals
    clear hn_b6 hr_b6 h_b6 hn_b7 hr_b7 h_b7 hn_b8 hr_b8 h_b8 hn_b10 hr_b10 h_b10 hn_b12 hr_b12 h_b12
    
    obtain ⟨w, hw⟩ : ∃ w, doW X q.op q.fl q.a2 q.v = w := ⟨_, rfl⟩
    obtain ⟨e, he⟩ : ∃ e, doE X q.op q.fl q.a2 = e := ⟨_, rfl⟩
    rw [hw, he]
    simp (dsimp := false) (maxSteps := 4000000) only [enc_len, enc_scal, lput_enc, take_enc, go_sem, ↓reduceIte, Nat.reduceEqDiff, Nat.reduceLT, Nat.reduceLeDiff, Nat.reduceAdd, Nat.reduceMul, Nat.reduceSub, reduceCtorEq, Int.reduceToNat, Int.reduceLT, Int.reduceLE, Int.reduceEq, Int.reduceNe, Int.reduceBEq, Nat.reduceBEq, Int.reduceBNe, Nat.reduceBNe, Int.reduceAdd, Int.reduceSub, Int.reduceMul, Int.reduceNeg]
    refine AllB.mk fun b13 h_b13 => ?_
    simp (dsimp := false) (maxSteps := 4000000) only [enc_len, enc_scal, lput_enc, take_enc, go_sem, ↓reduceIte, Nat.reduceEqDiff, Nat.reduceLT, Nat.reduceLeDiff, Nat.reduceAdd, Nat.reduceMul, Nat.reduceSub, reduceCtorEq, Int.reduceToNat, Int.reduceLT, Int.reduceLE, Int.reduceEq, Int.reduceNe, Int.reduceBEq, Nat.reduceBEq, Int.reduceBNe, Nat.reduceBNe, Int.reduceAdd, Int.reduceSub, Int.reduceMul, Int.reduceNeg]
    obtain ⟨C, hC⟩ : ∃ C, A.add b13 (.cells (enc w) 26 4) = C := ⟨_, rfl⟩
    have kC : Keep A C fun _ => False := hC ▸ Keep.add h_b13
    have w13 : C.row b13 0 4 = some (enc w) := by
      have f13 : C.find b13 = some (.cells (enc w) 26 4) := by rw [← hC, find_add_self]
      exact row_find f13 (by simp [enc])
    have f8C := kC.find (fun h => h) f8
    obtain ⟨D, hD⟩ : ∃ D, C.set b8 (.cells (enc w) 26 4) = D := ⟨_, rfl⟩
    have kD : Keep C D (· = b8) := hD ▸ Keep.set
    have hwr : C.wrs b8 0 (enc w) = some D := by rw [← hD]; simp [AH.wrs, f8C, enc, lput, scal]
    have wD : D.row b8 0 4 = some (enc w) := by
      have fD : D.find b8 = some (.cells (enc w) 26 4) := by rw [← hD, find_set, if_pos rfl]
      exact row_find fD (by simp [enc])
    rw [hC]
    refine AWp.gen [.rd, .pu, .ch, .ch, .pu] [0, 0, 2, 7, 15] 3 (_) mixed (by kernel_rfl) (AH.le_refl _) ?_
    simp (dsimp := false) (maxSteps := 4000000) only [w13, enc_len, enc_scal, lput_enc, take_enc, go_sem, ↓reduceIte, Nat.reduceEqDiff, Nat.reduceLT, Nat.reduceLeDiff, Nat.reduceAdd, Nat.reduceMul, Nat.reduceSub, reduceCtorEq, Int.reduceToNat, Int.reduceLT, Int.reduceLE, Int.reduceEq, Int.reduceNe, Int.reduceBEq, Nat.reduceBEq, Int.reduceBNe, Nat.reduceBNe, Int.reduceAdd, Int.reduceSub, Int.reduceMul, Int.reduceNeg]
    refine (wrap_c e _).mono ?_; rintro _ _ ⟨rfl, rfl⟩
    simp (dsimp := false) (maxSteps := 4000000) only [w13, hwr, wD, enc_len, enc_scal, lput_enc, take_enc, go_sem, ↓reduceIte, Nat.reduceEqDiff, Nat.reduceLT, Nat.reduceLeDiff, Nat.reduceAdd, Nat.reduceMul, Nat.reduceSub, reduceCtorEq, Int.reduceToNat, Int.reduceLT, Int.reduceLE, Int.reduceEq, Int.reduceNe, Int.reduceBEq, Nat.reduceBEq, Int.reduceBNe, Nat.reduceBNe, Int.reduceAdd, Int.reduceSub, Int.reduceMul, Int.reduceNeg]
    refine ⟨D, AH.le_refl _, ft', by rw [Aq.W, Aq.E, if_pos hp, if_pos hp, hw, he], by rw [Aq.X, Aq.D, if_pos hp, if_pos hp]; exact (hst.keep kC fun _ _ h => h).keep kD fun x hx e => f8' (e ▸ hx), (hHA.trans (kC.mono fun _ h => h.elim)).then kD fun x e => .inr (e ▸ hf8), hff⟩
end Go.Proofs.YtamlipffhimfmaaDoor.Srv

/- errors.As at a target of type *silent. -/
namespace Go.Proofs.YtamlipffhimfmaaDoor.Err.Sil
set_option linter.unusedSimpArgs false
set_option linter.unusedVariables false
open Go Go.Proofs Go.RowKit Go.Extern.Stop Go.Stop Go.Extern Go.Proofs.YtamlipffhimfmaaDoor.Err

theorem valueOfP (t : Addr) (w : World) : (ReflectliteValue.unpack (.iface 89 (.pointer (some t)))).run Tryd.prog w
    = .ok (.agg #[.pointer (some ⟨1, 89, none⟩), .pointer (some ⟨w.heap.size, 0, none⟩), .int .u64 150]) (w.alloc (.cells #[.pointer (some t)] 89)) := by kernel_rfl
theorem typeP (a : Addr) (w : World) : (ReflectliteValue.methodAny (ReflectliteValue.valueError "reflectlite.Value.Type" 0) (fun t _ _ _ => ReflectliteType.toType t) #[.agg #[.pointer (some ⟨1, 89, none⟩), .pointer (some a), .int .u64 150]]).run Tryd.prog w
    = .ok (.iface 130 (.agg #[.pointer (some ⟨1, 89, none⟩)])) w := by kernel_rfl
theorem kindP (w : World) : ((ReflectliteType.abiMethod fun t => (fun a : Nat => Value.int IntKind.u8 (a : Int)) <$> Rtype.kind t) #[.pointer (some ⟨1, 89, none⟩)]).run Tryd.prog w = .ok (.int .u8 22) w := by kernel_rfl
theorem kindE (w : World) : ((ReflectliteType.abiMethod fun t => (fun a : Nat => Value.int IntKind.u8 (a : Int)) <$> Rtype.kind t) #[.pointer (some ⟨1, 87, none⟩)]).run Tryd.prog w = .ok (.int .u8 25) w := by kernel_rfl
theorem partsP (a : Addr) (w : World) : (ReflectliteValue.parts (.agg #[.pointer (some ⟨1, 89, none⟩), .pointer (some a), .int .u64 150])).run Tryd.prog w = .ok (some (89, a, 150)) w := by kernel_rfl
theorem isNilP (a p : Addr) (W : World) (ha : W.cell? a = some (.pointer (some p))) :
    (ReflectliteValue.method (ReflectliteValue.valueError "reflectlite.Value.IsNil" 0) ReflectliteValue.isNil #[.agg #[.pointer (some ⟨1, 89, none⟩), .pointer (some a), .int .u64 150]]).run Tryd.prog W = .ok (.bool false) W := by
  rw [rlm]
  simp only [Sem.run_bind, partsP, Result.andThen]
  simp [ReflectliteValue.isNil, loadVar, isAgg, underlying, Tryd.underlying89, ha, Result.andThen]
theorem elemT (w : World) : (ReflectliteType.method ReflectliteType.elem #[.agg #[.pointer (some ⟨1, 89, none⟩)]]).run Tryd.prog w = .ok (.iface 130 (.agg #[.pointer (some ⟨1, 87, none⟩)])) w := by kernel_rfl
theorem implE (w : World) : (ReflectliteType.relation "Implements" ReflectliteType.implements_ #[.agg #[.pointer (some ⟨1, 87, none⟩)], .iface 130 (.agg #[.pointer (some ⟨1, 83, none⟩)])]).run Tryd.prog w = .ok (.bool true) w := by kernel_rfl
theorem typeOfE (v : Value) (w : World) : (ReflectliteType.typeOf #[.iface 87 v]).run Tryd.prog w = .ok (.iface 130 (.agg #[.pointer (some ⟨1, 87, none⟩)])) w := by kernel_rfl
theorem asgnE (w : World) : (ReflectliteType.relation "AssignableTo" ReflectliteType.assignableTo #[.agg #[.pointer (some ⟨1, 87, none⟩)], .iface 130 (.agg #[.pointer (some ⟨1, 87, none⟩)])]).run Tryd.prog w = .ok (.bool true) w := by kernel_rfl
theorem valueOfE (e : Int) (w : World) : (ReflectliteValue.unpack (.iface 87 (.agg #[.iface 32 (.int .i64 e)]))).run Tryd.prog w
    = .ok (.agg #[.pointer (some ⟨1, 87, none⟩), .pointer (some ⟨w.heap.size, 0, none⟩), .int .u64 153]) (w.alloc (.cells #[.iface 32 (.int .i64 e)] 87)) := by kernel_rfl
theorem elemOfP (w : World) : (Rtype.elem? 89).run Tryd.prog w = .ok (some 87) w := by kernel_rfl
theorem mkE (p : Addr) (w : World) : (ReflectliteValue.mk 87 p ReflectliteValue.flagAddr).run Tryd.prog w = .ok (.agg #[.pointer (some ⟨1, 87, none⟩), .pointer (some p), .int .u64 409]) w := by kernel_rfl
theorem elemVP (a p : Addr) (W : World) (ha : W.cell? a = some (.pointer (some p))) :
    (ReflectliteValue.method (ReflectliteValue.valueError "reflectlite.Value.Elem" 0) ReflectliteValue.elem #[.agg #[.pointer (some ⟨1, 89, none⟩), .pointer (some a), .int .u64 150]]).run Tryd.prog W
      = .ok (.agg #[.pointer (some ⟨1, 87, none⟩), .pointer (some p), .int .u64 409]) W := by
  rw [rlm]
  simp only [Sem.run_bind, partsP, Result.andThen]
  simp [ReflectliteValue.elem, loadVar, isAgg, underlying, Tryd.underlying89, ha, Result.andThen, elemOfP, mkE]
theorem partsEa (a : Addr) (w : World) : (ReflectliteValue.parts (.agg #[.pointer (some ⟨1, 87, none⟩), .pointer (some a), .int .u64 409])).run Tryd.prog w = .ok (some (87, a, 409)) w := by kernel_rfl
theorem partsE (a : Addr) (w : World) : (ReflectliteValue.parts (.agg #[.pointer (some ⟨1, 87, none⟩), .pointer (some a), .int .u64 153])).run Tryd.prog w = .ok (some (87, a, 153)) w := by kernel_rfl
theorem directE (w : World) : (Rtype.directlyAssignable 87 87).run Tryd.prog w = .ok true w := by kernel_rfl
theorem sizeE (w : World) : (sizeOf 87).run Tryd.prog w = .ok 1 w := by kernel_rfl
theorem loadS (b : Addr) (e : Int) (W : World) (hb : W.cell? b = some (.iface 32 (.int .i64 e))) : (loadVar 87 b).run Tryd.prog W = .ok (.agg #[.iface 32 (.int .i64 e)]) W := by
  simp [loadVar, isAgg, underlying, Tryd.underlying87, loadCells, loadCellsFrom, hb, Result.andThen, Addr.add]
theorem storeS (ta : Addr) (e : Int) (old : Value) (W : World) (ht : W.cell? ta = some old) (hf : W.frozen? ta = false) : (storeVar 87 ta (.agg #[.iface 32 (.int .i64 e)])).run Tryd.prog W = .ok () (W.setCell ta (.iface 32 (.int .i64 e))) := by
  have hz : (Value.agg #[.iface 32 (.int .i64 e)]).cells = #[.iface 32 (.int .i64 e)] := rfl
  unfold storeVar
  rw [hz]
  simp only [Sem.run_bind, sizeE, Result.andThen]
  simp [storeCells, Addr.add, Result.andThen]
  rw [run_store Tryd.prog W ta _ _ (by rfl)]
  simp [ht, hf]
theorem setE (ta b : Addr) (e : Int) (old : Value) (W : World) (hb : W.cell? b = some (.iface 32 (.int .i64 e))) (ht : W.cell? ta = some old) (hf : W.frozen? ta = false) :
    (ReflectliteValue.set #[.agg #[.pointer (some ⟨1, 87, none⟩), .pointer (some ta), .int .u64 409], .agg #[.pointer (some ⟨1, 87, none⟩), .pointer (some b), .int .u64 153]]).run Tryd.prog W
      = .ok (.tuple #[]) (W.setCell ta (.iface 32 (.int .i64 e))) := by
  rw [rls]
  simp only [Sem.run_bind, partsEa, partsE, Result.andThen]
  simp [ReflectliteValue.flagAddr, loadS b e W hb, directE, storeS ta e old W ht hf, Result.andThen]

set_option maxHeartbeats 4000000 in
/-- errors.As(err, &n), err of type silent. -/
theorem as_silent (e : Int) (t : Addr) (old : Value) (w : World) (hg : ErrT w) (ht : w.cell? t = some old) (hf : w.frozen? t = false) :
    Calls Tryd.prog 34 #[.iface 87 (.agg #[.iface 32 (.int .i64 e)]), .iface 89 (.pointer (some t))] w fun ev w' => ev = .returned (.bool true) ∧ ∃ w1, Grown w w1 ∧ w' = w1.setCell t (.iface 32 (.int .i64 e)) := by
  have h61 := @run_callFunc_extern Tryd.prog 45 _ (fun args => ReflectliteValue.unpack (args.getD 0 (.tuple #[]))) Tryd.func45 (by kernel_rfl) (by kernel_rfl) (by kernel_rfl) (by kernel_rfl)
  have h62 := @run_callFunc_extern Tryd.prog 46 _ (ReflectliteValue.methodAny (ReflectliteValue.valueError "reflectlite.Value.Type" 0) (fun t _ _ _ => ReflectliteType.toType t)) Tryd.func46 (by kernel_rfl) (by kernel_rfl) (by kernel_rfl) (by kernel_rfl)
  have h63 := @run_callFunc_extern Tryd.prog 47 _ (ReflectliteValue.method (ReflectliteValue.valueError "reflectlite.Value.IsNil" 0) ReflectliteValue.isNil) Tryd.func47 (by kernel_rfl) (by kernel_rfl) (by kernel_rfl) (by kernel_rfl)
  have h107 := @run_callFunc_extern Tryd.prog 94 _ (ReflectliteType.abiMethod fun t => do pure (.int .u8 (← Rtype.kind t))) Tryd.func94 (by kernel_rfl) (by kernel_rfl) (by kernel_rfl) (by kernel_rfl)
  have h118 := @run_callFunc_extern Tryd.prog 107 _ (ReflectliteType.method ReflectliteType.elem) Tryd.func107 (by kernel_rfl) (by kernel_rfl) (by kernel_rfl) (by kernel_rfl)
  have h119 := @run_callFunc_extern Tryd.prog 108 _ (ReflectliteType.relation "Implements" ReflectliteType.implements_) Tryd.func108 (by kernel_rfl) (by kernel_rfl) (by kernel_rfl) (by kernel_rfl)
  have h50 := @run_callFunc_extern Tryd.prog 63 _ ReflectliteType.typeOf Tryd.func63 (by kernel_rfl) (by kernel_rfl) (by kernel_rfl) (by kernel_rfl)
  have h116 := @run_callFunc_extern Tryd.prog 105 _ (ReflectliteType.relation "AssignableTo" ReflectliteType.assignableTo) Tryd.func105 (by kernel_rfl) (by kernel_rfl) (by kernel_rfl) (by kernel_rfl)
  have h72 := @run_callFunc_extern Tryd.prog 64 _ (ReflectliteValue.method (ReflectliteValue.valueError "reflectlite.Value.Elem" 0) ReflectliteValue.elem) Tryd.func64 (by kernel_rfl) (by kernel_rfl) (by kernel_rfl) (by kernel_rfl)
  have h73 := @run_callFunc_extern Tryd.prog 65 _ ReflectliteValue.set Tryd.func65 (by kernel_rfl) (by kernel_rfl) (by kernel_rfl) (by kernel_rfl)
  have tO := typeOfE
  have mA := mAssignableTo
  have aE := asgnE
  have vE := valueOfE
  have fP := valueOfP
  have tP := typeP
  have mK := mKind
  have mE := mElem
  have mI := mImplements
  have kP := kindP
  have kE := kindE
  have eT := elemT
  have iE := implE
  have c1 : ∀ o, Grown w (w.alloc o) := fun o => (Grown.refl w).al o
  have n8 := isNilP ⟨w.heap.size, 0, none⟩ t ((w.alloc (.cells #[.pointer (some t)] 89)).alloc (.cells #[.pointer (some ⟨1, 89, none⟩), .pointer (some ⟨w.heap.size, 0, none⟩), .int .u64 150] 104)) (by simp)
  have hg2 : World.cell? ((w.alloc (.cells #[.pointer (some t)] 89)).alloc (.cells #[.pointer (some ⟨1, 89, none⟩), .pointer (some ⟨w.heap.size, 0, none⟩), .int .u64 150] 104)) ⟨0, 0, none⟩ = some (.iface 130 (.agg #[.pointer (some ⟨1, 83, none⟩)])) := ((c1 _).al _).cell hg
  have el := elemVP ⟨w.heap.size, 0, none⟩ t (((w.alloc (.cells #[.pointer (some t)] 89)).alloc (.cells #[.pointer (some ⟨1, 89, none⟩), .pointer (some ⟨w.heap.size, 0, none⟩), .int .u64 150] 104)).alloc (.cells #[.pointer (some ⟨1, 89, none⟩), .pointer (some ⟨w.heap.size, 0, none⟩), .int .u64 150] 104)) (by rw [World.cell?_alloc_lt _ _ ⟨w.heap.size, 0, none⟩ (by simp; omega)]; simp)
  have st := setE t ⟨w.heap.size + 1 + 1 + 1, 0, none⟩ e old ((((w.alloc (.cells #[.pointer (some t)] 89)).alloc (.cells #[.pointer (some ⟨1, 89, none⟩), .pointer (some ⟨w.heap.size, 0, none⟩), .int .u64 150] 104)).alloc (.cells #[.pointer (some ⟨1, 89, none⟩), .pointer (some ⟨w.heap.size, 0, none⟩), .int .u64 150] 104)).alloc (.cells #[.iface 32 (.int .i64 e)] 87)) (by rw [World.cell?_alloc_at _ _ _ _ (by simp)]; rfl) ((((c1 _).al _).al _).al _ |>.cell ht) ((((c1 _).al _).al _).al _ |>.frozen ht hf)
  go_enter Tryd.func34, Tryd.ntmps34
  go_wp2
  refine wp_loop_rounds 1 ?_
  rw [rounds_succ]
  go_wp2
  go_ret
  exact ⟨rfl, _, (((c1 _).al _).al _).al _, rfl⟩
end Go.Proofs.YtamlipffhimfmaaDoor.Err.Sil

/- serve: Serve. -/
namespace Go.Proofs.YtamlipffhimfmaaDoor.Srv
set_option linter.unusedSimpArgs false
set_option linter.unusedVariables false
open Go Go.AX Go.Proofs Ty Go.Proofs.YtamlipffhimfmaaDoor.File Go.Proofs.YtamlipffhimfmaaDoor.Ifs Go.Proofs.YtamlipffhimfmaaDoor.Err
set_option maxHeartbeats 4000000
set_option maxRecDepth 10000

theorem AsS_c {H : AH} {e : Int} {b : Nat} (hE : ErrT H.w0) (hf : Fresh H b) :
    ACalls Tryd.prog 34 #[silV e, .iface 89 (.pointer (some ⟨b, 0, none⟩))] (H.add b (.cells [.nilIface] 87 1)) (fun u H' => u = .bool (!decide (e = 0)) ∧ ∃ x, H' = H.add b (.cells [x] 87 1)) := by
  by_cases h : e = 0
  · subst h
    exact fun E w hs => (as_nil _ w).mono fun ev w' ⟨h1, h2⟩ => ⟨_, _, h1, h2 ▸ hs, rfl, _, rfl⟩
  · rw [silV, if_neg h]
    refine (ACalls.one (u := .bool true) (y := .iface 32 (.int .i64 e)) hf fun E w hs => ?_).mono ?_
    · have hg := ErrT.of (H := H.add b (.cells [.nilIface] 87 1)) hE hs
      exact Sil.as_silent e _ .nilIface w hg (hs.rd (by rw [rd_add_self]; rfl)) (hs.frz (by simp [AH.frz, find_add]))
    · rintro _ _ ⟨rfl, rfl⟩
      exact ⟨by simp [h], _, rfl⟩
def serveV (q : Aq) (X : List Nf) : Value := if q.E X = 0 then .tuple #[dataV (q.W X), .bool true] else .tuple #[.agg #[.int .u8 0, .int .u8 0, .int .u8 0, .int .u8 0, .int .u8 0], .bool false]
theorem Serve_c {H : AH} {b : Nat} {X : List Nf} {den : Int} {ft : Nat → Prop} (hE : ErrT H.w0) (h : StAt H b X den ft) (hX : OkX X) (q : Aq) (hq : q.Ok) :
    ACalls Tryd.prog 18 #[.pointer (some ⟨b, 0, none⟩), .int .i64 q.n, q.ask, q.dat] H (fun u H' => ∃ ft', u = serveV q X ∧ StAt H' b (q.X X) (q.D X den) ft' ∧ Keep H H' ft ∧ ∀ x, ft' x → ft x ∨ Fresh H x) := by
  have hans := fun H1 (hE1 : ErrT H1.w0) (h1 : StAt H1 b X den ft) => answer_c hE1 h1 hX q hq
  unfold Aq.ask Aq.dat at hans ⊢
  refine ACalls.enter2 Tryd.func18 rfl Tryd.ntmps18 Tryd.results18 (by simp) ?_; simp (dsimp := false) (maxSteps := 4000000) only [enc_len, enc_scal, lput_enc, take_enc, go_sem, ↓reduceIte, Nat.reduceEqDiff, Nat.reduceLT, Nat.reduceLeDiff, Nat.reduceAdd, Nat.reduceMul, Nat.reduceSub, reduceCtorEq, Int.reduceToNat, Int.reduceLT, Int.reduceLE, Int.reduceEq, Int.reduceNe, Int.reduceBEq, Nat.reduceBEq, Int.reduceBNe, Nat.reduceBNe, Int.reduceAdd, Int.reduceSub, Int.reduceMul, Int.reduceNeg]
  refine AllB.mk fun b6 h_b6 => ?_; have hn_b6 := h_b6; (try simp only [fresh_add, fresh_set, ne_eq] at hn_b6); have hr_b6 := hn_b6; (try simp only [@eq_comm Nat b6] at hr_b6); simp (dsimp := false) (maxSteps := 4000000) only [enc_len, enc_scal, lput_enc, take_enc, hn_b6, hr_b6, go_sem, ↓reduceIte, Nat.reduceEqDiff, Nat.reduceLT, Nat.reduceLeDiff, Nat.reduceAdd, Nat.reduceMul, Nat.reduceSub, reduceCtorEq, Int.reduceToNat, Int.reduceLT, Int.reduceLE, Int.reduceEq, Int.reduceNe, Int.reduceBEq, Nat.reduceBEq, Int.reduceBNe, Nat.reduceBNe, Int.reduceAdd, Int.reduceSub, Int.reduceMul, Int.reduceNeg]
  refine AllB.mk fun b7 h_b7 => ?_; have hn_b7 := h_b7; (try simp only [fresh_add, fresh_set, ne_eq] at hn_b7); have hr_b7 := hn_b7; (try simp only [@eq_comm Nat b7] at hr_b7); simp (dsimp := false) (maxSteps := 4000000) only [enc_len, enc_scal, lput_enc, take_enc, hn_b6, hr_b6, hn_b7, hr_b7, go_sem, ↓reduceIte, Nat.reduceEqDiff, Nat.reduceLT, Nat.reduceLeDiff, Nat.reduceAdd, Nat.reduceMul, Nat.reduceSub, reduceCtorEq, Int.reduceToNat, Int.reduceLT, Int.reduceLE, Int.reduceEq, Int.reduceNe, Int.reduceBEq, Nat.reduceBEq, Int.reduceBNe, Nat.reduceBNe, Int.reduceAdd, Int.reduceSub, Int.reduceMul, Int.reduceNeg]
  refine AllB.mk fun b8 h_b8 => ?_; have hn_b8 := h_b8; (try simp only [fresh_add, fresh_set, ne_eq] at hn_b8); have hr_b8 := hn_b8; (try simp only [@eq_comm Nat b8] at hr_b8); simp (dsimp := false) (maxSteps := 4000000) only [enc_len, enc_scal, lput_enc, take_enc, hn_b6, hr_b6, hn_b7, hr_b7, hn_b8, hr_b8, go_sem, ↓reduceIte, Nat.reduceEqDiff, Nat.reduceLT, Nat.reduceLeDiff, Nat.reduceAdd, Nat.reduceMul, Nat.reduceSub, reduceCtorEq, Int.reduceToNat, Int.reduceLT, Int.reduceLE, Int.reduceEq, Int.reduceNe, Int.reduceBEq, Nat.reduceBEq, Int.reduceBNe, Nat.reduceBNe, Int.reduceAdd, Int.reduceSub, Int.reduceMul, Int.reduceNeg]
  refine (hans _ (by simp only [w0_add]; exact hE) (h.keep (ex := fun _ => False) (((Keep.refl.nw h_b6).nw h_b7).nw h_b8) fun _ _ h => h)).mono ?_
  rintro _ A ⟨ft', rfl, hst, hK, hf⟩
  have hf8 : Fresh H b8 := hn_b8.2.2
  have hnf8 : ¬ ft b8 := h.fresh hf8
  have kT : Keep H _ fun _ => False := ((Keep.refl.nw h_b6).nw h_b7).nw (k := .cells [.int .u8 0, .int .u8 0, .int .u8 0, .int .u8 0, .int .u8 0] 61 5) h_b8
  have hHA : Keep H A ft := (kT.mono fun _ h => h.elim).trans hK
  have hff : ∀ x, ft' x → ft x ∨ Fresh H x := fun x hx => (hf x hx).imp id fun h => kT.fr h
  have f8' : ¬ ft' b8 := fun hx => (hf _ hx).elim hnf8 fun h' => by
    have := h'.2
    rw [find_add_self] at this; cases this
  have f8 := hK.find hnf8 (find_add_self _ _ _)
  clear hK hf hans kT hn_b6 hr_b6 h_b6 hn_b7 hr_b7 h_b7 hn_b8 hr_b8 h_b8
  
  obtain ⟨w, hw⟩ : ∃ w, q.W X = w := ⟨_, rfl⟩
  obtain ⟨e, he⟩ : ∃ e, q.E X = e := ⟨_, rfl⟩
  rw [hw, he]
  simp (dsimp := false) (maxSteps := 4000000) only [enc_len, enc_scal, lput_enc, take_enc, go_sem, ↓reduceIte, Nat.reduceEqDiff, Nat.reduceLT, Nat.reduceLeDiff, Nat.reduceAdd, Nat.reduceMul, Nat.reduceSub, reduceCtorEq, Int.reduceToNat, Int.reduceLT, Int.reduceLE, Int.reduceEq, Int.reduceNe, Int.reduceBEq, Nat.reduceBEq, Int.reduceBNe, Nat.reduceBNe, Int.reduceAdd, Int.reduceSub, Int.reduceMul, Int.reduceNeg]
  refine AllB.mk fun b10 h_b10 => ?_; have hn_b10 := h_b10; (try simp only [fresh_add, fresh_set, ne_eq] at hn_b10); have hr_b10 := hn_b10; (try simp only [@eq_comm Nat b10] at hr_b10); simp (dsimp := false) (maxSteps := 4000000) only [enc_len, enc_scal, lput_enc, take_enc, hn_b10, hr_b10, go_sem, ↓reduceIte, Nat.reduceEqDiff, Nat.reduceLT, Nat.reduceLeDiff, Nat.reduceAdd, Nat.reduceMul, Nat.reduceSub, reduceCtorEq, Int.reduceToNat, Int.reduceLT, Int.reduceLE, Int.reduceEq, Int.reduceNe, Int.reduceBEq, Nat.reduceBEq, Int.reduceBNe, Nat.reduceBNe, Int.reduceAdd, Int.reduceSub, Int.reduceMul, Int.reduceNeg]
  refine AllB.mk fun b12 h_b12 => ?_; have hn_b12 := h_b12; (try simp only [fresh_add, fresh_set, ne_eq] at hn_b12); have hr_b12 := hn_b12; (try simp only [@eq_comm Nat b12] at hr_b12); simp (dsimp := false) (maxSteps := 4000000) only [enc_len, enc_scal, lput_enc, take_enc, hn_b10, hr_b10, hn_b12, hr_b12, go_sem, ↓reduceIte, Nat.reduceEqDiff, Nat.reduceLT, Nat.reduceLeDiff, Nat.reduceAdd, Nat.reduceMul, Nat.reduceSub, reduceCtorEq, Int.reduceToNat, Int.reduceLT, Int.reduceLE, Int.reduceEq, Int.reduceNe, Int.reduceBEq, Nat.reduceBEq, Int.reduceBNe, Nat.reduceBNe, Int.reduceAdd, Int.reduceSub, Int.reduceMul, Int.reduceNeg]
  have hAw : A.w0 = H.w0 := hHA.w0
  refine (AsS_c (H := A.add b10 (.cells (enc w) 26 4)) (by simp only [w0_add, hAw]; exact hE) h_b12).mono ?_
  rintro _ _ ⟨rfl, x, rfl⟩
  have n10 : ¬ b10 = b8 := h_b10.ne_find f8
  have n12 : ¬ b12 = b8 := hn_b12.2.ne_find f8
  have fin : ∀ (vs : List Value) (k1 k2 : ABlk) (u : Value), u = serveV q X → ∃ H', H'.le (((A.set b8 (.cells vs 61 5)).add b10 k1).add b12 k2) ∧ ∃ ft', u = serveV q X ∧ StAt H' b (q.X X) (q.D X den) ft' ∧ Keep H H' ft ∧ ∀ x, ft' x → ft x ∨ Fresh H x := fun vs k1 k2 u hu =>
    ⟨_, AH.le_add (AH.le_add (AH.le_refl _) (by rw [find_set, if_neg n10]; exact h_b10.2)) (by rw [find_add, if_neg hn_b12.1, find_set, if_neg n12]; exact hn_b12.2.2), ft', hu, hst.keep Keep.set fun x hx e => f8' (e ▸ hx), hHA.then Keep.set fun x e => .inr (e ▸ hf8), hff⟩
  by_cases e0 : e = 0
  · have hd := fun H1 => Data_c w H1
    unfold dataV at hd
    have hw : A.wrs b8 0 [.int .u8 w.1, .int .u8 w.2.1, .int .u8 w.2.2.1, .int .u8 w.2.2.2, .int .u8 (chk (rl w))] = some (A.set b8 (.cells [.int .u8 w.1, .int .u8 w.2.1, .int .u8 w.2.2.1, .int .u8 w.2.2.2, .int .u8 (chk (rl w))] 61 5)) := by simp [AH.wrs, f8, lput, scal]
    have hfd : (A.set b8 (.cells [.int .u8 w.1, .int .u8 w.2.1, .int .u8 w.2.2.1, .int .u8 w.2.2.2, .int .u8 (chk (rl w))] 61 5)).find b8 = some (.cells [.int .u8 w.1, .int .u8 w.2.1, .int .u8 w.2.2.1, .int .u8 w.2.2.2, .int .u8 (chk (rl w))] 61 5) := by rw [find_set, if_pos rfl]
    have hr : (A.set b8 (.cells [.int .u8 w.1, .int .u8 w.2.1, .int .u8 w.2.2.1, .int .u8 w.2.2.2, .int .u8 (chk (rl w))] 61 5)).row b8 0 5 = some [.int .u8 w.1, .int .u8 w.2.1, .int .u8 w.2.2.1, .int .u8 w.2.2.2, .int .u8 (chk (rl w))] := row_find hfd (by simp)
    simp (dsimp := false) (maxSteps := 4000000) only [e0, enc_len, enc_scal, lput_enc, take_enc, hn_b10, hr_b10, hn_b12, hr_b12, go_sem, ↓reduceIte, Nat.reduceEqDiff, Nat.reduceLT, Nat.reduceLeDiff, Nat.reduceAdd, Nat.reduceMul, Nat.reduceSub, reduceCtorEq, Int.reduceToNat, Int.reduceLT, Int.reduceLE, Int.reduceEq, Int.reduceNe, Int.reduceBEq, Nat.reduceBEq, Int.reduceBNe, Nat.reduceBNe, Int.reduceAdd, Int.reduceSub, Int.reduceMul, Int.reduceNeg]
    refine (hd _).mono ?_; rintro _ _ ⟨rfl, rfl⟩
    simp (dsimp := false) (maxSteps := 4000000) only [n10, n12, hw, hr, enc_len, enc_scal, lput_enc, take_enc, hn_b10, hr_b10, hn_b12, hr_b12, go_sem, ↓reduceIte, Nat.reduceEqDiff, Nat.reduceLT, Nat.reduceLeDiff, Nat.reduceAdd, Nat.reduceMul, Nat.reduceSub, reduceCtorEq, Int.reduceToNat, Int.reduceLT, Int.reduceLE, Int.reduceEq, Int.reduceNe, Int.reduceBEq, Nat.reduceBEq, Int.reduceBNe, Nat.reduceBNe, Int.reduceAdd, Int.reduceSub, Int.reduceMul, Int.reduceNeg]
    exact fin _ _ _ _ (by rw [serveV, if_pos (he.trans e0), ‹q.W X = w›]; rfl)
  · have hw : A.wrs b8 0 [.int .u8 0, .int .u8 0, .int .u8 0, .int .u8 0, .int .u8 0] = some (A.set b8 (.cells [.int .u8 0, .int .u8 0, .int .u8 0, .int .u8 0, .int .u8 0] 61 5)) := by simp [AH.wrs, f8, lput, scal]
    have hfd : (A.set b8 (.cells [.int .u8 0, .int .u8 0, .int .u8 0, .int .u8 0, .int .u8 0] 61 5)).find b8 = some (.cells [.int .u8 0, .int .u8 0, .int .u8 0, .int .u8 0, .int .u8 0] 61 5) := by rw [find_set, if_pos rfl]
    have hr : (A.set b8 (.cells [.int .u8 0, .int .u8 0, .int .u8 0, .int .u8 0, .int .u8 0] 61 5)).row b8 0 5 = some [.int .u8 0, .int .u8 0, .int .u8 0, .int .u8 0, .int .u8 0] := row_find hfd (by simp)
    simp (dsimp := false) (maxSteps := 4000000) only [e0, n10, n12, hw, hr, enc_len, enc_scal, lput_enc, take_enc, hn_b10, hr_b10, hn_b12, hr_b12, go_sem, ↓reduceIte, Nat.reduceEqDiff, Nat.reduceLT, Nat.reduceLeDiff, Nat.reduceAdd, Nat.reduceMul, Nat.reduceSub, reduceCtorEq, Int.reduceToNat, Int.reduceLT, Int.reduceLE, Int.reduceEq, Int.reduceNe, Int.reduceBEq, Nat.reduceBEq, Int.reduceBNe, Nat.reduceBNe, Int.reduceAdd, Int.reduceSub, Int.reduceMul, Int.reduceNeg]
    exact fin _ _ _ _ (by rw [serveV, if_neg (by rw [he]; exact e0)])
end Go.Proofs.YtamlipffhimfmaaDoor.Srv

/- serve: the map of turned bytes. -/
namespace Go.Proofs.YtamlipffhimfmaaDoor.Srv
set_option linter.unusedSimpArgs false
set_option linter.unusedVariables false
open Go Go.AX Go.Proofs Ty Go.Proofs.YtamlipffhimfmaaDoor.File Go.Proofs.YtamlipffhimfmaaDoor.Ifs Go.Proofs.YtamlipffhimfmaaDoor.Err
set_option maxHeartbeats 4000000
set_option maxRecDepth 10000

/-- What a map of turned bytes says of each place. -/
def Mp (H : AH) (tv : Value) (tu : Int → Int) : Prop :=
  (tv = .map none ∧ ∀ i, tu i = 0) ∨ ∃ bm es, tv = .map (some bm) ∧ H.find bm = some (.amap es) ∧ ∀ i : Int, (mlk (.int .i64) (.int .i64 i) es 0 = some none ∧ tu i = 0) ∨ ∃ k, mlk (.int .i64) (.int .i64 i) es 0 = some (some (k, .int .u8 (tu i)))
theorem Mp.keep {H H' : AH} {tv : Value} {tu : Int → Int} (h : Mp H tv tu) (hK : Keep H H' fun _ => False) : Mp H' tv tu := by
  rcases h with h | ⟨bm, es, h1, h2, h3⟩
  · exact .inl h
  · exact .inr ⟨bm, es, h1, hK.find (fun h => h) h2, h3⟩
theorem lkp_mp {H : AH} {tv : Value} {tu : Int → Int} (h : Mp H tv tu) (i : Int) (k : Value → AH → Prop) : lkp Tryd.prog 35 tv (.int .i64 i) false H k = k (.int .u8 (tu i)) H := by
  have hnil : mlk (.int .i64) (.int .i64 i) [] 0 = some none := rfl
  unfold lkp
  rcases h with ⟨rfl, h⟩ | ⟨bm, es, rfl, h2, h3⟩
  · simp only [me_35, wo, hnil, mres, nv, h i]
    simp
  · have hmp : H.mp bm = some es := by rw [AH.mp, h2]
    rcases h3 i with ⟨h4, h5⟩ | ⟨q, h4⟩
    · simp only [me_35, wo, hmp, h4, mres, nv, h5]
      simp
    · simp only [me_35, wo, hmp, h4, mres, nv]
      simp
end Go.Proofs.YtamlipffhimfmaaDoor.Srv

/- serve: bytes turned; what a round comes to, and what one turned byte does to it. -/
namespace Go.Proofs.YtamlipffhimfmaaDoor.Srv
set_option linter.unusedSimpArgs false
set_option linter.unusedVariables false
open Go Go.AX Go.Proofs Ty Go.Proofs.YtamlipffhimfmaaDoor.File Go.Proofs.YtamlipffhimfmaaDoor.Ifs

abbrev bx (a b : Int) : Int := ibits .xor .u8 a b
def B8 (x : Int) : BitVec 8 := BitVec.ofInt 8 x
theorem bx_eq (a b : Int) : bx a b = ((B8 a ^^^ B8 b).toNat : Int) := by
  have h : (B8 a ^^^ B8 b).toNat < 256 := (B8 a ^^^ B8 b).isLt
  exact u8_eq (c := ((B8 a ^^^ B8 b).toNat : Int)) (by omega) (by omega)
theorem bx_range (a b : Int) : 0 ≤ bx a b ∧ bx a b < 256 := by
  rw [bx_eq]
  have h : (B8 a ^^^ B8 b).toNat < 256 := (B8 a ^^^ B8 b).isLt
  omega
theorem B8_bx (a b : Int) : B8 (bx a b) = B8 a ^^^ B8 b := by
  rw [bx_eq, B8, BitVec.ofInt_natCast, BitVec.ofNat_toNat, BitVec.setWidth_eq]
theorem B8_inj {a b : Int} (ha : 0 ≤ a ∧ a < 256) (hb : 0 ≤ b ∧ b < 256) (h : B8 a = B8 b) : a = b := by
  have := congrArg BitVec.toNat h
  rw [B8, B8, BitVec.toNat_ofInt, BitVec.toNat_ofInt] at this
  omega
theorem B8_zero : B8 0 = 0#8 := rfl
theorem bx_zero {a : Int} (h : 0 ≤ a ∧ a < 256) : bx a 0 = a :=
  B8_inj (bx_range a 0) h (by rw [B8_bx, B8_zero, BitVec.xor_zero])
theorem chk3 {a b c t0 t1 t2 t3 : Int} (h : chk [bx a t0, bx b t1, bx c t2] = bx (chk [a, b, c]) t3) : B8 t0 ^^^ B8 t1 ^^^ B8 t2 ^^^ B8 t3 = 0#8 := by
  have h1 := congrArg B8 h
  simp only [chk, List.foldl_cons, List.foldl_nil, B8_bx] at h1
  have h2 : B8 90 ^^^ (B8 a ^^^ B8 t0) ^^^ (B8 b ^^^ B8 t1) ^^^ (B8 c ^^^ B8 t2) = (B8 90 ^^^ B8 a ^^^ B8 b ^^^ B8 c) ^^^ (B8 t0 ^^^ B8 t1 ^^^ B8 t2) := by ac_rfl
  rw [h2] at h1
  rw [(BitVec.xor_right_inj _).1 h1, BitVec.xor_self]
theorem chk4 {a b c d t0 t1 t2 t3 t4 : Int} (h : chk [bx a t0, bx b t1, bx c t2, bx d t3] = bx (chk [a, b, c, d]) t4) : B8 t0 ^^^ B8 t1 ^^^ B8 t2 ^^^ B8 t3 ^^^ B8 t4 = 0#8 := by
  have h1 := congrArg B8 h
  simp only [chk, List.foldl_cons, List.foldl_nil, B8_bx] at h1
  have h2 : B8 90 ^^^ (B8 a ^^^ B8 t0) ^^^ (B8 b ^^^ B8 t1) ^^^ (B8 c ^^^ B8 t2) ^^^ (B8 d ^^^ B8 t3) = (B8 90 ^^^ B8 a ^^^ B8 b ^^^ B8 c ^^^ B8 d) ^^^ (B8 t0 ^^^ B8 t1 ^^^ B8 t2 ^^^ B8 t3) := by ac_rfl
  rw [h2] at h1
  rw [(BitVec.xor_right_inj _).1 h1, BitVec.xor_self]
theorem B8_ne {x : Int} (h : 0 ≤ x ∧ x < 256) (h0 : x ≠ 0) : ¬ B8 x = 0#8 := fun e => h0 (B8_inj h ⟨by omega, by omega⟩ (e.trans B8_zero.symm))

/-! ### A round -/
def tryQ (n to a0 a1 a2 : Int) (v : Rc) (tu : Int → Int) : Aq := ⟨n, bx to (tu 0), bx (64 * a0 + a1) (tu 1), bx a2 (tu 2), bx (chk (askL to a0 a1 a2)) (tu 3), (bx v.1 (tu 4), bx v.2.1 (tu 5), bx v.2.2.1 (tu 6), bx v.2.2.2 (tu 7)), bx (chk (rl v)) (tu 8)⟩
theorem bx_rk (a b : Int) : 0 ≤ bx a b ∧ bx a b ≤ 255 := by have := bx_range a b; omega
theorem tryQ_ok (n to a0 a1 a2 : Int) (v : Rc) (tu : Int → Int) : (tryQ n to a0 a1 a2 v tu).Ok := ⟨bx_range _ _, bx_range _ _, bx_range _ _, bx_rk _ _, bx_rk _ _, bx_rk _ _, bx_rk _ _⟩
def backR (w : Rc) (tu : Int → Int) : Rc := (bx w.1 (tu 9), bx w.2.1 (tu 10), bx w.2.2.1 (tu 11), bx w.2.2.2 (tu 12))
def backC (w : Rc) (tu : Int → Int) : Int := bx (chk (rl w)) (tu 13)
def tryE (q : Aq) (tu : Int → Int) (X : List Nf) : Int := if q.E X = 0 then (if chk (rl (backR (q.W X) tu)) = backC (q.W X) tu then 0 else 14) else 13
def tryW (q : Aq) (tu : Int → Int) (X : List Nf) : Rc := if q.E X = 0 then (if chk (rl (backR (q.W X) tu)) = backC (q.W X) tu then backR (q.W X) tu else zr) else zr
def tryV (n to a0 a1 a2 : Int) (v : Rc) (tu : Int → Int) (X : List Nf) : Value := if askOk to a0 a1 a2 then .tuple #[.agg (enc (tryW (tryQ n to a0 a1 a2 v tu) tu X)).toArray, .int .i64 (tryE (tryQ n to a0 a1 a2 v tu) tu X)] else .tuple #[.agg (enc zr).toArray, .int .i64 1]
def tryX (n to a0 a1 a2 : Int) (v : Rc) (tu : Int → Int) (X : List Nf) : List Nf := if askOk to a0 a1 a2 then (tryQ n to a0 a1 a2 v tu).X X else X
def tryD (n to a0 a1 a2 : Int) (v : Rc) (tu : Int → Int) (X : List Nf) (d : Int) : Int := if askOk to a0 a1 a2 then (tryQ n to a0 a1 a2 v tu).D X d else d
theorem Aq.E_bad {q : Aq} {X : List Nf} (h : q.pre ≠ 0) : q.E X ≠ 0 ∧ q.X X = X := by
  rw [Aq.E, Aq.X, if_neg h, if_neg h]; exact ⟨h, rfl⟩
theorem Aq.X_bad {q : Aq} {X : List Nf} (h : q.E X ≠ 0) : q.X X = X := by
  rw [Aq.X]
  split
  · rename_i h0
    rw [Aq.E, if_pos h0] at h
    rw [doX, if_neg h]
  · rfl
theorem Aq.ok_X {q : Aq} (hq : q.Ok) {X : List Nf} (h : OkX X) : OkX (q.X X) := by
  rw [Aq.X]
  split
  · refine h.do _ _ _ ?_
    rw [Aq.v]
    split
    · exact hq.hd
    · exact ⟨by decide, by decide, by decide, by decide⟩
  · exact h
theorem tryX_ok {n to a0 a1 a2 : Int} {v : Rc} {tu : Int → Int} {X : List Nf} (h : OkX X) : OkX (tryX n to a0 a1 a2 v tu X) := by
  rw [tryX]
  split
  · exact Aq.ok_X (tryQ_ok ..) h
  · exact h

/-- One byte that is turned: what is answered with OK is as_ without that; and either nothing was done, or what would have been done without that. -/
theorem one_law (n to a0 a1 a2 : Int) (v : Rc) (X : List Nf) (k : Int) (hk : 0 ≤ k ∧ k < 14) (y : Int) (hy : 0 ≤ y ∧ y < 256) (q1 q2 : Aq) (t1 t2 : Int → Int)
    (e1 : t1 = fun i => if i = k then y else 0) (e2 : t2 = fun _ => 0) (h1 : q1 = tryQ n to a0 a1 a2 v t1) (h2 : q2 = tryQ n to a0 a1 a2 v t2) :
    (tryE q1 t1 X = 0 → tryE q2 t2 X = 0 ∧ tryW q1 t1 X = tryW q2 t2 X ∧ q1.X X = q2.X X) ∧ (q1.X X = X ∨ q1.X X = q2.X X) ∧ (y = 0 → tryE q1 t1 X = tryE q2 t2 X) := by
  by_cases y0 : y = 0
  · have e : t1 = t2 := by rw [e1, e2, y0]; funext i; simp
    subst e
    rw [← h1] at h2
    subst h2
    exact ⟨fun h => ⟨h, rfl, rfl⟩, .inr rfl, fun _ => rfl⟩
  have hb := B8_ne hy y0
  have bad : q1.E X ≠ 0 → (tryE q1 t1 X = 0 → tryE q2 t2 X = 0 ∧ tryW q1 t1 X = tryW q2 t2 X ∧ q1.X X = q2.X X) ∧ (q1.X X = X ∨ q1.X X = q2.X X) ∧ (y = 0 → tryE q1 t1 X = tryE q2 t2 X) := fun h =>
    ⟨fun h' => absurd h' (by rw [tryE, if_neg h]; decide), .inl (Aq.X_bad h), fun h' => absurd h' y0⟩
  by_cases k4 : k < 4
  · -- the asking
    refine bad (Aq.E_bad ?_).1
    have : chk [q1.a0, q1.a1, q1.a2] ≠ q1.a3 := fun h => by
      rw [h1] at h
      have := chk3 h
      rw [e1] at this
      rcases (show k = 0 ∨ k = 1 ∨ k = 2 ∨ k = 3 by omega) with rfl | rfl | rfl | rfl <;> simp [B8_zero] at this <;> exact hb this
    rw [Aq.pre, if_pos (.inl this)]
    decide
  have z0 : t1 0 = t2 0 := by rw [e1, e2]; simp; omega
  have z1 : t1 1 = t2 1 := by rw [e1, e2]; simp; omega
  have z2 : t1 2 = t2 2 := by rw [e1, e2]; simp; omega
  have z3 : t1 3 = t2 3 := by rw [e1, e2]; simp; omega
  have f0 : q1.a0 = q2.a0 := by rw [h1, h2, tryQ, tryQ, z0]
  have f1 : q1.a1 = q2.a1 := by rw [h1, h2, tryQ, tryQ, z1]
  have f2 : q1.a2 = q2.a2 := by rw [h1, h2, tryQ, tryQ, z2]
  have f3 : q1.a3 = q2.a3 := by rw [h1, h2, tryQ, tryQ, z3]
  have fn : q1.n = q2.n := by rw [h1, h2, tryQ, tryQ]
  by_cases k9 : k < 9
  · -- the record's bytes
    have hd : chk (rl q1.d) ≠ q1.d4 := fun h => by
      rw [h1] at h
      have := chk4 h
      rw [e1] at this
      rcases (show k = 4 ∨ k = 5 ∨ k = 6 ∨ k = 7 ∨ k = 8 by omega) with rfl | rfl | rfl | rfl | rfl <;> simp [B8_zero] at this <;> exact hb this
    by_cases o : q1.op = 1
    · refine bad (Aq.E_bad ?_).1
      have hoo : q1.op = 1 ∧ chk (rl q1.d) ≠ q1.d4 := ⟨o, hd⟩
      rw [Aq.pre, if_pos hoo]
      split
      · decide
      · split <;> decide
    · have fo : q1.op = q2.op := by rw [Aq.op, Aq.op, f1]
      have ff : q1.fl = q2.fl := by rw [Aq.fl, Aq.fl, f1]
      have fv : q1.v = q2.v := by rw [Aq.v, Aq.v, if_neg o, if_neg (by rw [← fo]; exact o)]
      have fp : q1.pre = q2.pre := by
        have o1 : ¬ (q1.op = 1 ∧ chk (rl q1.d) ≠ q1.d4) := fun h => o h.1
        have o2 : ¬ (q2.op = 1 ∧ chk (rl q2.d) ≠ q2.d4) := fun h => o (fo.trans h.1)
        rw [Aq.pre, Aq.pre, if_neg o1, if_neg o2, f0, f1, f2, f3, fn]
      have fE : q1.E X = q2.E X := by rw [Aq.E, Aq.E, fp, fo, ff, f2]
      have fW : q1.W X = q2.W X := by rw [Aq.W, Aq.W, fp, fo, ff, f2, fv]
      have fX : q1.X X = q2.X X := by rw [Aq.X, Aq.X, fp, fo, ff, f2, fv]
      have b1 : ∀ w, backR w t1 = backR w t2 := fun w => by
        have z : ∀ i : Int, 9 ≤ i → t1 i = t2 i := fun i hi => by rw [e1, e2]; simp; omega
        rw [backR, backR, z 9 (by decide), z 10 (by decide), z 11 (by decide), z 12 (by decide)]
      have b2 : ∀ w, backC w t1 = backC w t2 := fun w => by
        rw [backC, backC, show t1 13 = t2 13 by rw [e1, e2]; simp; omega]
      have gE : tryE q1 t1 X = tryE q2 t2 X := by rw [tryE, tryE, fE, fW, b1, b2]
      have gW : tryW q1 t1 X = tryW q2 t2 X := by rw [tryW, tryW, fE, fW, b1, b2]
      exact ⟨fun h => ⟨gE ▸ h, gW, fX⟩, .inr fX, fun _ => gE⟩
  · -- what is answered
    have z : ∀ i : Int, i < 9 → t1 i = t2 i := fun i hi => by rw [e1, e2]; simp; omega
    have e : q1 = q2 := by
      rw [h1, h2, tryQ, tryQ, z 0 (by decide), z 1 (by decide), z 2 (by decide), z 3 (by decide), z 4 (by decide), z 5 (by decide), z 6 (by decide), z 7 (by decide), z 8 (by decide)]
    subst e
    refine ⟨fun h => ?_, .inr rfl, fun h => absurd h y0⟩
    exfalso
    rw [tryE] at h
    split at h
    · split at h
      · rename_i _ h'
        have := chk4 h'
        rw [e1] at this
        rcases (show k = 9 ∨ k = 10 ∨ k = 11 ∨ k = 12 ∨ k = 13 by omega) with rfl | rfl | rfl | rfl | rfl <;> simp [B8_zero] at this <;> exact hb this
      · cases h
    · cases h
end Go.Proofs.YtamlipffhimfmaaDoor.Srv

/- serve: Try. -/
namespace Go.Proofs.YtamlipffhimfmaaDoor.Srv
set_option linter.unusedSimpArgs false
set_option linter.unusedVariables false
open Go Go.AX Go.Proofs Ty Go.Proofs.YtamlipffhimfmaaDoor.File Go.Proofs.YtamlipffhimfmaaDoor.Ifs Go.Proofs.YtamlipffhimfmaaDoor.Err
set_option maxHeartbeats 4000000
set_option maxRecDepth 10000

theorem Mp.addF {H : AH} {b : Nat} {kk : ABlk} {tv : Value} {tu : Int → Int} (hf : Fresh H b) (h : Mp H tv tu) : Mp (H.add b kk) tv tu := h.keep (Keep.add hf)
theorem Mp.keepF {H H' : AH} {tv : Value} {tu : Int → Int} {ft : Nat → Prop} (h : Mp H tv tu) (hK : Keep H H' ft) (hn : ∀ bm, tv = .map (some bm) → ¬ ft bm) : Mp H' tv tu := by
  rcases h with h | ⟨bm, es, h1, h2, h3⟩
  · exact .inl h
  · exact .inr ⟨bm, es, h1, hK.find (hn bm h1) h2, h3⟩
theorem Try_c {H : AH} {b : Nat} {X : List Nf} {den : Int} {ft : Nat → Prop} (hE : ErrT H.w0) (h : StAt H b X den ft) (hX : OkX X) (name to a0 a1 a2 : Int) (v : Rc) (tv : Value) (tu : Int → Int) (hM : Mp H tv tu) (hMf : ∀ bm, tv = .map (some bm) → ¬ ft bm) :
    ACalls Tryd.prog 6 #[.pointer (some ⟨b, 0, none⟩), .int .i64 name, .int .i64 to, .agg #[.int .i64 a0, .int .i64 a1, .int .i64 a2], .agg (enc v).toArray, tv] H (fun u H' => ∃ ft', u = tryV name to a0 a1 a2 v tu X ∧ StAt H' b (tryX name to a0 a1 a2 v tu X) (tryD name to a0 a1 a2 v tu X den) ft' ∧ Keep H H' ft ∧ ∀ x, ft' x → ft x ∨ Fresh H x) := by
  have hv : ∃ m, tv = .map m := by
    rcases hM with ⟨e, _⟩ | ⟨bm, _, e, _⟩
    · exact ⟨_, e⟩
    · exact ⟨_, e⟩
  obtain ⟨tm, rfl⟩ := hv
  refine ACalls.enter2 Tryd.func6 rfl Tryd.ntmps6 Tryd.results6 (by simp) ?_; simp (dsimp := false) (maxSteps := 4000000) only [enc_len, enc_scal, lput_enc, take_enc, go_sem, ↓reduceIte, Nat.reduceEqDiff, Nat.reduceLT, Nat.reduceLeDiff, Nat.reduceAdd, Nat.reduceMul, Nat.reduceSub, reduceCtorEq, Int.reduceToNat, Int.reduceLT, Int.reduceLE, Int.reduceEq, Int.reduceNe, Int.reduceBEq, Nat.reduceBEq, Int.reduceBNe, Nat.reduceBNe, Int.reduceAdd, Int.reduceSub, Int.reduceMul, Int.reduceNeg]
  refine AllB.mk fun b9 h_b9 => ?_; have hn_b9 := h_b9; (try simp only [fresh_add, fresh_set, ne_eq] at hn_b9); have hr_b9 := hn_b9; (try simp only [@eq_comm Nat b9] at hr_b9); simp (dsimp := false) (maxSteps := 4000000) only [enc_len, enc_scal, lput_enc, take_enc, hn_b9, hr_b9, go_sem, ↓reduceIte, Nat.reduceEqDiff, Nat.reduceLT, Nat.reduceLeDiff, Nat.reduceAdd, Nat.reduceMul, Nat.reduceSub, reduceCtorEq, Int.reduceToNat, Int.reduceLT, Int.reduceLE, Int.reduceEq, Int.reduceNe, Int.reduceBEq, Nat.reduceBEq, Int.reduceBNe, Nat.reduceBNe, Int.reduceAdd, Int.reduceSub, Int.reduceMul, Int.reduceNeg]
  refine AllB.mk fun b10 h_b10 => ?_; have hn_b10 := h_b10; (try simp only [fresh_add, fresh_set, ne_eq] at hn_b10); have hr_b10 := hn_b10; (try simp only [@eq_comm Nat b10] at hr_b10); simp (dsimp := false) (maxSteps := 4000000) only [enc_len, enc_scal, lput_enc, take_enc, hn_b9, hr_b9, hn_b10, hr_b10, go_sem, ↓reduceIte, Nat.reduceEqDiff, Nat.reduceLT, Nat.reduceLeDiff, Nat.reduceAdd, Nat.reduceMul, Nat.reduceSub, reduceCtorEq, Int.reduceToNat, Int.reduceLT, Int.reduceLE, Int.reduceEq, Int.reduceNe, Int.reduceBEq, Nat.reduceBEq, Int.reduceBNe, Nat.reduceBNe, Int.reduceAdd, Int.reduceSub, Int.reduceMul, Int.reduceNeg]
  refine AllB.mk fun b12 h_b12 => ?_; have hn_b12 := h_b12; (try simp only [fresh_add, fresh_set, ne_eq] at hn_b12); have hr_b12 := hn_b12; (try simp only [@eq_comm Nat b12] at hr_b12); simp (dsimp := false) (maxSteps := 4000000) only [enc_len, enc_scal, lput_enc, take_enc, hn_b9, hr_b9, hn_b10, hr_b10, hn_b12, hr_b12, go_sem, ↓reduceIte, Nat.reduceEqDiff, Nat.reduceLT, Nat.reduceLeDiff, Nat.reduceAdd, Nat.reduceMul, Nat.reduceSub, reduceCtorEq, Int.reduceToNat, Int.reduceLT, Int.reduceLE, Int.reduceEq, Int.reduceNe, Int.reduceBEq, Nat.reduceBEq, Int.reduceBNe, Nat.reduceBNe, Int.reduceAdd, Int.reduceSub, Int.reduceMul, Int.reduceNeg]
  refine (Ask_c to a0 a1 a2 _).mono ?_; rintro _ _ ⟨rfl, rfl⟩
  unfold askV
  by_cases ha : askOk to a0 a1 a2
  case' neg =>
    rw [if_neg ha]
    
    simp (dsimp := false) (maxSteps := 4000000) only [enc_len, enc_scal, lput_enc, take_enc, hn_b9, hr_b9, hn_b10, hr_b10, hn_b12, hr_b12, go_sem, ↓reduceIte, Nat.reduceEqDiff, Nat.reduceLT, Nat.reduceLeDiff, Nat.reduceAdd, Nat.reduceMul, Nat.reduceSub, reduceCtorEq, Int.reduceToNat, Int.reduceLT, Int.reduceLE, Int.reduceEq, Int.reduceNe, Int.reduceBEq, Nat.reduceBEq, Int.reduceBNe, Nat.reduceBNe, Int.reduceAdd, Int.reduceSub, Int.reduceMul, Int.reduceNeg]
    refine AllB.mk fun b14 h_b14 => ?_; have hn_b14 := h_b14; (try simp only [fresh_add, fresh_set, ne_eq] at hn_b14); have hr_b14 := hn_b14; (try simp only [@eq_comm Nat b14] at hr_b14); simp (dsimp := false) (maxSteps := 4000000) only [enc_len, enc_scal, lput_enc, take_enc, hn_b9, hr_b9, hn_b10, hr_b10, hn_b12, hr_b12, hn_b14, hr_b14, go_sem, ↓reduceIte, Nat.reduceEqDiff, Nat.reduceLT, Nat.reduceLeDiff, Nat.reduceAdd, Nat.reduceMul, Nat.reduceSub, reduceCtorEq, Int.reduceToNat, Int.reduceLT, Int.reduceLE, Int.reduceEq, Int.reduceNe, Int.reduceBEq, Nat.reduceBEq, Int.reduceBNe, Nat.reduceBNe, Int.reduceAdd, Int.reduceSub, Int.reduceMul, Int.reduceNeg]
    exact ⟨H, (AH.le_add (AH.le_add (AH.le_add (AH.le_add (AH.le_refl _) ((by simp only [enc_len, enc_scal, lput_enc, take_enc, fresh_add, fresh_set, ne_eq, hn_b9, not_false_eq_true, and_self] : Fresh _ b9).2)) ((by simp only [enc_len, enc_scal, lput_enc, take_enc, fresh_add, fresh_set, ne_eq, hn_b10, not_false_eq_true, and_self] : Fresh _ b10).2)) ((by simp only [enc_len, enc_scal, lput_enc, take_enc, fresh_add, fresh_set, ne_eq, hn_b12, not_false_eq_true, and_self] : Fresh _ b12).2)) ((by simp only [enc_len, enc_scal, lput_enc, take_enc, fresh_add, fresh_set, ne_eq, hn_b14, not_false_eq_true, and_self] : Fresh _ b14).2)), ft, by rw [tryV, if_neg ha]; rfl, by rw [tryX, tryD, if_neg ha, if_neg ha]; exact h, Keep.refl, fun x h => .inl h⟩
    
  rw [if_pos ha]
  simp (dsimp := false) (maxSteps := 4000000) only [enc_len, enc_scal, lput_enc, take_enc, hn_b9, hr_b9, hn_b10, hr_b10, hn_b12, hr_b12, go_sem, ↓reduceIte, Nat.reduceEqDiff, Nat.reduceLT, Nat.reduceLeDiff, Nat.reduceAdd, Nat.reduceMul, Nat.reduceSub, reduceCtorEq, Int.reduceToNat, Int.reduceLT, Int.reduceLE, Int.reduceEq, Int.reduceNe, Int.reduceBEq, Nat.reduceBEq, Int.reduceBNe, Nat.reduceBNe, Int.reduceAdd, Int.reduceSub, Int.reduceMul, Int.reduceNeg]
  refine AllB.mk fun b14 h_b14 => ?_; have hn_b14 := h_b14; (try simp only [fresh_add, fresh_set, ne_eq] at hn_b14); have hr_b14 := hn_b14; (try simp only [@eq_comm Nat b14] at hr_b14); simp (dsimp := false) (maxSteps := 4000000) only [enc_len, enc_scal, lput_enc, take_enc, hn_b9, hr_b9, hn_b10, hr_b10, hn_b12, hr_b12, hn_b14, hr_b14, go_sem, ↓reduceIte, Nat.reduceEqDiff, Nat.reduceLT, Nat.reduceLeDiff, Nat.reduceAdd, Nat.reduceMul, Nat.reduceSub, reduceCtorEq, Int.reduceToNat, Int.reduceLT, Int.reduceLE, Int.reduceEq, Int.reduceNe, Int.reduceBEq, Nat.reduceBEq, Int.reduceBNe, Nat.reduceBNe, Int.reduceAdd, Int.reduceSub, Int.reduceMul, Int.reduceNeg]
  refine (Data_c v _).mono ?_; rintro _ _ ⟨rfl, rfl⟩
  unfold dataV
  simp (dsimp := false) (maxSteps := 4000000) only [enc_len, enc_scal, lput_enc, take_enc, hn_b9, hr_b9, hn_b10, hr_b10, hn_b12, hr_b12, hn_b14, hr_b14, go_sem, ↓reduceIte, Nat.reduceEqDiff, Nat.reduceLT, Nat.reduceLeDiff, Nat.reduceAdd, Nat.reduceMul, Nat.reduceSub, reduceCtorEq, Int.reduceToNat, Int.reduceLT, Int.reduceLE, Int.reduceEq, Int.reduceNe, Int.reduceBEq, Nat.reduceBEq, Int.reduceBNe, Nat.reduceBNe, Int.reduceAdd, Int.reduceSub, Int.reduceMul, Int.reduceNeg]
  refine AllB.mk fun b16 h_b16 => ?_; have hn_b16 := h_b16; (try simp only [fresh_add, fresh_set, ne_eq] at hn_b16); have hr_b16 := hn_b16; (try simp only [@eq_comm Nat b16] at hr_b16); simp (dsimp := false) (maxSteps := 4000000) only [enc_len, enc_scal, lput_enc, take_enc, hn_b9, hr_b9, hn_b10, hr_b10, hn_b12, hr_b12, hn_b14, hr_b14, hn_b16, hr_b16, go_sem, ↓reduceIte, Nat.reduceEqDiff, Nat.reduceLT, Nat.reduceLeDiff, Nat.reduceAdd, Nat.reduceMul, Nat.reduceSub, reduceCtorEq, Int.reduceToNat, Int.reduceLT, Int.reduceLE, Int.reduceEq, Int.reduceNe, Int.reduceBEq, Nat.reduceBEq, Int.reduceBNe, Nat.reduceBNe, Int.reduceAdd, Int.reduceSub, Int.reduceMul, Int.reduceNeg]
  have hl := fun k9 k10 k12 k14 k16 i k => lkp_mp (H := ((((H.add b9 k9).add b10 k10).add b12 k12).add b14 k14).add b16 k16) (tv := .map tm) (tu := tu) (Mp.addF (by simp only [fresh_add, ne_eq, hn_b16, not_false_eq_true, and_self]) (Mp.addF (by simp only [fresh_add, ne_eq, hn_b14, not_false_eq_true, and_self]) (Mp.addF (by simp only [fresh_add, ne_eq, hn_b12, not_false_eq_true, and_self]) (Mp.addF (by simp only [fresh_add, ne_eq, hn_b10, not_false_eq_true, and_self]) (Mp.addF h_b9 hM))))) i k
  refine AWp.rounds 5 ?_
  simp (dsimp := false) (maxSteps := 4000000) only [enc_len, enc_scal, lput_enc, take_enc, hn_b9, hr_b9, hn_b10, hr_b10, hn_b12, hr_b12, hn_b14, hr_b14, hn_b16, hr_b16, go_sem, ↓reduceIte, Nat.reduceEqDiff, Nat.reduceLT, Nat.reduceLeDiff, Nat.reduceAdd, Nat.reduceMul, Nat.reduceSub, reduceCtorEq, Int.reduceToNat, Int.reduceLT, Int.reduceLE, Int.reduceEq, Int.reduceNe, Int.reduceBEq, Nat.reduceBEq, Int.reduceBNe, Nat.reduceBNe, Int.reduceAdd, Int.reduceSub, Int.reduceMul, Int.reduceNeg]
  refine AWp.gen [.pu, .pu, .rd, .pu, .pu, .ch, .pu, .pu, .ch] [0, 1, 3, 0, 0, 24, 63, 127, 255] 6 (_) mixed (by kernel_rfl) (AH.le_refl _) ?_
  simp (dsimp := false) (maxSteps := 4000000) only [hl, enc_len, enc_scal, lput_enc, take_enc, hn_b9, hr_b9, hn_b10, hr_b10, hn_b12, hr_b12, hn_b14, hr_b14, hn_b16, hr_b16, go_sem, ↓reduceIte, Nat.reduceEqDiff, Nat.reduceLT, Nat.reduceLeDiff, Nat.reduceAdd, Nat.reduceMul, Nat.reduceSub, reduceCtorEq, Int.reduceToNat, Int.reduceLT, Int.reduceLE, Int.reduceEq, Int.reduceNe, Int.reduceBEq, Nat.reduceBEq, Int.reduceBNe, Nat.reduceBNe, Int.reduceAdd, Int.reduceSub, Int.reduceMul, Int.reduceNeg]
  refine AWp.gen [.pu, .pu, .rd, .pu, .pu, .ch, .pu, .pu, .ch] [0, 1, 3, 0, 0, 24, 63, 127, 255] 6 (_) mixed (by kernel_rfl) (AH.le_refl _) ?_
  simp (dsimp := false) (maxSteps := 4000000) only [hl, enc_len, enc_scal, lput_enc, take_enc, hn_b9, hr_b9, hn_b10, hr_b10, hn_b12, hr_b12, hn_b14, hr_b14, hn_b16, hr_b16, go_sem, ↓reduceIte, Nat.reduceEqDiff, Nat.reduceLT, Nat.reduceLeDiff, Nat.reduceAdd, Nat.reduceMul, Nat.reduceSub, reduceCtorEq, Int.reduceToNat, Int.reduceLT, Int.reduceLE, Int.reduceEq, Int.reduceNe, Int.reduceBEq, Nat.reduceBEq, Int.reduceBNe, Nat.reduceBNe, Int.reduceAdd, Int.reduceSub, Int.reduceMul, Int.reduceNeg]
  refine AWp.gen [.pu, .pu, .rd, .pu, .pu, .ch, .pu, .pu, .ch] [0, 1, 3, 0, 0, 24, 63, 127, 255] 6 (_) mixed (by kernel_rfl) (AH.le_refl _) ?_
  simp (dsimp := false) (maxSteps := 4000000) only [hl, enc_len, enc_scal, lput_enc, take_enc, hn_b9, hr_b9, hn_b10, hr_b10, hn_b12, hr_b12, hn_b14, hr_b14, hn_b16, hr_b16, go_sem, ↓reduceIte, Nat.reduceEqDiff, Nat.reduceLT, Nat.reduceLeDiff, Nat.reduceAdd, Nat.reduceMul, Nat.reduceSub, reduceCtorEq, Int.reduceToNat, Int.reduceLT, Int.reduceLE, Int.reduceEq, Int.reduceNe, Int.reduceBEq, Nat.reduceBEq, Int.reduceBNe, Nat.reduceBNe, Int.reduceAdd, Int.reduceSub, Int.reduceMul, Int.reduceNeg]
  refine AWp.gen [.pu, .pu, .rd, .pu, .pu, .ch, .pu, .pu, .ch] [0, 1, 3, 0, 0, 24, 63, 127, 255] 6 (_) mixed (by kernel_rfl) (AH.le_refl _) ?_
  simp (dsimp := false) (maxSteps := 4000000) only [hl, enc_len, enc_scal, lput_enc, take_enc, hn_b9, hr_b9, hn_b10, hr_b10, hn_b12, hr_b12, hn_b14, hr_b14, hn_b16, hr_b16, go_sem, ↓reduceIte, Nat.reduceEqDiff, Nat.reduceLT, Nat.reduceLeDiff, Nat.reduceAdd, Nat.reduceMul, Nat.reduceSub, reduceCtorEq, Int.reduceToNat, Int.reduceLT, Int.reduceLE, Int.reduceEq, Int.reduceNe, Int.reduceBEq, Nat.reduceBEq, Int.reduceBNe, Nat.reduceBNe, Int.reduceAdd, Int.reduceSub, Int.reduceMul, Int.reduceNeg]
  refine AWp.rounds 6 ?_
  simp (dsimp := false) (maxSteps := 4000000) only [enc_len, enc_scal, lput_enc, take_enc, hn_b9, hr_b9, hn_b10, hr_b10, hn_b12, hr_b12, hn_b14, hr_b14, hn_b16, hr_b16, go_sem, ↓reduceIte, Nat.reduceEqDiff, Nat.reduceLT, Nat.reduceLeDiff, Nat.reduceAdd, Nat.reduceMul, Nat.reduceSub, reduceCtorEq, Int.reduceToNat, Int.reduceLT, Int.reduceLE, Int.reduceEq, Int.reduceNe, Int.reduceBEq, Nat.reduceBEq, Int.reduceBNe, Nat.reduceBNe, Int.reduceAdd, Int.reduceSub, Int.reduceMul, Int.reduceNeg]
  refine AWp.gen [.pu, .pu, .rd, .pu, .pu, .pu, .ch, .pu, .pu, .ch] [0, 1, 3, 0, 0, 16, 56, 127, 255, 511] 7 (_) mixed (by kernel_rfl) (AH.le_refl _) ?_
  simp (dsimp := false) (maxSteps := 4000000) only [hl, enc_len, enc_scal, lput_enc, take_enc, hn_b9, hr_b9, hn_b10, hr_b10, hn_b12, hr_b12, hn_b14, hr_b14, hn_b16, hr_b16, go_sem, ↓reduceIte, Nat.reduceEqDiff, Nat.reduceLT, Nat.reduceLeDiff, Nat.reduceAdd, Nat.reduceMul, Nat.reduceSub, reduceCtorEq, Int.reduceToNat, Int.reduceLT, Int.reduceLE, Int.reduceEq, Int.reduceNe, Int.reduceBEq, Nat.reduceBEq, Int.reduceBNe, Nat.reduceBNe, Int.reduceAdd, Int.reduceSub, Int.reduceMul, Int.reduceNeg]
  refine AWp.gen [.pu, .pu, .rd, .pu, .pu, .pu, .ch, .pu, .pu, .ch] [0, 1, 3, 0, 0, 16, 56, 127, 255, 511] 7 (_) mixed (by kernel_rfl) (AH.le_refl _) ?_
  simp (dsimp := false) (maxSteps := 4000000) only [hl, enc_len, enc_scal, lput_enc, take_enc, hn_b9, hr_b9, hn_b10, hr_b10, hn_b12, hr_b12, hn_b14, hr_b14, hn_b16, hr_b16, go_sem, ↓reduceIte, Nat.reduceEqDiff, Nat.reduceLT, Nat.reduceLeDiff, Nat.reduceAdd, Nat.reduceMul, Nat.reduceSub, reduceCtorEq, Int.reduceToNat, Int.reduceLT, Int.reduceLE, Int.reduceEq, Int.reduceNe, Int.reduceBEq, Nat.reduceBEq, Int.reduceBNe, Nat.reduceBNe, Int.reduceAdd, Int.reduceSub, Int.reduceMul, Int.reduceNeg]
  refine AWp.gen [.pu, .pu, .rd, .pu, .pu, .pu, .ch, .pu, .pu, .ch] [0, 1, 3, 0, 0, 16, 56, 127, 255, 511] 7 (_) mixed (by kernel_rfl) (AH.le_refl _) ?_
  simp (dsimp := false) (maxSteps := 4000000) only [hl, enc_len, enc_scal, lput_enc, take_enc, hn_b9, hr_b9, hn_b10, hr_b10, hn_b12, hr_b12, hn_b14, hr_b14, hn_b16, hr_b16, go_sem, ↓reduceIte, Nat.reduceEqDiff, Nat.reduceLT, Nat.reduceLeDiff, Nat.reduceAdd, Nat.reduceMul, Nat.reduceSub, reduceCtorEq, Int.reduceToNat, Int.reduceLT, Int.reduceLE, Int.reduceEq, Int.reduceNe, Int.reduceBEq, Nat.reduceBEq, Int.reduceBNe, Nat.reduceBNe, Int.reduceAdd, Int.reduceSub, Int.reduceMul, Int.reduceNeg]
  refine AWp.gen [.pu, .pu, .rd, .pu, .pu, .pu, .ch, .pu, .pu, .ch] [0, 1, 3, 0, 0, 16, 56, 127, 255, 511] 7 (_) mixed (by kernel_rfl) (AH.le_refl _) ?_
  simp (dsimp := false) (maxSteps := 4000000) only [hl, enc_len, enc_scal, lput_enc, take_enc, hn_b9, hr_b9, hn_b10, hr_b10, hn_b12, hr_b12, hn_b14, hr_b14, hn_b16, hr_b16, go_sem, ↓reduceIte, Nat.reduceEqDiff, Nat.reduceLT, Nat.reduceLeDiff, Nat.reduceAdd, Nat.reduceMul, Nat.reduceSub, reduceCtorEq, Int.reduceToNat, Int.reduceLT, Int.reduceLE, Int.reduceEq, Int.reduceNe, Int.reduceBEq, Nat.reduceBEq, Int.reduceBNe, Nat.reduceBNe, Int.reduceAdd, Int.reduceSub, Int.reduceMul, Int.reduceNeg]
  refine AWp.gen [.pu, .pu, .rd, .pu, .pu, .pu, .ch, .pu, .pu, .ch] [0, 1, 3, 0, 0, 16, 56, 127, 255, 511] 7 (_) mixed (by kernel_rfl) (AH.le_refl _) ?_
  simp (dsimp := false) (maxSteps := 4000000) only [hl, enc_len, enc_scal, lput_enc, take_enc, hn_b9, hr_b9, hn_b10, hr_b10, hn_b12, hr_b12, hn_b14, hr_b14, hn_b16, hr_b16, go_sem, ↓reduceIte, Nat.reduceEqDiff, Nat.reduceLT, Nat.reduceLeDiff, Nat.reduceAdd, Nat.reduceMul, Nat.reduceSub, reduceCtorEq, Int.reduceToNat, Int.reduceLT, Int.reduceLE, Int.reduceEq, Int.reduceNe, Int.reduceBEq, Nat.reduceBEq, Int.reduceBNe, Nat.reduceBNe, Int.reduceAdd, Int.reduceSub, Int.reduceMul, Int.reduceNeg]
  have hsv := fun H1 (hE1 : ErrT H1.w0) (h1 : StAt H1 b X den ft) => Serve_c hE1 h1 hX (tryQ name to a0 a1 a2 v tu) (tryQ_ok ..)
  have kT : ∀ {k9 k10 k12 k14 k16 : ABlk}, Keep H (((((H.add b9 k9).add b10 k10).add b12 k12).add b14 k14).add b16 k16) fun _ => False := fun {k9 k10 k12 k14 k16} => ((((Keep.refl.nw h_b9).nw (by simp only [fresh_add, ne_eq, hn_b10, not_false_eq_true, and_self])).nw (by simp only [fresh_add, ne_eq, hn_b12, not_false_eq_true, and_self])).nw (by simp only [fresh_add, ne_eq, hn_b14, not_false_eq_true, and_self])).nw (by simp only [fresh_add, ne_eq, hn_b16, not_false_eq_true, and_self])
  refine (hsv _ (by simp only [w0_add]; exact hE) (h.keep (ex := fun _ => False) kT fun _ _ h => h)).mono ?_
  rintro _ A ⟨ft', rfl, hst, hK, hf⟩
  have hf12 : Fresh H b12 := hn_b12.2.2
  have hnf12 : ¬ ft b12 := h.fresh hf12
  have hHA : Keep H A ft := (kT.mono fun _ h => h.elim).trans hK
  have hff : ∀ x, ft' x → ft x ∨ Fresh H x := fun x hx => (hf x hx).imp id fun h => kT.fr h
  have f12' : ¬ ft' b12 := fun hx => (hf _ hx).elim hnf12 fun h' => by
    have := h'.2
    rw [show AH.find _ b12 = some (.cells [.int .u8 0, .int .u8 0, .int .u8 0, .int .u8 0] 26 4) from (by (show AH.find _ _ = _; simp only [find_add_self, find_add_ne, find_fresh, fresh_add, fresh_set, ne_eq, not_false_eq_true, true_and, and_true, and_self, enc_len, enc_scal, lput_enc, take_enc, hn_b9, hr_b9, hn_b10, hr_b10, hn_b12, hr_b12, hn_b14, hr_b14, hn_b16, hr_b16]))] at this; cases this
  have f12 : A.find b12 = some (.cells [.int .u8 0, .int .u8 0, .int .u8 0, .int .u8 0] 26 4) := hK.find hnf12 (by (show AH.find _ _ = _; simp only [find_add_self, find_add_ne, find_fresh, fresh_add, fresh_set, ne_eq, not_false_eq_true, true_and, and_true, and_self, enc_len, enc_scal, lput_enc, take_enc, hn_b9, hr_b9, hn_b10, hr_b10, hn_b12, hr_b12, hn_b14, hr_b14, hn_b16, hr_b16]))
  have hMA : Mp A (.map tm) tu := hM.keepF hHA hMf
  have hX' : (tryQ name to a0 a1 a2 v tu).X X = tryX name to a0 a1 a2 v tu X := by rw [tryX, if_pos ha]
  have hD' : (tryQ name to a0 a1 a2 v tu).D X den = tryD name to a0 a1 a2 v tu X den := by rw [tryD, if_pos ha]
  rw [hX', hD'] at hst
  have fin : ∀ (vs : List Value) (k19 : ABlk) (b19 : Nat) (u : Value), Fresh A b19 → u = tryV name to a0 a1 a2 v tu X → ∃ H', H'.le ((A.set b12 (.cells vs 26 4)).add b19 k19) ∧ ∃ ft', u = tryV name to a0 a1 a2 v tu X ∧ StAt H' b (tryX name to a0 a1 a2 v tu X) (tryD name to a0 a1 a2 v tu X den) ft' ∧ Keep H H' ft ∧ ∀ x, ft' x → ft x ∨ Fresh H x := fun vs k19 b19 u h19 hu =>
    ⟨_, AH.le_add (AH.le_refl _) (by rw [find_set, if_neg (h19.ne_find f12)]; exact h19.2), ft', hu, hst.keep Keep.set fun x hx e => f12' (e ▸ hx), hHA.then Keep.set fun x e => .inr (e ▸ hf12), hff⟩
  clear hK hf hsv kT hl hn_b9 hr_b9 h_b9 hn_b10 hr_b10 h_b10 hn_b12 hr_b12 h_b12 hn_b14 hr_b14 h_b14 hn_b16 hr_b16 h_b16
  
  obtain ⟨q, hq⟩ : ∃ q, tryQ name to a0 a1 a2 v tu = q := ⟨_, rfl⟩
  obtain ⟨w, hw⟩ : ∃ w, q.W X = w := ⟨_, rfl⟩
  rw [hq]
  unfold serveV
  by_cases e0 : q.E X = 0
  case' neg =>
    rw [if_neg e0]
    
    simp (dsimp := false) (maxSteps := 4000000) only [enc_len, enc_scal, lput_enc, take_enc, go_sem, ↓reduceIte, Nat.reduceEqDiff, Nat.reduceLT, Nat.reduceLeDiff, Nat.reduceAdd, Nat.reduceMul, Nat.reduceSub, reduceCtorEq, Int.reduceToNat, Int.reduceLT, Int.reduceLE, Int.reduceEq, Int.reduceNe, Int.reduceBEq, Nat.reduceBEq, Int.reduceBNe, Nat.reduceBNe, Int.reduceAdd, Int.reduceSub, Int.reduceMul, Int.reduceNeg]
    refine AllB.mk fun b19 h_b19 => ?_; have hn_b19 := h_b19; (try simp only [fresh_add, fresh_set, ne_eq] at hn_b19); have hr_b19 := hn_b19; (try simp only [@eq_comm Nat b19] at hr_b19); simp (dsimp := false) (maxSteps := 4000000) only [enc_len, enc_scal, lput_enc, take_enc, hn_b19, hr_b19, go_sem, ↓reduceIte, Nat.reduceEqDiff, Nat.reduceLT, Nat.reduceLeDiff, Nat.reduceAdd, Nat.reduceMul, Nat.reduceSub, reduceCtorEq, Int.reduceToNat, Int.reduceLT, Int.reduceLE, Int.reduceEq, Int.reduceNe, Int.reduceBEq, Nat.reduceBEq, Int.reduceBNe, Nat.reduceBNe, Int.reduceAdd, Int.reduceSub, Int.reduceMul, Int.reduceNeg]
    have n19 : ¬ b19 = b12 := h_b19.ne_find f12
    have hw : A.wrs b12 0 [.int .u8 0, .int .u8 0, .int .u8 0, .int .u8 0] = some (A.set b12 (.cells [.int .u8 0, .int .u8 0, .int .u8 0, .int .u8 0] 26 4)) := by simp [AH.wrs, f12, lput, scal]
    have hfd : (A.set b12 (.cells [.int .u8 0, .int .u8 0, .int .u8 0, .int .u8 0] 26 4)).find b12 = some (.cells [.int .u8 0, .int .u8 0, .int .u8 0, .int .u8 0] 26 4) := by rw [find_set, if_pos rfl]
    have hr : (A.set b12 (.cells [.int .u8 0, .int .u8 0, .int .u8 0, .int .u8 0] 26 4)).row b12 0 4 = some [.int .u8 0, .int .u8 0, .int .u8 0, .int .u8 0] := row_find hfd (by simp)
    simp (dsimp := false) (maxSteps := 4000000) only [n19, hw, hr, enc_len, enc_scal, lput_enc, take_enc, hn_b19, hr_b19, go_sem, ↓reduceIte, Nat.reduceEqDiff, Nat.reduceLT, Nat.reduceLeDiff, Nat.reduceAdd, Nat.reduceMul, Nat.reduceSub, reduceCtorEq, Int.reduceToNat, Int.reduceLT, Int.reduceLE, Int.reduceEq, Int.reduceNe, Int.reduceBEq, Nat.reduceBEq, Int.reduceBNe, Nat.reduceBNe, Int.reduceAdd, Int.reduceSub, Int.reduceMul, Int.reduceNeg]
    exact fin _ _ _ _ h_b19 (by rw [tryV, if_pos ha, hq, tryE, tryW, if_neg e0, if_neg e0]; rfl)
    
  rw [if_pos e0]
  rw [hw]
  unfold dataV
  simp (dsimp := false) (maxSteps := 4000000) only [enc_len, enc_scal, lput_enc, take_enc, go_sem, ↓reduceIte, Nat.reduceEqDiff, Nat.reduceLT, Nat.reduceLeDiff, Nat.reduceAdd, Nat.reduceMul, Nat.reduceSub, reduceCtorEq, Int.reduceToNat, Int.reduceLT, Int.reduceLE, Int.reduceEq, Int.reduceNe, Int.reduceBEq, Nat.reduceBEq, Int.reduceBNe, Nat.reduceBNe, Int.reduceAdd, Int.reduceSub, Int.reduceMul, Int.reduceNeg]
  refine AllB.mk fun b19 h_b19 => ?_; have hn_b19 := h_b19; (try simp only [fresh_add, fresh_set, ne_eq] at hn_b19); have hr_b19 := hn_b19; (try simp only [@eq_comm Nat b19] at hr_b19); simp (dsimp := false) (maxSteps := 4000000) only [enc_len, enc_scal, lput_enc, take_enc, hn_b19, hr_b19, go_sem, ↓reduceIte, Nat.reduceEqDiff, Nat.reduceLT, Nat.reduceLeDiff, Nat.reduceAdd, Nat.reduceMul, Nat.reduceSub, reduceCtorEq, Int.reduceToNat, Int.reduceLT, Int.reduceLE, Int.reduceEq, Int.reduceNe, Int.reduceBEq, Nat.reduceBEq, Int.reduceBNe, Nat.reduceBNe, Int.reduceAdd, Int.reduceSub, Int.reduceMul, Int.reduceNeg]
  have hl2 := fun k19 i k => lkp_mp (H := A.add b19 k19) (tv := .map tm) (tu := tu) (Mp.addF h_b19 hMA) i k
  refine AWp.rounds 6 ?_
  simp (dsimp := false) (maxSteps := 4000000) only [enc_len, enc_scal, lput_enc, take_enc, hn_b19, hr_b19, go_sem, ↓reduceIte, Nat.reduceEqDiff, Nat.reduceLT, Nat.reduceLeDiff, Nat.reduceAdd, Nat.reduceMul, Nat.reduceSub, reduceCtorEq, Int.reduceToNat, Int.reduceLT, Int.reduceLE, Int.reduceEq, Int.reduceNe, Int.reduceBEq, Nat.reduceBEq, Int.reduceBNe, Nat.reduceBNe, Int.reduceAdd, Int.reduceSub, Int.reduceMul, Int.reduceNeg]
  refine AWp.gen [.pu, .pu, .rd, .pu, .pu, .pu, .ch, .pu, .pu, .ch] [0, 1, 3, 0, 0, 16, 56, 127, 255, 511] 7 (_) mixed (by kernel_rfl) (AH.le_refl _) ?_
  simp (dsimp := false) (maxSteps := 4000000) only [hl2, enc_len, enc_scal, lput_enc, take_enc, hn_b19, hr_b19, go_sem, ↓reduceIte, Nat.reduceEqDiff, Nat.reduceLT, Nat.reduceLeDiff, Nat.reduceAdd, Nat.reduceMul, Nat.reduceSub, reduceCtorEq, Int.reduceToNat, Int.reduceLT, Int.reduceLE, Int.reduceEq, Int.reduceNe, Int.reduceBEq, Nat.reduceBEq, Int.reduceBNe, Nat.reduceBNe, Int.reduceAdd, Int.reduceSub, Int.reduceMul, Int.reduceNeg]
  refine AWp.gen [.pu, .pu, .rd, .pu, .pu, .pu, .ch, .pu, .pu, .ch] [0, 1, 3, 0, 0, 16, 56, 127, 255, 511] 7 (_) mixed (by kernel_rfl) (AH.le_refl _) ?_
  simp (dsimp := false) (maxSteps := 4000000) only [hl2, enc_len, enc_scal, lput_enc, take_enc, hn_b19, hr_b19, go_sem, ↓reduceIte, Nat.reduceEqDiff, Nat.reduceLT, Nat.reduceLeDiff, Nat.reduceAdd, Nat.reduceMul, Nat.reduceSub, reduceCtorEq, Int.reduceToNat, Int.reduceLT, Int.reduceLE, Int.reduceEq, Int.reduceNe, Int.reduceBEq, Nat.reduceBEq, Int.reduceBNe, Nat.reduceBNe, Int.reduceAdd, Int.reduceSub, Int.reduceMul, Int.reduceNeg]
  refine AWp.gen [.pu, .pu, .rd, .pu, .pu, .pu, .ch, .pu, .pu, .ch] [0, 1, 3, 0, 0, 16, 56, 127, 255, 511] 7 (_) mixed (by kernel_rfl) (AH.le_refl _) ?_
  simp (dsimp := false) (maxSteps := 4000000) only [hl2, enc_len, enc_scal, lput_enc, take_enc, hn_b19, hr_b19, go_sem, ↓reduceIte, Nat.reduceEqDiff, Nat.reduceLT, Nat.reduceLeDiff, Nat.reduceAdd, Nat.reduceMul, Nat.reduceSub, reduceCtorEq, Int.reduceToNat, Int.reduceLT, Int.reduceLE, Int.reduceEq, Int.reduceNe, Int.reduceBEq, Nat.reduceBEq, Int.reduceBNe, Nat.reduceBNe, Int.reduceAdd, Int.reduceSub, Int.reduceMul, Int.reduceNeg]
  refine AWp.gen [.pu, .pu, .rd, .pu, .pu, .pu, .ch, .pu, .pu, .ch] [0, 1, 3, 0, 0, 16, 56, 127, 255, 511] 7 (_) mixed (by kernel_rfl) (AH.le_refl _) ?_
  simp (dsimp := false) (maxSteps := 4000000) only [hl2, enc_len, enc_scal, lput_enc, take_enc, hn_b19, hr_b19, go_sem, ↓reduceIte, Nat.reduceEqDiff, Nat.reduceLT, Nat.reduceLeDiff, Nat.reduceAdd, Nat.reduceMul, Nat.reduceSub, reduceCtorEq, Int.reduceToNat, Int.reduceLT, Int.reduceLE, Int.reduceEq, Int.reduceNe, Int.reduceBEq, Nat.reduceBEq, Int.reduceBNe, Nat.reduceBNe, Int.reduceAdd, Int.reduceSub, Int.reduceMul, Int.reduceNeg]
  refine AWp.gen [.pu, .pu, .rd, .pu, .pu, .pu, .ch, .pu, .pu, .ch] [0, 1, 3, 0, 0, 16, 56, 127, 255, 511] 7 (_) mixed (by kernel_rfl) (AH.le_refl _) ?_
  simp (dsimp := false) (maxSteps := 4000000) only [hl2, enc_len, enc_scal, lput_enc, take_enc, hn_b19, hr_b19, go_sem, ↓reduceIte, Nat.reduceEqDiff, Nat.reduceLT, Nat.reduceLeDiff, Nat.reduceAdd, Nat.reduceMul, Nat.reduceSub, reduceCtorEq, Int.reduceToNat, Int.reduceLT, Int.reduceLE, Int.reduceEq, Int.reduceNe, Int.reduceBEq, Nat.reduceBEq, Int.reduceBNe, Nat.reduceBNe, Int.reduceAdd, Int.reduceSub, Int.reduceMul, Int.reduceNeg]
  have hop := fun H1 => Open_c (backR w tu) (backC w tu) H1
  refine (hop _).mono ?_; rintro _ _ ⟨rfl, rfl⟩
  have n19 : ¬ b19 = b12 := h_b19.ne_find f12
  unfold openV
  by_cases eb : chk (rl (backR w tu)) = backC w tu
  · rw [if_pos eb]
    obtain ⟨z, hz⟩ : ∃ z, backR w tu = z := ⟨_, rfl⟩
    rw [hz]
    have hw' : A.wrs b12 0 (enc z) = some (A.set b12 (.cells (enc z) 26 4)) := by simp [AH.wrs, f12, enc, lput, scal]
    have hfd : (A.set b12 (.cells (enc z) 26 4)).find b12 = some (.cells (enc z) 26 4) := by rw [find_set, if_pos rfl]
    have hr : (A.set b12 (.cells (enc z) 26 4)).row b12 0 4 = some (enc z) := row_find hfd (by simp [enc])
    simp (dsimp := false) (maxSteps := 4000000) only [n19, hw', hr, enc_len, enc_scal, lput_enc, take_enc, hn_b19, hr_b19, go_sem, ↓reduceIte, Nat.reduceEqDiff, Nat.reduceLT, Nat.reduceLeDiff, Nat.reduceAdd, Nat.reduceMul, Nat.reduceSub, reduceCtorEq, Int.reduceToNat, Int.reduceLT, Int.reduceLE, Int.reduceEq, Int.reduceNe, Int.reduceBEq, Nat.reduceBEq, Int.reduceBNe, Nat.reduceBNe, Int.reduceAdd, Int.reduceSub, Int.reduceMul, Int.reduceNeg]
    exact fin _ _ _ _ h_b19 (by rw [tryV, if_pos ha, hq, tryE, tryW, if_pos e0, if_pos e0, hw, if_pos eb, if_pos eb, hz])
  · rw [if_neg eb]
    obtain ⟨z, hz⟩ : ∃ z, zr = z := ⟨_, rfl⟩
    rw [hz]
    have hw' : A.wrs b12 0 (enc z) = some (A.set b12 (.cells (enc z) 26 4)) := by simp [AH.wrs, f12, enc, lput, scal]
    have hfd : (A.set b12 (.cells (enc z) 26 4)).find b12 = some (.cells (enc z) 26 4) := by rw [find_set, if_pos rfl]
    have hr : (A.set b12 (.cells (enc z) 26 4)).row b12 0 4 = some (enc z) := row_find hfd (by simp [enc])
    simp (dsimp := false) (maxSteps := 4000000) only [n19, hw', hr, enc_len, enc_scal, lput_enc, take_enc, hn_b19, hr_b19, go_sem, ↓reduceIte, Nat.reduceEqDiff, Nat.reduceLT, Nat.reduceLeDiff, Nat.reduceAdd, Nat.reduceMul, Nat.reduceSub, reduceCtorEq, Int.reduceToNat, Int.reduceLT, Int.reduceLE, Int.reduceEq, Int.reduceNe, Int.reduceBEq, Nat.reduceBEq, Int.reduceBNe, Nat.reduceBNe, Int.reduceAdd, Int.reduceSub, Int.reduceMul, Int.reduceNeg]
    exact fin _ _ _ _ h_b19 (by rw [tryV, if_pos ha, hq, tryE, tryW, if_pos e0, if_pos e0, hw, if_neg eb, if_neg eb, hz])
end Go.Proofs.YtamlipffhimfmaaDoor.Srv

/- ifs: the fixed fact. -/
namespace Go.Proofs.YtamlipffhimfmaaDoor.Ifs
set_option linter.unusedSimpArgs false
set_option linter.unusedVariables false
open Go Go.AX Go.Proofs Ty Go.Proofs.YtamlipffhimfmaaDoor.File Go.Proofs.YtamlipffhimfmaaDoor.Err
set_option maxHeartbeats 4000000
set_option maxRecDepth 10000

def F1 : Fl := (2, newR 2 3)
def X1 : List Nf := addX [] 7 F1
def V9 : Rc := (9, 0, 0, 0)
def X2 : List Nf := doX X1 1 7 2 V9
theorem RcOk.zr : RcOk zr := ⟨by decide, by decide, by decide, by decide⟩
theorem ok1 : OkX X1 := OkX.nil.add 7 F1 (by unfold RcOk; decide +kernel)
theorem ok2 : OkX X2 := ok1.do 1 7 2 ⟨by decide, by decide, by decide, by decide⟩
end Go.Proofs.YtamlipffhimfmaaDoor.Ifs
