/- ifs: Copy. -/
import Derived.Test.YtmkbpdlijfjgkaaDoorIfs7
namespace Go.Proofs.YtmkbpdlijfjgkaaDoor.Ifs
set_option linter.unusedSimpArgs false
set_option linter.unusedVariables false
open Go Go.AX Go.Proofs Ty Go.Proofs.YtmkbpdlijfjgkaaDoor.File Go.Proofs.YtmkbpdlijfjgkaaDoor.Err
set_option maxHeartbeats 4000000
set_option maxRecDepth 10000

theorem pick_g : ∀ {l : List MapEntry} {ms : List MF}, (l.map (·.born)).Nodup → l.map (fun x => (x.key, x.val)) = ms.map MF.ent → ∃ g : MapEntry → MF, l.map g = ms ∧ ∀ e ∈ l, (e.key, e.val) = (g e).ent
  | [], [], _, _ => ⟨fun _ => ⟨0, 0, 0, 0, []⟩, rfl, by simp⟩
  | [], _ :: _, _, h => by simp at h
  | _ :: _, [], _, h => by simp at h
  | e0 :: l, m0 :: ms, hd, h => by
    simp only [List.map_cons, List.nodup_cons, List.mem_map, not_exists, not_and, List.cons.injEq] at hd h
    obtain ⟨g, h1, h2⟩ := pick_g hd.2 h.2
    refine ⟨fun e => if e.born = e0.born then m0 else g e, ?_, fun e he => ?_⟩
    · simp only [List.map_cons, if_true, List.cons.injEq, true_and]
      rw [← h1]
      exact List.map_congr_left fun e he => if_neg fun hb => hd.1 e he hb
    · rcases List.mem_cons.1 he with rfl | he
      · simp [h.1]
      · simp only [if_neg fun hb => hd.1 e he hb]
        exact h2 e he
theorem Copy_nil (H : AH) : ACalls Tryd.prog 21 #[.pointer none] H (fun v H' => v = .pointer none ∧ H = H') := by
  refine ACalls.enter2 Tryd.func21 rfl Tryd.ntmps21 Tryd.results21 (by simp) ?_; simp (dsimp := false) (maxSteps := 4000000) only [go_sem, ↓reduceIte, Nat.reduceEqDiff, Nat.reduceLT, Nat.reduceLeDiff, Nat.reduceAdd, Nat.reduceMul, Nat.reduceSub, reduceCtorEq, Int.reduceToNat, Int.reduceLT, Int.reduceLE, Int.reduceEq, Int.reduceNe, Int.reduceBEq, Nat.reduceBEq, Int.reduceBNe, Nat.reduceBNe, Int.reduceAdd, Int.reduceSub, Int.reduceMul, Int.reduceNeg]
  exact ⟨H, AH.le_refl _, rfl⟩
theorem mem_idx {α β : Type} {f : α → β} {l : List α} (h : (l.map f).Nodup) {a b : α} (ha : a ∈ l) (hb : b ∈ l) (e : f a = f b) : a = b := by
  obtain ⟨i, hi⟩ := List.mem_iff_getElem?.1 ha
  obtain ⟨j, hj⟩ := List.mem_iff_getElem?.1 hb
  have h1 : (l.map f)[i]? = some (f a) := by simp [hi]
  have h2 : (l.map f)[j]? = some (f a) := by simp [hj, e]
  have := (List.getElem?_inj (by simpa using Go.AX.lt_of_get hi) h).1 (h1.trans h2.symm)
  subst this
  rw [hi] at hj; cases hj; rfl
theorem Copy_c {H : AH} {b : Nat} {X : List Nf} {den : Int} {ft : Nat → Prop} (h : StAt H b X den ft) (hX : OkX X) :
    ACalls Tryd.prog 21 #[.pointer (some ⟨b, 0, none⟩)] H (fun u H' => ∃ b' X' ft', u = .pointer (some ⟨b', 0, none⟩) ∧ X'.Perm X ∧ StAt H' b' X' den ft' ∧ Keep H H' (fun _ => False) ∧ ∀ x, ft' x → Fresh H x) := by
  obtain ⟨bm, ms, h1, rfl, hft⟩ := h
  have r0 : H.rd ⟨b, 0, none⟩ = some (.map (some bm)) := by rw [rd_find h1.top]; rfl
  have r1 : H.rd ⟨b, 1, none⟩ = some (.int .i64 den) := by rw [rd_find h1.top]; rfl
  refine ACalls.enter2 Tryd.func21 rfl Tryd.ntmps21 Tryd.results21 (by simp) ?_; simp (dsimp := false) (maxSteps := 4000000) only [go_sem, ↓reduceIte, Nat.reduceEqDiff, Nat.reduceLT, Nat.reduceLeDiff, Nat.reduceAdd, Nat.reduceMul, Nat.reduceSub, reduceCtorEq, Int.reduceToNat, Int.reduceLT, Int.reduceLE, Int.reduceEq, Int.reduceNe, Int.reduceBEq, Nat.reduceBEq, Int.reduceBNe, Nat.reduceBNe, Int.reduceAdd, Int.reduceSub, Int.reduceMul, Int.reduceNeg]
  refine AllB.mk fun bn h_bn => ?_; have hn_bn := h_bn; (try simp only [fresh_add, fresh_set, ne_eq] at hn_bn); have hr_bn := hn_bn; (try simp only [@eq_comm Nat bn] at hr_bn); simp (dsimp := false) (maxSteps := 4000000) only [hn_bn, hr_bn, go_sem, ↓reduceIte, Nat.reduceEqDiff, Nat.reduceLT, Nat.reduceLeDiff, Nat.reduceAdd, Nat.reduceMul, Nat.reduceSub, reduceCtorEq, Int.reduceToNat, Int.reduceLT, Int.reduceLE, Int.reduceEq, Int.reduceNe, Int.reduceBEq, Nat.reduceBEq, Int.reduceBNe, Nat.reduceBNe, Int.reduceAdd, Int.reduceSub, Int.reduceMul, Int.reduceNeg]
  have n1 : ¬ bn = b := h_bn.ne_find h1.top
  have n2 : ¬ bn = bm := h_bn.ne_find h1.map
  simp (dsimp := false) (maxSteps := 4000000) only [r1, n1, hn_bn, hr_bn, go_sem, ↓reduceIte, Nat.reduceEqDiff, Nat.reduceLT, Nat.reduceLeDiff, Nat.reduceAdd, Nat.reduceMul, Nat.reduceSub, reduceCtorEq, Int.reduceToNat, Int.reduceLT, Int.reduceLE, Int.reduceEq, Int.reduceNe, Int.reduceBEq, Nat.reduceBEq, Int.reduceBNe, Nat.reduceBNe, Int.reduceAdd, Int.reduceSub, Int.reduceMul, Int.reduceNeg]
  refine AllB.mk fun bc h_bc => ?_; have hn_bc := h_bc; (try simp only [fresh_add, fresh_set, ne_eq] at hn_bc); have hr_bc := hn_bc; (try simp only [@eq_comm Nat bc] at hr_bc); simp (dsimp := false) (maxSteps := 4000000) only [hn_bn, hr_bn, hn_bc, hr_bc, go_sem, ↓reduceIte, Nat.reduceEqDiff, Nat.reduceLT, Nat.reduceLeDiff, Nat.reduceAdd, Nat.reduceMul, Nat.reduceSub, reduceCtorEq, Int.reduceToNat, Int.reduceLT, Int.reduceLE, Int.reduceEq, Int.reduceNe, Int.reduceBEq, Nat.reduceBEq, Int.reduceBNe, Nat.reduceBNe, Int.reduceAdd, Int.reduceSub, Int.reduceMul, Int.reduceNeg]
  have n3 : ¬ bc = b := hn_bc.2.ne_find h1.top
  have n4 : ¬ bc = bm := hn_bc.2.ne_find h1.map
  simp (dsimp := false) (maxSteps := 4000000) only [r0, n1, n3, hn_bn, hr_bn, hn_bc, hr_bc, go_sem, ↓reduceIte, Nat.reduceEqDiff, Nat.reduceLT, Nat.reduceLeDiff, Nat.reduceAdd, Nat.reduceMul, Nat.reduceSub, reduceCtorEq, Int.reduceToNat, Int.reduceLT, Int.reduceLE, Int.reduceEq, Int.reduceNe, Int.reduceBEq, Nat.reduceBEq, Int.reduceBNe, Nat.reduceBNe, Int.reduceAdd, Int.reduceSub, Int.reduceMul, Int.reduceNeg]
  refine RNG.map (es := ms.map MF.ent) Tryd.underlying64 (by rw [find_add, if_neg (Ne.symm n4), find_add, if_neg (Ne.symm n2)]; exact h1.map) fun en cl hm => AllB.mk fun bi h_bi => ?_
  simp (dsimp := false) (maxSteps := 4000000) only [hn_bn, hr_bn, hn_bc, hr_bc, go_sem, ↓reduceIte, Nat.reduceEqDiff, Nat.reduceLT, Nat.reduceLeDiff, Nat.reduceAdd, Nat.reduceMul, Nat.reduceSub, reduceCtorEq, Int.reduceToNat, Int.reduceLT, Int.reduceLE, Int.reduceEq, Int.reduceNe, Int.reduceBEq, Nat.reduceBEq, Int.reduceBNe, Nat.reduceBNe, Int.reduceAdd, Int.reduceSub, Int.reduceMul, Int.reduceNeg]
  refine AWp.imp ?_
  obtain ⟨g, hg1, hg2⟩ := pick_g hm.2.2 hm.1
  have hkd : (en.toList.map fun e => (g e).n).Nodup := by
    have := h1.kd
    rw [Kd, ← hg1, List.map_map, List.map_map] at this
    exact this
  have hf0 : (H.set bm (.obj (.map en cl))).find bm = some (.obj (.map en cl)) := by rw [find_set, if_pos rfl]
  have hfr : ∀ {x}, Fresh H x → ¬ x = bm → Fresh (H.set bm (.obj (.map en cl))) x := fun h hn => Fresh.mk' h hn
  have h_bi2 : ¬ bi = bm ∧ ¬ bi = bc ∧ ¬ bi = bn ∧ Fresh H bi := by simpa only [fresh_add, fresh_set, ne_eq] using h_bi
  have hae : AEq ((((H.set bm (.obj (.map en cl))).add bn (.amap [])).add bc (.cells [.map (some bn), .int .i64 den] 66 2)).add bi (.obj (.mapIter (some bm) cl #[] cl)))
      ((((H.add bn (.amap [])).add bc (.cells [.map (some bn), .int .i64 den] 66 2)).set bm (.obj (.map en cl))).add bi (.obj (.mapIter (some bm) cl #[] cl))) := ⟨rfl, fun x => by
    simp only [find_add, find_set]
    by_cases e1 : x = bi
    · simp [e1]
    by_cases e2 : x = bm
    · subst e2; simp [e1, Ne.symm n2, Ne.symm n4]
    · simp [e1, e2]⟩
  have hK0 : Keep (H.set bm (.obj (.map en cl))) ((((H.add bn (.amap [])).add bc (.cells [.map (some bn), .int .i64 den] 66 2)).set bm (.obj (.map en cl))).add bi (.obj (.mapIter (some bm) cl #[] cl))) fun _ => False :=
    (((Keep.refl.nw (hfr h_bn n2)).nw (by simp only [fresh_add, ne_eq, hn_bc.1, not_false_eq_true, true_and]; exact hfr hn_bc.2 n4)).nw (by simp only [fresh_add, ne_eq, h_bi2.2.1, h_bi2.2.2.1, not_false_eq_true, true_and]; exact hfr h_bi2.2.2.2 h_bi2.1)).trans (Keep.eq hae)
  refine AWp.loopr (ι := List MapEntry) (fun D A => Rnd en cl D ∧ A.find bi = some (.obj (.mapIter (some bm) cl (D.map (·.born)).toArray cl)) ∧ A.find bm = some (.obj (.map en cl)) ∧ Keep (H.set bm (.obj (.map en cl))) A (fun _ => False) ∧ ∃ ms', StIn A bc bn ms' den ∧ ms'.map MF.nf = (D.map g).map MF.nf ∧ ∀ x, ftOf bc bn ms' x → Fresh (H.set bm (.obj (.map en cl))) x)
    (fun D => [(19, .pointer (some ⟨bi, 0, none⟩)), (3, .pointer (some ⟨bc, 0, none⟩))]) (fun D => (left en D).length) [] _
    ⟨Rnd.nil hm.2, find_add_self _ _ _, by rw [find_add, if_neg (Ne.symm h_bi2.1), find_set, if_pos rfl], hK0, [], ⟨?_, ?_, by simp, by simp, by simp [Kd]⟩, rfl, ?_⟩ (FrLe.of_lks ?_) (AH.le_refl _) fun D A hV Q again out => ?_
  · rw [find_add, if_neg (Ne.symm h_bi2.2.1), find_set, if_neg n4, find_add_self]
  · rw [find_add, if_neg (Ne.symm h_bi2.2.2.1), find_set, if_neg n2, find_add, if_neg (Ne.symm hn_bc.1), find_add_self]; rfl
  · rintro x (rfl | rfl | ⟨_, hx, _⟩)
    · exact hfr hn_bc.2 n4
    · exact hfr h_bn n2
    · cases hx
  · simp (dsimp := false) (maxSteps := 4000000) only [hn_bn, hr_bn, hn_bc, hr_bc, go_sem, ↓reduceIte, Nat.reduceEqDiff, Nat.reduceLT, Nat.reduceLeDiff, Nat.reduceAdd, Nat.reduceMul, Nat.reduceSub, reduceCtorEq, Int.reduceToNat, Int.reduceLT, Int.reduceLE, Int.reduceEq, Int.reduceNe, Int.reduceBEq, Nat.reduceBEq, Int.reduceBNe, Nat.reduceBNe, Int.reduceAdd, Int.reduceSub, Int.reduceMul, Int.reduceNeg]
  obtain ⟨hR, hi, hmb, hK, ms', hS, hnf, hft'⟩ := hV
  
  simp (dsimp := false) (maxSteps := 4000000) only [go_sem, ↓reduceIte, Nat.reduceEqDiff, Nat.reduceLT, Nat.reduceLeDiff, Nat.reduceAdd, Nat.reduceMul, Nat.reduceSub, reduceCtorEq, Int.reduceToNat, Int.reduceLT, Int.reduceLE, Int.reduceEq, Int.reduceNe, Int.reduceBEq, Nat.reduceBEq, Int.reduceBNe, Nat.reduceBNe, Int.reduceAdd, Int.reduceSub, Int.reduceMul, Int.reduceNeg]
  refine NXT.map hi hmb hR.ok (fun hl => ?_) (fun e he => ?_)
  · simp (dsimp := false) (maxSteps := 4000000) only [go_sem, ↓reduceIte, Nat.reduceEqDiff, Nat.reduceLT, Nat.reduceLeDiff, Nat.reduceAdd, Nat.reduceMul, Nat.reduceSub, reduceCtorEq, Int.reduceToNat, Int.reduceLT, Int.reduceLE, Int.reduceEq, Int.reduceNe, Int.reduceBEq, Nat.reduceBEq, Int.reduceBNe, Nat.reduceBNe, Int.reduceAdd, Int.reduceSub, Int.reduceMul, Int.reduceNeg]
    refine out _ _ _ (by simp) ?_
    refine ⟨A.set bm (.amap (ms.map MF.ent)), Imp.amap hmb hm rfl (fun x k hx hne => by rw [find_set, if_neg hne] at hx; exact hx) (fun k hk => by rw [find_set, if_pos rfl] at hk; exact (Option.some.inj hk).symm), ?_⟩
    simp (dsimp := false) (maxSteps := 4000000) only [go_sem, ↓reduceIte, Nat.reduceEqDiff, Nat.reduceLT, Nat.reduceLeDiff, Nat.reduceAdd, Nat.reduceMul, Nat.reduceSub, reduceCtorEq, Int.reduceToNat, Int.reduceLT, Int.reduceLE, Int.reduceEq, Int.reduceNe, Int.reduceBEq, Nat.reduceBEq, Int.reduceBNe, Nat.reduceBNe, Int.reduceAdd, Int.reduceSub, Int.reduceMul, Int.reduceNeg]
    refine ⟨_, AH.le_refl _, bc, (ms'.map MF.nf), ftOf bc bn ms', rfl, ?_, ⟨bn, ms', ?_, rfl, fun _ => Iff.rfl⟩, ?_, fun x hx => ?_⟩
    · rw [hnf, ← hg1]
      exact ((hR.done hl).map g).map MF.nf
    · exact hS.keep Keep.set fun x hx e => by
        subst e
        have := (hft' _ hx).2
        rw [find_set, if_pos rfl] at this; cases this
    · refine ⟨hK.w0, fun x _ hx => ?_⟩
      by_cases e : x = bm
      · subst e; rw [find_set, if_pos rfl, h1.map]
      · rw [find_set, if_neg e, hK.at_ x (fun h => h) (by rw [find_set, if_neg e]; exact hx), find_set, if_neg e]
    · have := hft' x hx
      refine ⟨this.1, ?_⟩
      have h2 := this.2
      rw [find_set] at h2
      split at h2
      · cases h2
      · exact h2
  · obtain ⟨hmem, hnb⟩ := Rnd.of_left (cl := cl) he
    have hge := hg2 e hmem
    have hgm : g e ∈ ms := by rw [← hg1]; exact List.mem_map_of_mem hmem
    simp (dsimp := false) (maxSteps := 4000000) only [go_sem, ↓reduceIte, Nat.reduceEqDiff, Nat.reduceLT, Nat.reduceLeDiff, Nat.reduceAdd, Nat.reduceMul, Nat.reduceSub, reduceCtorEq, Int.reduceToNat, Int.reduceLT, Int.reduceLE, Int.reduceEq, Int.reduceNe, Int.reduceBEq, Nat.reduceBEq, Int.reduceBNe, Nat.reduceBNe, Int.reduceAdd, Int.reduceSub, Int.reduceMul, Int.reduceNeg]
    refine ENT.map (by rw [find_set, if_pos rfl]) (by rw [find_set, if_neg (Ne.symm h_bi2.1)]; exact hmb) hR.ok hmem ?_
    have hek : e.key = .int .i64 (g e).n := (Prod.mk.inj hge).1
    have hev : e.val = .agg #[.int .i64 (g e).p, .slice (some ⟨(g e).blk, 0, none⟩) (g e).R.length (g e).R.length] := (Prod.mk.inj hge).2
    rw [hek, hev]
    simp (dsimp := false) (maxSteps := 4000000) only [go_sem, ↓reduceIte, Nat.reduceEqDiff, Nat.reduceLT, Nat.reduceLeDiff, Nat.reduceAdd, Nat.reduceMul, Nat.reduceSub, reduceCtorEq, Int.reduceToNat, Int.reduceLT, Int.reduceLE, Int.reduceEq, Int.reduceNe, Int.reduceBEq, Nat.reduceBEq, Int.reduceBNe, Nat.reduceBNe, Int.reduceAdd, Int.reduceSub, Int.reduceMul, Int.reduceNeg]
    have hbi0 : Fresh (H.set bm (.obj (.map en cl))) bi := hfr h_bi2.2.2.2 h_bi2.1
    have hS1 : StIn (A.set bi (.obj (.mapIter (some bm) cl ((D ++ [e]).map (·.born)).toArray cl))) bc bn ms' den := hS.keep Keep.set fun x hx e => by
      subst e
      rcases hx with rfl | rfl | ⟨m, hm', rfl⟩
      · rw [hS.top] at hi; cases hi
      · rw [hS.map] at hi; cases hi
      · rw [(hS.rows m hm').1] at hi; cases hi
    have hK1 : Keep (H.set bm (.obj (.map en cl))) (A.set bi (.obj (.mapIter (some bm) cl ((D ++ [e]).map (·.born)).toArray cl))) fun _ => False := hK.ow Keep.set fun x hx => hx ▸ hbi0
    have hi1 : (A.set bi (.obj (.mapIter (some bm) cl ((D ++ [e]).map (·.born)).toArray cl))).find bi = some (.obj (.mapIter (some bm) cl ((D ++ [e]).map (·.born)).toArray cl)) := by rw [find_set, if_pos rfl]
    have hm1 : (A.set bi (.obj (.mapIter (some bm) cl ((D ++ [e]).map (·.born)).toArray cl))).find bm = some (.obj (.map en cl)) := by rw [find_set, if_neg (Ne.symm h_bi2.1)]; exact hmb
    generalize A.set bi (.obj (.mapIter (some bm) cl ((D ++ [e]).map (·.born)).toArray cl)) = A1 at hS1 hK1 hi1 hm1 ⊢
    obtain ⟨hgr, hgb⟩ := h1.rows (g e) hgm
    have hrow1 : A1.find (g e).blk = some (.cells ((g e).R.map enc).flatten 32 (g e).bs) := hK1.find (fun h => h) (by rw [find_set, if_neg (h1.ne3 hgm)]; exact hgr)
    obtain ⟨_, hgd, _⟩ := hX.ok (g e).nf (List.mem_map_of_mem hgm)
    obtain ⟨hl1, hl2⟩ := goodF_len hgd
    have hl1' : 1 ≤ (g e).R.length := hl1
    have hl2' : (g e).R.length ≤ 256 := hl2
    have hs1 : SlcIn A1 4 (some ⟨(g e).blk, 0, none⟩) (g e).R.length ((g e).R.map enc) := SlcIn.of_find hrow1 (rows4 _) (by simp) (by simp; omega)
    have hlk : lk (g e).n (ms'.map MF.nf) = none := by
      rw [hnf, lk_none]
      intro x hx
      obtain ⟨y, hy, rfl⟩ := List.mem_map.1 hx
      obtain ⟨d, hd, rfl⟩ := List.mem_map.1 hy
      intro hne
      have := mem_idx hkd (hR.sub d hd) hmem hne
      subst this
      exact hnb (List.mem_map_of_mem hd)
    have r0' : A1.rd ⟨bc, 0, none⟩ = some (.map (some bn)) := by rw [rd_find hS1.top]; rfl
    have hmp' : A1.mp bn = some (ms'.map MF.ent) := by rw [AH.mp, hS1.map]
    have hms' : ∀ es, A1.mset bn es = some (A1.set bn (.amap es)) := fun es => by rw [AH.mset, hS1.map]
    have hmk : mlk (.int .i64) (.int .i64 (g e).n) (ms'.map MF.ent) 0 = some none := by
      rcases hS1.at_ (g e).n with ⟨h, _⟩ | ⟨_, _, _, _, _, h⟩
      · exact h
      · rw [hlk] at h; cases h
    have hown := fun H1 (hs : SlcIn H1 4 (some ⟨(g e).blk, 0, none⟩) (g e).R.length ((g e).R.map enc)) => own_c (g e).p (g e).R _ _ H1 hs (by omega) (by omega)
    unfold fv at hown
    refine AllB.mk fun b5 h_b5 => ?_; have hn_b5 := h_b5; (try simp only [fresh_add, fresh_set, ne_eq] at hn_b5); have hr_b5 := hn_b5; (try simp only [@eq_comm Nat b5] at hr_b5); simp (dsimp := false) (maxSteps := 4000000) only [hn_b5, hr_b5, go_sem, ↓reduceIte, Nat.reduceEqDiff, Nat.reduceLT, Nat.reduceLeDiff, Nat.reduceAdd, Nat.reduceMul, Nat.reduceSub, reduceCtorEq, Int.reduceToNat, Int.reduceLT, Int.reduceLE, Int.reduceEq, Int.reduceNe, Int.reduceBEq, Nat.reduceBEq, Int.reduceBNe, Nat.reduceBNe, Int.reduceAdd, Int.reduceSub, Int.reduceMul, Int.reduceNeg]
    have m1 : ¬ b5 = bc := h_b5.ne_find hS1.top
    have m2 : ¬ b5 = bn := h_b5.ne_find hS1.map
    refine AWp.gen [.pu, .pu, .pu, .rd, .pu, .rd, .ch, .ch] [0, 1, 3, 7, 0, 0, 32, 127] 7 (_) mixed (by kernel_rfl) (AH.le_refl _) ?_
    simp (dsimp := false) (maxSteps := 4000000) only [r0', m1, m2, hn_b5, hr_b5, go_sem, ↓reduceIte, Nat.reduceEqDiff, Nat.reduceLT, Nat.reduceLeDiff, Nat.reduceAdd, Nat.reduceMul, Nat.reduceSub, reduceCtorEq, Int.reduceToNat, Int.reduceLT, Int.reduceLE, Int.reduceEq, Int.reduceNe, Int.reduceBEq, Nat.reduceBEq, Int.reduceBNe, Nat.reduceBNe, Int.reduceAdd, Int.reduceSub, Int.reduceMul, Int.reduceNeg]
    refine (hown _ (hs1.add h_b5)).mono ?_; rintro _ _ ⟨b9, bs, h_b9, rfl, hbs, rfl⟩
    have hn_b9 := h_b9; (try simp only [fresh_add, fresh_set, ne_eq] at hn_b9); have hr_b9 := hn_b9; (try simp only [@eq_comm Nat b9] at hr_b9)
    have m3 : ¬ b9 = bc := hn_b9.2.ne_find hS1.top
    have m4 : ¬ b9 = bn := hn_b9.2.ne_find hS1.map
    simp (dsimp := false) (maxSteps := 4000000) only [r0', m1, m2, m3, m4, hmp', hms', hmk, hn_b5, hr_b5, hn_b9, hr_b9, go_sem, ↓reduceIte, Nat.reduceEqDiff, Nat.reduceLT, Nat.reduceLeDiff, Nat.reduceAdd, Nat.reduceMul, Nat.reduceSub, reduceCtorEq, Int.reduceToNat, Int.reduceLT, Int.reduceLE, Int.reduceEq, Int.reduceNe, Int.reduceBEq, Nat.reduceBEq, Int.reduceBNe, Nat.reduceBNe, Int.reduceAdd, Int.reduceSub, Int.reduceMul, Int.reduceNeg]
    have hent : (MF.mk (g e).n (g e).p b9 bs (g e).R).ent = (.int .i64 (g e).n, .agg #[.int .i64 (g e).p, .slice (some ⟨b9, 0, none⟩) (g e).R.length (g e).R.length]) := rfl
    have f9 : Fresh (A1.set bn (.amap (ms'.map MF.ent ++ [(MF.mk (g e).n (g e).p b9 bs (g e).R).ent]))) b9 := Fresh.mk' hn_b9.2 m4
    refine ⟨AH.le_add (AH.le_refl _) h_b9.2, again (D ++ [e]) _ ((A1.set bn (.amap (ms'.map MF.ent ++ [(MF.mk (g e).n (g e).p b9 bs (g e).R).ent]))).add b9 (.cells ((g e).R.map enc).flatten 32 bs)) _ ⟨hR.step he, ?_, ?_, ?_, ms' ++ [MF.mk (g e).n (g e).p b9 bs (g e).R], hS1.app hn_b9.2 hlk hbs rfl, ?_, ?_⟩ (FrLe.of_lks (by simp (dsimp := false) (maxSteps := 4000000) only [hn_b5, hr_b5, hn_b9, hr_b9, go_sem, ↓reduceIte, Nat.reduceEqDiff, Nat.reduceLT, Nat.reduceLeDiff, Nat.reduceAdd, Nat.reduceMul, Nat.reduceSub, reduceCtorEq, Int.reduceToNat, Int.reduceLT, Int.reduceLE, Int.reduceEq, Int.reduceNe, Int.reduceBEq, Nat.reduceBEq, Int.reduceBNe, Nat.reduceBNe, Int.reduceAdd, Int.reduceSub, Int.reduceMul, Int.reduceNeg])) ?_ (Rnd.less he)⟩
    · rw [find_add, if_neg (Ne.symm (hn_b9.2.ne_find hi1)), find_set, if_neg h_bi2.2.2.1]; exact hi1
    · rw [find_add, if_neg (Ne.symm (hn_b9.2.ne_find hm1)), find_set, if_neg (Ne.symm n2)]; exact hm1
    · exact (hK1.ow Keep.set fun x hx => hx ▸ hft' bn (.inr (.inl rfl))).nw f9
    · rw [List.map_append, hnf, List.map_append, List.map_append]; rfl
    · intro x hx
      rcases StIn.ftA (ft := ftOf bc bn ms') (fun _ h => h) hx with hx | rfl
      · exact hft' x hx
      · exact hK1.fr hn_b9.2
    · refine AH.le_cons (find_add_self _ _ _) (AH.le_add (AH.le_add (AH.le_refl _) ?_) ?_)
      · rw [find_set, if_neg m2]; exact h_b5.2
      · rw [find_add, if_neg hn_b9.1, find_set, if_neg m4]; exact hn_b9.2.2
end Go.Proofs.YtmkbpdlijfjgkaaDoor.Ifs
