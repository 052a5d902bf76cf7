/- ifs: Add. -/
import Derived.Test.YtmkbpdlijfjgkaaDoorIfs3
namespace Go.Proofs.YtmkbpdlijfjgkaaDoor.Ifs
set_option linter.unusedSimpArgs false
set_option linter.unusedVariables false
open Go Go.AX Go.Proofs Ty Go.Proofs.YtmkbpdlijfjgkaaDoor.File Go.Proofs.YtmkbpdlijfjgkaaDoor.Err
set_option maxHeartbeats 4000000
set_option maxRecDepth 10000

theorem Fresh.mk' {H : AH} {b c : Nat} {k : ABlk} (h : Fresh H b) (hn : ¬ b = c) : Fresh (H.set c k) b := ⟨h.1, by rw [find_set, if_neg hn]; exact h.2⟩
theorem Add_nil (n p : Int) (R : List Rc) (base : Option Addr) (cap : Nat) (H : AH) : ACalls Tryd.prog 8 #[.pointer none, .int .i64 n, fv p base R.length cap] H (fun v H' => v = .int .i64 1 ∧ H = H') := by
  unfold fv
  refine ACalls.enter2 Tryd.func8 rfl Tryd.ntmps8 Tryd.results8 (by simp) ?_; simp (dsimp := false) (maxSteps := 4000000) only [go_sem, ↓reduceIte, Nat.reduceEqDiff, Nat.reduceLT, Nat.reduceLeDiff, Nat.reduceAdd, Nat.reduceMul, Nat.reduceSub, reduceCtorEq, Int.reduceToNat, Int.reduceLT, Int.reduceLE, Int.reduceEq, Int.reduceNe, Int.reduceBEq, Nat.reduceBEq, Int.reduceBNe, Nat.reduceBNe, Int.reduceAdd, Int.reduceSub, Int.reduceMul, Int.reduceNeg]
  refine AllB.mk fun b5 h_b5 => ?_; have hn_b5 := h_b5; (try simp only [fresh_add, fresh_set, ne_eq] at hn_b5); have hr_b5 := hn_b5; (try simp only [@eq_comm Nat b5] at hr_b5); simp (dsimp := false) (maxSteps := 4000000) only [hn_b5, hr_b5, go_sem, ↓reduceIte, Nat.reduceEqDiff, Nat.reduceLT, Nat.reduceLeDiff, Nat.reduceAdd, Nat.reduceMul, Nat.reduceSub, reduceCtorEq, Int.reduceToNat, Int.reduceLT, Int.reduceLE, Int.reduceEq, Int.reduceNe, Int.reduceBEq, Nat.reduceBEq, Int.reduceBNe, Nat.reduceBNe, Int.reduceAdd, Int.reduceSub, Int.reduceMul, Int.reduceNeg]
  exact ⟨H, (AH.le_add (AH.le_refl _) ((by simp only [fresh_add, fresh_set, ne_eq, hn_b5, not_false_eq_true, and_self] : Fresh _ b5).2)), (by first | exact ⟨rfl, rfl⟩ | rfl)⟩
theorem StIn.app {H : AH} {b bm : Nat} {ms : List MF} {den : Int} {m : MF} {T : AH} (h : StIn H b bm ms den) (hf : Fresh H m.blk) (hl : lk m.n (ms.map MF.nf) = none) (hb : m.R.length * 4 ≤ m.bs)
    (hT : T = (H.set bm (.amap (ms.map MF.ent ++ [m.ent]))).add m.blk (.cells (m.R.map enc).flatten 32 m.bs)) : StIn T b bm (ms ++ [m]) den := by
  subst hT
  have e1 : b ≠ m.blk := fun e => by have := hf.2; rw [← e, h.top] at this; cases this
  have e2 : bm ≠ m.blk := fun e => by have := hf.2; rw [← e, h.map] at this; cases this
  refine ⟨?_, ?_, fun x hx => ?_, ?_, ?_⟩
  · rw [find_add, if_neg e1, find_set, if_neg h.ne1]; exact h.top
  · rw [find_add, if_neg e2, find_set, if_pos rfl]; simp
  · rcases List.mem_append.1 hx with hx | hx
    · have := h.rows x hx
      have e3 : x.blk ≠ m.blk := fun e => by have h2 := hf.2; rw [← e, this.1] at h2; cases h2
      exact ⟨by rw [find_add, if_neg e3, find_set, if_neg (h.ne3 hx)]; exact this.1, this.2⟩
    · rw [List.mem_singleton.1 hx]
      exact ⟨by rw [find_add, if_pos rfl], hb⟩
  · rw [List.map_append, List.nodup_append]
    refine ⟨h.nd, by simp, fun x hx y hy => ?_⟩
    obtain ⟨z, hz, rfl⟩ := List.mem_map.1 hx
    simp at hy; subst hy
    intro e
    have h2 := hf.2
    rw [← e, (h.rows z hz).1] at h2; cases h2
  · rw [List.map_append]
    have := lk_none.1 hl
    rw [Kd, List.map_append, List.nodup_append]
    refine ⟨h.kd, by simp, fun x hx y hy => ?_⟩
    obtain ⟨z, hz, rfl⟩ := List.mem_map.1 hx
    simp at hy; subst hy
    exact fun e => this z hz e
theorem StIn.ftA {b bm : Nat} {ms : List MF} {m : MF} {ft : Nat → Prop} (h : ∀ x, ftOf b bm ms x → ft x) {x : Nat} (hx : ftOf b bm (ms ++ [m]) x) : ft x ∨ x = m.blk := by
  rcases hx with hx | hx | ⟨y, hy, rfl⟩
  · exact .inl (h x (.inl hx))
  · exact .inl (h x (.inr (.inl hx)))
  · rcases List.mem_append.1 hy with hy | hy
    · exact .inl (h _ (.inr (.inr ⟨y, hy, rfl⟩)))
    · rw [List.mem_singleton.1 hy]; exact .inr rfl
theorem StIn.ftB {b bm : Nat} {ms : List MF} {m : MF} {ft : Nat → Prop} (h : ∀ x, ft x ↔ ftOf b bm ms x) {x : Nat} : (ft x ∨ x = m.blk) ↔ ftOf b bm (ms ++ [m]) x := by
  refine ⟨fun hx => ?_, fun hx => StIn.ftA (fun x => (h x).2) hx⟩
  rcases hx with hx | rfl
  · rcases (h x).1 hx with hx | hx | ⟨y, hy, rfl⟩
    · exact .inl hx
    · exact .inr (.inl hx)
    · exact .inr (.inr ⟨y, List.mem_append_left _ hy, rfl⟩)
  · exact .inr (.inr ⟨m, by simp, rfl⟩)
theorem Add_c {H : AH} {b : Nat} {X : List Nf} {den : Int} {ft : Nat → Prop} (h : StAt H b X den ft) (n p : Int) (R : List Rc) (base : Option Addr) (cap : Nat) (hs : SlcIn H 4 base cap (R.map enc)) :
    ACalls Tryd.prog 8 #[.pointer (some ⟨b, 0, none⟩), .int .i64 n, fv p base R.length cap] H (fun u H' => ∃ ft', u = .int .i64 (addE X n (p, R)) ∧ StAt H' b (addX X n (p, R)) den ft' ∧ Keep H H' ft ∧ ∀ x, ft' x → ft x ∨ Fresh H x) := by
  have hgood := fun H1 (h1 : SlcIn H1 4 base cap (R.map enc)) => File.Good_c p R base cap H1 h1
  have bad : ∀ {e : Int} {T : AH}, addE X n (p, R) = e → e ≠ 0 → H.le T → ∃ H', H'.le T ∧ ∃ ft', Value.int .i64 e = .int .i64 (addE X n (p, R)) ∧ StAt H' b (addX X n (p, R)) den ft' ∧ Keep H H' ft ∧ ∀ x, ft' x → ft x ∨ Fresh H x := fun {e T} he h0 hl => by
    have hx : addX X n (p, R) = X := by rw [addX, he, if_neg h0]
    exact ⟨H, hl, ft, by rw [he], by rw [hx]; exact h, Keep.refl, fun x h => .inl h⟩
  unfold fv at hgood ⊢
  refine ACalls.enter2 Tryd.func8 rfl Tryd.ntmps8 Tryd.results8 (by simp) ?_; simp (dsimp := false) (maxSteps := 4000000) only [go_sem, ↓reduceIte, Nat.reduceEqDiff, Nat.reduceLT, Nat.reduceLeDiff, Nat.reduceAdd, Nat.reduceMul, Nat.reduceSub, reduceCtorEq, Int.reduceToNat, Int.reduceLT, Int.reduceLE, Int.reduceEq, Int.reduceNe, Int.reduceBEq, Nat.reduceBEq, Int.reduceBNe, Nat.reduceBNe, Int.reduceAdd, Int.reduceSub, Int.reduceMul, Int.reduceNeg]
  refine AllB.mk fun b5 h_b5 => ?_; have hn_b5 := h_b5; (try simp only [fresh_add, fresh_set, ne_eq] at hn_b5); have hr_b5 := hn_b5; (try simp only [@eq_comm Nat b5] at hr_b5); simp (dsimp := false) (maxSteps := 4000000) only [hn_b5, hr_b5, go_sem, ↓reduceIte, Nat.reduceEqDiff, Nat.reduceLT, Nat.reduceLeDiff, Nat.reduceAdd, Nat.reduceMul, Nat.reduceSub, reduceCtorEq, Int.reduceToNat, Int.reduceLT, Int.reduceLE, Int.reduceEq, Int.reduceNe, Int.reduceBEq, Nat.reduceBEq, Int.reduceBNe, Nat.reduceBNe, Int.reduceAdd, Int.reduceSub, Int.reduceMul, Int.reduceNeg]
  by_cases a1 : n < 0
  · simp (dsimp := false) (maxSteps := 4000000) only [a1, hn_b5, hr_b5, go_sem, ↓reduceIte, Nat.reduceEqDiff, Nat.reduceLT, Nat.reduceLeDiff, Nat.reduceAdd, Nat.reduceMul, Nat.reduceSub, reduceCtorEq, Int.reduceToNat, Int.reduceLT, Int.reduceLE, Int.reduceEq, Int.reduceNe, Int.reduceBEq, Nat.reduceBEq, Int.reduceBNe, Nat.reduceBNe, Int.reduceAdd, Int.reduceSub, Int.reduceMul, Int.reduceNeg]
    exact bad (by simp [addE, a1]) (by decide) (AH.le_add (AH.le_refl _) ((by simp only [fresh_add, fresh_set, ne_eq, hn_b5, not_false_eq_true, and_self] : Fresh _ b5).2))
  by_cases a2 : 64 ≤ n
  · simp (dsimp := false) (maxSteps := 4000000) only [a1, a2, hn_b5, hr_b5, go_sem, ↓reduceIte, Nat.reduceEqDiff, Nat.reduceLT, Nat.reduceLeDiff, Nat.reduceAdd, Nat.reduceMul, Nat.reduceSub, reduceCtorEq, Int.reduceToNat, Int.reduceLT, Int.reduceLE, Int.reduceEq, Int.reduceNe, Int.reduceBEq, Nat.reduceBEq, Int.reduceBNe, Nat.reduceBNe, Int.reduceAdd, Int.reduceSub, Int.reduceMul, Int.reduceNeg]
    exact bad (by simp [addE, a2]) (by decide) (AH.le_add (AH.le_refl _) ((by simp only [fresh_add, fresh_set, ne_eq, hn_b5, not_false_eq_true, and_self] : Fresh _ b5).2))
  simp (dsimp := false) (maxSteps := 4000000) only [a1, a2, hn_b5, hr_b5, go_sem, ↓reduceIte, Nat.reduceEqDiff, Nat.reduceLT, Nat.reduceLeDiff, Nat.reduceAdd, Nat.reduceMul, Nat.reduceSub, reduceCtorEq, Int.reduceToNat, Int.reduceLT, Int.reduceLE, Int.reduceEq, Int.reduceNe, Int.reduceBEq, Nat.reduceBEq, Int.reduceBNe, Nat.reduceBNe, Int.reduceAdd, Int.reduceSub, Int.reduceMul, Int.reduceNeg]
  refine (hgood _ (hs.add (by simp only [fresh_add, ne_eq, hn_b5, not_false_eq_true, and_self] : Fresh _ b5))).mono ?_; rintro _ _ ⟨rfl, rfl⟩
  cases hg : goodF p R with
  | false =>
    simp (dsimp := false) (maxSteps := 4000000) only [hn_b5, hr_b5, go_sem, ↓reduceIte, Nat.reduceEqDiff, Nat.reduceLT, Nat.reduceLeDiff, Nat.reduceAdd, Nat.reduceMul, Nat.reduceSub, reduceCtorEq, Int.reduceToNat, Int.reduceLT, Int.reduceLE, Int.reduceEq, Int.reduceNe, Int.reduceBEq, Nat.reduceBEq, Int.reduceBNe, Nat.reduceBNe, Int.reduceAdd, Int.reduceSub, Int.reduceMul, Int.reduceNeg]
    exact bad (by simp [addE, a1, a2, hg]) (by decide) (AH.le_add (AH.le_refl _) ((by simp only [fresh_add, fresh_set, ne_eq, hn_b5, not_false_eq_true, and_self] : Fresh _ b5).2))
  | true =>
    obtain ⟨hl1, hl2⟩ := goodF_len hg
    obtain ⟨bm, ms, h1, rfl, hft⟩ := h
    have r0 : H.rd ⟨b, 0, none⟩ = some (.map (some bm)) := by rw [rd_find h1.top]; rfl
    have hmp : H.mp bm = some (ms.map MF.ent) := by rw [AH.mp, h1.map]
    have hms : ∀ es, H.mset bm es = some (H.set bm (.amap es)) := fun es => by rw [AH.mset, h1.map]
    have n1 : ¬ b5 = b := h_b5.ne_find h1.top
    have n2 : ¬ b5 = bm := h_b5.ne_find h1.map
    rcases h1.at_ n with ⟨hm, hl⟩ | ⟨k, m, hm, hk, hn, hl⟩
    · have he : addE (ms.map MF.nf) n (p, R) = 0 := by simp [addE, a1, a2, hg, hl]
      have hx : addX (ms.map MF.nf) n (p, R) = ms.map MF.nf ++ [(n, (p, R))] := by rw [addX, if_pos he]
      rw [he, hx]
      
      simp (dsimp := false) (maxSteps := 4000000) only [r0, n1, n2, hmp, hm, hn_b5, hr_b5, go_sem, ↓reduceIte, Nat.reduceEqDiff, Nat.reduceLT, Nat.reduceLeDiff, Nat.reduceAdd, Nat.reduceMul, Nat.reduceSub, reduceCtorEq, Int.reduceToNat, Int.reduceLT, Int.reduceLE, Int.reduceEq, Int.reduceNe, Int.reduceBEq, Nat.reduceBEq, Int.reduceBNe, Nat.reduceBNe, Int.reduceAdd, Int.reduceSub, Int.reduceMul, Int.reduceNeg]
      refine AllB.mk fun b7 h_b7 => ?_; have hn_b7 := h_b7; (try simp only [fresh_add, fresh_set, ne_eq] at hn_b7); have hr_b7 := hn_b7; (try simp only [@eq_comm Nat b7] at hr_b7); simp (dsimp := false) (maxSteps := 4000000) only [hn_b5, hr_b5, hn_b7, hr_b7, go_sem, ↓reduceIte, Nat.reduceEqDiff, Nat.reduceLT, Nat.reduceLeDiff, Nat.reduceAdd, Nat.reduceMul, Nat.reduceSub, reduceCtorEq, Int.reduceToNat, Int.reduceLT, Int.reduceLE, Int.reduceEq, Int.reduceNe, Int.reduceBEq, Nat.reduceBEq, Int.reduceBNe, Nat.reduceBNe, Int.reduceAdd, Int.reduceSub, Int.reduceMul, Int.reduceNeg]
      have n3 : ¬ b7 = b := hn_b7.2.ne_find h1.top
      have n4 : ¬ b7 = bm := hn_b7.2.ne_find h1.map
      refine AWp.gen [.pu, .pu, .pu, .rd, .pu, .rd, .ch, .ch] [0, 1, 3, 7, 0, 0, 32, 127] 7 (_) mixed (by kernel_rfl) (AH.le_refl _) ?_
      simp (dsimp := false) (maxSteps := 4000000) only [r0, n1, n2, n3, n4, hn_b5, hr_b5, hn_b7, hr_b7, go_sem, ↓reduceIte, Nat.reduceEqDiff, Nat.reduceLT, Nat.reduceLeDiff, Nat.reduceAdd, Nat.reduceMul, Nat.reduceSub, reduceCtorEq, Int.reduceToNat, Int.reduceLT, Int.reduceLE, Int.reduceEq, Int.reduceNe, Int.reduceBEq, Nat.reduceBEq, Int.reduceBNe, Nat.reduceBNe, Int.reduceAdd, Int.reduceSub, Int.reduceMul, Int.reduceNeg]
      refine (own_c p R base cap _ ((hs.add (by simp only [fresh_add, ne_eq, hn_b5, not_false_eq_true, and_self] : Fresh _ b5)).add (by simp only [fresh_add, ne_eq, hn_b7, not_false_eq_true, and_self] : Fresh _ b7)) (by omega) (by omega)).mono ?_; rintro _ _ ⟨b8, bs, h_b8, rfl, hbs, rfl⟩
      have hn_b8 := h_b8; (try simp only [fresh_add, fresh_set, ne_eq] at hn_b8); have hr_b8 := hn_b8; (try simp only [@eq_comm Nat b8] at hr_b8)
      have n5 : ¬ b8 = b := hn_b8.2.2.ne_find h1.top
      have n6 : ¬ b8 = bm := hn_b8.2.2.ne_find h1.map
      simp (dsimp := false) (maxSteps := 4000000) only [n1, n2, n4, n6, hmp, hms, hm, hn_b5, hr_b5, hn_b7, hr_b7, hn_b8, hr_b8, go_sem, ↓reduceIte, Nat.reduceEqDiff, Nat.reduceLT, Nat.reduceLeDiff, Nat.reduceAdd, Nat.reduceMul, Nat.reduceSub, reduceCtorEq, Int.reduceToNat, Int.reduceLT, Int.reduceLE, Int.reduceEq, Int.reduceNe, Int.reduceBEq, Nat.reduceBEq, Int.reduceBNe, Nat.reduceBNe, Int.reduceAdd, Int.reduceSub, Int.reduceMul, Int.reduceNeg]
      refine ⟨AH.le_add (AH.le_refl _) h_b8.2, (H.set bm (.amap (ms.map MF.ent ++ [(MF.mk n p b8 bs R).ent]))).add b8 (.cells (R.map enc).flatten 32 bs), ?_, fun x => ft x ∨ x = b8, ?_, ?_, ?_⟩
      · refine AH.le_cons (find_add_self _ _ _) ?_
        refine AH.le_add (AH.le_add (AH.le_add (AH.le_refl _) ?_) ?_) ?_
        · rw [find_set, if_neg n2]; exact h_b5.2
        · rw [find_add, if_neg hn_b7.1, find_set, if_neg n4]; exact hn_b7.2.2
        · rw [find_add, if_neg hn_b8.1, find_add, if_neg hn_b8.2.1, find_set, if_neg n6]; exact hn_b8.2.2.2
      · exact ⟨bm, ms ++ [MF.mk n p b8 bs R], h1.app hn_b8.2.2 hl hbs rfl, by rw [List.map_append]; rfl, fun x => StIn.ftB (m := MF.mk n p b8 bs R) hft⟩
      · exact (Keep.set.mono fun x hx => (hft x).2 (.inr (.inl hx))).trans (Keep.add (Fresh.mk' hn_b8.2.2 n6))
      · rintro x (hx | rfl)
        · exact .inl hx
        · exact .inr hn_b8.2.2
      
    · 
      unfold MF.val fv at hm
      simp (dsimp := false) (maxSteps := 4000000) only [r0, n1, n2, hmp, hm, hn_b5, hr_b5, go_sem, ↓reduceIte, Nat.reduceEqDiff, Nat.reduceLT, Nat.reduceLeDiff, Nat.reduceAdd, Nat.reduceMul, Nat.reduceSub, reduceCtorEq, Int.reduceToNat, Int.reduceLT, Int.reduceLE, Int.reduceEq, Int.reduceNe, Int.reduceBEq, Nat.reduceBEq, Int.reduceBNe, Nat.reduceBNe, Int.reduceAdd, Int.reduceSub, Int.reduceMul, Int.reduceNeg]
      refine AllB.mk fun b7 h_b7 => ?_; have hn_b7 := h_b7; (try simp only [fresh_add, fresh_set, ne_eq] at hn_b7); have hr_b7 := hn_b7; (try simp only [@eq_comm Nat b7] at hr_b7); simp (dsimp := false) (maxSteps := 4000000) only [hn_b5, hr_b5, hn_b7, hr_b7, go_sem, ↓reduceIte, Nat.reduceEqDiff, Nat.reduceLT, Nat.reduceLeDiff, Nat.reduceAdd, Nat.reduceMul, Nat.reduceSub, reduceCtorEq, Int.reduceToNat, Int.reduceLT, Int.reduceLE, Int.reduceEq, Int.reduceNe, Int.reduceBEq, Nat.reduceBEq, Int.reduceBNe, Nat.reduceBNe, Int.reduceAdd, Int.reduceSub, Int.reduceMul, Int.reduceNeg]
      exact bad (by simp [addE, a1, a2, hg, hl]) (by decide) (AH.le_add (AH.le_add (AH.le_refl _) ((by simp only [fresh_add, fresh_set, ne_eq, hn_b5, not_false_eq_true, and_self] : Fresh _ b5).2)) ((by simp only [fresh_add, fresh_set, ne_eq, hn_b7, not_false_eq_true, and_self] : Fresh _ b7).2))
      
end Go.Proofs.YtmkbpdlijfjgkaaDoor.Ifs
