/- rodl's reference: File. -/
import Derived.Test.YtadbmmdmibiikaaRodl7
namespace Go.Proofs.Ytadbmmdmibiikaa.Rodl
set_option linter.unusedSimpArgs false
set_option linter.unusedVariables false
open Go Go.AX Go.Proofs Ty Go.Proofs.Ytadbmmdmibiikaa.File Go.Proofs.Ytadbmmdmibiikaa.Rose
set_option maxHeartbeats 4000000
set_option maxRecDepth 10000

theorem RefFile_bad {L : List En} {base : Option Addr} {cap : Nat} {H : AH} (hs : SlcIn H 5 base cap (L.map encE)) (g : mayB L = false) :
    ACalls Try.prog 62 #[.slice base L.length cap] H (fun v H' => v = fbad 1 ∧ H = H') := by
  refine ACalls.enter2 Try.func62 rfl Try.ntmps62 Try.results62 (by simp) ?_; simp (dsimp := false) (maxSteps := 4000000) only [go_sem, ↓reduceIte, Nat.reduceEqDiff, Nat.reduceLT, Nat.reduceLeDiff, Nat.reduceAdd, Nat.reduceMul, Nat.reduceSub, reduceCtorEq, Int.reduceToNat, Int.reduceLT, Int.reduceLE, Int.reduceEq, Int.reduceNe, Int.reduceBEq, Nat.reduceBEq, Int.reduceBNe, Nat.reduceBNe, Int.reduceAdd, Int.reduceSub, Int.reduceMul, Int.reduceNeg]
  refine AllB.mk fun b2 h_b2 => ?_; have hn_b2 := h_b2; (try simp only [fresh_add, fresh_set, ne_eq] at hn_b2); have hr_b2 := hn_b2; (try simp only [@eq_comm Nat b2] at hr_b2); simp (dsimp := false) (maxSteps := 4000000) only [hn_b2, hr_b2, go_sem, ↓reduceIte, Nat.reduceEqDiff, Nat.reduceLT, Nat.reduceLeDiff, Nat.reduceAdd, Nat.reduceMul, Nat.reduceSub, reduceCtorEq, Int.reduceToNat, Int.reduceLT, Int.reduceLE, Int.reduceEq, Int.reduceNe, Int.reduceBEq, Nat.reduceBEq, Int.reduceBNe, Nat.reduceBNe, Int.reduceAdd, Int.reduceSub, Int.reduceMul, Int.reduceNeg]
  refine (May_c L base cap _ (hs.add (by simp only [fresh_add, ne_eq, hn_b2, not_false_eq_true, and_self] : Fresh _ b2))).mono ?_; rintro _ _ ⟨rfl, rfl⟩
  simp (dsimp := false) (maxSteps := 4000000) only [g, hn_b2, hr_b2, go_sem, ↓reduceIte, Nat.reduceEqDiff, Nat.reduceLT, Nat.reduceLeDiff, Nat.reduceAdd, Nat.reduceMul, Nat.reduceSub, reduceCtorEq, Int.reduceToNat, Int.reduceLT, Int.reduceLE, Int.reduceEq, Int.reduceNe, Int.reduceBEq, Nat.reduceBEq, Int.reduceBNe, Nat.reduceBNe, Int.reduceAdd, Int.reduceSub, Int.reduceMul, Int.reduceNeg]
  exact ⟨H, (AH.le_add (AH.le_refl _) ((by simp only [fresh_add, fresh_set, ne_eq, hn_b2, not_false_eq_true, and_self] : Fresh _ b2).2)), (by first | exact ⟨rfl, rfl⟩ | rfl)⟩
theorem fileP_succ {L : List En} {i : Nat} {x : En} (h : L[i]? = some x) : (fileP L i).map enc ++ [enc (pR x)] = (fileP L (i + 1)).map enc := by
  simp [fileP, List.take_add_one, h]
theorem fileP_end (L : List En) : (fileP L L.length).map enc ++ [enc er] = (fileE L).map enc := by simp [fileP, fileE]
theorem fileP_len {L : List En} {i : Nat} (h : i ≤ L.length) : (fileP L i).length = i + 1 := by simp [fileP]; omega
theorem RefFile_ok {L : List En} {base : Option Addr} {cap : Nat} {H : AH} (hs : SlcIn H 5 base cap (L.map encE)) (g : mayB L = true) :
    ACalls Try.prog 62 #[.slice base L.length cap] H (fun v H' => ∃ b' c', v = .tuple #[.agg #[.int .i64 3, .slice b' (L.length + 2) c'], .int .i64 0] ∧ OwnS H H' 64 4 b' c' ((fileE L).map enc) ∧ Keep H H' fun _ => False) := by
  have hl1 := mayB_len g
  have e0 := i64_succ (i := L.length) (by omega)
  refine ACalls.enter2 Try.func62 rfl Try.ntmps62 Try.results62 (by simp) ?_; simp (dsimp := false) (maxSteps := 4000000) only [enc_len, enc_scal, enc_take, enc_z4, e0, go_sem, ↓reduceIte, Nat.reduceEqDiff, Nat.reduceLT, Nat.reduceLeDiff, Nat.reduceAdd, Nat.reduceMul, Nat.reduceSub, reduceCtorEq, Int.reduceToNat, Int.reduceLT, Int.reduceLE, Int.reduceEq, Int.reduceNe, Int.reduceBEq, Nat.reduceBEq, Int.reduceBNe, Nat.reduceBNe, Int.reduceAdd, Int.reduceSub, Int.reduceMul, Int.reduceNeg]
  refine AllB.mk fun b2 h_b2 => ?_; have hn_b2 := h_b2; (try simp only [fresh_add, fresh_set, ne_eq] at hn_b2); have hr_b2 := hn_b2; (try simp only [@eq_comm Nat b2] at hr_b2); simp (dsimp := false) (maxSteps := 4000000) only [enc_len, enc_scal, enc_take, enc_z4, e0, hn_b2, hr_b2, go_sem, ↓reduceIte, Nat.reduceEqDiff, Nat.reduceLT, Nat.reduceLeDiff, Nat.reduceAdd, Nat.reduceMul, Nat.reduceSub, reduceCtorEq, Int.reduceToNat, Int.reduceLT, Int.reduceLE, Int.reduceEq, Int.reduceNe, Int.reduceBEq, Nat.reduceBEq, Int.reduceBNe, Nat.reduceBNe, Int.reduceAdd, Int.reduceSub, Int.reduceMul, Int.reduceNeg]
  refine (May_c L base cap _ (hs.add (by simp only [fresh_add, ne_eq, hn_b2, not_false_eq_true, and_self] : Fresh _ b2))).mono ?_; rintro _ _ ⟨rfl, rfl⟩
  simp (dsimp := false) (maxSteps := 4000000) only [g, enc_len, enc_scal, enc_take, enc_z4, e0, hn_b2, hr_b2, go_sem, ↓reduceIte, Nat.reduceEqDiff, Nat.reduceLT, Nat.reduceLeDiff, Nat.reduceAdd, Nat.reduceMul, Nat.reduceSub, reduceCtorEq, Int.reduceToNat, Int.reduceLT, Int.reduceLE, Int.reduceEq, Int.reduceNe, Int.reduceBEq, Nat.reduceBEq, Int.reduceBNe, Nat.reduceBNe, Int.reduceAdd, Int.reduceSub, Int.reduceMul, Int.reduceNeg]
  refine (Header_c 3 ((L.length + 1 : Nat) : Int) _).mono ?_; rintro _ _ ⟨rfl, rfl⟩
  simp (dsimp := false) (maxSteps := 4000000) only [enc_len, enc_scal, enc_take, enc_z4, e0, hn_b2, hr_b2, go_sem, ↓reduceIte, Nat.reduceEqDiff, Nat.reduceLT, Nat.reduceLeDiff, Nat.reduceAdd, Nat.reduceMul, Nat.reduceSub, reduceCtorEq, Int.reduceToNat, Int.reduceLT, Int.reduceLE, Int.reduceEq, Int.reduceNe, Int.reduceBEq, Nat.reduceBEq, Int.reduceBNe, Nat.reduceBNe, Int.reduceAdd, Int.reduceSub, Int.reduceMul, Int.reduceNeg]
  refine AllB.mk fun bl h_bl => ?_; have hn_bl := h_bl; (try simp only [fresh_add, fresh_set, ne_eq] at hn_bl); have hr_bl := hn_bl; (try simp only [@eq_comm Nat bl] at hr_bl); simp (dsimp := false) (maxSteps := 4000000) only [enc_len, enc_scal, enc_take, enc_z4, e0, hn_b2, hr_b2, hn_bl, hr_bl, go_sem, ↓reduceIte, Nat.reduceEqDiff, Nat.reduceLT, Nat.reduceLeDiff, Nat.reduceAdd, Nat.reduceMul, Nat.reduceSub, reduceCtorEq, Int.reduceToNat, Int.reduceLT, Int.reduceLE, Int.reduceEq, Int.reduceNe, Int.reduceBEq, Nat.reduceBEq, Int.reduceBNe, Nat.reduceBNe, Int.reduceAdd, Int.reduceSub, Int.reduceMul, Int.reduceNeg]
  refine AllB.mk fun b4 h_b4 => ?_; have hn_b4 := h_b4; (try simp only [fresh_add, fresh_set, ne_eq] at hn_b4); have hr_b4 := hn_b4; (try simp only [@eq_comm Nat b4] at hr_b4); simp (dsimp := false) (maxSteps := 4000000) only [enc_len, enc_scal, enc_take, enc_z4, e0, hn_b2, hr_b2, hn_bl, hr_bl, hn_b4, hr_b4, go_sem, ↓reduceIte, Nat.reduceEqDiff, Nat.reduceLT, Nat.reduceLeDiff, Nat.reduceAdd, Nat.reduceMul, Nat.reduceSub, reduceCtorEq, Int.reduceToNat, Int.reduceLT, Int.reduceLE, Int.reduceEq, Int.reduceNe, Int.reduceBEq, Nat.reduceBEq, Int.reduceBNe, Nat.reduceBNe, Int.reduceAdd, Int.reduceSub, Int.reduceMul, Int.reduceNeg]
  have n42 : ¬ b4 = b2 := hn_b4.2.1
  have f2 : Fresh H b2 := h_b2
  have f4 : Fresh H b4 := hn_b4.2.2
  have fl : Fresh H bl := hn_bl.2
  refine AWp.loopr (ι := Nat) (fun i A => i ≤ L.length ∧ ∃ B base' cap', A = (B.add b2 (.cells [.int .i64 0, .slice none 0 0] 25 2)).add b4 (.cells [.int .i64 3, .slice base' (i + 1) cap'] 25 2) ∧ OwnS H B 64 4 base' cap' ((fileP L i).map enc) ∧ (Keep H B fun _ => False) ∧ Fresh B b2 ∧ Fresh B b4)
    (fun i => [(5, .int .i64 i), (0, .slice base L.length cap), (2, .pointer (some ⟨b2, 0, none⟩)), (4, .pointer (some ⟨b4, 0, none⟩))]) (fun i => L.length - i) 0 (((H.add bl (.cells (enc (hd 3 ((L.length + 1 : Nat) : Int))) 64 4)).add b2 (.cells [.int .i64 0, .slice none 0 0] 25 2)).add b4 (.cells [.int .i64 3, .slice (some ⟨bl, 0, none⟩) 1 1] 25 2))
    ⟨by omega, _, some ⟨bl, 0, none⟩, 1, rfl, OwnS.new fl (AH.le_refl _) (by simp [fileP]) rfl rfl (by simp [enc_len, fileP]) (by simp [fileP]), Keep.add fl, by rw [fresh_add]; exact ⟨hr_bl.1, f2⟩, by rw [fresh_add]; exact ⟨hn_b4.1, f4⟩⟩ (FrLe.of_lks ?_) ?_ fun i A hi Q again out => ?_
  · simp (dsimp := false) (maxSteps := 4000000) only [enc_len, enc_scal, enc_take, enc_z4, e0, hn_b2, hr_b2, hn_bl, hr_bl, hn_b4, hr_b4, go_sem, ↓reduceIte, Nat.reduceEqDiff, Nat.reduceLT, Nat.reduceLeDiff, Nat.reduceAdd, Nat.reduceMul, Nat.reduceSub, reduceCtorEq, Int.reduceToNat, Int.reduceLT, Int.reduceLE, Int.reduceEq, Int.reduceNe, Int.reduceBEq, Nat.reduceBEq, Int.reduceBNe, Nat.reduceBNe, Int.reduceAdd, Int.reduceSub, Int.reduceMul, Int.reduceNeg]
  · exact (by refine AH.le_cons ?_ ?_; (show AH.find _ _ = _; simp only [find_add_self, find_add_ne, find_fresh, fresh_add, ne_eq, not_false_eq_true, true_and, and_true, and_self, enc_len, enc_scal, enc_take, enc_z4, e0, hn_b2, hr_b2, hn_bl, hr_bl, hn_b4, hr_b4]); refine AH.le_cons ?_ ?_; (show AH.find _ _ = _; simp only [find_add_self, find_add_ne, find_fresh, fresh_add, ne_eq, not_false_eq_true, true_and, and_true, and_self, enc_len, enc_scal, enc_take, enc_z4, e0, hn_b2, hr_b2, hn_bl, hr_bl, hn_b4, hr_b4]); refine AH.le_cons ?_ ?_; (show AH.find _ _ = _; simp only [find_add_self, find_add_ne, find_fresh, fresh_add, ne_eq, not_false_eq_true, true_and, and_true, and_self, enc_len, enc_scal, enc_take, enc_z4, e0, hn_b2, hr_b2, hn_bl, hr_bl, hn_b4, hr_b4]); (repeat (first | exact AH.le_refl _ | refine AH.le_add ?_ ?_)); all_goals (first | exact AH.le_refl _ | (show AH.find _ _ = _; simp only [find_add_self, find_add_ne, find_fresh, fresh_add, ne_eq, not_false_eq_true, true_and, and_true, and_self, enc_len, enc_scal, enc_take, enc_z4, e0, hn_b2, hr_b2, hn_bl, hr_bl, hn_b4, hr_b4])))
  · clear hn_b4 hr_b4 h_b4 hn_b2 hr_b2 h_b2 hn_bl hr_bl h_bl fl
    
    obtain ⟨hi, B, base', cap', rfl, hO, hK, g2, g4⟩ := hi
    have n24 : ¬ b2 = b4 := fun e => n42 e.symm
    
    by_cases hlt : (i : Int) < L.length
    · obtain ⟨x, hn⟩ := get_some (l := L) (i := i) (by omega)
      have hsB : SlcIn B 5 base cap (L.map encE) := hs.keep hK fun _ _ h => h
      obtain ⟨b, o, rfl, hrow, _⟩ := hsB.get (map_get (f := encE) hn)
      have e1 := i64_succ (i := i) (by omega)
      have nb2 : ¬ b2 = b := g2.ne_row hrow
      have nb4 : ¬ b4 = b := g4.ne_row hrow
      
      simp (dsimp := false) (maxSteps := 4000000) only [hlt, hrow, nb2, nb4, n42, n24, g2, g4, enc_len, enc_scal, enc_take, enc_z4, go_sem, ↓reduceIte, Nat.reduceEqDiff, Nat.reduceLT, Nat.reduceLeDiff, Nat.reduceAdd, Nat.reduceMul, Nat.reduceSub, reduceCtorEq, Int.reduceToNat, Int.reduceLT, Int.reduceLE, Int.reduceEq, Int.reduceNe, Int.reduceBEq, Nat.reduceBEq, Int.reduceBNe, Nat.reduceBNe, Int.reduceAdd, Int.reduceSub, Int.reduceMul, Int.reduceNeg]
      refine (RefPut_v x _).mono ?_; rintro _ _ ⟨rfl, rfl⟩
      simp (dsimp := false) (maxSteps := 4000000) only [n42, n24, g2, g4, enc_len, enc_scal, enc_take, enc_z4, go_sem, ↓reduceIte, Nat.reduceEqDiff, Nat.reduceLT, Nat.reduceLeDiff, Nat.reduceAdd, Nat.reduceMul, Nat.reduceSub, reduceCtorEq, Int.reduceToNat, Int.reduceLT, Int.reduceLE, Int.reduceEq, Int.reduceNe, Int.reduceBEq, Nat.reduceBEq, Int.reduceBNe, Nat.reduceBNe, Int.reduceAdd, Int.reduceSub, Int.reduceMul, Int.reduceNeg]
      refine AllB.mk fun b6 h_b6 => ?_; have hn_b6 := h_b6; (try simp only [fresh_add, fresh_set, ne_eq] at hn_b6); have hr_b6 := hn_b6; (try simp only [@eq_comm Nat b6] at hr_b6); simp (dsimp := false) (maxSteps := 4000000) only [n42, n24, g2, g4, enc_len, enc_scal, enc_take, enc_z4, hn_b6, hr_b6, go_sem, ↓reduceIte, Nat.reduceEqDiff, Nat.reduceLT, Nat.reduceLeDiff, Nat.reduceAdd, Nat.reduceMul, Nat.reduceSub, reduceCtorEq, Int.reduceToNat, Int.reduceLT, Int.reduceLE, Int.reduceEq, Int.reduceNe, Int.reduceBEq, Nat.reduceBEq, Int.reduceBNe, Nat.reduceBNe, Int.reduceAdd, Int.reduceSub, Int.reduceMul, Int.reduceNeg]
      refine AllB.mk fun bx h_bx => ?_; have hn_bx := h_bx; (try simp only [fresh_add, fresh_set, ne_eq] at hn_bx); have hr_bx := hn_bx; (try simp only [@eq_comm Nat bx] at hr_bx); simp (dsimp := false) (maxSteps := 4000000) only [n42, n24, g2, g4, enc_len, enc_scal, enc_take, enc_z4, hn_b6, hr_b6, hn_bx, hr_bx, go_sem, ↓reduceIte, Nat.reduceEqDiff, Nat.reduceLT, Nat.reduceLeDiff, Nat.reduceAdd, Nat.reduceMul, Nat.reduceSub, reduceCtorEq, Int.reduceToNat, Int.reduceLT, Int.reduceLE, Int.reduceEq, Int.reduceNe, Int.reduceBEq, Nat.reduceBEq, Int.reduceBNe, Nat.reduceBNe, Int.reduceAdd, Int.reduceSub, Int.reduceMul, Int.reduceNeg]
      have p2 : AH.find ((((B.add b2 (.cells [.int .i64 0, .slice none 0 0] 25 2)).add b4 (.cells [.int .i64 3, .slice base' (i + 1) cap'] 25 2)).add b6 (.cells (enc (pR x)) 64 4)).add bx (.cells (enc (pR x)) 64 4)) b2 = some (.cells [.int .i64 0, .slice none 0 0] 25 2) := by (show AH.find _ _ = _; simp only [find_add_self, find_add_ne, find_fresh, fresh_add, ne_eq, not_false_eq_true, true_and, and_true, and_self, n42, n24, g2, g4, enc_len, enc_scal, enc_take, enc_z4, hn_b6, hr_b6, hn_bx, hr_bx])
      have p4 : AH.find ((((B.add b2 (.cells [.int .i64 0, .slice none 0 0] 25 2)).add b4 (.cells [.int .i64 3, .slice base' (i + 1) cap'] 25 2)).add b6 (.cells (enc (pR x)) 64 4)).add bx (.cells (enc (pR x)) 64 4)) b4 = some (.cells [.int .i64 3, .slice base' (i + 1) cap'] 25 2) := by (show AH.find _ _ = _; simp only [find_add_self, find_add_ne, find_fresh, fresh_add, ne_eq, not_false_eq_true, true_and, and_true, and_self, n42, n24, g2, g4, enc_len, enc_scal, enc_take, enc_z4, hn_b6, hr_b6, hn_bx, hr_bx])
      have hOx : OwnS H ((((B.add b2 (.cells [.int .i64 0, .slice none 0 0] 25 2)).add b4 (.cells [.int .i64 3, .slice base' (i + 1) cap'] 25 2)).add b6 (.cells (enc (pR x)) 64 4)).add bx (.cells (enc (pR x)) 64 4)) 64 4 base' cap' ((fileP L i).map enc) := (((hO.added g2).added (by rw [fresh_add]; exact ⟨n42, g4⟩)).added h_b6).added h_bx
      have hKx : Keep H ((((B.add b2 (.cells [.int .i64 0, .slice none 0 0] 25 2)).add b4 (.cells [.int .i64 3, .slice base' (i + 1) cap'] 25 2)).add b6 (.cells (enc (pR x)) 64 4)).add bx (.cells (enc (pR x)) 64 4)) fun _ => False := (((hK.nw g2).nw (by rw [fresh_add]; exact ⟨n42, g4⟩)).nw h_b6).nw h_bx
      refine APD.growW (x := .slice (some ⟨bx, 0, none⟩) 1 1) (R' := [enc (pR x)]) (m := 1) hOx hKx.all se_23 rfl (by decide) (by rw [Try.underlying23]; rfl) (by rw [List.length_map, fileP_len (by omega)]) rfl rfl (by rw [srow_some, row_add_self]; rfl) (by simp [enc_len]) (by simp [enc, scal]) (by omega) fun base2 cap2 A' hO' hK' hN' => ?_
      have q2 : A'.find b2 = some (.cells [.int .i64 0, .slice none 0 0] 25 2) := hK'.find (fun hx => by obtain ⟨a, ha, e⟩ := hx; exact hO.ne g2 a ha e.symm) p2
      have q4 : A'.find b4 = some (.cells [.int .i64 3, .slice base' (i + 1) cap'] 25 2) := hK'.find (fun hx => by obtain ⟨a, ha, e⟩ := hx; exact hO.ne g4 a ha e.symm) p4
      refine ⟨_, top2 q2 q4, ?_⟩
      
      
      simp (dsimp := false) (maxSteps := 4000000) only [e1, n42, n24, g2, g4, enc_len, enc_scal, enc_take, enc_z4, go_sem, ↓reduceIte, Nat.reduceEqDiff, Nat.reduceLT, Nat.reduceLeDiff, Nat.reduceAdd, Nat.reduceMul, Nat.reduceSub, reduceCtorEq, Int.reduceToNat, Int.reduceLT, Int.reduceLE, Int.reduceEq, Int.reduceNe, Int.reduceBEq, Nat.reduceBEq, Int.reduceBNe, Nat.reduceBNe, Int.reduceAdd, Int.reduceSub, Int.reduceMul, Int.reduceNeg]
      have hK2 := (hKx.ow hK' fun b ⟨a, ha, e⟩ => e ▸ hO.fresh a ha)
      obtain ⟨hK3, g23⟩ := hK2.dels f2
      obtain ⟨hK4, g44⟩ := hK3.dels f4
      have ne2 : ∀ a, base2 = some a → a.block ≠ b2 := fun a ha e => by
        rcases hN' a ha with ⟨a', h1, h2⟩ | h1
        · exact hO.ne g2 a' h1 (h2 ▸ e)
        · exact h1.ne_find p2 e
      have ne4 : ∀ a, base2 = some a → a.block ≠ b4 := fun a ha e => by
        rcases hN' a ha with ⟨a', h1, h2⟩ | h1
        · exact hO.ne g4 a' h1 (h2 ▸ e)
        · exact h1.ne_find p4 e
      have hO2 := (hO'.del ne2).del ne4
      rw [fileP_succ hn] at hO2
      exact again (i + 1) _ _ _ ⟨by omega, _, base2, cap2, rfl, hO2, hK4, Fresh.of_le AH.le_del g23, g44⟩ (FrLe.of_lks (by simp (dsimp := false) (maxSteps := 4000000) only [n42, n24, g2, g4, enc_len, enc_scal, enc_take, enc_z4, go_sem, ↓reduceIte, Nat.reduceEqDiff, Nat.reduceLT, Nat.reduceLeDiff, Nat.reduceAdd, Nat.reduceMul, Nat.reduceSub, reduceCtorEq, Int.reduceToNat, Int.reduceLT, Int.reduceLE, Int.reduceEq, Int.reduceNe, Int.reduceBEq, Nat.reduceBEq, Int.reduceBNe, Nat.reduceBNe, Int.reduceAdd, Int.reduceSub, Int.reduceMul, Int.reduceNeg])) (AH.le_refl _) (by omega)
      
    · obtain rfl : i = L.length := by omega
      
      simp (dsimp := false) (maxSteps := 4000000) only [hlt, n42, n24, g2, g4, enc_len, enc_scal, enc_take, enc_z4, go_sem, ↓reduceIte, Nat.reduceEqDiff, Nat.reduceLT, Nat.reduceLeDiff, Nat.reduceAdd, Nat.reduceMul, Nat.reduceSub, reduceCtorEq, Int.reduceToNat, Int.reduceLT, Int.reduceLE, Int.reduceEq, Int.reduceNe, Int.reduceBEq, Nat.reduceBEq, Int.reduceBNe, Nat.reduceBNe, Int.reduceAdd, Int.reduceSub, Int.reduceMul, Int.reduceNeg]
      refine out _ _ _ (by simp) ?_
      simp (dsimp := false) (maxSteps := 4000000) only [n42, n24, g2, g4, enc_len, enc_scal, enc_take, enc_z4, go_sem, ↓reduceIte, Nat.reduceEqDiff, Nat.reduceLT, Nat.reduceLeDiff, Nat.reduceAdd, Nat.reduceMul, Nat.reduceSub, reduceCtorEq, Int.reduceToNat, Int.reduceLT, Int.reduceLE, Int.reduceEq, Int.reduceNe, Int.reduceBEq, Nat.reduceBEq, Int.reduceBNe, Nat.reduceBNe, Int.reduceAdd, Int.reduceSub, Int.reduceMul, Int.reduceNeg]
      refine AllB.mk fun bx h_bx => ?_; have hn_bx := h_bx; (try simp only [fresh_add, fresh_set, ne_eq] at hn_bx); have hr_bx := hn_bx; (try simp only [@eq_comm Nat bx] at hr_bx); simp (dsimp := false) (maxSteps := 4000000) only [n42, n24, g2, g4, enc_len, enc_scal, enc_take, enc_z4, hn_bx, hr_bx, go_sem, ↓reduceIte, Nat.reduceEqDiff, Nat.reduceLT, Nat.reduceLeDiff, Nat.reduceAdd, Nat.reduceMul, Nat.reduceSub, reduceCtorEq, Int.reduceToNat, Int.reduceLT, Int.reduceLE, Int.reduceEq, Int.reduceNe, Int.reduceBEq, Nat.reduceBEq, Int.reduceBNe, Nat.reduceBNe, Int.reduceAdd, Int.reduceSub, Int.reduceMul, Int.reduceNeg]
      have p2 : AH.find (((B.add b2 (.cells [.int .i64 0, .slice none 0 0] 25 2)).add b4 (.cells [.int .i64 3, .slice base' (L.length + 1) cap'] 25 2)).add bx (.cells (enc er) 64 4)) b2 = some (.cells [.int .i64 0, .slice none 0 0] 25 2) := by (show AH.find _ _ = _; simp only [find_add_self, find_add_ne, find_fresh, fresh_add, ne_eq, not_false_eq_true, true_and, and_true, and_self, n42, n24, g2, g4, enc_len, enc_scal, enc_take, enc_z4, hn_bx, hr_bx])
      have p4 : AH.find (((B.add b2 (.cells [.int .i64 0, .slice none 0 0] 25 2)).add b4 (.cells [.int .i64 3, .slice base' (L.length + 1) cap'] 25 2)).add bx (.cells (enc er) 64 4)) b4 = some (.cells [.int .i64 3, .slice base' (L.length + 1) cap'] 25 2) := by (show AH.find _ _ = _; simp only [find_add_self, find_add_ne, find_fresh, fresh_add, ne_eq, not_false_eq_true, true_and, and_true, and_self, n42, n24, g2, g4, enc_len, enc_scal, enc_take, enc_z4, hn_bx, hr_bx])
      have hOx : OwnS H (((B.add b2 (.cells [.int .i64 0, .slice none 0 0] 25 2)).add b4 (.cells [.int .i64 3, .slice base' (L.length + 1) cap'] 25 2)).add bx (.cells (enc er) 64 4)) 64 4 base' cap' ((fileP L L.length).map enc) := ((hO.added g2).added (by rw [fresh_add]; exact ⟨n42, g4⟩)).added h_bx
      have hKx : Keep H (((B.add b2 (.cells [.int .i64 0, .slice none 0 0] 25 2)).add b4 (.cells [.int .i64 3, .slice base' (L.length + 1) cap'] 25 2)).add bx (.cells (enc er) 64 4)) fun _ => False := ((hK.nw g2).nw (by rw [fresh_add]; exact ⟨n42, g4⟩)).nw h_bx
      refine APD.growW (x := .slice (some ⟨bx, 0, none⟩) 1 1) (R' := [enc er]) (m := 1) hOx hKx.all se_23 rfl (by decide) (by rw [Try.underlying23]; rfl) (by rw [List.length_map, fileP_len (by omega)]) rfl rfl (by rw [srow_some, row_add_self]; rfl) (by simp [enc_len]) (by simp [enc, scal]) (by omega) fun base2 cap2 A' hO' hK' hN' => ?_
      have q2 : A'.find b2 = some (.cells [.int .i64 0, .slice none 0 0] 25 2) := hK'.find (fun hx => by obtain ⟨a, ha, e⟩ := hx; exact hO.ne g2 a ha e.symm) p2
      have q4 : A'.find b4 = some (.cells [.int .i64 3, .slice base' (L.length + 1) cap'] 25 2) := hK'.find (fun hx => by obtain ⟨a, ha, e⟩ := hx; exact hO.ne g4 a ha e.symm) p4
      refine ⟨_, top2 q2 q4, ?_⟩
      
      
      simp (dsimp := false) (maxSteps := 4000000) only [n42, n24, g2, g4, enc_len, enc_scal, enc_take, enc_z4, go_sem, ↓reduceIte, Nat.reduceEqDiff, Nat.reduceLT, Nat.reduceLeDiff, Nat.reduceAdd, Nat.reduceMul, Nat.reduceSub, reduceCtorEq, Int.reduceToNat, Int.reduceLT, Int.reduceLE, Int.reduceEq, Int.reduceNe, Int.reduceBEq, Nat.reduceBEq, Int.reduceBNe, Nat.reduceBNe, Int.reduceAdd, Int.reduceSub, Int.reduceMul, Int.reduceNeg]
      have hK2 := (hKx.ow hK' fun b ⟨a, ha, e⟩ => e ▸ hO.fresh a ha)
      obtain ⟨hK3, g23⟩ := hK2.dels f2
      obtain ⟨hK4, g44⟩ := hK3.dels f4
      have ne2 : ∀ a, base2 = some a → a.block ≠ b2 := fun a ha e => by
        rcases hN' a ha with ⟨a', h1, h2⟩ | h1
        · exact hO.ne g2 a' h1 (h2 ▸ e)
        · exact h1.ne_find p2 e
      have ne4 : ∀ a, base2 = some a → a.block ≠ b4 := fun a ha e => by
        rcases hN' a ha with ⟨a', h1, h2⟩ | h1
        · exact hO.ne g4 a' h1 (h2 ▸ e)
        · exact h1.ne_find p4 e
      have hO2 := (hO'.del ne2).del ne4
      rw [fileP_end L] at hO2
      exact ⟨_, AH.le_add (AH.le_add (AH.le_refl _) (Fresh.of_le AH.le_del g23).2) (by rw [find_add_ne _ n24]; exact g44.2), base2, cap2, rfl, hO2, hK4⟩
      
theorem RefFile_u {L : List En} {n : Nat} {base : Option Addr} {cap : Nat} {H : AH} (hs : SlcIn H 5 base cap (L.map encE)) (hn : n = L.length) :
    ACalls Try.prog 62 #[.slice base n cap] H (fun v H' => ∃ b c, v = .tuple #[.agg #[.int .i64 (fP L), .slice b (fR L).length c], .int .i64 (fE L)] ∧ Got H H' 4 b c ((fR L).map enc)) := by
  subst hn
  cases g : mayB L with
  | true =>
    have h1 : fR L = fileE L := by simp [fR, g]
    refine (RefFile_ok hs g).mono fun v H' ⟨b, c, h3, h4, h5⟩ => ⟨b, c, ?_, ?_⟩
    · rw [h1, fileE_len, h3]; simp [fP, fE, g]
    · rw [h1]; exact Got.own h4 h5
  | false =>
    have h1 : fR L = [] := by simp [fR, g]
    refine (RefFile_bad hs g).mono fun v H' ⟨h3, h4⟩ => ⟨none, 0, ?_, ?_⟩
    · rw [h1, h3]; simp [fP, fE, g, fbad]
    · rw [h1, ← h4]; exact Got.nil
end Go.Proofs.Ytadbmmdmibiikaa.Rodl
