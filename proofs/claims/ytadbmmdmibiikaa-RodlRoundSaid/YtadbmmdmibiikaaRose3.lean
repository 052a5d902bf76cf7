/- rose's reference: File. -/
import Derived.Test.YtadbmmdmibiikaaRose2
namespace Go.Proofs.Ytadbmmdmibiikaa.Rose
set_option linter.unusedSimpArgs false
set_option linter.unusedVariables false
open Go Go.AX Go.Proofs Ty Go.Proofs.Ytadbmmdmibiikaa.File
set_option maxHeartbeats 4000000
set_option maxRecDepth 10000

theorem RefFile_bad (L : List Int) (base : Option Addr) (cap : Nat) (H : AH) (hs : SlcIn H 1 base cap (L.map e1)) (g : seqB L = false) :
    ACalls Try.prog 17 #[.slice base L.length cap] H (fun v H' => v = fbad 1 ∧ H = H') := by
  refine ACalls.enter2 Try.func17 rfl Try.ntmps17 Try.results17 (by simp) ?_; simp (dsimp := false) (maxSteps := 4000000) only [go_sem, ↓reduceIte, Nat.reduceEqDiff, Nat.reduceLT, Nat.reduceLeDiff, Nat.reduceAdd, Nat.reduceMul, Nat.reduceSub, reduceCtorEq, Int.reduceToNat, Int.reduceLT, Int.reduceLE, Int.reduceEq, Int.reduceNe, Int.reduceBEq, Nat.reduceBEq, Int.reduceBNe, Nat.reduceBNe, Int.reduceAdd, Int.reduceSub, Int.reduceMul, Int.reduceNeg]
  refine AllB.mk fun b2 h_b2 => ?_; have hn_b2 := h_b2; (try simp only [fresh_add, fresh_set, ne_eq] at hn_b2); have hr_b2 := hn_b2; (try simp only [@eq_comm Nat b2] at hr_b2); simp (dsimp := false) (maxSteps := 4000000) only [hn_b2, hr_b2, go_sem, ↓reduceIte, Nat.reduceEqDiff, Nat.reduceLT, Nat.reduceLeDiff, Nat.reduceAdd, Nat.reduceMul, Nat.reduceSub, reduceCtorEq, Int.reduceToNat, Int.reduceLT, Int.reduceLE, Int.reduceEq, Int.reduceNe, Int.reduceBEq, Nat.reduceBEq, Int.reduceBNe, Nat.reduceBNe, Int.reduceAdd, Int.reduceSub, Int.reduceMul, Int.reduceNeg]
  refine (May_c L base cap _ (hs.add (by simp only [fresh_add, ne_eq, hn_b2, not_false_eq_true, and_self] : Fresh _ b2))).mono ?_; rintro _ _ ⟨rfl, rfl⟩
  simp (dsimp := false) (maxSteps := 4000000) only [g, hn_b2, hr_b2, go_sem, ↓reduceIte, Nat.reduceEqDiff, Nat.reduceLT, Nat.reduceLeDiff, Nat.reduceAdd, Nat.reduceMul, Nat.reduceSub, reduceCtorEq, Int.reduceToNat, Int.reduceLT, Int.reduceLE, Int.reduceEq, Int.reduceNe, Int.reduceBEq, Nat.reduceBEq, Int.reduceBNe, Nat.reduceBNe, Int.reduceAdd, Int.reduceSub, Int.reduceMul, Int.reduceNeg]
  exact ⟨H, (AH.le_add (AH.le_refl _) ((by simp only [fresh_add, fresh_set, ne_eq, hn_b2, not_false_eq_true, and_self] : Fresh _ b2).2)), (by first | exact ⟨rfl, rfl⟩ | rfl)⟩
def fileP (L : List Int) (i : Nat) : List Rc := hd 3 L.length :: (L.take i).map fb
theorem fileP_all (L : List Int) : fileP L L.length = fileR L := by simp [fileP, fileR]
theorem fileP_succ {L : List Int} {i : Nat} {n : Int} (h : L[i]? = some n) : (fileP L i).map enc ++ [enc (fb n)] = (fileP L (i + 1)).map enc := by
  simp [fileP, List.take_add_one, h]
theorem fileP_len {L : List Int} {i : Nat} (h : i ≤ L.length) : (fileP L i).length = i + 1 := by simp [fileP]; omega
theorem enc_fb (n : Int) : enc (fb n) = [.int .u8 (IntKind.u8.wrap n), .int .u8 0, .int .u8 0, .int .u8 0] := rfl
theorem RefFile_ok (L : List Int) (base : Option Addr) (cap : Nat) (H : AH) (hs : SlcIn H 1 base cap (L.map e1)) (g : seqB L = true) :
    ACalls Try.prog 17 #[.slice base L.length cap] H (fun v H' => ∃ b' c', v = .tuple #[.agg #[.int .i64 3, .slice b' (L.length + 1) c'], .int .i64 0] ∧ OwnS H H' 64 4 b' c' ((fileR L).map enc) ∧ Keep H H' fun _ => False) := by
  obtain ⟨hl0, hl1⟩ := seqB_len g
  refine ACalls.enter2 Try.func17 rfl Try.ntmps17 Try.results17 (by simp) ?_; simp (dsimp := false) (maxSteps := 4000000) only [enc_len, enc_scal, go_sem, ↓reduceIte, Nat.reduceEqDiff, Nat.reduceLT, Nat.reduceLeDiff, Nat.reduceAdd, Nat.reduceMul, Nat.reduceSub, reduceCtorEq, Int.reduceToNat, Int.reduceLT, Int.reduceLE, Int.reduceEq, Int.reduceNe, Int.reduceBEq, Nat.reduceBEq, Int.reduceBNe, Nat.reduceBNe, Int.reduceAdd, Int.reduceSub, Int.reduceMul, Int.reduceNeg]
  refine AllB.mk fun b2 h_b2 => ?_; have hn_b2 := h_b2; (try simp only [fresh_add, fresh_set, ne_eq] at hn_b2); have hr_b2 := hn_b2; (try simp only [@eq_comm Nat b2] at hr_b2); simp (dsimp := false) (maxSteps := 4000000) only [enc_len, enc_scal, hn_b2, hr_b2, go_sem, ↓reduceIte, Nat.reduceEqDiff, Nat.reduceLT, Nat.reduceLeDiff, Nat.reduceAdd, Nat.reduceMul, Nat.reduceSub, reduceCtorEq, Int.reduceToNat, Int.reduceLT, Int.reduceLE, Int.reduceEq, Int.reduceNe, Int.reduceBEq, Nat.reduceBEq, Int.reduceBNe, Nat.reduceBNe, Int.reduceAdd, Int.reduceSub, Int.reduceMul, Int.reduceNeg]
  refine (May_c L base cap _ (hs.add (by simp only [fresh_add, ne_eq, hn_b2, not_false_eq_true, and_self] : Fresh _ b2))).mono ?_; rintro _ _ ⟨rfl, rfl⟩
  simp (dsimp := false) (maxSteps := 4000000) only [g, enc_len, enc_scal, hn_b2, hr_b2, go_sem, ↓reduceIte, Nat.reduceEqDiff, Nat.reduceLT, Nat.reduceLeDiff, Nat.reduceAdd, Nat.reduceMul, Nat.reduceSub, reduceCtorEq, Int.reduceToNat, Int.reduceLT, Int.reduceLE, Int.reduceEq, Int.reduceNe, Int.reduceBEq, Nat.reduceBEq, Int.reduceBNe, Nat.reduceBNe, Int.reduceAdd, Int.reduceSub, Int.reduceMul, Int.reduceNeg]
  refine (Header_c 3 L.length _).mono ?_; rintro _ _ ⟨rfl, rfl⟩
  simp (dsimp := false) (maxSteps := 4000000) only [enc_len, enc_scal, hn_b2, hr_b2, go_sem, ↓reduceIte, Nat.reduceEqDiff, Nat.reduceLT, Nat.reduceLeDiff, Nat.reduceAdd, Nat.reduceMul, Nat.reduceSub, reduceCtorEq, Int.reduceToNat, Int.reduceLT, Int.reduceLE, Int.reduceEq, Int.reduceNe, Int.reduceBEq, Nat.reduceBEq, Int.reduceBNe, Nat.reduceBNe, Int.reduceAdd, Int.reduceSub, Int.reduceMul, Int.reduceNeg]
  refine AllB.mk fun bl h_bl => ?_; have hn_bl := h_bl; (try simp only [fresh_add, fresh_set, ne_eq] at hn_bl); have hr_bl := hn_bl; (try simp only [@eq_comm Nat bl] at hr_bl); simp (dsimp := false) (maxSteps := 4000000) only [enc_len, enc_scal, hn_b2, hr_b2, hn_bl, hr_bl, go_sem, ↓reduceIte, Nat.reduceEqDiff, Nat.reduceLT, Nat.reduceLeDiff, Nat.reduceAdd, Nat.reduceMul, Nat.reduceSub, reduceCtorEq, Int.reduceToNat, Int.reduceLT, Int.reduceLE, Int.reduceEq, Int.reduceNe, Int.reduceBEq, Nat.reduceBEq, Int.reduceBNe, Nat.reduceBNe, Int.reduceAdd, Int.reduceSub, Int.reduceMul, Int.reduceNeg]
  refine AllB.mk fun b4 h_b4 => ?_; have hn_b4 := h_b4; (try simp only [fresh_add, fresh_set, ne_eq] at hn_b4); have hr_b4 := hn_b4; (try simp only [@eq_comm Nat b4] at hr_b4); simp (dsimp := false) (maxSteps := 4000000) only [enc_len, enc_scal, hn_b2, hr_b2, hn_bl, hr_bl, hn_b4, hr_b4, go_sem, ↓reduceIte, Nat.reduceEqDiff, Nat.reduceLT, Nat.reduceLeDiff, Nat.reduceAdd, Nat.reduceMul, Nat.reduceSub, reduceCtorEq, Int.reduceToNat, Int.reduceLT, Int.reduceLE, Int.reduceEq, Int.reduceNe, Int.reduceBEq, Nat.reduceBEq, Int.reduceBNe, Nat.reduceBNe, Int.reduceAdd, Int.reduceSub, Int.reduceMul, Int.reduceNeg]
  have n42 : ¬ b4 = b2 := hn_b4.2.1
  have f2 : Fresh H b2 := h_b2
  have f4 : Fresh H b4 := hn_b4.2.2
  have fl : Fresh H bl := hn_bl.2
  refine AWp.loopr (ι := Nat) (fun i A => i ≤ L.length ∧ ∃ B base' cap', A = (B.add b2 (.cells [.int .i64 0, .slice none 0 0] 25 2)).add b4 (.cells [.int .i64 3, .slice base' (i + 1) cap'] 25 2) ∧ OwnS H B 64 4 base' cap' ((fileP L i).map enc) ∧ (Keep H B fun _ => False) ∧ Fresh B b2 ∧ Fresh B b4)
    (fun i => [(5, .int .i64 i), (0, .slice base L.length cap), (2, .pointer (some ⟨b2, 0, none⟩)), (4, .pointer (some ⟨b4, 0, none⟩))]) (fun i => L.length - i) 0 (((H.add bl (.cells (enc (hd 3 L.length)) 64 4)).add b2 (.cells [.int .i64 0, .slice none 0 0] 25 2)).add b4 (.cells [.int .i64 3, .slice (some ⟨bl, 0, none⟩) 1 1] 25 2))
    ⟨by omega, _, some ⟨bl, 0, none⟩, 1, rfl, OwnS.new fl (AH.le_refl _) (by simp [fileP]) rfl rfl (by simp [enc_len, fileP]) (by simp [fileP]), Keep.add fl, by rw [fresh_add]; exact ⟨hr_bl.1, f2⟩, by rw [fresh_add]; exact ⟨hn_b4.1, f4⟩⟩ (FrLe.of_lks ?_) ?_ fun i A hi Q again out => ?_
  · simp (dsimp := false) (maxSteps := 4000000) only [enc_len, enc_scal, hn_b2, hr_b2, hn_bl, hr_bl, hn_b4, hr_b4, go_sem, ↓reduceIte, Nat.reduceEqDiff, Nat.reduceLT, Nat.reduceLeDiff, Nat.reduceAdd, Nat.reduceMul, Nat.reduceSub, reduceCtorEq, Int.reduceToNat, Int.reduceLT, Int.reduceLE, Int.reduceEq, Int.reduceNe, Int.reduceBEq, Nat.reduceBEq, Int.reduceBNe, Nat.reduceBNe, Int.reduceAdd, Int.reduceSub, Int.reduceMul, Int.reduceNeg]
  · exact (by refine AH.le_cons ?_ ?_; (show AH.find _ _ = _; simp only [find_add_self, find_add_ne, find_fresh, fresh_add, ne_eq, not_false_eq_true, true_and, and_true, and_self, enc_len, enc_scal, hn_b2, hr_b2, hn_bl, hr_bl, hn_b4, hr_b4]); refine AH.le_cons ?_ ?_; (show AH.find _ _ = _; simp only [find_add_self, find_add_ne, find_fresh, fresh_add, ne_eq, not_false_eq_true, true_and, and_true, and_self, enc_len, enc_scal, hn_b2, hr_b2, hn_bl, hr_bl, hn_b4, hr_b4]); refine AH.le_cons ?_ ?_; (show AH.find _ _ = _; simp only [find_add_self, find_add_ne, find_fresh, fresh_add, ne_eq, not_false_eq_true, true_and, and_true, and_self, enc_len, enc_scal, hn_b2, hr_b2, hn_bl, hr_bl, hn_b4, hr_b4]); (repeat (first | exact AH.le_refl _ | refine AH.le_add ?_ ?_)); all_goals (first | exact AH.le_refl _ | (show AH.find _ _ = _; simp only [find_add_self, find_add_ne, find_fresh, fresh_add, ne_eq, not_false_eq_true, true_and, and_true, and_self, enc_len, enc_scal, hn_b2, hr_b2, hn_bl, hr_bl, hn_b4, hr_b4])))
  · clear hn_b4 hr_b4 h_b4 hn_b2 hr_b2 h_b2 hn_bl hr_bl h_bl fl
    
    obtain ⟨hi, B, base', cap', rfl, hO, hK, g2, g4⟩ := hi
    have n24 : ¬ b2 = b4 := fun e => n42 e.symm
    
    by_cases hlt : (i : Int) < L.length
    · obtain ⟨n, hn⟩ := get_some (l := L) (i := i) (by omega)
      have hsB : SlcIn B 1 base cap (L.map e1) := hs.keep hK fun _ _ h => h
      obtain ⟨b, o, rfl, hrd⟩ := get1 hsB hn
      have e1 := i64_succ (i := i) (by omega)
      have nb2 : ¬ b2 = b := g2.ne_rd hrd
      have nb4 : ¬ b4 = b := g4.ne_rd hrd
      
      simp (dsimp := false) (maxSteps := 4000000) only [hlt, n42, n24, g2, g4, enc_len, enc_scal, go_sem, ↓reduceIte, Nat.reduceEqDiff, Nat.reduceLT, Nat.reduceLeDiff, Nat.reduceAdd, Nat.reduceMul, Nat.reduceSub, reduceCtorEq, Int.reduceToNat, Int.reduceLT, Int.reduceLE, Int.reduceEq, Int.reduceNe, Int.reduceBEq, Nat.reduceBEq, Int.reduceBNe, Nat.reduceBNe, Int.reduceAdd, Int.reduceSub, Int.reduceMul, Int.reduceNeg]
      refine AWp.gen [.pu, .rd, .pu, .pu, .pu, .rd, .pu, .pu, .al, .ch, .pu, .ch] [0, 1, 0, 0, 12, 28, 60, 124, 252, 511, 1023, 2047] 0 (_) mixed (by kernel_rfl) (AH.le_refl _) ?_
      simp (dsimp := false) (maxSteps := 4000000) only [hlt, hrd, nb2, nb4, n42, n24, g2, g4, enc_len, enc_scal, go_sem, ↓reduceIte, Nat.reduceEqDiff, Nat.reduceLT, Nat.reduceLeDiff, Nat.reduceAdd, Nat.reduceMul, Nat.reduceSub, reduceCtorEq, Int.reduceToNat, Int.reduceLT, Int.reduceLE, Int.reduceEq, Int.reduceNe, Int.reduceBEq, Nat.reduceBEq, Int.reduceBNe, Nat.reduceBNe, Int.reduceAdd, Int.reduceSub, Int.reduceMul, Int.reduceNeg]
      refine AllB.mk fun bx h_bx => ?_; have hn_bx := h_bx; (try simp only [fresh_add, fresh_set, ne_eq] at hn_bx); have hr_bx := hn_bx; (try simp only [@eq_comm Nat bx] at hr_bx); simp (dsimp := false) (maxSteps := 4000000) only [n42, n24, g2, g4, enc_len, enc_scal, hn_bx, hr_bx, go_sem, ↓reduceIte, Nat.reduceEqDiff, Nat.reduceLT, Nat.reduceLeDiff, Nat.reduceAdd, Nat.reduceMul, Nat.reduceSub, reduceCtorEq, Int.reduceToNat, Int.reduceLT, Int.reduceLE, Int.reduceEq, Int.reduceNe, Int.reduceBEq, Nat.reduceBEq, Int.reduceBNe, Nat.reduceBNe, Int.reduceAdd, Int.reduceSub, Int.reduceMul, Int.reduceNeg]
      rw [← enc_fb]
      have gx : Fresh B bx := hn_bx.2.2
      have p2 : AH.find (((B.add b2 (.cells [.int .i64 0, .slice none 0 0] 25 2)).add b4 (.cells [.int .i64 3, .slice base' (i + 1) cap'] 25 2)).add bx (.cells (enc (fb n)) 64 4)) b2 = some (.cells [.int .i64 0, .slice none 0 0] 25 2) := by (show AH.find _ _ = _; simp only [find_add_self, find_add_ne, find_fresh, fresh_add, ne_eq, not_false_eq_true, true_and, and_true, and_self, n42, n24, g2, g4, enc_len, enc_scal, hn_bx, hr_bx])
      have p4 : AH.find (((B.add b2 (.cells [.int .i64 0, .slice none 0 0] 25 2)).add b4 (.cells [.int .i64 3, .slice base' (i + 1) cap'] 25 2)).add bx (.cells (enc (fb n)) 64 4)) b4 = some (.cells [.int .i64 3, .slice base' (i + 1) cap'] 25 2) := by (show AH.find _ _ = _; simp only [find_add_self, find_add_ne, find_fresh, fresh_add, ne_eq, not_false_eq_true, true_and, and_true, and_self, n42, n24, g2, g4, enc_len, enc_scal, hn_bx, hr_bx])
      have hOx : OwnS H (((B.add b2 (.cells [.int .i64 0, .slice none 0 0] 25 2)).add b4 (.cells [.int .i64 3, .slice base' (i + 1) cap'] 25 2)).add bx (.cells (enc (fb n)) 64 4)) 64 4 base' cap' ((fileP L i).map enc) :=
        ((hO.added g2).added (by rw [fresh_add]; exact ⟨n42, g4⟩)).added h_bx
      have hKx : Keep H (((B.add b2 (.cells [.int .i64 0, .slice none 0 0] 25 2)).add b4 (.cells [.int .i64 3, .slice base' (i + 1) cap'] 25 2)).add bx (.cells (enc (fb n)) 64 4)) fun _ => False :=
        ((hK.nw g2).nw (by rw [fresh_add]; exact ⟨n42, g4⟩)).nw h_bx
      refine APD.growW (x := .slice (some ⟨bx, 0, none⟩) 1 1) (R' := [enc (fb n)]) (m := 1) hOx hKx.all se_23 rfl (by decide) (by rw [Try.underlying23]; rfl) (by rw [List.length_map, fileP_len hi]) rfl rfl (by rw [srow_some, row_add_self]; rfl) (by simp [enc_len]) (by simp [enc, scal]) (by omega) fun base2 cap2 A' hO' hK' hN' => ?_
      have q2 : A'.find b2 = some (.cells [.int .i64 0, .slice none 0 0] 25 2) := hK'.find (fun hx => by obtain ⟨a, ha, e⟩ := hx; exact hO.ne g2 a ha e.symm) p2
      have q4 : A'.find b4 = some (.cells [.int .i64 3, .slice base' (i + 1) cap'] 25 2) := hK'.find (fun hx => by obtain ⟨a, ha, e⟩ := hx; exact hO.ne g4 a ha e.symm) p4
      refine ⟨_, top2 q2 q4, ?_⟩
      
      
      simp (dsimp := false) (maxSteps := 4000000) only [e1, n42, n24, g2, g4, enc_len, enc_scal, go_sem, ↓reduceIte, Nat.reduceEqDiff, Nat.reduceLT, Nat.reduceLeDiff, Nat.reduceAdd, Nat.reduceMul, Nat.reduceSub, reduceCtorEq, Int.reduceToNat, Int.reduceLT, Int.reduceLE, Int.reduceEq, Int.reduceNe, Int.reduceBEq, Nat.reduceBEq, Int.reduceBNe, Nat.reduceBNe, Int.reduceAdd, Int.reduceSub, Int.reduceMul, Int.reduceNeg]
      have hK2 := (hKx.ow hK' fun b ⟨a, ha, e⟩ => e ▸ hO.fresh a ha)
      obtain ⟨hK3, g23⟩ := hK2.dels f2
      obtain ⟨hK4, g44⟩ := hK3.dels f4
      have ne2 : ∀ a, base2 = some a → a.block ≠ b2 := fun a ha e => by
        rcases hN' a ha with ⟨a', h1, h2⟩ | h1
        · exact hO.ne g2 a' h1 (h2 ▸ e)
        · exact h1.ne_find p2 e
      have ne4 : ∀ a, base2 = some a → a.block ≠ b4 := fun a ha e => by
        rcases hN' a ha with ⟨a', h1, h2⟩ | h1
        · exact hO.ne g4 a' h1 (h2 ▸ e)
        · exact h1.ne_find p4 e
      have hO2 := (hO'.del ne2).del ne4
      rw [fileP_succ hn] at hO2
      exact again (i + 1) _ _ _ ⟨by omega, _, base2, cap2, rfl, hO2, hK4, Fresh.of_le AH.le_del g23, g44⟩ (FrLe.of_lks (by simp (dsimp := false) (maxSteps := 4000000) only [n42, n24, g2, g4, enc_len, enc_scal, go_sem, ↓reduceIte, Nat.reduceEqDiff, Nat.reduceLT, Nat.reduceLeDiff, Nat.reduceAdd, Nat.reduceMul, Nat.reduceSub, reduceCtorEq, Int.reduceToNat, Int.reduceLT, Int.reduceLE, Int.reduceEq, Int.reduceNe, Int.reduceBEq, Nat.reduceBEq, Int.reduceBNe, Nat.reduceBNe, Int.reduceAdd, Int.reduceSub, Int.reduceMul, Int.reduceNeg])) (AH.le_refl _) (by omega)
      
    · obtain rfl : i = L.length := by omega
      simp (dsimp := false) (maxSteps := 4000000) only [hlt, n42, n24, g2, g4, enc_len, enc_scal, go_sem, ↓reduceIte, Nat.reduceEqDiff, Nat.reduceLT, Nat.reduceLeDiff, Nat.reduceAdd, Nat.reduceMul, Nat.reduceSub, reduceCtorEq, Int.reduceToNat, Int.reduceLT, Int.reduceLE, Int.reduceEq, Int.reduceNe, Int.reduceBEq, Nat.reduceBEq, Int.reduceBNe, Nat.reduceBNe, Int.reduceAdd, Int.reduceSub, Int.reduceMul, Int.reduceNeg]
      refine out _ _ _ (by simp) ?_
      simp (dsimp := false) (maxSteps := 4000000) only [n42, n24, g2, g4, enc_len, enc_scal, go_sem, ↓reduceIte, Nat.reduceEqDiff, Nat.reduceLT, Nat.reduceLeDiff, Nat.reduceAdd, Nat.reduceMul, Nat.reduceSub, reduceCtorEq, Int.reduceToNat, Int.reduceLT, Int.reduceLE, Int.reduceEq, Int.reduceNe, Int.reduceBEq, Nat.reduceBEq, Int.reduceBNe, Nat.reduceBNe, Int.reduceAdd, Int.reduceSub, Int.reduceMul, Int.reduceNeg]
      exact ⟨B, (by (repeat (first | exact AH.le_refl _ | refine AH.le_add ?_ ?_)); all_goals (first | exact AH.le_refl _ | (show AH.find _ _ = _; simp only [find_add_self, find_add_ne, find_fresh, fresh_add, ne_eq, not_false_eq_true, true_and, and_true, and_self, n42, n24, g2, g4, enc_len, enc_scal]))), base', cap', rfl, fileP_all L ▸ hO, hK⟩
end Go.Proofs.Ytadbmmdmibiikaa.Rose
