/- For every input ServeBytes answers true and leaves its arguments as_ they were; the package's one variable holds what the program's text lays into it: the tied card. -/
import Derived.Test.YtamlipffhimfmaaGreatDoorMServeBytes7
import Derived.Test.YtamlipffhimfmaaGreatDoorRows
import Derived.Test.YtamlipffhimfmaaGreatDoorCards
import Derived.Test.YtamlipffhimfmaaGreatDoorTie
import Derived.ChangeSame
import Derived.ChangeVars
import Derived.JoinedOf
import Derived.RowKit
import Derived.RowKitTokens
import Derived.LaidLaws
import Derived.LaidHandle
import Derived.Stop.Joined
import Derived.SevenTiedAt
/- serve: the reference's Serve. -/
namespace Go.Proofs.YtamlipffhimfmaaGreatDoor.Srv
set_option linter.unusedSimpArgs false
set_option linter.unusedVariables false
open Go Go.AX Go.Proofs Ty Go.Proofs.YtamlipffhimfmaaGreatDoor.File Go.Proofs.YtamlipffhimfmaaGreatDoor.Ifs Go.Proofs.YtamlipffhimfmaaGreatDoor.Err
set_option maxHeartbeats 4000000
set_option maxRecDepth 10000

theorem Aq.pre_in {q : Aq} (c1 : chk [q.a0, q.a1, q.a2] = q.a3) (c2 : q.a0 = q.n) : q.pre = if ¬ q.a1 < 192 then 2 else if q.op = 1 ∧ chk (rl q.d) ≠ q.d4 then 14 else 0 := by
  unfold Aq.pre; rw [if_neg (fun h => h.elim (fun h => h c1) fun h => h c2)]
theorem refS_kn {H : AH} {b : Nat} {Z : List RF} {den : Int} {rd : Nat → Prop} (h : RefS H b Z den rd) : RefK H rd := by
  obtain ⟨_, _, _, _, _, _, h⟩ := h
  exact h
theorem RefServe_c {H : AH} {b : Nat} {Z : List RF} {den : Int} {rd : Nat → Prop} (h : RefS H b Z den rd) (hX : OkX (Z.map RF.nf)) (q : Aq) (hq : q.Ok) :
    ACalls Tryz.prog 13 #[.pointer (some ⟨b, 0, none⟩), .int .i64 q.n, q.ask, q.dat] H (fun u H' => ∃ Z' rd', u = serveV q (Z.map RF.nf) ∧ Z'.map RF.nf = q.X (Z.map RF.nf) ∧ RefS H' b Z' (q.D (Z.map RF.nf) den) rd' ∧ Keep H H' (· = b) ∧ ∀ x, rd' x → rd x ∨ Fresh H x) := by
  obtain ⟨X, hXe⟩ : ∃ X, Z.map RF.nf = X := ⟨_, rfl⟩
  have hdo := fun H1 (h1 : RefS H1 b Z den rd) => RefDo_c h1 hX q.op q.fl q.a2 q.v
  rw [hXe] at hX hdo ⊢
  have bad : ∀ {T : AH}, q.pre ≠ 0 → H.le T → ∃ H', H'.le T ∧ ∃ Z' rd', Value.tuple #[.agg #[.int .u8 0, .int .u8 0, .int .u8 0, .int .u8 0, .int .u8 0], .bool false] = serveV q X ∧ Z'.map RF.nf = q.X X ∧ RefS H' b Z' (q.D X den) rd' ∧ Keep H H' (· = b) ∧ ∀ x, rd' x → rd x ∨ Fresh H x := fun {T} h0 hl =>
    ⟨H, hl, Z, rd, by rw [serveV, if_neg (Aq.E_bad h0).1], by rw [(Aq.E_bad (X := X) h0).2, hXe], by rw [Aq.D, if_neg h0]; exact h, Keep.refl, fun x h => .inl h⟩
  obtain ⟨h0, h1, h2, hd⟩ := hq
  have e0 : IntKind.i64.wrap q.a0 = q.a0 := i64_eq (by omega) (by omega)
  have hck := fun H1 p (h : SlcIn H1 1 (some ⟨p, 0, none⟩) 3 ([q.a0, q.a1, q.a2].map enc1)) => RefCheck_c [q.a0, q.a1, q.a2] (some ⟨p, 0, none⟩) 3 H1 h
  have hop := fun H1 => RefOpen_c q.d q.d4 H1
  unfold Aq.ask Aq.dat
  refine ACalls.enter2 Tryz.func13 rfl Tryz.ntmps13 Tryz.results13 (by simp) ?_; simp (dsimp := false) (maxSteps := 4000000) only [enc_len, enc_scal, lput_enc, take_enc, go_sem, ↓reduceIte, Nat.reduceEqDiff, Nat.reduceLT, Nat.reduceLeDiff, Nat.reduceAdd, Nat.reduceMul, Nat.reduceSub, reduceCtorEq, Int.reduceToNat, Int.reduceLT, Int.reduceLE, Int.reduceEq, Int.reduceNe, Int.reduceBEq, Nat.reduceBEq, Int.reduceBNe, Nat.reduceBNe, Int.reduceAdd, Int.reduceSub, Int.reduceMul, Int.reduceNeg]
  refine AllB.mk fun b6 h_b6 => ?_; have hn_b6 := h_b6; (try simp only [fresh_add, fresh_set, ne_eq] at hn_b6); have hr_b6 := hn_b6; (try simp only [@eq_comm Nat b6] at hr_b6); simp (dsimp := false) (maxSteps := 4000000) only [enc_len, enc_scal, lput_enc, take_enc, hn_b6, hr_b6, go_sem, ↓reduceIte, Nat.reduceEqDiff, Nat.reduceLT, Nat.reduceLeDiff, Nat.reduceAdd, Nat.reduceMul, Nat.reduceSub, reduceCtorEq, Int.reduceToNat, Int.reduceLT, Int.reduceLE, Int.reduceEq, Int.reduceNe, Int.reduceBEq, Nat.reduceBEq, Int.reduceBNe, Nat.reduceBNe, Int.reduceAdd, Int.reduceSub, Int.reduceMul, Int.reduceNeg]
  refine AllB.mk fun b7 h_b7 => ?_; have hn_b7 := h_b7; (try simp only [fresh_add, fresh_set, ne_eq] at hn_b7); have hr_b7 := hn_b7; (try simp only [@eq_comm Nat b7] at hr_b7); simp (dsimp := false) (maxSteps := 4000000) only [enc_len, enc_scal, lput_enc, take_enc, hn_b6, hr_b6, hn_b7, hr_b7, go_sem, ↓reduceIte, Nat.reduceEqDiff, Nat.reduceLT, Nat.reduceLeDiff, Nat.reduceAdd, Nat.reduceMul, Nat.reduceSub, reduceCtorEq, Int.reduceToNat, Int.reduceLT, Int.reduceLE, Int.reduceEq, Int.reduceNe, Int.reduceBEq, Nat.reduceBEq, Int.reduceBNe, Nat.reduceBNe, Int.reduceAdd, Int.reduceSub, Int.reduceMul, Int.reduceNeg]
  refine AllB.mk fun b8 h_b8 => ?_; have hn_b8 := h_b8; (try simp only [fresh_add, fresh_set, ne_eq] at hn_b8); have hr_b8 := hn_b8; (try simp only [@eq_comm Nat b8] at hr_b8); simp (dsimp := false) (maxSteps := 4000000) only [enc_len, enc_scal, lput_enc, take_enc, hn_b6, hr_b6, hn_b7, hr_b7, hn_b8, hr_b8, go_sem, ↓reduceIte, Nat.reduceEqDiff, Nat.reduceLT, Nat.reduceLeDiff, Nat.reduceAdd, Nat.reduceMul, Nat.reduceSub, reduceCtorEq, Int.reduceToNat, Int.reduceLT, Int.reduceLE, Int.reduceEq, Int.reduceNe, Int.reduceBEq, Nat.reduceBEq, Int.reduceBNe, Nat.reduceBNe, Int.reduceAdd, Int.reduceSub, Int.reduceMul, Int.reduceNeg]
  refine AWp.gen [.pu, .rd, .pu, .rd, .pu, .rd, .al, .ch, .pu, .rd, .pu, .pu, .pu, .rd, .pu, .pu, .pu, .pu] [0, 1, 0, 4, 0, 16, 63, 127, 0, 256, 1023, 2047, 4095, 8191, 16383, 4095, 65535, 131071] 8 (_) mixed (by kernel_rfl) (AH.le_refl _) ?_
  simp (dsimp := false) (maxSteps := 4000000) only [enc_len, enc_scal, lput_enc, take_enc, hn_b6, hr_b6, hn_b7, hr_b7, hn_b8, hr_b8, go_sem, ↓reduceIte, Nat.reduceEqDiff, Nat.reduceLT, Nat.reduceLeDiff, Nat.reduceAdd, Nat.reduceMul, Nat.reduceSub, reduceCtorEq, Int.reduceToNat, Int.reduceLT, Int.reduceLE, Int.reduceEq, Int.reduceNe, Int.reduceBEq, Nat.reduceBEq, Int.reduceBNe, Nat.reduceBNe, Int.reduceAdd, Int.reduceSub, Int.reduceMul, Int.reduceNeg]
  refine AllB.mk fun b9 h_b9 => ?_; have hn_b9 := h_b9; (try simp only [fresh_add, fresh_set, ne_eq] at hn_b9); have hr_b9 := hn_b9; (try simp only [@eq_comm Nat b9] at hr_b9); simp (dsimp := false) (maxSteps := 4000000) only [enc_len, enc_scal, lput_enc, take_enc, hn_b6, hr_b6, hn_b7, hr_b7, hn_b8, hr_b8, hn_b9, hr_b9, go_sem, ↓reduceIte, Nat.reduceEqDiff, Nat.reduceLT, Nat.reduceLeDiff, Nat.reduceAdd, Nat.reduceMul, Nat.reduceSub, reduceCtorEq, Int.reduceToNat, Int.reduceLT, Int.reduceLE, Int.reduceEq, Int.reduceNe, Int.reduceBEq, Nat.reduceBEq, Int.reduceBNe, Nat.reduceBNe, Int.reduceAdd, Int.reduceSub, Int.reduceMul, Int.reduceNeg]
  refine ACalls.mono (hck _ b9 (row1 (k := [q.a0, q.a1, q.a2]) (cs := [.int .u8 q.a0, .int .u8 q.a1, .int .u8 q.a2]) (e := 5) (m := 3) (by (show AH.find _ _ = _; simp only [find_add_self, find_add_ne, find_fresh, fresh_add, fresh_set, ne_eq, not_false_eq_true, true_and, and_true, and_self, enc_len, enc_scal, lput_enc, take_enc, hn_b6, hr_b6, hn_b7, hr_b7, hn_b8, hr_b8, hn_b9, hr_b9])) rfl rfl (by simp) 3 (by simp))) ?_; rintro _ _ ⟨rfl, rfl⟩
  by_cases c1 : chk [q.a0, q.a1, q.a2] = q.a3
  case' neg =>
    simp (dsimp := false) (maxSteps := 4000000) only [c1, enc_len, enc_scal, lput_enc, take_enc, hn_b6, hr_b6, hn_b7, hr_b7, hn_b8, hr_b8, hn_b9, hr_b9, go_sem, ↓reduceIte, Nat.reduceEqDiff, Nat.reduceLT, Nat.reduceLeDiff, Nat.reduceAdd, Nat.reduceMul, Nat.reduceSub, reduceCtorEq, Int.reduceToNat, Int.reduceLT, Int.reduceLE, Int.reduceEq, Int.reduceNe, Int.reduceBEq, Nat.reduceBEq, Int.reduceBNe, Nat.reduceBNe, Int.reduceAdd, Int.reduceSub, Int.reduceMul, Int.reduceNeg]
    refine ⟨AH.le_add (AH.le_refl _) h_b9.2, ?_⟩
    exact bad (by simp [Aq.pre, c1]) (AH.le_add (AH.le_add (AH.le_add (AH.le_add (AH.le_refl _) ((by simp only [enc_len, enc_scal, lput_enc, take_enc, fresh_add, fresh_set, ne_eq, hn_b6, not_false_eq_true, and_self] : Fresh _ b6).2)) ((by simp only [enc_len, enc_scal, lput_enc, take_enc, fresh_add, fresh_set, ne_eq, hn_b7, not_false_eq_true, and_self] : Fresh _ b7).2)) ((by simp only [enc_len, enc_scal, lput_enc, take_enc, fresh_add, fresh_set, ne_eq, hn_b8, not_false_eq_true, and_self] : Fresh _ b8).2)) ((by simp only [enc_len, enc_scal, lput_enc, take_enc, fresh_add, fresh_set, ne_eq, hn_b9, not_false_eq_true, and_self] : Fresh _ b9).2))
  by_cases c2 : q.a0 = q.n
  case' neg =>
    simp (dsimp := false) (maxSteps := 4000000) only [c1, enc_len, enc_scal, lput_enc, take_enc, hn_b6, hr_b6, hn_b7, hr_b7, hn_b8, hr_b8, hn_b9, hr_b9, go_sem, ↓reduceIte, Nat.reduceEqDiff, Nat.reduceLT, Nat.reduceLeDiff, Nat.reduceAdd, Nat.reduceMul, Nat.reduceSub, reduceCtorEq, Int.reduceToNat, Int.reduceLT, Int.reduceLE, Int.reduceEq, Int.reduceNe, Int.reduceBEq, Nat.reduceBEq, Int.reduceBNe, Nat.reduceBNe, Int.reduceAdd, Int.reduceSub, Int.reduceMul, Int.reduceNeg]
    simp (dsimp := false) (maxSteps := 4000000) only [e0, c2, enc_len, enc_scal, lput_enc, take_enc, hn_b6, hr_b6, hn_b7, hr_b7, hn_b8, hr_b8, hn_b9, hr_b9, go_sem, ↓reduceIte, Nat.reduceEqDiff, Nat.reduceLT, Nat.reduceLeDiff, Nat.reduceAdd, Nat.reduceMul, Nat.reduceSub, reduceCtorEq, Int.reduceToNat, Int.reduceLT, Int.reduceLE, Int.reduceEq, Int.reduceNe, Int.reduceBEq, Nat.reduceBEq, Int.reduceBNe, Nat.reduceBNe, Int.reduceAdd, Int.reduceSub, Int.reduceMul, Int.reduceNeg]
    refine ⟨AH.le_add (AH.le_refl _) h_b9.2, ?_⟩
    exact bad (by simp [Aq.pre, c2]) (AH.le_add (AH.le_add (AH.le_add (AH.le_add (AH.le_refl _) ((by simp only [enc_len, enc_scal, lput_enc, take_enc, fresh_add, fresh_set, ne_eq, hn_b6, not_false_eq_true, and_self] : Fresh _ b6).2)) ((by simp only [enc_len, enc_scal, lput_enc, take_enc, fresh_add, fresh_set, ne_eq, hn_b7, not_false_eq_true, and_self] : Fresh _ b7).2)) ((by simp only [enc_len, enc_scal, lput_enc, take_enc, fresh_add, fresh_set, ne_eq, hn_b8, not_false_eq_true, and_self] : Fresh _ b8).2)) ((by simp only [enc_len, enc_scal, lput_enc, take_enc, fresh_add, fresh_set, ne_eq, hn_b9, not_false_eq_true, and_self] : Fresh _ b9).2))
  simp (dsimp := false) (maxSteps := 4000000) only [c1, enc_len, enc_scal, lput_enc, take_enc, hn_b6, hr_b6, hn_b7, hr_b7, hn_b8, hr_b8, hn_b9, hr_b9, go_sem, ↓reduceIte, Nat.reduceEqDiff, Nat.reduceLT, Nat.reduceLeDiff, Nat.reduceAdd, Nat.reduceMul, Nat.reduceSub, reduceCtorEq, Int.reduceToNat, Int.reduceLT, Int.reduceLE, Int.reduceEq, Int.reduceNe, Int.reduceBEq, Nat.reduceBEq, Int.reduceBNe, Nat.reduceBNe, Int.reduceAdd, Int.reduceSub, Int.reduceMul, Int.reduceNeg]
  have en : IntKind.i64.wrap q.a0 = q.n := e0.trans c2
  simp (dsimp := false) (maxSteps := 4000000) only [en, enc_len, enc_scal, lput_enc, take_enc, hn_b6, hr_b6, hn_b7, hr_b7, hn_b8, hr_b8, hn_b9, hr_b9, go_sem, ↓reduceIte, Nat.reduceEqDiff, Nat.reduceLT, Nat.reduceLeDiff, Nat.reduceAdd, Nat.reduceMul, Nat.reduceSub, reduceCtorEq, Int.reduceToNat, Int.reduceLT, Int.reduceLE, Int.reduceEq, Int.reduceNe, Int.reduceBEq, Nat.reduceBEq, Int.reduceBNe, Nat.reduceBNe, Int.reduceAdd, Int.reduceSub, Int.reduceMul, Int.reduceNeg]
  refine ⟨AH.le_add (AH.le_refl _) h_b9.2, ?_⟩
  refine (Go.Proofs.YtamlipffhimfmaaGreatDoor.RefTake_c q.a1 q.a2 h1 h2 _).mono ?_; rintro _ _ ⟨rfl, rfl⟩
  unfold atakev
  by_cases t : q.a1 < 192
  case' neg =>
    rw [if_neg t]
    
    simp (dsimp := false) (maxSteps := 4000000) only [enc_len, enc_scal, lput_enc, take_enc, hn_b6, hr_b6, hn_b7, hr_b7, hn_b8, hr_b8, hn_b9, hr_b9, go_sem, ↓reduceIte, Nat.reduceEqDiff, Nat.reduceLT, Nat.reduceLeDiff, Nat.reduceAdd, Nat.reduceMul, Nat.reduceSub, reduceCtorEq, Int.reduceToNat, Int.reduceLT, Int.reduceLE, Int.reduceEq, Int.reduceNe, Int.reduceBEq, Nat.reduceBEq, Int.reduceBNe, Nat.reduceBNe, Int.reduceAdd, Int.reduceSub, Int.reduceMul, Int.reduceNeg]
    refine AllB.mk fun b10 h_b10 => ?_; have hn_b10 := h_b10; (try simp only [fresh_add, fresh_set, ne_eq] at hn_b10); have hr_b10 := hn_b10; (try simp only [@eq_comm Nat b10] at hr_b10); simp (dsimp := false) (maxSteps := 4000000) only [enc_len, enc_scal, lput_enc, take_enc, hn_b6, hr_b6, hn_b7, hr_b7, hn_b8, hr_b8, hn_b9, hr_b9, hn_b10, hr_b10, go_sem, ↓reduceIte, Nat.reduceEqDiff, Nat.reduceLT, Nat.reduceLeDiff, Nat.reduceAdd, Nat.reduceMul, Nat.reduceSub, reduceCtorEq, Int.reduceToNat, Int.reduceLT, Int.reduceLE, Int.reduceEq, Int.reduceNe, Int.reduceBEq, Nat.reduceBEq, Int.reduceBNe, Nat.reduceBNe, Int.reduceAdd, Int.reduceSub, Int.reduceMul, Int.reduceNeg]
    exact bad (by rw [Aq.pre_in c1 c2, if_pos t]; decide) (AH.le_add (AH.le_add (AH.le_add (AH.le_add (AH.le_add (AH.le_refl _) ((by simp only [enc_len, enc_scal, lput_enc, take_enc, fresh_add, fresh_set, ne_eq, hn_b6, not_false_eq_true, and_self] : Fresh _ b6).2)) ((by simp only [enc_len, enc_scal, lput_enc, take_enc, fresh_add, fresh_set, ne_eq, hn_b7, not_false_eq_true, and_self] : Fresh _ b7).2)) ((by simp only [enc_len, enc_scal, lput_enc, take_enc, fresh_add, fresh_set, ne_eq, hn_b8, not_false_eq_true, and_self] : Fresh _ b8).2)) ((by simp only [enc_len, enc_scal, lput_enc, take_enc, fresh_add, fresh_set, ne_eq, hn_b9, not_false_eq_true, and_self] : Fresh _ b9).2)) ((by simp only [enc_len, enc_scal, lput_enc, take_enc, fresh_add, fresh_set, ne_eq, hn_b10, not_false_eq_true, and_self] : Fresh _ b10).2))
    
  rw [if_pos t]
  simp (dsimp := false) (maxSteps := 4000000) only [enc_len, enc_scal, lput_enc, take_enc, hn_b6, hr_b6, hn_b7, hr_b7, hn_b8, hr_b8, hn_b9, hr_b9, go_sem, ↓reduceIte, Nat.reduceEqDiff, Nat.reduceLT, Nat.reduceLeDiff, Nat.reduceAdd, Nat.reduceMul, Nat.reduceSub, reduceCtorEq, Int.reduceToNat, Int.reduceLT, Int.reduceLE, Int.reduceEq, Int.reduceNe, Int.reduceBEq, Nat.reduceBEq, Int.reduceBNe, Nat.reduceBNe, Int.reduceAdd, Int.reduceSub, Int.reduceMul, Int.reduceNeg]
  refine AllB.mk fun b10 h_b10 => ?_; have hn_b10 := h_b10; (try simp only [fresh_add, fresh_set, ne_eq] at hn_b10); have hr_b10 := hn_b10; (try simp only [@eq_comm Nat b10] at hr_b10); simp (dsimp := false) (maxSteps := 4000000) only [enc_len, enc_scal, lput_enc, take_enc, hn_b6, hr_b6, hn_b7, hr_b7, hn_b8, hr_b8, hn_b9, hr_b9, hn_b10, hr_b10, go_sem, ↓reduceIte, Nat.reduceEqDiff, Nat.reduceLT, Nat.reduceLeDiff, Nat.reduceAdd, Nat.reduceMul, Nat.reduceSub, reduceCtorEq, Int.reduceToNat, Int.reduceLT, Int.reduceLE, Int.reduceEq, Int.reduceNe, Int.reduceBEq, Nat.reduceBEq, Int.reduceBNe, Nat.reduceBNe, Int.reduceAdd, Int.reduceSub, Int.reduceMul, Int.reduceNeg]
  refine (hop _).mono ?_; rintro _ _ ⟨rfl, rfl⟩
  obtain ⟨w, f, hw, hv, hpre⟩ : ∃ (w : Rc) (f : Int), openV q.d q.d4 = .tuple #[.agg (enc w).toArray, .int .i64 f] ∧ (q.op = 1 → f = 0 → w = q.v) ∧ (q.op = 1 ∧ f ≠ 0 ↔ q.pre ≠ 0) := by
    rw [Aq.pre_in c1 c2, if_neg (fun h => h t)]
    unfold openV Aq.v
    by_cases e : chk (rl q.d) = q.d4
    · refine ⟨q.d, 0, by rw [if_pos e], fun o _ => by rw [if_pos o], ?_⟩
      rw [if_neg (fun h => h.2 e)]; simp
    · refine ⟨zr, 14, by rw [if_neg e], fun _ h => (by cases h), ?_⟩
      by_cases o : q.op = 1
      · rw [if_pos ⟨o, e⟩]; simp [o]
      · rw [if_neg (fun h => o h.1)]; simp [o]
  rw [hw]
  simp (dsimp := false) (maxSteps := 4000000) only [enc_len, enc_scal, lput_enc, take_enc, hn_b6, hr_b6, hn_b7, hr_b7, hn_b8, hr_b8, hn_b9, hr_b9, hn_b10, hr_b10, go_sem, ↓reduceIte, Nat.reduceEqDiff, Nat.reduceLT, Nat.reduceLeDiff, Nat.reduceAdd, Nat.reduceMul, Nat.reduceSub, reduceCtorEq, Int.reduceToNat, Int.reduceLT, Int.reduceLE, Int.reduceEq, Int.reduceNe, Int.reduceBEq, Nat.reduceBEq, Int.reduceBNe, Nat.reduceBNe, Int.reduceAdd, Int.reduceSub, Int.reduceMul, Int.reduceNeg]
  refine AllB.mk fun b12 h_b12 => ?_; have hn_b12 := h_b12; (try simp only [fresh_add, fresh_set, ne_eq] at hn_b12); have hr_b12 := hn_b12; (try simp only [@eq_comm Nat b12] at hr_b12); simp (dsimp := false) (maxSteps := 4000000) only [enc_len, enc_scal, lput_enc, take_enc, hn_b6, hr_b6, hn_b7, hr_b7, hn_b8, hr_b8, hn_b9, hr_b9, hn_b10, hr_b10, hn_b12, hr_b12, go_sem, ↓reduceIte, Nat.reduceEqDiff, Nat.reduceLT, Nat.reduceLeDiff, Nat.reduceAdd, Nat.reduceMul, Nat.reduceSub, reduceCtorEq, Int.reduceToNat, Int.reduceLT, Int.reduceLE, Int.reduceEq, Int.reduceNe, Int.reduceBEq, Nat.reduceBEq, Int.reduceBNe, Nat.reduceBNe, Int.reduceAdd, Int.reduceSub, Int.reduceMul, Int.reduceNeg]
  have kT : ∀ {k6 k7 k8 k9 k10 k12 : ABlk}, Keep H ((((((H.add b6 k6).add b7 k7).add b8 k8).add b9 k9).add b10 k10).add b12 k12) fun _ => False := fun {k6 k7 k8 k9 k10 k12} => (((((Keep.refl.nw h_b6).nw (by simp only [fresh_add, ne_eq, hn_b7, not_false_eq_true, and_self])).nw (by simp only [fresh_add, ne_eq, hn_b8, not_false_eq_true, and_self])).nw (by simp only [fresh_add, ne_eq, hn_b9, not_false_eq_true, and_self])).nw (by simp only [fresh_add, ne_eq, hn_b10, not_false_eq_true, and_self])).nw (by simp only [fresh_add, ne_eq, hn_b12, not_false_eq_true, and_self])
  have hf8 : Fresh H b8 := hn_b8.2.2
  have n8 : b8 ≠ b := by
    obtain ⟨_, _, hb, _⟩ := h
    exact hf8.ne_find hb
  by_cases o : q.a1 / 64 = 1
  case' pos =>
    by_cases e : f = 0
    case' neg =>
      
      simp (dsimp := false) (maxSteps := 4000000) only [o, e, enc_len, enc_scal, lput_enc, take_enc, hn_b6, hr_b6, hn_b7, hr_b7, hn_b8, hr_b8, hn_b9, hr_b9, hn_b10, hr_b10, hn_b12, hr_b12, go_sem, ↓reduceIte, Nat.reduceEqDiff, Nat.reduceLT, Nat.reduceLeDiff, Nat.reduceAdd, Nat.reduceMul, Nat.reduceSub, reduceCtorEq, Int.reduceToNat, Int.reduceLT, Int.reduceLE, Int.reduceEq, Int.reduceNe, Int.reduceBEq, Nat.reduceBEq, Int.reduceBNe, Nat.reduceBNe, Int.reduceAdd, Int.reduceSub, Int.reduceMul, Int.reduceNeg]
      exact bad (hpre.1 ⟨o, e⟩) (AH.le_add (AH.le_add (AH.le_add (AH.le_add (AH.le_add (AH.le_add (AH.le_refl _) ((by simp only [enc_len, enc_scal, lput_enc, take_enc, fresh_add, fresh_set, ne_eq, hn_b6, not_false_eq_true, and_self] : Fresh _ b6).2)) ((by simp only [enc_len, enc_scal, lput_enc, take_enc, fresh_add, fresh_set, ne_eq, hn_b7, not_false_eq_true, and_self] : Fresh _ b7).2)) ((by simp only [enc_len, enc_scal, lput_enc, take_enc, fresh_add, fresh_set, ne_eq, hn_b8, not_false_eq_true, and_self] : Fresh _ b8).2)) ((by simp only [enc_len, enc_scal, lput_enc, take_enc, fresh_add, fresh_set, ne_eq, hn_b9, not_false_eq_true, and_self] : Fresh _ b9).2)) ((by simp only [enc_len, enc_scal, lput_enc, take_enc, fresh_add, fresh_set, ne_eq, hn_b10, not_false_eq_true, and_self] : Fresh _ b10).2)) ((by simp only [enc_len, enc_scal, lput_enc, take_enc, fresh_add, fresh_set, ne_eq, hn_b12, not_false_eq_true, and_self] : Fresh _ b12).2))
      
    have hp : q.pre = 0 := Decidable.byContradiction fun hh => e |> (fun e => (hpre.2 hh).2 e)
    obtain rfl : w = q.v := hv o e
    have o1 : Value.int .i64 q.op = .int .i64 1 := congrArg _ (show q.op = 1 from o)
    simp (dsimp := false) (maxSteps := 4000000) only [o, e, enc_len, enc_scal, lput_enc, take_enc, hn_b6, hr_b6, hn_b7, hr_b7, hn_b8, hr_b8, hn_b9, hr_b9, hn_b10, hr_b10, hn_b12, hr_b12, go_sem, ↓reduceIte, Nat.reduceEqDiff, Nat.reduceLT, Nat.reduceLeDiff, Nat.reduceAdd, Nat.reduceMul, Nat.reduceSub, reduceCtorEq, Int.reduceToNat, Int.reduceLT, Int.reduceLE, Int.reduceEq, Int.reduceNe, Int.reduceBEq, Nat.reduceBEq, Int.reduceBNe, Nat.reduceBNe, Int.reduceAdd, Int.reduceSub, Int.reduceMul, Int.reduceNeg]
    obtain ⟨C, hC⟩ : ∃ C, (((((H.add b6 (.cells [.int .u8 q.a0, .int .u8 q.a1, .int .u8 q.a2, .int .u8 q.a3] 25 4)).add b7 (.cells [.int .u8 q.d.1, .int .u8 q.d.2.1, .int .u8 q.d.2.2.1, .int .u8 q.d.2.2.2, .int .u8 q.d4] 27 5)).add b8 (.cells [.int .u8 0, .int .u8 0, .int .u8 0, .int .u8 0, .int .u8 0] 27 5)).add b9 (.cells [.int .u8 q.a0, .int .u8 q.a1, .int .u8 q.a2] 5 3)).add b10 (.cells [.int .i64 (q.a1 / 64), .int .i64 (q.a1 % 64), .int .i64 q.a2] 24 3)).add b12 (.cells (enc q.v) 26 4) = C := ⟨_, rfl⟩
    have kC : Keep H C fun _ => False := hC ▸ kT
    have g8 : C.find b8 = some (.cells [.int .u8 0, .int .u8 0, .int .u8 0, .int .u8 0, .int .u8 0] 27 5) := by rw [← hC]; (show AH.find _ _ = _; simp only [find_add_self, find_add_ne, find_fresh, fresh_add, fresh_set, ne_eq, not_false_eq_true, true_and, and_true, and_self, enc_len, enc_scal, lput_enc, take_enc, hn_b6, hr_b6, hn_b7, hr_b7, hn_b8, hr_b8, hn_b9, hr_b9, hn_b10, hr_b10, hn_b12, hr_b12])
    have hh := hdo C (h.keep kC (fun _ _ h => h) fun h => h)
    rw [o1] at hh
    rw [hC]
    refine ACalls.mono hh ?_
    rintro _ A ⟨Z', rd', rfl, hZ', hS, hK, hrd⟩
  case' neg =>
    have hp : q.pre = 0 := Decidable.byContradiction fun hh => o (hpre.2 hh).1
    have ez : zr = q.v := by rw [Aq.v, Aq.op, if_neg o]
    have eV : enc q.v = [.int .u8 0, .int .u8 0, .int .u8 0, .int .u8 0] := by rw [← ez]; rfl
    simp (dsimp := false) (maxSteps := 4000000) only [o, enc_len, enc_scal, lput_enc, take_enc, hn_b6, hr_b6, hn_b7, hr_b7, hn_b8, hr_b8, hn_b9, hr_b9, hn_b10, hr_b10, hn_b12, hr_b12, go_sem, ↓reduceIte, Nat.reduceEqDiff, Nat.reduceLT, Nat.reduceLeDiff, Nat.reduceAdd, Nat.reduceMul, Nat.reduceSub, reduceCtorEq, Int.reduceToNat, Int.reduceLT, Int.reduceLE, Int.reduceEq, Int.reduceNe, Int.reduceBEq, Nat.reduceBEq, Int.reduceBNe, Nat.reduceBNe, Int.reduceAdd, Int.reduceSub, Int.reduceMul, Int.reduceNeg]
    have es : ((((enc w).set 0 (Value.int .u8 0)).set 1 (Value.int .u8 0)).set 2 (Value.int .u8 0)).set 3 (Value.int .u8 0) = enc q.v := by rw [eV]; simp [enc]
    rw [es]
    obtain ⟨C, hC⟩ : ∃ C, (((((H.add b6 (.cells [.int .u8 q.a0, .int .u8 q.a1, .int .u8 q.a2, .int .u8 q.a3] 25 4)).add b7 (.cells [.int .u8 q.d.1, .int .u8 q.d.2.1, .int .u8 q.d.2.2.1, .int .u8 q.d.2.2.2, .int .u8 q.d4] 27 5)).add b8 (.cells [.int .u8 0, .int .u8 0, .int .u8 0, .int .u8 0, .int .u8 0] 27 5)).add b9 (.cells [.int .u8 q.a0, .int .u8 q.a1, .int .u8 q.a2] 5 3)).add b10 (.cells [.int .i64 (q.a1 / 64), .int .i64 (q.a1 % 64), .int .i64 q.a2] 24 3)).add b12 (.cells (enc q.v) 26 4) = C := ⟨_, rfl⟩
    have kC : Keep H C fun _ => False := hC ▸ kT
    have g8 : C.find b8 = some (.cells [.int .u8 0, .int .u8 0, .int .u8 0, .int .u8 0, .int .u8 0] 27 5) := by rw [← hC]; (show AH.find _ _ = _; simp only [find_add_self, find_add_ne, find_fresh, fresh_add, fresh_set, ne_eq, not_false_eq_true, true_and, and_true, and_self, enc_len, enc_scal, lput_enc, take_enc, hn_b6, hr_b6, hn_b7, hr_b7, hn_b8, hr_b8, hn_b9, hr_b9, hn_b10, hr_b10, hn_b12, hr_b12])
    have hh := hdo C (h.keep kC (fun _ _ h => h) fun h => h)
    rw [hC]
    refine ACalls.mono hh ?_
    rintro _ A ⟨Z', rd', rfl, hZ', hS, hK, hrd⟩
  all_goals
    have hKA : Keep H A (· = b) := (kC.mono fun _ h => h.elim).trans hK
    have hrA : ∀ x, rd' x → rd x ∨ Fresh H x := fun x hx => (hrd x hx).imp id fun h => kC.fr h
    have f8 : A.find b8 = some (.cells [.int .u8 0, .int .u8 0, .int .u8 0, .int .u8 0, .int .u8 0] 27 5) := hK.find n8 g8
    have r8 : ¬ rd' b8 := fun hx => (hrd _ hx).elim (fun hx => refS_kn h _ hx hf8) fun h' => h'.ne_find g8 rfl
    have hE : q.E X = doE X q.op q.fl q.a2 := by rw [Aq.E, if_pos hp]
    have hW : q.W X = doW X q.op q.fl q.a2 q.v := by rw [Aq.W, if_pos hp]
    have hXX : q.X X = doX X q.op q.fl q.a2 q.v := by rw [Aq.X, if_pos hp]
    have hD : q.D X den = doD X q.op q.fl q.a2 den := by rw [Aq.D, if_pos hp]
    rw [doV, ← hE, ← hW]
    rw [← hXX] at hZ'
    rw [← hD] at hS
    clear hh hK hrd hdo hC g8 kC hE hW hXX hD hn_b6 hr_b6 h_b6 hn_b7 hr_b7 h_b7 hn_b8 hr_b8 h_b8 hn_b9 hr_b9 h_b9 hn_b10 hr_b10 h_b10 hn_b12 hr_b12 h_b12 kT
    
    obtain ⟨z, hz⟩ : ∃ z, q.W X = z := ⟨_, rfl⟩
    obtain ⟨e, he⟩ : ∃ e, q.E X = e := ⟨_, rfl⟩
    rw [hz, he]
    have fin : ∀ (vs : List Value) (k14 : ABlk) (b14 : Nat) (u : Value), Fresh A b14 → u = serveV q X → ∃ H', H'.le ((A.set b8 (.cells vs 27 5)).add b14 k14) ∧ ∃ Z' rd', u = serveV q X ∧ Z'.map RF.nf = q.X X ∧ RefS H' b Z' (q.D X den) rd' ∧ Keep H H' (· = b) ∧ ∀ x, rd' x → rd x ∨ Fresh H x := fun vs k14 b14 u h14 hu =>
      ⟨_, AH.le_add (AH.le_refl _) (by rw [find_set, if_neg (h14.ne_find f8)]; exact h14.2), Z', rd', hu, hZ', hS.keep Keep.set (fun x hx e => r8 (e ▸ hx)) (fun e => n8 e.symm), hKA.then Keep.set fun x e => .inr (e ▸ hf8), hrA⟩
    simp (dsimp := false) (maxSteps := 4000000) only [enc_len, enc_scal, lput_enc, take_enc, go_sem, ↓reduceIte, Nat.reduceEqDiff, Nat.reduceLT, Nat.reduceLeDiff, Nat.reduceAdd, Nat.reduceMul, Nat.reduceSub, reduceCtorEq, Int.reduceToNat, Int.reduceLT, Int.reduceLE, Int.reduceEq, Int.reduceNe, Int.reduceBEq, Nat.reduceBEq, Int.reduceBNe, Nat.reduceBNe, Int.reduceAdd, Int.reduceSub, Int.reduceMul, Int.reduceNeg]
    refine AllB.mk fun b14 h_b14 => ?_
    have n14 : ¬ b14 = b8 := h_b14.ne_find f8
    by_cases e0 : e = 0
    · have hd := fun H1 => RefData_c z H1
      unfold dataV at hd
      have hw' : A.wrs b8 0 [.int .u8 z.1, .int .u8 z.2.1, .int .u8 z.2.2.1, .int .u8 z.2.2.2, .int .u8 (chk (rl z))] = some (A.set b8 (.cells [.int .u8 z.1, .int .u8 z.2.1, .int .u8 z.2.2.1, .int .u8 z.2.2.2, .int .u8 (chk (rl z))] 27 5)) := by simp [AH.wrs, f8, lput, scal]
      have hfd : (A.set b8 (.cells [.int .u8 z.1, .int .u8 z.2.1, .int .u8 z.2.2.1, .int .u8 z.2.2.2, .int .u8 (chk (rl z))] 27 5)).find b8 = some (.cells [.int .u8 z.1, .int .u8 z.2.1, .int .u8 z.2.2.1, .int .u8 z.2.2.2, .int .u8 (chk (rl z))] 27 5) := by rw [find_set, if_pos rfl]
      have hr : (A.set b8 (.cells [.int .u8 z.1, .int .u8 z.2.1, .int .u8 z.2.2.1, .int .u8 z.2.2.2, .int .u8 (chk (rl z))] 27 5)).row b8 0 5 = some [.int .u8 z.1, .int .u8 z.2.1, .int .u8 z.2.2.1, .int .u8 z.2.2.2, .int .u8 (chk (rl z))] := row_find hfd (by simp)
      simp (dsimp := false) (maxSteps := 4000000) only [e0, enc_len, enc_scal, lput_enc, take_enc, go_sem, ↓reduceIte, Nat.reduceEqDiff, Nat.reduceLT, Nat.reduceLeDiff, Nat.reduceAdd, Nat.reduceMul, Nat.reduceSub, reduceCtorEq, Int.reduceToNat, Int.reduceLT, Int.reduceLE, Int.reduceEq, Int.reduceNe, Int.reduceBEq, Nat.reduceBEq, Int.reduceBNe, Nat.reduceBNe, Int.reduceAdd, Int.reduceSub, Int.reduceMul, Int.reduceNeg]
      refine (hd _).mono ?_; rintro _ _ ⟨rfl, rfl⟩
      simp (dsimp := false) (maxSteps := 4000000) only [n14, hw', hr, enc_len, enc_scal, lput_enc, take_enc, go_sem, ↓reduceIte, Nat.reduceEqDiff, Nat.reduceLT, Nat.reduceLeDiff, Nat.reduceAdd, Nat.reduceMul, Nat.reduceSub, reduceCtorEq, Int.reduceToNat, Int.reduceLT, Int.reduceLE, Int.reduceEq, Int.reduceNe, Int.reduceBEq, Nat.reduceBEq, Int.reduceBNe, Nat.reduceBNe, Int.reduceAdd, Int.reduceSub, Int.reduceMul, Int.reduceNeg]
      exact fin _ _ _ _ h_b14 (by rw [serveV, if_pos (he.trans e0), hz]; rfl)
    · have hw' : A.wrs b8 0 [.int .u8 0, .int .u8 0, .int .u8 0, .int .u8 0, .int .u8 0] = some (A.set b8 (.cells [.int .u8 0, .int .u8 0, .int .u8 0, .int .u8 0, .int .u8 0] 27 5)) := by simp [AH.wrs, f8, lput, scal]
      have hfd : (A.set b8 (.cells [.int .u8 0, .int .u8 0, .int .u8 0, .int .u8 0, .int .u8 0] 27 5)).find b8 = some (.cells [.int .u8 0, .int .u8 0, .int .u8 0, .int .u8 0, .int .u8 0] 27 5) := by rw [find_set, if_pos rfl]
      have hr : (A.set b8 (.cells [.int .u8 0, .int .u8 0, .int .u8 0, .int .u8 0, .int .u8 0] 27 5)).row b8 0 5 = some [.int .u8 0, .int .u8 0, .int .u8 0, .int .u8 0, .int .u8 0] := row_find hfd (by simp)
      simp (dsimp := false) (maxSteps := 4000000) only [e0, n14, hw', hr, enc_len, enc_scal, lput_enc, take_enc, go_sem, ↓reduceIte, Nat.reduceEqDiff, Nat.reduceLT, Nat.reduceLeDiff, Nat.reduceAdd, Nat.reduceMul, Nat.reduceSub, reduceCtorEq, Int.reduceToNat, Int.reduceLT, Int.reduceLE, Int.reduceEq, Int.reduceNe, Int.reduceBEq, Nat.reduceBEq, Int.reduceBNe, Nat.reduceBNe, Int.reduceAdd, Int.reduceSub, Int.reduceMul, Int.reduceNeg]
      exact fin _ _ _ _ h_b14 (by rw [serveV, if_neg (by rw [he]; exact e0)])
end Go.Proofs.YtamlipffhimfmaaGreatDoor.Srv

/- serve: the reference's Try. -/
namespace Go.Proofs.YtamlipffhimfmaaGreatDoor.Srv
set_option linter.unusedSimpArgs false
set_option linter.unusedVariables false
open Go Go.AX Go.Proofs Ty Go.Proofs.YtamlipffhimfmaaGreatDoor.File Go.Proofs.YtamlipffhimfmaaGreatDoor.Ifs Go.Proofs.YtamlipffhimfmaaGreatDoor.Err
set_option maxHeartbeats 4000000
set_option maxRecDepth 10000

end Go.Proofs.YtamlipffhimfmaaGreatDoor.Srv

/- the reference's store: Set. -/
namespace Go.Proofs.YtamlipffhimfmaaGreatDoor.Ifs
set_option linter.unusedSimpArgs false
set_option linter.unusedVariables false
open Go Go.AX Go.Proofs Ty Go.Proofs.YtamlipffhimfmaaGreatDoor.File
set_option maxHeartbeats 4000000
set_option maxRecDepth 10000

end Go.Proofs.YtamlipffhimfmaaGreatDoor.Ifs

/- serve: ServeTries. -/
namespace Go.Proofs.YtamlipffhimfmaaGreatDoor.Srv
set_option linter.unusedSimpArgs false
set_option linter.unusedVariables false
open Go Go.AX Go.Proofs Ty Go.Proofs.YtamlipffhimfmaaGreatDoor.File Go.Proofs.YtamlipffhimfmaaGreatDoor.Ifs Go.Proofs.YtamlipffhimfmaaGreatDoor.Err
set_option maxHeartbeats 4000000
set_option maxRecDepth 10000

/-! ### The map of turned bytes -/
def ki (l : List (Int × Int)) : List (Value × Value) := l.map fun p => (.int .i64 p.1, .int .u8 p.2)
theorem mlk_no {i : Int} : ∀ {l : List (Int × Int)} {n : Nat}, (∀ p ∈ l, p.1 ≠ i) → mlk (.int .i64) (.int .i64 i) (ki l) n = some none
  | [], _, _ => rfl
  | p :: l, n, h => by
    have h1 : ¬ i = p.1 := fun e => h p (List.mem_cons_self ..) e.symm
    have ih := mlk_no (l := l) (n := n + 1) fun q hq => h q (List.mem_cons_of_mem _ hq)
    show mlk _ _ ((Value.int .i64 p.1, Value.int .u8 p.2) :: ki l) n = _
    rw [mlk, same_i, decide_eq_false h1]
    exact ih
theorem mlk_yes {i y : Int} : ∀ {l : List (Int × Int)} {n : Nat}, (∃ p ∈ l, p.1 = i) → (∀ p ∈ l, p.1 = i → p.2 = y) → ∃ k, mlk (.int .i64) (.int .i64 i) (ki l) n = some (some (k, .int .u8 y))
  | [], _, h, _ => by obtain ⟨_, h, _⟩ := h; cases h
  | p :: l, n, h, hy => by
    show ∃ k, mlk _ _ ((Value.int .i64 p.1, Value.int .u8 p.2) :: ki l) n = _
    by_cases e : i = p.1
    · refine ⟨n, ?_⟩
      rw [mlk, same_i, decide_eq_true e, ← hy p (List.mem_cons_self ..) e.symm]
    · obtain ⟨k, hk⟩ := mlk_yes (l := l) (n := n + 1) (by
        obtain ⟨q, hq, e'⟩ := h
        rcases List.mem_cons.1 hq with rfl | hq
        · exact absurd e'.symm e
        · exact ⟨q, hq, e'⟩) fun q hq => hy q (List.mem_cons_of_mem _ hq)
      refine ⟨k, ?_⟩
      rw [mlk, same_i, decide_eq_false e]
      exact hk
/-- The entries behind so many rounds. -/
def ents (tu : Int → Int) : Nat → List (Int × Int)
  | 0 => []
  | i + 1 => if tu i = 0 then ents tu i else ents tu i ++ [((i : Int), tu i)]
theorem ents_mem {tu : Int → Int} {p : Int × Int} : ∀ {i : Nat}, p ∈ ents tu i ↔ ∃ j : Nat, j < i ∧ tu j ≠ 0 ∧ p = ((j : Int), tu j)
  | 0 => by simp [ents]
  | i + 1 => by
    rw [ents]
    split
    · rename_i h0
      rw [ents_mem]
      constructor
      · rintro ⟨j, h1, h2, h3⟩; exact ⟨j, by omega, h2, h3⟩
      · rintro ⟨j, h1, h2, h3⟩
        by_cases e : j = i
        · subst e; exact absurd h0 h2
        · exact ⟨j, by omega, h2, h3⟩
    · rename_i h0
      rw [List.mem_append, ents_mem, List.mem_singleton]
      constructor
      · rintro (⟨j, h1, h2, h3⟩ | h3)
        · exact ⟨j, by omega, h2, h3⟩
        · exact ⟨i, by omega, h0, h3⟩
      · rintro ⟨j, h1, h2, h3⟩
        by_cases e : j = i
        · subst e; exact .inr h3
        · exact .inl ⟨j, by omega, h2, h3⟩
theorem Mp.ents {H : AH} {bm : Nat} {tu : Int → Int} {n : Nat} (h : H.find bm = some (.amap (ki (ents tu n)))) (ht : ∀ i : Int, i < 0 ∨ (n : Int) ≤ i → tu i = 0) : Mp H (.map (some bm)) tu := by
  refine .inr ⟨bm, _, rfl, h, fun i => ?_⟩
  by_cases e : tu i = 0
  · refine .inl ⟨mlk_no fun p hp ee => ?_, e⟩
    obtain ⟨j, _, h2, rfl⟩ := ents_mem.1 hp
    dsimp only at ee
    rw [ee] at h2
    exact h2 e
  · have hi : 0 ≤ i ∧ i < n := Decidable.byContradiction fun hh => e (ht i (by omega))
    refine .inr (mlk_yes ⟨(i, tu i), ents_mem.2 ⟨i.toNat, by omega, ?_, ?_⟩, rfl⟩ fun p hp ee => ?_)
    · rw [show ((i.toNat : Nat) : Int) = i by omega]; exact e
    · rw [show ((i.toNat : Nat) : Int) = i by omega]
    · obtain ⟨j, _, _, rfl⟩ := ents_mem.1 hp
      dsimp only at ee ⊢
      rw [ee]
def NfIn (H : AH) (z : RF) : Prop := SlcIn H 4 z.base z.cap (z.R.map enc) ∧ ∀ r ∈ z.R, RcOk r
theorem NfIn.keep {H H' : AH} {z : RF} (h : NfIn H z) (hK : Keep H H' fun _ => False) : NfIn H' z := ⟨h.1.keep hK fun _ _ h => h, h.2⟩
end Go.Proofs.YtamlipffhimfmaaGreatDoor.Srv

/- serve: ServeBytes. -/
namespace Go.Proofs.YtamlipffhimfmaaGreatDoor.Srv
set_option linter.unusedSimpArgs false
set_option linter.unusedVariables false
open Go Go.AX Go.Proofs Ty Go.Proofs.YtamlipffhimfmaaGreatDoor.File Go.Proofs.YtamlipffhimfmaaGreatDoor.Ifs Go.Proofs.YtamlipffhimfmaaGreatDoor.Err
set_option maxHeartbeats 4000000
set_option maxRecDepth 10000

theorem answer_nil (q : Aq) (H : AH) : ACalls Tryz.prog 43 #[.pointer none, .int .i64 q.n, q.ask, q.dat] H (fun u H' => u = .tuple #[.agg (enc zr).toArray, silV 14] ∧ H = H') := by
  unfold Aq.ask Aq.dat
  refine ACalls.enter2 Tryz.func43 rfl Tryz.ntmps43 Tryz.results43 (by simp) ?_; simp (dsimp := false) (maxSteps := 4000000) only [enc_len, enc_scal, lput_enc, take_enc, go_sem, ↓reduceIte, Nat.reduceEqDiff, Nat.reduceLT, Nat.reduceLeDiff, Nat.reduceAdd, Nat.reduceMul, Nat.reduceSub, reduceCtorEq, Int.reduceToNat, Int.reduceLT, Int.reduceLE, Int.reduceEq, Int.reduceNe, Int.reduceBEq, Nat.reduceBEq, Int.reduceBNe, Nat.reduceBNe, Int.reduceAdd, Int.reduceSub, Int.reduceMul, Int.reduceNeg]
  refine AllB.mk fun b6 h_b6 => ?_; have hn_b6 := h_b6; (try simp only [fresh_add, fresh_set, ne_eq] at hn_b6); have hr_b6 := hn_b6; (try simp only [@eq_comm Nat b6] at hr_b6); simp (dsimp := false) (maxSteps := 4000000) only [enc_len, enc_scal, lput_enc, take_enc, hn_b6, hr_b6, go_sem, ↓reduceIte, Nat.reduceEqDiff, Nat.reduceLT, Nat.reduceLeDiff, Nat.reduceAdd, Nat.reduceMul, Nat.reduceSub, reduceCtorEq, Int.reduceToNat, Int.reduceLT, Int.reduceLE, Int.reduceEq, Int.reduceNe, Int.reduceBEq, Nat.reduceBEq, Int.reduceBNe, Nat.reduceBNe, Int.reduceAdd, Int.reduceSub, Int.reduceMul, Int.reduceNeg]
  refine AllB.mk fun b7 h_b7 => ?_; have hn_b7 := h_b7; (try simp only [fresh_add, fresh_set, ne_eq] at hn_b7); have hr_b7 := hn_b7; (try simp only [@eq_comm Nat b7] at hr_b7); simp (dsimp := false) (maxSteps := 4000000) only [enc_len, enc_scal, lput_enc, take_enc, hn_b6, hr_b6, hn_b7, hr_b7, go_sem, ↓reduceIte, Nat.reduceEqDiff, Nat.reduceLT, Nat.reduceLeDiff, Nat.reduceAdd, Nat.reduceMul, Nat.reduceSub, reduceCtorEq, Int.reduceToNat, Int.reduceLT, Int.reduceLE, Int.reduceEq, Int.reduceNe, Int.reduceBEq, Nat.reduceBEq, Int.reduceBNe, Nat.reduceBNe, Int.reduceAdd, Int.reduceSub, Int.reduceMul, Int.reduceNeg]
  refine AllB.mk fun b8 h_b8 => ?_; have hn_b8 := h_b8; (try simp only [fresh_add, fresh_set, ne_eq] at hn_b8); have hr_b8 := hn_b8; (try simp only [@eq_comm Nat b8] at hr_b8); simp (dsimp := false) (maxSteps := 4000000) only [enc_len, enc_scal, lput_enc, take_enc, hn_b6, hr_b6, hn_b7, hr_b7, hn_b8, hr_b8, go_sem, ↓reduceIte, Nat.reduceEqDiff, Nat.reduceLT, Nat.reduceLeDiff, Nat.reduceAdd, Nat.reduceMul, Nat.reduceSub, reduceCtorEq, Int.reduceToNat, Int.reduceLT, Int.reduceLE, Int.reduceEq, Int.reduceNe, Int.reduceBEq, Nat.reduceBEq, Int.reduceBNe, Nat.reduceBNe, Int.reduceAdd, Int.reduceSub, Int.reduceMul, Int.reduceNeg]
  refine AWp.gen [.pu, .pu, .pu, .pu, .ch, .pu, .rd, .pu, .pu, .pu, .pu, .rd, .pu, .pu, .pu, .pu] [0, 1, 3, 7, 15, 7, 39, 127, 255, 511, 1023, 2047, 4095, 1023, 16383, 32767] 5 (_) mixed (by kernel_rfl) (AH.le_refl _) ?_
  simp (dsimp := false) (maxSteps := 4000000) only [enc_len, enc_scal, lput_enc, take_enc, hn_b6, hr_b6, hn_b7, hr_b7, hn_b8, hr_b8, go_sem, ↓reduceIte, Nat.reduceEqDiff, Nat.reduceLT, Nat.reduceLeDiff, Nat.reduceAdd, Nat.reduceMul, Nat.reduceSub, reduceCtorEq, Int.reduceToNat, Int.reduceLT, Int.reduceLE, Int.reduceEq, Int.reduceNe, Int.reduceBEq, Nat.reduceBEq, Int.reduceBNe, Nat.reduceBNe, Int.reduceAdd, Int.reduceSub, Int.reduceMul, Int.reduceNeg]
  exact ⟨H, (AH.le_add (AH.le_add (AH.le_add (AH.le_refl _) ((by simp only [enc_len, enc_scal, lput_enc, take_enc, fresh_add, fresh_set, ne_eq, hn_b6, not_false_eq_true, and_self] : Fresh _ b6).2)) ((by simp only [enc_len, enc_scal, lput_enc, take_enc, fresh_add, fresh_set, ne_eq, hn_b7, not_false_eq_true, and_self] : Fresh _ b7).2)) ((by simp only [enc_len, enc_scal, lput_enc, take_enc, fresh_add, fresh_set, ne_eq, hn_b8, not_false_eq_true, and_self] : Fresh _ b8).2)), rfl, rfl⟩
theorem Serve_nil (q : Aq) (H : AH) (hE : ErrT H.w0) : ACalls Tryz.prog 12 #[.pointer none, .int .i64 q.n, q.ask, q.dat] H (fun u H' => u = .tuple #[.agg #[.int .u8 0, .int .u8 0, .int .u8 0, .int .u8 0, .int .u8 0], .bool false] ∧ H = H') := by
  have hans := fun H1 => answer_nil q H1
  unfold Aq.ask Aq.dat at hans ⊢
  refine ACalls.enter2 Tryz.func12 rfl Tryz.ntmps12 Tryz.results12 (by simp) ?_; simp (dsimp := false) (maxSteps := 4000000) only [enc_len, enc_scal, lput_enc, take_enc, go_sem, ↓reduceIte, Nat.reduceEqDiff, Nat.reduceLT, Nat.reduceLeDiff, Nat.reduceAdd, Nat.reduceMul, Nat.reduceSub, reduceCtorEq, Int.reduceToNat, Int.reduceLT, Int.reduceLE, Int.reduceEq, Int.reduceNe, Int.reduceBEq, Nat.reduceBEq, Int.reduceBNe, Nat.reduceBNe, Int.reduceAdd, Int.reduceSub, Int.reduceMul, Int.reduceNeg]
  refine AllB.mk fun b6 h_b6 => ?_; have hn_b6 := h_b6; (try simp only [fresh_add, fresh_set, ne_eq] at hn_b6); have hr_b6 := hn_b6; (try simp only [@eq_comm Nat b6] at hr_b6); simp (dsimp := false) (maxSteps := 4000000) only [enc_len, enc_scal, lput_enc, take_enc, hn_b6, hr_b6, go_sem, ↓reduceIte, Nat.reduceEqDiff, Nat.reduceLT, Nat.reduceLeDiff, Nat.reduceAdd, Nat.reduceMul, Nat.reduceSub, reduceCtorEq, Int.reduceToNat, Int.reduceLT, Int.reduceLE, Int.reduceEq, Int.reduceNe, Int.reduceBEq, Nat.reduceBEq, Int.reduceBNe, Nat.reduceBNe, Int.reduceAdd, Int.reduceSub, Int.reduceMul, Int.reduceNeg]
  refine AllB.mk fun b7 h_b7 => ?_; have hn_b7 := h_b7; (try simp only [fresh_add, fresh_set, ne_eq] at hn_b7); have hr_b7 := hn_b7; (try simp only [@eq_comm Nat b7] at hr_b7); simp (dsimp := false) (maxSteps := 4000000) only [enc_len, enc_scal, lput_enc, take_enc, hn_b6, hr_b6, hn_b7, hr_b7, go_sem, ↓reduceIte, Nat.reduceEqDiff, Nat.reduceLT, Nat.reduceLeDiff, Nat.reduceAdd, Nat.reduceMul, Nat.reduceSub, reduceCtorEq, Int.reduceToNat, Int.reduceLT, Int.reduceLE, Int.reduceEq, Int.reduceNe, Int.reduceBEq, Nat.reduceBEq, Int.reduceBNe, Nat.reduceBNe, Int.reduceAdd, Int.reduceSub, Int.reduceMul, Int.reduceNeg]
  refine AllB.mk fun b8 h_b8 => ?_; have hn_b8 := h_b8; (try simp only [fresh_add, fresh_set, ne_eq] at hn_b8); have hr_b8 := hn_b8; (try simp only [@eq_comm Nat b8] at hr_b8); simp (dsimp := false) (maxSteps := 4000000) only [enc_len, enc_scal, lput_enc, take_enc, hn_b6, hr_b6, hn_b7, hr_b7, hn_b8, hr_b8, go_sem, ↓reduceIte, Nat.reduceEqDiff, Nat.reduceLT, Nat.reduceLeDiff, Nat.reduceAdd, Nat.reduceMul, Nat.reduceSub, reduceCtorEq, Int.reduceToNat, Int.reduceLT, Int.reduceLE, Int.reduceEq, Int.reduceNe, Int.reduceBEq, Nat.reduceBEq, Int.reduceBNe, Nat.reduceBNe, Int.reduceAdd, Int.reduceSub, Int.reduceMul, Int.reduceNeg]
  refine (hans _).mono ?_; rintro _ _ ⟨rfl, rfl⟩
  simp (dsimp := false) (maxSteps := 4000000) only [enc_len, enc_scal, lput_enc, take_enc, hn_b6, hr_b6, hn_b7, hr_b7, hn_b8, hr_b8, go_sem, ↓reduceIte, Nat.reduceEqDiff, Nat.reduceLT, Nat.reduceLeDiff, Nat.reduceAdd, Nat.reduceMul, Nat.reduceSub, reduceCtorEq, Int.reduceToNat, Int.reduceLT, Int.reduceLE, Int.reduceEq, Int.reduceNe, Int.reduceBEq, Nat.reduceBEq, Int.reduceBNe, Nat.reduceBNe, Int.reduceAdd, Int.reduceSub, Int.reduceMul, Int.reduceNeg]
  refine AllB.mk fun b10 h_b10 => ?_; have hn_b10 := h_b10; (try simp only [fresh_add, fresh_set, ne_eq] at hn_b10); have hr_b10 := hn_b10; (try simp only [@eq_comm Nat b10] at hr_b10); simp (dsimp := false) (maxSteps := 4000000) only [enc_len, enc_scal, lput_enc, take_enc, hn_b6, hr_b6, hn_b7, hr_b7, hn_b8, hr_b8, hn_b10, hr_b10, go_sem, ↓reduceIte, Nat.reduceEqDiff, Nat.reduceLT, Nat.reduceLeDiff, Nat.reduceAdd, Nat.reduceMul, Nat.reduceSub, reduceCtorEq, Int.reduceToNat, Int.reduceLT, Int.reduceLE, Int.reduceEq, Int.reduceNe, Int.reduceBEq, Nat.reduceBEq, Int.reduceBNe, Nat.reduceBNe, Int.reduceAdd, Int.reduceSub, Int.reduceMul, Int.reduceNeg]
  refine AllB.mk fun b12 h_b12 => ?_; have hn_b12 := h_b12; (try simp only [fresh_add, fresh_set, ne_eq] at hn_b12); have hr_b12 := hn_b12; (try simp only [@eq_comm Nat b12] at hr_b12); simp (dsimp := false) (maxSteps := 4000000) only [enc_len, enc_scal, lput_enc, take_enc, hn_b6, hr_b6, hn_b7, hr_b7, hn_b8, hr_b8, hn_b10, hr_b10, hn_b12, hr_b12, go_sem, ↓reduceIte, Nat.reduceEqDiff, Nat.reduceLT, Nat.reduceLeDiff, Nat.reduceAdd, Nat.reduceMul, Nat.reduceSub, reduceCtorEq, Int.reduceToNat, Int.reduceLT, Int.reduceLE, Int.reduceEq, Int.reduceNe, Int.reduceBEq, Nat.reduceBEq, Int.reduceBNe, Nat.reduceBNe, Int.reduceAdd, Int.reduceSub, Int.reduceMul, Int.reduceNeg]
  refine (AsS_c (e := 14) (H := (((H.add b6 (.cells [.int .u8 q.a0, .int .u8 q.a1, .int .u8 q.a2, .int .u8 q.a3] 25 4)).add b7 (.cells [.int .u8 q.d.1, .int .u8 q.d.2.1, .int .u8 q.d.2.2.1, .int .u8 q.d.2.2.2, .int .u8 q.d4] 27 5)).add b8 (.cells [.int .u8 0, .int .u8 0, .int .u8 0, .int .u8 0, .int .u8 0] 27 5)).add b10 (.cells (enc zr) 26 4)) (by simp only [w0_add]; exact hE) h_b12).mono ?_
  rintro _ _ ⟨rfl, x, rfl⟩
  simp (dsimp := false) (maxSteps := 4000000) only [enc_len, enc_scal, lput_enc, take_enc, hn_b6, hr_b6, hn_b7, hr_b7, hn_b8, hr_b8, hn_b10, hr_b10, hn_b12, hr_b12, go_sem, ↓reduceIte, Nat.reduceEqDiff, Nat.reduceLT, Nat.reduceLeDiff, Nat.reduceAdd, Nat.reduceMul, Nat.reduceSub, reduceCtorEq, Int.reduceToNat, Int.reduceLT, Int.reduceLE, Int.reduceEq, Int.reduceNe, Int.reduceBEq, Nat.reduceBEq, Int.reduceBNe, Nat.reduceBNe, Int.reduceAdd, Int.reduceSub, Int.reduceMul, Int.reduceNeg]
  exact ⟨H, (AH.le_add (AH.le_add (AH.le_add (AH.le_add (AH.le_add (AH.le_refl _) ((by simp only [enc_len, enc_scal, lput_enc, take_enc, fresh_add, fresh_set, ne_eq, hn_b6, not_false_eq_true, and_self] : Fresh _ b6).2)) ((by simp only [enc_len, enc_scal, lput_enc, take_enc, fresh_add, fresh_set, ne_eq, hn_b7, not_false_eq_true, and_self] : Fresh _ b7).2)) ((by simp only [enc_len, enc_scal, lput_enc, take_enc, fresh_add, fresh_set, ne_eq, hn_b8, not_false_eq_true, and_self] : Fresh _ b8).2)) ((by simp only [enc_len, enc_scal, lput_enc, take_enc, fresh_add, fresh_set, ne_eq, hn_b10, not_false_eq_true, and_self] : Fresh _ b10).2)) ((by simp only [enc_len, enc_scal, lput_enc, take_enc, fresh_add, fresh_set, ne_eq, hn_b12, not_false_eq_true, and_self] : Fresh _ b12).2)), rfl⟩
theorem ask_val (n a b c : Int) : ∃ w0 w1 w2 w3 e, askV n a b c = .tuple #[.agg #[.int .u8 w0, .int .u8 w1, .int .u8 w2, .int .u8 w3], .int .i64 e] := by
  by_cases h : askOk n a b c
  · exact ⟨_, _, _, _, _, by rw [askV, if_pos h]⟩
  · exact ⟨_, _, _, _, _, by rw [askV, if_neg h]⟩
theorem open_val (r : Rc) (x : Int) : ∃ u e, openV r x = .tuple #[.agg (enc u).toArray, .int .i64 e] := by
  by_cases h : chk (rl r) = x
  · exact ⟨_, _, by rw [openV, if_pos h]⟩
  · exact ⟨_, _, by rw [openV, if_neg h]⟩
theorem serve_val (q : Aq) (X : List Nf) : ∃ (y : Rc) (y4 : Int) (ok : Bool), serveV q X = .tuple #[.agg #[.int .u8 y.1, .int .u8 y.2.1, .int .u8 y.2.2.1, .int .u8 y.2.2.2, .int .u8 y4], .bool ok] := by
  by_cases h : q.E X = 0
  · exact ⟨_, _, _, by rw [serveV, if_pos h]; rfl⟩
  · exact ⟨zr, 0, _, by rw [serveV, if_neg h]; rfl⟩
theorem aq_srt {q : Aq} {X : List Nf} (h : Srt X) : Srt (q.X X) := by
  rw [Aq.X]
  split
  · rw [doX]
    split
    · split
      · exact h
      · exact rp_srt h
    · exact h
  · exact h
theorem finds {A B : AH} {ex : Nat → Prop} (hK : Keep A B ex) {l : List (Nat × ABlk)} (h : ∀ p ∈ l, A.find p.1 = some p.2) (hn : ∀ p ∈ l, ¬ ex p.1) : ∀ p ∈ l, B.find p.1 = some p.2 := fun p hp => hK.find (hn p hp) (h p hp)
theorem ServeBytes_c (L : List RF) (base : Option Addr) (cap : Nat) (a0 a1 a2 : Int) (v : Rc) (q : Aq) (hq : q.Ok) (H : AH) (hs : SlcIn H 3 base cap (L.map encN)) (hz : ∀ z ∈ L, NfIn H z) (hE : ErrT H.w0) :
    ACalls Tryz.prog 3 #[.slice base L.length cap, .int .i64 q.n, .agg #[.int .i64 a0, .int .i64 a1, .int .i64 a2], .agg (enc v).toArray, q.ask, q.dat] H (fun v H' => v = .bool true ∧ H = H') := by
  obtain ⟨w0, w1, w2, w3, e, ha⟩ := ask_val q.n a0 a1 a2
  obtain ⟨u, g, ho⟩ := open_val q.d q.d4
  have hAsk := fun H1 => Ask_c q.n a0 a1 a2 H1
  have hAskR := fun H1 => RefAsk_c q.n a0 a1 a2 H1
  have hOpen := fun H1 => Open_c q.d q.d4 H1
  have hOpenR := fun H1 => RefOpen_c q.d q.d4 H1
  rw [ha] at hAsk hAskR
  rw [ho] at hOpen hOpenR
  have hSv := fun H1 (hE1 : ErrT H1.w0) b X den ft (h1 : StAt H1 b X den ft) (hX : OkX X) => Serve_c hE1 h1 hX q hq
  have hSvR := fun H1 b Z den rd (h1 : RefS H1 b Z den rd) (hX : OkX (Z.map RF.nf)) => RefServe_c h1 hX q hq
  have hSvN := fun H1 (hE1 : ErrT H1.w0) => Serve_nil q H1 hE1
  have hDt := fun H1 => Data_c v H1
  have hDtR := fun H1 => RefData_c v H1
  unfold Aq.ask Aq.dat at hSv hSvR hSvN ⊢
  unfold dataV at hDt hDtR
  refine ACalls.enter2 Tryz.func3 rfl Tryz.ntmps3 Tryz.results3 (by simp) ?_; simp (dsimp := false) (maxSteps := 4000000) only [enc_len, enc_scal, lput_enc, take_enc, go_sem, ↓reduceIte, Nat.reduceEqDiff, Nat.reduceLT, Nat.reduceLeDiff, Nat.reduceAdd, Nat.reduceMul, Nat.reduceSub, reduceCtorEq, Int.reduceToNat, Int.reduceLT, Int.reduceLE, Int.reduceEq, Int.reduceNe, Int.reduceBEq, Nat.reduceBEq, Int.reduceBNe, Nat.reduceBNe, Int.reduceAdd, Int.reduceSub, Int.reduceMul, Int.reduceNeg]
  refine AllB.mk fun b8 h_b8 => ?_; have hn_b8 := h_b8; (try simp only [fresh_add, fresh_set, ne_eq] at hn_b8); have hr_b8 := hn_b8; (try simp only [@eq_comm Nat b8] at hr_b8); simp (dsimp := false) (maxSteps := 4000000) only [enc_len, enc_scal, lput_enc, take_enc, hn_b8, hr_b8, go_sem, ↓reduceIte, Nat.reduceEqDiff, Nat.reduceLT, Nat.reduceLeDiff, Nat.reduceAdd, Nat.reduceMul, Nat.reduceSub, reduceCtorEq, Int.reduceToNat, Int.reduceLT, Int.reduceLE, Int.reduceEq, Int.reduceNe, Int.reduceBEq, Nat.reduceBEq, Int.reduceBNe, Nat.reduceBNe, Int.reduceAdd, Int.reduceSub, Int.reduceMul, Int.reduceNeg]
  refine AllB.mk fun b9 h_b9 => ?_; have hn_b9 := h_b9; (try simp only [fresh_add, fresh_set, ne_eq] at hn_b9); have hr_b9 := hn_b9; (try simp only [@eq_comm Nat b9] at hr_b9); simp (dsimp := false) (maxSteps := 4000000) only [enc_len, enc_scal, lput_enc, take_enc, hn_b8, hr_b8, hn_b9, hr_b9, go_sem, ↓reduceIte, Nat.reduceEqDiff, Nat.reduceLT, Nat.reduceLeDiff, Nat.reduceAdd, Nat.reduceMul, Nat.reduceSub, reduceCtorEq, Int.reduceToNat, Int.reduceLT, Int.reduceLE, Int.reduceEq, Int.reduceNe, Int.reduceBEq, Nat.reduceBEq, Int.reduceBNe, Nat.reduceBNe, Int.reduceAdd, Int.reduceSub, Int.reduceMul, Int.reduceNeg]
  refine AllB.mk fun b10 h_b10 => ?_; have hn_b10 := h_b10; (try simp only [fresh_add, fresh_set, ne_eq] at hn_b10); have hr_b10 := hn_b10; (try simp only [@eq_comm Nat b10] at hr_b10); simp (dsimp := false) (maxSteps := 4000000) only [enc_len, enc_scal, lput_enc, take_enc, hn_b8, hr_b8, hn_b9, hr_b9, hn_b10, hr_b10, go_sem, ↓reduceIte, Nat.reduceEqDiff, Nat.reduceLT, Nat.reduceLeDiff, Nat.reduceAdd, Nat.reduceMul, Nat.reduceSub, reduceCtorEq, Int.reduceToNat, Int.reduceLT, Int.reduceLE, Int.reduceEq, Int.reduceNe, Int.reduceBEq, Nat.reduceBEq, Int.reduceBNe, Nat.reduceBNe, Int.reduceAdd, Int.reduceSub, Int.reduceMul, Int.reduceNeg]
  refine AllB.mk fun b11 h_b11 => ?_; have hn_b11 := h_b11; (try simp only [fresh_add, fresh_set, ne_eq] at hn_b11); have hr_b11 := hn_b11; (try simp only [@eq_comm Nat b11] at hr_b11); simp (dsimp := false) (maxSteps := 4000000) only [enc_len, enc_scal, lput_enc, take_enc, hn_b8, hr_b8, hn_b9, hr_b9, hn_b10, hr_b10, hn_b11, hr_b11, go_sem, ↓reduceIte, Nat.reduceEqDiff, Nat.reduceLT, Nat.reduceLeDiff, Nat.reduceAdd, Nat.reduceMul, Nat.reduceSub, reduceCtorEq, Int.reduceToNat, Int.reduceLT, Int.reduceLE, Int.reduceEq, Int.reduceNe, Int.reduceBEq, Nat.reduceBEq, Int.reduceBNe, Nat.reduceBNe, Int.reduceAdd, Int.reduceSub, Int.reduceMul, Int.reduceNeg]
  refine (hAsk _).mono ?_; rintro _ _ ⟨rfl, rfl⟩
  simp (dsimp := false) (maxSteps := 4000000) only [enc_len, enc_scal, lput_enc, take_enc, hn_b8, hr_b8, hn_b9, hr_b9, hn_b10, hr_b10, hn_b11, hr_b11, go_sem, ↓reduceIte, Nat.reduceEqDiff, Nat.reduceLT, Nat.reduceLeDiff, Nat.reduceAdd, Nat.reduceMul, Nat.reduceSub, reduceCtorEq, Int.reduceToNat, Int.reduceLT, Int.reduceLE, Int.reduceEq, Int.reduceNe, Int.reduceBEq, Nat.reduceBEq, Int.reduceBNe, Nat.reduceBNe, Int.reduceAdd, Int.reduceSub, Int.reduceMul, Int.reduceNeg]
  refine AllB.mk fun b13 h_b13 => ?_; have hn_b13 := h_b13; (try simp only [fresh_add, fresh_set, ne_eq] at hn_b13); have hr_b13 := hn_b13; (try simp only [@eq_comm Nat b13] at hr_b13); simp (dsimp := false) (maxSteps := 4000000) only [enc_len, enc_scal, lput_enc, take_enc, hn_b8, hr_b8, hn_b9, hr_b9, hn_b10, hr_b10, hn_b11, hr_b11, hn_b13, hr_b13, go_sem, ↓reduceIte, Nat.reduceEqDiff, Nat.reduceLT, Nat.reduceLeDiff, Nat.reduceAdd, Nat.reduceMul, Nat.reduceSub, reduceCtorEq, Int.reduceToNat, Int.reduceLT, Int.reduceLE, Int.reduceEq, Int.reduceNe, Int.reduceBEq, Nat.reduceBEq, Int.reduceBNe, Nat.reduceBNe, Int.reduceAdd, Int.reduceSub, Int.reduceMul, Int.reduceNeg]
  refine (hAskR _).mono ?_; rintro _ _ ⟨rfl, rfl⟩
  simp (dsimp := false) (maxSteps := 4000000) only [enc_len, enc_scal, lput_enc, take_enc, hn_b8, hr_b8, hn_b9, hr_b9, hn_b10, hr_b10, hn_b11, hr_b11, hn_b13, hr_b13, go_sem, ↓reduceIte, Nat.reduceEqDiff, Nat.reduceLT, Nat.reduceLeDiff, Nat.reduceAdd, Nat.reduceMul, Nat.reduceSub, reduceCtorEq, Int.reduceToNat, Int.reduceLT, Int.reduceLE, Int.reduceEq, Int.reduceNe, Int.reduceBEq, Nat.reduceBEq, Int.reduceBNe, Nat.reduceBNe, Int.reduceAdd, Int.reduceSub, Int.reduceMul, Int.reduceNeg]
  refine AllB.mk fun b15 h_b15 => ?_; have hn_b15 := h_b15; (try simp only [fresh_add, fresh_set, ne_eq] at hn_b15); have hr_b15 := hn_b15; (try simp only [@eq_comm Nat b15] at hr_b15); simp (dsimp := false) (maxSteps := 4000000) only [enc_len, enc_scal, lput_enc, take_enc, hn_b8, hr_b8, hn_b9, hr_b9, hn_b10, hr_b10, hn_b11, hr_b11, hn_b13, hr_b13, hn_b15, hr_b15, go_sem, ↓reduceIte, Nat.reduceEqDiff, Nat.reduceLT, Nat.reduceLeDiff, Nat.reduceAdd, Nat.reduceMul, Nat.reduceSub, reduceCtorEq, Int.reduceToNat, Int.reduceLT, Int.reduceLE, Int.reduceEq, Int.reduceNe, Int.reduceBEq, Nat.reduceBEq, Int.reduceBNe, Nat.reduceBNe, Int.reduceAdd, Int.reduceSub, Int.reduceMul, Int.reduceNeg]
  refine (hOpen _).mono ?_; rintro _ _ ⟨rfl, rfl⟩
  simp (dsimp := false) (maxSteps := 4000000) only [enc_len, enc_scal, lput_enc, take_enc, hn_b8, hr_b8, hn_b9, hr_b9, hn_b10, hr_b10, hn_b11, hr_b11, hn_b13, hr_b13, hn_b15, hr_b15, go_sem, ↓reduceIte, Nat.reduceEqDiff, Nat.reduceLT, Nat.reduceLeDiff, Nat.reduceAdd, Nat.reduceMul, Nat.reduceSub, reduceCtorEq, Int.reduceToNat, Int.reduceLT, Int.reduceLE, Int.reduceEq, Int.reduceNe, Int.reduceBEq, Nat.reduceBEq, Int.reduceBNe, Nat.reduceBNe, Int.reduceAdd, Int.reduceSub, Int.reduceMul, Int.reduceNeg]
  refine AllB.mk fun b17 h_b17 => ?_; have hn_b17 := h_b17; (try simp only [fresh_add, fresh_set, ne_eq] at hn_b17); have hr_b17 := hn_b17; (try simp only [@eq_comm Nat b17] at hr_b17); simp (dsimp := false) (maxSteps := 4000000) only [enc_len, enc_scal, lput_enc, take_enc, hn_b8, hr_b8, hn_b9, hr_b9, hn_b10, hr_b10, hn_b11, hr_b11, hn_b13, hr_b13, hn_b15, hr_b15, hn_b17, hr_b17, go_sem, ↓reduceIte, Nat.reduceEqDiff, Nat.reduceLT, Nat.reduceLeDiff, Nat.reduceAdd, Nat.reduceMul, Nat.reduceSub, reduceCtorEq, Int.reduceToNat, Int.reduceLT, Int.reduceLE, Int.reduceEq, Int.reduceNe, Int.reduceBEq, Nat.reduceBEq, Int.reduceBNe, Nat.reduceBNe, Int.reduceAdd, Int.reduceSub, Int.reduceMul, Int.reduceNeg]
  refine (hOpenR _).mono ?_; rintro _ _ ⟨rfl, rfl⟩
  simp (dsimp := false) (maxSteps := 4000000) only [enc_len, enc_scal, lput_enc, take_enc, hn_b8, hr_b8, hn_b9, hr_b9, hn_b10, hr_b10, hn_b11, hr_b11, hn_b13, hr_b13, hn_b15, hr_b15, hn_b17, hr_b17, go_sem, ↓reduceIte, Nat.reduceEqDiff, Nat.reduceLT, Nat.reduceLeDiff, Nat.reduceAdd, Nat.reduceMul, Nat.reduceSub, reduceCtorEq, Int.reduceToNat, Int.reduceLT, Int.reduceLE, Int.reduceEq, Int.reduceNe, Int.reduceBEq, Nat.reduceBEq, Int.reduceBNe, Nat.reduceBNe, Int.reduceAdd, Int.reduceSub, Int.reduceMul, Int.reduceNeg]
  refine AllB.mk fun b19 h_b19 => ?_; have hn_b19 := h_b19; (try simp only [fresh_add, fresh_set, ne_eq] at hn_b19); have hr_b19 := hn_b19; (try simp only [@eq_comm Nat b19] at hr_b19); simp (dsimp := false) (maxSteps := 4000000) only [enc_len, enc_scal, lput_enc, take_enc, hn_b8, hr_b8, hn_b9, hr_b9, hn_b10, hr_b10, hn_b11, hr_b11, hn_b13, hr_b13, hn_b15, hr_b15, hn_b17, hr_b17, hn_b19, hr_b19, go_sem, ↓reduceIte, Nat.reduceEqDiff, Nat.reduceLT, Nat.reduceLeDiff, Nat.reduceAdd, Nat.reduceMul, Nat.reduceSub, reduceCtorEq, Int.reduceToNat, Int.reduceLT, Int.reduceLE, Int.reduceEq, Int.reduceNe, Int.reduceBEq, Nat.reduceBEq, Int.reduceBNe, Nat.reduceBNe, Int.reduceAdd, Int.reduceSub, Int.reduceMul, Int.reduceNeg]
  obtain ⟨G, hG⟩ : ∃ G, (((((((H.add b8 (.cells [.int .i64 a0, .int .i64 a1, .int .i64 a2] 24 3)).add b9 (.cells (enc v) 26 4)).add b10 (.cells [.int .u8 q.a0, .int .u8 q.a1, .int .u8 q.a2, .int .u8 q.a3] 25 4)).add b11 (.cells [.int .u8 q.d.1, .int .u8 q.d.2.1, .int .u8 q.d.2.2.1, .int .u8 q.d.2.2.2, .int .u8 q.d4] 27 5)).add b13 (.cells [.int .u8 w0, .int .u8 w1, .int .u8 w2, .int .u8 w3] 25 4)).add b15 (.cells [.int .u8 w0, .int .u8 w1, .int .u8 w2, .int .u8 w3] 25 4)).add b17 (.cells (enc u) 26 4)).add b19 (.cells (enc u) 26 4) = G := ⟨_, rfl⟩
  have kG : Keep H G fun _ => False := hG ▸ ((((((((Keep.refl.nw (by simp only [fresh_add, ne_eq, hn_b8, not_false_eq_true, and_self])).nw (by simp only [fresh_add, ne_eq, hn_b9, not_false_eq_true, and_self])).nw (by simp only [fresh_add, ne_eq, hn_b10, not_false_eq_true, and_self])).nw (by simp only [fresh_add, ne_eq, hn_b11, not_false_eq_true, and_self])).nw (by simp only [fresh_add, ne_eq, hn_b13, not_false_eq_true, and_self])).nw (by simp only [fresh_add, ne_eq, hn_b15, not_false_eq_true, and_self])).nw (by simp only [fresh_add, ne_eq, hn_b17, not_false_eq_true, and_self])).nw (by simp only [fresh_add, ne_eq, hn_b19, not_false_eq_true, and_self]))
  have fG : ∀ p ∈ ([(b8, (.cells [.int .i64 a0, .int .i64 a1, .int .i64 a2] 24 3)), (b9, (.cells (enc v) 26 4)), (b10, (.cells [.int .u8 q.a0, .int .u8 q.a1, .int .u8 q.a2, .int .u8 q.a3] 25 4)), (b11, (.cells [.int .u8 q.d.1, .int .u8 q.d.2.1, .int .u8 q.d.2.2.1, .int .u8 q.d.2.2.2, .int .u8 q.d4] 27 5)), (b13, (.cells [.int .u8 w0, .int .u8 w1, .int .u8 w2, .int .u8 w3] 25 4)), (b15, (.cells [.int .u8 w0, .int .u8 w1, .int .u8 w2, .int .u8 w3] 25 4)), (b17, (.cells (enc u) 26 4)), (b19, (.cells (enc u) 26 4))] : List (Nat × ABlk)), G.find p.1 = some p.2 := by
    intro p hp
    simp only [List.mem_cons, List.not_mem_nil, or_false] at hp
    rw [← hG]
    rcases hp with rfl | rfl | rfl | rfl | rfl | rfl | rfl | rfl <;> (show AH.find _ _ = _; simp only [find_add_self, find_add_ne, find_fresh, fresh_add, fresh_set, ne_eq, not_false_eq_true, true_and, and_true, and_self, enc_len, enc_scal, lput_enc, take_enc, hn_b8, hr_b8, hn_b9, hr_b9, hn_b10, hr_b10, hn_b11, hr_b11, hn_b13, hr_b13, hn_b15, hr_b15, hn_b17, hr_b17, hn_b19, hr_b19])
  rw [hG]
  clear hG h_b8 hn_b8 hr_b8 h_b9 hn_b9 hr_b9 h_b10 hn_b10 hr_b10 h_b11 hn_b11 hr_b11 h_b13 hn_b13 hr_b13 h_b15 hn_b15 hr_b15 h_b17 hn_b17 hr_b17 h_b19 hn_b19 hr_b19
  
  generalize hl : ([(b8, (.cells [.int .i64 a0, .int .i64 a1, .int .i64 a2] 24 3)), (b9, (.cells (enc v) 26 4)), (b10, (.cells [.int .u8 q.a0, .int .u8 q.a1, .int .u8 q.a2, .int .u8 q.a3] 25 4)), (b11, (.cells [.int .u8 q.d.1, .int .u8 q.d.2.1, .int .u8 q.d.2.2.1, .int .u8 q.d.2.2.2, .int .u8 q.d4] 27 5)), (b13, (.cells [.int .u8 w0, .int .u8 w1, .int .u8 w2, .int .u8 w3] 25 4)), (b15, (.cells [.int .u8 w0, .int .u8 w1, .int .u8 w2, .int .u8 w3] 25 4)), (b17, (.cells (enc u) 26 4)), (b19, (.cells (enc u) 26 4))] : List (Nat × ABlk)) = l at fG
  have g : ∀ {A : AH}, (∀ p ∈ l, A.find p.1 = some p.2) → A.find b8 = some (.cells [.int .i64 a0, .int .i64 a1, .int .i64 a2] 24 3) ∧ A.find b9 = some (.cells (enc v) 26 4) ∧ A.find b10 = some (.cells [.int .u8 q.a0, .int .u8 q.a1, .int .u8 q.a2, .int .u8 q.a3] 25 4) ∧ A.find b11 = some (.cells [.int .u8 q.d.1, .int .u8 q.d.2.1, .int .u8 q.d.2.2.1, .int .u8 q.d.2.2.2, .int .u8 q.d4] 27 5) ∧ A.find b13 = some (.cells [.int .u8 w0, .int .u8 w1, .int .u8 w2, .int .u8 w3] 25 4) ∧ A.find b15 = some (.cells [.int .u8 w0, .int .u8 w1, .int .u8 w2, .int .u8 w3] 25 4) ∧ A.find b17 = some (.cells (enc u) 26 4) ∧ A.find b19 = some (.cells (enc u) 26 4) := fun {A} h => by subst hl; exact ⟨h (b8, _) (by simp), h (b9, _) (by simp), h (b10, _) (by simp), h (b11, _) (by simp), h (b13, _) (by simp), h (b15, _) (by simp), h (b17, _) (by simp), h (b19, _) (by simp)⟩
  refine (build_c L base cap _ (hs.keep kG fun _ _ h => h) fun z h => (hz z h).keep kG).mono ?_
  rintro _ A ⟨b, br, Z, ft, rd, rfl, hZ, hst, hS, hok, hso, hK, hf, hfr, hd, hdb⟩
  have kA := kG.trans hK
  have fA := finds hK fG fun _ _ h => h
  have nft : ∀ p ∈ l, ¬ ft p.1 := fun p hp hx => (hf _ hx).ne_find (fG p hp) rfl
  have nbr : ∀ p ∈ l, ¬ p.1 = br := fun p hp e => hfr.ne_find (fG p hp) e.symm
  have hfH : ∀ x, ft x → Fresh H x := fun x hx => kG.fr (hf x hx)
  have hrH : Fresh H br := kG.fr hfr
  obtain ⟨y, y4, ok, hy⟩ := serve_val q (Z.map RF.nf)
  clear hK hf hfr fG kG
  obtain ⟨f8, f9, f10, f11, f13, f15, f17, f19⟩ := g fA
  have w10 : A.row b10 0 4 = some [.int .u8 q.a0, .int .u8 q.a1, .int .u8 q.a2, .int .u8 q.a3] := row_find f10 (by simp)
  have w11 : A.row b11 0 5 = some [.int .u8 q.d.1, .int .u8 q.d.2.1, .int .u8 q.d.2.2.1, .int .u8 q.d.2.2.2, .int .u8 q.d4] := row_find f11 (by simp)
  simp (dsimp := false) (maxSteps := 4000000) only [enc_len, enc_scal, lput_enc, take_enc, go_sem, ↓reduceIte, Nat.reduceEqDiff, Nat.reduceLT, Nat.reduceLeDiff, Nat.reduceAdd, Nat.reduceMul, Nat.reduceSub, reduceCtorEq, Int.reduceToNat, Int.reduceLT, Int.reduceLE, Int.reduceEq, Int.reduceNe, Int.reduceBEq, Nat.reduceBEq, Int.reduceBNe, Nat.reduceBNe, Int.reduceAdd, Int.reduceSub, Int.reduceMul, Int.reduceNeg]
  simp (dsimp := false) (maxSteps := 4000000) only [w10, w11, enc_len, enc_scal, lput_enc, take_enc, go_sem, ↓reduceIte, Nat.reduceEqDiff, Nat.reduceLT, Nat.reduceLeDiff, Nat.reduceAdd, Nat.reduceMul, Nat.reduceSub, reduceCtorEq, Int.reduceToNat, Int.reduceLT, Int.reduceLE, Int.reduceEq, Int.reduceNe, Int.reduceBEq, Nat.reduceBEq, Int.reduceBNe, Nat.reduceBNe, Int.reduceAdd, Int.reduceSub, Int.reduceMul, Int.reduceNeg]
  have hsv1 := hSv A (by rw [kA.w0]; exact hE) b _ 0 ft hst hok
  rw [hy] at hsv1
  refine hsv1.mono ?_
  rintro _ B ⟨ft1, rfl, hs1, hKB, hfB⟩
  have kB := kA.ow hKB hfH
  have fB := finds hKB fA nft
  have hSB := hS.keep hKB hd hdb
  have hdb1 : ¬ ft1 br := fun hx => (hfB _ hx).elim hdb fun h => by
    obtain ⟨_, _, hb0, _⟩ := id hS
    exact h.ne_find hb0 rfl
  have hok1 := Aq.ok_X hq hok
  have hso1 := aq_srt (q := q) hso
  clear hSv hsv1 hKB hfB hS hst hd hdb fA f8 f9 f10 f11 f13 f15 f17 f19 w10 w11
  simp (dsimp := false) (maxSteps := 4000000) only [enc_len, enc_scal, lput_enc, take_enc, go_sem, ↓reduceIte, Nat.reduceEqDiff, Nat.reduceLT, Nat.reduceLeDiff, Nat.reduceAdd, Nat.reduceMul, Nat.reduceSub, reduceCtorEq, Int.reduceToNat, Int.reduceLT, Int.reduceLE, Int.reduceEq, Int.reduceNe, Int.reduceBEq, Nat.reduceBEq, Int.reduceBNe, Nat.reduceBNe, Int.reduceAdd, Int.reduceSub, Int.reduceMul, Int.reduceNeg]
  refine AllB.mk fun b23 h_b23 => ?_; have hn_b23 := h_b23; (try simp only [fresh_add, fresh_set, ne_eq] at hn_b23); have hr_b23 := hn_b23; (try simp only [@eq_comm Nat b23] at hr_b23); simp (dsimp := false) (maxSteps := 4000000) only [enc_len, enc_scal, lput_enc, take_enc, hn_b23, hr_b23, go_sem, ↓reduceIte, Nat.reduceEqDiff, Nat.reduceLT, Nat.reduceLeDiff, Nat.reduceAdd, Nat.reduceMul, Nat.reduceSub, reduceCtorEq, Int.reduceToNat, Int.reduceLT, Int.reduceLE, Int.reduceEq, Int.reduceNe, Int.reduceBEq, Nat.reduceBEq, Int.reduceBNe, Nat.reduceBNe, Int.reduceAdd, Int.reduceSub, Int.reduceMul, Int.reduceNeg]
  obtain ⟨C, hC⟩ : ∃ C, B.add b23 (.cells [.int .u8 y.1, .int .u8 y.2.1, .int .u8 y.2.2.1, .int .u8 y.2.2.2, .int .u8 y4] 27 5) = C := ⟨_, rfl⟩
  have kBC : Keep B C fun _ => False := hC ▸ Keep.add h_b23
  have f23 : C.find b23 = some (.cells [.int .u8 y.1, .int .u8 y.2.1, .int .u8 y.2.2.1, .int .u8 y.2.2.2, .int .u8 y4] 27 5) := by rw [← hC, find_add_self]
  have n23 : ¬ b23 = br := by
    obtain ⟨_, _, hb0, _⟩ := id hSB
    exact h_b23.ne_find hb0
  rw [hC]
  clear hC h_b23 hn_b23 hr_b23
  
  have fC := finds kBC fB fun _ _ h => h
  have hSC := hSB.keep kBC (fun _ _ h => h) fun h => h
  have hsC := hs1.keep kBC fun _ _ h => h
  have kC := kB.trans kBC
  obtain ⟨f8, f9, f10, f11, f13, f15, f17, f19⟩ := g fC
  have w10 : C.row b10 0 4 = some [.int .u8 q.a0, .int .u8 q.a1, .int .u8 q.a2, .int .u8 q.a3] := row_find f10 (by simp)
  have w11 : C.row b11 0 5 = some [.int .u8 q.d.1, .int .u8 q.d.2.1, .int .u8 q.d.2.2.1, .int .u8 q.d.2.2.2, .int .u8 q.d4] := row_find f11 (by simp)
  simp (dsimp := false) (maxSteps := 4000000) only [w10, w11, enc_len, enc_scal, lput_enc, take_enc, go_sem, ↓reduceIte, Nat.reduceEqDiff, Nat.reduceLT, Nat.reduceLeDiff, Nat.reduceAdd, Nat.reduceMul, Nat.reduceSub, reduceCtorEq, Int.reduceToNat, Int.reduceLT, Int.reduceLE, Int.reduceEq, Int.reduceNe, Int.reduceBEq, Nat.reduceBEq, Int.reduceBNe, Nat.reduceBNe, Int.reduceAdd, Int.reduceSub, Int.reduceMul, Int.reduceNeg]
  have hsv2 := hSvR C br Z 0 rd hSC hok
  rw [hy] at hsv2
  refine hsv2.mono ?_
  rintro _ D ⟨Z', rd', rfl, hZ', hS', hKD, hrd'⟩
  have kD := kC.ow hKD fun x e => e ▸ hrH
  have fD := finds hKD fC nbr
  have f23 := hKD.find n23 f23
  have hsD := hsC.keep hKD fun x hx e => hdb1 (e ▸ hx)
  clear hSvR hsv2 hKD hrd' hSC hsC hSB hs1 fC fB f8 f9 f10 f11 f13 f15 f17 f19 w10 w11 kBC
  simp (dsimp := false) (maxSteps := 4000000) only [enc_len, enc_scal, lput_enc, take_enc, go_sem, ↓reduceIte, Nat.reduceEqDiff, Nat.reduceLT, Nat.reduceLeDiff, Nat.reduceAdd, Nat.reduceMul, Nat.reduceSub, reduceCtorEq, Int.reduceToNat, Int.reduceLT, Int.reduceLE, Int.reduceEq, Int.reduceNe, Int.reduceBEq, Nat.reduceBEq, Int.reduceBNe, Nat.reduceBNe, Int.reduceAdd, Int.reduceSub, Int.reduceMul, Int.reduceNeg]
  refine AllB.mk fun b25 h_b25 => ?_; have hn_b25 := h_b25; (try simp only [fresh_add, fresh_set, ne_eq] at hn_b25); have hr_b25 := hn_b25; (try simp only [@eq_comm Nat b25] at hr_b25); simp (dsimp := false) (maxSteps := 4000000) only [enc_len, enc_scal, lput_enc, take_enc, hn_b25, hr_b25, go_sem, ↓reduceIte, Nat.reduceEqDiff, Nat.reduceLT, Nat.reduceLeDiff, Nat.reduceAdd, Nat.reduceMul, Nat.reduceSub, reduceCtorEq, Int.reduceToNat, Int.reduceLT, Int.reduceLE, Int.reduceEq, Int.reduceNe, Int.reduceBEq, Nat.reduceBEq, Int.reduceBNe, Nat.reduceBNe, Int.reduceAdd, Int.reduceSub, Int.reduceMul, Int.reduceNeg]
  obtain ⟨E, hEe⟩ : ∃ E, D.add b25 (.cells [.int .u8 y.1, .int .u8 y.2.1, .int .u8 y.2.2.1, .int .u8 y.2.2.2, .int .u8 y4] 27 5) = E := ⟨_, rfl⟩
  have kDE : Keep D E fun _ => False := hEe ▸ Keep.add h_b25
  have f25 : E.find b25 = some (.cells [.int .u8 y.1, .int .u8 y.2.1, .int .u8 y.2.2.1, .int .u8 y.2.2.2, .int .u8 y4] 27 5) := by rw [← hEe, find_add_self]
  rw [hEe]
  clear hEe h_b25 hn_b25 hr_b25
  
  have fE := finds kDE fD fun _ _ h => h
  have hSE := hS'.keep kDE (fun _ _ h => h) fun h => h
  have hsE := hsD.keep kDE fun _ _ h => h
  have f23 := kDE.find (fun h => h) f23
  have kE := kD.trans kDE
  obtain ⟨f8, f9, f10, f11, f13, f15, f17, f19⟩ := g fE
  have w10 : E.row b10 0 4 = some [.int .u8 q.a0, .int .u8 q.a1, .int .u8 q.a2, .int .u8 q.a3] := row_find f10 (by simp)
  have w11 : E.row b11 0 5 = some [.int .u8 q.d.1, .int .u8 q.d.2.1, .int .u8 q.d.2.2.1, .int .u8 q.d.2.2.2, .int .u8 q.d4] := row_find f11 (by simp)
  simp (dsimp := false) (maxSteps := 4000000) only [w10, w11, enc_len, enc_scal, lput_enc, take_enc, go_sem, ↓reduceIte, Nat.reduceEqDiff, Nat.reduceLT, Nat.reduceLeDiff, Nat.reduceAdd, Nat.reduceMul, Nat.reduceSub, reduceCtorEq, Int.reduceToNat, Int.reduceLT, Int.reduceLE, Int.reduceEq, Int.reduceNe, Int.reduceBEq, Nat.reduceBEq, Int.reduceBNe, Nat.reduceBNe, Int.reduceAdd, Int.reduceSub, Int.reduceMul, Int.reduceNeg]
  refine (hSvN _ (by rw [kE.w0]; exact hE)).mono ?_; rintro _ _ ⟨rfl, rfl⟩
  simp (dsimp := false) (maxSteps := 4000000) only [enc_len, enc_scal, lput_enc, take_enc, go_sem, ↓reduceIte, Nat.reduceEqDiff, Nat.reduceLT, Nat.reduceLeDiff, Nat.reduceAdd, Nat.reduceMul, Nat.reduceSub, reduceCtorEq, Int.reduceToNat, Int.reduceLT, Int.reduceLE, Int.reduceEq, Int.reduceNe, Int.reduceBEq, Nat.reduceBEq, Int.reduceBNe, Nat.reduceBNe, Int.reduceAdd, Int.reduceSub, Int.reduceMul, Int.reduceNeg]
  refine AllB.mk fun b27 h_b27 => ?_; have hn_b27 := h_b27; (try simp only [fresh_add, fresh_set, ne_eq] at hn_b27); have hr_b27 := hn_b27; (try simp only [@eq_comm Nat b27] at hr_b27); simp (dsimp := false) (maxSteps := 4000000) only [enc_len, enc_scal, lput_enc, take_enc, hn_b27, hr_b27, go_sem, ↓reduceIte, Nat.reduceEqDiff, Nat.reduceLT, Nat.reduceLeDiff, Nat.reduceAdd, Nat.reduceMul, Nat.reduceSub, reduceCtorEq, Int.reduceToNat, Int.reduceLT, Int.reduceLE, Int.reduceEq, Int.reduceNe, Int.reduceBEq, Nat.reduceBEq, Int.reduceBNe, Nat.reduceBNe, Int.reduceAdd, Int.reduceSub, Int.reduceMul, Int.reduceNeg]
  obtain ⟨J, hJ⟩ : ∃ J, E.add b27 (.cells [.int .u8 0, .int .u8 0, .int .u8 0, .int .u8 0, .int .u8 0] 27 5) = J := ⟨_, rfl⟩
  have kEJ : Keep E J fun _ => False := hJ ▸ Keep.add h_b27
  rw [hJ]
  clear hJ h_b27 hn_b27 hr_b27 f8 f9 f10 f11 f13 f15 f17 f19 w10 w11
  
  have fJ := finds kEJ fE fun _ _ h => h
  have hSJ := hSE.keep kEJ (fun _ _ h => h) fun h => h
  have hsJ := hsE.keep kEJ fun _ _ h => h
  have f23 := kEJ.find (fun h => h) f23
  have f25 := kEJ.find (fun h => h) f25
  have kHJ := kE.trans kEJ
  have hEJ : ErrT J.w0 := by rw [kHJ.w0]; exact hE
  obtain ⟨f8, f9, f10, f11, f13, f15, f17, f19⟩ := g fJ
  have w10 : J.row b10 0 4 = some [.int .u8 q.a0, .int .u8 q.a1, .int .u8 q.a2, .int .u8 q.a3] := row_find f10 (by simp)
  have w11 : J.row b11 0 5 = some [.int .u8 q.d.1, .int .u8 q.d.2.1, .int .u8 q.d.2.2.1, .int .u8 q.d.2.2.2, .int .u8 q.d4] := row_find f11 (by simp)
  have w9 : J.row b9 0 4 = some (enc v) := row_find f9 (by simp [enc])
  have w13 : J.row b13 0 4 = some [.int .u8 w0, .int .u8 w1, .int .u8 w2, .int .u8 w3] := row_find f13 (by simp)
  have w15 : J.row b15 0 4 = some [.int .u8 w0, .int .u8 w1, .int .u8 w2, .int .u8 w3] := row_find f15 (by simp)
  have w17 : J.row b17 0 4 = some (enc u) := row_find f17 (by simp [enc])
  have w19 : J.row b19 0 4 = some (enc u) := row_find f19 (by simp [enc])
  have w23 : J.row b23 0 5 = some [.int .u8 y.1, .int .u8 y.2.1, .int .u8 y.2.2.1, .int .u8 y.2.2.2, .int .u8 y4] := row_find f23 (by simp)
  have w25 : J.row b25 0 5 = some [.int .u8 y.1, .int .u8 y.2.1, .int .u8 y.2.2.1, .int .u8 y.2.2.2, .int .u8 y4] := row_find f25 (by simp)
  obtain ⟨zb, zc, hbr, hN, _⟩ := id hSJ
  have r0 : J.rd ⟨br, 0, none⟩ = some (.slice zb Z'.length zc) := by rw [rd_find hbr]; rfl
  have r1 : J.rd ⟨br, 1, none⟩ = some (.int .i64 (q.D (Z.map RF.nf) 0)) := by rw [rd_find hbr]; rfl
  obtain ⟨u0, u1, u2, u3⟩ := u
  have eU : enc (u0, u1, u2, u3) = [.int .u8 u0, .int .u8 u1, .int .u8 u2, .int .u8 u3] := Eq.trans rfl rfl
  refine AWp.gen [.ch, .pu, .rd, .rd, .pu, .pu, .pu, .pu, .pu, .pu, .pu, .pu, .rd, .rd, .pu, .pu, .pu, .pu, .pu, .pu, .pu, .pu, .rd, .ch, .rd, .ch, .pu, .pu, .pu, .rd, .rd, .pu, .pu, .pu, .pu, .pu, .pu, .pu, .pu, .pu, .pu, .pu, .pu, .pu, .ch, .pu, .pu, .pu, .rd, .ch, .pu, .pu, .pu, .ch, .pu, .pu, .pu, .rd, .pu, .pu, .pu] [0, 1, 3, 3, 15, 31, 63, 127, 127, 511, 1023, 2047, 4095, 4095, 16383, 32767, 65535, 131071, 131071, 524287, 1048575, 2097151, 4194303, 8388607, 4194303, 33554431, 67108863, 134217727, 268435455, 536870911, 536870911, 2147483647, 4294967295, 8589934591, 17179869183, 17179869183, 68719476735, 137438953471, 274877906943, 549755813887, 1099511627775, 2199023255551, 4398046511103, 8796093022207, 17592186044415, 8796093022207, 43980465111039, 114349209288703, 255086697644031, 562949953421311, 1125899906842623, 2251799813685247, 4503599627370495, 9007199254740991, 4503599627370495, 22517998136852479, 58546795155816447, 130604389193744383, 288230376151711743, 576460752303423487, 1152921504606846975] 54 (_) mixed (by kernel_rfl) (AH.le_refl _) ?_
  simp (dsimp := false) (maxSteps := 4000000) only [enc_len, enc_scal, lput_enc, take_enc, go_sem, ↓reduceIte, Nat.reduceEqDiff, Nat.reduceLT, Nat.reduceLeDiff, Nat.reduceAdd, Nat.reduceMul, Nat.reduceSub, reduceCtorEq, Int.reduceToNat, Int.reduceLT, Int.reduceLE, Int.reduceEq, Int.reduceNe, Int.reduceBEq, Nat.reduceBEq, Int.reduceBNe, Nat.reduceBNe, Int.reduceAdd, Int.reduceSub, Int.reduceMul, Int.reduceNeg]
  refine (awake_c _ hEJ).mono ?_; rintro _ _ ⟨rfl, rfl⟩
  simp (dsimp := false) (maxSteps := 4000000) only [w13, w15, w17, w19, eU, w9, enc_len, enc_scal, lput_enc, take_enc, go_sem, ↓reduceIte, Nat.reduceEqDiff, Nat.reduceLT, Nat.reduceLeDiff, Nat.reduceAdd, Nat.reduceMul, Nat.reduceSub, reduceCtorEq, Int.reduceToNat, Int.reduceLT, Int.reduceLE, Int.reduceEq, Int.reduceNe, Int.reduceBEq, Nat.reduceBEq, Int.reduceBNe, Nat.reduceBNe, Int.reduceAdd, Int.reduceSub, Int.reduceMul, Int.reduceNeg]
  refine (hDt _).mono ?_; rintro _ _ ⟨rfl, rfl⟩
  simp (dsimp := false) (maxSteps := 4000000) only [w9, enc_len, enc_scal, lput_enc, take_enc, go_sem, ↓reduceIte, Nat.reduceEqDiff, Nat.reduceLT, Nat.reduceLeDiff, Nat.reduceAdd, Nat.reduceMul, Nat.reduceSub, reduceCtorEq, Int.reduceToNat, Int.reduceLT, Int.reduceLE, Int.reduceEq, Int.reduceNe, Int.reduceBEq, Nat.reduceBEq, Int.reduceBNe, Nat.reduceBNe, Int.reduceAdd, Int.reduceSub, Int.reduceMul, Int.reduceNeg]
  refine (hDtR _).mono ?_; rintro _ _ ⟨rfl, rfl⟩
  simp (dsimp := false) (maxSteps := 4000000) only [w23, w25, enc_len, enc_scal, lput_enc, take_enc, go_sem, ↓reduceIte, Nat.reduceEqDiff, Nat.reduceLT, Nat.reduceLeDiff, Nat.reduceAdd, Nat.reduceMul, Nat.reduceSub, reduceCtorEq, Int.reduceToNat, Int.reduceLT, Int.reduceLE, Int.reduceEq, Int.reduceNe, Int.reduceBEq, Nat.reduceBEq, Int.reduceBNe, Nat.reduceBNe, Int.reduceAdd, Int.reduceSub, Int.reduceMul, Int.reduceNeg]
  refine (Files_c hsJ hok1).mono ?_
  rintro _ M ⟨db, dc, Z2, r2, rfl, hp2, hso2, hN2, hKM, _⟩
  have e2 : Z2.map RF.nf = Z'.map RF.nf := by rw [hZ']; exact Srt.uniq hp2 hso2 hso1
  simp (dsimp := false) (maxSteps := 4000000) only [enc_len, enc_scal, lput_enc, take_enc, go_sem, ↓reduceIte, Nat.reduceEqDiff, Nat.reduceLT, Nat.reduceLeDiff, Nat.reduceAdd, Nat.reduceMul, Nat.reduceSub, reduceCtorEq, Int.reduceToNat, Int.reduceLT, Int.reduceLE, Int.reduceEq, Int.reduceNe, Int.reduceBEq, Nat.reduceBEq, Int.reduceBNe, Nat.reduceBNe, Int.reduceAdd, Int.reduceSub, Int.reduceMul, Int.reduceNeg]
  refine ⟨hKM.all, ?_⟩
  simp (dsimp := false) (maxSteps := 4000000) only [r0, r1, enc_len, enc_scal, lput_enc, take_enc, go_sem, ↓reduceIte, Nat.reduceEqDiff, Nat.reduceLT, Nat.reduceLeDiff, Nat.reduceAdd, Nat.reduceMul, Nat.reduceSub, reduceCtorEq, Int.reduceToNat, Int.reduceLT, Int.reduceLE, Int.reduceEq, Int.reduceNe, Int.reduceBEq, Nat.reduceBEq, Int.reduceBNe, Nat.reduceBNe, Int.reduceAdd, Int.reduceSub, Int.reduceMul, Int.reduceNeg]
  refine (Same_c hN2 (hN.keep hKM fun _ _ h => h)).mono ?_
  rintro _ _ ⟨rfl, rfl⟩
  rw [decide_eq_true e2]
  simp (dsimp := false) (maxSteps := 4000000) only [r0, r1, enc_len, enc_scal, lput_enc, take_enc, go_sem, ↓reduceIte, Nat.reduceEqDiff, Nat.reduceLT, Nat.reduceLeDiff, Nat.reduceAdd, Nat.reduceMul, Nat.reduceSub, reduceCtorEq, Int.reduceToNat, Int.reduceLT, Int.reduceLE, Int.reduceEq, Int.reduceNe, Int.reduceBEq, Nat.reduceBEq, Int.reduceBNe, Nat.reduceBNe, Int.reduceAdd, Int.reduceSub, Int.reduceMul, Int.reduceNeg]
  refine ⟨hKM.all, ?_⟩
  refine (Denied_c (hsJ.keep hKM fun _ _ h => h)).mono ?_; rintro _ _ ⟨rfl, rfl⟩
  simp (dsimp := false) (maxSteps := 4000000) only [r0, r1, enc_len, enc_scal, lput_enc, take_enc, go_sem, ↓reduceIte, Nat.reduceEqDiff, Nat.reduceLT, Nat.reduceLeDiff, Nat.reduceAdd, Nat.reduceMul, Nat.reduceSub, reduceCtorEq, Int.reduceToNat, Int.reduceLT, Int.reduceLE, Int.reduceEq, Int.reduceNe, Int.reduceBEq, Nat.reduceBEq, Int.reduceBNe, Nat.reduceBNe, Int.reduceAdd, Int.reduceSub, Int.reduceMul, Int.reduceNeg]
  exact ⟨hKM.all, H, (kHJ.trans hKM).all, rfl⟩
theorem aqOk {n a0 a1 a2 a3 d0 d1 d2 d3 d4 : Int} (h0 : 0 ≤ a0 ∧ a0 < 256) (h1 : 0 ≤ a1 ∧ a1 < 256) (h2 : 0 ≤ a2 ∧ a2 < 256) (e0 : 0 ≤ d0 ∧ d0 < 256) (e1 : 0 ≤ d1 ∧ d1 < 256) (e2 : 0 ≤ d2 ∧ d2 < 256) (e3 : 0 ≤ d3 ∧ d3 < 256) : (Aq.mk n a0 a1 a2 a3 (d0, d1, d2, d3) d4).Ok :=
  ⟨h0, h1, h2, ⟨e0.1, by dsimp only; omega⟩, ⟨e1.1, by dsimp only; omega⟩, ⟨e2.1, by dsimp only; omega⟩, ⟨e3.1, by dsimp only; omega⟩⟩
end Go.Proofs.YtamlipffhimfmaaGreatDoor.Srv

/- serve: a list of named files among the arguments. -/
namespace Go.Proofs.YtamlipffhimfmaaGreatDoor.Srv
set_option linter.unusedSimpArgs false
set_option linter.unusedVariables false
open Go Go.AX Go.ChangeShapes Go.WideShapes Go.ChangeAt Go.RowKit Go.Proofs.YtamlipffhimfmaaGreatDoor.File Go.Proofs.YtamlipffhimfmaaGreatDoor.Ifs
set_option maxRecDepth 100000

theorem u8_wf {x : Int} (h : (Lit.int .u8 x).wf = true) : 0 ≤ x ∧ x ≤ 255 := by
  simp [Lit.wf, IntKind.min, IntKind.max, IntKind.signed, IntKind.bits] at h
  omega
theorem open_named {HT : Type} {ec : TypeId × Value → HT} {W : World} {sp : Nat → Bool} {held : Bool} {cs : List Value} (hl : cs.length = 3) (hc : Leafy ec Tryz.prog W 0 sp held [3, 3, 70] cs) :
    ∃ z : RF, cs = encN z ∧ NfIn ⟨W, []⟩ z := by
  obtain ⟨c0, c1, c2, rfl⟩ := list3 hl
  obtain ⟨_, _, t0⟩ := hc 0 _ _ rfl rfl
  obtain ⟨a0, q0, _, w0⟩ := DataW.trod_int Tryz.underlying3 t0; cases q0
  obtain ⟨_, _, t1⟩ := hc 1 _ _ rfl rfl
  obtain ⟨a1, q1, _, w1⟩ := DataW.trod_int Tryz.underlying3 t1; cases q1
  obtain ⟨_, _, t2⟩ := hc 2 _ _ rfl rfl
  obtain ⟨b, n, cp, R, rfl, hlR, hs, hR⟩ := open_slcT (P := Tryz.prog) (sz := 4) Tryz.underlying70 (by kernel_rfl) (by simp) (show leafTs Tryz.prog 20 26 = some [5, 5, 5, 5] by kernel_rfl) rfl ⟨_, t2⟩
  obtain ⟨L, rfl, hw⟩ := rows_of (f := File.enc) (G := RcOk) (fun i r hr => by
    obtain ⟨hl, hc⟩ := hR i r hr
    obtain ⟨c0, c1, c2, c3, rfl⟩ := list4 hl
    obtain ⟨_, _, t0⟩ := hc 0 _ _ rfl rfl
    obtain ⟨a0, q0, _, w0⟩ := DataW.trod_int Tryz.underlying5 t0; cases q0
    obtain ⟨_, _, t1⟩ := hc 1 _ _ rfl rfl
    obtain ⟨a1, q1, _, w1⟩ := DataW.trod_int Tryz.underlying5 t1; cases q1
    obtain ⟨_, _, t2⟩ := hc 2 _ _ rfl rfl
    obtain ⟨a2, q2, _, w2⟩ := DataW.trod_int Tryz.underlying5 t2; cases q2
    obtain ⟨_, _, t3⟩ := hc 3 _ _ rfl rfl
    obtain ⟨a3, q3, _, w3⟩ := DataW.trod_int Tryz.underlying5 t3; cases q3
    exact ⟨⟨a0, a1, a2, a3⟩, rfl, u8_wf w0, u8_wf w1, u8_wf w2, u8_wf w3⟩)
  rw [List.length_map] at hlR; subst hlR
  exact ⟨⟨a0, a1, b, cp, L⟩, rfl, hs, hw⟩
end Go.Proofs.YtamlipffhimfmaaGreatDoor.Srv

/- For every input ServeBytes answers true and leaves its arguments as_ they were; the package's one variable holds what the program's text lays into it: the tied card. -/
namespace Go.Proofs.YtamlipffhimfmaaGreatDoor.lawServeBytes
set_option linter.unusedSimpArgs false
set_option linter.unusedVariables false
open Go Go.AX Go.ChangeShapes Go.WideShapes Go.ChangeAt Go.RowKit Go.Proofs.YtamlipffhimfmaaGreatDoor.Srv Go.Proofs.YtamlipffhimfmaaGreatDoor.Ifs

theorem own : ownKnob Tryz.prog.godebug = none := by kernel_rfl
theorem laidOut : laidOutB Tryz.prog = true := by kernel_rfl
theorem et : Tryz.prog.globalNamed "errors.errorType" = some 0 := by kernel_rfl
theorem rt : (Tryz.prog.cutTypes.find? (·.1 == "internal/reflectlite.rtype")).map (·.2) = some 197 := by kernel_rfl
theorem oneRow : ((List.range Tryz.prog.types.size).filter fun t => Tryz.prog.rowNamed t [101, 114, 114, 111, 114]) = [113] := by kernel_rfl

/-- The variable's one cell. -/
theorem handle_of_laid {W : World} (h : laidMetH Tryz.prog Rows.serveBytesRow.laid W) : Err.ErrT W := by
  have h' : laidMet Tryz.prog [] W ∧ handlesMet Tryz.prog Rows.serveBytesRow.laid W := h
  obtain ⟨name, u, ty, e1, e2, e3, e4, e5⟩ := h'.2 _ (List.mem_singleton.2 rfl)
  have en : name = [101, 114, 114, 111, 114] := (Option.some.inj e1).symm
  subst en
  obtain rfl := Option.some.inj (rt.symm.trans e2)
  have hm : ty ∈ (List.range Tryz.prog.types.size).filter fun t => Tryz.prog.rowNamed t [101, 114, 114, 111, 114] := List.mem_filter.2 ⟨List.mem_range.2 e3, e4⟩
  rw [oneRow] at hm
  obtain rfl := List.mem_singleton.1 hm
  have hh : typeHandle Tryz.prog 113 = .pointer (some ⟨1, 113, none⟩) := by kernel_rfl
  rw [hh] at e5
  unfold Err.ErrT
  simpa using World.var?_cell et e5 0

/-- A world that meets the condition: the settled one, the variable's cell laid. -/
noncomputable def laidWorld (os : Os) : World :=
  let w0 := World.holding Tryz.prog os ⟨#[], #[], []⟩
  { w0 with heap := w0.heap.modify 0 fun
      | .cells _ t frozen => .cells #[.iface 197 (.agg #[.pointer (some ⟨1, 113, none⟩)])] t frozen
      | o => o }
theorem laidWorld_met (os : Os) (args : Array Value) : laidMetH Tryz.prog Rows.serveBytesRow.laid ((laidWorld os).forCall (fun _ _ => 0) ⟨#[], args, []⟩).memory :=
  laidMetH_of_parts (laidMet_nil _ _) (by kernel_rfl)

set_option maxRecDepth 100000 in
theorem contract (H : Type) (enc : TypeId × Value → H) (W : World) (base : Nat) (args : Array Value) (ds gs : List (DataW H)) (before : List MemPlace)
    (hval : ∀ (j : Nat) t v, Tryz.f3.params[j]? = some t → args[j]? = some v → Value.okWide Tryz.prog W .any base t v)
    (hW : DataW.Whole enc Tryz.prog Tryz.f3.params.toList Rows.serveBytesSpec.vars false W args.toList ds gs before) (hE : Err.ErrT W) :
    Calls Tryz.prog 3 args W fun e W' => ∃ v, e = .returned v ∧ Rows.serveBytesSpec.post enc Tryz.prog Tryz.f3 false true false false W args v W' := by
  have hW' := hW
  obtain ⟨p, q, hA0, hV, rfl, hfz, hnd⟩ := hW
  have hA : DataW.TrodAll enc Tryz.prog W 0 (fun _ => true) true Tryz.f3.params.toList args.toList ds p := hA0
  rw [Tryz.params3] at hA hval
  obtain ⟨v0, v1, v2, v3, v4, v5, d0, d1, d2, d3, d4, d5, p0, p1, p2, p3, p4, p5, rfl, rfl, rfl, h0, h1, h2, h3, h4, h5⟩ := trodAll_six hA
  obtain ⟨rfl, rfl⟩ := trodVars_none hV
  obtain ⟨k0, k1, k2, k3, k4, k5⟩ := okw6 hval
  obtain ⟨bs0, n0, cp0, R0, rfl, hl0, hs0, hR0⟩ := open_slc (P := Tryz.prog) (sz := 3) Tryz.underlying22 (by kernel_rfl) (by simp) (show leafTs Tryz.prog 20 74 = some [3, 3, 70] by kernel_rfl) rfl k0 h0
  obtain ⟨L0, rfl, hw0⟩ := rows_of (f := encN) (G := NfIn ⟨W, []⟩) (fun i r hr => by
    obtain ⟨hl, hc⟩ := hR0 i r hr
    exact open_named hl hc)
  rw [List.length_map] at hl0; subst hl0
  obtain ⟨a1, rfl, rfl, rfl, w1⟩ := open_int Tryz.underlying3 k1 h1
  obtain ⟨c2_0, c2_1, c2_2, y2_0, y2_1, y2_2, m2, rfl, rfl, rfl, e2_0, e2_1, e2_2⟩ := Go.Joins.open_agg3 (Tryz.underlying24) (by kernel_rfl) (by kernel_rfl) k2 h2
  obtain ⟨a2_0, q2_0, _, w2_0⟩ := DataW.trod_int Tryz.underlying3 e2_0
  cases q2_0
  obtain ⟨a2_1, q2_1, _, w2_1⟩ := DataW.trod_int Tryz.underlying3 e2_1
  cases q2_1
  obtain ⟨a2_2, q2_2, _, w2_2⟩ := DataW.trod_int Tryz.underlying3 e2_2
  cases q2_2
  obtain ⟨ns3, hn3, rfl, hw3⟩ := open_arr_int (P := Tryz.prog) Tryz.underlying26 Tryz.underlying5 (by kernel_rfl) (by kernel_rfl) k3 h3
  obtain ⟨x3_0, x3_1, x3_2, x3_3, rfl⟩ := list4 hn3
  obtain ⟨ns4, hn4, rfl, hw4⟩ := open_arr_int (P := Tryz.prog) Tryz.underlying25 Tryz.underlying5 (by kernel_rfl) (by kernel_rfl) k4 h4
  obtain ⟨x4_0, x4_1, x4_2, x4_3, rfl⟩ := list4 hn4
  obtain ⟨ns5, hn5, rfl, hw5⟩ := open_arr_int (P := Tryz.prog) Tryz.underlying27 Tryz.underlying5 (by kernel_rfl) (by kernel_rfl) k5 h5
  obtain ⟨x5_0, x5_1, x5_2, x5_3, x5_4, rfl⟩ := list5 hn5
  exact law_post laidOut (by kernel_rfl) rfl rfl Tryz.underlying4 hW' rfl rfl rfl
    ((ServeBytes_c L0 bs0 cp0 a2_0 a2_1 a2_2 (x3_0, x3_1, x3_2, x3_3) ⟨a1, x4_0, x4_1, x4_2, x4_3, (x5_0, x5_1, x5_2, x5_3), x5_4⟩ (Srv.aqOk (byte_wf (hw4 x4_0 (by simp))) (byte_wf (hw4 x4_1 (by simp))) (byte_wf (hw4 x4_2 (by simp))) (byte_wf (hw5 x5_0 (by simp))) (byte_wf (hw5 x5_1 (by simp))) (byte_wf (hw5 x5_2 (by simp))) (byte_wf (hw5 x5_3 (by simp)))) _ hs0 hw0 hE).mono fun v H' h => ⟨h.1, h.2 ▸ rfl⟩)

set_option maxRecDepth 100000 in
theorem lifted (os : Os) (started : os.Started) (H : Type) (enc : TypeId × Value → H) :
    ReturnsInHanded {} Tryz.checked os 3 .any (fun w args => (Rows.serveBytesSpec.pre enc Tryz.prog Tryz.f3 [] false w args ∧ laidMetH Tryz.prog Rows.serveBytesRow.laid w) ∧ sizedMet enc Tryz.prog Tryz.f3 (OpenSpec.ofChange Rows.serveBytesSpec) false w args)
      (Rows.serveBytesSpec.post enc Tryz.prog Tryz.f3 false true false false) := by
  refine returnsInHanded_of_change_and (C := Tryz.checked) (X := fun w _ => laidMetH Tryz.prog Rows.serveBytesRow.laid w) (fun _ _ _ hh h => h.of_heap hh) own started (by kernel_rfl) Tryz.func3
    (ChangeSpec.witness_at (enc := enc) (C := Tryz.checked) (os := os) (X := fun w _ => laidMetH Tryz.prog Rows.serveBytesRow.laid w) false (laidWorld os) #[.slice none 0 0, .int .i64 0, .agg #[.int .i64 0, .int .i64 0, .int .i64 0], .agg #[.int .u8 0, .int .u8 0, .int .u8 0, .int .u8 0], .agg #[.int .u8 0, .int .u8 0, .int .u8 0, .int .u8 0], .agg #[.int .u8 0, .int .u8 0, .int .u8 0, .int .u8 0, .int .u8 0]] 8 rfl (by kernel_rfl) (by kernel_rfl) (by kernel_rfl) (by kernel_rfl) (by kernel_rfl) (laidWorld_met os _)) ?_
  intro W base args ds gs before hval hW _ _ hL _
  exact contract H enc W base args ds gs before hval hW (handle_of_laid hL)

theorem row : Rows.ServeBytesSaid :=
  OpenClaim.holds_of_wide 3 Tryz.f3 rfl rfl rfl rfl rfl rfl rfl ⟨rfl, rfl, rfl, rfl, rfl⟩ rfl rfl rfl rfl rfl (by kernel_rfl) Tryz.func3 (by kernel_rfl)
    (of_decide_eq_true (by kernel_rfl)) (by unfold Func.isWrapper; rw [if_neg (of_decide_eq_false (by kernel_rfl))]; exact ⟨rfl, rfl⟩)
    (fun os started H enc _ => lifted os started H enc)

theorem proved : Rows.ServeBytesCardSaid :=
  Claim7.holds_tied_plain_at .later [] [.handle] true Rows.serveBytesCard.stood.harness true
    row (fun _ h => by cases h) (by kernel_rfl) (fun _ h => by cases h) serveBytes_row_tie rfl ⟨rfl, rfl⟩ (by kernel_rfl) rfl
    (fun f fn hf hfn => by
      obtain rfl : f = 3 := Option.some.inj ((show Tryz.prog.funcNamed "hayward/haywardlaw16.ServeBytes" = some 3 by kernel_rfl).symm.trans hf) |>.symm
      obtain rfl : fn = Tryz.f3 := (Option.some.inj (Tryz.func3.symm.trans hfn)).symm
      exact ⟨by kernel_rfl, fun j t ht => by
          rw [Tryz.params3] at ht
          rcases j with _ | j
          · have : t = 22 := by simpa using ht.symm
            subst this; exact (show Tryz.prog.wantsStandIn 22 = false by kernel_rfl)
          rcases j with _ | j
          · have : t = 3 := by simpa using ht.symm
            subst this; exact (show Tryz.prog.wantsStandIn 3 = false by kernel_rfl)
          rcases j with _ | j
          · have : t = 24 := by simpa using ht.symm
            subst this; exact (show Tryz.prog.wantsStandIn 24 = false by kernel_rfl)
          rcases j with _ | j
          · have : t = 26 := by simpa using ht.symm
            subst this; exact (show Tryz.prog.wantsStandIn 26 = false by kernel_rfl)
          rcases j with _ | j
          · have : t = 25 := by simpa using ht.symm
            subst this; exact (show Tryz.prog.wantsStandIn 25 = false by kernel_rfl)
          rcases j with _ | j
          · have : t = 27 := by simpa using ht.symm
            subst this; exact (show Tryz.prog.wantsStandIn 27 = false by kernel_rfl)
          · simp at ht⟩)
    (by kernel_rfl)

end Go.Proofs.YtamlipffhimfmaaGreatDoor.lawServeBytes
