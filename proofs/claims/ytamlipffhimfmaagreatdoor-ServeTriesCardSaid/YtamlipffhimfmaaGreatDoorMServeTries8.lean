/- For every input ServeTries answers true and leaves its arguments as_ they were; the package's one variable holds what the program's text lays into it: the tied card. -/
import Derived.Test.YtamlipffhimfmaaGreatDoorMServeTries7
import Derived.Test.YtamlipffhimfmaaGreatDoorRows
import Derived.Test.YtamlipffhimfmaaGreatDoorCards
import Derived.Test.YtamlipffhimfmaaGreatDoorTie
import Derived.ChangeSame
import Derived.ChangeVars
import Derived.JoinedOf
import Derived.RowKit
import Derived.RowKitTokens
import Derived.LaidLaws
import Derived.LaidHandle
import Derived.Stop.Joined
import Derived.SevenTiedAt
/- serve: the reference's Serve. -/
namespace Go.Proofs.YtamlipffhimfmaaGreatDoor.Srv
set_option linter.unusedSimpArgs false
set_option linter.unusedVariables false
open Go Go.AX Go.Proofs Ty Go.Proofs.YtamlipffhimfmaaGreatDoor.File Go.Proofs.YtamlipffhimfmaaGreatDoor.Ifs Go.Proofs.YtamlipffhimfmaaGreatDoor.Err
set_option maxHeartbeats 4000000
set_option maxRecDepth 10000

theorem Aq.pre_in {q : Aq} (c1 : chk [q.a0, q.a1, q.a2] = q.a3) (c2 : q.a0 = q.n) : q.pre = if ¬ q.a1 < 192 then 2 else if q.op = 1 ∧ chk (rl q.d) ≠ q.d4 then 14 else 0 := by
  unfold Aq.pre; rw [if_neg (fun h => h.elim (fun h => h c1) fun h => h c2)]
theorem refS_kn {H : AH} {b : Nat} {Z : List RF} {den : Int} {rd : Nat → Prop} (h : RefS H b Z den rd) : RefK H rd := by
  obtain ⟨_, _, _, _, _, _, h⟩ := h
  exact h
theorem RefServe_c {H : AH} {b : Nat} {Z : List RF} {den : Int} {rd : Nat → Prop} (h : RefS H b Z den rd) (hX : OkX (Z.map RF.nf)) (q : Aq) (hq : q.Ok) :
    ACalls Tryz.prog 13 #[.pointer (some ⟨b, 0, none⟩), .int .i64 q.n, q.ask, q.dat] H (fun u H' => ∃ Z' rd', u = serveV q (Z.map RF.nf) ∧ Z'.map RF.nf = q.X (Z.map RF.nf) ∧ RefS H' b Z' (q.D (Z.map RF.nf) den) rd' ∧ Keep H H' (· = b) ∧ ∀ x, rd' x → rd x ∨ Fresh H x) := by
  obtain ⟨X, hXe⟩ : ∃ X, Z.map RF.nf = X := ⟨_, rfl⟩
  have hdo := fun H1 (h1 : RefS H1 b Z den rd) => RefDo_c h1 hX q.op q.fl q.a2 q.v
  rw [hXe] at hX hdo ⊢
  have bad : ∀ {T : AH}, q.pre ≠ 0 → H.le T → ∃ H', H'.le T ∧ ∃ Z' rd', Value.tuple #[.agg #[.int .u8 0, .int .u8 0, .int .u8 0, .int .u8 0, .int .u8 0], .bool false] = serveV q X ∧ Z'.map RF.nf = q.X X ∧ RefS H' b Z' (q.D X den) rd' ∧ Keep H H' (· = b) ∧ ∀ x, rd' x → rd x ∨ Fresh H x := fun {T} h0 hl =>
    ⟨H, hl, Z, rd, by rw [serveV, if_neg (Aq.E_bad h0).1], by rw [(Aq.E_bad (X := X) h0).2, hXe], by rw [Aq.D, if_neg h0]; exact h, Keep.refl, fun x h => .inl h⟩
  obtain ⟨h0, h1, h2, hd⟩ := hq
  have e0 : IntKind.i64.wrap q.a0 = q.a0 := i64_eq (by omega) (by omega)
  have hck := fun H1 p (h : SlcIn H1 1 (some ⟨p, 0, none⟩) 3 ([q.a0, q.a1, q.a2].map enc1)) => RefCheck_c [q.a0, q.a1, q.a2] (some ⟨p, 0, none⟩) 3 H1 h
  have hop := fun H1 => RefOpen_c q.d q.d4 H1
  unfold Aq.ask Aq.dat
  refine ACalls.enter2 Tryz.func13 rfl Tryz.ntmps13 Tryz.results13 (by simp) ?_; simp (dsimp := false) (maxSteps := 4000000) only [enc_len, enc_scal, lput_enc, take_enc, go_sem, ↓reduceIte, Nat.reduceEqDiff, Nat.reduceLT, Nat.reduceLeDiff, Nat.reduceAdd, Nat.reduceMul, Nat.reduceSub, reduceCtorEq, Int.reduceToNat, Int.reduceLT, Int.reduceLE, Int.reduceEq, Int.reduceNe, Int.reduceBEq, Nat.reduceBEq, Int.reduceBNe, Nat.reduceBNe, Int.reduceAdd, Int.reduceSub, Int.reduceMul, Int.reduceNeg]
  refine AllB.mk fun b6 h_b6 => ?_; have hn_b6 := h_b6; (try simp only [fresh_add, fresh_set, ne_eq] at hn_b6); have hr_b6 := hn_b6; (try simp only [@eq_comm Nat b6] at hr_b6); simp (dsimp := false) (maxSteps := 4000000) only [enc_len, enc_scal, lput_enc, take_enc, hn_b6, hr_b6, go_sem, ↓reduceIte, Nat.reduceEqDiff, Nat.reduceLT, Nat.reduceLeDiff, Nat.reduceAdd, Nat.reduceMul, Nat.reduceSub, reduceCtorEq, Int.reduceToNat, Int.reduceLT, Int.reduceLE, Int.reduceEq, Int.reduceNe, Int.reduceBEq, Nat.reduceBEq, Int.reduceBNe, Nat.reduceBNe, Int.reduceAdd, Int.reduceSub, Int.reduceMul, Int.reduceNeg]
  refine AllB.mk fun b7 h_b7 => ?_; have hn_b7 := h_b7; (try simp only [fresh_add, fresh_set, ne_eq] at hn_b7); have hr_b7 := hn_b7; (try simp only [@eq_comm Nat b7] at hr_b7); simp (dsimp := false) (maxSteps := 4000000) only [enc_len, enc_scal, lput_enc, take_enc, hn_b6, hr_b6, hn_b7, hr_b7, go_sem, ↓reduceIte, Nat.reduceEqDiff, Nat.reduceLT, Nat.reduceLeDiff, Nat.reduceAdd, Nat.reduceMul, Nat.reduceSub, reduceCtorEq, Int.reduceToNat, Int.reduceLT, Int.reduceLE, Int.reduceEq, Int.reduceNe, Int.reduceBEq, Nat.reduceBEq, Int.reduceBNe, Nat.reduceBNe, Int.reduceAdd, Int.reduceSub, Int.reduceMul, Int.reduceNeg]
  refine AllB.mk fun b8 h_b8 => ?_; have hn_b8 := h_b8; (try simp only [fresh_add, fresh_set, ne_eq] at hn_b8); have hr_b8 := hn_b8; (try simp only [@eq_comm Nat b8] at hr_b8); simp (dsimp := false) (maxSteps := 4000000) only [enc_len, enc_scal, lput_enc, take_enc, hn_b6, hr_b6, hn_b7, hr_b7, hn_b8, hr_b8, go_sem, ↓reduceIte, Nat.reduceEqDiff, Nat.reduceLT, Nat.reduceLeDiff, Nat.reduceAdd, Nat.reduceMul, Nat.reduceSub, reduceCtorEq, Int.reduceToNat, Int.reduceLT, Int.reduceLE, Int.reduceEq, Int.reduceNe, Int.reduceBEq, Nat.reduceBEq, Int.reduceBNe, Nat.reduceBNe, Int.reduceAdd, Int.reduceSub, Int.reduceMul, Int.reduceNeg]
  refine AWp.gen [.pu, .rd, .pu, .rd, .pu, .rd, .al, .ch, .pu, .rd, .pu, .pu, .pu, .rd, .pu, .pu, .pu, .pu] [0, 1, 0, 4, 0, 16, 63, 127, 0, 256, 1023, 2047, 4095, 8191, 16383, 4095, 65535, 131071] 8 (_) mixed (by kernel_rfl) (AH.le_refl _) ?_
  simp (dsimp := false) (maxSteps := 4000000) only [enc_len, enc_scal, lput_enc, take_enc, hn_b6, hr_b6, hn_b7, hr_b7, hn_b8, hr_b8, go_sem, ↓reduceIte, Nat.reduceEqDiff, Nat.reduceLT, Nat.reduceLeDiff, Nat.reduceAdd, Nat.reduceMul, Nat.reduceSub, reduceCtorEq, Int.reduceToNat, Int.reduceLT, Int.reduceLE, Int.reduceEq, Int.reduceNe, Int.reduceBEq, Nat.reduceBEq, Int.reduceBNe, Nat.reduceBNe, Int.reduceAdd, Int.reduceSub, Int.reduceMul, Int.reduceNeg]
  refine AllB.mk fun b9 h_b9 => ?_; have hn_b9 := h_b9; (try simp only [fresh_add, fresh_set, ne_eq] at hn_b9); have hr_b9 := hn_b9; (try simp only [@eq_comm Nat b9] at hr_b9); simp (dsimp := false) (maxSteps := 4000000) only [enc_len, enc_scal, lput_enc, take_enc, hn_b6, hr_b6, hn_b7, hr_b7, hn_b8, hr_b8, hn_b9, hr_b9, go_sem, ↓reduceIte, Nat.reduceEqDiff, Nat.reduceLT, Nat.reduceLeDiff, Nat.reduceAdd, Nat.reduceMul, Nat.reduceSub, reduceCtorEq, Int.reduceToNat, Int.reduceLT, Int.reduceLE, Int.reduceEq, Int.reduceNe, Int.reduceBEq, Nat.reduceBEq, Int.reduceBNe, Nat.reduceBNe, Int.reduceAdd, Int.reduceSub, Int.reduceMul, Int.reduceNeg]
  refine ACalls.mono (hck _ b9 (row1 (k := [q.a0, q.a1, q.a2]) (cs := [.int .u8 q.a0, .int .u8 q.a1, .int .u8 q.a2]) (e := 5) (m := 3) (by (show AH.find _ _ = _; simp only [find_add_self, find_add_ne, find_fresh, fresh_add, fresh_set, ne_eq, not_false_eq_true, true_and, and_true, and_self, enc_len, enc_scal, lput_enc, take_enc, hn_b6, hr_b6, hn_b7, hr_b7, hn_b8, hr_b8, hn_b9, hr_b9])) rfl rfl (by simp) 3 (by simp))) ?_; rintro _ _ ⟨rfl, rfl⟩
  by_cases c1 : chk [q.a0, q.a1, q.a2] = q.a3
  case' neg =>
    simp (dsimp := false) (maxSteps := 4000000) only [c1, enc_len, enc_scal, lput_enc, take_enc, hn_b6, hr_b6, hn_b7, hr_b7, hn_b8, hr_b8, hn_b9, hr_b9, go_sem, ↓reduceIte, Nat.reduceEqDiff, Nat.reduceLT, Nat.reduceLeDiff, Nat.reduceAdd, Nat.reduceMul, Nat.reduceSub, reduceCtorEq, Int.reduceToNat, Int.reduceLT, Int.reduceLE, Int.reduceEq, Int.reduceNe, Int.reduceBEq, Nat.reduceBEq, Int.reduceBNe, Nat.reduceBNe, Int.reduceAdd, Int.reduceSub, Int.reduceMul, Int.reduceNeg]
    refine ⟨AH.le_add (AH.le_refl _) h_b9.2, ?_⟩
    exact bad (by simp [Aq.pre, c1]) (AH.le_add (AH.le_add (AH.le_add (AH.le_add (AH.le_refl _) ((by simp only [enc_len, enc_scal, lput_enc, take_enc, fresh_add, fresh_set, ne_eq, hn_b6, not_false_eq_true, and_self] : Fresh _ b6).2)) ((by simp only [enc_len, enc_scal, lput_enc, take_enc, fresh_add, fresh_set, ne_eq, hn_b7, not_false_eq_true, and_self] : Fresh _ b7).2)) ((by simp only [enc_len, enc_scal, lput_enc, take_enc, fresh_add, fresh_set, ne_eq, hn_b8, not_false_eq_true, and_self] : Fresh _ b8).2)) ((by simp only [enc_len, enc_scal, lput_enc, take_enc, fresh_add, fresh_set, ne_eq, hn_b9, not_false_eq_true, and_self] : Fresh _ b9).2))
  by_cases c2 : q.a0 = q.n
  case' neg =>
    simp (dsimp := false) (maxSteps := 4000000) only [c1, enc_len, enc_scal, lput_enc, take_enc, hn_b6, hr_b6, hn_b7, hr_b7, hn_b8, hr_b8, hn_b9, hr_b9, go_sem, ↓reduceIte, Nat.reduceEqDiff, Nat.reduceLT, Nat.reduceLeDiff, Nat.reduceAdd, Nat.reduceMul, Nat.reduceSub, reduceCtorEq, Int.reduceToNat, Int.reduceLT, Int.reduceLE, Int.reduceEq, Int.reduceNe, Int.reduceBEq, Nat.reduceBEq, Int.reduceBNe, Nat.reduceBNe, Int.reduceAdd, Int.reduceSub, Int.reduceMul, Int.reduceNeg]
    simp (dsimp := false) (maxSteps := 4000000) only [e0, c2, enc_len, enc_scal, lput_enc, take_enc, hn_b6, hr_b6, hn_b7, hr_b7, hn_b8, hr_b8, hn_b9, hr_b9, go_sem, ↓reduceIte, Nat.reduceEqDiff, Nat.reduceLT, Nat.reduceLeDiff, Nat.reduceAdd, Nat.reduceMul, Nat.reduceSub, reduceCtorEq, Int.reduceToNat, Int.reduceLT, Int.reduceLE, Int.reduceEq, Int.reduceNe, Int.reduceBEq, Nat.reduceBEq, Int.reduceBNe, Nat.reduceBNe, Int.reduceAdd, Int.reduceSub, Int.reduceMul, Int.reduceNeg]
    refine ⟨AH.le_add (AH.le_refl _) h_b9.2, ?_⟩
    exact bad (by simp [Aq.pre, c2]) (AH.le_add (AH.le_add (AH.le_add (AH.le_add (AH.le_refl _) ((by simp only [enc_len, enc_scal, lput_enc, take_enc, fresh_add, fresh_set, ne_eq, hn_b6, not_false_eq_true, and_self] : Fresh _ b6).2)) ((by simp only [enc_len, enc_scal, lput_enc, take_enc, fresh_add, fresh_set, ne_eq, hn_b7, not_false_eq_true, and_self] : Fresh _ b7).2)) ((by simp only [enc_len, enc_scal, lput_enc, take_enc, fresh_add, fresh_set, ne_eq, hn_b8, not_false_eq_true, and_self] : Fresh _ b8).2)) ((by simp only [enc_len, enc_scal, lput_enc, take_enc, fresh_add, fresh_set, ne_eq, hn_b9, not_false_eq_true, and_self] : Fresh _ b9).2))
  simp (dsimp := false) (maxSteps := 4000000) only [c1, enc_len, enc_scal, lput_enc, take_enc, hn_b6, hr_b6, hn_b7, hr_b7, hn_b8, hr_b8, hn_b9, hr_b9, go_sem, ↓reduceIte, Nat.reduceEqDiff, Nat.reduceLT, Nat.reduceLeDiff, Nat.reduceAdd, Nat.reduceMul, Nat.reduceSub, reduceCtorEq, Int.reduceToNat, Int.reduceLT, Int.reduceLE, Int.reduceEq, Int.reduceNe, Int.reduceBEq, Nat.reduceBEq, Int.reduceBNe, Nat.reduceBNe, Int.reduceAdd, Int.reduceSub, Int.reduceMul, Int.reduceNeg]
  have en : IntKind.i64.wrap q.a0 = q.n := e0.trans c2
  simp (dsimp := false) (maxSteps := 4000000) only [en, enc_len, enc_scal, lput_enc, take_enc, hn_b6, hr_b6, hn_b7, hr_b7, hn_b8, hr_b8, hn_b9, hr_b9, go_sem, ↓reduceIte, Nat.reduceEqDiff, Nat.reduceLT, Nat.reduceLeDiff, Nat.reduceAdd, Nat.reduceMul, Nat.reduceSub, reduceCtorEq, Int.reduceToNat, Int.reduceLT, Int.reduceLE, Int.reduceEq, Int.reduceNe, Int.reduceBEq, Nat.reduceBEq, Int.reduceBNe, Nat.reduceBNe, Int.reduceAdd, Int.reduceSub, Int.reduceMul, Int.reduceNeg]
  refine ⟨AH.le_add (AH.le_refl _) h_b9.2, ?_⟩
  refine (Go.Proofs.YtamlipffhimfmaaGreatDoor.RefTake_c q.a1 q.a2 h1 h2 _).mono ?_; rintro _ _ ⟨rfl, rfl⟩
  unfold atakev
  by_cases t : q.a1 < 192
  case' neg =>
    rw [if_neg t]
    
    simp (dsimp := false) (maxSteps := 4000000) only [enc_len, enc_scal, lput_enc, take_enc, hn_b6, hr_b6, hn_b7, hr_b7, hn_b8, hr_b8, hn_b9, hr_b9, go_sem, ↓reduceIte, Nat.reduceEqDiff, Nat.reduceLT, Nat.reduceLeDiff, Nat.reduceAdd, Nat.reduceMul, Nat.reduceSub, reduceCtorEq, Int.reduceToNat, Int.reduceLT, Int.reduceLE, Int.reduceEq, Int.reduceNe, Int.reduceBEq, Nat.reduceBEq, Int.reduceBNe, Nat.reduceBNe, Int.reduceAdd, Int.reduceSub, Int.reduceMul, Int.reduceNeg]
    refine AllB.mk fun b10 h_b10 => ?_; have hn_b10 := h_b10; (try simp only [fresh_add, fresh_set, ne_eq] at hn_b10); have hr_b10 := hn_b10; (try simp only [@eq_comm Nat b10] at hr_b10); simp (dsimp := false) (maxSteps := 4000000) only [enc_len, enc_scal, lput_enc, take_enc, hn_b6, hr_b6, hn_b7, hr_b7, hn_b8, hr_b8, hn_b9, hr_b9, hn_b10, hr_b10, go_sem, ↓reduceIte, Nat.reduceEqDiff, Nat.reduceLT, Nat.reduceLeDiff, Nat.reduceAdd, Nat.reduceMul, Nat.reduceSub, reduceCtorEq, Int.reduceToNat, Int.reduceLT, Int.reduceLE, Int.reduceEq, Int.reduceNe, Int.reduceBEq, Nat.reduceBEq, Int.reduceBNe, Nat.reduceBNe, Int.reduceAdd, Int.reduceSub, Int.reduceMul, Int.reduceNeg]
    exact bad (by rw [Aq.pre_in c1 c2, if_pos t]; decide) (AH.le_add (AH.le_add (AH.le_add (AH.le_add (AH.le_add (AH.le_refl _) ((by simp only [enc_len, enc_scal, lput_enc, take_enc, fresh_add, fresh_set, ne_eq, hn_b6, not_false_eq_true, and_self] : Fresh _ b6).2)) ((by simp only [enc_len, enc_scal, lput_enc, take_enc, fresh_add, fresh_set, ne_eq, hn_b7, not_false_eq_true, and_self] : Fresh _ b7).2)) ((by simp only [enc_len, enc_scal, lput_enc, take_enc, fresh_add, fresh_set, ne_eq, hn_b8, not_false_eq_true, and_self] : Fresh _ b8).2)) ((by simp only [enc_len, enc_scal, lput_enc, take_enc, fresh_add, fresh_set, ne_eq, hn_b9, not_false_eq_true, and_self] : Fresh _ b9).2)) ((by simp only [enc_len, enc_scal, lput_enc, take_enc, fresh_add, fresh_set, ne_eq, hn_b10, not_false_eq_true, and_self] : Fresh _ b10).2))
    
  rw [if_pos t]
  simp (dsimp := false) (maxSteps := 4000000) only [enc_len, enc_scal, lput_enc, take_enc, hn_b6, hr_b6, hn_b7, hr_b7, hn_b8, hr_b8, hn_b9, hr_b9, go_sem, ↓reduceIte, Nat.reduceEqDiff, Nat.reduceLT, Nat.reduceLeDiff, Nat.reduceAdd, Nat.reduceMul, Nat.reduceSub, reduceCtorEq, Int.reduceToNat, Int.reduceLT, Int.reduceLE, Int.reduceEq, Int.reduceNe, Int.reduceBEq, Nat.reduceBEq, Int.reduceBNe, Nat.reduceBNe, Int.reduceAdd, Int.reduceSub, Int.reduceMul, Int.reduceNeg]
  refine AllB.mk fun b10 h_b10 => ?_; have hn_b10 := h_b10; (try simp only [fresh_add, fresh_set, ne_eq] at hn_b10); have hr_b10 := hn_b10; (try simp only [@eq_comm Nat b10] at hr_b10); simp (dsimp := false) (maxSteps := 4000000) only [enc_len, enc_scal, lput_enc, take_enc, hn_b6, hr_b6, hn_b7, hr_b7, hn_b8, hr_b8, hn_b9, hr_b9, hn_b10, hr_b10, go_sem, ↓reduceIte, Nat.reduceEqDiff, Nat.reduceLT, Nat.reduceLeDiff, Nat.reduceAdd, Nat.reduceMul, Nat.reduceSub, reduceCtorEq, Int.reduceToNat, Int.reduceLT, Int.reduceLE, Int.reduceEq, Int.reduceNe, Int.reduceBEq, Nat.reduceBEq, Int.reduceBNe, Nat.reduceBNe, Int.reduceAdd, Int.reduceSub, Int.reduceMul, Int.reduceNeg]
  refine (hop _).mono ?_; rintro _ _ ⟨rfl, rfl⟩
  obtain ⟨w, f, hw, hv, hpre⟩ : ∃ (w : Rc) (f : Int), openV q.d q.d4 = .tuple #[.agg (enc w).toArray, .int .i64 f] ∧ (q.op = 1 → f = 0 → w = q.v) ∧ (q.op = 1 ∧ f ≠ 0 ↔ q.pre ≠ 0) := by
    rw [Aq.pre_in c1 c2, if_neg (fun h => h t)]
    unfold openV Aq.v
    by_cases e : chk (rl q.d) = q.d4
    · refine ⟨q.d, 0, by rw [if_pos e], fun o _ => by rw [if_pos o], ?_⟩
      rw [if_neg (fun h => h.2 e)]; simp
    · refine ⟨zr, 14, by rw [if_neg e], fun _ h => (by cases h), ?_⟩
      by_cases o : q.op = 1
      · rw [if_pos ⟨o, e⟩]; simp [o]
      · rw [if_neg (fun h => o h.1)]; simp [o]
  rw [hw]
  simp (dsimp := false) (maxSteps := 4000000) only [enc_len, enc_scal, lput_enc, take_enc, hn_b6, hr_b6, hn_b7, hr_b7, hn_b8, hr_b8, hn_b9, hr_b9, hn_b10, hr_b10, go_sem, ↓reduceIte, Nat.reduceEqDiff, Nat.reduceLT, Nat.reduceLeDiff, Nat.reduceAdd, Nat.reduceMul, Nat.reduceSub, reduceCtorEq, Int.reduceToNat, Int.reduceLT, Int.reduceLE, Int.reduceEq, Int.reduceNe, Int.reduceBEq, Nat.reduceBEq, Int.reduceBNe, Nat.reduceBNe, Int.reduceAdd, Int.reduceSub, Int.reduceMul, Int.reduceNeg]
  refine AllB.mk fun b12 h_b12 => ?_; have hn_b12 := h_b12; (try simp only [fresh_add, fresh_set, ne_eq] at hn_b12); have hr_b12 := hn_b12; (try simp only [@eq_comm Nat b12] at hr_b12); simp (dsimp := false) (maxSteps := 4000000) only [enc_len, enc_scal, lput_enc, take_enc, hn_b6, hr_b6, hn_b7, hr_b7, hn_b8, hr_b8, hn_b9, hr_b9, hn_b10, hr_b10, hn_b12, hr_b12, go_sem, ↓reduceIte, Nat.reduceEqDiff, Nat.reduceLT, Nat.reduceLeDiff, Nat.reduceAdd, Nat.reduceMul, Nat.reduceSub, reduceCtorEq, Int.reduceToNat, Int.reduceLT, Int.reduceLE, Int.reduceEq, Int.reduceNe, Int.reduceBEq, Nat.reduceBEq, Int.reduceBNe, Nat.reduceBNe, Int.reduceAdd, Int.reduceSub, Int.reduceMul, Int.reduceNeg]
  have kT : ∀ {k6 k7 k8 k9 k10 k12 : ABlk}, Keep H ((((((H.add b6 k6).add b7 k7).add b8 k8).add b9 k9).add b10 k10).add b12 k12) fun _ => False := fun {k6 k7 k8 k9 k10 k12} => (((((Keep.refl.nw h_b6).nw (by simp only [fresh_add, ne_eq, hn_b7, not_false_eq_true, and_self])).nw (by simp only [fresh_add, ne_eq, hn_b8, not_false_eq_true, and_self])).nw (by simp only [fresh_add, ne_eq, hn_b9, not_false_eq_true, and_self])).nw (by simp only [fresh_add, ne_eq, hn_b10, not_false_eq_true, and_self])).nw (by simp only [fresh_add, ne_eq, hn_b12, not_false_eq_true, and_self])
  have hf8 : Fresh H b8 := hn_b8.2.2
  have n8 : b8 ≠ b := by
    obtain ⟨_, _, hb, _⟩ := h
    exact hf8.ne_find hb
  by_cases o : q.a1 / 64 = 1
  case' pos =>
    by_cases e : f = 0
    case' neg =>
      
      simp (dsimp := false) (maxSteps := 4000000) only [o, e, enc_len, enc_scal, lput_enc, take_enc, hn_b6, hr_b6, hn_b7, hr_b7, hn_b8, hr_b8, hn_b9, hr_b9, hn_b10, hr_b10, hn_b12, hr_b12, go_sem, ↓reduceIte, Nat.reduceEqDiff, Nat.reduceLT, Nat.reduceLeDiff, Nat.reduceAdd, Nat.reduceMul, Nat.reduceSub, reduceCtorEq, Int.reduceToNat, Int.reduceLT, Int.reduceLE, Int.reduceEq, Int.reduceNe, Int.reduceBEq, Nat.reduceBEq, Int.reduceBNe, Nat.reduceBNe, Int.reduceAdd, Int.reduceSub, Int.reduceMul, Int.reduceNeg]
      exact bad (hpre.1 ⟨o, e⟩) (AH.le_add (AH.le_add (AH.le_add (AH.le_add (AH.le_add (AH.le_add (AH.le_refl _) ((by simp only [enc_len, enc_scal, lput_enc, take_enc, fresh_add, fresh_set, ne_eq, hn_b6, not_false_eq_true, and_self] : Fresh _ b6).2)) ((by simp only [enc_len, enc_scal, lput_enc, take_enc, fresh_add, fresh_set, ne_eq, hn_b7, not_false_eq_true, and_self] : Fresh _ b7).2)) ((by simp only [enc_len, enc_scal, lput_enc, take_enc, fresh_add, fresh_set, ne_eq, hn_b8, not_false_eq_true, and_self] : Fresh _ b8).2)) ((by simp only [enc_len, enc_scal, lput_enc, take_enc, fresh_add, fresh_set, ne_eq, hn_b9, not_false_eq_true, and_self] : Fresh _ b9).2)) ((by simp only [enc_len, enc_scal, lput_enc, take_enc, fresh_add, fresh_set, ne_eq, hn_b10, not_false_eq_true, and_self] : Fresh _ b10).2)) ((by simp only [enc_len, enc_scal, lput_enc, take_enc, fresh_add, fresh_set, ne_eq, hn_b12, not_false_eq_true, and_self] : Fresh _ b12).2))
      
    have hp : q.pre = 0 := Decidable.byContradiction fun hh => e |> (fun e => (hpre.2 hh).2 e)
    obtain rfl : w = q.v := hv o e
    have o1 : Value.int .i64 q.op = .int .i64 1 := congrArg _ (show q.op = 1 from o)
    simp (dsimp := false) (maxSteps := 4000000) only [o, e, enc_len, enc_scal, lput_enc, take_enc, hn_b6, hr_b6, hn_b7, hr_b7, hn_b8, hr_b8, hn_b9, hr_b9, hn_b10, hr_b10, hn_b12, hr_b12, go_sem, ↓reduceIte, Nat.reduceEqDiff, Nat.reduceLT, Nat.reduceLeDiff, Nat.reduceAdd, Nat.reduceMul, Nat.reduceSub, reduceCtorEq, Int.reduceToNat, Int.reduceLT, Int.reduceLE, Int.reduceEq, Int.reduceNe, Int.reduceBEq, Nat.reduceBEq, Int.reduceBNe, Nat.reduceBNe, Int.reduceAdd, Int.reduceSub, Int.reduceMul, Int.reduceNeg]
    obtain ⟨C, hC⟩ : ∃ C, (((((H.add b6 (.cells [.int .u8 q.a0, .int .u8 q.a1, .int .u8 q.a2, .int .u8 q.a3] 25 4)).add b7 (.cells [.int .u8 q.d.1, .int .u8 q.d.2.1, .int .u8 q.d.2.2.1, .int .u8 q.d.2.2.2, .int .u8 q.d4] 27 5)).add b8 (.cells [.int .u8 0, .int .u8 0, .int .u8 0, .int .u8 0, .int .u8 0] 27 5)).add b9 (.cells [.int .u8 q.a0, .int .u8 q.a1, .int .u8 q.a2] 5 3)).add b10 (.cells [.int .i64 (q.a1 / 64), .int .i64 (q.a1 % 64), .int .i64 q.a2] 24 3)).add b12 (.cells (enc q.v) 26 4) = C := ⟨_, rfl⟩
    have kC : Keep H C fun _ => False := hC ▸ kT
    have g8 : C.find b8 = some (.cells [.int .u8 0, .int .u8 0, .int .u8 0, .int .u8 0, .int .u8 0] 27 5) := by rw [← hC]; (show AH.find _ _ = _; simp only [find_add_self, find_add_ne, find_fresh, fresh_add, fresh_set, ne_eq, not_false_eq_true, true_and, and_true, and_self, enc_len, enc_scal, lput_enc, take_enc, hn_b6, hr_b6, hn_b7, hr_b7, hn_b8, hr_b8, hn_b9, hr_b9, hn_b10, hr_b10, hn_b12, hr_b12])
    have hh := hdo C (h.keep kC (fun _ _ h => h) fun h => h)
    rw [o1] at hh
    rw [hC]
    refine ACalls.mono hh ?_
    rintro _ A ⟨Z', rd', rfl, hZ', hS, hK, hrd⟩
  case' neg =>
    have hp : q.pre = 0 := Decidable.byContradiction fun hh => o (hpre.2 hh).1
    have ez : zr = q.v := by rw [Aq.v, Aq.op, if_neg o]
    have eV : enc q.v = [.int .u8 0, .int .u8 0, .int .u8 0, .int .u8 0] := by rw [← ez]; rfl
    simp (dsimp := false) (maxSteps := 4000000) only [o, enc_len, enc_scal, lput_enc, take_enc, hn_b6, hr_b6, hn_b7, hr_b7, hn_b8, hr_b8, hn_b9, hr_b9, hn_b10, hr_b10, hn_b12, hr_b12, go_sem, ↓reduceIte, Nat.reduceEqDiff, Nat.reduceLT, Nat.reduceLeDiff, Nat.reduceAdd, Nat.reduceMul, Nat.reduceSub, reduceCtorEq, Int.reduceToNat, Int.reduceLT, Int.reduceLE, Int.reduceEq, Int.reduceNe, Int.reduceBEq, Nat.reduceBEq, Int.reduceBNe, Nat.reduceBNe, Int.reduceAdd, Int.reduceSub, Int.reduceMul, Int.reduceNeg]
    have es : ((((enc w).set 0 (Value.int .u8 0)).set 1 (Value.int .u8 0)).set 2 (Value.int .u8 0)).set 3 (Value.int .u8 0) = enc q.v := by rw [eV]; simp [enc]
    rw [es]
    obtain ⟨C, hC⟩ : ∃ C, (((((H.add b6 (.cells [.int .u8 q.a0, .int .u8 q.a1, .int .u8 q.a2, .int .u8 q.a3] 25 4)).add b7 (.cells [.int .u8 q.d.1, .int .u8 q.d.2.1, .int .u8 q.d.2.2.1, .int .u8 q.d.2.2.2, .int .u8 q.d4] 27 5)).add b8 (.cells [.int .u8 0, .int .u8 0, .int .u8 0, .int .u8 0, .int .u8 0] 27 5)).add b9 (.cells [.int .u8 q.a0, .int .u8 q.a1, .int .u8 q.a2] 5 3)).add b10 (.cells [.int .i64 (q.a1 / 64), .int .i64 (q.a1 % 64), .int .i64 q.a2] 24 3)).add b12 (.cells (enc q.v) 26 4) = C := ⟨_, rfl⟩
    have kC : Keep H C fun _ => False := hC ▸ kT
    have g8 : C.find b8 = some (.cells [.int .u8 0, .int .u8 0, .int .u8 0, .int .u8 0, .int .u8 0] 27 5) := by rw [← hC]; (show AH.find _ _ = _; simp only [find_add_self, find_add_ne, find_fresh, fresh_add, fresh_set, ne_eq, not_false_eq_true, true_and, and_true, and_self, enc_len, enc_scal, lput_enc, take_enc, hn_b6, hr_b6, hn_b7, hr_b7, hn_b8, hr_b8, hn_b9, hr_b9, hn_b10, hr_b10, hn_b12, hr_b12])
    have hh := hdo C (h.keep kC (fun _ _ h => h) fun h => h)
    rw [hC]
    refine ACalls.mono hh ?_
    rintro _ A ⟨Z', rd', rfl, hZ', hS, hK, hrd⟩
  all_goals
    have hKA : Keep H A (· = b) := (kC.mono fun _ h => h.elim).trans hK
    have hrA : ∀ x, rd' x → rd x ∨ Fresh H x := fun x hx => (hrd x hx).imp id fun h => kC.fr h
    have f8 : A.find b8 = some (.cells [.int .u8 0, .int .u8 0, .int .u8 0, .int .u8 0, .int .u8 0] 27 5) := hK.find n8 g8
    have r8 : ¬ rd' b8 := fun hx => (hrd _ hx).elim (fun hx => refS_kn h _ hx hf8) fun h' => h'.ne_find g8 rfl
    have hE : q.E X = doE X q.op q.fl q.a2 := by rw [Aq.E, if_pos hp]
    have hW : q.W X = doW X q.op q.fl q.a2 q.v := by rw [Aq.W, if_pos hp]
    have hXX : q.X X = doX X q.op q.fl q.a2 q.v := by rw [Aq.X, if_pos hp]
    have hD : q.D X den = doD X q.op q.fl q.a2 den := by rw [Aq.D, if_pos hp]
    rw [doV, ← hE, ← hW]
    rw [← hXX] at hZ'
    rw [← hD] at hS
    clear hh hK hrd hdo hC g8 kC hE hW hXX hD hn_b6 hr_b6 h_b6 hn_b7 hr_b7 h_b7 hn_b8 hr_b8 h_b8 hn_b9 hr_b9 h_b9 hn_b10 hr_b10 h_b10 hn_b12 hr_b12 h_b12 kT
    
    obtain ⟨z, hz⟩ : ∃ z, q.W X = z := ⟨_, rfl⟩
    obtain ⟨e, he⟩ : ∃ e, q.E X = e := ⟨_, rfl⟩
    rw [hz, he]
    have fin : ∀ (vs : List Value) (k14 : ABlk) (b14 : Nat) (u : Value), Fresh A b14 → u = serveV q X → ∃ H', H'.le ((A.set b8 (.cells vs 27 5)).add b14 k14) ∧ ∃ Z' rd', u = serveV q X ∧ Z'.map RF.nf = q.X X ∧ RefS H' b Z' (q.D X den) rd' ∧ Keep H H' (· = b) ∧ ∀ x, rd' x → rd x ∨ Fresh H x := fun vs k14 b14 u h14 hu =>
      ⟨_, AH.le_add (AH.le_refl _) (by rw [find_set, if_neg (h14.ne_find f8)]; exact h14.2), Z', rd', hu, hZ', hS.keep Keep.set (fun x hx e => r8 (e ▸ hx)) (fun e => n8 e.symm), hKA.then Keep.set fun x e => .inr (e ▸ hf8), hrA⟩
    simp (dsimp := false) (maxSteps := 4000000) only [enc_len, enc_scal, lput_enc, take_enc, go_sem, ↓reduceIte, Nat.reduceEqDiff, Nat.reduceLT, Nat.reduceLeDiff, Nat.reduceAdd, Nat.reduceMul, Nat.reduceSub, reduceCtorEq, Int.reduceToNat, Int.reduceLT, Int.reduceLE, Int.reduceEq, Int.reduceNe, Int.reduceBEq, Nat.reduceBEq, Int.reduceBNe, Nat.reduceBNe, Int.reduceAdd, Int.reduceSub, Int.reduceMul, Int.reduceNeg]
    refine AllB.mk fun b14 h_b14 => ?_
    have n14 : ¬ b14 = b8 := h_b14.ne_find f8
    by_cases e0 : e = 0
    · have hd := fun H1 => RefData_c z H1
      unfold dataV at hd
      have hw' : A.wrs b8 0 [.int .u8 z.1, .int .u8 z.2.1, .int .u8 z.2.2.1, .int .u8 z.2.2.2, .int .u8 (chk (rl z))] = some (A.set b8 (.cells [.int .u8 z.1, .int .u8 z.2.1, .int .u8 z.2.2.1, .int .u8 z.2.2.2, .int .u8 (chk (rl z))] 27 5)) := by simp [AH.wrs, f8, lput, scal]
      have hfd : (A.set b8 (.cells [.int .u8 z.1, .int .u8 z.2.1, .int .u8 z.2.2.1, .int .u8 z.2.2.2, .int .u8 (chk (rl z))] 27 5)).find b8 = some (.cells [.int .u8 z.1, .int .u8 z.2.1, .int .u8 z.2.2.1, .int .u8 z.2.2.2, .int .u8 (chk (rl z))] 27 5) := by rw [find_set, if_pos rfl]
      have hr : (A.set b8 (.cells [.int .u8 z.1, .int .u8 z.2.1, .int .u8 z.2.2.1, .int .u8 z.2.2.2, .int .u8 (chk (rl z))] 27 5)).row b8 0 5 = some [.int .u8 z.1, .int .u8 z.2.1, .int .u8 z.2.2.1, .int .u8 z.2.2.2, .int .u8 (chk (rl z))] := row_find hfd (by simp)
      simp (dsimp := false) (maxSteps := 4000000) only [e0, enc_len, enc_scal, lput_enc, take_enc, go_sem, ↓reduceIte, Nat.reduceEqDiff, Nat.reduceLT, Nat.reduceLeDiff, Nat.reduceAdd, Nat.reduceMul, Nat.reduceSub, reduceCtorEq, Int.reduceToNat, Int.reduceLT, Int.reduceLE, Int.reduceEq, Int.reduceNe, Int.reduceBEq, Nat.reduceBEq, Int.reduceBNe, Nat.reduceBNe, Int.reduceAdd, Int.reduceSub, Int.reduceMul, Int.reduceNeg]
      refine (hd _).mono ?_; rintro _ _ ⟨rfl, rfl⟩
      simp (dsimp := false) (maxSteps := 4000000) only [n14, hw', hr, enc_len, enc_scal, lput_enc, take_enc, go_sem, ↓reduceIte, Nat.reduceEqDiff, Nat.reduceLT, Nat.reduceLeDiff, Nat.reduceAdd, Nat.reduceMul, Nat.reduceSub, reduceCtorEq, Int.reduceToNat, Int.reduceLT, Int.reduceLE, Int.reduceEq, Int.reduceNe, Int.reduceBEq, Nat.reduceBEq, Int.reduceBNe, Nat.reduceBNe, Int.reduceAdd, Int.reduceSub, Int.reduceMul, Int.reduceNeg]
      exact fin _ _ _ _ h_b14 (by rw [serveV, if_pos (he.trans e0), hz]; rfl)
    · have hw' : A.wrs b8 0 [.int .u8 0, .int .u8 0, .int .u8 0, .int .u8 0, .int .u8 0] = some (A.set b8 (.cells [.int .u8 0, .int .u8 0, .int .u8 0, .int .u8 0, .int .u8 0] 27 5)) := by simp [AH.wrs, f8, lput, scal]
      have hfd : (A.set b8 (.cells [.int .u8 0, .int .u8 0, .int .u8 0, .int .u8 0, .int .u8 0] 27 5)).find b8 = some (.cells [.int .u8 0, .int .u8 0, .int .u8 0, .int .u8 0, .int .u8 0] 27 5) := by rw [find_set, if_pos rfl]
      have hr : (A.set b8 (.cells [.int .u8 0, .int .u8 0, .int .u8 0, .int .u8 0, .int .u8 0] 27 5)).row b8 0 5 = some [.int .u8 0, .int .u8 0, .int .u8 0, .int .u8 0, .int .u8 0] := row_find hfd (by simp)
      simp (dsimp := false) (maxSteps := 4000000) only [e0, n14, hw', hr, enc_len, enc_scal, lput_enc, take_enc, go_sem, ↓reduceIte, Nat.reduceEqDiff, Nat.reduceLT, Nat.reduceLeDiff, Nat.reduceAdd, Nat.reduceMul, Nat.reduceSub, reduceCtorEq, Int.reduceToNat, Int.reduceLT, Int.reduceLE, Int.reduceEq, Int.reduceNe, Int.reduceBEq, Nat.reduceBEq, Int.reduceBNe, Nat.reduceBNe, Int.reduceAdd, Int.reduceSub, Int.reduceMul, Int.reduceNeg]
      exact fin _ _ _ _ h_b14 (by rw [serveV, if_neg (by rw [he]; exact e0)])
end Go.Proofs.YtamlipffhimfmaaGreatDoor.Srv

/- serve: the reference's Try. -/
namespace Go.Proofs.YtamlipffhimfmaaGreatDoor.Srv
set_option linter.unusedSimpArgs false
set_option linter.unusedVariables false
open Go Go.AX Go.Proofs Ty Go.Proofs.YtamlipffhimfmaaGreatDoor.File Go.Proofs.YtamlipffhimfmaaGreatDoor.Ifs Go.Proofs.YtamlipffhimfmaaGreatDoor.Err
set_option maxHeartbeats 4000000
set_option maxRecDepth 10000

theorem RefTry_c {H : AH} {b : Nat} {Z : List RF} {den : Int} {rd : Nat → Prop} (h : RefS H b Z den rd) (hX : OkX (Z.map RF.nf)) (name to a0 a1 a2 : Int) (v : Rc) (tu : Int → Int) :
    ACalls Tryz.prog 21 #[.pointer (some ⟨b, 0, none⟩), .int .i64 name, .int .i64 to, .agg #[.int .i64 a0, .int .i64 a1, .int .i64 a2], .agg (enc v).toArray, .agg #[.int .u8 (tu 0), .int .u8 (tu 1), .int .u8 (tu 2), .int .u8 (tu 3), .int .u8 (tu 4), .int .u8 (tu 5), .int .u8 (tu 6), .int .u8 (tu 7), .int .u8 (tu 8), .int .u8 (tu 9), .int .u8 (tu 10), .int .u8 (tu 11), .int .u8 (tu 12), .int .u8 (tu 13)]] H (fun u H' => ∃ Z' rd', u = tryV name to a0 a1 a2 v tu (Z.map RF.nf) ∧ Z'.map RF.nf = tryX name to a0 a1 a2 v tu (Z.map RF.nf) ∧ RefS H' b Z' (tryD name to a0 a1 a2 v tu (Z.map RF.nf) den) rd' ∧ Keep H H' (· = b) ∧ ∀ x, rd' x → rd x ∨ Fresh H x) := by
  obtain ⟨X, hXe⟩ : ∃ X, Z.map RF.nf = X := ⟨_, rfl⟩
  have hsv := fun H1 (h1 : RefS H1 b Z den rd) => RefServe_c h1 hX (tryQ name to a0 a1 a2 v tu) (tryQ_ok ..)
  rw [hXe] at hX hsv ⊢
  have hAsk := fun H1 => RefAsk_c to a0 a1 a2 H1
  have hDat := fun H1 => RefData_c v H1
  refine ACalls.enter2 Tryz.func21 rfl Tryz.ntmps21 Tryz.results21 (by simp) ?_; simp (dsimp := false) (maxSteps := 4000000) only [enc_len, enc_scal, lput_enc, take_enc, go_sem, ↓reduceIte, Nat.reduceEqDiff, Nat.reduceLT, Nat.reduceLeDiff, Nat.reduceAdd, Nat.reduceMul, Nat.reduceSub, reduceCtorEq, Int.reduceToNat, Int.reduceLT, Int.reduceLE, Int.reduceEq, Int.reduceNe, Int.reduceBEq, Nat.reduceBEq, Int.reduceBNe, Nat.reduceBNe, Int.reduceAdd, Int.reduceSub, Int.reduceMul, Int.reduceNeg]
  refine AllB.mk fun b9 h_b9 => ?_; have hn_b9 := h_b9; (try simp only [fresh_add, fresh_set, ne_eq] at hn_b9); have hr_b9 := hn_b9; (try simp only [@eq_comm Nat b9] at hr_b9); simp (dsimp := false) (maxSteps := 4000000) only [enc_len, enc_scal, lput_enc, take_enc, hn_b9, hr_b9, go_sem, ↓reduceIte, Nat.reduceEqDiff, Nat.reduceLT, Nat.reduceLeDiff, Nat.reduceAdd, Nat.reduceMul, Nat.reduceSub, reduceCtorEq, Int.reduceToNat, Int.reduceLT, Int.reduceLE, Int.reduceEq, Int.reduceNe, Int.reduceBEq, Nat.reduceBEq, Int.reduceBNe, Nat.reduceBNe, Int.reduceAdd, Int.reduceSub, Int.reduceMul, Int.reduceNeg]
  refine AllB.mk fun b10 h_b10 => ?_; have hn_b10 := h_b10; (try simp only [fresh_add, fresh_set, ne_eq] at hn_b10); have hr_b10 := hn_b10; (try simp only [@eq_comm Nat b10] at hr_b10); simp (dsimp := false) (maxSteps := 4000000) only [enc_len, enc_scal, lput_enc, take_enc, hn_b9, hr_b9, hn_b10, hr_b10, go_sem, ↓reduceIte, Nat.reduceEqDiff, Nat.reduceLT, Nat.reduceLeDiff, Nat.reduceAdd, Nat.reduceMul, Nat.reduceSub, reduceCtorEq, Int.reduceToNat, Int.reduceLT, Int.reduceLE, Int.reduceEq, Int.reduceNe, Int.reduceBEq, Nat.reduceBEq, Int.reduceBNe, Nat.reduceBNe, Int.reduceAdd, Int.reduceSub, Int.reduceMul, Int.reduceNeg]
  refine AllB.mk fun b11 h_b11 => ?_; have hn_b11 := h_b11; (try simp only [fresh_add, fresh_set, ne_eq] at hn_b11); have hr_b11 := hn_b11; (try simp only [@eq_comm Nat b11] at hr_b11); simp (dsimp := false) (maxSteps := 4000000) only [enc_len, enc_scal, lput_enc, take_enc, hn_b9, hr_b9, hn_b10, hr_b10, hn_b11, hr_b11, go_sem, ↓reduceIte, Nat.reduceEqDiff, Nat.reduceLT, Nat.reduceLeDiff, Nat.reduceAdd, Nat.reduceMul, Nat.reduceSub, reduceCtorEq, Int.reduceToNat, Int.reduceLT, Int.reduceLE, Int.reduceEq, Int.reduceNe, Int.reduceBEq, Nat.reduceBEq, Int.reduceBNe, Nat.reduceBNe, Int.reduceAdd, Int.reduceSub, Int.reduceMul, Int.reduceNeg]
  refine AllB.mk fun b12 h_b12 => ?_; have hn_b12 := h_b12; (try simp only [fresh_add, fresh_set, ne_eq] at hn_b12); have hr_b12 := hn_b12; (try simp only [@eq_comm Nat b12] at hr_b12); simp (dsimp := false) (maxSteps := 4000000) only [enc_len, enc_scal, lput_enc, take_enc, hn_b9, hr_b9, hn_b10, hr_b10, hn_b11, hr_b11, hn_b12, hr_b12, go_sem, ↓reduceIte, Nat.reduceEqDiff, Nat.reduceLT, Nat.reduceLeDiff, Nat.reduceAdd, Nat.reduceMul, Nat.reduceSub, reduceCtorEq, Int.reduceToNat, Int.reduceLT, Int.reduceLE, Int.reduceEq, Int.reduceNe, Int.reduceBEq, Nat.reduceBEq, Int.reduceBNe, Nat.reduceBNe, Int.reduceAdd, Int.reduceSub, Int.reduceMul, Int.reduceNeg]
  refine (hAsk _).mono ?_; rintro _ _ ⟨rfl, rfl⟩
  unfold askV
  by_cases ha : askOk to a0 a1 a2
  case' neg =>
    rw [if_neg ha]
    
    simp (dsimp := false) (maxSteps := 4000000) only [enc_len, enc_scal, lput_enc, take_enc, hn_b9, hr_b9, hn_b10, hr_b10, hn_b11, hr_b11, hn_b12, hr_b12, go_sem, ↓reduceIte, Nat.reduceEqDiff, Nat.reduceLT, Nat.reduceLeDiff, Nat.reduceAdd, Nat.reduceMul, Nat.reduceSub, reduceCtorEq, Int.reduceToNat, Int.reduceLT, Int.reduceLE, Int.reduceEq, Int.reduceNe, Int.reduceBEq, Nat.reduceBEq, Int.reduceBNe, Nat.reduceBNe, Int.reduceAdd, Int.reduceSub, Int.reduceMul, Int.reduceNeg]
    refine AllB.mk fun b14 h_b14 => ?_; have hn_b14 := h_b14; (try simp only [fresh_add, fresh_set, ne_eq] at hn_b14); have hr_b14 := hn_b14; (try simp only [@eq_comm Nat b14] at hr_b14); simp (dsimp := false) (maxSteps := 4000000) only [enc_len, enc_scal, lput_enc, take_enc, hn_b9, hr_b9, hn_b10, hr_b10, hn_b11, hr_b11, hn_b12, hr_b12, hn_b14, hr_b14, go_sem, ↓reduceIte, Nat.reduceEqDiff, Nat.reduceLT, Nat.reduceLeDiff, Nat.reduceAdd, Nat.reduceMul, Nat.reduceSub, reduceCtorEq, Int.reduceToNat, Int.reduceLT, Int.reduceLE, Int.reduceEq, Int.reduceNe, Int.reduceBEq, Nat.reduceBEq, Int.reduceBNe, Nat.reduceBNe, Int.reduceAdd, Int.reduceSub, Int.reduceMul, Int.reduceNeg]
    exact ⟨H, (AH.le_add (AH.le_add (AH.le_add (AH.le_add (AH.le_add (AH.le_refl _) ((by simp only [enc_len, enc_scal, lput_enc, take_enc, fresh_add, fresh_set, ne_eq, hn_b9, not_false_eq_true, and_self] : Fresh _ b9).2)) ((by simp only [enc_len, enc_scal, lput_enc, take_enc, fresh_add, fresh_set, ne_eq, hn_b10, not_false_eq_true, and_self] : Fresh _ b10).2)) ((by simp only [enc_len, enc_scal, lput_enc, take_enc, fresh_add, fresh_set, ne_eq, hn_b11, not_false_eq_true, and_self] : Fresh _ b11).2)) ((by simp only [enc_len, enc_scal, lput_enc, take_enc, fresh_add, fresh_set, ne_eq, hn_b12, not_false_eq_true, and_self] : Fresh _ b12).2)) ((by simp only [enc_len, enc_scal, lput_enc, take_enc, fresh_add, fresh_set, ne_eq, hn_b14, not_false_eq_true, and_self] : Fresh _ b14).2)), Z, rd, by rw [tryV, if_neg ha]; rfl, by rw [tryX, if_neg ha, hXe], by rw [tryD, if_neg ha]; exact h, Keep.refl, fun x h => .inl h⟩
    
  rw [if_pos ha]
  simp (dsimp := false) (maxSteps := 4000000) only [enc_len, enc_scal, lput_enc, take_enc, hn_b9, hr_b9, hn_b10, hr_b10, hn_b11, hr_b11, hn_b12, hr_b12, go_sem, ↓reduceIte, Nat.reduceEqDiff, Nat.reduceLT, Nat.reduceLeDiff, Nat.reduceAdd, Nat.reduceMul, Nat.reduceSub, reduceCtorEq, Int.reduceToNat, Int.reduceLT, Int.reduceLE, Int.reduceEq, Int.reduceNe, Int.reduceBEq, Nat.reduceBEq, Int.reduceBNe, Nat.reduceBNe, Int.reduceAdd, Int.reduceSub, Int.reduceMul, Int.reduceNeg]
  refine AllB.mk fun b14 h_b14 => ?_; have hn_b14 := h_b14; (try simp only [fresh_add, fresh_set, ne_eq] at hn_b14); have hr_b14 := hn_b14; (try simp only [@eq_comm Nat b14] at hr_b14); simp (dsimp := false) (maxSteps := 4000000) only [enc_len, enc_scal, lput_enc, take_enc, hn_b9, hr_b9, hn_b10, hr_b10, hn_b11, hr_b11, hn_b12, hr_b12, hn_b14, hr_b14, go_sem, ↓reduceIte, Nat.reduceEqDiff, Nat.reduceLT, Nat.reduceLeDiff, Nat.reduceAdd, Nat.reduceMul, Nat.reduceSub, reduceCtorEq, Int.reduceToNat, Int.reduceLT, Int.reduceLE, Int.reduceEq, Int.reduceNe, Int.reduceBEq, Nat.reduceBEq, Int.reduceBNe, Nat.reduceBNe, Int.reduceAdd, Int.reduceSub, Int.reduceMul, Int.reduceNeg]
  refine (hDat _).mono ?_; rintro _ _ ⟨rfl, rfl⟩
  unfold dataV
  simp (dsimp := false) (maxSteps := 4000000) only [enc_len, enc_scal, lput_enc, take_enc, hn_b9, hr_b9, hn_b10, hr_b10, hn_b11, hr_b11, hn_b12, hr_b12, hn_b14, hr_b14, go_sem, ↓reduceIte, Nat.reduceEqDiff, Nat.reduceLT, Nat.reduceLeDiff, Nat.reduceAdd, Nat.reduceMul, Nat.reduceSub, reduceCtorEq, Int.reduceToNat, Int.reduceLT, Int.reduceLE, Int.reduceEq, Int.reduceNe, Int.reduceBEq, Nat.reduceBEq, Int.reduceBNe, Nat.reduceBNe, Int.reduceAdd, Int.reduceSub, Int.reduceMul, Int.reduceNeg]
  refine AllB.mk fun b16 h_b16 => ?_; have hn_b16 := h_b16; (try simp only [fresh_add, fresh_set, ne_eq] at hn_b16); have hr_b16 := hn_b16; (try simp only [@eq_comm Nat b16] at hr_b16); simp (dsimp := false) (maxSteps := 4000000) only [enc_len, enc_scal, lput_enc, take_enc, hn_b9, hr_b9, hn_b10, hr_b10, hn_b11, hr_b11, hn_b12, hr_b12, hn_b14, hr_b14, hn_b16, hr_b16, go_sem, ↓reduceIte, Nat.reduceEqDiff, Nat.reduceLT, Nat.reduceLeDiff, Nat.reduceAdd, Nat.reduceMul, Nat.reduceSub, reduceCtorEq, Int.reduceToNat, Int.reduceLT, Int.reduceLE, Int.reduceEq, Int.reduceNe, Int.reduceBEq, Nat.reduceBEq, Int.reduceBNe, Nat.reduceBNe, Int.reduceAdd, Int.reduceSub, Int.reduceMul, Int.reduceNeg]
  refine AWp.rounds 5 ?_
  simp (dsimp := false) (maxSteps := 4000000) only [enc_len, enc_scal, lput_enc, take_enc, hn_b9, hr_b9, hn_b10, hr_b10, hn_b11, hr_b11, hn_b12, hr_b12, hn_b14, hr_b14, hn_b16, hr_b16, go_sem, ↓reduceIte, Nat.reduceEqDiff, Nat.reduceLT, Nat.reduceLeDiff, Nat.reduceAdd, Nat.reduceMul, Nat.reduceSub, reduceCtorEq, Int.reduceToNat, Int.reduceLT, Int.reduceLE, Int.reduceEq, Int.reduceNe, Int.reduceBEq, Nat.reduceBEq, Int.reduceBNe, Nat.reduceBNe, Int.reduceAdd, Int.reduceSub, Int.reduceMul, Int.reduceNeg]
  refine AWp.gen [.pu, .pu, .pu, .rd, .pu, .pu, .rd, .pu, .pu, .ch] [0, 0, 2, 6, 0, 16, 48, 126, 255, 511] 0 (_) mixed (by kernel_rfl) (AH.le_refl _) ?_
  simp (dsimp := false) (maxSteps := 4000000) only [enc_len, enc_scal, lput_enc, take_enc, hn_b9, hr_b9, hn_b10, hr_b10, hn_b11, hr_b11, hn_b12, hr_b12, hn_b14, hr_b14, hn_b16, hr_b16, go_sem, ↓reduceIte, Nat.reduceEqDiff, Nat.reduceLT, Nat.reduceLeDiff, Nat.reduceAdd, Nat.reduceMul, Nat.reduceSub, reduceCtorEq, Int.reduceToNat, Int.reduceLT, Int.reduceLE, Int.reduceEq, Int.reduceNe, Int.reduceBEq, Nat.reduceBEq, Int.reduceBNe, Nat.reduceBNe, Int.reduceAdd, Int.reduceSub, Int.reduceMul, Int.reduceNeg]
  refine AWp.gen [.pu, .pu, .pu, .rd, .pu, .pu, .rd, .pu, .pu, .ch] [0, 0, 2, 6, 0, 16, 48, 126, 255, 511] 0 (_) mixed (by kernel_rfl) (AH.le_refl _) ?_
  simp (dsimp := false) (maxSteps := 4000000) only [enc_len, enc_scal, lput_enc, take_enc, hn_b9, hr_b9, hn_b10, hr_b10, hn_b11, hr_b11, hn_b12, hr_b12, hn_b14, hr_b14, hn_b16, hr_b16, go_sem, ↓reduceIte, Nat.reduceEqDiff, Nat.reduceLT, Nat.reduceLeDiff, Nat.reduceAdd, Nat.reduceMul, Nat.reduceSub, reduceCtorEq, Int.reduceToNat, Int.reduceLT, Int.reduceLE, Int.reduceEq, Int.reduceNe, Int.reduceBEq, Nat.reduceBEq, Int.reduceBNe, Nat.reduceBNe, Int.reduceAdd, Int.reduceSub, Int.reduceMul, Int.reduceNeg]
  refine AWp.gen [.pu, .pu, .pu, .rd, .pu, .pu, .rd, .pu, .pu, .ch] [0, 0, 2, 6, 0, 16, 48, 126, 255, 511] 0 (_) mixed (by kernel_rfl) (AH.le_refl _) ?_
  simp (dsimp := false) (maxSteps := 4000000) only [enc_len, enc_scal, lput_enc, take_enc, hn_b9, hr_b9, hn_b10, hr_b10, hn_b11, hr_b11, hn_b12, hr_b12, hn_b14, hr_b14, hn_b16, hr_b16, go_sem, ↓reduceIte, Nat.reduceEqDiff, Nat.reduceLT, Nat.reduceLeDiff, Nat.reduceAdd, Nat.reduceMul, Nat.reduceSub, reduceCtorEq, Int.reduceToNat, Int.reduceLT, Int.reduceLE, Int.reduceEq, Int.reduceNe, Int.reduceBEq, Nat.reduceBEq, Int.reduceBNe, Nat.reduceBNe, Int.reduceAdd, Int.reduceSub, Int.reduceMul, Int.reduceNeg]
  refine AWp.gen [.pu, .pu, .pu, .rd, .pu, .pu, .rd, .pu, .pu, .ch] [0, 0, 2, 6, 0, 16, 48, 126, 255, 511] 0 (_) mixed (by kernel_rfl) (AH.le_refl _) ?_
  simp (dsimp := false) (maxSteps := 4000000) only [enc_len, enc_scal, lput_enc, take_enc, hn_b9, hr_b9, hn_b10, hr_b10, hn_b11, hr_b11, hn_b12, hr_b12, hn_b14, hr_b14, hn_b16, hr_b16, go_sem, ↓reduceIte, Nat.reduceEqDiff, Nat.reduceLT, Nat.reduceLeDiff, Nat.reduceAdd, Nat.reduceMul, Nat.reduceSub, reduceCtorEq, Int.reduceToNat, Int.reduceLT, Int.reduceLE, Int.reduceEq, Int.reduceNe, Int.reduceBEq, Nat.reduceBEq, Int.reduceBNe, Nat.reduceBNe, Int.reduceAdd, Int.reduceSub, Int.reduceMul, Int.reduceNeg]
  refine AWp.rounds 6 ?_
  simp (dsimp := false) (maxSteps := 4000000) only [enc_len, enc_scal, lput_enc, take_enc, hn_b9, hr_b9, hn_b10, hr_b10, hn_b11, hr_b11, hn_b12, hr_b12, hn_b14, hr_b14, hn_b16, hr_b16, go_sem, ↓reduceIte, Nat.reduceEqDiff, Nat.reduceLT, Nat.reduceLeDiff, Nat.reduceAdd, Nat.reduceMul, Nat.reduceSub, reduceCtorEq, Int.reduceToNat, Int.reduceLT, Int.reduceLE, Int.reduceEq, Int.reduceNe, Int.reduceBEq, Nat.reduceBEq, Int.reduceBNe, Nat.reduceBNe, Int.reduceAdd, Int.reduceSub, Int.reduceMul, Int.reduceNeg]
  refine AWp.gen [.pu, .pu, .pu, .rd, .pu, .pu, .pu, .rd, .pu, .pu, .ch] [0, 0, 2, 6, 0, 16, 48, 112, 254, 511, 1023] 0 (_) mixed (by kernel_rfl) (AH.le_refl _) ?_
  simp (dsimp := false) (maxSteps := 4000000) only [enc_len, enc_scal, lput_enc, take_enc, hn_b9, hr_b9, hn_b10, hr_b10, hn_b11, hr_b11, hn_b12, hr_b12, hn_b14, hr_b14, hn_b16, hr_b16, go_sem, ↓reduceIte, Nat.reduceEqDiff, Nat.reduceLT, Nat.reduceLeDiff, Nat.reduceAdd, Nat.reduceMul, Nat.reduceSub, reduceCtorEq, Int.reduceToNat, Int.reduceLT, Int.reduceLE, Int.reduceEq, Int.reduceNe, Int.reduceBEq, Nat.reduceBEq, Int.reduceBNe, Nat.reduceBNe, Int.reduceAdd, Int.reduceSub, Int.reduceMul, Int.reduceNeg]
  refine AWp.gen [.pu, .pu, .pu, .rd, .pu, .pu, .pu, .rd, .pu, .pu, .ch] [0, 0, 2, 6, 0, 16, 48, 112, 254, 511, 1023] 0 (_) mixed (by kernel_rfl) (AH.le_refl _) ?_
  simp (dsimp := false) (maxSteps := 4000000) only [enc_len, enc_scal, lput_enc, take_enc, hn_b9, hr_b9, hn_b10, hr_b10, hn_b11, hr_b11, hn_b12, hr_b12, hn_b14, hr_b14, hn_b16, hr_b16, go_sem, ↓reduceIte, Nat.reduceEqDiff, Nat.reduceLT, Nat.reduceLeDiff, Nat.reduceAdd, Nat.reduceMul, Nat.reduceSub, reduceCtorEq, Int.reduceToNat, Int.reduceLT, Int.reduceLE, Int.reduceEq, Int.reduceNe, Int.reduceBEq, Nat.reduceBEq, Int.reduceBNe, Nat.reduceBNe, Int.reduceAdd, Int.reduceSub, Int.reduceMul, Int.reduceNeg]
  refine AWp.gen [.pu, .pu, .pu, .rd, .pu, .pu, .pu, .rd, .pu, .pu, .ch] [0, 0, 2, 6, 0, 16, 48, 112, 254, 511, 1023] 0 (_) mixed (by kernel_rfl) (AH.le_refl _) ?_
  simp (dsimp := false) (maxSteps := 4000000) only [enc_len, enc_scal, lput_enc, take_enc, hn_b9, hr_b9, hn_b10, hr_b10, hn_b11, hr_b11, hn_b12, hr_b12, hn_b14, hr_b14, hn_b16, hr_b16, go_sem, ↓reduceIte, Nat.reduceEqDiff, Nat.reduceLT, Nat.reduceLeDiff, Nat.reduceAdd, Nat.reduceMul, Nat.reduceSub, reduceCtorEq, Int.reduceToNat, Int.reduceLT, Int.reduceLE, Int.reduceEq, Int.reduceNe, Int.reduceBEq, Nat.reduceBEq, Int.reduceBNe, Nat.reduceBNe, Int.reduceAdd, Int.reduceSub, Int.reduceMul, Int.reduceNeg]
  refine AWp.gen [.pu, .pu, .pu, .rd, .pu, .pu, .pu, .rd, .pu, .pu, .ch] [0, 0, 2, 6, 0, 16, 48, 112, 254, 511, 1023] 0 (_) mixed (by kernel_rfl) (AH.le_refl _) ?_
  simp (dsimp := false) (maxSteps := 4000000) only [enc_len, enc_scal, lput_enc, take_enc, hn_b9, hr_b9, hn_b10, hr_b10, hn_b11, hr_b11, hn_b12, hr_b12, hn_b14, hr_b14, hn_b16, hr_b16, go_sem, ↓reduceIte, Nat.reduceEqDiff, Nat.reduceLT, Nat.reduceLeDiff, Nat.reduceAdd, Nat.reduceMul, Nat.reduceSub, reduceCtorEq, Int.reduceToNat, Int.reduceLT, Int.reduceLE, Int.reduceEq, Int.reduceNe, Int.reduceBEq, Nat.reduceBEq, Int.reduceBNe, Nat.reduceBNe, Int.reduceAdd, Int.reduceSub, Int.reduceMul, Int.reduceNeg]
  refine AWp.gen [.pu, .pu, .pu, .rd, .pu, .pu, .pu, .rd, .pu, .pu, .ch] [0, 0, 2, 6, 0, 16, 48, 112, 254, 511, 1023] 0 (_) mixed (by kernel_rfl) (AH.le_refl _) ?_
  simp (dsimp := false) (maxSteps := 4000000) only [enc_len, enc_scal, lput_enc, take_enc, hn_b9, hr_b9, hn_b10, hr_b10, hn_b11, hr_b11, hn_b12, hr_b12, hn_b14, hr_b14, hn_b16, hr_b16, go_sem, ↓reduceIte, Nat.reduceEqDiff, Nat.reduceLT, Nat.reduceLeDiff, Nat.reduceAdd, Nat.reduceMul, Nat.reduceSub, reduceCtorEq, Int.reduceToNat, Int.reduceLT, Int.reduceLE, Int.reduceEq, Int.reduceNe, Int.reduceBEq, Nat.reduceBEq, Int.reduceBNe, Nat.reduceBNe, Int.reduceAdd, Int.reduceSub, Int.reduceMul, Int.reduceNeg]
  have kT : ∀ {k9 k10 k11 k12 k14 k16 : ABlk}, Keep H ((((((H.add b9 k9).add b10 k10).add b11 k11).add b12 k12).add b14 k14).add b16 k16) fun _ => False := fun {k9 k10 k11 k12 k14 k16} => (((((Keep.refl.nw h_b9).nw (by simp only [fresh_add, ne_eq, hn_b10, not_false_eq_true, and_self])).nw (by simp only [fresh_add, ne_eq, hn_b11, not_false_eq_true, and_self])).nw (by simp only [fresh_add, ne_eq, hn_b12, not_false_eq_true, and_self])).nw (by simp only [fresh_add, ne_eq, hn_b14, not_false_eq_true, and_self])).nw (by simp only [fresh_add, ne_eq, hn_b16, not_false_eq_true, and_self])
  refine (hsv _ (h.keep (ex := fun _ => False) kT (fun _ _ h => h) fun h => h)).mono ?_
  rintro _ A ⟨Z', rd', rfl, hZ', hS, hK, hrd⟩
  obtain ⟨_, _, hb0, _⟩ := id h
  have hf12 : Fresh H b12 := hn_b12.2.2.2
  have hf11 : Fresh H b11 := hn_b11.2.2
  have m12 : b12 ≠ b := hf12.ne_find hb0
  have m11 : b11 ≠ b := hf11.ne_find hb0
  have hHA : Keep H A (· = b) := (kT.mono fun _ h => h.elim).trans hK
  have hrA : ∀ x, rd' x → rd x ∨ Fresh H x := fun x hx => (hrd x hx).imp id fun h => kT.fr h
  have f12 : A.find b12 = some (.cells [.int .u8 0, .int .u8 0, .int .u8 0, .int .u8 0] 26 4) := hK.find m12 (by (show AH.find _ _ = _; simp only [find_add_self, find_add_ne, find_fresh, fresh_add, fresh_set, ne_eq, not_false_eq_true, true_and, and_true, and_self, enc_len, enc_scal, lput_enc, take_enc, hn_b9, hr_b9, hn_b10, hr_b10, hn_b11, hr_b11, hn_b12, hr_b12, hn_b14, hr_b14, hn_b16, hr_b16]))
  have f11 : A.find b11 = some (.cells [.int .u8 (tu 0), .int .u8 (tu 1), .int .u8 (tu 2), .int .u8 (tu 3), .int .u8 (tu 4), .int .u8 (tu 5), .int .u8 (tu 6), .int .u8 (tu 7), .int .u8 (tu 8), .int .u8 (tu 9), .int .u8 (tu 10), .int .u8 (tu 11), .int .u8 (tu 12), .int .u8 (tu 13)] 52 14) := hK.find m11 (by (show AH.find _ _ = _; simp only [find_add_self, find_add_ne, find_fresh, fresh_add, fresh_set, ne_eq, not_false_eq_true, true_and, and_true, and_self, enc_len, enc_scal, lput_enc, take_enc, hn_b9, hr_b9, hn_b10, hr_b10, hn_b11, hr_b11, hn_b12, hr_b12, hn_b14, hr_b14, hn_b16, hr_b16]))
  have r12 : ¬ rd' b12 := fun hx => (hrd _ hx).elim (fun hx => refS_kn h _ hx hf12) fun h' => by
    have := h'.2
    rw [show AH.find _ b12 = some (.cells [.int .u8 0, .int .u8 0, .int .u8 0, .int .u8 0] 26 4) from (by (show AH.find _ _ = _; simp only [find_add_self, find_add_ne, find_fresh, fresh_add, fresh_set, ne_eq, not_false_eq_true, true_and, and_true, and_self, enc_len, enc_scal, lput_enc, take_enc, hn_b9, hr_b9, hn_b10, hr_b10, hn_b11, hr_b11, hn_b12, hr_b12, hn_b14, hr_b14, hn_b16, hr_b16]))] at this; cases this
  have hX' : (tryQ name to a0 a1 a2 v tu).X X = tryX name to a0 a1 a2 v tu X := by rw [tryX, if_pos ha]
  have hD' : (tryQ name to a0 a1 a2 v tu).D X den = tryD name to a0 a1 a2 v tu X den := by rw [tryD, if_pos ha]
  rw [hX'] at hZ'
  rw [hD'] at hS
  have fin : ∀ (vs : List Value) (k19 : ABlk) (b19 : Nat) (u : Value), Fresh A b19 → u = tryV name to a0 a1 a2 v tu X → ∃ H', H'.le ((A.set b12 (.cells vs 26 4)).add b19 k19) ∧ ∃ Z' rd', u = tryV name to a0 a1 a2 v tu X ∧ Z'.map RF.nf = tryX name to a0 a1 a2 v tu X ∧ RefS H' b Z' (tryD name to a0 a1 a2 v tu X den) rd' ∧ Keep H H' (· = b) ∧ ∀ x, rd' x → rd x ∨ Fresh H x := fun vs k19 b19 u h19 hu =>
    ⟨_, AH.le_add (AH.le_refl _) (by rw [find_set, if_neg (h19.ne_find f12)]; exact h19.2), Z', rd', hu, hZ', hS.keep Keep.set (fun x hx e => r12 (e ▸ hx)) (fun e => m12 e.symm), hHA.then Keep.set fun x e => .inr (e ▸ hf12), hrA⟩
  clear hK hrd hsv kT hAsk hDat hn_b9 hr_b9 h_b9 hn_b10 hr_b10 h_b10 hn_b11 hr_b11 h_b11 hn_b12 hr_b12 h_b12 hn_b14 hr_b14 h_b14 hn_b16 hr_b16 h_b16
  
  obtain ⟨q, hq⟩ : ∃ q, tryQ name to a0 a1 a2 v tu = q := ⟨_, rfl⟩
  obtain ⟨w, hw⟩ : ∃ w, q.W X = w := ⟨_, rfl⟩
  rw [hq]
  unfold serveV
  by_cases e0 : q.E X = 0
  case' neg =>
    rw [if_neg e0]
    
    simp (dsimp := false) (maxSteps := 4000000) only [enc_len, enc_scal, lput_enc, take_enc, go_sem, ↓reduceIte, Nat.reduceEqDiff, Nat.reduceLT, Nat.reduceLeDiff, Nat.reduceAdd, Nat.reduceMul, Nat.reduceSub, reduceCtorEq, Int.reduceToNat, Int.reduceLT, Int.reduceLE, Int.reduceEq, Int.reduceNe, Int.reduceBEq, Nat.reduceBEq, Int.reduceBNe, Nat.reduceBNe, Int.reduceAdd, Int.reduceSub, Int.reduceMul, Int.reduceNeg]
    refine AllB.mk fun b19 h_b19 => ?_; have hn_b19 := h_b19; (try simp only [fresh_add, fresh_set, ne_eq] at hn_b19); have hr_b19 := hn_b19; (try simp only [@eq_comm Nat b19] at hr_b19); simp (dsimp := false) (maxSteps := 4000000) only [enc_len, enc_scal, lput_enc, take_enc, hn_b19, hr_b19, go_sem, ↓reduceIte, Nat.reduceEqDiff, Nat.reduceLT, Nat.reduceLeDiff, Nat.reduceAdd, Nat.reduceMul, Nat.reduceSub, reduceCtorEq, Int.reduceToNat, Int.reduceLT, Int.reduceLE, Int.reduceEq, Int.reduceNe, Int.reduceBEq, Nat.reduceBEq, Int.reduceBNe, Nat.reduceBNe, Int.reduceAdd, Int.reduceSub, Int.reduceMul, Int.reduceNeg]
    have n19 : ¬ b19 = b12 := h_b19.ne_find f12
    have hw : A.wrs b12 0 [.int .u8 0, .int .u8 0, .int .u8 0, .int .u8 0] = some (A.set b12 (.cells [.int .u8 0, .int .u8 0, .int .u8 0, .int .u8 0] 26 4)) := by simp [AH.wrs, f12, lput, scal]
    have hfd : (A.set b12 (.cells [.int .u8 0, .int .u8 0, .int .u8 0, .int .u8 0] 26 4)).find b12 = some (.cells [.int .u8 0, .int .u8 0, .int .u8 0, .int .u8 0] 26 4) := by rw [find_set, if_pos rfl]
    have hr : (A.set b12 (.cells [.int .u8 0, .int .u8 0, .int .u8 0, .int .u8 0] 26 4)).row b12 0 4 = some [.int .u8 0, .int .u8 0, .int .u8 0, .int .u8 0] := row_find hfd (by simp)
    simp (dsimp := false) (maxSteps := 4000000) only [n19, hw, hr, enc_len, enc_scal, lput_enc, take_enc, hn_b19, hr_b19, go_sem, ↓reduceIte, Nat.reduceEqDiff, Nat.reduceLT, Nat.reduceLeDiff, Nat.reduceAdd, Nat.reduceMul, Nat.reduceSub, reduceCtorEq, Int.reduceToNat, Int.reduceLT, Int.reduceLE, Int.reduceEq, Int.reduceNe, Int.reduceBEq, Nat.reduceBEq, Int.reduceBNe, Nat.reduceBNe, Int.reduceAdd, Int.reduceSub, Int.reduceMul, Int.reduceNeg]
    exact fin _ _ _ _ h_b19 (by rw [tryV, if_pos ha, hq, tryE, tryW, if_neg e0, if_neg e0]; rfl)
    
  rw [if_pos e0]
  rw [hw]
  unfold dataV
  simp (dsimp := false) (maxSteps := 4000000) only [enc_len, enc_scal, lput_enc, take_enc, go_sem, ↓reduceIte, Nat.reduceEqDiff, Nat.reduceLT, Nat.reduceLeDiff, Nat.reduceAdd, Nat.reduceMul, Nat.reduceSub, reduceCtorEq, Int.reduceToNat, Int.reduceLT, Int.reduceLE, Int.reduceEq, Int.reduceNe, Int.reduceBEq, Nat.reduceBEq, Int.reduceBNe, Nat.reduceBNe, Int.reduceAdd, Int.reduceSub, Int.reduceMul, Int.reduceNeg]
  refine AllB.mk fun b19 h_b19 => ?_; have hn_b19 := h_b19; (try simp only [fresh_add, fresh_set, ne_eq] at hn_b19); have hr_b19 := hn_b19; (try simp only [@eq_comm Nat b19] at hr_b19); simp (dsimp := false) (maxSteps := 4000000) only [enc_len, enc_scal, lput_enc, take_enc, hn_b19, hr_b19, go_sem, ↓reduceIte, Nat.reduceEqDiff, Nat.reduceLT, Nat.reduceLeDiff, Nat.reduceAdd, Nat.reduceMul, Nat.reduceSub, reduceCtorEq, Int.reduceToNat, Int.reduceLT, Int.reduceLE, Int.reduceEq, Int.reduceNe, Int.reduceBEq, Nat.reduceBEq, Int.reduceBNe, Nat.reduceBNe, Int.reduceAdd, Int.reduceSub, Int.reduceMul, Int.reduceNeg]
  have n19 : ¬ b19 = b12 := h_b19.ne_find f12
  have n11 : ¬ b19 = b11 := h_b19.ne_find f11
  have x9 : A.rd ⟨b11, 9, none⟩ = some (.int .u8 (tu 9)) := by rw [rd_find f11]; rfl
  have x10 : A.rd ⟨b11, 10, none⟩ = some (.int .u8 (tu 10)) := by rw [rd_find f11]; rfl
  have x11 : A.rd ⟨b11, 11, none⟩ = some (.int .u8 (tu 11)) := by rw [rd_find f11]; rfl
  have x12 : A.rd ⟨b11, 12, none⟩ = some (.int .u8 (tu 12)) := by rw [rd_find f11]; rfl
  have x13 : A.rd ⟨b11, 13, none⟩ = some (.int .u8 (tu 13)) := by rw [rd_find f11]; rfl
  refine AWp.rounds 6 ?_
  simp (dsimp := false) (maxSteps := 4000000) only [enc_len, enc_scal, lput_enc, take_enc, hn_b19, hr_b19, go_sem, ↓reduceIte, Nat.reduceEqDiff, Nat.reduceLT, Nat.reduceLeDiff, Nat.reduceAdd, Nat.reduceMul, Nat.reduceSub, reduceCtorEq, Int.reduceToNat, Int.reduceLT, Int.reduceLE, Int.reduceEq, Int.reduceNe, Int.reduceBEq, Nat.reduceBEq, Int.reduceBNe, Nat.reduceBNe, Int.reduceAdd, Int.reduceSub, Int.reduceMul, Int.reduceNeg]
  refine AWp.gen [.pu, .pu, .pu, .rd, .pu, .pu, .pu, .rd, .pu, .pu, .ch] [0, 0, 2, 6, 0, 16, 48, 112, 254, 511, 1023] 0 (_) mixed (by kernel_rfl) (AH.le_refl _) ?_
  simp (dsimp := false) (maxSteps := 4000000) only [n11, x9, enc_len, enc_scal, lput_enc, take_enc, hn_b19, hr_b19, go_sem, ↓reduceIte, Nat.reduceEqDiff, Nat.reduceLT, Nat.reduceLeDiff, Nat.reduceAdd, Nat.reduceMul, Nat.reduceSub, reduceCtorEq, Int.reduceToNat, Int.reduceLT, Int.reduceLE, Int.reduceEq, Int.reduceNe, Int.reduceBEq, Nat.reduceBEq, Int.reduceBNe, Nat.reduceBNe, Int.reduceAdd, Int.reduceSub, Int.reduceMul, Int.reduceNeg]
  refine AWp.gen [.pu, .pu, .pu, .rd, .pu, .pu, .pu, .rd, .pu, .pu, .ch] [0, 0, 2, 6, 0, 16, 48, 112, 254, 511, 1023] 0 (_) mixed (by kernel_rfl) (AH.le_refl _) ?_
  simp (dsimp := false) (maxSteps := 4000000) only [n11, x10, enc_len, enc_scal, lput_enc, take_enc, hn_b19, hr_b19, go_sem, ↓reduceIte, Nat.reduceEqDiff, Nat.reduceLT, Nat.reduceLeDiff, Nat.reduceAdd, Nat.reduceMul, Nat.reduceSub, reduceCtorEq, Int.reduceToNat, Int.reduceLT, Int.reduceLE, Int.reduceEq, Int.reduceNe, Int.reduceBEq, Nat.reduceBEq, Int.reduceBNe, Nat.reduceBNe, Int.reduceAdd, Int.reduceSub, Int.reduceMul, Int.reduceNeg]
  refine AWp.gen [.pu, .pu, .pu, .rd, .pu, .pu, .pu, .rd, .pu, .pu, .ch] [0, 0, 2, 6, 0, 16, 48, 112, 254, 511, 1023] 0 (_) mixed (by kernel_rfl) (AH.le_refl _) ?_
  simp (dsimp := false) (maxSteps := 4000000) only [n11, x11, enc_len, enc_scal, lput_enc, take_enc, hn_b19, hr_b19, go_sem, ↓reduceIte, Nat.reduceEqDiff, Nat.reduceLT, Nat.reduceLeDiff, Nat.reduceAdd, Nat.reduceMul, Nat.reduceSub, reduceCtorEq, Int.reduceToNat, Int.reduceLT, Int.reduceLE, Int.reduceEq, Int.reduceNe, Int.reduceBEq, Nat.reduceBEq, Int.reduceBNe, Nat.reduceBNe, Int.reduceAdd, Int.reduceSub, Int.reduceMul, Int.reduceNeg]
  refine AWp.gen [.pu, .pu, .pu, .rd, .pu, .pu, .pu, .rd, .pu, .pu, .ch] [0, 0, 2, 6, 0, 16, 48, 112, 254, 511, 1023] 0 (_) mixed (by kernel_rfl) (AH.le_refl _) ?_
  simp (dsimp := false) (maxSteps := 4000000) only [n11, x12, enc_len, enc_scal, lput_enc, take_enc, hn_b19, hr_b19, go_sem, ↓reduceIte, Nat.reduceEqDiff, Nat.reduceLT, Nat.reduceLeDiff, Nat.reduceAdd, Nat.reduceMul, Nat.reduceSub, reduceCtorEq, Int.reduceToNat, Int.reduceLT, Int.reduceLE, Int.reduceEq, Int.reduceNe, Int.reduceBEq, Nat.reduceBEq, Int.reduceBNe, Nat.reduceBNe, Int.reduceAdd, Int.reduceSub, Int.reduceMul, Int.reduceNeg]
  refine AWp.gen [.pu, .pu, .pu, .rd, .pu, .pu, .pu, .rd, .pu, .pu, .ch] [0, 0, 2, 6, 0, 16, 48, 112, 254, 511, 1023] 0 (_) mixed (by kernel_rfl) (AH.le_refl _) ?_
  simp (dsimp := false) (maxSteps := 4000000) only [n11, x13, enc_len, enc_scal, lput_enc, take_enc, hn_b19, hr_b19, go_sem, ↓reduceIte, Nat.reduceEqDiff, Nat.reduceLT, Nat.reduceLeDiff, Nat.reduceAdd, Nat.reduceMul, Nat.reduceSub, reduceCtorEq, Int.reduceToNat, Int.reduceLT, Int.reduceLE, Int.reduceEq, Int.reduceNe, Int.reduceBEq, Nat.reduceBEq, Int.reduceBNe, Nat.reduceBNe, Int.reduceAdd, Int.reduceSub, Int.reduceMul, Int.reduceNeg]
  have hop := fun H1 => RefOpen_c (backR w tu) (backC w tu) H1
  refine (hop _).mono ?_; rintro _ _ ⟨rfl, rfl⟩
  unfold openV
  by_cases eb : chk (rl (backR w tu)) = backC w tu
  · rw [if_pos eb]
    obtain ⟨z, hz⟩ : ∃ z, backR w tu = z := ⟨_, rfl⟩
    rw [hz]
    have hw' : A.wrs b12 0 (enc z) = some (A.set b12 (.cells (enc z) 26 4)) := by simp [AH.wrs, f12, enc, lput, scal]
    have hfd : (A.set b12 (.cells (enc z) 26 4)).find b12 = some (.cells (enc z) 26 4) := by rw [find_set, if_pos rfl]
    have hr : (A.set b12 (.cells (enc z) 26 4)).row b12 0 4 = some (enc z) := row_find hfd (by simp [enc])
    simp (dsimp := false) (maxSteps := 4000000) only [n19, hw', hr, enc_len, enc_scal, lput_enc, take_enc, hn_b19, hr_b19, go_sem, ↓reduceIte, Nat.reduceEqDiff, Nat.reduceLT, Nat.reduceLeDiff, Nat.reduceAdd, Nat.reduceMul, Nat.reduceSub, reduceCtorEq, Int.reduceToNat, Int.reduceLT, Int.reduceLE, Int.reduceEq, Int.reduceNe, Int.reduceBEq, Nat.reduceBEq, Int.reduceBNe, Nat.reduceBNe, Int.reduceAdd, Int.reduceSub, Int.reduceMul, Int.reduceNeg]
    exact fin _ _ _ _ h_b19 (by rw [tryV, if_pos ha, hq, tryE, tryW, if_pos e0, if_pos e0, hw, if_pos eb, if_pos eb, hz])
  · rw [if_neg eb]
    obtain ⟨z, hz⟩ : ∃ z, zr = z := ⟨_, rfl⟩
    rw [hz]
    have hw' : A.wrs b12 0 (enc z) = some (A.set b12 (.cells (enc z) 26 4)) := by simp [AH.wrs, f12, enc, lput, scal]
    have hfd : (A.set b12 (.cells (enc z) 26 4)).find b12 = some (.cells (enc z) 26 4) := by rw [find_set, if_pos rfl]
    have hr : (A.set b12 (.cells (enc z) 26 4)).row b12 0 4 = some (enc z) := row_find hfd (by simp [enc])
    simp (dsimp := false) (maxSteps := 4000000) only [n19, hw', hr, enc_len, enc_scal, lput_enc, take_enc, hn_b19, hr_b19, go_sem, ↓reduceIte, Nat.reduceEqDiff, Nat.reduceLT, Nat.reduceLeDiff, Nat.reduceAdd, Nat.reduceMul, Nat.reduceSub, reduceCtorEq, Int.reduceToNat, Int.reduceLT, Int.reduceLE, Int.reduceEq, Int.reduceNe, Int.reduceBEq, Nat.reduceBEq, Int.reduceBNe, Nat.reduceBNe, Int.reduceAdd, Int.reduceSub, Int.reduceMul, Int.reduceNeg]
    exact fin _ _ _ _ h_b19 (by rw [tryV, if_pos ha, hq, tryE, tryW, if_pos e0, if_pos e0, hw, if_neg eb, if_neg eb, hz])
end Go.Proofs.YtamlipffhimfmaaGreatDoor.Srv

/- the reference's store: Set. -/
namespace Go.Proofs.YtamlipffhimfmaaGreatDoor.Ifs
set_option linter.unusedSimpArgs false
set_option linter.unusedVariables false
open Go Go.AX Go.Proofs Ty Go.Proofs.YtamlipffhimfmaaGreatDoor.File
set_option maxHeartbeats 4000000
set_option maxRecDepth 10000

end Go.Proofs.YtamlipffhimfmaaGreatDoor.Ifs

/- serve: ServeTries. -/
namespace Go.Proofs.YtamlipffhimfmaaGreatDoor.Srv
set_option linter.unusedSimpArgs false
set_option linter.unusedVariables false
open Go Go.AX Go.Proofs Ty Go.Proofs.YtamlipffhimfmaaGreatDoor.File Go.Proofs.YtamlipffhimfmaaGreatDoor.Ifs Go.Proofs.YtamlipffhimfmaaGreatDoor.Err
set_option maxHeartbeats 4000000
set_option maxRecDepth 10000

/-! ### The map of turned bytes -/
def ki (l : List (Int × Int)) : List (Value × Value) := l.map fun p => (.int .i64 p.1, .int .u8 p.2)
theorem mlk_no {i : Int} : ∀ {l : List (Int × Int)} {n : Nat}, (∀ p ∈ l, p.1 ≠ i) → mlk (.int .i64) (.int .i64 i) (ki l) n = some none
  | [], _, _ => rfl
  | p :: l, n, h => by
    have h1 : ¬ i = p.1 := fun e => h p (List.mem_cons_self ..) e.symm
    have ih := mlk_no (l := l) (n := n + 1) fun q hq => h q (List.mem_cons_of_mem _ hq)
    show mlk _ _ ((Value.int .i64 p.1, Value.int .u8 p.2) :: ki l) n = _
    rw [mlk, same_i, decide_eq_false h1]
    exact ih
theorem mlk_yes {i y : Int} : ∀ {l : List (Int × Int)} {n : Nat}, (∃ p ∈ l, p.1 = i) → (∀ p ∈ l, p.1 = i → p.2 = y) → ∃ k, mlk (.int .i64) (.int .i64 i) (ki l) n = some (some (k, .int .u8 y))
  | [], _, h, _ => by obtain ⟨_, h, _⟩ := h; cases h
  | p :: l, n, h, hy => by
    show ∃ k, mlk _ _ ((Value.int .i64 p.1, Value.int .u8 p.2) :: ki l) n = _
    by_cases e : i = p.1
    · refine ⟨n, ?_⟩
      rw [mlk, same_i, decide_eq_true e, ← hy p (List.mem_cons_self ..) e.symm]
    · obtain ⟨k, hk⟩ := mlk_yes (l := l) (n := n + 1) (by
        obtain ⟨q, hq, e'⟩ := h
        rcases List.mem_cons.1 hq with rfl | hq
        · exact absurd e'.symm e
        · exact ⟨q, hq, e'⟩) fun q hq => hy q (List.mem_cons_of_mem _ hq)
      refine ⟨k, ?_⟩
      rw [mlk, same_i, decide_eq_false e]
      exact hk
/-- The entries behind so many rounds. -/
def ents (tu : Int → Int) : Nat → List (Int × Int)
  | 0 => []
  | i + 1 => if tu i = 0 then ents tu i else ents tu i ++ [((i : Int), tu i)]
theorem ents_mem {tu : Int → Int} {p : Int × Int} : ∀ {i : Nat}, p ∈ ents tu i ↔ ∃ j : Nat, j < i ∧ tu j ≠ 0 ∧ p = ((j : Int), tu j)
  | 0 => by simp [ents]
  | i + 1 => by
    rw [ents]
    split
    · rename_i h0
      rw [ents_mem]
      constructor
      · rintro ⟨j, h1, h2, h3⟩; exact ⟨j, by omega, h2, h3⟩
      · rintro ⟨j, h1, h2, h3⟩
        by_cases e : j = i
        · subst e; exact absurd h0 h2
        · exact ⟨j, by omega, h2, h3⟩
    · rename_i h0
      rw [List.mem_append, ents_mem, List.mem_singleton]
      constructor
      · rintro (⟨j, h1, h2, h3⟩ | h3)
        · exact ⟨j, by omega, h2, h3⟩
        · exact ⟨i, by omega, h0, h3⟩
      · rintro ⟨j, h1, h2, h3⟩
        by_cases e : j = i
        · subst e; exact .inr h3
        · exact .inl ⟨j, by omega, h2, h3⟩
theorem ents_new (tu : Int → Int) (i : Nat) (n : Nat) : mlk (.int .i64) (.int .i64 (i : Int)) (ki (ents tu i)) n = some none := mlk_no fun p hp e => by
  obtain ⟨j, h1, _, rfl⟩ := ents_mem.1 hp
  dsimp only at e
  omega
theorem Mp.ents {H : AH} {bm : Nat} {tu : Int → Int} {n : Nat} (h : H.find bm = some (.amap (ki (ents tu n)))) (ht : ∀ i : Int, i < 0 ∨ (n : Int) ≤ i → tu i = 0) : Mp H (.map (some bm)) tu := by
  refine .inr ⟨bm, _, rfl, h, fun i => ?_⟩
  by_cases e : tu i = 0
  · refine .inl ⟨mlk_no fun p hp ee => ?_, e⟩
    obtain ⟨j, _, h2, rfl⟩ := ents_mem.1 hp
    dsimp only at ee
    rw [ee] at h2
    exact h2 e
  · have hi : 0 ≤ i ∧ i < n := Decidable.byContradiction fun hh => e (ht i (by omega))
    refine .inr (mlk_yes ⟨(i, tu i), ents_mem.2 ⟨i.toNat, by omega, ?_, ?_⟩, rfl⟩ fun p hp ee => ?_)
    · rw [show ((i.toNat : Nat) : Int) = i by omega]; exact e
    · rw [show ((i.toNat : Nat) : Int) = i by omega]
    · obtain ⟨j, _, _, rfl⟩ := ents_mem.1 hp
      dsimp only at ee ⊢
      rw [ee]
theorem row14 (tu : Int → Int) : ∀ i : Nat, i < 14 → ([.int .u8 (tu 0), .int .u8 (tu 1), .int .u8 (tu 2), .int .u8 (tu 3), .int .u8 (tu 4), .int .u8 (tu 5), .int .u8 (tu 6), .int .u8 (tu 7), .int .u8 (tu 8), .int .u8 (tu 9), .int .u8 (tu 10), .int .u8 (tu 11), .int .u8 (tu 12), .int .u8 (tu 13)] : List Value)[i]? = some (.int .u8 (tu i))
  | 0, _ => rfl
  | 1, _ => rfl
  | 2, _ => rfl
  | 3, _ => rfl
  | 4, _ => rfl
  | 5, _ => rfl
  | 6, _ => rfl
  | 7, _ => rfl
  | 8, _ => rfl
  | 9, _ => rfl
  | 10, _ => rfl
  | 11, _ => rfl
  | 12, _ => rfl
  | 13, _ => rfl
  | n + 14, h => by omega
def NfIn (H : AH) (z : RF) : Prop := SlcIn H 4 z.base z.cap (z.R.map enc) ∧ ∀ r ∈ z.R, RcOk r
theorem NfIn.keep {H H' : AH} {z : RF} (h : NfIn H z) (hK : Keep H H' fun _ => False) : NfIn H' z := ⟨h.1.keep hK fun _ _ h => h, h.2⟩
theorem try_val (n to a0 a1 a2 : Int) (v : Rc) (tu : Int → Int) (X : List Nf) : ∃ W E, tryV n to a0 a1 a2 v tu X = .tuple #[.agg (enc W).toArray, .int .i64 E] := by
  by_cases ha : askOk to a0 a1 a2
  · exact ⟨_, _, by rw [tryV, if_pos ha]⟩
  · exact ⟨_, _, by rw [tryV, if_neg ha]⟩
theorem tryX_srt {n to a0 a1 a2 : Int} {v : Rc} {tu : Int → Int} {X : List Nf} (h : Srt X) : Srt (tryX n to a0 a1 a2 v tu X) := by
  rw [tryX]
  split
  · rw [Aq.X]
    split
    · rw [doX]
      split
      · split
        · exact h
        · exact rp_srt h
      · exact h
    · exact h
  · exact h
theorem ServeTries_c (L : List RF) (base : Option Addr) (cap : Nat) (name to a0 a1 a2 : Int) (v : Rc) (tu : Int → Int) (ht : ∀ i : Int, i < 0 ∨ (14 : Int) ≤ i → tu i = 0) (H : AH) (hs : SlcIn H 3 base cap (L.map encN)) (hz : ∀ z ∈ L, NfIn H z) (hE : ErrT H.w0) :
    ACalls Tryz.prog 4 #[.slice base L.length cap, .int .i64 name, .int .i64 to, .agg #[.int .i64 a0, .int .i64 a1, .int .i64 a2], .agg (enc v).toArray, .agg #[.int .u8 (tu 0), .int .u8 (tu 1), .int .u8 (tu 2), .int .u8 (tu 3), .int .u8 (tu 4), .int .u8 (tu 5), .int .u8 (tu 6), .int .u8 (tu 7), .int .u8 (tu 8), .int .u8 (tu 9), .int .u8 (tu 10), .int .u8 (tu 11), .int .u8 (tu 12), .int .u8 (tu 13)]] H (fun v H' => v = .bool true ∧ H = H') := by
  refine ACalls.enter2 Tryz.func4 rfl Tryz.ntmps4 Tryz.results4 (by simp) ?_; simp (dsimp := false) (maxSteps := 4000000) only [enc_len, enc_scal, lput_enc, take_enc, go_sem, ↓reduceIte, Nat.reduceEqDiff, Nat.reduceLT, Nat.reduceLeDiff, Nat.reduceAdd, Nat.reduceMul, Nat.reduceSub, reduceCtorEq, Int.reduceToNat, Int.reduceLT, Int.reduceLE, Int.reduceEq, Int.reduceNe, Int.reduceBEq, Nat.reduceBEq, Int.reduceBNe, Nat.reduceBNe, Int.reduceAdd, Int.reduceSub, Int.reduceMul, Int.reduceNeg]
  refine AllB.mk fun b9 h_b9 => ?_; have hn_b9 := h_b9; (try simp only [fresh_add, fresh_set, ne_eq] at hn_b9); have hr_b9 := hn_b9; (try simp only [@eq_comm Nat b9] at hr_b9); simp (dsimp := false) (maxSteps := 4000000) only [enc_len, enc_scal, lput_enc, take_enc, hn_b9, hr_b9, go_sem, ↓reduceIte, Nat.reduceEqDiff, Nat.reduceLT, Nat.reduceLeDiff, Nat.reduceAdd, Nat.reduceMul, Nat.reduceSub, reduceCtorEq, Int.reduceToNat, Int.reduceLT, Int.reduceLE, Int.reduceEq, Int.reduceNe, Int.reduceBEq, Nat.reduceBEq, Int.reduceBNe, Nat.reduceBNe, Int.reduceAdd, Int.reduceSub, Int.reduceMul, Int.reduceNeg]
  refine AllB.mk fun b10 h_b10 => ?_; have hn_b10 := h_b10; (try simp only [fresh_add, fresh_set, ne_eq] at hn_b10); have hr_b10 := hn_b10; (try simp only [@eq_comm Nat b10] at hr_b10); simp (dsimp := false) (maxSteps := 4000000) only [enc_len, enc_scal, lput_enc, take_enc, hn_b9, hr_b9, hn_b10, hr_b10, go_sem, ↓reduceIte, Nat.reduceEqDiff, Nat.reduceLT, Nat.reduceLeDiff, Nat.reduceAdd, Nat.reduceMul, Nat.reduceSub, reduceCtorEq, Int.reduceToNat, Int.reduceLT, Int.reduceLE, Int.reduceEq, Int.reduceNe, Int.reduceBEq, Nat.reduceBEq, Int.reduceBNe, Nat.reduceBNe, Int.reduceAdd, Int.reduceSub, Int.reduceMul, Int.reduceNeg]
  refine AllB.mk fun b11 h_b11 => ?_; have hn_b11 := h_b11; (try simp only [fresh_add, fresh_set, ne_eq] at hn_b11); have hr_b11 := hn_b11; (try simp only [@eq_comm Nat b11] at hr_b11); simp (dsimp := false) (maxSteps := 4000000) only [enc_len, enc_scal, lput_enc, take_enc, hn_b9, hr_b9, hn_b10, hr_b10, hn_b11, hr_b11, go_sem, ↓reduceIte, Nat.reduceEqDiff, Nat.reduceLT, Nat.reduceLeDiff, Nat.reduceAdd, Nat.reduceMul, Nat.reduceSub, reduceCtorEq, Int.reduceToNat, Int.reduceLT, Int.reduceLE, Int.reduceEq, Int.reduceNe, Int.reduceBEq, Nat.reduceBEq, Int.reduceBNe, Nat.reduceBNe, Int.reduceAdd, Int.reduceSub, Int.reduceMul, Int.reduceNeg]
  obtain ⟨G, hG⟩ : ∃ G, ((H.add b9 (.cells [.int .i64 a0, .int .i64 a1, .int .i64 a2] 24 3)).add b10 (.cells (enc v) 26 4)).add b11 (.cells [.int .u8 (tu 0), .int .u8 (tu 1), .int .u8 (tu 2), .int .u8 (tu 3), .int .u8 (tu 4), .int .u8 (tu 5), .int .u8 (tu 6), .int .u8 (tu 7), .int .u8 (tu 8), .int .u8 (tu 9), .int .u8 (tu 10), .int .u8 (tu 11), .int .u8 (tu 12), .int .u8 (tu 13)] 52 14) = G := ⟨_, rfl⟩
  have kG : Keep H G fun _ => False := hG ▸ ((Keep.refl.nw h_b9).nw (by simp only [fresh_add, ne_eq, hn_b10, not_false_eq_true, and_self])).nw (by simp only [fresh_add, ne_eq, hn_b11, not_false_eq_true, and_self])
  have f9 : G.find b9 = some (.cells [.int .i64 a0, .int .i64 a1, .int .i64 a2] 24 3) := by rw [← hG]; (show AH.find _ _ = _; simp only [find_add_self, find_add_ne, find_fresh, fresh_add, fresh_set, ne_eq, not_false_eq_true, true_and, and_true, and_self, enc_len, enc_scal, lput_enc, take_enc, hn_b9, hr_b9, hn_b10, hr_b10, hn_b11, hr_b11])
  have f10 : G.find b10 = some (.cells (enc v) 26 4) := by rw [← hG]; (show AH.find _ _ = _; simp only [find_add_self, find_add_ne, find_fresh, fresh_add, fresh_set, ne_eq, not_false_eq_true, true_and, and_true, and_self, enc_len, enc_scal, lput_enc, take_enc, hn_b9, hr_b9, hn_b10, hr_b10, hn_b11, hr_b11])
  have f11 : G.find b11 = some (.cells [.int .u8 (tu 0), .int .u8 (tu 1), .int .u8 (tu 2), .int .u8 (tu 3), .int .u8 (tu 4), .int .u8 (tu 5), .int .u8 (tu 6), .int .u8 (tu 7), .int .u8 (tu 8), .int .u8 (tu 9), .int .u8 (tu 10), .int .u8 (tu 11), .int .u8 (tu 12), .int .u8 (tu 13)] 52 14) := by rw [← hG, find_add_self]
  rw [hG]
  clear hG h_b9 hn_b9 hr_b9 h_b10 hn_b10 hr_b10 h_b11 hn_b11 hr_b11
  
  refine (build_c L base cap _ (hs.keep kG fun _ _ h => h) fun z h => (hz z h).keep kG).mono ?_
  rintro _ A ⟨b, br, Z, ft, rd, rfl, hZ, hst, hS, hok, hso, hK, hf, hfr, hd, hdb⟩
  have kA := kG.trans hK
  have n9 : ¬ ft b9 := fun hx => (hf _ hx).ne_find f9 rfl
  have n10 : ¬ ft b10 := fun hx => (hf _ hx).ne_find f10 rfl
  have n11 : ¬ ft b11 := fun hx => (hf _ hx).ne_find f11 rfl
  have m9 : b9 ≠ br := fun e => hfr.ne_find f9 e.symm
  have m10 : b10 ≠ br := fun e => hfr.ne_find f10 e.symm
  have m11 : b11 ≠ br := fun e => hfr.ne_find f11 e.symm
  have f9 := hK.find (fun h => h) f9
  have f10 := hK.find (fun h => h) f10
  have f11 := hK.find (fun h => h) f11
  have hfH : ∀ x, ft x → Fresh H x := fun x hx => kG.fr (hf x hx)
  have hrH : Fresh H br := kG.fr hfr
  clear hK hf hfr
  simp (dsimp := false) (maxSteps := 4000000) only [enc_len, enc_scal, lput_enc, take_enc, go_sem, ↓reduceIte, Nat.reduceEqDiff, Nat.reduceLT, Nat.reduceLeDiff, Nat.reduceAdd, Nat.reduceMul, Nat.reduceSub, reduceCtorEq, Int.reduceToNat, Int.reduceLT, Int.reduceLE, Int.reduceEq, Int.reduceNe, Int.reduceBEq, Nat.reduceBEq, Int.reduceBNe, Nat.reduceBNe, Int.reduceAdd, Int.reduceSub, Int.reduceMul, Int.reduceNeg]
  refine AllB.mk fun bm h_bm => ?_; have hn_bm := h_bm; (try simp only [fresh_add, fresh_set, ne_eq] at hn_bm); have hr_bm := hn_bm; (try simp only [@eq_comm Nat bm] at hr_bm); simp (dsimp := false) (maxSteps := 4000000) only [enc_len, enc_scal, lput_enc, take_enc, hn_bm, hr_bm, go_sem, ↓reduceIte, Nat.reduceEqDiff, Nat.reduceLT, Nat.reduceLeDiff, Nat.reduceAdd, Nat.reduceMul, Nat.reduceSub, reduceCtorEq, Int.reduceToNat, Int.reduceLT, Int.reduceLE, Int.reduceEq, Int.reduceNe, Int.reduceBEq, Nat.reduceBEq, Int.reduceBNe, Nat.reduceBNe, Int.reduceAdd, Int.reduceSub, Int.reduceMul, Int.reduceNeg]
  have hrw : ∀ i : Nat, i < 14 → A.rd ⟨b11, i, none⟩ = some (.int .u8 (tu i)) := fun i hi => by rw [rd_find f11]; exact row14 tu i hi
  have nm : ¬ bm = b11 := h_bm.ne_find f11
  refine AWp.loopo (ι := Nat) (fun i => i ≤ 14) (fun i => [(16, .int .i64 i), (11, .pointer (some ⟨b11, 0, none⟩)), (15, .map (some bm)), (13, .pointer (some ⟨b, 0, none⟩)), (14, .pointer (some ⟨br, 0, none⟩)), (0, .slice base L.length cap), (9, .pointer (some ⟨b9, 0, none⟩)), (10, .pointer (some ⟨b10, 0, none⟩)), (1, .int .i64 name), (2, .int .i64 to), (12, .bool false)]) (fun i => A.add bm (.amap (ki (ents tu i)))) (fun i => 14 - i) 0 (by omega) (FrLe.of_lks ?_) (AH.le_refl _) fun i hi Q again out => ?_
  · simp (dsimp := false) (maxSteps := 4000000) only [enc_len, enc_scal, lput_enc, take_enc, hn_bm, hr_bm, go_sem, ↓reduceIte, Nat.reduceEqDiff, Nat.reduceLT, Nat.reduceLeDiff, Nat.reduceAdd, Nat.reduceMul, Nat.reduceSub, reduceCtorEq, Int.reduceToNat, Int.reduceLT, Int.reduceLE, Int.reduceEq, Int.reduceNe, Int.reduceBEq, Nat.reduceBEq, Int.reduceBNe, Nat.reduceBNe, Int.reduceAdd, Int.reduceSub, Int.reduceMul, Int.reduceNeg]
  by_cases hlt : (i : Int) < 14
  · have ee := i64_succ (i := i) (by omega)
    have hi0 : (0 : Int) ≤ (i : Int) := by omega
    have rx := hrw i (by omega)
    by_cases t0 : tu i = 0
    · have e1 : ents tu (i + 1) = ents tu i := by rw [ents, if_pos t0]
      simp (dsimp := false) (maxSteps := 4000000) only [hlt, hi0, rx, nm, t0, ee, enc_len, enc_scal, lput_enc, take_enc, hn_bm, hr_bm, go_sem, ↓reduceIte, Nat.reduceEqDiff, Nat.reduceLT, Nat.reduceLeDiff, Nat.reduceAdd, Nat.reduceMul, Nat.reduceSub, reduceCtorEq, Int.reduceToNat, Int.reduceLT, Int.reduceLE, Int.reduceEq, Int.reduceNe, Int.reduceBEq, Nat.reduceBEq, Int.reduceBNe, Nat.reduceBNe, Int.reduceAdd, Int.reduceSub, Int.reduceMul, Int.reduceNeg]
      rw [← e1]
      exact again (i + 1) _ _ (by omega) (FrLe.of_lks (by simp (dsimp := false) (maxSteps := 4000000) only [enc_len, enc_scal, lput_enc, take_enc, hn_bm, hr_bm, go_sem, ↓reduceIte, Nat.reduceEqDiff, Nat.reduceLT, Nat.reduceLeDiff, Nat.reduceAdd, Nat.reduceMul, Nat.reduceSub, reduceCtorEq, Int.reduceToNat, Int.reduceLT, Int.reduceLE, Int.reduceEq, Int.reduceNe, Int.reduceBEq, Nat.reduceBEq, Int.reduceBNe, Nat.reduceBNe, Int.reduceAdd, Int.reduceSub, Int.reduceMul, Int.reduceNeg])) (AH.le_refl _) (by omega)
    · have e1 : ki (ents tu i) ++ [(.int .i64 i, .int .u8 (tu i))] = ki (ents tu (i + 1)) := by rw [ents, if_neg t0, ki, ki, List.map_append]; rfl
      simp (dsimp := false) (maxSteps := 4000000) only [hlt, hi0, rx, nm, t0, ee, ents_new, mput, e1, enc_len, enc_scal, lput_enc, take_enc, hn_bm, hr_bm, go_sem, ↓reduceIte, Nat.reduceEqDiff, Nat.reduceLT, Nat.reduceLeDiff, Nat.reduceAdd, Nat.reduceMul, Nat.reduceSub, reduceCtorEq, Int.reduceToNat, Int.reduceLT, Int.reduceLE, Int.reduceEq, Int.reduceNe, Int.reduceBEq, Nat.reduceBEq, Int.reduceBNe, Nat.reduceBNe, Int.reduceAdd, Int.reduceSub, Int.reduceMul, Int.reduceNeg]
      exact again (i + 1) _ _ (by omega) (FrLe.of_lks (by simp (dsimp := false) (maxSteps := 4000000) only [enc_len, enc_scal, lput_enc, take_enc, hn_bm, hr_bm, go_sem, ↓reduceIte, Nat.reduceEqDiff, Nat.reduceLT, Nat.reduceLeDiff, Nat.reduceAdd, Nat.reduceMul, Nat.reduceSub, reduceCtorEq, Int.reduceToNat, Int.reduceLT, Int.reduceLE, Int.reduceEq, Int.reduceNe, Int.reduceBEq, Nat.reduceBEq, Int.reduceBNe, Nat.reduceBNe, Int.reduceAdd, Int.reduceSub, Int.reduceMul, Int.reduceNeg])) (AH.le_refl _) (by omega)
  · obtain rfl : i = 14 := by omega
    have hM : Mp (A.add bm (.amap (ki (ents tu 14)))) (.map (some bm)) tu := Mp.ents (n := 14) (find_add_self _ _ _) ht
    obtain ⟨D, hD⟩ : ∃ D, A.add bm (.amap (ki (ents tu 14))) = D := ⟨_, rfl⟩
    have kD : Keep A D fun _ => False := hD ▸ Keep.add h_bm
    have mm : ¬ ft bm := hst.fresh h_bm
    have hb : ¬ rd bm := fun hx => by
      obtain ⟨_, _, _, _, _, _, hkn⟩ := hS
      exact hkn _ hx h_bm
    simp (dsimp := false) (maxSteps := 4000000) only [hlt, enc_len, enc_scal, lput_enc, take_enc, hn_bm, hr_bm, go_sem, ↓reduceIte, Nat.reduceEqDiff, Nat.reduceLT, Nat.reduceLeDiff, Nat.reduceAdd, Nat.reduceMul, Nat.reduceSub, reduceCtorEq, Int.reduceToNat, Int.reduceLT, Int.reduceLE, Int.reduceEq, Int.reduceNe, Int.reduceBEq, Nat.reduceBEq, Int.reduceBNe, Nat.reduceBNe, Int.reduceAdd, Int.reduceSub, Int.reduceMul, Int.reduceNeg]
    refine out _ _ _ (by simp) ?_
    rw [hD] at hM ⊢
    clear hD h_bm hn_bm hr_bm hrw nm out again
    
    have hst := hst.keep kD fun _ _ h => h
    have hS := hS.keep kD (fun _ _ h => h) fun h => h
    have f9 := kD.find (fun h => h) f9
    have f10 := kD.find (fun h => h) f10
    have f11 := kD.find (fun h => h) f11
    have kHD := kA.trans kD
    have w9 : D.row b9 0 3 = some [.int .i64 a0, .int .i64 a1, .int .i64 a2] := row_find f9 (by simp)
    have w10 : D.row b10 0 4 = some (enc v) := row_find f10 (by simp [enc])
    simp (dsimp := false) (maxSteps := 4000000) only [w9, w10, enc_len, enc_scal, lput_enc, take_enc, go_sem, ↓reduceIte, Nat.reduceEqDiff, Nat.reduceLT, Nat.reduceLeDiff, Nat.reduceAdd, Nat.reduceMul, Nat.reduceSub, reduceCtorEq, Int.reduceToNat, Int.reduceLT, Int.reduceLE, Int.reduceEq, Int.reduceNe, Int.reduceBEq, Nat.reduceBEq, Int.reduceBNe, Nat.reduceBNe, Int.reduceAdd, Int.reduceSub, Int.reduceMul, Int.reduceNeg]
    have htr := Try_c (by rw [kHD.w0]; exact hE) hst hok name to a0 a1 a2 v (.map (some bm)) tu hM (fun _ h => by cases h; exact mm)
    refine htr.mono ?_
    rintro _ E ⟨ft1, rfl, hs1, hKE, hfE⟩
    have kHE := kHD.ow hKE hfH
    have hS := hS.keep hKE hd hdb
    have hd1 : ∀ x, rd x → ¬ ft1 x := fun x hx hx' => (hfE x hx').elim (hd x hx) fun h => by
      obtain ⟨_, _, _, _, _, _, hkn⟩ := ‹RefS D br Z 0 rd›
      exact hkn _ hx h
    have hdb1 : ¬ ft1 br := fun hx => (hfE _ hx).elim hdb fun h => by
      obtain ⟨_, _, hb0, _⟩ := ‹RefS D br Z 0 rd›
      exact h.ne_find hb0 rfl
    have f9 := hKE.find n9 f9
    have f10 := hKE.find n10 f10
    have f11 := hKE.find n11 f11
    have hfH1 : ∀ x, ft1 x → Fresh H x := fun x hx => (hfE x hx).elim (hfH x) fun h => kHD.fr h
    have hso1 : Srt (tryX name to a0 a1 a2 v tu (Z.map RF.nf)) := tryX_srt hso
    have hok1 : OkX (tryX name to a0 a1 a2 v tu (Z.map RF.nf)) := tryX_ok hok
    have hrt := fun H1 (h1 : RefS H1 br Z 0 rd) => RefTry_c h1 hok name to a0 a1 a2 v tu
    obtain ⟨W, e, hv⟩ := try_val name to a0 a1 a2 v tu (Z.map RF.nf)
    obtain ⟨P, hP⟩ : ∃ P, tryX name to a0 a1 a2 v tu (Z.map RF.nf) = P := ⟨_, rfl⟩
    obtain ⟨dn, hdn⟩ : ∃ dn, tryD name to a0 a1 a2 v tu (Z.map RF.nf) 0 = dn := ⟨_, rfl⟩
    rw [hv]
    rw [hv, hP, hdn] at hrt
    rw [hP] at hso1 hok1
    rw [hP, hdn] at hs1
    clear htr hM mm kD hKE hfE hdb hd n9 n10 n11 w9 w10 hv hP hdn hst hso hok
    simp (dsimp := false) (maxSteps := 4000000) only [enc_len, enc_scal, lput_enc, take_enc, go_sem, ↓reduceIte, Nat.reduceEqDiff, Nat.reduceLT, Nat.reduceLeDiff, Nat.reduceAdd, Nat.reduceMul, Nat.reduceSub, reduceCtorEq, Int.reduceToNat, Int.reduceLT, Int.reduceLE, Int.reduceEq, Int.reduceNe, Int.reduceBEq, Nat.reduceBEq, Int.reduceBNe, Nat.reduceBNe, Int.reduceAdd, Int.reduceSub, Int.reduceMul, Int.reduceNeg]
    refine AllB.mk fun b17 h_b17 => ?_; have hn_b17 := h_b17; (try simp only [fresh_add, fresh_set, ne_eq] at hn_b17); have hr_b17 := hn_b17; (try simp only [@eq_comm Nat b17] at hr_b17); simp (dsimp := false) (maxSteps := 4000000) only [enc_len, enc_scal, lput_enc, take_enc, hn_b17, hr_b17, go_sem, ↓reduceIte, Nat.reduceEqDiff, Nat.reduceLT, Nat.reduceLeDiff, Nat.reduceAdd, Nat.reduceMul, Nat.reduceSub, reduceCtorEq, Int.reduceToNat, Int.reduceLT, Int.reduceLE, Int.reduceEq, Int.reduceNe, Int.reduceBEq, Nat.reduceBEq, Int.reduceBNe, Nat.reduceBNe, Int.reduceAdd, Int.reduceSub, Int.reduceMul, Int.reduceNeg]
    obtain ⟨F, hF⟩ : ∃ F, E.add b17 (.cells (enc W) 26 4) = F := ⟨_, rfl⟩
    have kF : Keep E F fun _ => False := hF ▸ Keep.add h_b17
    have f17 : F.find b17 = some (.cells (enc W) 26 4) := by rw [← hF, find_add_self]
    have n17 : b17 ≠ br := by
      obtain ⟨_, _, hb0, _⟩ := ‹RefS E br Z 0 rd›
      exact h_b17.ne_find hb0
    rw [hF]
    clear hF h_b17 hn_b17 hr_b17
    
    have hs1 := hs1.keep kF fun _ _ h => h
    have hS := hS.keep kF (fun _ _ h => h) fun h => h
    have f9 := kF.find (fun h => h) f9
    have f10 := kF.find (fun h => h) f10
    have f11 := kF.find (fun h => h) f11
    have kHF := kHE.trans kF
    have w9 : F.row b9 0 3 = some [.int .i64 a0, .int .i64 a1, .int .i64 a2] := row_find f9 (by simp)
    have w10 : F.row b10 0 4 = some (enc v) := row_find f10 (by simp [enc])
    have w11 : F.row b11 0 14 = some [.int .u8 (tu 0), .int .u8 (tu 1), .int .u8 (tu 2), .int .u8 (tu 3), .int .u8 (tu 4), .int .u8 (tu 5), .int .u8 (tu 6), .int .u8 (tu 7), .int .u8 (tu 8), .int .u8 (tu 9), .int .u8 (tu 10), .int .u8 (tu 11), .int .u8 (tu 12), .int .u8 (tu 13)] := row_find f11 (by simp)
    simp (dsimp := false) (maxSteps := 4000000) only [w9, w10, w11, enc_len, enc_scal, lput_enc, take_enc, go_sem, ↓reduceIte, Nat.reduceEqDiff, Nat.reduceLT, Nat.reduceLeDiff, Nat.reduceAdd, Nat.reduceMul, Nat.reduceSub, reduceCtorEq, Int.reduceToNat, Int.reduceLT, Int.reduceLE, Int.reduceEq, Int.reduceNe, Int.reduceBEq, Nat.reduceBEq, Int.reduceBNe, Nat.reduceBNe, Int.reduceAdd, Int.reduceSub, Int.reduceMul, Int.reduceNeg]
    refine (hrt _ hS).mono ?_
    rintro _ I ⟨Z', rd', rfl, hZ', hS', hKI, hrd'⟩
    have kHI := kHF.ow hKI fun x e => e ▸ hrH
    have hs1 := hs1.keep hKI fun x hx e => hdb1 (e ▸ hx)
    have f17 := hKI.find n17 f17
    clear hrt w9 w10 w11 hKI hrd' hS f9 f10 f11 m9 m10 m11
    simp (dsimp := false) (maxSteps := 4000000) only [enc_len, enc_scal, lput_enc, take_enc, go_sem, ↓reduceIte, Nat.reduceEqDiff, Nat.reduceLT, Nat.reduceLeDiff, Nat.reduceAdd, Nat.reduceMul, Nat.reduceSub, reduceCtorEq, Int.reduceToNat, Int.reduceLT, Int.reduceLE, Int.reduceEq, Int.reduceNe, Int.reduceBEq, Nat.reduceBEq, Int.reduceBNe, Nat.reduceBNe, Int.reduceAdd, Int.reduceSub, Int.reduceMul, Int.reduceNeg]
    refine AllB.mk fun b19 h_b19 => ?_; have hn_b19 := h_b19; (try simp only [fresh_add, fresh_set, ne_eq] at hn_b19); have hr_b19 := hn_b19; (try simp only [@eq_comm Nat b19] at hr_b19); simp (dsimp := false) (maxSteps := 4000000) only [enc_len, enc_scal, lput_enc, take_enc, hn_b19, hr_b19, go_sem, ↓reduceIte, Nat.reduceEqDiff, Nat.reduceLT, Nat.reduceLeDiff, Nat.reduceAdd, Nat.reduceMul, Nat.reduceSub, reduceCtorEq, Int.reduceToNat, Int.reduceLT, Int.reduceLE, Int.reduceEq, Int.reduceNe, Int.reduceBEq, Nat.reduceBEq, Int.reduceBNe, Nat.reduceBNe, Int.reduceAdd, Int.reduceSub, Int.reduceMul, Int.reduceNeg]
    obtain ⟨J, hJ⟩ : ∃ J, I.add b19 (.cells (enc W) 26 4) = J := ⟨_, rfl⟩
    have kJ : Keep I J fun _ => False := hJ ▸ Keep.add h_b19
    have f19 : J.find b19 = some (.cells (enc W) 26 4) := by rw [← hJ, find_add_self]
    rw [hJ]
    clear hJ h_b19 hn_b19 hr_b19
    
    have hs1 := hs1.keep kJ fun _ _ h => h
    have hS' := hS'.keep kJ (fun _ _ h => h) fun h => h
    have f17 := kJ.find (fun h => h) f17
    have kHJ := kHI.trans kJ
    have hEJ : ErrT J.w0 := by rw [kHJ.w0]; exact hE
    have w17 : J.row b17 0 4 = some (enc W) := row_find f17 (by simp [enc])
    have w19 : J.row b19 0 4 = some (enc W) := row_find f19 (by simp [enc])
    obtain ⟨zb, zc, hbr, hN, _⟩ := id hS'
    have r0 : J.rd ⟨br, 0, none⟩ = some (.slice zb Z'.length zc) := by rw [rd_find hbr]; rfl
    have r1 : J.rd ⟨br, 1, none⟩ = some (.int .i64 dn) := by rw [rd_find hbr]; rfl
    obtain ⟨w0, w1, w2, w3⟩ := W
    have eV : enc (w0, w1, w2, w3) = [.int .u8 w0, .int .u8 w1, .int .u8 w2, .int .u8 w3] := Eq.trans rfl rfl
    refine AWp.gen [.ch, .pu, .rd, .rd, .pu, .pu, .pu, .pu, .pu, .pu, .pu, .pu, .pu, .ch, .pu, .pu, .pu, .rd, .ch, .pu, .pu, .pu, .ch, .pu, .pu, .pu, .rd, .pu, .pu, .pu] [0, 1, 3, 3, 15, 31, 63, 127, 127, 511, 1023, 2047, 4095, 8191, 4095, 20479, 53247, 118783, 262143, 524287, 1048575, 2097151, 4194303, 2097151, 10485759, 27262975, 60817407, 134217727, 268435455, 536870911] 23 (_) mixed (by kernel_rfl) (AH.le_refl _) ?_
    simp (dsimp := false) (maxSteps := 4000000) only [enc_len, enc_scal, lput_enc, take_enc, go_sem, ↓reduceIte, Nat.reduceEqDiff, Nat.reduceLT, Nat.reduceLeDiff, Nat.reduceAdd, Nat.reduceMul, Nat.reduceSub, reduceCtorEq, Int.reduceToNat, Int.reduceLT, Int.reduceLE, Int.reduceEq, Int.reduceNe, Int.reduceBEq, Nat.reduceBEq, Int.reduceBNe, Nat.reduceBNe, Int.reduceAdd, Int.reduceSub, Int.reduceMul, Int.reduceNeg]
    refine (awake_c _ hEJ).mono ?_; rintro _ _ ⟨rfl, rfl⟩
    simp (dsimp := false) (maxSteps := 4000000) only [w17, w19, eV, r0, r1, enc_len, enc_scal, lput_enc, take_enc, go_sem, ↓reduceIte, Nat.reduceEqDiff, Nat.reduceLT, Nat.reduceLeDiff, Nat.reduceAdd, Nat.reduceMul, Nat.reduceSub, reduceCtorEq, Int.reduceToNat, Int.reduceLT, Int.reduceLE, Int.reduceEq, Int.reduceNe, Int.reduceBEq, Nat.reduceBEq, Int.reduceBNe, Nat.reduceBNe, Int.reduceAdd, Int.reduceSub, Int.reduceMul, Int.reduceNeg]
    refine (Files_c hs1 hok1).mono ?_
    rintro _ M ⟨db, dc, Z2, r2, rfl, hp2, hso2, hN2, hKM, _⟩
    have r0M : M.rd ⟨br, 0, none⟩ = some (.slice zb Z'.length zc) := by rw [rd_find (hKM.find (fun h => h) hbr)]; rfl
    have r1M : M.rd ⟨br, 1, none⟩ = some (.int .i64 dn) := by rw [rd_find (hKM.find (fun h => h) hbr)]; rfl
    have e2 : Z2.map RF.nf = Z'.map RF.nf := by rw [hZ']; exact Srt.uniq hp2 hso2 hso1
    simp (dsimp := false) (maxSteps := 4000000) only [enc_len, enc_scal, lput_enc, take_enc, go_sem, ↓reduceIte, Nat.reduceEqDiff, Nat.reduceLT, Nat.reduceLeDiff, Nat.reduceAdd, Nat.reduceMul, Nat.reduceSub, reduceCtorEq, Int.reduceToNat, Int.reduceLT, Int.reduceLE, Int.reduceEq, Int.reduceNe, Int.reduceBEq, Nat.reduceBEq, Int.reduceBNe, Nat.reduceBNe, Int.reduceAdd, Int.reduceSub, Int.reduceMul, Int.reduceNeg]
    refine ⟨hKM.all, ?_⟩
    simp (dsimp := false) (maxSteps := 4000000) only [r0, r1, enc_len, enc_scal, lput_enc, take_enc, go_sem, ↓reduceIte, Nat.reduceEqDiff, Nat.reduceLT, Nat.reduceLeDiff, Nat.reduceAdd, Nat.reduceMul, Nat.reduceSub, reduceCtorEq, Int.reduceToNat, Int.reduceLT, Int.reduceLE, Int.reduceEq, Int.reduceNe, Int.reduceBEq, Nat.reduceBEq, Int.reduceBNe, Nat.reduceBNe, Int.reduceAdd, Int.reduceSub, Int.reduceMul, Int.reduceNeg]
    refine (Same_c hN2 (hN.keep hKM fun _ _ h => h)).mono ?_
    rintro _ _ ⟨rfl, rfl⟩
    rw [decide_eq_true e2]
    simp (dsimp := false) (maxSteps := 4000000) only [r0, r1, enc_len, enc_scal, lput_enc, take_enc, go_sem, ↓reduceIte, Nat.reduceEqDiff, Nat.reduceLT, Nat.reduceLeDiff, Nat.reduceAdd, Nat.reduceMul, Nat.reduceSub, reduceCtorEq, Int.reduceToNat, Int.reduceLT, Int.reduceLE, Int.reduceEq, Int.reduceNe, Int.reduceBEq, Nat.reduceBEq, Int.reduceBNe, Nat.reduceBNe, Int.reduceAdd, Int.reduceSub, Int.reduceMul, Int.reduceNeg]
    refine ⟨hKM.all, ?_⟩
    refine (Denied_c (hs1.keep hKM fun _ _ h => h)).mono ?_; rintro _ _ ⟨rfl, rfl⟩
    simp (dsimp := false) (maxSteps := 4000000) only [r0, r1, enc_len, enc_scal, lput_enc, take_enc, go_sem, ↓reduceIte, Nat.reduceEqDiff, Nat.reduceLT, Nat.reduceLeDiff, Nat.reduceAdd, Nat.reduceMul, Nat.reduceSub, reduceCtorEq, Int.reduceToNat, Int.reduceLT, Int.reduceLE, Int.reduceEq, Int.reduceNe, Int.reduceBEq, Nat.reduceBEq, Int.reduceBNe, Nat.reduceBNe, Int.reduceAdd, Int.reduceSub, Int.reduceMul, Int.reduceNeg]
    exact ⟨hKM.all, H, (kHJ.trans hKM).all, rfl⟩
def tuL (l : List Int) (i : Int) : Int := if 0 ≤ i ∧ i < 14 then l.getD i.toNat 0 else 0
theorem ServeTries_d (L : List RF) (base : Option Addr) (cap : Nat) (name to a0 a1 a2 : Int) (v : Rc) (x0 x1 x2 x3 x4 x5 x6 x7 x8 x9 x10 x11 x12 x13 : Int) (H : AH) (hs : SlcIn H 3 base cap (L.map encN)) (hz : ∀ z ∈ L, NfIn H z) (hE : ErrT H.w0) :
    ACalls Tryz.prog 4 #[.slice base L.length cap, .int .i64 name, .int .i64 to, .agg #[.int .i64 a0, .int .i64 a1, .int .i64 a2], .agg (enc v).toArray, .agg #[.int .u8 x0, .int .u8 x1, .int .u8 x2, .int .u8 x3, .int .u8 x4, .int .u8 x5, .int .u8 x6, .int .u8 x7, .int .u8 x8, .int .u8 x9, .int .u8 x10, .int .u8 x11, .int .u8 x12, .int .u8 x13]] H (fun v H' => v = .bool true ∧ H = H') := by
  have h := ServeTries_c L base cap name to a0 a1 a2 v (tuL [x0, x1, x2, x3, x4, x5, x6, x7, x8, x9, x10, x11, x12, x13]) (fun i hi => by rw [tuL, if_neg (by omega)]) H hs hz hE
  exact h
end Go.Proofs.YtamlipffhimfmaaGreatDoor.Srv

/- serve: a list of named files among the arguments. -/
namespace Go.Proofs.YtamlipffhimfmaaGreatDoor.Srv
set_option linter.unusedSimpArgs false
set_option linter.unusedVariables false
open Go Go.AX Go.ChangeShapes Go.WideShapes Go.ChangeAt Go.RowKit Go.Proofs.YtamlipffhimfmaaGreatDoor.File Go.Proofs.YtamlipffhimfmaaGreatDoor.Ifs
set_option maxRecDepth 100000

theorem u8_wf {x : Int} (h : (Lit.int .u8 x).wf = true) : 0 ≤ x ∧ x ≤ 255 := by
  simp [Lit.wf, IntKind.min, IntKind.max, IntKind.signed, IntKind.bits] at h
  omega
theorem open_named {HT : Type} {ec : TypeId × Value → HT} {W : World} {sp : Nat → Bool} {held : Bool} {cs : List Value} (hl : cs.length = 3) (hc : Leafy ec Tryz.prog W 0 sp held [3, 3, 70] cs) :
    ∃ z : RF, cs = encN z ∧ NfIn ⟨W, []⟩ z := by
  obtain ⟨c0, c1, c2, rfl⟩ := list3 hl
  obtain ⟨_, _, t0⟩ := hc 0 _ _ rfl rfl
  obtain ⟨a0, q0, _, w0⟩ := DataW.trod_int Tryz.underlying3 t0; cases q0
  obtain ⟨_, _, t1⟩ := hc 1 _ _ rfl rfl
  obtain ⟨a1, q1, _, w1⟩ := DataW.trod_int Tryz.underlying3 t1; cases q1
  obtain ⟨_, _, t2⟩ := hc 2 _ _ rfl rfl
  obtain ⟨b, n, cp, R, rfl, hlR, hs, hR⟩ := open_slcT (P := Tryz.prog) (sz := 4) Tryz.underlying70 (by kernel_rfl) (by simp) (show leafTs Tryz.prog 20 26 = some [5, 5, 5, 5] by kernel_rfl) rfl ⟨_, t2⟩
  obtain ⟨L, rfl, hw⟩ := rows_of (f := File.enc) (G := RcOk) (fun i r hr => by
    obtain ⟨hl, hc⟩ := hR i r hr
    obtain ⟨c0, c1, c2, c3, rfl⟩ := list4 hl
    obtain ⟨_, _, t0⟩ := hc 0 _ _ rfl rfl
    obtain ⟨a0, q0, _, w0⟩ := DataW.trod_int Tryz.underlying5 t0; cases q0
    obtain ⟨_, _, t1⟩ := hc 1 _ _ rfl rfl
    obtain ⟨a1, q1, _, w1⟩ := DataW.trod_int Tryz.underlying5 t1; cases q1
    obtain ⟨_, _, t2⟩ := hc 2 _ _ rfl rfl
    obtain ⟨a2, q2, _, w2⟩ := DataW.trod_int Tryz.underlying5 t2; cases q2
    obtain ⟨_, _, t3⟩ := hc 3 _ _ rfl rfl
    obtain ⟨a3, q3, _, w3⟩ := DataW.trod_int Tryz.underlying5 t3; cases q3
    exact ⟨⟨a0, a1, a2, a3⟩, rfl, u8_wf w0, u8_wf w1, u8_wf w2, u8_wf w3⟩)
  rw [List.length_map] at hlR; subst hlR
  exact ⟨⟨a0, a1, b, cp, L⟩, rfl, hs, hw⟩
end Go.Proofs.YtamlipffhimfmaaGreatDoor.Srv

/- For every input ServeTries answers true and leaves its arguments as_ they were; the package's one variable holds what the program's text lays into it: the tied card. -/
namespace Go.Proofs.YtamlipffhimfmaaGreatDoor.lawServeTries
set_option linter.unusedSimpArgs false
set_option linter.unusedVariables false
open Go Go.AX Go.ChangeShapes Go.WideShapes Go.ChangeAt Go.RowKit Go.Proofs.YtamlipffhimfmaaGreatDoor.Srv Go.Proofs.YtamlipffhimfmaaGreatDoor.Ifs

theorem own : ownKnob Tryz.prog.godebug = none := by kernel_rfl
theorem laidOut : laidOutB Tryz.prog = true := by kernel_rfl
theorem et : Tryz.prog.globalNamed "errors.errorType" = some 0 := by kernel_rfl
theorem rt : (Tryz.prog.cutTypes.find? (·.1 == "internal/reflectlite.rtype")).map (·.2) = some 197 := by kernel_rfl
theorem oneRow : ((List.range Tryz.prog.types.size).filter fun t => Tryz.prog.rowNamed t [101, 114, 114, 111, 114]) = [113] := by kernel_rfl

/-- The variable's one cell. -/
theorem handle_of_laid {W : World} (h : laidMetH Tryz.prog Rows.serveTriesRow.laid W) : Err.ErrT W := by
  have h' : laidMet Tryz.prog [] W ∧ handlesMet Tryz.prog Rows.serveTriesRow.laid W := h
  obtain ⟨name, u, ty, e1, e2, e3, e4, e5⟩ := h'.2 _ (List.mem_singleton.2 rfl)
  have en : name = [101, 114, 114, 111, 114] := (Option.some.inj e1).symm
  subst en
  obtain rfl := Option.some.inj (rt.symm.trans e2)
  have hm : ty ∈ (List.range Tryz.prog.types.size).filter fun t => Tryz.prog.rowNamed t [101, 114, 114, 111, 114] := List.mem_filter.2 ⟨List.mem_range.2 e3, e4⟩
  rw [oneRow] at hm
  obtain rfl := List.mem_singleton.1 hm
  have hh : typeHandle Tryz.prog 113 = .pointer (some ⟨1, 113, none⟩) := by kernel_rfl
  rw [hh] at e5
  unfold Err.ErrT
  simpa using World.var?_cell et e5 0

/-- A world that meets the condition: the settled one, the variable's cell laid. -/
noncomputable def laidWorld (os : Os) : World :=
  let w0 := World.holding Tryz.prog os ⟨#[], #[], []⟩
  { w0 with heap := w0.heap.modify 0 fun
      | .cells _ t frozen => .cells #[.iface 197 (.agg #[.pointer (some ⟨1, 113, none⟩)])] t frozen
      | o => o }
theorem laidWorld_met (os : Os) (args : Array Value) : laidMetH Tryz.prog Rows.serveTriesRow.laid ((laidWorld os).forCall (fun _ _ => 0) ⟨#[], args, []⟩).memory :=
  laidMetH_of_parts (laidMet_nil _ _) (by kernel_rfl)

set_option maxRecDepth 100000 in
theorem contract (H : Type) (enc : TypeId × Value → H) (W : World) (base : Nat) (args : Array Value) (ds gs : List (DataW H)) (before : List MemPlace)
    (hval : ∀ (j : Nat) t v, Tryz.f4.params[j]? = some t → args[j]? = some v → Value.okWide Tryz.prog W .any base t v)
    (hW : DataW.Whole enc Tryz.prog Tryz.f4.params.toList Rows.serveTriesSpec.vars false W args.toList ds gs before) (hE : Err.ErrT W) :
    Calls Tryz.prog 4 args W fun e W' => ∃ v, e = .returned v ∧ Rows.serveTriesSpec.post enc Tryz.prog Tryz.f4 false true false false W args v W' := by
  have hW' := hW
  obtain ⟨p, q, hA0, hV, rfl, hfz, hnd⟩ := hW
  have hA : DataW.TrodAll enc Tryz.prog W 0 (fun _ => true) true Tryz.f4.params.toList args.toList ds p := hA0
  rw [Tryz.params4] at hA hval
  obtain ⟨v0, v1, v2, v3, v4, v5, d0, d1, d2, d3, d4, d5, p0, p1, p2, p3, p4, p5, rfl, rfl, rfl, h0, h1, h2, h3, h4, h5⟩ := trodAll_six hA
  obtain ⟨rfl, rfl⟩ := trodVars_none hV
  obtain ⟨k0, k1, k2, k3, k4, k5⟩ := okw6 hval
  obtain ⟨bs0, n0, cp0, R0, rfl, hl0, hs0, hR0⟩ := open_slc (P := Tryz.prog) (sz := 3) Tryz.underlying22 (by kernel_rfl) (by simp) (show leafTs Tryz.prog 20 74 = some [3, 3, 70] by kernel_rfl) rfl k0 h0
  obtain ⟨L0, rfl, hw0⟩ := rows_of (f := encN) (G := NfIn ⟨W, []⟩) (fun i r hr => by
    obtain ⟨hl, hc⟩ := hR0 i r hr
    exact open_named hl hc)
  rw [List.length_map] at hl0; subst hl0
  obtain ⟨a1, rfl, rfl, rfl, w1⟩ := open_int Tryz.underlying3 k1 h1
  obtain ⟨a2, rfl, rfl, rfl, w2⟩ := open_int Tryz.underlying3 k2 h2
  obtain ⟨c3_0, c3_1, c3_2, y3_0, y3_1, y3_2, m3, rfl, rfl, rfl, e3_0, e3_1, e3_2⟩ := Go.Joins.open_agg3 (Tryz.underlying24) (by kernel_rfl) (by kernel_rfl) k3 h3
  obtain ⟨a3_0, q3_0, _, w3_0⟩ := DataW.trod_int Tryz.underlying3 e3_0
  cases q3_0
  obtain ⟨a3_1, q3_1, _, w3_1⟩ := DataW.trod_int Tryz.underlying3 e3_1
  cases q3_1
  obtain ⟨a3_2, q3_2, _, w3_2⟩ := DataW.trod_int Tryz.underlying3 e3_2
  cases q3_2
  obtain ⟨ns4, hn4, rfl, hw4⟩ := open_arr_int (P := Tryz.prog) Tryz.underlying26 Tryz.underlying5 (by kernel_rfl) (by kernel_rfl) k4 h4
  obtain ⟨x4_0, x4_1, x4_2, x4_3, rfl⟩ := list4 hn4
  obtain ⟨ns5, hn5, rfl, hw5⟩ := open_arr_int (P := Tryz.prog) Tryz.underlying52 Tryz.underlying5 (by kernel_rfl) (by kernel_rfl) k5 h5
  obtain ⟨x5_0, x5_1, x5_2, x5_3, x5_4, x5_5, x5_6, x5_7, x5_8, x5_9, x5_10, x5_11, x5_12, x5_13, rfl⟩ := list14 hn5
  exact law_post laidOut (by kernel_rfl) rfl rfl Tryz.underlying4 hW' rfl rfl rfl
    ((ServeTries_d L0 bs0 cp0 a1 a2 a3_0 a3_1 a3_2 (x4_0, x4_1, x4_2, x4_3) x5_0 x5_1 x5_2 x5_3 x5_4 x5_5 x5_6 x5_7 x5_8 x5_9 x5_10 x5_11 x5_12 x5_13  _ hs0 hw0 hE).mono fun v H' h => ⟨h.1, h.2 ▸ rfl⟩)

set_option maxRecDepth 100000 in
theorem lifted (os : Os) (started : os.Started) (H : Type) (enc : TypeId × Value → H) :
    ReturnsInHanded {} Tryz.checked os 4 .any (fun w args => (Rows.serveTriesSpec.pre enc Tryz.prog Tryz.f4 [] false w args ∧ laidMetH Tryz.prog Rows.serveTriesRow.laid w) ∧ sizedMet enc Tryz.prog Tryz.f4 (OpenSpec.ofChange Rows.serveTriesSpec) false w args)
      (Rows.serveTriesSpec.post enc Tryz.prog Tryz.f4 false true false false) := by
  refine returnsInHanded_of_change_and (C := Tryz.checked) (X := fun w _ => laidMetH Tryz.prog Rows.serveTriesRow.laid w) (fun _ _ _ hh h => h.of_heap hh) own started (by kernel_rfl) Tryz.func4
    (ChangeSpec.witness_at (enc := enc) (C := Tryz.checked) (os := os) (X := fun w _ => laidMetH Tryz.prog Rows.serveTriesRow.laid w) false (laidWorld os) #[.slice none 0 0, .int .i64 0, .int .i64 0, .agg #[.int .i64 0, .int .i64 0, .int .i64 0], .agg #[.int .u8 0, .int .u8 0, .int .u8 0, .int .u8 0], .agg #[.int .u8 0, .int .u8 0, .int .u8 0, .int .u8 0, .int .u8 0, .int .u8 0, .int .u8 0, .int .u8 0, .int .u8 0, .int .u8 0, .int .u8 0, .int .u8 0, .int .u8 0, .int .u8 0]] 8 rfl (by kernel_rfl) (by kernel_rfl) (by kernel_rfl) (by kernel_rfl) (by kernel_rfl) (laidWorld_met os _)) ?_
  intro W base args ds gs before hval hW _ _ hL _
  exact contract H enc W base args ds gs before hval hW (handle_of_laid hL)

theorem row : Rows.ServeTriesSaid :=
  OpenClaim.holds_of_wide 4 Tryz.f4 rfl rfl rfl rfl rfl rfl rfl ⟨rfl, rfl, rfl, rfl, rfl⟩ rfl rfl rfl rfl rfl (by kernel_rfl) Tryz.func4 (by kernel_rfl)
    (of_decide_eq_true (by kernel_rfl)) (by unfold Func.isWrapper; rw [if_neg (of_decide_eq_false (by kernel_rfl))]; exact ⟨rfl, rfl⟩)
    (fun os started H enc _ => lifted os started H enc)

theorem proved : Rows.ServeTriesCardSaid :=
  Claim7.holds_tied_plain_at .later [] [.handle] true Rows.serveTriesCard.stood.harness true
    row (fun _ h => by cases h) (by kernel_rfl) (fun _ h => by cases h) serveTries_row_tie rfl ⟨rfl, rfl⟩ (by kernel_rfl) rfl
    (fun f fn hf hfn => by
      obtain rfl : f = 4 := Option.some.inj ((show Tryz.prog.funcNamed "hayward/haywardlaw16.ServeTries" = some 4 by kernel_rfl).symm.trans hf) |>.symm
      obtain rfl : fn = Tryz.f4 := (Option.some.inj (Tryz.func4.symm.trans hfn)).symm
      exact ⟨by kernel_rfl, fun j t ht => by
          rw [Tryz.params4] at ht
          rcases j with _ | j
          · have : t = 22 := by simpa using ht.symm
            subst this; exact (show Tryz.prog.wantsStandIn 22 = false by kernel_rfl)
          rcases j with _ | j
          · have : t = 3 := by simpa using ht.symm
            subst this; exact (show Tryz.prog.wantsStandIn 3 = false by kernel_rfl)
          rcases j with _ | j
          · have : t = 3 := by simpa using ht.symm
            subst this; exact (show Tryz.prog.wantsStandIn 3 = false by kernel_rfl)
          rcases j with _ | j
          · have : t = 24 := by simpa using ht.symm
            subst this; exact (show Tryz.prog.wantsStandIn 24 = false by kernel_rfl)
          rcases j with _ | j
          · have : t = 26 := by simpa using ht.symm
            subst this; exact (show Tryz.prog.wantsStandIn 26 = false by kernel_rfl)
          rcases j with _ | j
          · have : t = 52 := by simpa using ht.symm
            subst this; exact (show Tryz.prog.wantsStandIn 52 = false by kernel_rfl)
          · simp at ht⟩)
    (by kernel_rfl)

end Go.Proofs.YtamlipffhimfmaaGreatDoor.lawServeTries
