/- the reference's store: at, Get, Same. -/
import Derived.Test.YtmkbpdlijfjgkaaDoorIfs2
namespace Go.Proofs.YtmkbpdlijfjgkaaDoor.Ifs
set_option linter.unusedSimpArgs false
set_option linter.unusedVariables false
open Go Go.AX Go.Proofs Ty Go.Proofs.YtmkbpdlijfjgkaaDoor.File
set_option maxHeartbeats 4000000
set_option maxRecDepth 10000

structure RF where
  n : Int
  p : Int
  base : Option Addr
  cap : Nat
  R : List Rc
def RF.nf (z : RF) : Nf := (z.n, z.p, z.R)
def RF.val (z : RF) : Value := fv z.p z.base z.R.length z.cap
def encN (z : RF) : List Value := [.int .i64 z.n, .int .i64 z.p, .slice z.base z.R.length z.cap]
structure NmIn (H : AH) (base : Option Addr) (cap : Nat) (Z : List RF) (rd : Nat → Prop) : Prop where
  out : SlcIn H 3 base cap (Z.map encN)
  inn : ∀ z ∈ Z, SlcIn H 4 z.base z.cap (z.R.map enc)
  r1 : Z = [] ∨ ∀ a, base = some a → rd a.block
  r2 : ∀ z ∈ Z, z.R = [] ∨ ∀ a, z.base = some a → rd a.block
theorem NmIn.keep {H H' : AH} {base : Option Addr} {cap : Nat} {Z : List RF} {rd ex : Nat → Prop} (h : NmIn H base cap Z rd) (hK : Keep H H' ex) (hd : ∀ x, rd x → ¬ ex x) : NmIn H' base cap Z rd :=
  ⟨h.out.past (h.r1.imp (by rintro rfl; rfl) fun h a ha => hd _ (h a ha)) hK, fun z hz => (h.inn z hz).past ((h.r2 z hz).imp (by intro e; rw [e]; rfl) fun h a ha => hd _ (h a ha)) hK, h.r1, h.r2⟩
theorem NmIn.mono {H : AH} {base : Option Addr} {cap : Nat} {Z : List RF} {rd rd' : Nat → Prop} (h : NmIn H base cap Z rd) (hd : ∀ x, rd x → rd' x) : NmIn H base cap Z rd' :=
  ⟨h.out, h.inn, h.r1.imp id fun h a ha => hd _ (h a ha), fun z hz => (h.r2 z hz).imp id fun h a ha => hd _ (h a ha)⟩
def RefAt (H : AH) (b : Nat) (Z : List RF) (den : Int) (rd : Nat → Prop) : Prop := ∃ base cap, H.find b = some (.cells [.slice base Z.length cap, .int .i64 den] 28 2) ∧ NmIn H base cap Z rd ∧ ¬ rd b
theorem RefAt.keep {H H' : AH} {b : Nat} {Z : List RF} {den : Int} {rd ex : Nat → Prop} (h : RefAt H b Z den rd) (hK : Keep H H' ex) (hd : ∀ x, rd x → ¬ ex x) (hb : ¬ ex b) : RefAt H' b Z den rd := by
  obtain ⟨base, cap, h1, h2, h3⟩ := h
  exact ⟨base, cap, hK.find hb h1, h2.keep hK hd, h3⟩
theorem lk_app {n : Int} {B : List Nf} : ∀ {A : List Nf}, lk n A = none → lk n (A ++ B) = lk n B
  | [], _ => rfl
  | x :: A, h => by
    rw [lk] at h
    split at h
    · cases h
    · rename_i e
      rw [List.cons_append, lk, if_neg e]; exact lk_app h
theorem lk_step {n : Int} {Z : List RF} {i : Nat} {z : RF} (h : lk n ((Z.take i).map RF.nf) = none) (hz : Z[i]? = some z) :
    (z.n = n → lk n (Z.map RF.nf) = some (z.p, z.R)) ∧ (z.n ≠ n → lk n ((Z.take (i + 1)).map RF.nf) = none) := by
  have hlt := Go.AX.lt_of_get hz
  have e : Z.drop i = z :: Z.drop (i + 1) := by
    rw [List.drop_eq_getElem_cons hlt]
    rw [List.getElem?_eq_getElem hlt] at hz; cases hz; rfl
  refine ⟨fun hn => ?_, fun hn => ?_⟩
  · rw [← List.take_append_drop i Z, List.map_append, lk_app h, e, List.map_cons, lk]
    exact if_pos hn
  · rw [List.take_add_one, hz, List.map_append, lk_app h]
    simp only [Option.toList, List.map_cons, List.map_nil, lk]
    exact if_neg hn
def AtOk (n : Int) (Z : List RF) (r : Int) : Prop := (r = -1 ∧ lk n (Z.map RF.nf) = none) ∨ ∃ (i : Nat) (z : RF), r = i ∧ Z[i]? = some z ∧ z.n = n ∧ lk n (Z.map RF.nf) = some (z.p, z.R)
theorem at_c {H : AH} {b : Nat} {Z : List RF} {den : Int} {rd : Nat → Prop} (h : RefAt H b Z den rd) (n : Int) :
    ACalls Tryd.prog 28 #[.pointer (some ⟨b, 0, none⟩), .int .i64 n] H (fun v H' => ∃ r, v = .int .i64 r ∧ AtOk n Z r ∧ H = H') := by
  obtain ⟨base, cap, ht, hZ, _⟩ := h
  have r0 : H.rd ⟨b, 0, none⟩ = some (.slice base Z.length cap) := by rw [rd_find ht]; rfl
  have hbig := hZ.out.big
  simp only [List.length_map] at hbig
  refine ACalls.enter2 Tryd.func28 rfl Tryd.ntmps28 Tryd.results28 (by simp) ?_; simp (dsimp := false) (maxSteps := 4000000) only [go_sem, ↓reduceIte, Nat.reduceEqDiff, Nat.reduceLT, Nat.reduceLeDiff, Nat.reduceAdd, Nat.reduceMul, Nat.reduceSub, reduceCtorEq, Int.reduceToNat, Int.reduceLT, Int.reduceLE, Int.reduceEq, Int.reduceNe, Int.reduceBEq, Nat.reduceBEq, Int.reduceBNe, Nat.reduceBNe, Int.reduceAdd, Int.reduceSub, Int.reduceMul, Int.reduceNeg]
  refine AWp.loopo (ι := Nat) (fun i => i ≤ Z.length ∧ lk n ((Z.take i).map RF.nf) = none) (fun i => [(5, .int .i64 i), (0, .pointer (some ⟨b, 0, none⟩)), (1, .int .i64 n)]) (fun _ => H) (fun i => Z.length - i) 0 ⟨by omega, rfl⟩ (FrLe.of_lks ?_) (AH.le_refl _) fun i hi Q again out => ?_
  · simp (dsimp := false) (maxSteps := 4000000) only [go_sem, ↓reduceIte, Nat.reduceEqDiff, Nat.reduceLT, Nat.reduceLeDiff, Nat.reduceAdd, Nat.reduceMul, Nat.reduceSub, reduceCtorEq, Int.reduceToNat, Int.reduceLT, Int.reduceLE, Int.reduceEq, Int.reduceNe, Int.reduceBEq, Nat.reduceBEq, Int.reduceBNe, Nat.reduceBNe, Int.reduceAdd, Int.reduceSub, Int.reduceMul, Int.reduceNeg]
  obtain ⟨hi, hno⟩ := hi
  by_cases hlt : (i : Int) < Z.length
  case neg =>
    obtain rfl : i = Z.length := by omega
    rw [List.take_length] at hno
    simp (dsimp := false) (maxSteps := 4000000) only [r0, hlt, go_sem, ↓reduceIte, Nat.reduceEqDiff, Nat.reduceLT, Nat.reduceLeDiff, Nat.reduceAdd, Nat.reduceMul, Nat.reduceSub, reduceCtorEq, Int.reduceToNat, Int.reduceLT, Int.reduceLE, Int.reduceEq, Int.reduceNe, Int.reduceBEq, Nat.reduceBEq, Int.reduceBNe, Nat.reduceBNe, Int.reduceAdd, Int.reduceSub, Int.reduceMul, Int.reduceNeg]
    refine out _ _ _ (by simp) ?_
    simp (dsimp := false) (maxSteps := 4000000) only [go_sem, ↓reduceIte, Nat.reduceEqDiff, Nat.reduceLT, Nat.reduceLeDiff, Nat.reduceAdd, Nat.reduceMul, Nat.reduceSub, reduceCtorEq, Int.reduceToNat, Int.reduceLT, Int.reduceLE, Int.reduceEq, Int.reduceNe, Int.reduceBEq, Nat.reduceBEq, Int.reduceBNe, Nat.reduceBNe, Int.reduceAdd, Int.reduceSub, Int.reduceMul, Int.reduceNeg]
    exact ⟨H, AH.le_refl _, -1, rfl, .inl ⟨rfl, hno⟩, rfl⟩
  obtain ⟨z, hz⟩ := get_some (l := Z) (i := i) (by omega)
  obtain ⟨b_, o, rfl, _, hrd⟩ := hZ.out.get (Go.AX.map_get (f := encN) hz)
  have rz := hrd 0 _ rfl
  simp only [Nat.add_zero] at rz
  have ee := i64_succ (i := i) (by omega)
  have hi0 : (0 : Int) ≤ (i : Int) := by omega
  by_cases hn : z.n = n
  · simp (dsimp := false) (maxSteps := 4000000) only [r0, hlt, rz, hn, hi0, go_sem, ↓reduceIte, Nat.reduceEqDiff, Nat.reduceLT, Nat.reduceLeDiff, Nat.reduceAdd, Nat.reduceMul, Nat.reduceSub, reduceCtorEq, Int.reduceToNat, Int.reduceLT, Int.reduceLE, Int.reduceEq, Int.reduceNe, Int.reduceBEq, Nat.reduceBEq, Int.reduceBNe, Nat.reduceBNe, Int.reduceAdd, Int.reduceSub, Int.reduceMul, Int.reduceNeg]
    refine out _ _ _ (by simp) ?_
    simp (dsimp := false) (maxSteps := 4000000) only [go_sem, ↓reduceIte, Nat.reduceEqDiff, Nat.reduceLT, Nat.reduceLeDiff, Nat.reduceAdd, Nat.reduceMul, Nat.reduceSub, reduceCtorEq, Int.reduceToNat, Int.reduceLT, Int.reduceLE, Int.reduceEq, Int.reduceNe, Int.reduceBEq, Nat.reduceBEq, Int.reduceBNe, Nat.reduceBNe, Int.reduceAdd, Int.reduceSub, Int.reduceMul, Int.reduceNeg]
    exact ⟨H, AH.le_refl _, i, rfl, .inr ⟨i, z, rfl, hz, hn, (lk_step hno hz).1 hn⟩, rfl⟩
  · simp (dsimp := false) (maxSteps := 4000000) only [r0, hlt, rz, hn, hi0, ee, go_sem, ↓reduceIte, Nat.reduceEqDiff, Nat.reduceLT, Nat.reduceLeDiff, Nat.reduceAdd, Nat.reduceMul, Nat.reduceSub, reduceCtorEq, Int.reduceToNat, Int.reduceLT, Int.reduceLE, Int.reduceEq, Int.reduceNe, Int.reduceBEq, Nat.reduceBEq, Int.reduceBNe, Nat.reduceBNe, Int.reduceAdd, Int.reduceSub, Int.reduceMul, Int.reduceNeg]
    exact again (i + 1) _ _ ⟨by omega, (lk_step hno hz).2 hn⟩ (FrLe.of_lks (by simp (dsimp := false) (maxSteps := 4000000) only [go_sem, ↓reduceIte, Nat.reduceEqDiff, Nat.reduceLT, Nat.reduceLeDiff, Nat.reduceAdd, Nat.reduceMul, Nat.reduceSub, reduceCtorEq, Int.reduceToNat, Int.reduceLT, Int.reduceLE, Int.reduceEq, Int.reduceNe, Int.reduceBEq, Nat.reduceBEq, Int.reduceBNe, Nat.reduceBNe, Int.reduceAdd, Int.reduceSub, Int.reduceMul, Int.reduceNeg])) (AH.le_refl _) (by omega)
theorem RefGet_c {H : AH} {b : Nat} {Z : List RF} {den : Int} {rd : Nat → Prop} (h : RefAt H b Z den rd) (n rec : Int) :
    ACalls Tryd.prog 16 #[.pointer (some ⟨b, 0, none⟩), .int .i64 n, .int .i64 rec] H (fun v H' => v = getV (getW (Z.map RF.nf) n rec) ∧ H = H') := by
  have hat := fun H1 (h1 : RefAt H1 b Z den rd) => at_c h1 n
  refine ACalls.enter2 Tryd.func16 rfl Tryd.ntmps16 Tryd.results16 (by simp) ?_; simp (dsimp := false) (maxSteps := 4000000) only [enc_len, enc_scal, lput_enc, take_enc, go_sem, ↓reduceIte, Nat.reduceEqDiff, Nat.reduceLT, Nat.reduceLeDiff, Nat.reduceAdd, Nat.reduceMul, Nat.reduceSub, reduceCtorEq, Int.reduceToNat, Int.reduceLT, Int.reduceLE, Int.reduceEq, Int.reduceNe, Int.reduceBEq, Nat.reduceBEq, Int.reduceBNe, Nat.reduceBNe, Int.reduceAdd, Int.reduceSub, Int.reduceMul, Int.reduceNeg]
  refine AllB.mk fun b6 h_b6 => ?_; have hn_b6 := h_b6; (try simp only [fresh_add, fresh_set, ne_eq] at hn_b6); have hr_b6 := hn_b6; (try simp only [@eq_comm Nat b6] at hr_b6); simp (dsimp := false) (maxSteps := 4000000) only [enc_len, enc_scal, lput_enc, take_enc, hn_b6, hr_b6, go_sem, ↓reduceIte, Nat.reduceEqDiff, Nat.reduceLT, Nat.reduceLeDiff, Nat.reduceAdd, Nat.reduceMul, Nat.reduceSub, reduceCtorEq, Int.reduceToNat, Int.reduceLT, Int.reduceLE, Int.reduceEq, Int.reduceNe, Int.reduceBEq, Nat.reduceBEq, Int.reduceBNe, Nat.reduceBNe, Int.reduceAdd, Int.reduceSub, Int.reduceMul, Int.reduceNeg]
  have k1 := h.keep (Keep.add (k := .cells [.int .u8 0, .int .u8 0, .int .u8 0, .int .u8 0] 32 4) h_b6) (ex := fun _ => False) (fun _ _ h => h) (fun h => h)
  refine (hat _ k1).mono ?_
  rintro _ _ ⟨r, rfl, ho, rfl⟩
  obtain ⟨base, cap, ht, hZ, _⟩ := h
  have r0 : H.rd ⟨b, 0, none⟩ = some (.slice base Z.length cap) := by rw [rd_find ht]; rfl
  have n1 : ¬ b6 = b := h_b6.ne_find ht
  rcases ho with ⟨rfl, hl⟩ | ⟨i, z, rfl, hz, hn, hl⟩
  · have hg : getW (Z.map RF.nf) n rec = none := by rw [getW, hl]; rfl
    rw [hg]
    simp (dsimp := false) (maxSteps := 4000000) only [enc_len, enc_scal, lput_enc, take_enc, hn_b6, hr_b6, go_sem, ↓reduceIte, Nat.reduceEqDiff, Nat.reduceLT, Nat.reduceLeDiff, Nat.reduceAdd, Nat.reduceMul, Nat.reduceSub, reduceCtorEq, Int.reduceToNat, Int.reduceLT, Int.reduceLE, Int.reduceEq, Int.reduceNe, Int.reduceBEq, Nat.reduceBEq, Int.reduceBNe, Nat.reduceBNe, Int.reduceAdd, Int.reduceSub, Int.reduceMul, Int.reduceNeg]
    exact ⟨H, (AH.le_add (AH.le_refl _) ((by simp only [enc_len, enc_scal, lput_enc, take_enc, fresh_add, fresh_set, ne_eq, hn_b6, not_false_eq_true, and_self] : Fresh _ b6).2)), (by first | exact ⟨rfl, rfl⟩ | rfl)⟩
  rw [getW_eq hl]
  have hmem := List.mem_of_getElem? hz
  obtain ⟨b_, o, rfl, hrow, hrd⟩ := hZ.out.get (Go.AX.map_get (f := encN) hz)
  have rz := hrd 2 _ rfl
  have n2 : ¬ b6 = b_ := h_b6.ne_row hrow
  have hi0 : (0 : Int) ≤ (i : Int) := by omega
  have hi1 : ¬ (i : Int) < 0 := by omega
  have hlt : (i : Int) < (Z.length : Int) := by have := Go.AX.lt_of_get hz; omega
  have hs := hZ.inn z hmem
  by_cases hr : rec < 0
  · simp (dsimp := false) (maxSteps := 4000000) only [hr, hi1, enc_len, enc_scal, lput_enc, take_enc, hn_b6, hr_b6, go_sem, ↓reduceIte, Nat.reduceEqDiff, Nat.reduceLT, Nat.reduceLeDiff, Nat.reduceAdd, Nat.reduceMul, Nat.reduceSub, reduceCtorEq, Int.reduceToNat, Int.reduceLT, Int.reduceLE, Int.reduceEq, Int.reduceNe, Int.reduceBEq, Nat.reduceBEq, Int.reduceBNe, Nat.reduceBNe, Int.reduceAdd, Int.reduceSub, Int.reduceMul, Int.reduceNeg]
    exact ⟨H, (AH.le_add (AH.le_refl _) ((by simp only [enc_len, enc_scal, lput_enc, take_enc, fresh_add, fresh_set, ne_eq, hn_b6, not_false_eq_true, and_self] : Fresh _ b6).2)), (by first | exact ⟨rfl, rfl⟩ | rfl)⟩
  by_cases hr2 : (z.R.length : Int) ≤ rec
  · have e : z.R[rec.toNat]? = none := List.getElem?_eq_none (by omega)
    simp (dsimp := false) (maxSteps := 4000000) only [hr, hr2, hi1, hi0, r0, n1, n2, hlt, rz, enc_len, enc_scal, lput_enc, take_enc, hn_b6, hr_b6, go_sem, ↓reduceIte, Nat.reduceEqDiff, Nat.reduceLT, Nat.reduceLeDiff, Nat.reduceAdd, Nat.reduceMul, Nat.reduceSub, reduceCtorEq, Int.reduceToNat, Int.reduceLT, Int.reduceLE, Int.reduceEq, Int.reduceNe, Int.reduceBEq, Nat.reduceBEq, Int.reduceBNe, Nat.reduceBNe, Int.reduceAdd, Int.reduceSub, Int.reduceMul, Int.reduceNeg]
    rw [e]
    exact ⟨H, (AH.le_add (AH.le_refl _) ((by simp only [enc_len, enc_scal, lput_enc, take_enc, fresh_add, fresh_set, ne_eq, hn_b6, not_false_eq_true, and_self] : Fresh _ b6).2)), (by first | exact ⟨rfl, rfl⟩ | rfl)⟩
  · obtain ⟨j, rfl⟩ : ∃ j : Nat, rec = j := ⟨rec.toNat, by omega⟩
    obtain ⟨r, hrj⟩ := get_some (l := z.R) (i := j) (by omega)
    obtain ⟨c_, p, hbase, hrow2, _⟩ := hs.get (Go.AX.map_get (f := enc) hrj)
    rw [hbase] at rz
    have n3 : ¬ b6 = c_ := h_b6.ne_row hrow2
    have hlt2 : (j : Int) < (z.R.length : Int) := by omega
    have hj0 : (0 : Int) ≤ (j : Int) := by omega
    simp (dsimp := false) (maxSteps := 4000000) only [hr, hr2, hi1, hi0, r0, n1, n2, n3, hlt, hlt2, hj0, rz, hrow2, enc_len, enc_scal, lput_enc, take_enc, hn_b6, hr_b6, go_sem, ↓reduceIte, Nat.reduceEqDiff, Nat.reduceLT, Nat.reduceLeDiff, Nat.reduceAdd, Nat.reduceMul, Nat.reduceSub, reduceCtorEq, Int.reduceToNat, Int.reduceLT, Int.reduceLE, Int.reduceEq, Int.reduceNe, Int.reduceBEq, Nat.reduceBEq, Int.reduceBNe, Nat.reduceBNe, Int.reduceAdd, Int.reduceSub, Int.reduceMul, Int.reduceNeg]
    rw [hrj]
    exact ⟨H, (AH.le_add (AH.le_refl _) ((by simp only [enc_len, enc_scal, lput_enc, take_enc, fresh_add, fresh_set, ne_eq, hn_b6, not_false_eq_true, and_self] : Fresh _ b6).2)), (by first | exact ⟨rfl, rfl⟩ | rfl)⟩
theorem Same_c {H : AH} {A B : List RF} {b1 b2 : Option Addr} {c1 c2 : Nat} {rd1 rd2 : Nat → Prop} (hA : NmIn H b1 c1 A rd1) (hB : NmIn H b2 c2 B rd2) :
    ACalls Tryd.prog 19 #[.slice b1 A.length c1, .slice b2 B.length c2] H (fun v H' => v = .bool (decide (A.map RF.nf = B.map RF.nf)) ∧ H = H') := by
  have hbig := hA.out.big
  simp only [List.length_map] at hbig
  refine ACalls.enter2 Tryd.func19 rfl Tryd.ntmps19 Tryd.results19 (by simp) ?_; simp (dsimp := false) (maxSteps := 4000000) only [go_sem, ↓reduceIte, Nat.reduceEqDiff, Nat.reduceLT, Nat.reduceLeDiff, Nat.reduceAdd, Nat.reduceMul, Nat.reduceSub, reduceCtorEq, Int.reduceToNat, Int.reduceLT, Int.reduceLE, Int.reduceEq, Int.reduceNe, Int.reduceBEq, Nat.reduceBEq, Int.reduceBNe, Nat.reduceBNe, Int.reduceAdd, Int.reduceSub, Int.reduceMul, Int.reduceNeg]
  by_cases hl : A.length = B.length
  case neg =>
    have hl' : ¬ (A.length : Int) = B.length := by omega
    have e : ¬ A.map RF.nf = B.map RF.nf := fun e => hl (by simpa using congrArg List.length e)
    simp (dsimp := false) (maxSteps := 4000000) only [hl', go_sem, ↓reduceIte, Nat.reduceEqDiff, Nat.reduceLT, Nat.reduceLeDiff, Nat.reduceAdd, Nat.reduceMul, Nat.reduceSub, reduceCtorEq, Int.reduceToNat, Int.reduceLT, Int.reduceLE, Int.reduceEq, Int.reduceNe, Int.reduceBEq, Nat.reduceBEq, Int.reduceBNe, Nat.reduceBNe, Int.reduceAdd, Int.reduceSub, Int.reduceMul, Int.reduceNeg]
    exact ⟨H, AH.le_refl _, by simp [e], rfl⟩
  have hl' : (A.length : Int) = B.length := by omega
  simp (dsimp := false) (maxSteps := 4000000) only [hl', go_sem, ↓reduceIte, Nat.reduceEqDiff, Nat.reduceLT, Nat.reduceLeDiff, Nat.reduceAdd, Nat.reduceMul, Nat.reduceSub, reduceCtorEq, Int.reduceToNat, Int.reduceLT, Int.reduceLE, Int.reduceEq, Int.reduceNe, Int.reduceBEq, Nat.reduceBEq, Int.reduceBNe, Nat.reduceBNe, Int.reduceAdd, Int.reduceSub, Int.reduceMul, Int.reduceNeg]
  refine AWp.loopo (ι := Nat) (fun i => i ≤ A.length ∧ (A.take i).map RF.nf = (B.take i).map RF.nf) (fun i => [(5, .int .i64 i), (0, .slice b1 A.length c1), (1, .slice b2 B.length c2)]) (fun _ => H) (fun i => A.length - i) 0 ⟨by omega, rfl⟩ (FrLe.of_lks ?_) (AH.le_refl _) fun i hi Q again out => ?_
  · simp (dsimp := false) (maxSteps := 4000000) only [go_sem, ↓reduceIte, Nat.reduceEqDiff, Nat.reduceLT, Nat.reduceLeDiff, Nat.reduceAdd, Nat.reduceMul, Nat.reduceSub, reduceCtorEq, Int.reduceToNat, Int.reduceLT, Int.reduceLE, Int.reduceEq, Int.reduceNe, Int.reduceBEq, Nat.reduceBEq, Int.reduceBNe, Nat.reduceBNe, Int.reduceAdd, Int.reduceSub, Int.reduceMul, Int.reduceNeg]
  obtain ⟨hi, hsame⟩ := hi
  by_cases hlt : (i : Int) < A.length
  case neg =>
    obtain rfl : i = A.length := by omega
    rw [List.take_length, hl, List.take_length] at hsame
    simp (dsimp := false) (maxSteps := 4000000) only [hlt, go_sem, ↓reduceIte, Nat.reduceEqDiff, Nat.reduceLT, Nat.reduceLeDiff, Nat.reduceAdd, Nat.reduceMul, Nat.reduceSub, reduceCtorEq, Int.reduceToNat, Int.reduceLT, Int.reduceLE, Int.reduceEq, Int.reduceNe, Int.reduceBEq, Nat.reduceBEq, Int.reduceBNe, Nat.reduceBNe, Int.reduceAdd, Int.reduceSub, Int.reduceMul, Int.reduceNeg]
    refine out _ _ _ (by simp) ?_
    simp (dsimp := false) (maxSteps := 4000000) only [go_sem, ↓reduceIte, Nat.reduceEqDiff, Nat.reduceLT, Nat.reduceLeDiff, Nat.reduceAdd, Nat.reduceMul, Nat.reduceSub, reduceCtorEq, Int.reduceToNat, Int.reduceLT, Int.reduceLE, Int.reduceEq, Int.reduceNe, Int.reduceBEq, Nat.reduceBEq, Int.reduceBNe, Nat.reduceBNe, Int.reduceAdd, Int.reduceSub, Int.reduceMul, Int.reduceNeg]
    exact ⟨H, AH.le_refl _, by simp [hsame], rfl⟩
  obtain ⟨x, hx⟩ := get_some (l := A) (i := i) (by omega)
  obtain ⟨y, hy⟩ := get_some (l := B) (i := i) (by omega)
  obtain ⟨p1, o1, rfl, hrow1, hrd1⟩ := hA.out.get (Go.AX.map_get (f := encN) hx)
  obtain ⟨p2, o2, rfl, hrow2, hrd2⟩ := hB.out.get (Go.AX.map_get (f := encN) hy)
  have x0 := hrd1 0 _ rfl
  have y0 := hrd2 0 _ rfl
  simp only [Nat.add_zero] at x0 y0
  have hx1 : H.row p1 (o1 + i * 3 + 1) 2 = some [.int .i64 x.p, .slice x.base x.R.length x.cap] := row_of_rd rfl (by decide) fun j c hj => by
    rw [Nat.add_assoc _ 1 j, Nat.add_comm 1 j]
    exact hrd1 (j + 1) c hj
  have hy1 : H.row p2 (o2 + i * 3 + 1) 2 = some [.int .i64 y.p, .slice y.base y.R.length y.cap] := row_of_rd rfl (by decide) fun j c hj => by
    rw [Nat.add_assoc _ 1 j, Nat.add_comm 1 j]
    exact hrd2 (j + 1) c hj
  have ee := i64_succ (i := i) (by omega)
  have hi0 : (0 : Int) ≤ (i : Int) := by omega
  have hlt2 : (i : Int) < B.length := by omega
  have hxy : ∀ {P : Prop}, ¬ x.nf = y.nf → A.map RF.nf = B.map RF.nf → P := fun hne e => by
    have h1 : (A.map RF.nf)[i]? = some x.nf := by simp [hx]
    have h2 : (B.map RF.nf)[i]? = some y.nf := by simp [hy]
    rw [e, h2] at h1; exact absurd (Option.some.inj h1).symm hne
  simp (dsimp := false) (maxSteps := 4000000) only [hlt, go_sem, ↓reduceIte, Nat.reduceEqDiff, Nat.reduceLT, Nat.reduceLeDiff, Nat.reduceAdd, Nat.reduceMul, Nat.reduceSub, reduceCtorEq, Int.reduceToNat, Int.reduceLT, Int.reduceLE, Int.reduceEq, Int.reduceNe, Int.reduceBEq, Nat.reduceBEq, Int.reduceBNe, Nat.reduceBNe, Int.reduceAdd, Int.reduceSub, Int.reduceMul, Int.reduceNeg]
  refine AWp.gen [.pu, .pu, .pu, .pu, .rd, .pu, .pu, .pu, .pu, .rd, .pu, .pu, .pu, .pu, .pu, .pu, .rd, .pu, .pu, .pu, .pu, .rd, .ch, .pu, .pu] [0, 0, 3, 7, 15, 0, 0, 96, 224, 480, 1023, 2047, 4095, 4095, 16383, 32767, 65535, 4095, 4095, 397311, 921599, 1970175, 4194303, 8388607, 16777215] 0 (_) mixed (by kernel_rfl) (AH.le_refl _) ?_
  by_cases hn : x.n = y.n
  case neg =>
    have e : ¬ A.map RF.nf = B.map RF.nf := hxy fun e => hn (congrArg (·.1) e)
    simp (dsimp := false) (maxSteps := 4000000) only [hlt, hlt2, hi0, x0, y0, hn, go_sem, ↓reduceIte, Nat.reduceEqDiff, Nat.reduceLT, Nat.reduceLeDiff, Nat.reduceAdd, Nat.reduceMul, Nat.reduceSub, reduceCtorEq, Int.reduceToNat, Int.reduceLT, Int.reduceLE, Int.reduceEq, Int.reduceNe, Int.reduceBEq, Nat.reduceBEq, Int.reduceBNe, Nat.reduceBNe, Int.reduceAdd, Int.reduceSub, Int.reduceMul, Int.reduceNeg]
    refine out _ _ _ (by simp) ?_
    simp (dsimp := false) (maxSteps := 4000000) only [go_sem, ↓reduceIte, Nat.reduceEqDiff, Nat.reduceLT, Nat.reduceLeDiff, Nat.reduceAdd, Nat.reduceMul, Nat.reduceSub, reduceCtorEq, Int.reduceToNat, Int.reduceLT, Int.reduceLE, Int.reduceEq, Int.reduceNe, Int.reduceBEq, Nat.reduceBEq, Int.reduceBNe, Nat.reduceBNe, Int.reduceAdd, Int.reduceSub, Int.reduceMul, Int.reduceNeg]
    exact ⟨H, AH.le_refl _, by simp [e], rfl⟩
  have hsm := fun H1 (h1 : SlcIn H1 4 x.base x.cap (x.R.map enc)) (h2 : SlcIn H1 4 y.base y.cap (y.R.map enc)) => RefSame_c x.p y.p x.R y.R x.base y.base x.cap y.cap H1 h1 h2
  unfold fv at hsm
  simp (dsimp := false) (maxSteps := 4000000) only [hlt, hlt2, hi0, x0, y0, hn, hx1, hy1, go_sem, ↓reduceIte, Nat.reduceEqDiff, Nat.reduceLT, Nat.reduceLeDiff, Nat.reduceAdd, Nat.reduceMul, Nat.reduceSub, reduceCtorEq, Int.reduceToNat, Int.reduceLT, Int.reduceLE, Int.reduceEq, Int.reduceNe, Int.reduceBEq, Nat.reduceBEq, Int.reduceBNe, Nat.reduceBNe, Int.reduceAdd, Int.reduceSub, Int.reduceMul, Int.reduceNeg]
  refine (hsm _ (hA.inn x (List.mem_of_getElem? hx)) (hB.inn y (List.mem_of_getElem? hy))).mono ?_; rintro _ _ ⟨rfl, rfl⟩
  by_cases hs : sameF x.p y.p x.R y.R = true
  · have hnf : x.nf = y.nf := by
      simp only [sameF, decide_eq_true_eq] at hs
      rw [RF.nf, RF.nf, hn, hs.1, hs.2]
    simp (dsimp := false) (maxSteps := 4000000) only [hs, ee, go_sem, ↓reduceIte, Nat.reduceEqDiff, Nat.reduceLT, Nat.reduceLeDiff, Nat.reduceAdd, Nat.reduceMul, Nat.reduceSub, reduceCtorEq, Int.reduceToNat, Int.reduceLT, Int.reduceLE, Int.reduceEq, Int.reduceNe, Int.reduceBEq, Nat.reduceBEq, Int.reduceBNe, Nat.reduceBNe, Int.reduceAdd, Int.reduceSub, Int.reduceMul, Int.reduceNeg]
    refine again (i + 1) _ _ ⟨by omega, ?_⟩ (FrLe.of_lks (by simp (dsimp := false) (maxSteps := 4000000) only [go_sem, ↓reduceIte, Nat.reduceEqDiff, Nat.reduceLT, Nat.reduceLeDiff, Nat.reduceAdd, Nat.reduceMul, Nat.reduceSub, reduceCtorEq, Int.reduceToNat, Int.reduceLT, Int.reduceLE, Int.reduceEq, Int.reduceNe, Int.reduceBEq, Nat.reduceBEq, Int.reduceBNe, Nat.reduceBNe, Int.reduceAdd, Int.reduceSub, Int.reduceMul, Int.reduceNeg])) (AH.le_refl _) (by omega)
    rw [List.take_add_one, List.take_add_one, hx, hy, List.map_append, List.map_append, hsame]
    simp [hnf]
  · have hs' : sameF x.p y.p x.R y.R = false := by simpa using hs
    have e : ¬ A.map RF.nf = B.map RF.nf := hxy fun e => hs (by
      have h1 : x.p = y.p := congrArg (·.2.1) e
      have h2 : x.R = y.R := congrArg (·.2.2) e
      simp [sameF, h1, h2])
    simp (dsimp := false) (maxSteps := 4000000) only [hs', go_sem, ↓reduceIte, Nat.reduceEqDiff, Nat.reduceLT, Nat.reduceLeDiff, Nat.reduceAdd, Nat.reduceMul, Nat.reduceSub, reduceCtorEq, Int.reduceToNat, Int.reduceLT, Int.reduceLE, Int.reduceEq, Int.reduceNe, Int.reduceBEq, Nat.reduceBEq, Int.reduceBNe, Nat.reduceBNe, Int.reduceAdd, Int.reduceSub, Int.reduceMul, Int.reduceNeg]
    refine out _ _ _ (by simp) ?_
    simp (dsimp := false) (maxSteps := 4000000) only [go_sem, ↓reduceIte, Nat.reduceEqDiff, Nat.reduceLT, Nat.reduceLeDiff, Nat.reduceAdd, Nat.reduceMul, Nat.reduceSub, reduceCtorEq, Int.reduceToNat, Int.reduceLT, Int.reduceLE, Int.reduceEq, Int.reduceNe, Int.reduceBEq, Nat.reduceBEq, Int.reduceBNe, Nat.reduceBNe, Int.reduceAdd, Int.reduceSub, Int.reduceMul, Int.reduceNeg]
    exact ⟨H, AH.le_refl _, by simp [e], rfl⟩
end Go.Proofs.YtmkbpdlijfjgkaaDoor.Ifs
