/- Texts of mine, one behind another. -/
import Derived.Test.YtamlipffhimfmaaGreatDoorMServeBytes5
import Derived.Shelf.SlIterI.Nil
import Derived.Shelf.SortM.Plain
import Derived.Shelf.SortM.SortNone
import Derived.Ground.GgzProg
import Derived.Ground.SlgmProg
/- the reference's store: at, Get, Same. -/
namespace Go.Proofs.YtamlipffhimfmaaGreatDoor.Ifs
set_option linter.unusedSimpArgs false
set_option linter.unusedVariables false
open Go Go.AX Go.Proofs Ty Go.Proofs.YtamlipffhimfmaaGreatDoor.File
set_option maxHeartbeats 4000000
set_option maxRecDepth 10000

structure RF where
  n : Int
  p : Int
  base : Option Addr
  cap : Nat
  R : List Rc
def RF.nf (z : RF) : Nf := (z.n, z.p, z.R)
def RF.val (z : RF) : Value := fv z.p z.base z.R.length z.cap
def encN (z : RF) : List Value := [.int .i64 z.n, .int .i64 z.p, .slice z.base z.R.length z.cap]
structure NmIn (H : AH) (base : Option Addr) (cap : Nat) (Z : List RF) (rd : Nat → Prop) : Prop where
  out : SlcIn H 3 base cap (Z.map encN)
  inn : ∀ z ∈ Z, SlcIn H 4 z.base z.cap (z.R.map enc)
  r1 : Z = [] ∨ ∀ a, base = some a → rd a.block
  r2 : ∀ z ∈ Z, z.R = [] ∨ ∀ a, z.base = some a → rd a.block
theorem NmIn.keep {H H' : AH} {base : Option Addr} {cap : Nat} {Z : List RF} {rd ex : Nat → Prop} (h : NmIn H base cap Z rd) (hK : Keep H H' ex) (hd : ∀ x, rd x → ¬ ex x) : NmIn H' base cap Z rd :=
  ⟨h.out.past (h.r1.imp (by rintro rfl; rfl) fun h a ha => hd _ (h a ha)) hK, fun z hz => (h.inn z hz).past ((h.r2 z hz).imp (by intro e; rw [e]; rfl) fun h a ha => hd _ (h a ha)) hK, h.r1, h.r2⟩
theorem NmIn.mono {H : AH} {base : Option Addr} {cap : Nat} {Z : List RF} {rd rd' : Nat → Prop} (h : NmIn H base cap Z rd) (hd : ∀ x, rd x → rd' x) : NmIn H base cap Z rd' :=
  ⟨h.out, h.inn, h.r1.imp id fun h a ha => hd _ (h a ha), fun z hz => (h.r2 z hz).imp id fun h a ha => hd _ (h a ha)⟩
def RefAt (H : AH) (b : Nat) (Z : List RF) (den : Int) (rd : Nat → Prop) : Prop := ∃ base cap, H.find b = some (.cells [.slice base Z.length cap, .int .i64 den] 49 2) ∧ NmIn H base cap Z rd ∧ ¬ rd b
theorem RefAt.keep {H H' : AH} {b : Nat} {Z : List RF} {den : Int} {rd ex : Nat → Prop} (h : RefAt H b Z den rd) (hK : Keep H H' ex) (hd : ∀ x, rd x → ¬ ex x) (hb : ¬ ex b) : RefAt H' b Z den rd := by
  obtain ⟨base, cap, h1, h2, h3⟩ := h
  exact ⟨base, cap, hK.find hb h1, h2.keep hK hd, h3⟩
theorem lk_app {n : Int} {B : List Nf} : ∀ {A : List Nf}, lk n A = none → lk n (A ++ B) = lk n B
  | [], _ => rfl
  | x :: A, h => by
    rw [lk] at h
    split at h
    · cases h
    · rename_i e
      rw [List.cons_append, lk, if_neg e]; exact lk_app h
theorem lk_step {n : Int} {Z : List RF} {i : Nat} {z : RF} (h : lk n ((Z.take i).map RF.nf) = none) (hz : Z[i]? = some z) :
    (z.n = n → lk n (Z.map RF.nf) = some (z.p, z.R)) ∧ (z.n ≠ n → lk n ((Z.take (i + 1)).map RF.nf) = none) := by
  have hlt := Go.AX.lt_of_get hz
  have e : Z.drop i = z :: Z.drop (i + 1) := by
    rw [List.drop_eq_getElem_cons hlt]
    rw [List.getElem?_eq_getElem hlt] at hz; cases hz; rfl
  refine ⟨fun hn => ?_, fun hn => ?_⟩
  · rw [← List.take_append_drop i Z, List.map_append, lk_app h, e, List.map_cons, lk]
    exact if_pos hn
  · rw [List.take_add_one, hz, List.map_append, lk_app h]
    simp only [Option.toList, List.map_cons, List.map_nil, lk]
    exact if_neg hn
def AtOk (n : Int) (Z : List RF) (r : Int) : Prop := (r = -1 ∧ lk n (Z.map RF.nf) = none) ∨ ∃ (i : Nat) (z : RF), r = i ∧ Z[i]? = some z ∧ z.n = n ∧ lk n (Z.map RF.nf) = some (z.p, z.R)
theorem at_c {H : AH} {b : Nat} {Z : List RF} {den : Int} {rd : Nat → Prop} (h : RefAt H b Z den rd) (n : Int) :
    ACalls Tryz.prog 81 #[.pointer (some ⟨b, 0, none⟩), .int .i64 n] H (fun v H' => ∃ r, v = .int .i64 r ∧ AtOk n Z r ∧ H = H') := by
  obtain ⟨base, cap, ht, hZ, _⟩ := h
  have r0 : H.rd ⟨b, 0, none⟩ = some (.slice base Z.length cap) := by rw [rd_find ht]; rfl
  have hbig := hZ.out.big
  simp only [List.length_map] at hbig
  refine ACalls.enter2 Tryz.func81 rfl Tryz.ntmps81 Tryz.results81 (by simp) ?_; simp (dsimp := false) (maxSteps := 4000000) only [go_sem, ↓reduceIte, Nat.reduceEqDiff, Nat.reduceLT, Nat.reduceLeDiff, Nat.reduceAdd, Nat.reduceMul, Nat.reduceSub, reduceCtorEq, Int.reduceToNat, Int.reduceLT, Int.reduceLE, Int.reduceEq, Int.reduceNe, Int.reduceBEq, Nat.reduceBEq, Int.reduceBNe, Nat.reduceBNe, Int.reduceAdd, Int.reduceSub, Int.reduceMul, Int.reduceNeg]
  refine AWp.loopo (ι := Nat) (fun i => i ≤ Z.length ∧ lk n ((Z.take i).map RF.nf) = none) (fun i => [(5, .int .i64 i), (0, .pointer (some ⟨b, 0, none⟩)), (1, .int .i64 n)]) (fun _ => H) (fun i => Z.length - i) 0 ⟨by omega, rfl⟩ (FrLe.of_lks ?_) (AH.le_refl _) fun i hi Q again out => ?_
  · simp (dsimp := false) (maxSteps := 4000000) only [go_sem, ↓reduceIte, Nat.reduceEqDiff, Nat.reduceLT, Nat.reduceLeDiff, Nat.reduceAdd, Nat.reduceMul, Nat.reduceSub, reduceCtorEq, Int.reduceToNat, Int.reduceLT, Int.reduceLE, Int.reduceEq, Int.reduceNe, Int.reduceBEq, Nat.reduceBEq, Int.reduceBNe, Nat.reduceBNe, Int.reduceAdd, Int.reduceSub, Int.reduceMul, Int.reduceNeg]
  obtain ⟨hi, hno⟩ := hi
  by_cases hlt : (i : Int) < Z.length
  case neg =>
    obtain rfl : i = Z.length := by omega
    rw [List.take_length] at hno
    simp (dsimp := false) (maxSteps := 4000000) only [r0, hlt, go_sem, ↓reduceIte, Nat.reduceEqDiff, Nat.reduceLT, Nat.reduceLeDiff, Nat.reduceAdd, Nat.reduceMul, Nat.reduceSub, reduceCtorEq, Int.reduceToNat, Int.reduceLT, Int.reduceLE, Int.reduceEq, Int.reduceNe, Int.reduceBEq, Nat.reduceBEq, Int.reduceBNe, Nat.reduceBNe, Int.reduceAdd, Int.reduceSub, Int.reduceMul, Int.reduceNeg]
    refine out _ _ _ (by simp) ?_
    simp (dsimp := false) (maxSteps := 4000000) only [go_sem, ↓reduceIte, Nat.reduceEqDiff, Nat.reduceLT, Nat.reduceLeDiff, Nat.reduceAdd, Nat.reduceMul, Nat.reduceSub, reduceCtorEq, Int.reduceToNat, Int.reduceLT, Int.reduceLE, Int.reduceEq, Int.reduceNe, Int.reduceBEq, Nat.reduceBEq, Int.reduceBNe, Nat.reduceBNe, Int.reduceAdd, Int.reduceSub, Int.reduceMul, Int.reduceNeg]
    exact ⟨H, AH.le_refl _, -1, rfl, .inl ⟨rfl, hno⟩, rfl⟩
  obtain ⟨z, hz⟩ := get_some (l := Z) (i := i) (by omega)
  obtain ⟨b_, o, rfl, _, hrd⟩ := hZ.out.get (Go.AX.map_get (f := encN) hz)
  have rz := hrd 0 _ rfl
  simp only [Nat.add_zero] at rz
  have ee := i64_succ (i := i) (by omega)
  have hi0 : (0 : Int) ≤ (i : Int) := by omega
  by_cases hn : z.n = n
  · simp (dsimp := false) (maxSteps := 4000000) only [r0, hlt, rz, hn, hi0, go_sem, ↓reduceIte, Nat.reduceEqDiff, Nat.reduceLT, Nat.reduceLeDiff, Nat.reduceAdd, Nat.reduceMul, Nat.reduceSub, reduceCtorEq, Int.reduceToNat, Int.reduceLT, Int.reduceLE, Int.reduceEq, Int.reduceNe, Int.reduceBEq, Nat.reduceBEq, Int.reduceBNe, Nat.reduceBNe, Int.reduceAdd, Int.reduceSub, Int.reduceMul, Int.reduceNeg]
    refine out _ _ _ (by simp) ?_
    simp (dsimp := false) (maxSteps := 4000000) only [go_sem, ↓reduceIte, Nat.reduceEqDiff, Nat.reduceLT, Nat.reduceLeDiff, Nat.reduceAdd, Nat.reduceMul, Nat.reduceSub, reduceCtorEq, Int.reduceToNat, Int.reduceLT, Int.reduceLE, Int.reduceEq, Int.reduceNe, Int.reduceBEq, Nat.reduceBEq, Int.reduceBNe, Nat.reduceBNe, Int.reduceAdd, Int.reduceSub, Int.reduceMul, Int.reduceNeg]
    exact ⟨H, AH.le_refl _, i, rfl, .inr ⟨i, z, rfl, hz, hn, (lk_step hno hz).1 hn⟩, rfl⟩
  · simp (dsimp := false) (maxSteps := 4000000) only [r0, hlt, rz, hn, hi0, ee, go_sem, ↓reduceIte, Nat.reduceEqDiff, Nat.reduceLT, Nat.reduceLeDiff, Nat.reduceAdd, Nat.reduceMul, Nat.reduceSub, reduceCtorEq, Int.reduceToNat, Int.reduceLT, Int.reduceLE, Int.reduceEq, Int.reduceNe, Int.reduceBEq, Nat.reduceBEq, Int.reduceBNe, Nat.reduceBNe, Int.reduceAdd, Int.reduceSub, Int.reduceMul, Int.reduceNeg]
    exact again (i + 1) _ _ ⟨by omega, (lk_step hno hz).2 hn⟩ (FrLe.of_lks (by simp (dsimp := false) (maxSteps := 4000000) only [go_sem, ↓reduceIte, Nat.reduceEqDiff, Nat.reduceLT, Nat.reduceLeDiff, Nat.reduceAdd, Nat.reduceMul, Nat.reduceSub, reduceCtorEq, Int.reduceToNat, Int.reduceLT, Int.reduceLE, Int.reduceEq, Int.reduceNe, Int.reduceBEq, Nat.reduceBEq, Int.reduceBNe, Nat.reduceBNe, Int.reduceAdd, Int.reduceSub, Int.reduceMul, Int.reduceNeg])) (AH.le_refl _) (by omega)
theorem Same_c {H : AH} {A B : List RF} {b1 b2 : Option Addr} {c1 c2 : Nat} {rd1 rd2 : Nat → Prop} (hA : NmIn H b1 c1 A rd1) (hB : NmIn H b2 c2 B rd2) :
    ACalls Tryz.prog 17 #[.slice b1 A.length c1, .slice b2 B.length c2] H (fun v H' => v = .bool (decide (A.map RF.nf = B.map RF.nf)) ∧ H = H') := by
  have hbig := hA.out.big
  simp only [List.length_map] at hbig
  refine ACalls.enter2 Tryz.func17 rfl Tryz.ntmps17 Tryz.results17 (by simp) ?_; simp (dsimp := false) (maxSteps := 4000000) only [go_sem, ↓reduceIte, Nat.reduceEqDiff, Nat.reduceLT, Nat.reduceLeDiff, Nat.reduceAdd, Nat.reduceMul, Nat.reduceSub, reduceCtorEq, Int.reduceToNat, Int.reduceLT, Int.reduceLE, Int.reduceEq, Int.reduceNe, Int.reduceBEq, Nat.reduceBEq, Int.reduceBNe, Nat.reduceBNe, Int.reduceAdd, Int.reduceSub, Int.reduceMul, Int.reduceNeg]
  by_cases hl : A.length = B.length
  case neg =>
    have hl' : ¬ (A.length : Int) = B.length := by omega
    have e : ¬ A.map RF.nf = B.map RF.nf := fun e => hl (by simpa using congrArg List.length e)
    simp (dsimp := false) (maxSteps := 4000000) only [hl', go_sem, ↓reduceIte, Nat.reduceEqDiff, Nat.reduceLT, Nat.reduceLeDiff, Nat.reduceAdd, Nat.reduceMul, Nat.reduceSub, reduceCtorEq, Int.reduceToNat, Int.reduceLT, Int.reduceLE, Int.reduceEq, Int.reduceNe, Int.reduceBEq, Nat.reduceBEq, Int.reduceBNe, Nat.reduceBNe, Int.reduceAdd, Int.reduceSub, Int.reduceMul, Int.reduceNeg]
    exact ⟨H, AH.le_refl _, by simp [e], rfl⟩
  have hl' : (A.length : Int) = B.length := by omega
  simp (dsimp := false) (maxSteps := 4000000) only [hl', go_sem, ↓reduceIte, Nat.reduceEqDiff, Nat.reduceLT, Nat.reduceLeDiff, Nat.reduceAdd, Nat.reduceMul, Nat.reduceSub, reduceCtorEq, Int.reduceToNat, Int.reduceLT, Int.reduceLE, Int.reduceEq, Int.reduceNe, Int.reduceBEq, Nat.reduceBEq, Int.reduceBNe, Nat.reduceBNe, Int.reduceAdd, Int.reduceSub, Int.reduceMul, Int.reduceNeg]
  refine AWp.loopo (ι := Nat) (fun i => i ≤ A.length ∧ (A.take i).map RF.nf = (B.take i).map RF.nf) (fun i => [(5, .int .i64 i), (0, .slice b1 A.length c1), (1, .slice b2 B.length c2)]) (fun _ => H) (fun i => A.length - i) 0 ⟨by omega, rfl⟩ (FrLe.of_lks ?_) (AH.le_refl _) fun i hi Q again out => ?_
  · simp (dsimp := false) (maxSteps := 4000000) only [go_sem, ↓reduceIte, Nat.reduceEqDiff, Nat.reduceLT, Nat.reduceLeDiff, Nat.reduceAdd, Nat.reduceMul, Nat.reduceSub, reduceCtorEq, Int.reduceToNat, Int.reduceLT, Int.reduceLE, Int.reduceEq, Int.reduceNe, Int.reduceBEq, Nat.reduceBEq, Int.reduceBNe, Nat.reduceBNe, Int.reduceAdd, Int.reduceSub, Int.reduceMul, Int.reduceNeg]
  obtain ⟨hi, hsame⟩ := hi
  by_cases hlt : (i : Int) < A.length
  case neg =>
    obtain rfl : i = A.length := by omega
    rw [List.take_length, hl, List.take_length] at hsame
    simp (dsimp := false) (maxSteps := 4000000) only [hlt, go_sem, ↓reduceIte, Nat.reduceEqDiff, Nat.reduceLT, Nat.reduceLeDiff, Nat.reduceAdd, Nat.reduceMul, Nat.reduceSub, reduceCtorEq, Int.reduceToNat, Int.reduceLT, Int.reduceLE, Int.reduceEq, Int.reduceNe, Int.reduceBEq, Nat.reduceBEq, Int.reduceBNe, Nat.reduceBNe, Int.reduceAdd, Int.reduceSub, Int.reduceMul, Int.reduceNeg]
    refine out _ _ _ (by simp) ?_
    simp (dsimp := false) (maxSteps := 4000000) only [go_sem, ↓reduceIte, Nat.reduceEqDiff, Nat.reduceLT, Nat.reduceLeDiff, Nat.reduceAdd, Nat.reduceMul, Nat.reduceSub, reduceCtorEq, Int.reduceToNat, Int.reduceLT, Int.reduceLE, Int.reduceEq, Int.reduceNe, Int.reduceBEq, Nat.reduceBEq, Int.reduceBNe, Nat.reduceBNe, Int.reduceAdd, Int.reduceSub, Int.reduceMul, Int.reduceNeg]
    exact ⟨H, AH.le_refl _, by simp [hsame], rfl⟩
  obtain ⟨x, hx⟩ := get_some (l := A) (i := i) (by omega)
  obtain ⟨y, hy⟩ := get_some (l := B) (i := i) (by omega)
  obtain ⟨p1, o1, rfl, hrow1, hrd1⟩ := hA.out.get (Go.AX.map_get (f := encN) hx)
  obtain ⟨p2, o2, rfl, hrow2, hrd2⟩ := hB.out.get (Go.AX.map_get (f := encN) hy)
  have x0 := hrd1 0 _ rfl
  have y0 := hrd2 0 _ rfl
  simp only [Nat.add_zero] at x0 y0
  have hx1 : H.row p1 (o1 + i * 3 + 1) 2 = some [.int .i64 x.p, .slice x.base x.R.length x.cap] := row_of_rd rfl (by decide) fun j c hj => by
    rw [Nat.add_assoc _ 1 j, Nat.add_comm 1 j]
    exact hrd1 (j + 1) c hj
  have hy1 : H.row p2 (o2 + i * 3 + 1) 2 = some [.int .i64 y.p, .slice y.base y.R.length y.cap] := row_of_rd rfl (by decide) fun j c hj => by
    rw [Nat.add_assoc _ 1 j, Nat.add_comm 1 j]
    exact hrd2 (j + 1) c hj
  have ee := i64_succ (i := i) (by omega)
  have hi0 : (0 : Int) ≤ (i : Int) := by omega
  have hlt2 : (i : Int) < B.length := by omega
  have hxy : ∀ {P : Prop}, ¬ x.nf = y.nf → A.map RF.nf = B.map RF.nf → P := fun hne e => by
    have h1 : (A.map RF.nf)[i]? = some x.nf := by simp [hx]
    have h2 : (B.map RF.nf)[i]? = some y.nf := by simp [hy]
    rw [e, h2] at h1; exact absurd (Option.some.inj h1).symm hne
  simp (dsimp := false) (maxSteps := 4000000) only [hlt, go_sem, ↓reduceIte, Nat.reduceEqDiff, Nat.reduceLT, Nat.reduceLeDiff, Nat.reduceAdd, Nat.reduceMul, Nat.reduceSub, reduceCtorEq, Int.reduceToNat, Int.reduceLT, Int.reduceLE, Int.reduceEq, Int.reduceNe, Int.reduceBEq, Nat.reduceBEq, Int.reduceBNe, Nat.reduceBNe, Int.reduceAdd, Int.reduceSub, Int.reduceMul, Int.reduceNeg]
  refine AWp.gen [.pu, .pu, .pu, .pu, .rd, .pu, .pu, .pu, .pu, .rd, .pu, .pu, .pu, .pu, .pu, .pu, .rd, .pu, .pu, .pu, .pu, .rd, .ch, .pu, .pu] [0, 0, 3, 7, 15, 0, 0, 96, 224, 480, 1023, 2047, 4095, 4095, 16383, 32767, 65535, 4095, 4095, 397311, 921599, 1970175, 4194303, 8388607, 16777215] 0 (_) mixed (by kernel_rfl) (AH.le_refl _) ?_
  by_cases hn : x.n = y.n
  case neg =>
    have e : ¬ A.map RF.nf = B.map RF.nf := hxy fun e => hn (congrArg (·.1) e)
    simp (dsimp := false) (maxSteps := 4000000) only [hlt, hlt2, hi0, x0, y0, hn, go_sem, ↓reduceIte, Nat.reduceEqDiff, Nat.reduceLT, Nat.reduceLeDiff, Nat.reduceAdd, Nat.reduceMul, Nat.reduceSub, reduceCtorEq, Int.reduceToNat, Int.reduceLT, Int.reduceLE, Int.reduceEq, Int.reduceNe, Int.reduceBEq, Nat.reduceBEq, Int.reduceBNe, Nat.reduceBNe, Int.reduceAdd, Int.reduceSub, Int.reduceMul, Int.reduceNeg]
    refine out _ _ _ (by simp) ?_
    simp (dsimp := false) (maxSteps := 4000000) only [go_sem, ↓reduceIte, Nat.reduceEqDiff, Nat.reduceLT, Nat.reduceLeDiff, Nat.reduceAdd, Nat.reduceMul, Nat.reduceSub, reduceCtorEq, Int.reduceToNat, Int.reduceLT, Int.reduceLE, Int.reduceEq, Int.reduceNe, Int.reduceBEq, Nat.reduceBEq, Int.reduceBNe, Nat.reduceBNe, Int.reduceAdd, Int.reduceSub, Int.reduceMul, Int.reduceNeg]
    exact ⟨H, AH.le_refl _, by simp [e], rfl⟩
  have hsm := fun H1 (h1 : SlcIn H1 4 x.base x.cap (x.R.map enc)) (h2 : SlcIn H1 4 y.base y.cap (y.R.map enc)) => RefSame_c x.p y.p x.R y.R x.base y.base x.cap y.cap H1 h1 h2
  unfold fv at hsm
  simp (dsimp := false) (maxSteps := 4000000) only [hlt, hlt2, hi0, x0, y0, hn, hx1, hy1, go_sem, ↓reduceIte, Nat.reduceEqDiff, Nat.reduceLT, Nat.reduceLeDiff, Nat.reduceAdd, Nat.reduceMul, Nat.reduceSub, reduceCtorEq, Int.reduceToNat, Int.reduceLT, Int.reduceLE, Int.reduceEq, Int.reduceNe, Int.reduceBEq, Nat.reduceBEq, Int.reduceBNe, Nat.reduceBNe, Int.reduceAdd, Int.reduceSub, Int.reduceMul, Int.reduceNeg]
  refine (hsm _ (hA.inn x (List.mem_of_getElem? hx)) (hB.inn y (List.mem_of_getElem? hy))).mono ?_; rintro _ _ ⟨rfl, rfl⟩
  by_cases hs : sameF x.p y.p x.R y.R = true
  · have hnf : x.nf = y.nf := by
      simp only [sameF, decide_eq_true_eq] at hs
      rw [RF.nf, RF.nf, hn, hs.1, hs.2]
    simp (dsimp := false) (maxSteps := 4000000) only [hs, ee, go_sem, ↓reduceIte, Nat.reduceEqDiff, Nat.reduceLT, Nat.reduceLeDiff, Nat.reduceAdd, Nat.reduceMul, Nat.reduceSub, reduceCtorEq, Int.reduceToNat, Int.reduceLT, Int.reduceLE, Int.reduceEq, Int.reduceNe, Int.reduceBEq, Nat.reduceBEq, Int.reduceBNe, Nat.reduceBNe, Int.reduceAdd, Int.reduceSub, Int.reduceMul, Int.reduceNeg]
    refine again (i + 1) _ _ ⟨by omega, ?_⟩ (FrLe.of_lks (by simp (dsimp := false) (maxSteps := 4000000) only [go_sem, ↓reduceIte, Nat.reduceEqDiff, Nat.reduceLT, Nat.reduceLeDiff, Nat.reduceAdd, Nat.reduceMul, Nat.reduceSub, reduceCtorEq, Int.reduceToNat, Int.reduceLT, Int.reduceLE, Int.reduceEq, Int.reduceNe, Int.reduceBEq, Nat.reduceBEq, Int.reduceBNe, Nat.reduceBNe, Int.reduceAdd, Int.reduceSub, Int.reduceMul, Int.reduceNeg])) (AH.le_refl _) (by omega)
    rw [List.take_add_one, List.take_add_one, hx, hy, List.map_append, List.map_append, hsame]
    simp [hnf]
  · have hs' : sameF x.p y.p x.R y.R = false := by simpa using hs
    have e : ¬ A.map RF.nf = B.map RF.nf := hxy fun e => hs (by
      have h1 : x.p = y.p := congrArg (·.2.1) e
      have h2 : x.R = y.R := congrArg (·.2.2) e
      simp [sameF, h1, h2])
    simp (dsimp := false) (maxSteps := 4000000) only [hs', go_sem, ↓reduceIte, Nat.reduceEqDiff, Nat.reduceLT, Nat.reduceLeDiff, Nat.reduceAdd, Nat.reduceMul, Nat.reduceSub, reduceCtorEq, Int.reduceToNat, Int.reduceLT, Int.reduceLE, Int.reduceEq, Int.reduceNe, Int.reduceBEq, Nat.reduceBEq, Int.reduceBNe, Nat.reduceBNe, Int.reduceAdd, Int.reduceSub, Int.reduceMul, Int.reduceNeg]
    refine out _ _ _ (by simp) ?_
    simp (dsimp := false) (maxSteps := 4000000) only [go_sem, ↓reduceIte, Nat.reduceEqDiff, Nat.reduceLT, Nat.reduceLeDiff, Nat.reduceAdd, Nat.reduceMul, Nat.reduceSub, reduceCtorEq, Int.reduceToNat, Int.reduceLT, Int.reduceLE, Int.reduceEq, Int.reduceNe, Int.reduceBEq, Nat.reduceBEq, Int.reduceBNe, Nat.reduceBNe, Int.reduceAdd, Int.reduceSub, Int.reduceMul, Int.reduceNeg]
    exact ⟨H, AH.le_refl _, by simp [e], rfl⟩
end Go.Proofs.YtamlipffhimfmaaGreatDoor.Ifs

/- ifs: own, Set. -/
namespace Go.Proofs.YtamlipffhimfmaaGreatDoor.Ifs
set_option linter.unusedSimpArgs false
set_option linter.unusedVariables false
open Go Go.AX Go.Proofs Ty Go.Proofs.YtamlipffhimfmaaGreatDoor.File Go.Proofs.YtamlipffhimfmaaGreatDoor.Err
set_option maxHeartbeats 4000000
set_option maxRecDepth 10000

theorem Keep.set {H : AH} {b : Nat} {k : ABlk} : Keep H (H.set b k) (· = b) := ⟨rfl, fun b' hb _ => by rw [find_set, if_neg hb]⟩
theorem own_c (p : Int) (R : List Rc) (base : Option Addr) (cap : Nat) (H : AH) (hs : SlcIn H 4 base cap (R.map enc)) (h0 : R.length ≠ 0) (hR : R.length ≤ 4096) :
    ACalls Tryz.prog 51 #[fv p base R.length cap] H (fun v H' => ∃ b bs, Fresh H b ∧ v = fv p (some ⟨b, 0, none⟩) R.length R.length ∧ R.length * 4 ≤ bs ∧ H' = H.add b (.cells (R.map enc).flatten 26 bs)) := by
  unfold fv
  refine ACalls.enter2 Tryz.func51 rfl Tryz.ntmps51 Tryz.results51 (by simp) ?_; simp (dsimp := false) (maxSteps := 4000000) only [go_sem, ↓reduceIte, Nat.reduceEqDiff, Nat.reduceLT, Nat.reduceLeDiff, Nat.reduceAdd, Nat.reduceMul, Nat.reduceSub, reduceCtorEq, Int.reduceToNat, Int.reduceLT, Int.reduceLE, Int.reduceEq, Int.reduceNe, Int.reduceBEq, Nat.reduceBEq, Int.reduceBNe, Nat.reduceBNe, Int.reduceAdd, Int.reduceSub, Int.reduceMul, Int.reduceNeg]
  refine AllB.mk fun b1 h_b1 => ?_; have hn_b1 := h_b1; (try simp only [fresh_add, fresh_set, ne_eq] at hn_b1); have hr_b1 := hn_b1; (try simp only [@eq_comm Nat b1] at hr_b1); simp (dsimp := false) (maxSteps := 4000000) only [hn_b1, hr_b1, go_sem, ↓reduceIte, Nat.reduceEqDiff, Nat.reduceLT, Nat.reduceLeDiff, Nat.reduceAdd, Nat.reduceMul, Nat.reduceSub, reduceCtorEq, Int.reduceToNat, Int.reduceLT, Int.reduceLE, Int.reduceEq, Int.reduceNe, Int.reduceBEq, Nat.reduceBEq, Int.reduceBNe, Nat.reduceBNe, Int.reduceAdd, Int.reduceSub, Int.reduceMul, Int.reduceNeg]
  refine AllB.mk fun b2 h_b2 => ?_; have hn_b2 := h_b2; (try simp only [fresh_add, fresh_set, ne_eq] at hn_b2); have hr_b2 := hn_b2; (try simp only [@eq_comm Nat b2] at hr_b2); simp (dsimp := false) (maxSteps := 4000000) only [hn_b1, hr_b1, hn_b2, hr_b2, go_sem, ↓reduceIte, Nat.reduceEqDiff, Nat.reduceLT, Nat.reduceLeDiff, Nat.reduceAdd, Nat.reduceMul, Nat.reduceSub, reduceCtorEq, Int.reduceToNat, Int.reduceLT, Int.reduceLE, Int.reduceEq, Int.reduceNe, Int.reduceBEq, Nat.reduceBEq, Int.reduceBNe, Nat.reduceBNe, Int.reduceAdd, Int.reduceSub, Int.reduceMul, Int.reduceNeg]
  refine (Clone_at R base cap _ ((hs.add (by simp only [fresh_add, ne_eq, hn_b1, not_false_eq_true, and_self] : Fresh _ b1)).add (by simp only [fresh_add, ne_eq, hn_b2, not_false_eq_true, and_self] : Fresh _ b2)) hR h0).mono ?_; rintro _ _ ⟨b3, c, bs, h_b3, rfl, hc, hbs, rfl⟩
  have hn_b3 := h_b3; (try simp only [fresh_add, fresh_set, ne_eq] at hn_b3); have hr_b3 := hn_b3; (try simp only [@eq_comm Nat b3] at hr_b3)
  simp (dsimp := false) (maxSteps := 4000000) only [hn_b1, hr_b1, hn_b2, hr_b2, hn_b3, hr_b3, go_sem, ↓reduceIte, Nat.reduceEqDiff, Nat.reduceLT, Nat.reduceLeDiff, Nat.reduceAdd, Nat.reduceMul, Nat.reduceSub, reduceCtorEq, Int.reduceToNat, Int.reduceLT, Int.reduceLE, Int.reduceEq, Int.reduceNe, Int.reduceBEq, Nat.reduceBEq, Int.reduceBNe, Nat.reduceBNe, Int.reduceAdd, Int.reduceSub, Int.reduceMul, Int.reduceNeg]
  refine (Clip_c _ _ _ _ hc).mono ?_; rintro _ _ ⟨rfl, rfl⟩
  simp (dsimp := false) (maxSteps := 4000000) only [hn_b1, hr_b1, hn_b2, hr_b2, hn_b3, hr_b3, go_sem, ↓reduceIte, Nat.reduceEqDiff, Nat.reduceLT, Nat.reduceLeDiff, Nat.reduceAdd, Nat.reduceMul, Nat.reduceSub, reduceCtorEq, Int.reduceToNat, Int.reduceLT, Int.reduceLE, Int.reduceEq, Int.reduceNe, Int.reduceBEq, Nat.reduceBEq, Int.reduceBNe, Nat.reduceBNe, Int.reduceAdd, Int.reduceSub, Int.reduceMul, Int.reduceNeg]
  exact ⟨H.add b3 (.cells (R.map enc).flatten 26 bs), (by refine AH.le_cons ?_ ?_; (show AH.find _ _ = _; simp only [find_add_self, find_add_ne, find_fresh, fresh_add, fresh_set, ne_eq, not_false_eq_true, true_and, and_true, and_self, hn_b1, hr_b1, hn_b2, hr_b2, hn_b3, hr_b3]); (repeat (first | exact AH.le_refl _ | refine AH.le_add ?_ ?_)); all_goals (first | exact AH.le_refl _ | (show AH.find _ _ = _; simp only [find_add_self, find_add_ne, find_fresh, fresh_add, fresh_set, ne_eq, not_false_eq_true, true_and, and_true, and_self, hn_b1, hr_b1, hn_b2, hr_b2, hn_b3, hr_b3]))), b3, bs, hn_b3.2.2, rfl, hbs, rfl⟩
theorem setMs {ms : List MF} {k : Nat} {m m' : MF} (hk : ms[k]? = some m) (hn : m'.n = m.n) (hd : Kd (ms.map MF.nf)) : (ms.set k m').map MF.nf = rp m.n (m'.p, m'.R) (ms.map MF.nf) := by
  apply List.ext_getElem?
  intro j
  rw [List.getElem?_map, List.getElem?_set]
  simp only [rp, List.getElem?_map, List.map_map]
  have hlt := Go.AX.lt_of_get hk
  by_cases e : k = j
  · subst e
    rw [if_pos rfl, if_pos hlt, hk]
    simp [MF.nf, hn]
  · rw [if_neg e]
    cases hj : ms[j]? with
    | none => rfl
    | some x =>
      have : x.n ≠ m.n := fun he => by
        have h1 : ((ms.map MF.nf).map (·.1))[j]? = some m.n := by simp [hj, MF.nf, he]
        have h2 : ((ms.map MF.nf).map (·.1))[k]? = some m.n := by simp [hk, MF.nf]
        exact e ((List.getElem?_inj (by simpa using hlt) hd).1 (h2.trans h1.symm))
      simp [MF.nf, this]
theorem StIn.ft1 {b bm k : Nat} {ms : List MF} {m m' : MF} (hk : ms[k]? = some m) (hb : m'.blk = m.blk) {x : Nat} (hx : ftOf b bm (ms.set k m') x) : ftOf b bm ms x := by
  rcases hx with hx | hx | ⟨y, hy, rfl⟩
  · exact .inl hx
  · exact .inr (.inl hx)
  · rcases List.mem_or_eq_of_mem_set hy with hy | rfl
    · exact .inr (.inr ⟨y, hy, rfl⟩)
    · exact .inr (.inr ⟨m, List.mem_of_getElem? hk, hb⟩)
end Go.Proofs.YtamlipffhimfmaaGreatDoor.Ifs

/- ifs: Add. -/
namespace Go.Proofs.YtamlipffhimfmaaGreatDoor.Ifs
set_option linter.unusedSimpArgs false
set_option linter.unusedVariables false
open Go Go.AX Go.Proofs Ty Go.Proofs.YtamlipffhimfmaaGreatDoor.File Go.Proofs.YtamlipffhimfmaaGreatDoor.Err
set_option maxHeartbeats 4000000
set_option maxRecDepth 10000

theorem Fresh.mk' {H : AH} {b c : Nat} {k : ABlk} (h : Fresh H b) (hn : ¬ b = c) : Fresh (H.set c k) b := ⟨h.1, by rw [find_set, if_neg hn]; exact h.2⟩
theorem StIn.app {H : AH} {b bm : Nat} {ms : List MF} {den : Int} {m : MF} {T : AH} (h : StIn H b bm ms den) (hf : Fresh H m.blk) (hl : lk m.n (ms.map MF.nf) = none) (hb : m.R.length * 4 ≤ m.bs)
    (hT : T = (H.set bm (.amap (ms.map MF.ent ++ [m.ent]))).add m.blk (.cells (m.R.map enc).flatten 26 m.bs)) : StIn T b bm (ms ++ [m]) den := by
  subst hT
  have e1 : b ≠ m.blk := fun e => by have := hf.2; rw [← e, h.top] at this; cases this
  have e2 : bm ≠ m.blk := fun e => by have := hf.2; rw [← e, h.map] at this; cases this
  refine ⟨?_, ?_, fun x hx => ?_, ?_, ?_⟩
  · rw [find_add, if_neg e1, find_set, if_neg h.ne1]; exact h.top
  · rw [find_add, if_neg e2, find_set, if_pos rfl]; simp
  · rcases List.mem_append.1 hx with hx | hx
    · have := h.rows x hx
      have e3 : x.blk ≠ m.blk := fun e => by have h2 := hf.2; rw [← e, this.1] at h2; cases h2
      exact ⟨by rw [find_add, if_neg e3, find_set, if_neg (h.ne3 hx)]; exact this.1, this.2⟩
    · rw [List.mem_singleton.1 hx]
      exact ⟨by rw [find_add, if_pos rfl], hb⟩
  · rw [List.map_append, List.nodup_append]
    refine ⟨h.nd, by simp, fun x hx y hy => ?_⟩
    obtain ⟨z, hz, rfl⟩ := List.mem_map.1 hx
    simp at hy; subst hy
    intro e
    have h2 := hf.2
    rw [← e, (h.rows z hz).1] at h2; cases h2
  · rw [List.map_append]
    have := lk_none.1 hl
    rw [Kd, List.map_append, List.nodup_append]
    refine ⟨h.kd, by simp, fun x hx y hy => ?_⟩
    obtain ⟨z, hz, rfl⟩ := List.mem_map.1 hx
    simp at hy; subst hy
    exact fun e => this z hz e
theorem StIn.ftA {b bm : Nat} {ms : List MF} {m : MF} {ft : Nat → Prop} (h : ∀ x, ftOf b bm ms x → ft x) {x : Nat} (hx : ftOf b bm (ms ++ [m]) x) : ft x ∨ x = m.blk := by
  rcases hx with hx | hx | ⟨y, hy, rfl⟩
  · exact .inl (h x (.inl hx))
  · exact .inl (h x (.inr (.inl hx)))
  · rcases List.mem_append.1 hy with hy | hy
    · exact .inl (h _ (.inr (.inr ⟨y, hy, rfl⟩)))
    · rw [List.mem_singleton.1 hy]; exact .inr rfl
theorem StIn.ftB {b bm : Nat} {ms : List MF} {m : MF} {ft : Nat → Prop} (h : ∀ x, ft x ↔ ftOf b bm ms x) {x : Nat} : (ft x ∨ x = m.blk) ↔ ftOf b bm (ms ++ [m]) x := by
  refine ⟨fun hx => ?_, fun hx => StIn.ftA (fun x => (h x).2) hx⟩
  rcases hx with hx | rfl
  · rcases (h x).1 hx with hx | hx | ⟨y, hy, rfl⟩
    · exact .inl hx
    · exact .inr (.inl hx)
    · exact .inr (.inr ⟨y, List.mem_append_left _ hy, rfl⟩)
  · exact .inr (.inr ⟨m, by simp, rfl⟩)
theorem Add_c {H : AH} {b : Nat} {X : List Nf} {den : Int} {ft : Nat → Prop} (h : StAt H b X den ft) (n p : Int) (R : List Rc) (base : Option Addr) (cap : Nat) (hs : SlcIn H 4 base cap (R.map enc)) :
    ACalls Tryz.prog 42 #[.pointer (some ⟨b, 0, none⟩), .int .i64 n, fv p base R.length cap] H (fun u H' => ∃ ft', u = .int .i64 (addE X n (p, R)) ∧ StAt H' b (addX X n (p, R)) den ft' ∧ Keep H H' ft ∧ ∀ x, ft' x → ft x ∨ Fresh H x) := by
  have hgood := fun H1 (h1 : SlcIn H1 4 base cap (R.map enc)) => File.Good_c p R base cap H1 h1
  have bad : ∀ {e : Int} {T : AH}, addE X n (p, R) = e → e ≠ 0 → H.le T → ∃ H', H'.le T ∧ ∃ ft', Value.int .i64 e = .int .i64 (addE X n (p, R)) ∧ StAt H' b (addX X n (p, R)) den ft' ∧ Keep H H' ft ∧ ∀ x, ft' x → ft x ∨ Fresh H x := fun {e T} he h0 hl => by
    have hx : addX X n (p, R) = X := by rw [addX, he, if_neg h0]
    exact ⟨H, hl, ft, by rw [he], by rw [hx]; exact h, Keep.refl, fun x h => .inl h⟩
  unfold fv at hgood ⊢
  refine ACalls.enter2 Tryz.func42 rfl Tryz.ntmps42 Tryz.results42 (by simp) ?_; simp (dsimp := false) (maxSteps := 4000000) only [go_sem, ↓reduceIte, Nat.reduceEqDiff, Nat.reduceLT, Nat.reduceLeDiff, Nat.reduceAdd, Nat.reduceMul, Nat.reduceSub, reduceCtorEq, Int.reduceToNat, Int.reduceLT, Int.reduceLE, Int.reduceEq, Int.reduceNe, Int.reduceBEq, Nat.reduceBEq, Int.reduceBNe, Nat.reduceBNe, Int.reduceAdd, Int.reduceSub, Int.reduceMul, Int.reduceNeg]
  refine AllB.mk fun b5 h_b5 => ?_; have hn_b5 := h_b5; (try simp only [fresh_add, fresh_set, ne_eq] at hn_b5); have hr_b5 := hn_b5; (try simp only [@eq_comm Nat b5] at hr_b5); simp (dsimp := false) (maxSteps := 4000000) only [hn_b5, hr_b5, go_sem, ↓reduceIte, Nat.reduceEqDiff, Nat.reduceLT, Nat.reduceLeDiff, Nat.reduceAdd, Nat.reduceMul, Nat.reduceSub, reduceCtorEq, Int.reduceToNat, Int.reduceLT, Int.reduceLE, Int.reduceEq, Int.reduceNe, Int.reduceBEq, Nat.reduceBEq, Int.reduceBNe, Nat.reduceBNe, Int.reduceAdd, Int.reduceSub, Int.reduceMul, Int.reduceNeg]
  by_cases a1 : n < 0
  · simp (dsimp := false) (maxSteps := 4000000) only [a1, hn_b5, hr_b5, go_sem, ↓reduceIte, Nat.reduceEqDiff, Nat.reduceLT, Nat.reduceLeDiff, Nat.reduceAdd, Nat.reduceMul, Nat.reduceSub, reduceCtorEq, Int.reduceToNat, Int.reduceLT, Int.reduceLE, Int.reduceEq, Int.reduceNe, Int.reduceBEq, Nat.reduceBEq, Int.reduceBNe, Nat.reduceBNe, Int.reduceAdd, Int.reduceSub, Int.reduceMul, Int.reduceNeg]
    exact bad (by simp [addE, a1]) (by decide) (AH.le_add (AH.le_refl _) ((by simp only [fresh_add, fresh_set, ne_eq, hn_b5, not_false_eq_true, and_self] : Fresh _ b5).2))
  by_cases a2 : 64 ≤ n
  · simp (dsimp := false) (maxSteps := 4000000) only [a1, a2, hn_b5, hr_b5, go_sem, ↓reduceIte, Nat.reduceEqDiff, Nat.reduceLT, Nat.reduceLeDiff, Nat.reduceAdd, Nat.reduceMul, Nat.reduceSub, reduceCtorEq, Int.reduceToNat, Int.reduceLT, Int.reduceLE, Int.reduceEq, Int.reduceNe, Int.reduceBEq, Nat.reduceBEq, Int.reduceBNe, Nat.reduceBNe, Int.reduceAdd, Int.reduceSub, Int.reduceMul, Int.reduceNeg]
    exact bad (by simp [addE, a2]) (by decide) (AH.le_add (AH.le_refl _) ((by simp only [fresh_add, fresh_set, ne_eq, hn_b5, not_false_eq_true, and_self] : Fresh _ b5).2))
  simp (dsimp := false) (maxSteps := 4000000) only [a1, a2, hn_b5, hr_b5, go_sem, ↓reduceIte, Nat.reduceEqDiff, Nat.reduceLT, Nat.reduceLeDiff, Nat.reduceAdd, Nat.reduceMul, Nat.reduceSub, reduceCtorEq, Int.reduceToNat, Int.reduceLT, Int.reduceLE, Int.reduceEq, Int.reduceNe, Int.reduceBEq, Nat.reduceBEq, Int.reduceBNe, Nat.reduceBNe, Int.reduceAdd, Int.reduceSub, Int.reduceMul, Int.reduceNeg]
  refine (hgood _ (hs.add (by simp only [fresh_add, ne_eq, hn_b5, not_false_eq_true, and_self] : Fresh _ b5))).mono ?_; rintro _ _ ⟨rfl, rfl⟩
  cases hg : goodF p R with
  | false =>
    simp (dsimp := false) (maxSteps := 4000000) only [hn_b5, hr_b5, go_sem, ↓reduceIte, Nat.reduceEqDiff, Nat.reduceLT, Nat.reduceLeDiff, Nat.reduceAdd, Nat.reduceMul, Nat.reduceSub, reduceCtorEq, Int.reduceToNat, Int.reduceLT, Int.reduceLE, Int.reduceEq, Int.reduceNe, Int.reduceBEq, Nat.reduceBEq, Int.reduceBNe, Nat.reduceBNe, Int.reduceAdd, Int.reduceSub, Int.reduceMul, Int.reduceNeg]
    exact bad (by simp [addE, a1, a2, hg]) (by decide) (AH.le_add (AH.le_refl _) ((by simp only [fresh_add, fresh_set, ne_eq, hn_b5, not_false_eq_true, and_self] : Fresh _ b5).2))
  | true =>
    obtain ⟨hl1, hl2⟩ := goodF_len hg
    obtain ⟨bm, ms, h1, rfl, hft⟩ := h
    have r0 : H.rd ⟨b, 0, none⟩ = some (.map (some bm)) := by rw [rd_find h1.top]; rfl
    have hmp : H.mp bm = some (ms.map MF.ent) := by rw [AH.mp, h1.map]
    have hms : ∀ es, H.mset bm es = some (H.set bm (.amap es)) := fun es => by rw [AH.mset, h1.map]
    have n1 : ¬ b5 = b := h_b5.ne_find h1.top
    have n2 : ¬ b5 = bm := h_b5.ne_find h1.map
    rcases h1.at_ n with ⟨hm, hl⟩ | ⟨k, m, hm, hk, hn, hl⟩
    · have he : addE (ms.map MF.nf) n (p, R) = 0 := by simp [addE, a1, a2, hg, hl]
      have hx : addX (ms.map MF.nf) n (p, R) = ms.map MF.nf ++ [(n, (p, R))] := by rw [addX, if_pos he]
      rw [he, hx]
      
      simp (dsimp := false) (maxSteps := 4000000) only [r0, n1, n2, hmp, hm, hn_b5, hr_b5, go_sem, ↓reduceIte, Nat.reduceEqDiff, Nat.reduceLT, Nat.reduceLeDiff, Nat.reduceAdd, Nat.reduceMul, Nat.reduceSub, reduceCtorEq, Int.reduceToNat, Int.reduceLT, Int.reduceLE, Int.reduceEq, Int.reduceNe, Int.reduceBEq, Nat.reduceBEq, Int.reduceBNe, Nat.reduceBNe, Int.reduceAdd, Int.reduceSub, Int.reduceMul, Int.reduceNeg]
      refine AllB.mk fun b7 h_b7 => ?_; have hn_b7 := h_b7; (try simp only [fresh_add, fresh_set, ne_eq] at hn_b7); have hr_b7 := hn_b7; (try simp only [@eq_comm Nat b7] at hr_b7); simp (dsimp := false) (maxSteps := 4000000) only [hn_b5, hr_b5, hn_b7, hr_b7, go_sem, ↓reduceIte, Nat.reduceEqDiff, Nat.reduceLT, Nat.reduceLeDiff, Nat.reduceAdd, Nat.reduceMul, Nat.reduceSub, reduceCtorEq, Int.reduceToNat, Int.reduceLT, Int.reduceLE, Int.reduceEq, Int.reduceNe, Int.reduceBEq, Nat.reduceBEq, Int.reduceBNe, Nat.reduceBNe, Int.reduceAdd, Int.reduceSub, Int.reduceMul, Int.reduceNeg]
      have n3 : ¬ b7 = b := hn_b7.2.ne_find h1.top
      have n4 : ¬ b7 = bm := hn_b7.2.ne_find h1.map
      refine AWp.gen [.pu, .pu, .pu, .rd, .pu, .rd, .ch, .ch] [0, 1, 3, 7, 0, 0, 32, 127] 7 (_) mixed (by kernel_rfl) (AH.le_refl _) ?_
      simp (dsimp := false) (maxSteps := 4000000) only [r0, n1, n2, n3, n4, hn_b5, hr_b5, hn_b7, hr_b7, go_sem, ↓reduceIte, Nat.reduceEqDiff, Nat.reduceLT, Nat.reduceLeDiff, Nat.reduceAdd, Nat.reduceMul, Nat.reduceSub, reduceCtorEq, Int.reduceToNat, Int.reduceLT, Int.reduceLE, Int.reduceEq, Int.reduceNe, Int.reduceBEq, Nat.reduceBEq, Int.reduceBNe, Nat.reduceBNe, Int.reduceAdd, Int.reduceSub, Int.reduceMul, Int.reduceNeg]
      refine (own_c p R base cap _ ((hs.add (by simp only [fresh_add, ne_eq, hn_b5, not_false_eq_true, and_self] : Fresh _ b5)).add (by simp only [fresh_add, ne_eq, hn_b7, not_false_eq_true, and_self] : Fresh _ b7)) (by omega) (by omega)).mono ?_; rintro _ _ ⟨b8, bs, h_b8, rfl, hbs, rfl⟩
      have hn_b8 := h_b8; (try simp only [fresh_add, fresh_set, ne_eq] at hn_b8); have hr_b8 := hn_b8; (try simp only [@eq_comm Nat b8] at hr_b8)
      have n5 : ¬ b8 = b := hn_b8.2.2.ne_find h1.top
      have n6 : ¬ b8 = bm := hn_b8.2.2.ne_find h1.map
      simp (dsimp := false) (maxSteps := 4000000) only [n1, n2, n4, n6, hmp, hms, hm, hn_b5, hr_b5, hn_b7, hr_b7, hn_b8, hr_b8, go_sem, ↓reduceIte, Nat.reduceEqDiff, Nat.reduceLT, Nat.reduceLeDiff, Nat.reduceAdd, Nat.reduceMul, Nat.reduceSub, reduceCtorEq, Int.reduceToNat, Int.reduceLT, Int.reduceLE, Int.reduceEq, Int.reduceNe, Int.reduceBEq, Nat.reduceBEq, Int.reduceBNe, Nat.reduceBNe, Int.reduceAdd, Int.reduceSub, Int.reduceMul, Int.reduceNeg]
      refine ⟨AH.le_add (AH.le_refl _) h_b8.2, (H.set bm (.amap (ms.map MF.ent ++ [(MF.mk n p b8 bs R).ent]))).add b8 (.cells (R.map enc).flatten 26 bs), ?_, fun x => ft x ∨ x = b8, ?_, ?_, ?_⟩
      · refine AH.le_cons (find_add_self _ _ _) ?_
        refine AH.le_add (AH.le_add (AH.le_add (AH.le_refl _) ?_) ?_) ?_
        · rw [find_set, if_neg n2]; exact h_b5.2
        · rw [find_add, if_neg hn_b7.1, find_set, if_neg n4]; exact hn_b7.2.2
        · rw [find_add, if_neg hn_b8.1, find_add, if_neg hn_b8.2.1, find_set, if_neg n6]; exact hn_b8.2.2.2
      · exact ⟨bm, ms ++ [MF.mk n p b8 bs R], h1.app hn_b8.2.2 hl hbs rfl, by rw [List.map_append]; rfl, fun x => StIn.ftB (m := MF.mk n p b8 bs R) hft⟩
      · exact (Keep.set.mono fun x hx => (hft x).2 (.inr (.inl hx))).trans (Keep.add (Fresh.mk' hn_b8.2.2 n6))
      · rintro x (hx | rfl)
        · exact .inl hx
        · exact .inr hn_b8.2.2
      
    · 
      unfold MF.val fv at hm
      simp (dsimp := false) (maxSteps := 4000000) only [r0, n1, n2, hmp, hm, hn_b5, hr_b5, go_sem, ↓reduceIte, Nat.reduceEqDiff, Nat.reduceLT, Nat.reduceLeDiff, Nat.reduceAdd, Nat.reduceMul, Nat.reduceSub, reduceCtorEq, Int.reduceToNat, Int.reduceLT, Int.reduceLE, Int.reduceEq, Int.reduceNe, Int.reduceBEq, Nat.reduceBEq, Int.reduceBNe, Nat.reduceBNe, Int.reduceAdd, Int.reduceSub, Int.reduceMul, Int.reduceNeg]
      refine AllB.mk fun b7 h_b7 => ?_; have hn_b7 := h_b7; (try simp only [fresh_add, fresh_set, ne_eq] at hn_b7); have hr_b7 := hn_b7; (try simp only [@eq_comm Nat b7] at hr_b7); simp (dsimp := false) (maxSteps := 4000000) only [hn_b5, hr_b5, hn_b7, hr_b7, go_sem, ↓reduceIte, Nat.reduceEqDiff, Nat.reduceLT, Nat.reduceLeDiff, Nat.reduceAdd, Nat.reduceMul, Nat.reduceSub, reduceCtorEq, Int.reduceToNat, Int.reduceLT, Int.reduceLE, Int.reduceEq, Int.reduceNe, Int.reduceBEq, Nat.reduceBEq, Int.reduceBNe, Nat.reduceBNe, Int.reduceAdd, Int.reduceSub, Int.reduceMul, Int.reduceNeg]
      exact bad (by simp [addE, a1, a2, hg, hl]) (by decide) (AH.le_add (AH.le_add (AH.le_refl _) ((by simp only [fresh_add, fresh_set, ne_eq, hn_b5, not_false_eq_true, and_self] : Fresh _ b5).2)) ((by simp only [fresh_add, fresh_set, ne_eq, hn_b7, not_false_eq_true, and_self] : Fresh _ b7).2))
      
end Go.Proofs.YtamlipffhimfmaaGreatDoor.Ifs

/- A region that draws its order, walked in an order of our choosing. -/
namespace Go.AX
set_option linter.unusedSimpArgs false
set_option linter.unusedVariables false
open Go Go.RowKit
section
variable {P : Program} {ops : Array Oper}
/-- What is asked of i ahead of j in the order that is walked. -/
def prB (ops : Array Oper) (cls : List Cl) (anc : List Nat) (i j : Nat) : Bool :=
  !waitsB ops i j && (isAnc anc j i || match ops[i]?, ops[j]? with | some oi, some oj => oi.apart ops oj | _, _ => true) &&
  (decide (cls[j]? ≠ some .ch) || decide (cls[i]? ≠ some .ch ∧ cls[i]? ≠ some .al) || isAnc anc j i)
def pairB (f : Nat → Nat → Bool) : List Nat → Bool
  | [] => true
  | x :: l => l.all (f x) && pairB f l
theorem pairB_spec {f : Nat → Nat → Bool} : ∀ {l : List Nat}, pairB f l = true → l.Pairwise fun x y => f x y = true
  | [], _ => .nil
  | x :: l, h => by
    simp only [pairB, Bool.and_eq_true, List.all_eq_true] at h
    exact .cons h.1 (pairB_spec h.2)
def genPB (ops : Array Oper) (cls : List Cl) (anc : List Nat) (ord : List Nat) : Bool :=
  Region.noSelect ops && decide (cls.length = ops.size) && ancB ops anc &&
  ((List.range ops.size).all fun i => match ops[i]? with | some o => o.after.all fun e => !Region.binds .any e || decide (e.on < i) | none => true) &&
  pairB (prB ops cls anc) ord && decide (ord.Nodup ∧ ord.length = ops.size ∧ ∀ i ∈ ord, i < ops.size)
end
theorem nodup_range_le {n : Nat} : ∀ {l : List Nat}, l.Nodup → (∀ x ∈ l, x < n) → l.length ≤ n := by
  induction n with
  | zero =>
    intro l _ h
    cases l with
    | nil => exact Nat.le_refl _
    | cons x l => exact absurd (h x (by simp)) (by omega)
  | succ n ih =>
    intro l hd h
    have h1 := ih (l := l.erase n) (hd.erase n) fun x hx => by
      have hx1 := List.mem_of_mem_erase hx
      have hx2 : x ≠ n := fun e => by subst e; exact (hd.not_mem_erase) hx
      have := h x hx1
      omega
    rw [List.length_erase] at h1
    split at h1 <;> omega
section
variable {P : Program} {ops : Array Oper} {Hc : AH} {R : Act → AH → Prop}
structure GInvP (ord : List Nat) (ops : Array Oper) (cls : List Cl) (ls : Array Bool) (es : List En) : Prop where
  size : ls.size = ops.size
  mem : ∀ i, i ∈ ids es ↔ i < ops.size ∧ ls.getD i true = false
  pw : (ids es).Sublist ord
  nd : ord.Nodup
  kind : ∀ c i, En.op c i ∈ es → cls[i]? = some c
  clo : ∀ x y, ls.getD x false = true → waitsB ops x y = true → ls.getD y false = true

theorem GInvP.step {ord : List Nat} {ops : Array Oper} {cls : List Cl} {ls : Array Bool} {pre post mid : List En} {c : Cl} {i : Nat} (inv : GInvP ord ops cls ls (pre ++ .op c i :: post))
    (hw : ∀ y, waitsB ops i y = true → ls.getD y false = true) (hm : ids mid = []) (hk : ∀ c i, En.op c i ∉ mid) : GInvP ord ops cls (ls.setIfInBounds i true) (pre ++ (mid ++ post)) := by
  have hids : ids (pre ++ .op c i :: post) = ids pre ++ i :: ids post := by rw [ids_app, ids_op]
  have hids' : ids (pre ++ (mid ++ post)) = ids pre ++ ids post := by rw [ids_app, ids_app, hm, List.nil_append]
  have hpw := inv.pw
  rw [hids] at hpw
  have hi : i < ops.size := ((inv.mem i).1 (by rw [hids]; simp)).1
  refine ⟨by simp [inv.size], fun j => ?_, ?_, inv.nd, fun c' j hj => ?_, fun x y hx hxy => ?_⟩
  · rw [hids']
    have h1 := inv.mem j
    rw [hids] at h1
    by_cases e : j = i
    · subst e
      have hd := List.nodup_append.1 (inv.nd.sublist hpw)
      have n1 : j ∉ ids pre := fun h => hd.2.2 j h j (by simp) rfl
      have n2 : j ∉ ids post := (List.nodup_cons.1 hd.2.1).1
      rw [getD_set_self (by rw [inv.size]; exact hi)]
      simp [n1, n2]
    · rw [getD_set_ne true (Ne.symm e), ← h1]
      simp [e]
  · rw [hids']
    exact (List.Sublist.append_left (List.sublist_cons_self _ _) _).trans hpw
  · refine inv.kind c' j ?_
    rcases List.mem_append.1 hj with h | h
    · exact List.mem_append_left _ h
    · rcases List.mem_append.1 h with h | h
      · exact absurd h (hk _ _)
      · exact List.mem_append_right _ (List.mem_cons_of_mem _ h)
  · by_cases e : x = i
    · subst e; exact getD_set_true (hw y hxy)
    · rw [getD_set_ne false (Ne.symm e)] at hx
      exact getD_set_true (inv.clo x y hx hxy)

theorem gen_anyP {ord : List Nat} {cls : List Cl} {anc : List Nat} {Hc : AH} {E : Nat → Option Obj} {R : Act → AH → Prop} {Q : Exit → Act → World → Prop} (hB : genPB ops cls anc ord = true) (hR : ∀ a H w, R a H → Sat E H w → Q .normal a w) :
    ∀ (f : Nat) (ls : Array Bool) (es : List En) (a : Act) (H : AH) (w : World), f = (ids es).length → GInvP ord ops cls ls es → Sat E (phy es H) w → frs es H →
      ((∃ i, En.op .rd i ∈ es) → Hc.le H) → GG P ops Hc ops.size R es a H → wpAny P .any ops Q f ls a w := by
  simp only [genPB, Bool.and_eq_true, decide_eq_true_eq, List.all_eq_true, List.mem_range] at hB
  obtain ⟨⟨⟨⟨⟨hns, hlen⟩, hanc⟩, hback⟩, hpair⟩, hnd⟩ := hB
  have hP := pairB_spec hpair
  have hsel : ∀ (j : Nat) (o : Oper) cs b, ops[j]? = some o → o.op ≠ .select cs b := Region.noSelect_spec hns
  have back : ∀ i y, waitsB ops i y = true → y < i := fun i y h => by
    obtain ⟨o, ho, e, he, hb, heq⟩ := Region.waitsFor_spec h
    have hlt := (Array.getElem?_eq_some_iff.1 ho).1
    have h1 := hback i hlt
    rw [ho] at h1
    have h2 := Array.all_eq_true'.1 h1 e he
    rw [← heq]; simpa [hb] using h2
  have waits_of : ∀ i o e, ops[i]? = some o → e ∈ o.after → Region.binds .any e = true → waitsB ops i e.on = true := fun i o e ho he hb => by
    unfold waitsB Region.waitsFor
    rw [ho]
    exact Array.any_eq_true'.2 ⟨e, he, by simp [hb]⟩
  intro f
  induction f with
  | zero =>
    intro ls es a H w hf inv hs hfr hrd hG
    have h1 : ids es = [] := List.eq_nil_of_length_eq_zero hf.symm
    refine ⟨?_, hR _ _ _ (GG_end es a H h1 hfr hG) hs⟩
    cases hr : Region.ready .any ops ls with
    | nil => rfl
    | cons i l =>
      obtain ⟨hun, o, ho, _⟩ := mem_ready.1 (show i ∈ Region.ready .any ops ls by rw [hr]; simp)
      have hlt := (Array.getElem?_eq_some_iff.1 ho).1
      exact absurd ((inv.mem i).2 ⟨hlt, hun⟩) (by rw [h1]; simp)
  | succ f ih =>
    intro ls es a H w hf inv hs hfr hrd hG
    refine ⟨fun h0 => ?_, fun i hi => ?_⟩
    · exfalso
      cases hq : ids es with
      | nil => rw [hq] at hf; cases hf
      | cons h tl =>
        have hh := (inv.mem h).1 (by rw [hq]; simp)
        have : h ∈ Region.ready .any ops ls := mem_ready.2 ⟨hh.2, ops[h]'hh.1, Array.getElem?_eq_getElem hh.1, fun e he hb => by
          have hw := waits_of h _ e (Array.getElem?_eq_getElem hh.1) he hb
          have hlt := back h _ hw
          refine getD_done (by rw [inv.size]; omega) fun hun => ?_
          have hm := (inv.mem e.on).2 ⟨by omega, hun⟩
          have hpw := hP.sublist inv.pw
          rw [hq] at hm hpw
          rcases List.mem_cons.1 hm with h7 | h7
          · omega
          · have := (List.pairwise_cons.1 hpw).1 _ h7
            simp only [prB, Bool.and_eq_true] at this
            rw [hw] at this; simp at this⟩
        rw [h0] at this; cases this
    · obtain ⟨hun, oi, hoi, hall⟩ := mem_ready.1 hi
      have hlt := (Array.getElem?_eq_some_iff.1 hoi).1
      have hwd : ∀ y, waitsB ops i y = true → ls.getD y false = true := fun y h => by
        obtain ⟨o, ho, e, he, hb, heq⟩ := Region.waitsFor_spec h
        rw [hoi] at ho; cases ho
        rw [← heq]; exact hall e he hb
      have hmem := (inv.mem i).2 ⟨hlt, hun⟩
      obtain ⟨pre, c, post, rfl⟩ := split_of hmem
      have hidl : (ids (pre ++ .op c i :: post)).length = (ids pre).length + (ids post).length + 1 := by rw [ids_app, ids_op]; simp; omega
      have noanc : ∀ h, h ∈ ids (pre ++ .op c i :: post) → isAnc anc i h = false := fun h hh => by
        cases ha : isAnc anc i h with
        | false => rfl
        | true =>
          have hd := anc_done hanc (D := fun x => ls.getD x false = true) inv.clo i hlt hwd h ha
          have hu := (inv.mem h).1 hh
          have hls : h < ls.size := by rw [inv.size]; exact hu.1
          have e1 : ls[h]? = some ls[h] := Array.getElem?_eq_getElem hls
          have hu2 := hu.2
          simp only [Array.getD_eq_getD_getElem?, e1, Option.getD_some] at hd hu2
          rw [hd] at hu2; cases hu2
      have hpw := hP.sublist inv.pw
      rw [ids_app, ids_op] at hpw
      have hbefore : ∀ h, h ∈ ids pre → prB ops cls anc h i = true := fun h hh => (List.pairwise_append.1 hpw).2.2 h hh i (by simp)
      have haps : Aps ops oi pre := fun h oh hh ho => by
        have h1 := hbefore h hh
        simp only [prB, Bool.and_eq_true] at h1
        replace h1 := h1.1.2
        rw [noanc h (by rw [ids_app]; exact List.mem_append_left _ hh), ho, hoi] at h1
        exact Oper.apart_spec (by simpa using h1)
      have hkc : cls[i]? = some c := inv.kind c i (by simp)
      have hfp := (frs_append _ _ _).1 hfr
      have hwo : ∀ {K : Act → World → Prop}, wpOp P ops Q0 i K a w → wpOp P ops Q i K a w := fun h => wpOp_of_Q0 (fun ⟨_, _, h⟩ => h) h
      rw [phy_append] at hs
      have rdcase : ∀ (hc : c = .rd ∨ c = .pu), wpOp P ops Q i (wpAny P .any ops Q f (ls.setIfInBounds i true)) a w := fun hc => by
        have hCC : CX Hc c w := by
          have h2 : H.le (phy post (phy pre H)) := AH.le_trans (phy_le pre hfp.1) (phy_le post hfp.2)
          rcases hc with rfl | rfl
          · exact ⟨E, hs.mono (AH.le_trans (hrd ⟨i, by simp⟩) h2)⟩
          · trivial
        obtain ⟨v, hy⟩ := GG_ext (e := .op c i) (post := post) (oi := oi) (Φ := fun a => ∃ v, RY P ops (CX Hc c) oi v a) (fun a H hg => by
            have : ∃ o v, ops[i]? = some o ∧ RY P ops (CX Hc c) o v a ∧ GG P ops Hc ops.size R post (a.put o.dst v) H := by
              rcases hc with rfl | rfl <;> exact hg
            obtain ⟨o, v, h1, h2, _⟩ := this
            rw [hoi] at h1; cases h1
            exact ⟨v, h2⟩) (fun oh u a hap ⟨v, hv⟩ => ⟨v, hv.back' hap (fun cs b => hsel i oi cs b hoi) u⟩) pre a H _ w haps hfp.1 (hs.mono (phy_le post hfp.2)) hG
        have hG' := GG_rd hsel hc hoi ⟨w, hCC⟩ pre a H haps hG hy
        refine hy.wpOp hoi hCC (ih _ (pre ++ post) _ H w (by rw [hidl] at hf; rw [ids_app, List.length_append]; omega) ?_ (by rw [phy_append]; exact hs) ((frs_append _ _ _).2 hfp) (fun ⟨j, hj⟩ => hrd ⟨j, by
          rcases List.mem_append.1 hj with h | h
          · exact List.mem_append_left _ h
          · exact List.mem_append_right _ (List.mem_cons_of_mem _ h)⟩) hG')
        exact inv.step hwd (mid := []) rfl (fun _ _ h => by cases h)
      cases c with
      | rd => exact rdcase (.inl rfl)
      | pu => exact rdcase (.inr rfl)
      | al =>
        obtain ⟨p, hg, hp⟩ := GG_ext (e := .op .al i) (post := post) (oi := oi) (Φ := fun a => ∃ p, oi.guard = none ∧ alc P oi.op a.eval = some p) (fun a H hg => by
            obtain ⟨o, p, h1, h2, h3, _⟩ := hg
            rw [hoi] at h1; cases h1
            exact ⟨p, h2, h3⟩) (fun oh u a hap ⟨p, h1, h2⟩ => ⟨p, h1, by rw [← alc_put hap u]; exact h2⟩) pre a H _ w haps hfp.1 (hs.mono (phy_le post hfp.2)) hG
        unfold wpOp
        simp only [hoi]
        have hwant : Region.wanted oi (yielded ops a.tmps) = true := by unfold Region.wanted; rw [hg]
        simp only [hwant, if_true]
        refine .inl ?_
        obtain ⟨nx, w', H', q1, q2, q3⟩ := alc_sound (o := oi) hp (phy post (phy pre H)) E w hs
        have fin : ∀ b w'', Fresh (phy post (phy pre H)) b → Sat E ((phy post (phy pre H)).add b p.2) w'' → wpAny P .any ops Q f (ls.setIfInBounds i true) (a.put oi.dst (p.1 b)) w'' := fun b w'' hb hsb => by
          have hG' := GG_al hsel (b := b) hoi pre a H haps hG hp
          obtain ⟨r1, r2⟩ := phy_add post (k := p.2) hfp.2 hb
          refine ih _ (pre ++ .ea b p.2 :: post) _ H w'' (by rw [hidl] at hf; rw [ids_app, ids_ea, List.length_append]; omega) ?_ ?_ ((frs_append _ _ _).2 ⟨hfp.1, Fresh.of_le (phy_le post hfp.2) hb, r1⟩) (fun ⟨j, hj⟩ => hrd ⟨j, by
            rcases List.mem_append.1 hj with h | h
            · exact List.mem_append_left _ h
            · rcases List.mem_cons.1 h with h | h
              · cases h
              · exact List.mem_append_right _ (List.mem_cons_of_mem _ h)⟩) hG'
          · exact inv.step hwd (mid := [.ea b p.2]) rfl (fun _ _ h => by simp at h)
          · rw [phy_append]; exact hsb.mono r2.le
        unfold Oper.wp
        rw [q1]
        cases nx <;> simp only [anext] at q3 <;> simp only [Oper.upon]
        case value v => obtain ⟨b, hb, rfl, rfl⟩ := q3; exact fin b w' hb q2
        case skip => obtain ⟨b, hb, hv, rfl⟩ := q3; rw [hv]; exact fin b w' hb q2
        case enter fn args =>
          refine (q3 E w' q2).mono ?_
          rintro e w'' ⟨v, H2, rfl, h2, b, hb, rfl, rfl⟩
          exact fin b w'' hb h2
      | ch =>
        have hsoft : soft pre := by
          have key : ∀ l : List En, (∀ c j, En.op c j ∈ l → c = .rd ∨ c = .pu) → soft l := fun l => by
            induction l with
            | nil => intro _; trivial
            | cons e l ihl =>
              intro h
              cases e with
              | op c j => exact ⟨h c j (by simp), ihl fun c j hj => h c j (List.mem_cons_of_mem _ hj)⟩
              | ea b k => exact ihl fun c j hj => h c j (List.mem_cons_of_mem _ hj)
          refine key pre fun c j hj => ?_
          have hjm : j ∈ ids pre := List.mem_filterMap.2 ⟨_, hj, rfl⟩
          have h1 := hbefore j hjm
          simp only [prB, Bool.and_eq_true] at h1
          replace h1 := h1.2
          simp only [Bool.or_eq_true, decide_eq_true_eq] at h1
          rcases h1 with (h1 | h2) | h2
          · exact absurd hkc h1
          · have hkj := inv.kind c j (List.mem_append_left _ hj)
            rw [hkj] at h2
            cases c <;> simp at h2 ⊢
          · have hkj := inv.kind c j (List.mem_append_left _ hj)
            rw [noanc j (by rw [ids_app]; exact List.mem_append_left _ hjm)] at h2
            cases h2
        obtain ⟨N, q1, q2⟩ := GG_ch hsel hoi pre a H haps hsoft hfp.1 hG
        obtain ⟨E1, q3, q4⟩ := Sat.under' post (H := phy pre H) hfp.2 hs
        refine hwo (wpOp_mono' ?_ (q1 E1 w q3))
        rintro a' w' ⟨v, H', rfl, h1, h2⟩
        obtain ⟨r1, r2⟩ := q4 _ _ h1
        obtain ⟨r3, r4⟩ := q2 v H' h2
        have hrd' : (∃ k, En.op .rd k ∈ strip pre ++ post) → Hc.le H' := fun ⟨k, hk⟩ => by
          exact r3 hlt
        refine ih _ (strip pre ++ post) _ H' w' (by rw [hidl] at hf; rw [ids_app, ids_strip, List.length_append]; omega) ?_ (by rw [phy_soft]; exact r1) ((frs_soft _ _ _).2 r2) hrd' r4
        · have h6 := inv.step hwd (mid := []) rfl (fun _ _ h => by cases h)
          refine ⟨h6.size, fun j => ?_, ?_, h6.nd, fun c j hj => h6.kind c j ?_, h6.clo⟩
          · rw [← h6.mem j, ids_app, ids_app, ids_strip]; rfl
          · have := h6.pw
            rw [ids_app] at this
            rw [ids_app, ids_strip]; exact this
          · rcases List.mem_append.1 hj with h | h
            · exact List.mem_append_left _ ((mem_strip _ _ _).1 h)
            · exact List.mem_append_right _ h


end
def sel (ops : Array Oper) : List Nat → List Oper → Prop
  | [], [] => True
  | x :: o, y :: l => ops[x]? = some y ∧ sel ops o l
  | _, _ => False
def entp : List Nat → List Cl → List En
  | x :: o, c :: cs => .op c x :: entp o cs
  | _, _ => []
def prm {α : Type} (l : List α) : List Nat → List α
  | [] => []
  | i :: o => match l[i]? with
    | some x => x :: prm l o
    | none => prm l o
theorem prm_nil {α : Type} {l : List α} : prm l [] = [] := Eq.trans rfl rfl
def pm {α : Type} : Option α → List α → List α
  | some x, l => x :: l
  | none, l => l
theorem pm_some {α : Type} {x : α} {l : List α} : pm (some x) l = x :: l := Eq.trans rfl rfl
theorem prm_eq {α : Type} {l : List α} {i : Nat} {o : List Nat} : prm l (i :: o) = pm l[i]? (prm l o) := by rw [prm]; cases l[i]? <;> rfl
theorem prm_cons {α : Type} {l : List α} {i : Nat} {o : List Nat} {x : α} (h : l[i]? = some x) : prm l (i :: o) = x :: prm l o := by rw [prm, h]
section
variable {P : Program} {ops : Array Oper} {Hc : AH} {n : Nat} {ds : List (Option Tmp)}
theorem gw_GGp {Q : Exit → Fr → AH → Prop} {M : Nat} (hds : ds = ops.toList.map (·.dst)) : ∀ (ord : List Nat) (cs : List Cl) (l : List Oper) (k : Nat) (fr : Fr) (H : AH) (a : Act), clsB cs l = true → sel ops ord l → k + l.length ≤ M →
    gw P n ds Hc M k cs l fr H (Q .normal) → FrOk n fr a → GG P ops Hc ops.size (RR n Q) (entp ord cs) a H
  | [], [], [], k, fr, H, a, _, _, _, h, hf => ⟨fr, H, hf, AH.le_refl _, h⟩
  | _, [], _ :: _, _, _, _, _, hc, _, _, _, _ => by simp [clsB] at hc
  | _, _ :: _, [], _, _, _, _, hc, _, _, _, _ => by simp [clsB] at hc
  | _ :: _, [], [], _, _, _, _, _, hl, _, _, _ => hl.elim
  | [], _ :: _, _ :: _, _, _, _, _, _, hl, _, _, _ => hl.elim
  | x :: ord, c :: cs, o :: l, k, fr, H, a, hc, hl, hM, h, hf => by
    obtain ⟨ho, hl'⟩ := hl
    simp only [List.length_cons] at hM
    have hM' : k + 1 + l.length ≤ M := by omega
    have hkM : k < M := by omega
    simp only [clsB, Bool.and_eq_true] at hc
    cases c with
    | rd =>
      obtain ⟨v, h1, fr', h2, h3⟩ := vops1_rd hds hc.1 h hf
      refine ⟨o, v, ho, ?_, gw_GGp hds ord cs l (k + 1) fr' H _ hc.2 hl' hM' h3 h2⟩
      rcases h1 with ⟨h1, h4⟩ | h1
      · exact .inl ⟨h1, fun w ⟨E, hw⟩ => qrun_sound P _ Hc _ w h4 hw⟩
      · exact .inr h1
    | pu =>
      obtain ⟨v, h1, fr', h2, h3⟩ := vops1_rd hds hc.1 h hf
      refine ⟨o, v, ho, ?_, gw_GGp hds ord cs l (k + 1) fr' H _ hc.2 hl' hM' h3 h2⟩
      rcases h1 with ⟨h1, h4⟩ | h1
      · exact .inl ⟨h1, fun w _ => qrun_bare P _ Hc.w0 _ w h4⟩
      · exact .inr h1
    | al =>
      simp only [Bool.and_eq_true] at hc
      obtain ⟨⟨hg, hal⟩, hc2⟩ := hc
      obtain ⟨d, op, ty, pos, af, g⟩ := o
      cases g with
      | some g => cases hg
      | none =>
        obtain ⟨h1, h2⟩ := h
        obtain ⟨a1, a2, a3⟩ := vop_sound h2
        obtain ⟨p, hp, hk⟩ := alc_vop (o := ⟨d, op, ty, pos, af, none⟩) hal h2
        refine ⟨_, p, ho, rfl, ?_, fun b hb => gw_GGp hds ord cs l (k + 1) _ _ _ hc2 hl' hM' (hk b hb) (hf.put h1 _)⟩
        rw [← hp]
        refine alc_congr fun x hx => hf.eval ?_
        have := List.all_eq_true.1 a1 x (by simpa using hx)
        exact this
    | ch =>
      have h2 := vops_sound _ _ _ h
      simp only [aops] at h2
      split at h2
      · exact h2.elim
      · rename_i g hg
        rw [hds] at hg
        have hw := aguard_sound hf hg
        rw [← hds] at hg
        cases g with
        | true =>
          obtain ⟨hok, h1⟩ := h2.1 rfl
          have hd : dok n o.dst = true := by simp only [okOp, Bool.and_eq_true] at hok; exact hok.2
          refine ⟨o, fun v H' => (k < M → Hc.le H') ∧ gw P n ds Hc M (k + 1) cs l (putf o.dst v (gov ds fr o true)) H' (Q .normal), ho, fun E w hs => ?_, fun v H' hN => ⟨fun _ => hN.1 hkM, gw_GGp hds ord cs l (k + 1) _ H' _ hc.2 hl' hM' hN.2 ((hf.gov hg).put hd v)⟩⟩
          unfold wpOp
          simp only [ho, hw, if_true]
          exact .inl ((aop_sem h1).wp (hf.gov hg) hok hs fun v H' w' hk hs' => ⟨v, H', rfl, hs', hk⟩)
        | false =>
          obtain ⟨hd, h1⟩ := h2.2 rfl
          refine ⟨o, fun v H' => v = undef ∧ H' = H, ho, fun E w hs => ?_, fun v H' hN => ?_⟩
          · unfold wpOp
            simp only [ho, hw, Bool.false_eq_true, if_false]
            exact ⟨undef, H, rfl, hs, rfl, rfl⟩
          · obtain ⟨rfl, rfl⟩ := hN
            exact ⟨fun _ => h1.1 hkM, gw_GGp hds ord cs l (k + 1) _ _ _ hc.2 hl' hM' h1.2 ((hf.gov hg).put hd _)⟩


theorem sel_prm {l : List Oper} : ∀ {ord : List Nat}, (∀ i ∈ ord, i < l.length) → sel l.toArray ord (prm l ord)
  | [], _ => trivial
  | i :: o, h => by
    have hi := h i (by simp)
    have e : l[i]? = some l[i] := List.getElem?_eq_getElem hi
    rw [prm_cons e]
    exact ⟨by simp [hi], sel_prm fun j hj => h j (by simp [hj])⟩
theorem prm_len {α : Type} {l : List α} : ∀ {ord : List Nat}, (∀ i ∈ ord, i < l.length) → (prm l ord).length = ord.length
  | [], _ => rfl
  | i :: o, h => by
    have hi := h i (by simp)
    rw [prm_cons (List.getElem?_eq_getElem hi), List.length_cons, List.length_cons, prm_len fun j hj => h j (by simp [hj])]
theorem ids_entp {cs : List Cl} : ∀ {ord : List Nat}, (∀ i ∈ ord, i < cs.length) → ids (entp ord (prm cs ord)) = ord
  | [], _ => rfl
  | i :: o, h => by
    have hi := h i (by simp)
    rw [prm_cons (List.getElem?_eq_getElem hi), entp, ids_op, ids_entp fun j hj => h j (by simp [hj])]
theorem kind_entp {cs : List Cl} {c : Cl} {j : Nat} : ∀ {ord : List Nat}, (∀ i ∈ ord, i < cs.length) → En.op c j ∈ entp ord (prm cs ord) → cs[j]? = some c
  | [], _, hm => by cases hm
  | i :: o, h, hm => by
    have hi := h i (by simp)
    rw [prm_cons (List.getElem?_eq_getElem hi), entp] at hm
    rcases List.mem_cons.1 hm with hm | hm
    · cases hm; exact List.getElem?_eq_getElem hi
    · exact kind_entp (fun j hj => h j (by simp [hj])) hm
theorem phy_entp : ∀ (ord : List Nat) (cs : List Cl) (H : AH), phy (entp ord cs) H = H ∧ frs (entp ord cs) H
  | [], _, _ => ⟨rfl, trivial⟩
  | _ :: _, [], _ => ⟨rfl, trivial⟩
  | _ :: o, _ :: cs, H => phy_entp o cs H
theorem AWp.genp {id : Nat} {l : List Oper} {Q : Exit → Fr → AH → Prop} {fr : Fr} {H : AH} (cs : List Cl) (anc ord : List Nat) (M : Nat) (Hc : AH) (hm : P.follows .mixedOrders = true) (hB : (genPB l.toArray cs anc ord && clsB (prm cs ord) (prm l ord) && decide (l.length ≤ M)) = true) (hc : Hc.le H)
    (h : nd (l.map (·.dst)) fun ds => gw P n ds Hc M 0 (prm cs ord) (prm l ord) fr H (Q .normal)) : AWp P n (.region id l.toArray true) Q fr H := by
  intro E a w hf hs
  rw [Bool.and_eq_true, Bool.and_eq_true, decide_eq_true_eq] at hB
  obtain ⟨⟨hB1, hB2⟩, hM⟩ := hB
  have h' : gw P n (l.toArray.toList.map (·.dst)) Hc M 0 (prm cs ord) (prm l ord) fr H (Q .normal) := h
  have hB0 := hB1
  simp only [genPB, Bool.and_eq_true, decide_eq_true_eq] at hB0
  obtain ⟨⟨⟨⟨⟨_, hcl⟩, _⟩, _⟩, _⟩, hnd, hol, hrg⟩ := hB0
  have hrg' : ∀ i ∈ ord, i < l.length := fun i hi => by simpa using hrg i hi
  have hrc : ∀ i ∈ ord, i < cs.length := fun i hi => by rw [hcl]; exact hrg i hi
  refine wp_region_any hm ?_
  have hs' : Sat E H { w with drawn := w.drawn + 1 } := hs.drew
  have hG := gw_GGp (ops := l.toArray) (Hc := Hc) (M := M) (P := P) (n := n) (Q := Q) rfl ord (prm cs ord) (prm l ord) 0 fr H a hB2 (sel_prm hrg') (by rw [prm_len hrg', hol]; simpa using hM) h' hf
  have hmem : ∀ i, i < l.length → i ∈ ord := fun i hi => by
    have hp : ord.Perm (List.range l.length) := by
      refine (List.perm_ext_iff_of_nodup hnd List.nodup_range).2 fun x => ⟨fun hx => List.mem_range.2 (hrg' x hx), fun hx => ?_⟩
      rcases Classical.em (x ∈ ord) with h | h
      · exact h
      · exfalso
        have h1 : (x :: ord).Nodup := List.nodup_cons.2 ⟨h, hnd⟩
        have h2 := nodup_range_le (n := l.length) h1 (fun y hy => by
          rcases List.mem_cons.1 hy with rfl | hy
          · exact List.mem_range.1 hx
          · exact hrg' y hy)
        rw [List.length_cons, hol] at h2
        simp at h2
        omega
    exact hp.mem_iff.2 (List.mem_range.2 hi)
  refine gen_anyP (ord := ord) (E := E) (cls := cs) (anc := anc) (Q := AQ E n Q) hB1 (fun a H w ⟨fr, H0, h1, h2, h3⟩ hs => ⟨fr, H0, h1, hs.mono h2, h3⟩) _ _ (entp ord (prm cs ord)) a H _ ?_ ?_ (by rw [(phy_entp _ _ H).1]; exact hs') (phy_entp _ _ H).2 (fun _ => hc) hG
  · rw [ids_entp hrc, hol]
  · refine ⟨by simp, fun i => ?_, by rw [ids_entp hrc]; exact List.Sublist.refl _, hnd, fun c i hci => kind_entp hrc hci, fun x y hx => ?_⟩
    · rw [ids_entp hrc]
      constructor
      · intro hh; exact ⟨hrg i hh, by rw [getD_in (by simpa using hrg i hh) (getD_replicate_false _ _)]⟩
      · intro hh; exact hmem i (by simpa using hh.1)
    · rw [getD_replicate_false] at hx; cases hx
end
end Go.AX

/- ifs: do, Do. -/
namespace Go.Proofs.YtamlipffhimfmaaGreatDoor.Ifs
set_option linter.unusedSimpArgs false
set_option linter.unusedVariables false
open Go Go.AX Go.Proofs Ty Go.Proofs.YtamlipffhimfmaaGreatDoor.File Go.Proofs.YtamlipffhimfmaaGreatDoor.Err
set_option maxHeartbeats 4000000
set_option maxRecDepth 10000

theorem StIn.rep {H : AH} {b bm k : Nat} {ms : List MF} {den : Int} {m m' : MF} {T : AH} (h : StIn H b bm ms den) (hk : ms[k]? = some m) (hn : m'.n = m.n) (hf : Fresh H m'.blk) (hb : m'.R.length * 4 ≤ m'.bs)
    (hT : T = (H.set bm (.amap ((ms.map MF.ent).set k m'.ent))).add m'.blk (.cells (m'.R.map enc).flatten 26 m'.bs)) : StIn T b bm (ms.set k m') den := by
  subst hT
  have e1 : b ≠ m'.blk := fun e => by have := hf.2; rw [← e, h.top] at this; cases this
  have e2 : bm ≠ m'.blk := fun e => by have := hf.2; rw [← e, h.map] at this; cases this
  have e4 : ∀ x ∈ ms, x.blk ≠ m'.blk := fun x hx e => by have h2 := hf.2; rw [← e, (h.rows x hx).1] at h2; cases h2
  refine ⟨?_, ?_, fun x hx => ?_, ?_, ?_⟩
  · rw [find_add, if_neg e1, find_set, if_neg h.ne1]; exact h.top
  · rw [find_add, if_neg e2, find_set, if_pos rfl, List.map_set]
  · rcases List.mem_or_eq_of_mem_set hx with hx | rfl
    · have := h.rows x hx
      exact ⟨by rw [find_add, if_neg (e4 x hx), find_set, if_neg (h.ne3 hx)]; exact this.1, this.2⟩
    · exact ⟨by rw [find_add, if_pos rfl], hb⟩
  · rw [List.map_set, List.Nodup, List.pairwise_iff_getElem]
    intro i j hi hj hij
    have hnd := h.nd
    rw [List.Nodup, List.pairwise_iff_getElem] at hnd
    simp only [List.length_set, List.length_map] at hi hj
    rw [List.getElem_set, List.getElem_set]
    split
    · rw [if_neg (by omega)]
      have := e4 ms[j] (List.getElem_mem _)
      simpa using fun e => this e.symm
    · split
      · have := e4 ms[i] (List.getElem_mem _)
        simpa using this
      · exact hnd i j (by simpa using hi) (by simpa using hj) hij
  · rw [setMs hk hn h.kd]; exact rp_kd h.kd
theorem StIn.ftR {b bm k : Nat} {ms : List MF} {m' : MF} {ft : Nat → Prop} (h : ∀ x, ftOf b bm ms x → ft x) {x : Nat} (hx : ftOf b bm (ms.set k m') x) : ft x ∨ x = m'.blk := by
  rcases hx with hx | hx | ⟨y, hy, rfl⟩
  · exact .inl (h x (.inl hx))
  · exact .inl (h x (.inr (.inl hx)))
  · rcases List.mem_or_eq_of_mem_set hy with hy | rfl
    · exact .inl (h _ (.inr (.inr ⟨y, hy, rfl⟩)))
    · exact .inr rfl
theorem agood_in {a b c : Int} (h : agood a b c = true) : 0 ≤ a ∧ a ≤ 2 ∧ 0 ≤ b ∧ b < 64 ∧ 0 ≤ c ∧ c < 256 := by simpa [agood] using h
theorem doR_len (R : List Rc) (op : Int) (i : Nat) (v : Rc) : (doR R op i v).length = R.length := by
  unfold doR; split
  · simp
  · split <;> simp
theorem do_c {H : AH} {b : Nat} {X : List Nf} {den : Int} {ft : Nat → Prop} (h : StAt H b X den ft) (hX : OkX X) (op fl rec : Int) (v : Rc) :
    ACalls Tryz.prog 95 #[.pointer (some ⟨b, 0, none⟩), .agg #[.int .i64 op, .int .i64 fl, .int .i64 rec], .agg (enc v).toArray] H
      (fun u H' => ∃ ev ft', u = .tuple #[.agg (enc (doW X op fl rec v)).toArray, ev] ∧ ErrV H' ev (doE X op fl rec) ∧ StAt H' b (doX X op fl rec v) den ft' ∧ Keep H H' ft ∧ ∀ x, ft' x → ft x ∨ Fresh H x) := by
  have bad : ∀ {e : Int} {T H' : AH} {ev : Value}, doE X op fl rec = e → e ≠ 0 → H'.le T → Keep H H' (fun _ => False) → ErrV H' ev e → ∃ H', H'.le T ∧ ∃ ev' ft', Value.tuple #[.agg (enc zr).toArray, ev] = .tuple #[.agg (enc (doW X op fl rec v)).toArray, ev'] ∧ ErrV H' ev' (doE X op fl rec) ∧ StAt H' b (doX X op fl rec v) den ft' ∧ Keep H H' ft ∧ ∀ x, ft' x → ft x ∨ Fresh H x := fun {e T H' ev} he h0 hl hK hv => by
    have hx : doX X op fl rec v = X := by rw [doX, he, if_neg h0]
    have hw : doW X op fl rec v = zr := by rw [doW, he, if_neg h0]
    exact ⟨H', hl, ev, ft, by rw [hw], he ▸ hv, by rw [hx]; exact h.keep hK fun _ _ h => h, hK.mono fun _ h => h.elim, fun x h => .inl h⟩
  refine ACalls.enter2 Tryz.func95 rfl Tryz.ntmps95 Tryz.results95 (by simp) ?_; simp (dsimp := false) (maxSteps := 4000000) only [enc_len, enc_scal, lput_enc, take_enc, go_sem, ↓reduceIte, Nat.reduceEqDiff, Nat.reduceLT, Nat.reduceLeDiff, Nat.reduceAdd, Nat.reduceMul, Nat.reduceSub, reduceCtorEq, Int.reduceToNat, Int.reduceLT, Int.reduceLE, Int.reduceEq, Int.reduceNe, Int.reduceBEq, Nat.reduceBEq, Int.reduceBNe, Nat.reduceBNe, Int.reduceAdd, Int.reduceSub, Int.reduceMul, Int.reduceNeg]
  refine AllB.mk fun b4 h_b4 => ?_; have hn_b4 := h_b4; (try simp only [fresh_add, fresh_set, ne_eq] at hn_b4); have hr_b4 := hn_b4; (try simp only [@eq_comm Nat b4] at hr_b4); simp (dsimp := false) (maxSteps := 4000000) only [enc_len, enc_scal, lput_enc, take_enc, hn_b4, hr_b4, go_sem, ↓reduceIte, Nat.reduceEqDiff, Nat.reduceLT, Nat.reduceLeDiff, Nat.reduceAdd, Nat.reduceMul, Nat.reduceSub, reduceCtorEq, Int.reduceToNat, Int.reduceLT, Int.reduceLE, Int.reduceEq, Int.reduceNe, Int.reduceBEq, Nat.reduceBEq, Int.reduceBNe, Nat.reduceBNe, Int.reduceAdd, Int.reduceSub, Int.reduceMul, Int.reduceNeg]
  refine AllB.mk fun b5 h_b5 => ?_; have hn_b5 := h_b5; (try simp only [fresh_add, fresh_set, ne_eq] at hn_b5); have hr_b5 := hn_b5; (try simp only [@eq_comm Nat b5] at hr_b5); simp (dsimp := false) (maxSteps := 4000000) only [enc_len, enc_scal, lput_enc, take_enc, hn_b4, hr_b4, hn_b5, hr_b5, go_sem, ↓reduceIte, Nat.reduceEqDiff, Nat.reduceLT, Nat.reduceLeDiff, Nat.reduceAdd, Nat.reduceMul, Nat.reduceSub, reduceCtorEq, Int.reduceToNat, Int.reduceLT, Int.reduceLE, Int.reduceEq, Int.reduceNe, Int.reduceBEq, Nat.reduceBEq, Int.reduceBNe, Nat.reduceBNe, Int.reduceAdd, Int.reduceSub, Int.reduceMul, Int.reduceNeg]
  refine AllB.mk fun b6 h_b6 => ?_; have hn_b6 := h_b6; (try simp only [fresh_add, fresh_set, ne_eq] at hn_b6); have hr_b6 := hn_b6; (try simp only [@eq_comm Nat b6] at hr_b6); simp (dsimp := false) (maxSteps := 4000000) only [enc_len, enc_scal, lput_enc, take_enc, hn_b4, hr_b4, hn_b5, hr_b5, hn_b6, hr_b6, go_sem, ↓reduceIte, Nat.reduceEqDiff, Nat.reduceLT, Nat.reduceLeDiff, Nat.reduceAdd, Nat.reduceMul, Nat.reduceSub, reduceCtorEq, Int.reduceToNat, Int.reduceLT, Int.reduceLE, Int.reduceEq, Int.reduceNe, Int.reduceBEq, Nat.reduceBEq, Int.reduceBNe, Nat.reduceBNe, Int.reduceAdd, Int.reduceSub, Int.reduceMul, Int.reduceNeg]
  refine (Go.Proofs.YtamlipffhimfmaaGreatDoor.Good_c op fl rec _).mono ?_; rintro _ _ ⟨rfl, rfl⟩
  cases hg : agood op fl rec with
  | false =>
    simp (dsimp := false) (maxSteps := 4000000) only [enc_len, enc_scal, lput_enc, take_enc, hn_b4, hr_b4, hn_b5, hr_b5, hn_b6, hr_b6, go_sem, ↓reduceIte, Nat.reduceEqDiff, Nat.reduceLT, Nat.reduceLeDiff, Nat.reduceAdd, Nat.reduceMul, Nat.reduceSub, reduceCtorEq, Int.reduceToNat, Int.reduceLT, Int.reduceLE, Int.reduceEq, Int.reduceNe, Int.reduceBEq, Nat.reduceBEq, Int.reduceBNe, Nat.reduceBNe, Int.reduceAdd, Int.reduceSub, Int.reduceMul, Int.reduceNeg]
    exact bad (e := 1) (H' := H) (by simp [doE, hg]) (by decide) (AH.le_add (AH.le_add (AH.le_add (AH.le_refl _) ((by simp only [enc_len, enc_scal, lput_enc, take_enc, fresh_add, fresh_set, ne_eq, hn_b4, not_false_eq_true, and_self] : Fresh _ b4).2)) ((by simp only [enc_len, enc_scal, lput_enc, take_enc, fresh_add, fresh_set, ne_eq, hn_b5, not_false_eq_true, and_self] : Fresh _ b5).2)) ((by simp only [enc_len, enc_scal, lput_enc, take_enc, fresh_add, fresh_set, ne_eq, hn_b6, not_false_eq_true, and_self] : Fresh _ b6).2)) Keep.refl (.inr (.inl rfl))
  | true =>
    obtain ⟨hop0, hop1, hfl0, hfl1, hrec0, hrec1⟩ := agood_in hg
    obtain ⟨bm, ms, h1, rfl, hft⟩ := h
    have r0 : H.rd ⟨b, 0, none⟩ = some (.map (some bm)) := by rw [rd_find h1.top]; rfl
    have hmp : H.mp bm = some (ms.map MF.ent) := by rw [AH.mp, h1.map]
    have hms : ∀ es, H.mset bm es = some (H.set bm (.amap es)) := fun es => by rw [AH.mset, h1.map]
    have n1 : ¬ b4 = b := h_b4.ne_find h1.top
    have n2 : ¬ b4 = bm := h_b4.ne_find h1.map
    have n3 : ¬ b5 = b := hn_b5.2.ne_find h1.top
    have n4 : ¬ b5 = bm := hn_b5.2.ne_find h1.map
    have n5 : ¬ b6 = b := hn_b6.2.2.ne_find h1.top
    have n6 : ¬ b6 = bm := hn_b6.2.2.ne_find h1.map
    simp (dsimp := false) (maxSteps := 4000000) only [enc_len, enc_scal, lput_enc, take_enc, hn_b4, hr_b4, hn_b5, hr_b5, hn_b6, hr_b6, go_sem, ↓reduceIte, Nat.reduceEqDiff, Nat.reduceLT, Nat.reduceLeDiff, Nat.reduceAdd, Nat.reduceMul, Nat.reduceSub, reduceCtorEq, Int.reduceToNat, Int.reduceLT, Int.reduceLE, Int.reduceEq, Int.reduceNe, Int.reduceBEq, Nat.reduceBEq, Int.reduceBNe, Nat.reduceBNe, Int.reduceAdd, Int.reduceSub, Int.reduceMul, Int.reduceNeg]
    refine AWp.gen [.pu, .pu, .pu, .rd, .pu, .rd, .ch, .pu, .pu, .pu, .al, .ch, .pu] [0, 1, 3, 7, 0, 16, 63, 127, 255, 255, 0, 1535, 4095] 0 (_) mixed (by kernel_rfl) (AH.le_refl _) ?_
    rcases h1.at_ fl with ⟨hm, hl⟩ | ⟨k, m, hm, hk, hn, hl⟩
    · have he : doE (ms.map MF.nf) op fl rec = 3 := by simp [doE, hg, hl]
      
      simp (dsimp := false) (maxSteps := 4000000) only [r0, n1, n2, n3, n4, n5, n6, hmp, hm, enc_len, enc_scal, lput_enc, take_enc, hn_b4, hr_b4, hn_b5, hr_b5, hn_b6, hr_b6, go_sem, ↓reduceIte, Nat.reduceEqDiff, Nat.reduceLT, Nat.reduceLeDiff, Nat.reduceAdd, Nat.reduceMul, Nat.reduceSub, reduceCtorEq, Int.reduceToNat, Int.reduceLT, Int.reduceLE, Int.reduceEq, Int.reduceNe, Int.reduceBEq, Nat.reduceBEq, Int.reduceBNe, Nat.reduceBNe, Int.reduceAdd, Int.reduceSub, Int.reduceMul, Int.reduceNeg]
      refine AllB.mk fun b8 h_b8 => ?_; have hn_b8 := h_b8; (try simp only [fresh_add, fresh_set, ne_eq] at hn_b8); have hr_b8 := hn_b8; (try simp only [@eq_comm Nat b8] at hr_b8); simp (dsimp := false) (maxSteps := 4000000) only [enc_len, enc_scal, lput_enc, take_enc, hn_b4, hr_b4, hn_b5, hr_b5, hn_b6, hr_b6, hn_b8, hr_b8, go_sem, ↓reduceIte, Nat.reduceEqDiff, Nat.reduceLT, Nat.reduceLeDiff, Nat.reduceAdd, Nat.reduceMul, Nat.reduceSub, reduceCtorEq, Int.reduceToNat, Int.reduceLT, Int.reduceLE, Int.reduceEq, Int.reduceNe, Int.reduceBEq, Nat.reduceBEq, Int.reduceBNe, Nat.reduceBNe, Int.reduceAdd, Int.reduceSub, Int.reduceMul, Int.reduceNeg]
      refine AWp.genp [.pu, .pu, .rd, .pu, .pu, .al, .pu, .ch, .pu] [0, 0, 2, 0, 14, 30, 62, 1, 255] [0, 1, 2, 3, 4, 7, 5, 6, 8] 10 (_) mixed (by kernel_rfl) (AH.le_refl _) ?_; rw [nd_eq]; simp (dsimp := false) only [prm_nil, prm_eq, pm_some, List.getElem?_cons_zero, List.getElem?_cons_succ, ↓reduceIte, Nat.reduceEqDiff, Nat.reduceLT, Nat.reduceLeDiff, Nat.reduceAdd, Nat.reduceMul, Nat.reduceSub, reduceCtorEq, Int.reduceToNat, Int.reduceLT, Int.reduceLE, Int.reduceEq, Int.reduceNe, Int.reduceBEq, Nat.reduceBEq, Int.reduceBNe, Nat.reduceBNe, Int.reduceAdd, Int.reduceSub, Int.reduceMul, Int.reduceNeg]
      simp (dsimp := false) (maxSteps := 4000000) only [enc_len, enc_scal, lput_enc, take_enc, hn_b4, hr_b4, hn_b5, hr_b5, hn_b6, hr_b6, hn_b8, hr_b8, go_sem, ↓reduceIte, Nat.reduceEqDiff, Nat.reduceLT, Nat.reduceLeDiff, Nat.reduceAdd, Nat.reduceMul, Nat.reduceSub, reduceCtorEq, Int.reduceToNat, Int.reduceLT, Int.reduceLE, Int.reduceEq, Int.reduceNe, Int.reduceBEq, Nat.reduceBEq, Int.reduceBNe, Nat.reduceBNe, Int.reduceAdd, Int.reduceSub, Int.reduceMul, Int.reduceNeg]
      refine AllB.mk fun bf h_bf => ?_; have hn_bf := h_bf; (try simp only [fresh_add, fresh_set, ne_eq] at hn_bf); have hr_bf := hn_bf; (try simp only [@eq_comm Nat bf] at hr_bf); simp (dsimp := false) (maxSteps := 4000000) only [enc_len, enc_scal, lput_enc, take_enc, hn_b4, hr_b4, hn_b5, hr_b5, hn_b6, hr_b6, hn_b8, hr_b8, hn_bf, hr_bf, go_sem, ↓reduceIte, Nat.reduceEqDiff, Nat.reduceLT, Nat.reduceLeDiff, Nat.reduceAdd, Nat.reduceMul, Nat.reduceSub, reduceCtorEq, Int.reduceToNat, Int.reduceLT, Int.reduceLE, Int.reduceEq, Int.reduceNe, Int.reduceBEq, Nat.reduceBEq, Int.reduceBNe, Nat.reduceBNe, Int.reduceAdd, Int.reduceSub, Int.reduceMul, Int.reduceNeg]
      exact bad (e := 3) (H' := H.add bf (.cells [.int .i64 fl, .iface 28 (.int .i64 3)] 219 2)) he (by decide) (AH.le_cons (find_add_self _ _ _) (AH.le_add (AH.le_add (AH.le_add (AH.le_add (AH.le_add (AH.le_refl _) ((by simp only [enc_len, enc_scal, lput_enc, take_enc, fresh_add, fresh_set, ne_eq, hn_b4, not_false_eq_true, and_self] : Fresh _ b4).2)) ((by simp only [enc_len, enc_scal, lput_enc, take_enc, fresh_add, fresh_set, ne_eq, hn_b5, not_false_eq_true, and_self] : Fresh _ b5).2)) ((by simp only [enc_len, enc_scal, lput_enc, take_enc, fresh_add, fresh_set, ne_eq, hn_b6, not_false_eq_true, and_self] : Fresh _ b6).2)) ((by simp only [enc_len, enc_scal, lput_enc, take_enc, fresh_add, fresh_set, ne_eq, hn_b8, not_false_eq_true, and_self] : Fresh _ b8).2)) ((by simp only [enc_len, enc_scal, lput_enc, take_enc, fresh_add, fresh_set, ne_eq, hn_bf, not_false_eq_true, and_self] : Fresh _ bf).2))) (Keep.add hn_bf.2.2.2.2) (.inr (.inr ⟨bf, 0, rfl, by rw [rd_add_self]; rfl⟩))
      
    · obtain ⟨i, rfl⟩ : ∃ i : Nat, rec = i := ⟨rec.toNat, by omega⟩
      obtain ⟨_, hgd, _⟩ := hX.lk hl
      obtain ⟨hl1, hl2⟩ := goodF_len hgd
      dsimp only at hl1 hl2
      have hmem := List.mem_of_getElem? hk
      have hs := h1.slc hmem (by omega)
      have he : doE (ms.map MF.nf) op fl i = mayF m.p m.R op i := by simp [doE, hg, hl]
      unfold MF.val fv at hm
      
      simp (dsimp := false) (maxSteps := 4000000) only [r0, n1, n2, n3, n4, n5, n6, hmp, hm, enc_len, enc_scal, lput_enc, take_enc, hn_b4, hr_b4, hn_b5, hr_b5, hn_b6, hr_b6, go_sem, ↓reduceIte, Nat.reduceEqDiff, Nat.reduceLT, Nat.reduceLeDiff, Nat.reduceAdd, Nat.reduceMul, Nat.reduceSub, reduceCtorEq, Int.reduceToNat, Int.reduceLT, Int.reduceLE, Int.reduceEq, Int.reduceNe, Int.reduceBEq, Nat.reduceBEq, Int.reduceBNe, Nat.reduceBNe, Int.reduceAdd, Int.reduceSub, Int.reduceMul, Int.reduceNeg]
      refine AllB.mk fun b8 h_b8 => ?_; have hn_b8 := h_b8; (try simp only [fresh_add, fresh_set, ne_eq] at hn_b8); have hr_b8 := hn_b8; (try simp only [@eq_comm Nat b8] at hr_b8); simp (dsimp := false) (maxSteps := 4000000) only [enc_len, enc_scal, lput_enc, take_enc, hn_b4, hr_b4, hn_b5, hr_b5, hn_b6, hr_b6, hn_b8, hr_b8, go_sem, ↓reduceIte, Nat.reduceEqDiff, Nat.reduceLT, Nat.reduceLeDiff, Nat.reduceAdd, Nat.reduceMul, Nat.reduceSub, reduceCtorEq, Int.reduceToNat, Int.reduceLT, Int.reduceLE, Int.reduceEq, Int.reduceNe, Int.reduceBEq, Nat.reduceBEq, Int.reduceBNe, Nat.reduceBNe, Int.reduceAdd, Int.reduceSub, Int.reduceMul, Int.reduceNeg]
      by_cases hmay : mayF m.p m.R op i = 0
      · have hc := fun H1 (h1 : SlcIn H1 4 (some ⟨m.blk, 0, none⟩) m.R.length (m.R.map enc)) => Do_ok m.p op i m.R v _ _ H1 h1 hmay
        unfold fv at hc
        
        refine (hc _ ((((hs.add (by simp only [fresh_add, ne_eq, hn_b4, not_false_eq_true, and_self] : Fresh _ b4)).add (by simp only [fresh_add, ne_eq, hn_b5, not_false_eq_true, and_self] : Fresh _ b5)).add (by simp only [fresh_add, ne_eq, hn_b6, not_false_eq_true, and_self] : Fresh _ b6)).add (by simp only [fresh_add, ne_eq, hn_b8, not_false_eq_true, and_self] : Fresh _ b8))).mono ?_; rintro _ _ ⟨b9, bs, h_b9, rfl, hbs, rfl⟩
        have hn_b9 := h_b9; (try simp only [fresh_add, fresh_set, ne_eq] at hn_b9); have hr_b9 := hn_b9; (try simp only [@eq_comm Nat b9] at hr_b9)
        simp (dsimp := false) (maxSteps := 4000000) only [enc_len, enc_scal, lput_enc, take_enc, hn_b4, hr_b4, hn_b5, hr_b5, hn_b6, hr_b6, hn_b8, hr_b8, hn_b9, hr_b9, go_sem, ↓reduceIte, Nat.reduceEqDiff, Nat.reduceLT, Nat.reduceLeDiff, Nat.reduceAdd, Nat.reduceMul, Nat.reduceSub, reduceCtorEq, Int.reduceToNat, Int.reduceLT, Int.reduceLE, Int.reduceEq, Int.reduceNe, Int.reduceBEq, Nat.reduceBEq, Int.reduceBNe, Nat.reduceBNe, Int.reduceAdd, Int.reduceSub, Int.reduceMul, Int.reduceNeg]
        refine AllB.mk fun b10 h_b10 => ?_; have hn_b10 := h_b10; (try simp only [fresh_add, fresh_set, ne_eq] at hn_b10); have hr_b10 := hn_b10; (try simp only [@eq_comm Nat b10] at hr_b10); simp (dsimp := false) (maxSteps := 4000000) only [enc_len, enc_scal, lput_enc, take_enc, hn_b4, hr_b4, hn_b5, hr_b5, hn_b6, hr_b6, hn_b8, hr_b8, hn_b9, hr_b9, hn_b10, hr_b10, go_sem, ↓reduceIte, Nat.reduceEqDiff, Nat.reduceLT, Nat.reduceLeDiff, Nat.reduceAdd, Nat.reduceMul, Nat.reduceSub, reduceCtorEq, Int.reduceToNat, Int.reduceLT, Int.reduceLE, Int.reduceEq, Int.reduceNe, Int.reduceBEq, Nat.reduceBEq, Int.reduceBNe, Nat.reduceBNe, Int.reduceAdd, Int.reduceSub, Int.reduceMul, Int.reduceNeg]
        refine AllB.mk fun b11 h_b11 => ?_; have hn_b11 := h_b11; (try simp only [fresh_add, fresh_set, ne_eq] at hn_b11); have hr_b11 := hn_b11; (try simp only [@eq_comm Nat b11] at hr_b11); simp (dsimp := false) (maxSteps := 4000000) only [enc_len, enc_scal, lput_enc, take_enc, hn_b4, hr_b4, hn_b5, hr_b5, hn_b6, hr_b6, hn_b8, hr_b8, hn_b9, hr_b9, hn_b10, hr_b10, hn_b11, hr_b11, go_sem, ↓reduceIte, Nat.reduceEqDiff, Nat.reduceLT, Nat.reduceLeDiff, Nat.reduceAdd, Nat.reduceMul, Nat.reduceSub, reduceCtorEq, Int.reduceToNat, Int.reduceLT, Int.reduceLE, Int.reduceEq, Int.reduceNe, Int.reduceBEq, Nat.reduceBEq, Int.reduceBNe, Nat.reduceBNe, Int.reduceAdd, Int.reduceSub, Int.reduceMul, Int.reduceNeg]
        refine AWp.gen [.pu, .pu, .pu, .rd, .pu, .rd, .rd, .ch] [0, 1, 3, 7, 0, 16, 0, 127] 0 (_) mixed (by kernel_rfl) (AH.le_refl _) ?_
        have n7 : ¬ b8 = b := hn_b8.2.2.2.ne_find h1.top
        have n8 : ¬ b8 = bm := hn_b8.2.2.2.ne_find h1.map
        have n9 : ¬ b9 = b := hn_b9.2.2.2.2.ne_find h1.top
        have n10 : ¬ b9 = bm := hn_b9.2.2.2.2.ne_find h1.map
        have n11 : ¬ b10 = b := hn_b10.2.2.2.2.2.ne_find h1.top
        have n12 : ¬ b10 = bm := hn_b10.2.2.2.2.2.ne_find h1.map
        have n13 : ¬ b11 = b := hn_b11.2.2.2.2.2.2.ne_find h1.top
        have n14 : ¬ b11 = bm := hn_b11.2.2.2.2.2.2.ne_find h1.map
        simp (dsimp := false) (maxSteps := 4000000) only [r0, n1, n2, n3, n4, n5, n6, n7, n8, n9, n10, n11, n12, n13, n14, hmp, hms, hm, enc_len, enc_scal, lput_enc, take_enc, hn_b4, hr_b4, hn_b5, hr_b5, hn_b6, hr_b6, hn_b8, hr_b8, hn_b9, hr_b9, hn_b10, hr_b10, hn_b11, hr_b11, go_sem, ↓reduceIte, Nat.reduceEqDiff, Nat.reduceLT, Nat.reduceLeDiff, Nat.reduceAdd, Nat.reduceMul, Nat.reduceSub, reduceCtorEq, Int.reduceToNat, Int.reduceLT, Int.reduceLE, Int.reduceEq, Int.reduceNe, Int.reduceBEq, Nat.reduceBEq, Int.reduceBNe, Nat.reduceBNe, Int.reduceAdd, Int.reduceSub, Int.reduceMul, Int.reduceNeg]
        subst hn
        have hdl := doR_len m.R op i v
        have hx : doX (ms.map MF.nf) op m.n i v = rp m.n (m.p, doR m.R op i v) (ms.map MF.nf) := by
          rw [doX, if_pos (by rw [he]; exact hmay), hl]; rfl
        have hw : doW (ms.map MF.nf) op m.n i v = (doR m.R op i v).getD i zr := by
          rw [doW, if_pos (by rw [he]; exact hmay), hl]; rfl
        have hent : (MF.mk m.n m.p b9 bs (doR m.R op i v)).ent = (.int .i64 m.n, .agg #[.int .i64 m.p, .slice (some ⟨b9, 0, none⟩) m.R.length m.R.length]) := by rw [MF.ent, MF.val, hdl]; rfl
        
        refine ⟨(H.set bm (.amap ((ms.map MF.ent).set k (MF.mk m.n m.p b9 bs (doR m.R op i v)).ent))).add b9 (.cells ((doR m.R op i v).map enc).flatten 26 bs), ?_, .nilIface, ftOf b bm (ms.set k (MF.mk m.n m.p b9 bs (doR m.R op i v))), ?_, .inl ⟨rfl, by rw [he]; exact hmay⟩, ?_, ?_, ?_⟩
        · rw [hent]
          exact (by refine AH.le_cons ?_ ?_; (show AH.find _ _ = _; simp only [find_add_self, find_add_ne, find_fresh, fresh_add, fresh_set, ne_eq, not_false_eq_true, true_and, and_true, and_self, enc_len, n2, n4, n6, n8, n10, n12, n14, hn_b4, hr_b4, hn_b5, hr_b5, hn_b6, hr_b6, hn_b8, hr_b8, hn_b9, hr_b9, hn_b10, hr_b10, hn_b11, hr_b11]); (repeat (first | exact AH.le_refl _ | refine AH.le_add ?_ ?_)); all_goals (first | exact AH.le_refl _ | (show AH.find _ _ = _; simp only [find_add_self, find_add_ne, find_fresh, fresh_add, fresh_set, ne_eq, not_false_eq_true, true_and, and_true, and_self, enc_len, n2, n4, n6, n8, n10, n12, n14, hn_b4, hr_b4, hn_b5, hr_b5, hn_b6, hr_b6, hn_b8, hr_b8, hn_b9, hr_b9, hn_b10, hr_b10, hn_b11, hr_b11])))
        · rw [hw]
        · rw [hx]
          exact ⟨bm, _, h1.rep (m' := MF.mk m.n m.p b9 bs (doR m.R op i v)) hk rfl hn_b9.2.2.2.2 (by dsimp only; rw [hdl]; exact hbs) rfl, setMs (m' := MF.mk m.n m.p b9 bs (doR m.R op i v)) hk rfl h1.kd, fun x => Iff.rfl⟩
        · exact (Keep.set.mono fun x hx => (hft x).2 (.inr (.inl hx))).trans (Keep.add (Fresh.mk' hn_b9.2.2.2.2 n10))
        · intro x hx
          rcases StIn.ftR (m' := MF.mk m.n m.p b9 bs (doR m.R op i v)) (fun x => (hft x).2) hx with hx | rfl
          · exact .inl hx
          · exact .inr hn_b9.2.2.2.2
        
        
      · have hc := fun H1 (h1 : SlcIn H1 4 (some ⟨m.blk, 0, none⟩) m.R.length (m.R.map enc)) => Do_bad m.p op i m.R v _ _ H1 h1 hmay
        unfold fv at hc
        
        refine (hc _ ((((hs.add (by simp only [fresh_add, ne_eq, hn_b4, not_false_eq_true, and_self] : Fresh _ b4)).add (by simp only [fresh_add, ne_eq, hn_b5, not_false_eq_true, and_self] : Fresh _ b5)).add (by simp only [fresh_add, ne_eq, hn_b6, not_false_eq_true, and_self] : Fresh _ b6)).add (by simp only [fresh_add, ne_eq, hn_b8, not_false_eq_true, and_self] : Fresh _ b8))).mono ?_; rintro _ _ ⟨rfl, rfl⟩
        simp (dsimp := false) (maxSteps := 4000000) only [dbad, enc_len, enc_scal, lput_enc, take_enc, hn_b4, hr_b4, hn_b5, hr_b5, hn_b6, hr_b6, hn_b8, hr_b8, go_sem, ↓reduceIte, Nat.reduceEqDiff, Nat.reduceLT, Nat.reduceLeDiff, Nat.reduceAdd, Nat.reduceMul, Nat.reduceSub, reduceCtorEq, Int.reduceToNat, Int.reduceLT, Int.reduceLE, Int.reduceEq, Int.reduceNe, Int.reduceBEq, Nat.reduceBEq, Int.reduceBNe, Nat.reduceBNe, Int.reduceAdd, Int.reduceSub, Int.reduceMul, Int.reduceNeg]
        refine AllB.mk fun b10 h_b10 => ?_; have hn_b10 := h_b10; (try simp only [fresh_add, fresh_set, ne_eq] at hn_b10); have hr_b10 := hn_b10; (try simp only [@eq_comm Nat b10] at hr_b10); simp (dsimp := false) (maxSteps := 4000000) only [enc_len, enc_scal, lput_enc, take_enc, hn_b4, hr_b4, hn_b5, hr_b5, hn_b6, hr_b6, hn_b8, hr_b8, hn_b10, hr_b10, go_sem, ↓reduceIte, Nat.reduceEqDiff, Nat.reduceLT, Nat.reduceLeDiff, Nat.reduceAdd, Nat.reduceMul, Nat.reduceSub, reduceCtorEq, Int.reduceToNat, Int.reduceLT, Int.reduceLE, Int.reduceEq, Int.reduceNe, Int.reduceBEq, Nat.reduceBEq, Int.reduceBNe, Nat.reduceBNe, Int.reduceAdd, Int.reduceSub, Int.reduceMul, Int.reduceNeg]
        refine AllB.mk fun b11 h_b11 => ?_; have hn_b11 := h_b11; (try simp only [fresh_add, fresh_set, ne_eq] at hn_b11); have hr_b11 := hn_b11; (try simp only [@eq_comm Nat b11] at hr_b11); simp (dsimp := false) (maxSteps := 4000000) only [enc_len, enc_scal, lput_enc, take_enc, hn_b4, hr_b4, hn_b5, hr_b5, hn_b6, hr_b6, hn_b8, hr_b8, hn_b10, hr_b10, hn_b11, hr_b11, go_sem, ↓reduceIte, Nat.reduceEqDiff, Nat.reduceLT, Nat.reduceLeDiff, Nat.reduceAdd, Nat.reduceMul, Nat.reduceSub, reduceCtorEq, Int.reduceToNat, Int.reduceLT, Int.reduceLE, Int.reduceEq, Int.reduceNe, Int.reduceBEq, Nat.reduceBEq, Int.reduceBNe, Nat.reduceBNe, Int.reduceAdd, Int.reduceSub, Int.reduceMul, Int.reduceNeg]
        simp (dsimp := false) (maxSteps := 4000000) only [hmay, enc_len, enc_scal, lput_enc, take_enc, hn_b4, hr_b4, hn_b5, hr_b5, hn_b6, hr_b6, hn_b8, hr_b8, hn_b10, hr_b10, hn_b11, hr_b11, go_sem, ↓reduceIte, Nat.reduceEqDiff, Nat.reduceLT, Nat.reduceLeDiff, Nat.reduceAdd, Nat.reduceMul, Nat.reduceSub, reduceCtorEq, Int.reduceToNat, Int.reduceLT, Int.reduceLE, Int.reduceEq, Int.reduceNe, Int.reduceBEq, Nat.reduceBEq, Int.reduceBNe, Nat.reduceBNe, Int.reduceAdd, Int.reduceSub, Int.reduceMul, Int.reduceNeg]
        refine AWp.genp [.pu, .pu, .rd, .pu, .pu, .pu, .al, .pu, .ch, .pu] [0, 0, 2, 0, 8, 30, 62, 126, 1, 511] [0, 1, 2, 3, 4, 5, 8, 6, 7, 9] 11 (_) mixed (by kernel_rfl) (AH.le_refl _) ?_; rw [nd_eq]; simp (dsimp := false) only [prm_nil, prm_eq, pm_some, List.getElem?_cons_zero, List.getElem?_cons_succ, ↓reduceIte, Nat.reduceEqDiff, Nat.reduceLT, Nat.reduceLeDiff, Nat.reduceAdd, Nat.reduceMul, Nat.reduceSub, reduceCtorEq, Int.reduceToNat, Int.reduceLT, Int.reduceLE, Int.reduceEq, Int.reduceNe, Int.reduceBEq, Nat.reduceBEq, Int.reduceBNe, Nat.reduceBNe, Int.reduceAdd, Int.reduceSub, Int.reduceMul, Int.reduceNeg]
        simp (dsimp := false) (maxSteps := 4000000) only [enc_len, enc_scal, lput_enc, take_enc, hn_b4, hr_b4, hn_b5, hr_b5, hn_b6, hr_b6, hn_b8, hr_b8, hn_b10, hr_b10, hn_b11, hr_b11, go_sem, ↓reduceIte, Nat.reduceEqDiff, Nat.reduceLT, Nat.reduceLeDiff, Nat.reduceAdd, Nat.reduceMul, Nat.reduceSub, reduceCtorEq, Int.reduceToNat, Int.reduceLT, Int.reduceLE, Int.reduceEq, Int.reduceNe, Int.reduceBEq, Nat.reduceBEq, Int.reduceBNe, Nat.reduceBNe, Int.reduceAdd, Int.reduceSub, Int.reduceMul, Int.reduceNeg]
        refine AllB.mk fun bf h_bf => ?_; have hn_bf := h_bf; (try simp only [fresh_add, fresh_set, ne_eq] at hn_bf); have hr_bf := hn_bf; (try simp only [@eq_comm Nat bf] at hr_bf); simp (dsimp := false) (maxSteps := 4000000) only [enc_len, enc_scal, lput_enc, take_enc, hn_b4, hr_b4, hn_b5, hr_b5, hn_b6, hr_b6, hn_b8, hr_b8, hn_b10, hr_b10, hn_b11, hr_b11, hn_bf, hr_bf, go_sem, ↓reduceIte, Nat.reduceEqDiff, Nat.reduceLT, Nat.reduceLeDiff, Nat.reduceAdd, Nat.reduceMul, Nat.reduceSub, reduceCtorEq, Int.reduceToNat, Int.reduceLT, Int.reduceLE, Int.reduceEq, Int.reduceNe, Int.reduceBEq, Nat.reduceBEq, Int.reduceBNe, Nat.reduceBNe, Int.reduceAdd, Int.reduceSub, Int.reduceMul, Int.reduceNeg]
        exact bad (e := mayF m.p m.R op i) (H' := H.add bf (.cells [.int .i64 fl, .iface 28 (.int .i64 (mayF m.p m.R op i))] 219 2)) he hmay (AH.le_cons (find_add_self _ _ _) (AH.le_add (AH.le_add (AH.le_add (AH.le_add (AH.le_add (AH.le_add (AH.le_add (AH.le_refl _) ((by simp only [enc_len, enc_scal, lput_enc, take_enc, fresh_add, fresh_set, ne_eq, hn_b4, not_false_eq_true, and_self] : Fresh _ b4).2)) ((by simp only [enc_len, enc_scal, lput_enc, take_enc, fresh_add, fresh_set, ne_eq, hn_b5, not_false_eq_true, and_self] : Fresh _ b5).2)) ((by simp only [enc_len, enc_scal, lput_enc, take_enc, fresh_add, fresh_set, ne_eq, hn_b6, not_false_eq_true, and_self] : Fresh _ b6).2)) ((by simp only [enc_len, enc_scal, lput_enc, take_enc, fresh_add, fresh_set, ne_eq, hn_b8, not_false_eq_true, and_self] : Fresh _ b8).2)) ((by simp only [enc_len, enc_scal, lput_enc, take_enc, fresh_add, fresh_set, ne_eq, hn_b10, not_false_eq_true, and_self] : Fresh _ b10).2)) ((by simp only [enc_len, enc_scal, lput_enc, take_enc, fresh_add, fresh_set, ne_eq, hn_b11, not_false_eq_true, and_self] : Fresh _ b11).2)) ((by simp only [enc_len, enc_scal, lput_enc, take_enc, fresh_add, fresh_set, ne_eq, hn_bf, not_false_eq_true, and_self] : Fresh _ bf).2))) (Keep.add hn_bf.2.2.2.2.2.2) (.inr (.inr ⟨bf, 0, rfl, by rw [rd_add_self]; rfl⟩))
        
      
end Go.Proofs.YtamlipffhimfmaaGreatDoor.Ifs

/- ifs: Do. -/
namespace Go.Proofs.YtamlipffhimfmaaGreatDoor.Ifs
set_option linter.unusedSimpArgs false
set_option linter.unusedVariables false
open Go Go.AX Go.Proofs Ty Go.Proofs.YtamlipffhimfmaaGreatDoor.File Go.Proofs.YtamlipffhimfmaaGreatDoor.Err
set_option maxHeartbeats 4000000
set_option maxRecDepth 10000

theorem _root_.Go.AX.Keep.of_find {A T : AH} {ex : Nat → Prop} (h0 : T.w0 = A.w0) (h : ∀ x, ¬ ex x → T.find x = A.find x) : Keep A T ex := ⟨h0, fun x hx _ => h x hx⟩
theorem _root_.Go.AX.Keep.rd {A T : AH} (h : Keep A T fun _ => False) {a : Addr} {v : Value} (hr : A.rd a = some v) : T.rd a = some v := by
  unfold AH.rd at hr ⊢
  have hk : (A.find a.block).isSome ∨ a.block < A.w0.heap.size := by
    cases hf : A.find a.block with
    | some k => exact .inl rfl
    | none =>
      rw [hf] at hr
      simp only at hr
      split at hr
      · rename_i h; exact .inr h
      · cases hr
  rw [h.at_ _ (fun h => h) hk, h.w0]; exact hr
theorem ErrV.keep {A T : AH} {v : Value} {e : Int} (h : ErrV A v e) (hk : Keep A T fun _ => False) : ErrV T v e := by
  rcases h with h | h | ⟨b, o, h, hr⟩
  · exact .inl h
  · exact .inr (.inl h)
  · exact .inr (.inr ⟨b, o, h, hk.rd hr⟩)
theorem ErrV.over {S : AH} {b bm t : Nat} {den den' e : Int} {v : Value} (h : ErrV (S.add b (.cells [.map (some bm), .int .i64 den] t 2)) v e) : ErrV (S.add b (.cells [.map (some bm), .int .i64 den'] t 2)) v e := by
  rcases h with h | h | ⟨c, o, h, hr⟩
  · exact .inl h
  · exact .inr (.inl h)
  · refine .inr (.inr ⟨c, o, h, ?_⟩)
    by_cases e : c = b
    · subst e
      rw [rd_add_self] at hr
      match o, hr with
      | 0, hr => cases hr
      | o + 1, hr => cases hr
    · rw [rd_add_ne _ (fun h => e h.symm)] at hr ⊢
      exact hr
theorem StAt.den {A T : AH} {b bm c : Nat} {X : List Nf} {den den' : Int} {ft : Nat → Prop} (h : StAt A b X den ft) (hb : A.find b = some (.cells [.map (some bm), .int .i64 den] 133 2)) (hc : ¬ ft c)
    (h0 : T.find b = some (.cells [.map (some bm), .int .i64 den'] 133 2)) (hT : ∀ x, x ≠ b → x ≠ c → T.find x = A.find x) : StAt T b X den' ft := by
  obtain ⟨bm', ms, h1, h2, h3⟩ := h
  have e := h1.top
  rw [hb] at e
  obtain rfl : bm = bm' := by simpa using e
  have hne : ∀ x, ftOf b bm ms x → x ≠ c := fun x hx e => hc (e ▸ (h3 x).2 hx)
  refine ⟨bm, ms, ⟨h0, ?_, fun m hm => ?_, h1.nd, h1.kd⟩, h2, h3⟩
  · rw [hT bm (fun e => h1.ne1 e.symm) (hne _ (.inr (.inl rfl)))]; exact h1.map
  · have := h1.rows m hm
    exact ⟨by rw [hT _ (h1.ne2 hm) (hne _ (.inr (.inr ⟨m, hm, rfl⟩)))]; exact this.1, this.2⟩
def doV (X : List Nf) (op fl rec : Int) (v : Rc) : Value := .tuple #[.agg (enc (doW X op fl rec v)).toArray, .int .i64 (doE X op fl rec)]
theorem Do_c {H : AH} {b : Nat} {X : List Nf} {den : Int} {ft : Nat → Prop} (hE : ErrT H.w0) (h : StAt H b X den ft) (hX : OkX X) (op fl rec : Int) (v : Rc) :
    ACalls Tryz.prog 69 #[.pointer (some ⟨b, 0, none⟩), .agg #[.int .i64 op, .int .i64 fl, .int .i64 rec], .agg (enc v).toArray] H
      (fun u H' => ∃ ft', u = doV X op fl rec v ∧ StAt H' b (doX X op fl rec v) (doD X op fl rec den) ft' ∧ Keep H H' ft ∧ ∀ x, ft' x → ft x ∨ Fresh H x) := by
  have hd := fun H1 (h1 : StAt H1 b X den ft) => do_c h1 hX op fl rec v
  refine ACalls.enter2 Tryz.func69 rfl Tryz.ntmps69 Tryz.results69 (by simp) ?_; simp (dsimp := false) (maxSteps := 4000000) only [enc_len, enc_scal, lput_enc, take_enc, go_sem, ↓reduceIte, Nat.reduceEqDiff, Nat.reduceLT, Nat.reduceLeDiff, Nat.reduceAdd, Nat.reduceMul, Nat.reduceSub, reduceCtorEq, Int.reduceToNat, Int.reduceLT, Int.reduceLE, Int.reduceEq, Int.reduceNe, Int.reduceBEq, Nat.reduceBEq, Int.reduceBNe, Nat.reduceBNe, Int.reduceAdd, Int.reduceSub, Int.reduceMul, Int.reduceNeg]
  refine AllB.mk fun b4 h_b4 => ?_; have hn_b4 := h_b4; (try simp only [fresh_add, fresh_set, ne_eq] at hn_b4); have hr_b4 := hn_b4; (try simp only [@eq_comm Nat b4] at hr_b4); simp (dsimp := false) (maxSteps := 4000000) only [enc_len, enc_scal, lput_enc, take_enc, hn_b4, hr_b4, go_sem, ↓reduceIte, Nat.reduceEqDiff, Nat.reduceLT, Nat.reduceLeDiff, Nat.reduceAdd, Nat.reduceMul, Nat.reduceSub, reduceCtorEq, Int.reduceToNat, Int.reduceLT, Int.reduceLE, Int.reduceEq, Int.reduceNe, Int.reduceBEq, Nat.reduceBEq, Int.reduceBNe, Nat.reduceBNe, Int.reduceAdd, Int.reduceSub, Int.reduceMul, Int.reduceNeg]
  refine AllB.mk fun b5 h_b5 => ?_; have hn_b5 := h_b5; (try simp only [fresh_add, fresh_set, ne_eq] at hn_b5); have hr_b5 := hn_b5; (try simp only [@eq_comm Nat b5] at hr_b5); simp (dsimp := false) (maxSteps := 4000000) only [enc_len, enc_scal, lput_enc, take_enc, hn_b4, hr_b4, hn_b5, hr_b5, go_sem, ↓reduceIte, Nat.reduceEqDiff, Nat.reduceLT, Nat.reduceLeDiff, Nat.reduceAdd, Nat.reduceMul, Nat.reduceSub, reduceCtorEq, Int.reduceToNat, Int.reduceLT, Int.reduceLE, Int.reduceEq, Int.reduceNe, Int.reduceBEq, Nat.reduceBEq, Int.reduceBNe, Nat.reduceBNe, Int.reduceAdd, Int.reduceSub, Int.reduceMul, Int.reduceNeg]
  refine AllB.mk fun b6 h_b6 => ?_; have hn_b6 := h_b6; (try simp only [fresh_add, fresh_set, ne_eq] at hn_b6); have hr_b6 := hn_b6; (try simp only [@eq_comm Nat b6] at hr_b6); simp (dsimp := false) (maxSteps := 4000000) only [enc_len, enc_scal, lput_enc, take_enc, hn_b4, hr_b4, hn_b5, hr_b5, hn_b6, hr_b6, go_sem, ↓reduceIte, Nat.reduceEqDiff, Nat.reduceLT, Nat.reduceLeDiff, Nat.reduceAdd, Nat.reduceMul, Nat.reduceSub, reduceCtorEq, Int.reduceToNat, Int.reduceLT, Int.reduceLE, Int.reduceEq, Int.reduceNe, Int.reduceBEq, Nat.reduceBEq, Int.reduceBNe, Nat.reduceBNe, Int.reduceAdd, Int.reduceSub, Int.reduceMul, Int.reduceNeg]
  have hK0 : Keep H (((H.add b4 (.cells [.int .i64 op, .int .i64 fl, .int .i64 rec] 24 3)).add b5 (.cells (enc v) 26 4)).add b6 (.cells [.int .u8 0, .int .u8 0, .int .u8 0, .int .u8 0] 26 4)) fun _ => False := ((Keep.refl.nw h_b4).nw h_b5).nw h_b6
  refine (hd _ (h.keep hK0 fun _ _ h => h)).monoW ?_
  rintro _ A ⟨ev, ft', rfl, hev, hst, hK, hft'⟩
  obtain ⟨bm, ht⟩ := hst.find
  have hnft : ∀ {x}, Fresh H x → ¬ ft x := fun hf => h.fresh hf
  have h6 := hK.find (hnft hn_b6.2.2) (find_add_self _ _ _)
  have n6 : b6 ≠ b := fun e => by rw [e, ht] at h6; simp at h6
  have f6 : ¬ ft' b6 := fun hx => by
    rcases hft' _ hx with hx | hx
    · exact hnft hn_b6.2.2 hx
    · have := hx.2
      rw [find_add, if_pos rfl] at this; cases this
  have hKA := (hK0.mono fun _ h => h.elim).trans hK
  have hKT : Keep A ((((A.del b6).del b).add b6 (.cells [.int .u8 0, .int .u8 0, .int .u8 0, .int .u8 0] 26 4)).add b (.cells [.map (some bm), .int .i64 den] 133 2)) fun _ => False := Keep.top2 h6 ht n6.symm
  have hwA : A.w0 = H.w0 := hKA.w0
  have fin : ∀ {D T : AH} {w : List Value} {den' : Int}, D = (A.del b6).del b → T = (D.add b6 (.cells w 26 4)).add b (.cells [.map (some bm), .int .i64 den'] 133 2) → StAt T b (doX X op fl rec v) den' ft' ∧ Keep H T ft ∧ ∀ x, ft' x → ft x ∨ Fresh H x := fun {D T w den'} hD hT => by
    have hx : ∀ x, x ≠ b → x ≠ b6 → T.find x = A.find x := fun x h1 h2 => by rw [hT, find_add, if_neg h1, find_add, if_neg h2, hD, find_del, if_neg h1, find_del, if_neg h2]
    refine ⟨hst.den ht f6 (by rw [hT, find_add_self]) hx, hKA.then (Keep.of_find (ex := fun x => x = b ∨ x = b6) (by rw [hT, hD]; rfl) fun x hx' => hx x (fun e => hx' (.inl e)) fun e => hx' (.inr e)) ?_, fun x hx => (hft' x hx).imp id fun h => hK0.fr h⟩
    rintro x (rfl | rfl)
    · exact .inl h.self
    · exact .inr hn_b6.2.2
  refine ⟨_, top2 h6 ht, ?_⟩
  generalize hD : (A.del b6).del b = D at hKT fin ⊢
  have hDw : D.w0 = H.w0 := by rw [← hD]; exact hwA
  
  simp (dsimp := false) (maxSteps := 4000000) only [enc_len, enc_scal, lput_enc, take_enc, n6, n6.symm, hn_b4, hr_b4, hn_b5, hr_b5, hn_b6, hr_b6, go_sem, ↓reduceIte, Nat.reduceEqDiff, Nat.reduceLT, Nat.reduceLeDiff, Nat.reduceAdd, Nat.reduceMul, Nat.reduceSub, reduceCtorEq, Int.reduceToNat, Int.reduceLT, Int.reduceLE, Int.reduceEq, Int.reduceNe, Int.reduceBEq, Nat.reduceBEq, Int.reduceBNe, Nat.reduceBNe, Int.reduceAdd, Int.reduceSub, Int.reduceMul, Int.reduceNeg]
  refine AllB.mk fun b8 h_b8 => ?_
  have hn_b8 : ¬ b8 = b ∧ ¬ b8 = b6 ∧ Fresh D b8 := by simpa only [fresh_add, ne_eq] using h_b8
  simp (dsimp := false) (maxSteps := 4000000) only [hn_b8.1, hn_b8.2.1, Ne.symm hn_b8.1, Ne.symm hn_b8.2.1, enc_len, enc_scal, lput_enc, take_enc, n6, n6.symm, hn_b4, hr_b4, hn_b5, hr_b5, hn_b6, hr_b6, go_sem, ↓reduceIte, Nat.reduceEqDiff, Nat.reduceLT, Nat.reduceLeDiff, Nat.reduceAdd, Nat.reduceMul, Nat.reduceSub, reduceCtorEq, Int.reduceToNat, Int.reduceLT, Int.reduceLE, Int.reduceEq, Int.reduceNe, Int.reduceBEq, Nat.reduceBEq, Int.reduceBNe, Nat.reduceBNe, Int.reduceAdd, Int.reduceSub, Int.reduceMul, Int.reduceNeg]
  have hev8 := ErrV.keep (ErrV.keep hev hKT) (Keep.add (k := .cells (enc (doW X op fl rec v)) 26 4) h_b8)
  refine (Is_c hev8 (by decide)).mono ?_; rintro _ _ ⟨rfl, rfl⟩
  by_cases e5 : doE X op fl rec = 5
  · have hd5 : doD X op fl rec den = IntKind.i64.wrap (den + 1) := by rw [doD, if_pos e5]
    rw [hd5]
    simp (dsimp := false) (maxSteps := 4000000) only [e5, hn_b8.1, hn_b8.2.1, Ne.symm hn_b8.1, Ne.symm hn_b8.2.1, enc_len, enc_scal, lput_enc, take_enc, n6, n6.symm, hn_b4, hr_b4, hn_b5, hr_b5, hn_b6, hr_b6, go_sem, ↓reduceIte, Nat.reduceEqDiff, Nat.reduceLT, Nat.reduceLeDiff, Nat.reduceAdd, Nat.reduceMul, Nat.reduceSub, reduceCtorEq, Int.reduceToNat, Int.reduceLT, Int.reduceLE, Int.reduceEq, Int.reduceNe, Int.reduceBEq, Nat.reduceBEq, Int.reduceBNe, Nat.reduceBNe, Int.reduceAdd, Int.reduceSub, Int.reduceMul, Int.reduceNeg]
    refine AWp.gen [.rd, .pu, .ch, .ch, .pu] [0, 0, 2, 7, 15] 3 (_) mixed (by kernel_rfl) (AH.le_refl _) ?_
    simp (dsimp := false) (maxSteps := 4000000) only [hn_b8.1, hn_b8.2.1, Ne.symm hn_b8.1, Ne.symm hn_b8.2.1, enc_len, enc_scal, lput_enc, take_enc, n6, n6.symm, hn_b4, hr_b4, hn_b5, hr_b5, hn_b6, hr_b6, go_sem, ↓reduceIte, Nat.reduceEqDiff, Nat.reduceLT, Nat.reduceLeDiff, Nat.reduceAdd, Nat.reduceMul, Nat.reduceSub, reduceCtorEq, Int.reduceToNat, Int.reduceLT, Int.reduceLE, Int.reduceEq, Int.reduceNe, Int.reduceBEq, Nat.reduceBEq, Int.reduceBNe, Nat.reduceBNe, Int.reduceAdd, Int.reduceSub, Int.reduceMul, Int.reduceNeg]
    have h_b8' : Fresh ((D.add b6 (.cells [.int .u8 0, .int .u8 0, .int .u8 0, .int .u8 0] 26 4)).add b (.cells [.map (some bm), .int .i64 (IntKind.i64.wrap (den + 1))] 133 2)) b8 := by simp only [fresh_add, ne_eq, hn_b8.1, hn_b8.2.1, hn_b8.2.2, not_false_eq_true, and_self]
    refine (number_c (by simp only [w0_add, hDw]; exact hE) (ErrV.keep (ErrV.over (ErrV.keep hev hKT)) (Keep.add h_b8'))).mono ?_; rintro _ _ ⟨rfl, rfl⟩
    simp (dsimp := false) (maxSteps := 4000000) only [hn_b8.1, hn_b8.2.1, Ne.symm hn_b8.1, Ne.symm hn_b8.2.1, enc_len, enc_scal, lput_enc, take_enc, n6, n6.symm, hn_b4, hr_b4, hn_b5, hr_b5, hn_b6, hr_b6, go_sem, ↓reduceIte, Nat.reduceEqDiff, Nat.reduceLT, Nat.reduceLeDiff, Nat.reduceAdd, Nat.reduceMul, Nat.reduceSub, reduceCtorEq, Int.reduceToNat, Int.reduceLT, Int.reduceLE, Int.reduceEq, Int.reduceNe, Int.reduceBEq, Nat.reduceBEq, Int.reduceBNe, Nat.reduceBNe, Int.reduceAdd, Int.reduceSub, Int.reduceMul, Int.reduceNeg]
    obtain ⟨f1, f2, f3⟩ := fin (D := D) (T := (D.add b6 (.cells (enc (doW X op fl rec v)) 26 4)).add b (.cells [.map (some bm), .int .i64 (IntKind.i64.wrap (den + 1))] 133 2)) rfl rfl
    exact ⟨_, AH.le_add (AH.le_refl _) (by rw [find_add, if_neg hn_b8.1, find_add, if_neg hn_b8.2.1]; exact hn_b8.2.2.2), ft', rfl, f1, f2, f3⟩
  · have hd5 : doD X op fl rec den = den := by rw [doD, if_neg e5]
    rw [hd5]
    simp (dsimp := false) (maxSteps := 4000000) only [e5, hn_b8.1, hn_b8.2.1, Ne.symm hn_b8.1, Ne.symm hn_b8.2.1, enc_len, enc_scal, lput_enc, take_enc, n6, n6.symm, hn_b4, hr_b4, hn_b5, hr_b5, hn_b6, hr_b6, go_sem, ↓reduceIte, Nat.reduceEqDiff, Nat.reduceLT, Nat.reduceLeDiff, Nat.reduceAdd, Nat.reduceMul, Nat.reduceSub, reduceCtorEq, Int.reduceToNat, Int.reduceLT, Int.reduceLE, Int.reduceEq, Int.reduceNe, Int.reduceBEq, Nat.reduceBEq, Int.reduceBNe, Nat.reduceBNe, Int.reduceAdd, Int.reduceSub, Int.reduceMul, Int.reduceNeg]
    refine AWp.gen [.rd, .pu, .ch, .ch, .pu] [0, 0, 2, 7, 15] 3 (_) mixed (by kernel_rfl) (AH.le_refl _) ?_
    simp (dsimp := false) (maxSteps := 4000000) only [hn_b8.1, hn_b8.2.1, Ne.symm hn_b8.1, Ne.symm hn_b8.2.1, enc_len, enc_scal, lput_enc, take_enc, n6, n6.symm, hn_b4, hr_b4, hn_b5, hr_b5, hn_b6, hr_b6, go_sem, ↓reduceIte, Nat.reduceEqDiff, Nat.reduceLT, Nat.reduceLeDiff, Nat.reduceAdd, Nat.reduceMul, Nat.reduceSub, reduceCtorEq, Int.reduceToNat, Int.reduceLT, Int.reduceLE, Int.reduceEq, Int.reduceNe, Int.reduceBEq, Nat.reduceBEq, Int.reduceBNe, Nat.reduceBNe, Int.reduceAdd, Int.reduceSub, Int.reduceMul, Int.reduceNeg]
    refine (number_c (by simp only [w0_add, hDw]; exact hE) hev8).mono ?_; rintro _ _ ⟨rfl, rfl⟩
    simp (dsimp := false) (maxSteps := 4000000) only [hn_b8.1, hn_b8.2.1, Ne.symm hn_b8.1, Ne.symm hn_b8.2.1, enc_len, enc_scal, lput_enc, take_enc, n6, n6.symm, hn_b4, hr_b4, hn_b5, hr_b5, hn_b6, hr_b6, go_sem, ↓reduceIte, Nat.reduceEqDiff, Nat.reduceLT, Nat.reduceLeDiff, Nat.reduceAdd, Nat.reduceMul, Nat.reduceSub, reduceCtorEq, Int.reduceToNat, Int.reduceLT, Int.reduceLE, Int.reduceEq, Int.reduceNe, Int.reduceBEq, Nat.reduceBEq, Int.reduceBNe, Nat.reduceBNe, Int.reduceAdd, Int.reduceSub, Int.reduceMul, Int.reduceNeg]
    obtain ⟨f1, f2, f3⟩ := fin (D := D) (T := (D.add b6 (.cells (enc (doW X op fl rec v)) 26 4)).add b (.cells [.map (some bm), .int .i64 den] 133 2)) rfl rfl
    exact ⟨_, AH.le_add (AH.le_refl _) (by rw [find_add, if_neg hn_b8.1, find_add, if_neg hn_b8.2.1]; exact hn_b8.2.2.2), ft', rfl, f1, f2, f3⟩
end Go.Proofs.YtamlipffhimfmaaGreatDoor.Ifs

/- ifs: Copy. -/
namespace Go.Proofs.YtamlipffhimfmaaGreatDoor.Ifs
set_option linter.unusedSimpArgs false
set_option linter.unusedVariables false
open Go Go.AX Go.Proofs Ty Go.Proofs.YtamlipffhimfmaaGreatDoor.File Go.Proofs.YtamlipffhimfmaaGreatDoor.Err
set_option maxHeartbeats 4000000
set_option maxRecDepth 10000

end Go.Proofs.YtamlipffhimfmaaGreatDoor.Ifs

/- slices.Sorted over maps.Keys, by the library's contracts. -/
namespace Go.Proofs
set_option linter.unusedSimpArgs false
set_option linter.unusedVariables false
open Go.RowKit Go.Maps Go.Sort Go.Shelf

shelf_lay_g SlLaysZI.n7 Ggz 7 at Tryz 50 as Tryz.keysA
shelf_lay_g SlLaysZI.n6 Ggz 6 at Tryz 49 as Tryz.sortedA
shelf_lay_g SlLaysM.n5 Slgm 5 at Tryz 85 as Tryz.sortA

theorem Tryz.sortsA (m : Nat) : AnyZI.SortsIn Tryz.prog Tryz.sortedA_ren Fence.wide m :=
  ⟨fun blk off cap ss W hH hblk hsz => callsIn_wide.2 (AnyM.slices_Sort_int Tryz.sortA blk off cap ss W hH hblk hsz),
   fun p cap W => callsIn_wide.2 (AnyM.slices_Sort_int_none Tryz.sortA p cap W)⟩

theorem Tryz.sortedCalls (w : World) (Bm b nn : Nat) (D0 : DataW Unit) (R : Value → Option (DataW Unit × List MemPlace)) (hBm : Bm < w.heap.size) (hm : w.cell? ⟨Bm, 0, none⟩ = some (.map (some b))) (hown : w.ownsMap Tryz.prog 3 R b nn D0) (hmax : Maps.size D0 ≤ maxLen) (hbytes : Maps.size D0 * 8 ≤ 140737488355328) :
    Calls Tryz.prog 49 #[.func (.func 86) #[] #[.pointer (some ⟨Bm, 0, none⟩)]] w fun e w' => ∃ (v : Value) (ss : List Int), e = .returned v ∧ ss.Perm (intKeys D0) ∧
      w'.ownsRow w.heap.size 3 1 v ss.length ((ss.mergeSort (fun x y => decide (x ≤ y))).map encZ) ∧ (v = .slice none 0 0 ↔ ss = []) ∧ Below w.heap.size w w' := by
  refine (callsIn_wide (n := 5)).1 ?_
  have hseq : SeqGives Fence.wide 2 Tryz.prog 86 #[.pointer (some ⟨Bm, 0, none⟩)] encZ (fun ss => ss.Perm (intKeys D0)) (Maps.size D0) w :=
    AnyZI.keys_gives (ρ := Tryz.keysA_ren) { Tryz.keysA with } Fence.wide _ trivial rfl (by omega) Bm b nn D0 w hBm hm hown
  have cS := AnyZI.sorted_in Tryz.sortedA Fence.wide 5 trivial trivial trivial trivial rfl (by omega) (Tryz.sortsA _) (enters_of Tryz.func85 (by kernel_rfl) rfl) 86 #[.pointer (some ⟨Bm, 0, none⟩)] trivial (enters_of Tryz.func86 (by kernel_rfl) rfl) _ _ hmax hbytes _ hseq
  exact cS
end Go.Proofs

/- ifs: the sorted numbers of a store's files. -/
namespace Go.Proofs.YtamlipffhimfmaaGreatDoor.Ifs
set_option linter.unusedSimpArgs false
set_option linter.unusedVariables false
open Go Go.AX Go.RowKit Go.Proofs Ty Go.Proofs.YtamlipffhimfmaaGreatDoor.File
set_option maxHeartbeats 4000000
set_option maxRecDepth 10000

theorem Sat.newb {E : Nat → Option Obj} {H : AH} {w w' : World} {g e cap : Nat} {cs : List Value} {cur : Array Value} (h : Sat E H w) (hb : Below w.heap.size w w') (hg : w.heap.size ≤ g) (hc : w'.heap[g]? = some (.cells cur e (0, 0))) (hs : cur.size = cap) (hp : cs <+: cur.toList) :
    Sat E (H.add g (.cells cs e cap)) w' ∧ Fresh H g := by
  have h' := h.belowed hb
  have hfr : Fresh H g := ⟨Nat.le_trans h.below.size hg, by
    cases hf : H.find g with
    | none => rfl
    | some k => have := (h.known _ _ hf).2.1; omega⟩
  refine ⟨⟨h'.below, fun b k hk => ?_, fun b o ho => ?_⟩, hfr⟩
  · rw [find_add] at hk
    split at hk
    · rename_i e1; subst e1; cases hk
      exact ⟨hfr.1, (Array.getElem?_eq_some_iff.1 hc).1, cur, hc, hs, hp⟩
    · exact h'.known _ _ hk
  · obtain ⟨q1, q2, q3⟩ := h.far b o ho
    have hlt : b < w.heap.size := (Array.getElem?_eq_some_iff.1 q3).1
    have := h'.far b o ho
    exact ⟨this.1, by rw [find_add, if_neg (by omega)]; exact this.2.1, this.2.2⟩
theorem Keys_c {H : AH} (bm : Nat) : ACalls Tryz.prog 50 #[.map (some bm)] H (fun v H' => ∃ bk, Fresh H bk ∧ v = .func (.func 86) #[] #[.pointer (some ⟨bk, 0, none⟩)] ∧ H' = H.add bk (.cells [.map (some bm)] 131 1)) := by
  refine ACalls.enter2 Tryz.func50 rfl Tryz.ntmps50 Tryz.results50 (by simp) ?_; simp (dsimp := false) (maxSteps := 4000000) only [go_sem, ↓reduceIte, Nat.reduceEqDiff, Nat.reduceLT, Nat.reduceLeDiff, Nat.reduceAdd, Nat.reduceMul, Nat.reduceSub, reduceCtorEq, Int.reduceToNat, Int.reduceLT, Int.reduceLE, Int.reduceEq, Int.reduceNe, Int.reduceBEq, Nat.reduceBEq, Int.reduceBNe, Nat.reduceBNe, Int.reduceAdd, Int.reduceSub, Int.reduceMul, Int.reduceNeg]
  refine AllB.mk fun bk h_bk => ?_; have hn_bk := h_bk; (try simp only [fresh_add, fresh_set, ne_eq] at hn_bk); have hr_bk := hn_bk; (try simp only [@eq_comm Nat bk] at hr_bk); simp (dsimp := false) (maxSteps := 4000000) only [hn_bk, hr_bk, go_sem, ↓reduceIte, Nat.reduceEqDiff, Nat.reduceLT, Nat.reduceLeDiff, Nat.reduceAdd, Nat.reduceMul, Nat.reduceSub, reduceCtorEq, Int.reduceToNat, Int.reduceLT, Int.reduceLE, Int.reduceEq, Int.reduceNe, Int.reduceBEq, Nat.reduceBEq, Int.reduceBNe, Nat.reduceBNe, Int.reduceAdd, Int.reduceSub, Int.reduceMul, Int.reduceNeg]
  exact ⟨_, AH.le_refl _, bk, h_bk, rfl, rfl⟩
theorem encZ_list (l : List Int) : l.map encZ = (l.map fun k => [Value.int .i64 k]).flatten := by
  induction l with
  | nil => rfl
  | cons x l ih => simp only [List.map_cons, List.flatten_cons, List.singleton_append, ih]
def encI (k : Int) : List Value := [.int .i64 k]
theorem Sorted_c {H : AH} {bk bm t : Nat} {ms : List MF} (hbk : H.find bk = some (.cells [.map (some bm)] t 1)) (hbm : H.find bm = some (.amap (ms.map MF.ent))) (hkd : Kd (ms.map MF.nf)) (hn : ∀ m ∈ ms, 0 ≤ m.n ∧ m.n < 64) (hl : ms.length ≤ 64) :
    ACalls Tryz.prog 49 #[.func (.func 86) #[] #[.pointer (some ⟨bk, 0, none⟩)]] H
      (fun v H' => ∃ b c, ∃ ks : List Int, v = .slice b ks.length c ∧ ks.Perm (ms.map (·.n)) ∧ ks.Pairwise (· ≤ ·) ∧ SlcIn H' 1 b c (ks.map encI) ∧ Keep H H' (fun _ => False) ∧ ∀ a, b = some a → Fresh H a.block) := fun E w hs => by
  have hc : w.cell? ⟨bk, 0, none⟩ = some (.map (some bm)) := hs.rd (by rw [rd_find hbk]; rfl)
  obtain ⟨_, _, en, cl, hen, hm1, hm2⟩ := hs.known _ _ hbm
  have hbkl := (hs.known _ _ hbk).2.1
  have hkeys : en.toList.map (·.key) = ms.map fun m => Value.int .i64 m.n := by
    have : en.toList.map (·.key) = (en.toList.map fun x => (x.key, x.val)).map (·.1) := by rw [List.map_map]; rfl
    rw [this, hm1, List.map_map]; rfl
  have hlen : en.size = ms.length := by
    have := congrArg List.length hkeys
    simpa using this
  have hwf : ∀ m ∈ ms, (Lit.int .i64 m.n).wf = true := fun m hm => by
    have := hn m hm
    simp [Lit.wf, IntKind.min, IntKind.max, IntKind.signed, IntKind.bits]; omega
  have hko : ∀ x ∈ en.toList, ∃ m ∈ ms, x.key = .int .i64 m.n := fun x hx => by
    have : x.key ∈ en.toList.map (·.key) := List.mem_map_of_mem hx
    rw [hkeys] at this
    obtain ⟨m, hm, he⟩ := List.mem_map.1 this
    exact ⟨m, hm, he.symm⟩
  have hrd : ∀ x ∈ en.toList, ∀ n, x.key = .int .i64 n → WideElems.rd (H := Unit) Tryz.prog 3 (fun _ => some (.nil, [])) x = some (.int .i64 n, .nil) := fun x hx n hn' => by
    obtain ⟨m, hm, he⟩ := hko x hx
    rw [he] at hn'; cases hn'
    have := Maps.keyOf_int_mk (P := Tryz.prog) Tryz.underlying3 (hwf m hm)
    simp only [WideElems.rd, he, this, Option.bind_some, Option.map_some]
  have hnd : (ms.map (·.n)).Nodup := by
    have := hkd
    rw [Kd, List.map_map] at this
    exact this
  have hfit : WideElems.Fit (H := Unit) Tryz.prog 3 (fun _ => some (.nil, [])) en cl := ⟨Nat.le_trans (by omega) (show (64 : Nat) ≤ maxLen by decide), ⟨hm2.1, hm2.2, by
    rw [hkeys]
    have : (ms.map fun m => Value.int .i64 m.n) = (ms.map (·.n)).map (Value.int .i64) := by rw [List.map_map]; rfl
    rw [this]
    rw [List.Nodup, List.pairwise_map]
    exact hnd.imp fun h e => h (by cases e; rfl)⟩, fun x hx => by
    obtain ⟨m, hm, he⟩ := hko x hx
    exact ⟨_, hrd x hx m.n he⟩⟩
  have hown : w.ownsMap (H := Unit) Tryz.prog 3 (fun _ => some (.nil, [])) bm en.size (.map ((en.toList.map (WideElems.rg Tryz.prog 3 (fun _ => some (.nil, [])))).foldr DataW.insert [])) := ⟨en, cl, hen, hfit, Nat.le_refl _, rfl⟩
  have hperm := WideShapes.sorted_perm (en.toList.map (WideElems.rg (H := Unit) Tryz.prog 3 (fun _ => some (.nil, []))))
  have hsize : Maps.size (DataW.map ((en.toList.map (WideElems.rg (H := Unit) Tryz.prog 3 (fun _ => some (.nil, [])))).foldr DataW.insert [])) = ms.length := by
    rw [Maps.size_eq, hperm.length_eq, List.length_map, Array.length_toList, hlen]
  have hik : (intKeys (DataW.map ((en.toList.map (WideElems.rg (H := Unit) Tryz.prog 3 (fun _ => some (.nil, [])))).foldr DataW.insert []))).Perm (ms.map (·.n)) := by
    refine (hperm.map _).trans ?_
    rw [List.map_map]
    have : en.toList.map ((fun p : Lit × DataW Unit => _root_.Go.intOf p.1) ∘ WideElems.rg (H := Unit) Tryz.prog 3 (fun _ => some (.nil, []))) = ms.map (·.n) := by
      have h2 : en.toList.map ((fun p : Lit × DataW Unit => _root_.Go.intOf p.1) ∘ WideElems.rg (H := Unit) Tryz.prog 3 (fun _ => some (.nil, []))) = (en.toList.map (·.key)).map fun v => match v with | .int _ n => n | _ => 0 := by
        rw [List.map_map]
        refine List.map_congr_left fun x hx => ?_
        obtain ⟨m, hm, he⟩ := hko x hx
        simp only [Function.comp, WideElems.rg, hrd x hx m.n he, he, Option.getD_some]
        rfl
      rw [h2, hkeys, List.map_map]; rfl
    rw [this]
  refine (Tryz.sortedCalls w bk bm _ _ _ hbkl hc hown (by rw [hsize]; exact Nat.le_trans hl (show (64 : Nat) ≤ maxLen by decide)) (by rw [hsize]; omega)).mono ?_
  rintro ev w' ⟨v, ss, rfl, hss, hrow, hnil, hbel⟩
  have hp1 : (ss.mergeSort fun x y => decide (x ≤ y)).Perm (ms.map (·.n)) := (List.mergeSort_perm _ _).trans (hss.trans hik)
  have hsorted : (ss.mergeSort fun x y => decide (x ≤ y)).Pairwise (· ≤ ·) := by
    have := List.pairwise_mergeSort (le := fun x y : Int => decide (x ≤ y)) (fun a b c h1 h2 => by simp at *; omega) (fun a b => by simp; omega) ss
    exact this.imp fun h => by simpa using h
  have hlen2 : (ss.mergeSort fun x y => decide (x ≤ y)).length = ss.length := List.length_mergeSort _
  obtain ⟨hl1, hrow⟩ := hrow
  rcases hrow with ⟨rfl, h0⟩ | ⟨g, cap, cur, rfl, hg, hcur, hcl, _, hsz, htk⟩
  · have : ss = [] := List.eq_nil_of_length_eq_zero h0
    subst this
    exact ⟨_, H, rfl, hs.belowed hbel, none, 0, [], rfl, by simpa using hp1, .nil, SlcIn.empty, Keep.refl, fun a ha => by cases ha⟩
  · obtain ⟨q1, q2⟩ := Sat.newb (cs := (ss.mergeSort fun x y => decide (x ≤ y)).map encZ) (cap := cap) hs hbel hg hcur (by rw [hsz, Nat.mul_one]) (by rw [← htk]; exact List.take_prefix _ _)
    refine ⟨_, _, rfl, q1, some ⟨g, 0, none⟩, cap, ss.mergeSort fun x y => decide (x ≤ y), by rw [hlen2], hp1, hsorted, ?_, Keep.add q2, fun a ha => by cases ha; exact q2⟩
    refine SlcIn.of_find (e := 3) (m := cap) (by rw [find_add_self, encZ_list]; rfl) (fun r hr => ?_) (by rw [List.length_map, hlen2]; exact hcl) (by rw [List.length_map, hlen2, hss.length_eq, hik.length_eq, List.length_map]; omega)
    obtain ⟨k, _, rfl⟩ := List.mem_map.1 hr
    rfl
end Go.Proofs.YtamlipffhimfmaaGreatDoor.Ifs

/- ifs: Files. -/
namespace Go.Proofs.YtamlipffhimfmaaGreatDoor.Ifs
set_option linter.unusedSimpArgs false
set_option linter.unusedVariables false
open Go Go.AX Go.Proofs Ty Go.Proofs.YtamlipffhimfmaaGreatDoor.File
set_option maxHeartbeats 4000000
set_option maxRecDepth 10000

theorem OkX.len {X : List Nf} (h : OkX X) : X.length ≤ 64 := by
  have h1 : (X.map fun x => x.1.toNat).Nodup := by
    have : (X.map fun x => x.1.toNat) = (X.map (·.1)).map Int.toNat := by rw [List.map_map]; rfl
    rw [this, List.Nodup, List.pairwise_map]
    refine List.Pairwise.imp_of_mem ?_ h.kd
    intro a b ha hb hab e
    obtain ⟨x, hx, rfl⟩ := List.mem_map.1 ha
    obtain ⟨y, hy, rfl⟩ := List.mem_map.1 hb
    have := (h.ok x hx).1; have := (h.ok y hy).1
    exact hab (by omega)
  have := nodup_range_le (n := 64) h1 (fun k hk => by
    obtain ⟨x, hx, rfl⟩ := List.mem_map.1 hk
    have := (h.ok x hx).1; omega)
  simpa using this
theorem ClipN_c (base : Option Addr) (n cap : Nat) (H : AH) (h : n ≤ cap) :
    ACalls Tryz.prog 52 #[.slice base n cap] H (fun v H' => v = .slice base n n ∧ H = H') := by
  refine ACalls.enter2 Tryz.func52 rfl Tryz.ntmps52 Tryz.results52 (by simp) ?_; simp (dsimp := false) (maxSteps := 4000000) only [go_sem, ↓reduceIte, Nat.reduceEqDiff, Nat.reduceLT, Nat.reduceLeDiff, Nat.reduceAdd, Nat.reduceMul, Nat.reduceSub, reduceCtorEq, Int.reduceToNat, Int.reduceLT, Int.reduceLE, Int.reduceEq, Int.reduceNe, Int.reduceBEq, Nat.reduceBEq, Int.reduceBNe, Nat.reduceBNe, Int.reduceAdd, Int.reduceSub, Int.reduceMul, Int.reduceNeg]
  have h' : (n : Int) ≤ cap := by omega
  simp (dsimp := false) (maxSteps := 4000000) only [h', Int.le_refl, go_sem, ↓reduceIte, Nat.reduceEqDiff, Nat.reduceLT, Nat.reduceLeDiff, Nat.reduceAdd, Nat.reduceMul, Nat.reduceSub, reduceCtorEq, Int.reduceToNat, Int.reduceLT, Int.reduceLE, Int.reduceEq, Int.reduceNe, Int.reduceBEq, Nat.reduceBEq, Int.reduceBNe, Nat.reduceBNe, Int.reduceAdd, Int.reduceSub, Int.reduceMul, Int.reduceNeg]
  exact ⟨H, (AH.le_refl _), (by first | exact ⟨rfl, rfl⟩ | rfl)⟩
def zOf (X : List Nf) (k : Int) : Nf := (k, (lk k X).getD (0, []))
theorem zOf_map {X : List Nf} (h : Kd X) : (X.map (·.1)).map (zOf X) = X := by
  rw [List.map_map]
  conv => rhs; rw [← List.map_id X]
  refine List.map_congr_left fun x hx => ?_
  simp [zOf, lk_mem h (f := x.2) (n := x.1) hx]
theorem nf_of_ks {X : List Nf} (hX : Kd X) {Z : List RF} {ks : List Int} (hz : Z.map (·.n) = ks) (hl : ∀ z ∈ Z, lk z.n X = some (z.p, z.R)) (hp : ks.Perm (X.map (·.1))) (hs : ks.Pairwise (· ≤ ·)) : (Z.map RF.nf).Perm X ∧ Srt (Z.map RF.nf) := by
  have e : Z.map RF.nf = ks.map (zOf X) := by
    rw [← hz, List.map_map]
    refine List.map_congr_left fun z h => ?_
    simp [zOf, RF.nf, hl z h]
  refine ⟨?_, ?_⟩
  · rw [e]
    have := hp.map (zOf X)
    rwa [zOf_map hX] at this
  · have hnd : ks.Nodup := hp.nodup_iff.2 hX
    have : ks.Pairwise (· < ·) := by
      have := List.Pairwise.and hs hnd
      exact this.imp fun ⟨h1, h2⟩ => by omega
    rw [← hz, List.pairwise_map] at this
    rw [Srt, List.pairwise_map]
    exact this
/-- A file in a list that is being built: its own block. -/
def Own1 (H1 A : AH) (base : Option Addr) (X : List Nf) (z : RF) : Prop := ∃ zb bs, z.base = some ⟨zb, 0, none⟩ ∧ z.cap = z.R.length ∧ A.find zb = some (.cells (z.R.map enc).flatten 26 bs) ∧ z.R.length * 4 ≤ bs ∧ Fresh H1 zb ∧ (∀ a, base = some a → zb ≠ a.block) ∧ lk z.n X = some (z.p, z.R)
theorem Files_c {H : AH} {b : Nat} {X : List Nf} {den : Int} {ft : Nat → Prop} (h : StAt H b X den ft) (hX : OkX X) :
    ACalls Tryz.prog 18 #[.pointer (some ⟨b, 0, none⟩)] H (fun u H' => ∃ base cap Z rd, u = .slice base (List.length Z) cap ∧ (Z.map RF.nf).Perm X ∧ Srt (Z.map RF.nf) ∧ NmIn H' base cap Z rd ∧ Keep H H' (fun _ => False) ∧ ∀ x, rd x → Fresh H x) := by
  obtain ⟨bm, ms, h1, rfl, hft⟩ := h
  have hlen : ms.length ≤ 64 := by have := hX.len; simpa using this
  have hn64 : ∀ m ∈ ms, 0 ≤ m.n ∧ m.n < 64 := fun m hm => (hX.ok m.nf (List.mem_map_of_mem hm)).1
  have r0 : H.rd ⟨b, 0, none⟩ = some (.map (some bm)) := by rw [rd_find h1.top]; rfl
  refine ACalls.enter2 Tryz.func18 rfl Tryz.ntmps18 Tryz.results18 (by simp) ?_; simp (dsimp := false) (maxSteps := 4000000) only [go_sem, ↓reduceIte, Nat.reduceEqDiff, Nat.reduceLT, Nat.reduceLeDiff, Nat.reduceAdd, Nat.reduceMul, Nat.reduceSub, reduceCtorEq, Int.reduceToNat, Int.reduceLT, Int.reduceLE, Int.reduceEq, Int.reduceNe, Int.reduceBEq, Nat.reduceBEq, Int.reduceBNe, Nat.reduceBNe, Int.reduceAdd, Int.reduceSub, Int.reduceMul, Int.reduceNeg]
  simp (dsimp := false) (maxSteps := 4000000) only [r0, go_sem, ↓reduceIte, Nat.reduceEqDiff, Nat.reduceLT, Nat.reduceLeDiff, Nat.reduceAdd, Nat.reduceMul, Nat.reduceSub, reduceCtorEq, Int.reduceToNat, Int.reduceLT, Int.reduceLE, Int.reduceEq, Int.reduceNe, Int.reduceBEq, Nat.reduceBEq, Int.reduceBNe, Nat.reduceBNe, Int.reduceAdd, Int.reduceSub, Int.reduceMul, Int.reduceNeg]
  refine (Keys_c bm).mono ?_
  rintro _ _ ⟨bk, h_bk, rfl, rfl⟩
  simp (dsimp := false) (maxSteps := 4000000) only [go_sem, ↓reduceIte, Nat.reduceEqDiff, Nat.reduceLT, Nat.reduceLeDiff, Nat.reduceAdd, Nat.reduceMul, Nat.reduceSub, reduceCtorEq, Int.reduceToNat, Int.reduceLT, Int.reduceLE, Int.reduceEq, Int.reduceNe, Int.reduceBEq, Nat.reduceBEq, Int.reduceBNe, Nat.reduceBNe, Int.reduceAdd, Int.reduceSub, Int.reduceMul, Int.reduceNeg]
  have nk1 : bk ≠ b := h_bk.ne_find h1.top
  have nk2 : bk ≠ bm := h_bk.ne_find h1.map
  refine (Sorted_c (ms := ms) (find_add_self _ _ _) (by rw [find_add, if_neg (Ne.symm nk2)]; exact h1.map) h1.kd hn64 hlen).mono ?_
  rintro _ H1 ⟨kb, kc, ks, rfl, hperm, hsrt, hks, hK1, _⟩
  have hkl : ks.length = ms.length := by rw [hperm.length_eq, List.length_map]
  have hK1' : Keep H H1 fun _ => False := (Keep.add h_bk).trans hK1
  have hS := h1.keep hK1' fun _ _ h => h
  have hperm' : ks.Perm ((ms.map MF.nf).map (·.1)) := by rw [List.map_map]; exact hperm
  simp (dsimp := false) (maxSteps := 4000000) only [go_sem, ↓reduceIte, Nat.reduceEqDiff, Nat.reduceLT, Nat.reduceLeDiff, Nat.reduceAdd, Nat.reduceMul, Nat.reduceSub, reduceCtorEq, Int.reduceToNat, Int.reduceLT, Int.reduceLE, Int.reduceEq, Int.reduceNe, Int.reduceBEq, Nat.reduceBEq, Int.reduceBNe, Nat.reduceBNe, Int.reduceAdd, Int.reduceSub, Int.reduceMul, Int.reduceNeg]
  refine AWp.loopr (ι := Nat × Option Addr × Nat × List RF) (fun s A => s.1 ≤ ks.length ∧ s.2.2.2.map (·.n) = ks.take s.1 ∧ OwnS H1 A 74 3 s.2.1 s.2.2.1 (s.2.2.2.map encN) ∧ (Keep H1 A fun _ => False) ∧ ∀ z ∈ s.2.2.2, Own1 H1 A s.2.1 (ms.map MF.nf) z)
    (fun s => [(15, .int .i64 s.1), (14, .int .i64 ks.length), (13, .slice kb ks.length kc), (3, .slice s.2.1 s.2.2.2.length s.2.2.1), (0, .pointer (some ⟨b, 0, none⟩))]) (fun s => ks.length - s.1) (0, none, 0, []) H1
    ⟨by simp, rfl, OwnS.nil, Keep.refl, by simp⟩ (FrLe.of_lks ?_) (AH.le_refl _) fun s A hV Q again out => ?_
  · simp (dsimp := false) (maxSteps := 4000000) only [go_sem, ↓reduceIte, Nat.reduceEqDiff, Nat.reduceLT, Nat.reduceLeDiff, Nat.reduceAdd, Nat.reduceMul, Nat.reduceSub, reduceCtorEq, Int.reduceToNat, Int.reduceLT, Int.reduceLE, Int.reduceEq, Int.reduceNe, Int.reduceBEq, Nat.reduceBEq, Int.reduceBNe, Nat.reduceBNe, Int.reduceAdd, Int.reduceSub, Int.reduceMul, Int.reduceNeg]
  obtain ⟨i, base, cap, Z⟩ := s
  obtain ⟨hi, hz, hO, hK, hZ⟩ := hV
  dsimp only at hi hz hO hK hZ ⊢
  have hZl : Z.length = i := by have := congrArg List.length hz; rw [List.length_map, List.length_take] at this; omega
  have hSA := hS.keep hK fun _ _ h => h
  by_cases hlt : (i : Int) < ks.length
  case neg =>
    obtain rfl : i = ks.length := by omega
    simp (dsimp := false) (maxSteps := 4000000) only [hlt, go_sem, ↓reduceIte, Nat.reduceEqDiff, Nat.reduceLT, Nat.reduceLeDiff, Nat.reduceAdd, Nat.reduceMul, Nat.reduceSub, reduceCtorEq, Int.reduceToNat, Int.reduceLT, Int.reduceLE, Int.reduceEq, Int.reduceNe, Int.reduceBEq, Nat.reduceBEq, Int.reduceBNe, Nat.reduceBNe, Int.reduceAdd, Int.reduceSub, Int.reduceMul, Int.reduceNeg]
    refine out _ _ _ (by simp) ?_
    simp (dsimp := false) (maxSteps := 4000000) only [go_sem, ↓reduceIte, Nat.reduceEqDiff, Nat.reduceLT, Nat.reduceLeDiff, Nat.reduceAdd, Nat.reduceMul, Nat.reduceSub, reduceCtorEq, Int.reduceToNat, Int.reduceLT, Int.reduceLE, Int.reduceEq, Int.reduceNe, Int.reduceBEq, Nat.reduceBEq, Int.reduceBNe, Nat.reduceBNe, Int.reduceAdd, Int.reduceSub, Int.reduceMul, Int.reduceNeg]
    refine (ClipN_c base Z.length cap _ (by have := hO.le; simpa using this)).mono ?_; rintro _ _ ⟨rfl, rfl⟩
    simp (dsimp := false) (maxSteps := 4000000) only [go_sem, ↓reduceIte, Nat.reduceEqDiff, Nat.reduceLT, Nat.reduceLeDiff, Nat.reduceAdd, Nat.reduceMul, Nat.reduceSub, reduceCtorEq, Int.reduceToNat, Int.reduceLT, Int.reduceLE, Int.reduceEq, Int.reduceNe, Int.reduceBEq, Nat.reduceBEq, Int.reduceBNe, Nat.reduceBNe, Int.reduceAdd, Int.reduceSub, Int.reduceMul, Int.reduceNeg]
    rw [List.take_length] at hz
    obtain ⟨p1, p2⟩ := nf_of_ks h1.kd hz (fun z h => by obtain ⟨_, _, _, _, _, _, _, _, h⟩ := hZ z h; exact h) hperm' hsrt
    refine ⟨A, AH.le_refl _, base, Z.length, Z, fun x => Fresh H x, rfl, p1, p2, ⟨hO.slc.recap (by simp), fun z hz => ?_, ?_, fun z hz => ?_⟩, hK1'.trans hK, fun x hx => hx⟩
    · obtain ⟨zb, bs, e1, e2, e3, e4, _⟩ := hZ z hz
      have := hO.big
      rw [e1, e2]
      refine SlcIn.of_find e3 (rows4 _) (by simp) ?_
      obtain ⟨_, _, _, _, _, _, _, _, hl⟩ := hZ z hz
      obtain ⟨_, hgd, _⟩ := hX.lk hl
      have := (goodF_len hgd).2
      dsimp only at this
      rw [List.length_map]; omega
    · cases hb : base with
      | none => exact .inr fun a h => by cases h
      | some a => exact .inr fun a' h => by cases h; exact hK1'.fr (hO.fresh a hb)
    · obtain ⟨zb, bs, e1, _, _, _, e5, _⟩ := hZ z hz
      exact .inr fun a h => by rw [e1] at h; cases h; exact hK1'.fr e5
  obtain ⟨k, hk⟩ := get_some (l := ks) (i := i) (by omega)
  have hksA : SlcIn A 1 kb kc (ks.map encI) := hks.keep hK fun _ _ h => h
  obtain ⟨kb_, ko, rfl, _, hrd⟩ := hksA.get (Go.AX.map_get (f := encI) hk)
  have rk := hrd 0 _ rfl
  simp only [Nat.add_zero, Nat.mul_one] at rk
  have hi0 : (0 : Int) ≤ (i : Int) := by omega
  have ee := i64_succ (i := i) (by omega)
  have rA : A.rd ⟨b, 0, none⟩ = some (.map (some bm)) := by rw [rd_find hSA.top]; rfl
  have hmp : A.mp bm = some (ms.map MF.ent) := by rw [AH.mp, hSA.map]
  obtain ⟨m0, hm0, hmk⟩ := List.mem_map.1 (hperm.mem_iff.1 (List.mem_of_getElem? hk))
  rcases hSA.at_ k with ⟨_, hl⟩ | ⟨j, m, hm, hj, hn, hl⟩
  · exact absurd (lk_none.1 hl m0.nf (List.mem_map_of_mem hm0)) (by simp [MF.nf, hmk])
  have hmem := List.mem_of_getElem? hj
  obtain ⟨_, hgd, _⟩ := hX.lk hl
  obtain ⟨hl1, hl2⟩ := goodF_len hgd
  dsimp only at hl1 hl2
  have hs := hSA.slc hmem (by omega)
  have hown := fun H1 (hs : SlcIn H1 4 (some ⟨m.blk, 0, none⟩) m.R.length (m.R.map enc)) => own_c m.p m.R _ _ H1 hs (by omega) (by omega)
  unfold fv at hown
  unfold MF.val fv at hm
  have hmp' : A.mp bm = some (ms.map MF.ent) := hmp
  
  simp (dsimp := false) (maxSteps := 4000000) only [hlt, hi0, rk, rA, hmp, hm, go_sem, ↓reduceIte, Nat.reduceEqDiff, Nat.reduceLT, Nat.reduceLeDiff, Nat.reduceAdd, Nat.reduceMul, Nat.reduceSub, reduceCtorEq, Int.reduceToNat, Int.reduceLT, Int.reduceLE, Int.reduceEq, Int.reduceNe, Int.reduceBEq, Nat.reduceBEq, Int.reduceBNe, Nat.reduceBNe, Int.reduceAdd, Int.reduceSub, Int.reduceMul, Int.reduceNeg]
  refine (hown _ hs).mono ?_; rintro _ _ ⟨b9, bs, h_b9, rfl, hbs, rfl⟩
  have hn_b9 := h_b9; (try simp only [fresh_add, fresh_set, ne_eq] at hn_b9); have hr_b9 := hn_b9; (try simp only [@eq_comm Nat b9] at hr_b9)
  simp (dsimp := false) (maxSteps := 4000000) only [hn_b9, hr_b9, go_sem, ↓reduceIte, Nat.reduceEqDiff, Nat.reduceLT, Nat.reduceLeDiff, Nat.reduceAdd, Nat.reduceMul, Nat.reduceSub, reduceCtorEq, Int.reduceToNat, Int.reduceLT, Int.reduceLE, Int.reduceEq, Int.reduceNe, Int.reduceBEq, Nat.reduceBEq, Int.reduceBNe, Nat.reduceBNe, Int.reduceAdd, Int.reduceSub, Int.reduceMul, Int.reduceNeg]
  refine AllB.mk fun bl h_bl => ?_; have hn_bl := h_bl; (try simp only [fresh_add, fresh_set, ne_eq] at hn_bl); have hr_bl := hn_bl; (try simp only [@eq_comm Nat bl] at hr_bl); simp (dsimp := false) (maxSteps := 4000000) only [hn_b9, hr_b9, hn_bl, hr_bl, go_sem, ↓reduceIte, Nat.reduceEqDiff, Nat.reduceLT, Nat.reduceLeDiff, Nat.reduceAdd, Nat.reduceMul, Nat.reduceSub, reduceCtorEq, Int.reduceToNat, Int.reduceLT, Int.reduceLE, Int.reduceEq, Int.reduceNe, Int.reduceBEq, Nat.reduceBEq, Int.reduceBNe, Nat.reduceBNe, Int.reduceAdd, Int.reduceSub, Int.reduceMul, Int.reduceNeg]
  let z : RF := ⟨k, m.p, some ⟨b9, 0, none⟩, m.R.length, m.R⟩
  have h_bl' : Fresh A bl := hn_bl.2
  have hO2 : OwnS H1 ((A.add b9 (.cells (m.R.map enc).flatten 26 bs)).add bl (.cells (encN z) 74 3)) 74 3 base cap (Z.map encN) := (hO.added h_b9).added h_bl
  have hK2 : Keep H1 ((A.add b9 (.cells (m.R.map enc).flatten 26 bs)).add bl (.cells (encN z) 74 3)) fun _ => False := (hK.nw h_b9).nw h_bl
  refine APD.growW (x := .slice (some ⟨bl, 0, none⟩) 1 1) (R' := [encN z]) (m := 1) hO2 hK2.all se_22 rfl (by decide) (by rw [Tryz.underlying22]; rfl) (by simp) rfl rfl (by rw [srow_some, row_add_self]; rfl) (by simp [encN]) (by simp [encN, scal]) (by omega) fun base' cap' A' hO' hK' hN' => ?_
  have hK2A : Keep A ((A.add b9 (.cells (m.R.map enc).flatten 26 bs)).add bl (.cells (encN z) 74 3)) fun _ => False := (Keep.refl.nw h_b9).nw h_bl
  have step : ∀ y : RF, ∀ zb bs', y.base = some ⟨zb, 0, none⟩ → y.cap = y.R.length → ((A.add b9 (.cells (m.R.map enc).flatten 26 bs)).add bl (.cells (encN z) 74 3)).find zb = some (.cells (y.R.map enc).flatten 26 bs') → y.R.length * 4 ≤ bs' → Fresh H1 zb → (∀ a, base = some a → zb ≠ a.block) → lk y.n (ms.map MF.nf) = some (y.p, y.R) → Own1 H1 A' base' (ms.map MF.nf) y := fun y zb bs' e1 e2 e3 e4 e5 e6 e7 => by
    refine ⟨zb, bs', e1, e2, hK'.find (fun ⟨a, ha, hb⟩ => e6 a ha hb) e3, e4, e5, fun a ha hb => ?_, e7⟩
    rcases hN' a ha with ⟨a', h1, h2⟩ | h1
    · exact e6 a' h1 (hb.trans h2)
    · exact h1.ne_find e3 hb.symm
  refine ⟨A', AH.le_refl _, ?_⟩
  simp (dsimp := false) (maxSteps := 4000000) only [ee, hn_b9, hr_b9, hn_bl, hr_bl, go_sem, ↓reduceIte, Nat.reduceEqDiff, Nat.reduceLT, Nat.reduceLeDiff, Nat.reduceAdd, Nat.reduceMul, Nat.reduceSub, reduceCtorEq, Int.reduceToNat, Int.reduceLT, Int.reduceLE, Int.reduceEq, Int.reduceNe, Int.reduceBEq, Nat.reduceBEq, Int.reduceBNe, Nat.reduceBNe, Int.reduceAdd, Int.reduceSub, Int.reduceMul, Int.reduceNeg]
  refine again (i + 1, base', cap', Z ++ [z]) _ A' _ ⟨by dsimp only; omega, ?_, ?_, hK2.ow hK' fun b ⟨a, ha, e⟩ => e ▸ hO.fresh a ha, fun y hy => ?_⟩ (FrLe.of_lks ?_) (AH.le_refl _) (by dsimp only; omega)
  · dsimp only
    rw [List.map_append, hz, List.take_add_one, hk]; rfl
  · dsimp only
    rw [List.map_append]; exact hO'
  · rcases List.mem_append.1 hy with hy | hy
    · obtain ⟨zb, bs', e1, e2, e3, e4, e5, e6, e7⟩ := hZ y hy
      exact step y zb bs' e1 e2 (hK2A.find (fun h => h) e3) e4 e5 e6 e7
    · rw [List.mem_singleton.1 hy]
      exact step z b9 bs rfl rfl (by rw [find_add, if_neg (Ne.symm hn_bl.1), find_add_self]) hbs (hK.fr h_b9) (fun a ha e => hO.ne h_b9 a ha e.symm) hl
  · simp only [List.length_append, List.length_singleton]
    simp (dsimp := false) (maxSteps := 4000000) only [hn_b9, hr_b9, hn_bl, hr_bl, go_sem, ↓reduceIte, Nat.reduceEqDiff, Nat.reduceLT, Nat.reduceLeDiff, Nat.reduceAdd, Nat.reduceMul, Nat.reduceSub, reduceCtorEq, Int.reduceToNat, Int.reduceLT, Int.reduceLE, Int.reduceEq, Int.reduceNe, Int.reduceBEq, Nat.reduceBEq, Int.reduceBNe, Nat.reduceBNe, Int.reduceAdd, Int.reduceSub, Int.reduceMul, Int.reduceNeg]
end Go.Proofs.YtamlipffhimfmaaGreatDoor.Ifs

/- ifs: what a deed keeps; Set of nobody; few. -/
namespace Go.Proofs.YtamlipffhimfmaaGreatDoor.Ifs
set_option linter.unusedSimpArgs false
set_option linter.unusedVariables false
open Go Go.AX Go.Proofs Ty Go.Proofs.YtamlipffhimfmaaGreatDoor.File Go.Proofs.YtamlipffhimfmaaGreatDoor.Err
set_option maxHeartbeats 4000000
set_option maxRecDepth 10000

theorem next_ok {r : Rc} (h : RcOk r) : RcOk (Nxt.nextR r) := by
  have e := next4 h
  obtain ⟨x0, x1, x2, x3⟩ := r
  obtain ⟨⟨a0, a1⟩, ⟨b0, b1⟩, ⟨c0, c1⟩, ⟨d0, d1⟩⟩ := h
  dsimp only at a0 a1 b0 b1 c0 c1 d0 d1 e
  generalize Nxt.nextR (x0, x1, x2, x3) = y at e ⊢
  obtain ⟨y0, y1, y2, y3⟩ := y
  simp only [enc, List.cons.injEq, Value.int.injEq, true_and, and_true] at e
  obtain ⟨rfl, rfl, rfl, rfl⟩ := e
  refine ⟨?_, ?_, ?_, ?_⟩ <;> dsimp only <;> omega
theorem OkX.do {X : List Nf} (h : OkX X) (op fl rec : Int) {v : Rc} (hv : RcOk v) : OkX (doX X op fl rec v) := by
  unfold doX
  split
  · rename_i e
    cases hl : Ifs.lk fl X with
    | none => exact h
    | some f =>
      obtain ⟨_, h2, h3⟩ := h.lk hl
      have hm : mayF f.1 f.2 op rec = 0 := by
        unfold doE at e
        split at e
        · cases e
        · rw [hl] at e; exact e
      dsimp only [doF]
      unfold doR
      have hne : (op = 1 ∨ op = 2) → rec.toNat ≠ 0 := fun ho hr => by
        obtain ⟨g, o0, o1, r0, r1, _⟩ := mayF_ok hm
        have : rec = 0 := by omega
        subst this
        rw [mayF_head g (by omega) (by omega) (by omega), if_neg (by omega)] at hm
        cases hm
      split
      · rename_i ho
        refine h.rp hl (goodF_set h2 (hne (.inl ho))) fun r hr => ?_
        rcases List.mem_or_eq_of_mem_set hr with hr | hr
        · exact h3 r hr
        · subst hr; exact hv
      split
      · rename_i ho
        refine h.rp hl (goodF_set h2 (hne (.inr ho))) fun r hr => ?_
        rcases List.mem_or_eq_of_mem_set hr with hr | hr
        · exact h3 r hr
        · subst hr
          refine next_ok ?_
          rw [List.getD_eq_getElem?_getD]
          cases hx : f.2[rec.toNat]? with
          | none => exact ⟨by decide, by decide, by decide, by decide⟩
          | some r => exact h3 r (List.mem_of_getElem? hx)
      · exact h.rp hl h2 h3
  · exact h
end Go.Proofs.YtamlipffhimfmaaGreatDoor.Ifs

/- the reference's store: Add. -/
namespace Go.Proofs.YtamlipffhimfmaaGreatDoor.Ifs
set_option linter.unusedSimpArgs false
set_option linter.unusedVariables false
open Go Go.AX Go.Proofs Ty Go.Proofs.YtamlipffhimfmaaGreatDoor.File
set_option maxHeartbeats 4000000
set_option maxRecDepth 10000

theorem SlcIn.drop {H : AH} {sz b o cap : Nat} {R : List (List Value)} (h : SlcIn H sz (some ⟨b, o, none⟩) cap R) (k : Nat) (hk : k ≤ R.length) : SlcIn H sz (some ⟨b, if cap = k then o else o + k * sz, none⟩) (cap - k) (R.drop k) := by
  have hle := h.le
  have hbig := h.big
  by_cases hc : cap = k
  · have hR : R.drop k = [] := List.drop_eq_nil_of_le (by omega)
    rw [hR]; exact SlcIn.empty
  · rw [if_neg hc]
    refine ⟨by rw [List.length_drop]; omega, by rw [List.length_drop]; omega, fun i hi => ⟨b, o + k * sz, rfl⟩, fun b' o' hb i j r' c h1 h2 => ?_, fun b' o' hb i r' h1 => ?_⟩
    · cases hb
      have := h.rd b o rfl (k + i) j r' c (by rw [List.getElem?_drop] at h1; exact h1) h2
      rw [show o + ((k + i) * sz + j) = o + k * sz + (i * sz + j) from by rw [Nat.add_mul]; omega] at this
      exact this
    · cases hb
      have := h.row b o rfl (k + i) r' (by rw [List.getElem?_drop] at h1; exact h1)
      rw [show o + (k + i) * sz = o + k * sz + i * sz from by rw [Nat.add_mul]; omega] at this
      exact this
theorem ins_at {n : Int} {f : Fl} : ∀ {X : List Nf} {k : Nat}, (∀ x ∈ X.take k, x.1 < n) → (∀ x, X[k]? = some x → ¬ x.1 < n) → ins n f X = X.take k ++ (n, f) :: X.drop k
  | [], k, _, _ => by simp [ins]
  | x :: l, 0, _, h => by
    rw [ins, if_neg (h x rfl)]; rfl
  | x :: l, k + 1, h1, h2 => by
    rw [ins, if_pos (h1 x (by simp))]
    rw [ins_at (k := k) (fun y hy => h1 y (by simp [hy])) (fun y hy => h2 y (by simpa using hy))]
    rfl
/-- The blocks that a store reads are there. -/
def RefK (H : AH) (rd : Nat → Prop) : Prop := ∀ x, rd x → ¬ Fresh H x
theorem RefK.keep {H H' : AH} {rd ex : Nat → Prop} (h : RefK H rd) (hK : Keep H H' ex) (hd : ∀ x, rd x → ¬ ex x) : RefK H' rd := fun x hx hf => h x hx (hK.fresh hf (hd x hx))
def RefS (H : AH) (b : Nat) (Z : List RF) (den : Int) (rd : Nat → Prop) : Prop := ∃ base cap, H.find b = some (.cells [.slice base Z.length cap, .int .i64 den] 49 2) ∧ NmIn H base cap Z rd ∧ ¬ rd b ∧ ((base = none ∧ Z = [] ∧ cap = 0) ∨ ∃ q o, base = some ⟨q, o, none⟩) ∧ RefK H rd
theorem RefS.at {H : AH} {b : Nat} {Z : List RF} {den : Int} {rd : Nat → Prop} (h : RefS H b Z den rd) : RefAt H b Z den rd := by
  obtain ⟨base, cap, h1, h2, h3, _⟩ := h
  exact ⟨base, cap, h1, h2, h3⟩
theorem RefS.keep {H H' : AH} {b : Nat} {Z : List RF} {den : Int} {rd ex : Nat → Prop} (h : RefS H b Z den rd) (hK : Keep H H' ex) (hd : ∀ x, rd x → ¬ ex x) (hb : ¬ ex b) : RefS H' b Z den rd := by
  obtain ⟨base, cap, h1, h2, h3, h4, h5⟩ := h
  exact ⟨base, cap, hK.find hb h1, h2.keep hK hd, h3, h4, h5.keep hK hd⟩
theorem rowsN (Z : List RF) : ∀ r ∈ Z.map encN, r.length = 3 := fun r hr => by
  obtain ⟨z, _, rfl⟩ := List.mem_map.1 hr
  rfl
theorem scalN (Z : List RF) : ((Z.map encN).flatten).all scal = true := by
  rw [List.all_flatten, List.all_map, List.all_eq_true]
  intro r _; rfl
theorem RefAdd_c {H : AH} {b : Nat} {Z : List RF} {den : Int} {rd : Nat → Prop} (h : RefS H b Z den rd) (hX : OkX (Z.map RF.nf)) (hS : Srt (Z.map RF.nf)) (n p : Int) (R : List Rc) (base : Option Addr) (cap : Nat) (hs : SlcIn H 4 base cap (R.map enc)) (hb : R = [] ∨ ∀ a, base = some a → a.block ≠ b ∧ ¬ Fresh H a.block) :
    ACalls Tryz.prog 73 #[.pointer (some ⟨b, 0, none⟩), .int .i64 n, fv p base R.length cap] H (fun u H' => ∃ Z' rd', u = .int .i64 (addE (Z.map RF.nf) n (p, R)) ∧ Z'.map RF.nf = (if addE (Z.map RF.nf) n (p, R) = 0 then ins n (p, R) (Z.map RF.nf) else Z.map RF.nf) ∧ RefS H' b Z' den rd' ∧ Keep H H' (· = b) ∧ ∀ x, rd' x → rd x ∨ Fresh H x ∨ (R ≠ [] ∧ ∃ a, base = some a ∧ x = a.block)) := by
  have hat := fun H1 (h1 : RefAt H1 b Z den rd) => at_c h1 n
  have hgood := fun H1 (h1 : SlcIn H1 4 base cap (R.map enc)) => File.RefGood_c p R base cap H1 h1
  have hZl : Z.length ≤ 64 := by have := hX.len; simpa using this
  have bad : ∀ {e : Int} {T : AH}, addE (Z.map RF.nf) n (p, R) = e → e ≠ 0 → H.le T → ∃ H', H'.le T ∧ ∃ Z' rd', Value.int .i64 e = .int .i64 (addE (Z.map RF.nf) n (p, R)) ∧ Z'.map RF.nf = (if addE (Z.map RF.nf) n (p, R) = 0 then ins n (p, R) (Z.map RF.nf) else Z.map RF.nf) ∧ RefS H' b Z' den rd' ∧ Keep H H' (· = b) ∧ ∀ x, rd' x → rd x ∨ Fresh H x ∨ (R ≠ [] ∧ ∃ a, base = some a ∧ x = a.block) := fun {e T} he h0 hl =>
    ⟨H, hl, Z, rd, by rw [he], by rw [he, if_neg h0], h, Keep.refl, fun x h => .inl h⟩
  unfold fv at hgood ⊢
  refine ACalls.enter2 Tryz.func73 rfl Tryz.ntmps73 Tryz.results73 (by simp) ?_; simp (dsimp := false) (maxSteps := 4000000) only [go_sem, ↓reduceIte, Nat.reduceEqDiff, Nat.reduceLT, Nat.reduceLeDiff, Nat.reduceAdd, Nat.reduceMul, Nat.reduceSub, reduceCtorEq, Int.reduceToNat, Int.reduceLT, Int.reduceLE, Int.reduceEq, Int.reduceNe, Int.reduceBEq, Nat.reduceBEq, Int.reduceBNe, Nat.reduceBNe, Int.reduceAdd, Int.reduceSub, Int.reduceMul, Int.reduceNeg]
  refine AllB.mk fun b5 h_b5 => ?_; have hn_b5 := h_b5; (try simp only [fresh_add, fresh_set, ne_eq] at hn_b5); have hr_b5 := hn_b5; (try simp only [@eq_comm Nat b5] at hr_b5); simp (dsimp := false) (maxSteps := 4000000) only [hn_b5, hr_b5, go_sem, ↓reduceIte, Nat.reduceEqDiff, Nat.reduceLT, Nat.reduceLeDiff, Nat.reduceAdd, Nat.reduceMul, Nat.reduceSub, reduceCtorEq, Int.reduceToNat, Int.reduceLT, Int.reduceLE, Int.reduceEq, Int.reduceNe, Int.reduceBEq, Nat.reduceBEq, Int.reduceBNe, Nat.reduceBNe, Int.reduceAdd, Int.reduceSub, Int.reduceMul, Int.reduceNeg]
  by_cases a1 : n < 0
  · simp (dsimp := false) (maxSteps := 4000000) only [a1, hn_b5, hr_b5, go_sem, ↓reduceIte, Nat.reduceEqDiff, Nat.reduceLT, Nat.reduceLeDiff, Nat.reduceAdd, Nat.reduceMul, Nat.reduceSub, reduceCtorEq, Int.reduceToNat, Int.reduceLT, Int.reduceLE, Int.reduceEq, Int.reduceNe, Int.reduceBEq, Nat.reduceBEq, Int.reduceBNe, Nat.reduceBNe, Int.reduceAdd, Int.reduceSub, Int.reduceMul, Int.reduceNeg]
    exact bad (by simp [addE, a1]) (by decide) (AH.le_add (AH.le_refl _) ((by simp only [fresh_add, fresh_set, ne_eq, hn_b5, not_false_eq_true, and_self] : Fresh _ b5).2))
  by_cases a2 : 63 < n
  · simp (dsimp := false) (maxSteps := 4000000) only [a1, a2, hn_b5, hr_b5, go_sem, ↓reduceIte, Nat.reduceEqDiff, Nat.reduceLT, Nat.reduceLeDiff, Nat.reduceAdd, Nat.reduceMul, Nat.reduceSub, reduceCtorEq, Int.reduceToNat, Int.reduceLT, Int.reduceLE, Int.reduceEq, Int.reduceNe, Int.reduceBEq, Nat.reduceBEq, Int.reduceBNe, Nat.reduceBNe, Int.reduceAdd, Int.reduceSub, Int.reduceMul, Int.reduceNeg]
    exact bad (by have : 64 ≤ n := by omega
                  simp [addE, this]) (by decide) (AH.le_add (AH.le_refl _) ((by simp only [fresh_add, fresh_set, ne_eq, hn_b5, not_false_eq_true, and_self] : Fresh _ b5).2))
  have a3 : ¬ 64 ≤ n := by omega
  simp (dsimp := false) (maxSteps := 4000000) only [a1, a2, hn_b5, hr_b5, go_sem, ↓reduceIte, Nat.reduceEqDiff, Nat.reduceLT, Nat.reduceLeDiff, Nat.reduceAdd, Nat.reduceMul, Nat.reduceSub, reduceCtorEq, Int.reduceToNat, Int.reduceLT, Int.reduceLE, Int.reduceEq, Int.reduceNe, Int.reduceBEq, Nat.reduceBEq, Int.reduceBNe, Nat.reduceBNe, Int.reduceAdd, Int.reduceSub, Int.reduceMul, Int.reduceNeg]
  refine (hgood _ (hs.add (by simp only [fresh_add, ne_eq, hn_b5, not_false_eq_true, and_self] : Fresh _ b5))).mono ?_; rintro _ _ ⟨rfl, rfl⟩
  cases hg : goodF p R with
  | false =>
    simp (dsimp := false) (maxSteps := 4000000) only [hn_b5, hr_b5, go_sem, ↓reduceIte, Nat.reduceEqDiff, Nat.reduceLT, Nat.reduceLeDiff, Nat.reduceAdd, Nat.reduceMul, Nat.reduceSub, reduceCtorEq, Int.reduceToNat, Int.reduceLT, Int.reduceLE, Int.reduceEq, Int.reduceNe, Int.reduceBEq, Nat.reduceBEq, Int.reduceBNe, Nat.reduceBNe, Int.reduceAdd, Int.reduceSub, Int.reduceMul, Int.reduceNeg]
    exact bad (by simp [addE, a1, a3, hg]) (by decide) (AH.le_add (AH.le_refl _) ((by simp only [fresh_add, fresh_set, ne_eq, hn_b5, not_false_eq_true, and_self] : Fresh _ b5).2))
  | true =>
    
    simp (dsimp := false) (maxSteps := 4000000) only [hn_b5, hr_b5, go_sem, ↓reduceIte, Nat.reduceEqDiff, Nat.reduceLT, Nat.reduceLeDiff, Nat.reduceAdd, Nat.reduceMul, Nat.reduceSub, reduceCtorEq, Int.reduceToNat, Int.reduceLT, Int.reduceLE, Int.reduceEq, Int.reduceNe, Int.reduceBEq, Nat.reduceBEq, Int.reduceBNe, Nat.reduceBNe, Int.reduceAdd, Int.reduceSub, Int.reduceMul, Int.reduceNeg]
    refine (hat _ (h.at.keep (Keep.add h_b5 (ex := fun _ => False)) (fun _ _ h => h) fun h => h)).mono ?_
    rintro _ _ ⟨r, rfl, ho, rfl⟩
    rcases ho with ⟨rfl, hl⟩ | ⟨i, z, rfl, hz, hn, hl⟩
    case' inr =>
      have hi0 : (0 : Int) ≤ (i : Int) := by omega
      simp (dsimp := false) (maxSteps := 4000000) only [hi0, hn_b5, hr_b5, go_sem, ↓reduceIte, Nat.reduceEqDiff, Nat.reduceLT, Nat.reduceLeDiff, Nat.reduceAdd, Nat.reduceMul, Nat.reduceSub, reduceCtorEq, Int.reduceToNat, Int.reduceLT, Int.reduceLE, Int.reduceEq, Int.reduceNe, Int.reduceBEq, Nat.reduceBEq, Int.reduceBNe, Nat.reduceBNe, Int.reduceAdd, Int.reduceSub, Int.reduceMul, Int.reduceNeg]
      exact bad (by simp [addE, a1, a3, hg, hl]) (by decide) (AH.le_add (AH.le_refl _) ((by simp only [fresh_add, fresh_set, ne_eq, hn_b5, not_false_eq_true, and_self] : Fresh _ b5).2))
    obtain ⟨zb, zc, ht, hZ, hnb, hzb, hk⟩ := h
    have he : addE (Z.map RF.nf) n (p, R) = 0 := by simp [addE, a1, a3, hg, hl]
    rw [he]
    simp (dsimp := false) (maxSteps := 4000000) only [hn_b5, hr_b5, go_sem, ↓reduceIte, Nat.reduceEqDiff, Nat.reduceLT, Nat.reduceLeDiff, Nat.reduceAdd, Nat.reduceMul, Nat.reduceSub, reduceCtorEq, Int.reduceToNat, Int.reduceLT, Int.reduceLE, Int.reduceEq, Int.reduceNe, Int.reduceBEq, Nat.reduceBEq, Int.reduceBNe, Nat.reduceBNe, Int.reduceAdd, Int.reduceSub, Int.reduceMul, Int.reduceNeg]
    refine AllB.mk fun bl h_bl => ?_
    have hn_bl : ¬ bl = b5 ∧ Fresh H bl := by simpa only [fresh_add, ne_eq] using h_bl
    simp (dsimp := false) (maxSteps := 4000000) only [hn_b5, hr_b5, go_sem, ↓reduceIte, Nat.reduceEqDiff, Nat.reduceLT, Nat.reduceLeDiff, Nat.reduceAdd, Nat.reduceMul, Nat.reduceSub, reduceCtorEq, Int.reduceToNat, Int.reduceLT, Int.reduceLE, Int.reduceEq, Int.reduceNe, Int.reduceBEq, Nat.reduceBEq, Int.reduceBNe, Nat.reduceBNe, Int.reduceAdd, Int.reduceSub, Int.reduceMul, Int.reduceNeg]
    obtain ⟨H1, hH1⟩ : ∃ H1, H.add b5 (.cells [.int .i64 p, .slice base R.length cap] 72 2) = H1 := ⟨_, rfl⟩
    have k1 : Keep H H1 fun _ => False := hH1 ▸ Keep.add h_b5
    have f5 : H1.find b5 = some (.cells [.int .i64 p, .slice base R.length cap] 72 2) := by rw [← hH1, find_add_self]
    rw [hH1] at h_bl ⊢
    have ht1 := k1.find (fun h => h) ht
    have hZ1 := hZ.keep k1 fun _ _ h => h
    have hs1 := hs.keep k1 fun _ _ h => h
    refine AWp.loopr (ι := Nat × Option Addr × Nat) (fun s A => s.1 ≤ Z.length ∧ (∀ x ∈ (Z.map RF.nf).take s.1, x.1 < n) ∧ OwnS H1 A 74 3 s.2.1 s.2.2 ((Z.take s.1).map encN) ∧ Keep H1 A fun _ => False)
      (fun s => [(8, .int .i64 s.1), (7, .slice s.2.1 s.1 s.2.2), (0, .pointer (some ⟨b, 0, none⟩)), (1, .int .i64 n), (5, .pointer (some ⟨b5, 0, none⟩))]) (fun s => Z.length - s.1) (0, some ⟨bl, 0, none⟩, 0) (H1.add bl (.cells [] 74 0))
      ⟨by simp, by simp, OwnS.new h_bl (AH.le_refl _) rfl rfl rfl (by simp) (by simp), Keep.add h_bl⟩ (FrLe.of_lks ?_) (AH.le_refl _) fun s A hV Q again out => ?_
    · simp (dsimp := false) (maxSteps := 4000000) only [hn_b5, hr_b5, go_sem, ↓reduceIte, Nat.reduceEqDiff, Nat.reduceLT, Nat.reduceLeDiff, Nat.reduceAdd, Nat.reduceMul, Nat.reduceSub, reduceCtorEq, Int.reduceToNat, Int.reduceLT, Int.reduceLE, Int.reduceEq, Int.reduceNe, Int.reduceBEq, Nat.reduceBEq, Int.reduceBNe, Nat.reduceBNe, Int.reduceAdd, Int.reduceSub, Int.reduceMul, Int.reduceNeg]
    clear hn_bl h_bl
    
    obtain ⟨i, ob, oc⟩ := s
    obtain ⟨hi, hlt, hO, hK⟩ := hV
    dsimp only at hi hlt hO hK ⊢
    have htA := hK.find (fun h => h) ht1
    have hZA := hZ1.keep hK fun _ _ h => h
    have r0 : A.rd ⟨b, 0, none⟩ = some (.slice zb Z.length zc) := by rw [rd_find htA]; rfl
    have hi0 : (0 : Int) ≤ (i : Int) := by omega
    have ee := i64_succ (i := i) (by omega)
    have hti : (Z.take i).length = i := by rw [List.length_take]; omega
    have hro : ((i : Int) < Z.length ∧ ∃ z, Z[i]? = some z ∧ ∃ b_ o, zb = some ⟨b_, o, none⟩ ∧ A.row b_ (o + i * 3) 3 = some (encN z) ∧ A.rd ⟨b_, o + i * 3, none⟩ = some (.int .i64 z.n)) ∨ ¬ (i : Int) < Z.length := by
      by_cases hin : (i : Int) < Z.length
      · obtain ⟨z, hz⟩ := get_some (l := Z) (i := i) (by omega)
        obtain ⟨b_, o, he, hrow, hrd⟩ := hZA.out.get (Go.AX.map_get (f := encN) hz)
        exact .inl ⟨hin, z, hz, b_, o, he, hrow, hrd 0 _ rfl⟩
      · exact .inr hin
    rcases hro with ⟨hin, z, hz, b_, o, he, hrow, rz⟩ | hin
    case' inl => by_cases hzn : z.n < n
    case' pos =>
      subst he
      
      simp (dsimp := false) (maxSteps := 4000000) only [r0, hin, rz, hi0, hzn, go_sem, ↓reduceIte, Nat.reduceEqDiff, Nat.reduceLT, Nat.reduceLeDiff, Nat.reduceAdd, Nat.reduceMul, Nat.reduceSub, reduceCtorEq, Int.reduceToNat, Int.reduceLT, Int.reduceLE, Int.reduceEq, Int.reduceNe, Int.reduceBEq, Nat.reduceBEq, Int.reduceBNe, Nat.reduceBNe, Int.reduceAdd, Int.reduceSub, Int.reduceMul, Int.reduceNeg]
      unfold encN at hrow
      simp (dsimp := false) (maxSteps := 4000000) only [r0, hin, hi0, hrow, go_sem, ↓reduceIte, Nat.reduceEqDiff, Nat.reduceLT, Nat.reduceLeDiff, Nat.reduceAdd, Nat.reduceMul, Nat.reduceSub, reduceCtorEq, Int.reduceToNat, Int.reduceLT, Int.reduceLE, Int.reduceEq, Int.reduceNe, Int.reduceBEq, Nat.reduceBEq, Int.reduceBNe, Nat.reduceBNe, Int.reduceAdd, Int.reduceSub, Int.reduceMul, Int.reduceNeg]
      refine AllB.mk fun bx h_bx => ?_; have hn_bx := h_bx; (try simp only [fresh_add, fresh_set, ne_eq] at hn_bx); have hr_bx := hn_bx; (try simp only [@eq_comm Nat bx] at hr_bx); simp (dsimp := false) (maxSteps := 4000000) only [hn_bx, hr_bx, go_sem, ↓reduceIte, Nat.reduceEqDiff, Nat.reduceLT, Nat.reduceLeDiff, Nat.reduceAdd, Nat.reduceMul, Nat.reduceSub, reduceCtorEq, Int.reduceToNat, Int.reduceLT, Int.reduceLE, Int.reduceEq, Int.reduceNe, Int.reduceBEq, Nat.reduceBEq, Int.reduceBNe, Nat.reduceBNe, Int.reduceAdd, Int.reduceSub, Int.reduceMul, Int.reduceNeg]
      have hO2 : OwnS H1 (A.add bx (.cells (encN z) 74 3)) 74 3 ob oc ((Z.take i).map encN) := hO.added h_bx
      have hK2 : Keep H1 (A.add bx (.cells (encN z) 74 3)) fun _ => False := hK.nw h_bx
      refine APD.growW (x := .slice (some ⟨bx, 0, none⟩) 1 1) (R' := [encN z]) (m := 1) hO2 hK2.all se_22 rfl (by decide) (by rw [Tryz.underlying22]; rfl) (by rw [List.length_map, hti]) rfl rfl (by rw [srow_some, row_add_self]; rfl) (by simp [encN]) (by simp [encN, scal]) (by omega) fun base' cap' A' hO' hK' hN' => ?_
      refine ⟨A', AH.le_refl _, ?_⟩
      simp (dsimp := false) (maxSteps := 4000000) only [ee, hn_bx, hr_bx, go_sem, ↓reduceIte, Nat.reduceEqDiff, Nat.reduceLT, Nat.reduceLeDiff, Nat.reduceAdd, Nat.reduceMul, Nat.reduceSub, reduceCtorEq, Int.reduceToNat, Int.reduceLT, Int.reduceLE, Int.reduceEq, Int.reduceNe, Int.reduceBEq, Nat.reduceBEq, Int.reduceBNe, Nat.reduceBNe, Int.reduceAdd, Int.reduceSub, Int.reduceMul, Int.reduceNeg]
      refine again (i + 1, base', cap') _ A' _ ⟨by dsimp only; omega, fun x hx => ?_, ?_, hK2.ow hK' fun b ⟨a, ha, e⟩ => e ▸ hO.fresh a ha⟩ (FrLe.of_lks (by simp (dsimp := false) (maxSteps := 4000000) only [hn_bx, hr_bx, go_sem, ↓reduceIte, Nat.reduceEqDiff, Nat.reduceLT, Nat.reduceLeDiff, Nat.reduceAdd, Nat.reduceMul, Nat.reduceSub, reduceCtorEq, Int.reduceToNat, Int.reduceLT, Int.reduceLE, Int.reduceEq, Int.reduceNe, Int.reduceBEq, Nat.reduceBEq, Int.reduceBNe, Nat.reduceBNe, Int.reduceAdd, Int.reduceSub, Int.reduceMul, Int.reduceNeg])) (AH.le_refl _) (by dsimp only; omega)
      · dsimp only at hx
        rw [List.take_add_one, List.mem_append] at hx
        rcases hx with hx | hx
        · exact hlt x hx
        · rw [List.getElem?_map, hz] at hx
          simp at hx; subst hx; exact hzn
      · dsimp only
        rw [List.take_add_one, List.map_append, hz]
        exact hO'
      
    case' neg =>
      have hge : ∀ x, (Z.map RF.nf)[i]? = some x → ¬ x.1 < n := fun x hx => by
        rw [List.getElem?_map, hz] at hx; cases hx; exact hzn
      
      simp (dsimp := false) (maxSteps := 4000000) only [r0, hin, he, rz, hi0, hzn, go_sem, ↓reduceIte, Nat.reduceEqDiff, Nat.reduceLT, Nat.reduceLeDiff, Nat.reduceAdd, Nat.reduceMul, Nat.reduceSub, reduceCtorEq, Int.reduceToNat, Int.reduceLT, Int.reduceLE, Int.reduceEq, Int.reduceNe, Int.reduceBEq, Nat.reduceBEq, Int.reduceBNe, Nat.reduceBNe, Int.reduceAdd, Int.reduceSub, Int.reduceMul, Int.reduceNeg]
      refine out _ _ _ (by simp) ?_
      clear hz hrow rz hzn he
      
    case' inr =>
      have hge : ∀ x, (Z.map RF.nf)[i]? = some x → ¬ x.1 < n := fun x hx => by
        rw [List.getElem?_eq_none (by rw [List.length_map]; omega)] at hx; cases hx
      
      simp (dsimp := false) (maxSteps := 4000000) only [r0, hin, go_sem, ↓reduceIte, Nat.reduceEqDiff, Nat.reduceLT, Nat.reduceLeDiff, Nat.reduceAdd, Nat.reduceMul, Nat.reduceSub, reduceCtorEq, Int.reduceToNat, Int.reduceLT, Int.reduceLE, Int.reduceEq, Int.reduceNe, Int.reduceBEq, Nat.reduceBEq, Int.reduceBNe, Nat.reduceBNe, Int.reduceAdd, Int.reduceSub, Int.reduceMul, Int.reduceNeg]
      refine out _ _ _ (by simp) ?_
      
    all_goals
      clear out again
      have hins := ins_at (f := (p, R)) hlt hge
      have w5 : A.row b5 0 2 = some [.int .i64 p, .slice base R.length cap] := row_find (hK.find (fun h => h) f5) (by simp)
      
      simp (dsimp := false) (maxSteps := 4000000) only [go_sem, ↓reduceIte, Nat.reduceEqDiff, Nat.reduceLT, Nat.reduceLeDiff, Nat.reduceAdd, Nat.reduceMul, Nat.reduceSub, reduceCtorEq, Int.reduceToNat, Int.reduceLT, Int.reduceLE, Int.reduceEq, Int.reduceNe, Int.reduceBEq, Nat.reduceBEq, Int.reduceBNe, Nat.reduceBNe, Int.reduceAdd, Int.reduceSub, Int.reduceMul, Int.reduceNeg]
      have w51 : H1.row b5 0 2 = some [.int .i64 p, .slice base R.length cap] := row_find f5 (by simp)
      refine AWp.gen [.pu, .pu, .pu, .rd, .pu, .al, .ch, .pu, .pu, .pu, .rd, .pu, .pu, .ch, .pu, .pu, .ch] [0, 0, 0, 0, 12, 28, 62, 0, 128, 384, 896, 0, 3968, 8190, 16383, 32767, 65535] 7 (H1) mixed (by kernel_rfl) (hK.all) ?_
      simp (dsimp := false) (maxSteps := 4000000) only [w5, w51, hK.all, go_sem, ↓reduceIte, Nat.reduceEqDiff, Nat.reduceLT, Nat.reduceLeDiff, Nat.reduceAdd, Nat.reduceMul, Nat.reduceSub, reduceCtorEq, Int.reduceToNat, Int.reduceLT, Int.reduceLE, Int.reduceEq, Int.reduceNe, Int.reduceBEq, Nat.reduceBEq, Int.reduceBNe, Nat.reduceBNe, Int.reduceAdd, Int.reduceSub, Int.reduceMul, Int.reduceNeg]
      refine AllB.mk fun bx h_bx => ?_; have hn_bx := h_bx; (try simp only [fresh_add, fresh_set, ne_eq] at hn_bx); have hr_bx := hn_bx; (try simp only [@eq_comm Nat bx] at hr_bx); simp (dsimp := false) (maxSteps := 4000000) only [hn_bx, hr_bx, go_sem, ↓reduceIte, Nat.reduceEqDiff, Nat.reduceLT, Nat.reduceLeDiff, Nat.reduceAdd, Nat.reduceMul, Nat.reduceSub, reduceCtorEq, Int.reduceToNat, Int.reduceLT, Int.reduceLE, Int.reduceEq, Int.reduceNe, Int.reduceBEq, Nat.reduceBEq, Int.reduceBNe, Nat.reduceBNe, Int.reduceAdd, Int.reduceSub, Int.reduceMul, Int.reduceNeg]
      have hO2 : OwnS H1 (A.add bx (.cells (encN ⟨n, p, base, cap, R⟩) 74 3)) 74 3 ob oc ((Z.take i).map encN) := hO.added h_bx
      have hK2 : Keep H1 (A.add bx (.cells (encN ⟨n, p, base, cap, R⟩) 74 3)) fun _ => False := hK.nw h_bx
      refine APD.growW (x := .slice (some ⟨bx, 0, none⟩) 1 1) (R' := [encN ⟨n, p, base, cap, R⟩]) (m := 1) hO2 hK2.all se_22 rfl (by decide) (by rw [Tryz.underlying22]; rfl) (by rw [List.length_map, hti]) rfl rfl (by rw [srow_some, row_add_self]; rfl) (by simp [encN]) (by simp [encN, scal]) (by omega) fun base2 cap2 A2 hO3 hK3 hN3 => ?_
      refine ⟨A2, AH.le_refl _, ?_⟩
      have k2 : Keep H1 A2 fun _ => False := hK2.ow hK3 fun b ⟨a, ha, e⟩ => e ▸ hO.fresh a ha
      have r2 : H1.rd ⟨b, 0, none⟩ = some (.slice zb Z.length zc) := by rw [rd_find ht1]; rfl
      have hi' : (i : Int) ≤ Z.length := by omega
      have hzc : Z.length ≤ zc := by have := hZ.out.le; simpa using this
      have hzc' : (Z.length : Int) ≤ zc := by omega
      
      have hR0 : R ≠ [] := fun e => by subst e; simp [goodF] at hg
      have hb' := hb.resolve_left hR0
      have hbk : ∀ {x}, Fresh H1 x → x ≠ b := fun hf e => hf.ne_find ht1 e
      have fin : ∀ base3 cap3 (A3 : AH), OwnS H1 A3 74 3 base3 cap3 (((Z.take i).map encN ++ [encN ⟨n, p, base, cap, R⟩]) ++ (Z.map encN).drop i) → (Keep H1 A3 fun _ => False) → ∃ H', H'.le (A3.set b (.cells [.slice base3 (Z.length + 1) cap3, .int .i64 den] 49 2)) ∧ ∃ Z' rd', Z'.map RF.nf = ins n (p, R) (Z.map RF.nf) ∧ RefS H' b Z' den rd' ∧ Keep H H' (· = b) ∧ ∀ x, rd' x → rd x ∨ Fresh H x ∨ (R ≠ [] ∧ ∃ a, base = some a ∧ x = a.block) := fun base3 cap3 A3 hO4 k3 => by
        have hZe : (Z.take i ++ (⟨n, p, base, cap, R⟩ : RF) :: Z.drop i).map encN = ((Z.take i).map encN ++ [encN ⟨n, p, base, cap, R⟩]) ++ (Z.map encN).drop i := by simp [List.map_drop]
        have hZl' : (Z.take i ++ (⟨n, p, base, cap, R⟩ : RF) :: Z.drop i).length = Z.length + 1 := by simp; omega
        rw [← hZe] at hO4
        have hne3 : ∀ a, base3 = some a → a.block ≠ b := fun a ha => hbk (hO4.fresh a ha)
        have hset : Keep A3 (A3.set b (.cells [.slice base3 (Z.length + 1) cap3, .int .i64 den] 49 2)) (· = b) := Keep.set
        have hKH : Keep H (A3.set b (.cells [.slice base3 (Z.length + 1) cap3, .int .i64 den] 49 2)) (· = b) := (((k1.trans k3).mono fun _ h => h.elim)).trans hset
        have hN := (hZ1.keep k3 fun _ _ h => h).keep hset fun x hx e => hnb (e ▸ hx)
        have hsz' := (hs1.keep k3 fun _ _ h => h).keep hset fun a ha => (hb' a ha).1
        refine ⟨_, AH.le_refl _, Z.take i ++ ⟨n, p, base, cap, R⟩ :: Z.drop i, fun x => rd x ∨ (∃ a, base3 = some a ∧ x = a.block) ∨ ∃ a, base = some a ∧ x = a.block, ?_, ⟨base3, cap3, ?_, ⟨?_, fun z hz => ?_, .inr fun a ha => .inr (.inl ⟨a, ha, rfl⟩), fun z hz => ?_⟩, ?_, ?_, ?_⟩, hKH, ?_⟩
        · rw [hins]; simp [RF.nf, List.map_take, List.map_drop]
        · rw [find_set, if_pos rfl, hZl']
        · exact hO4.slc.keep hset hne3
        · rcases List.mem_append.1 hz with hz | hz
          · exact hN.inn z (List.mem_of_mem_take hz)
          · rcases List.mem_cons.1 hz with rfl | hz
            · exact hsz'
            · exact hN.inn z (List.mem_of_mem_drop hz)
        · rcases List.mem_append.1 hz with hz | hz
          · exact (hZ.r2 z (List.mem_of_mem_take hz)).imp id fun h a ha => .inl (h a ha)
          · rcases List.mem_cons.1 hz with rfl | hz
            · exact .inr fun a ha => .inr (.inr ⟨a, ha, rfl⟩)
            · exact (hZ.r2 z (List.mem_of_mem_drop hz)).imp id fun h a ha => .inl (h a ha)
        · rintro (h | ⟨a, ha, e⟩ | ⟨a, ha, e⟩)
          · exact hnb h
          · exact hne3 a ha e.symm
          · exact (hb' a ha).1 e.symm
        · rcases hO4.at_ with ⟨_, h, _⟩ | ⟨b', bs, h, _⟩
          · simp at h
          · exact .inr ⟨b', 0, h⟩
        · rintro x (h | ⟨a, ha, e⟩ | ⟨a, ha, e⟩) hf
          · exact hk x h (hKH.fresh hf fun e => hnb (e ▸ h))
          · subst e
            rcases hO4.at_ with ⟨h, _⟩ | ⟨b', bs, h, hfd, _⟩
            · rw [ha] at h; cases h
            · rw [ha] at h; cases h
              have := hf.2
              rw [find_set, if_neg (hne3 _ ha), hfd] at this; cases this
          · subst e
            exact (hb' a ha).2 (hKH.fresh hf (hb' a ha).1)
        · rintro x (h | ⟨a, ha, e⟩ | ⟨a, ha, e⟩)
          · exact .inl h
          · subst e; exact .inr (.inl (k1.fr (hO4.fresh a ha)))
          · exact .inr (.inr ⟨hR0, a, ha, e⟩)
      rcases hzb with ⟨rfl, rfl, rfl⟩ | ⟨q, o, rfl⟩
      · obtain rfl : i = 0 := by simpa using hi
        simp (dsimp := false) (maxSteps := 4000000) only [r2, k2.all, go_sem, ↓reduceIte, Nat.reduceEqDiff, Nat.reduceLT, Nat.reduceLeDiff, Nat.reduceAdd, Nat.reduceMul, Nat.reduceSub, reduceCtorEq, Int.reduceToNat, Int.reduceLT, Int.reduceLE, Int.reduceEq, Int.reduceNe, Int.reduceBEq, Nat.reduceBEq, Int.reduceBNe, Nat.reduceBNe, Int.reduceAdd, Int.reduceSub, Int.reduceMul, Int.reduceNeg]
        refine APD.growS (m := 0) (R' := ([] : List RF).map encN) hO3 k2.all se_22 rfl (by decide) (by decide) (by rw [Tryz.underlying22]; rfl) (by simp) rfl SlcIn.empty (rowsN []) (scalN []) (by omega) fun base3 cap3 A3 hO4 hK4 hN4 => ?_
        refine ⟨A3, AH.le_refl _, ?_⟩
        have k3 : Keep H1 A3 fun _ => False := k2.ow hK4 fun b ⟨a, ha, e⟩ => e ▸ hO3.fresh a ha
        have hw : A3.wrs b 0 [.slice base3 1 cap3] = some (A3.set b (.cells [.slice base3 1 cap3, .int .i64 den] 49 2)) := by
          simp [AH.wrs, k3.find (fun h => h) ht1, lput, scal]
        simp (dsimp := false) (maxSteps := 4000000) only [hw, go_sem, ↓reduceIte, Nat.reduceEqDiff, Nat.reduceLT, Nat.reduceLeDiff, Nat.reduceAdd, Nat.reduceMul, Nat.reduceSub, reduceCtorEq, Int.reduceToNat, Int.reduceLT, Int.reduceLE, Int.reduceEq, Int.reduceNe, Int.reduceBEq, Nat.reduceBEq, Int.reduceBNe, Nat.reduceBNe, Int.reduceAdd, Int.reduceSub, Int.reduceMul, Int.reduceNeg]
        exact fin base3 cap3 A3 hO4 k3
      · simp (dsimp := false) (maxSteps := 4000000) only [r2, k2.all, hi', hzc', hi0, go_sem, ↓reduceIte, Nat.reduceEqDiff, Nat.reduceLT, Nat.reduceLeDiff, Nat.reduceAdd, Nat.reduceMul, Nat.reduceSub, reduceCtorEq, Int.reduceToNat, Int.reduceLT, Int.reduceLE, Int.reduceEq, Int.reduceNe, Int.reduceBEq, Nat.reduceBEq, Int.reduceBNe, Nat.reduceBNe, Int.reduceAdd, Int.reduceSub, Int.reduceMul, Int.reduceNeg]
        refine APD.growS (m := Z.length - i) (R' := (Z.map encN).drop i) hO3 k2.all se_22 rfl (by decide) (by decide) (by rw [Tryz.underlying22]; rfl) (by rw [List.length_append, List.length_map, hti]; rfl) (by simp) (SlcIn.drop (hZ1.keep k2 fun _ _ h => h).out i (by simpa using hi)) (fun r hr => rowsN Z r (List.mem_of_mem_drop hr)) (by rw [← List.map_drop]; exact scalN _) (by omega) fun base3 cap3 A3 hO4 hK4 hN4 => ?_
        refine ⟨A3, AH.le_refl _, ?_⟩
        have k3 : Keep H1 A3 fun _ => False := k2.ow hK4 fun b ⟨a, ha, e⟩ => e ▸ hO3.fresh a ha
        rw [show i + 1 + (Z.length - i) = Z.length + 1 from by omega]
        have hw : A3.wrs b 0 [.slice base3 (Z.length + 1) cap3] = some (A3.set b (.cells [.slice base3 (Z.length + 1) cap3, .int .i64 den] 49 2)) := by
          simp [AH.wrs, k3.find (fun h => h) ht1, lput, scal]
        simp (dsimp := false) (maxSteps := 4000000) only [hw, go_sem, ↓reduceIte, Nat.reduceEqDiff, Nat.reduceLT, Nat.reduceLeDiff, Nat.reduceAdd, Nat.reduceMul, Nat.reduceSub, reduceCtorEq, Int.reduceToNat, Int.reduceLT, Int.reduceLE, Int.reduceEq, Int.reduceNe, Int.reduceBEq, Nat.reduceBEq, Int.reduceBNe, Nat.reduceBNe, Int.reduceAdd, Int.reduceSub, Int.reduceMul, Int.reduceNeg]
        exact fin base3 cap3 A3 hO4 k3
      
    
end Go.Proofs.YtamlipffhimfmaaGreatDoor.Ifs

/- serve: the reference's store of a list. -/
namespace Go.Proofs.YtamlipffhimfmaaGreatDoor.Srv
set_option linter.unusedSimpArgs false
set_option linter.unusedVariables false
open Go Go.AX Go.Proofs Ty Go.Proofs.YtamlipffhimfmaaGreatDoor.File Go.Proofs.YtamlipffhimfmaaGreatDoor.Ifs
set_option maxHeartbeats 4000000
set_option maxRecDepth 10000

def addR (Y : List Nf) (x : Nf) : List Nf := if goodF x.2.1 x.2.2 = true then (if addE Y x.1 x.2 = 0 then ins x.1 x.2 Y else Y) else Y
def refX (L : List Nf) : List Nf := L.foldl addR []
theorem addR_srt {Y : List Nf} (h : Srt Y) (x : Nf) : Srt (addR Y x) := by
  unfold addR
  split
  · split
    · rename_i e
      refine ins_srt h ?_
      unfold addE at e
      split at e
      · cases e
      split at e
      · cases e
      split at e
      · cases e
      · rename_i h1; simpa using h1
    · exact h
  · exact h
theorem addR_ok {Y : List Nf} (h : OkX Y) (x : Nf) (hr : ∀ r ∈ x.2.2, RcOk r) : OkX (addR Y x) := by
  unfold addR
  split
  · split
    · rename_i e
      have := h.add x.1 x.2 hr
      rw [addX, if_pos e] at this
      exact this.perm ((List.perm_append_singleton _ _).trans (ins_perm x.1 x.2 Y).symm)
    · exact h
  · exact h
theorem RefStore_c (L : List RF) (base : Option Addr) (cap : Nat) (H : AH) (hs : SlcIn H 3 base cap (L.map encN)) (hz : ∀ z ∈ L, SlcIn H 4 z.base z.cap (z.R.map enc) ∧ ∀ r ∈ z.R, RcOk r) :
    ACalls Tryz.prog 41 #[.slice base L.length cap] H (fun v H' => ∃ br Z rd, v = .pointer (some ⟨br, 0, none⟩) ∧ Z.map RF.nf = refX ((L.take 8).map RF.nf) ∧ RefS H' br Z 0 rd ∧ OkX (Z.map RF.nf) ∧ Srt (Z.map RF.nf) ∧ Fresh H br ∧ (Keep H H' fun _ => False) ∧ ∀ x, rd x → Fresh H x ∨ ∃ z ∈ L, z.R ≠ [] ∧ ∃ a, z.base = some a ∧ x = a.block) := by
  refine ACalls.enter2 Tryz.func41 rfl Tryz.ntmps41 Tryz.results41 (by simp) ?_; simp (dsimp := false) (maxSteps := 4000000) only [go_sem, ↓reduceIte, Nat.reduceEqDiff, Nat.reduceLT, Nat.reduceLeDiff, Nat.reduceAdd, Nat.reduceMul, Nat.reduceSub, reduceCtorEq, Int.reduceToNat, Int.reduceLT, Int.reduceLE, Int.reduceEq, Int.reduceNe, Int.reduceBEq, Nat.reduceBEq, Int.reduceBNe, Nat.reduceBNe, Int.reduceAdd, Int.reduceSub, Int.reduceMul, Int.reduceNeg]
  refine AllB.mk fun br h_br => ?_; have hn_br := h_br; (try simp only [fresh_add, fresh_set, ne_eq] at hn_br); have hr_br := hn_br; (try simp only [@eq_comm Nat br] at hr_br); simp (dsimp := false) (maxSteps := 4000000) only [hn_br, hr_br, go_sem, ↓reduceIte, Nat.reduceEqDiff, Nat.reduceLT, Nat.reduceLeDiff, Nat.reduceAdd, Nat.reduceMul, Nat.reduceSub, reduceCtorEq, Int.reduceToNat, Int.reduceLT, Int.reduceLE, Int.reduceEq, Int.reduceNe, Int.reduceBEq, Nat.reduceBEq, Int.reduceBNe, Nat.reduceBNe, Int.reduceAdd, Int.reduceSub, Int.reduceMul, Int.reduceNeg]
  have hst : RefS (H.add br (.cells [.slice none 0 0, .int .i64 0] 49 2)) br [] 0 (fun _ => False) := ⟨none, 0, find_add_self _ _ _, ⟨SlcIn.nil, by simp, .inl rfl, by simp⟩, fun h => h, .inl ⟨rfl, rfl, rfl⟩, fun x h => h.elim⟩
  have hfr : Fresh H br := h_br
  refine AWp.loopr (ι := Nat × List RF × (Nat → Prop)) (fun s A => s.1 ≤ L.length ∧ s.1 ≤ 8 ∧ RefS A br s.2.1 0 s.2.2 ∧ s.2.1.map RF.nf = refX ((L.take s.1).map RF.nf) ∧ OkX (s.2.1.map RF.nf) ∧ Srt (s.2.1.map RF.nf) ∧ (Keep H A fun _ => False) ∧ ∀ x, s.2.2 x → Fresh H x ∨ ∃ z ∈ L, z.R ≠ [] ∧ ∃ a, z.base = some a ∧ x = a.block)
    (fun s => [(4, .int .i64 s.1), (3, .pointer (some ⟨br, 0, none⟩)), (0, .slice base L.length cap)]) (fun s => 8 - s.1) (0, [], fun _ => False) _
    ⟨by simp, by simp, hst, rfl, OkX.nil, by simp [Srt], Keep.add h_br, fun x h => h.elim⟩ (FrLe.of_lks ?_) (AH.le_refl _) fun s A hV Q again out => ?_
  · simp (dsimp := false) (maxSteps := 4000000) only [hn_br, hr_br, go_sem, ↓reduceIte, Nat.reduceEqDiff, Nat.reduceLT, Nat.reduceLeDiff, Nat.reduceAdd, Nat.reduceMul, Nat.reduceSub, reduceCtorEq, Int.reduceToNat, Int.reduceLT, Int.reduceLE, Int.reduceEq, Int.reduceNe, Int.reduceBEq, Nat.reduceBEq, Int.reduceBNe, Nat.reduceBNe, Int.reduceAdd, Int.reduceSub, Int.reduceMul, Int.reduceNeg]
  clear hst hn_br hr_br h_br
  
  obtain ⟨i, Z, rd⟩ := s
  obtain ⟨hi, hi2, hS, hZ, hok, hso, hK, hrd⟩ := hV
  dsimp only at hi hi2 hS hZ hok hso hK hrd ⊢
  by_cases hlt : (i : Int) < L.length ∧ (i : Int) < 8
  · obtain ⟨z, hzi⟩ := get_some (l := L) (i := i) (by omega)
    obtain ⟨hzs, hzr⟩ := hz z (List.mem_of_getElem? hzi)
    obtain ⟨q, o, rfl, _, hr⟩ := (hs.keep hK fun _ _ h => h).get (Go.AX.map_get (f := encN) hzi)
    have rz := hr 0 _ rfl
    simp only [Nat.add_zero] at rz
    have hx1 : A.row q (o + i * 3 + 1) 2 = some [.int .i64 z.p, .slice z.base z.R.length z.cap] := row_of_rd rfl (by decide) fun j c hj => by
      rw [Nat.add_assoc _ 1 j, Nat.add_comm 1 j]
      exact hr (j + 1) c hj
    have ee := i64_succ (i := i) (by omega)
    have hi0 : (0 : Int) ≤ (i : Int) := by omega
    have hzA := hzs.keep hK fun _ _ h => h
    have hgc := fun H1 (h : SlcIn H1 4 z.base z.cap (z.R.map enc)) => File.RefGood_c z.p z.R z.base z.cap H1 h
    unfold fv at hgc
    have hstep : refX ((L.take (i + 1)).map RF.nf) = addR (refX ((L.take i).map RF.nf)) z.nf := by
      rw [List.take_add_one, hzi, refX, refX, List.map_append, List.foldl_append]; rfl
    simp (dsimp := false) (maxSteps := 4000000) only [hlt.1, hlt.2, go_sem, ↓reduceIte, Nat.reduceEqDiff, Nat.reduceLT, Nat.reduceLeDiff, Nat.reduceAdd, Nat.reduceMul, Nat.reduceSub, reduceCtorEq, Int.reduceToNat, Int.reduceLT, Int.reduceLE, Int.reduceEq, Int.reduceNe, Int.reduceBEq, Nat.reduceBEq, Int.reduceBNe, Nat.reduceBNe, Int.reduceAdd, Int.reduceSub, Int.reduceMul, Int.reduceNeg]
    simp (dsimp := false) (maxSteps := 4000000) only [hlt.1, hlt.2, hi0, hx1, go_sem, ↓reduceIte, Nat.reduceEqDiff, Nat.reduceLT, Nat.reduceLeDiff, Nat.reduceAdd, Nat.reduceMul, Nat.reduceSub, reduceCtorEq, Int.reduceToNat, Int.reduceLT, Int.reduceLE, Int.reduceEq, Int.reduceNe, Int.reduceBEq, Nat.reduceBEq, Int.reduceBNe, Nat.reduceBNe, Int.reduceAdd, Int.reduceSub, Int.reduceMul, Int.reduceNeg]
    refine AllB.mk fun b5 h_b5 => ?_; have hn_b5 := h_b5; (try simp only [fresh_add, fresh_set, ne_eq] at hn_b5); have hr_b5 := hn_b5; (try simp only [@eq_comm Nat b5] at hr_b5); simp (dsimp := false) (maxSteps := 4000000) only [hn_b5, hr_b5, go_sem, ↓reduceIte, Nat.reduceEqDiff, Nat.reduceLT, Nat.reduceLeDiff, Nat.reduceAdd, Nat.reduceMul, Nat.reduceSub, reduceCtorEq, Int.reduceToNat, Int.reduceLT, Int.reduceLE, Int.reduceEq, Int.reduceNe, Int.reduceBEq, Nat.reduceBEq, Int.reduceBNe, Nat.reduceBNe, Int.reduceAdd, Int.reduceSub, Int.reduceMul, Int.reduceNeg]
    refine (hgc _ (hzA.add h_b5)).mono ?_; rintro _ _ ⟨rfl, rfl⟩
    cases hg : goodF z.p z.R with
    | false =>
      simp (dsimp := false) (maxSteps := 4000000) only [ee, hn_b5, hr_b5, go_sem, ↓reduceIte, Nat.reduceEqDiff, Nat.reduceLT, Nat.reduceLeDiff, Nat.reduceAdd, Nat.reduceMul, Nat.reduceSub, reduceCtorEq, Int.reduceToNat, Int.reduceLT, Int.reduceLE, Int.reduceEq, Int.reduceNe, Int.reduceBEq, Nat.reduceBEq, Int.reduceBNe, Nat.reduceBNe, Int.reduceAdd, Int.reduceSub, Int.reduceMul, Int.reduceNeg]
      exact again (i + 1, Z, rd) _ A _ ⟨by dsimp only; omega, by dsimp only; omega, hS, by dsimp only; rw [hstep, hZ, addR, if_neg (by simp [RF.nf, hg])], hok, hso, hK, hrd⟩ (FrLe.of_lks (by simp (dsimp := false) (maxSteps := 4000000) only [hn_b5, hr_b5, go_sem, ↓reduceIte, Nat.reduceEqDiff, Nat.reduceLT, Nat.reduceLeDiff, Nat.reduceAdd, Nat.reduceMul, Nat.reduceSub, reduceCtorEq, Int.reduceToNat, Int.reduceLT, Int.reduceLE, Int.reduceEq, Int.reduceNe, Int.reduceBEq, Nat.reduceBEq, Int.reduceBNe, Nat.reduceBNe, Int.reduceAdd, Int.reduceSub, Int.reduceMul, Int.reduceNeg])) (AH.le_add (AH.le_refl _) h_b5.2) (by dsimp only; omega)
    | true =>
      have hR0 : z.R ≠ [] := fun e => by rw [e] at hg; simp [goodF] at hg
      have k5 : Keep H _ fun _ => False := hK.nw (k := .cells [.int .i64 z.p, .slice z.base z.R.length z.cap] 72 2) h_b5
      simp (dsimp := false) (maxSteps := 4000000) only [hn_b5, hr_b5, go_sem, ↓reduceIte, Nat.reduceEqDiff, Nat.reduceLT, Nat.reduceLeDiff, Nat.reduceAdd, Nat.reduceMul, Nat.reduceSub, reduceCtorEq, Int.reduceToNat, Int.reduceLT, Int.reduceLE, Int.reduceEq, Int.reduceNe, Int.reduceBEq, Nat.reduceBEq, Int.reduceBNe, Nat.reduceBNe, Int.reduceAdd, Int.reduceSub, Int.reduceMul, Int.reduceNeg]
      refine AWp.gen [.pu, .pu, .pu, .pu, .pu, .rd, .rd, .ch] [0, 0, 0, 6, 14, 30, 0, 127] 0 (_) mixed (by kernel_rfl) (AH.le_refl _) ?_
      have n5 : ¬ b5 = q := h_b5.ne_row hx1
      simp (dsimp := false) (maxSteps := 4000000) only [hi0, hlt.1, rz, n5, hn_b5, hr_b5, go_sem, ↓reduceIte, Nat.reduceEqDiff, Nat.reduceLT, Nat.reduceLeDiff, Nat.reduceAdd, Nat.reduceMul, Nat.reduceSub, reduceCtorEq, Int.reduceToNat, Int.reduceLT, Int.reduceLE, Int.reduceEq, Int.reduceNe, Int.reduceBEq, Nat.reduceBEq, Int.reduceBNe, Nat.reduceBNe, Int.reduceAdd, Int.reduceSub, Int.reduceMul, Int.reduceNeg]
      refine (RefAdd_c (hS.keep (Keep.add h_b5 (ex := fun _ => False)) (fun _ _ h => h) fun h => h) hok hso z.n z.p z.R z.base z.cap (hzA.add h_b5) (.inr fun a ha => ⟨?_, fun hf => ?_⟩)).mono ?_
      · exact (hzs.apart hfr).elim (fun h => absurd (List.map_eq_nil_iff.1 h) hR0) fun h => h a ha
      · exact (hzs.apart (k5.fr hf)).elim (fun h => hR0 (List.map_eq_nil_iff.1 h)) fun h => h a ha rfl
      rintro _ B ⟨Z', rd', rfl, hZ', hrB, hKB, hrd'⟩
      have hadd : Z'.map RF.nf = addR (Z.map RF.nf) z.nf := by
        rw [hZ', addR]
        exact (if_pos (show goodF z.nf.2.1 z.nf.2.2 = true from hg)).symm
      simp (dsimp := false) (maxSteps := 4000000) only [ee, hn_b5, hr_b5, go_sem, ↓reduceIte, Nat.reduceEqDiff, Nat.reduceLT, Nat.reduceLeDiff, Nat.reduceAdd, Nat.reduceMul, Nat.reduceSub, reduceCtorEq, Int.reduceToNat, Int.reduceLT, Int.reduceLE, Int.reduceEq, Int.reduceNe, Int.reduceBEq, Nat.reduceBEq, Int.reduceBNe, Nat.reduceBNe, Int.reduceAdd, Int.reduceSub, Int.reduceMul, Int.reduceNeg]
      exact again (i + 1, Z', rd') _ B _ ⟨by dsimp only; omega, by dsimp only; omega, hrB, by dsimp only; rw [hadd, hstep, hZ], by dsimp only; rw [hadd]; exact addR_ok hok _ hzr, by dsimp only; rw [hadd]; exact addR_srt hso _, k5.ow hKB fun x e => e ▸ hfr, fun x hx => by
        rcases hrd' x hx with h | h | ⟨h, a, ha, e⟩
        · exact hrd x h
        · exact .inl (k5.fr h)
        · exact .inr ⟨z, List.mem_of_getElem? hzi, h, a, ha, e⟩⟩ (FrLe.of_lks (by simp (dsimp := false) (maxSteps := 4000000) only [hn_b5, hr_b5, go_sem, ↓reduceIte, Nat.reduceEqDiff, Nat.reduceLT, Nat.reduceLeDiff, Nat.reduceAdd, Nat.reduceMul, Nat.reduceSub, reduceCtorEq, Int.reduceToNat, Int.reduceLT, Int.reduceLE, Int.reduceEq, Int.reduceNe, Int.reduceBEq, Nat.reduceBEq, Int.reduceBNe, Nat.reduceBNe, Int.reduceAdd, Int.reduceSub, Int.reduceMul, Int.reduceNeg])) (AH.le_refl _) (by dsimp only; omega)
  
  have hno : ¬ (i : Int) < L.length ∨ ((i : Int) < L.length ∧ ¬ (i : Int) < 8) := by omega
  have ht : L.take i = L.take 8 := by
    rcases hno with h | ⟨_, h⟩
    · rw [List.take_of_length_le (by omega), List.take_of_length_le (by omega)]
    · rw [show i = 8 from by omega]
  rw [ht] at hZ
  clear hlt again
  rcases hno with a | ⟨a, a'⟩
  case' inl =>
    
    simp (dsimp := false) (maxSteps := 4000000) only [a, go_sem, ↓reduceIte, Nat.reduceEqDiff, Nat.reduceLT, Nat.reduceLeDiff, Nat.reduceAdd, Nat.reduceMul, Nat.reduceSub, reduceCtorEq, Int.reduceToNat, Int.reduceLT, Int.reduceLE, Int.reduceEq, Int.reduceNe, Int.reduceBEq, Nat.reduceBEq, Int.reduceBNe, Nat.reduceBNe, Int.reduceAdd, Int.reduceSub, Int.reduceMul, Int.reduceNeg]
    refine out _ _ _ (by simp) ?_
    
  case' inr =>
    simp (dsimp := false) (maxSteps := 4000000) only [a, a', go_sem, ↓reduceIte, Nat.reduceEqDiff, Nat.reduceLT, Nat.reduceLeDiff, Nat.reduceAdd, Nat.reduceMul, Nat.reduceSub, reduceCtorEq, Int.reduceToNat, Int.reduceLT, Int.reduceLE, Int.reduceEq, Int.reduceNe, Int.reduceBEq, Nat.reduceBEq, Int.reduceBNe, Nat.reduceBNe, Int.reduceAdd, Int.reduceSub, Int.reduceMul, Int.reduceNeg]
    refine out _ _ _ (by simp) ?_
  all_goals
    simp (dsimp := false) (maxSteps := 4000000) only [go_sem, ↓reduceIte, Nat.reduceEqDiff, Nat.reduceLT, Nat.reduceLeDiff, Nat.reduceAdd, Nat.reduceMul, Nat.reduceSub, reduceCtorEq, Int.reduceToNat, Int.reduceLT, Int.reduceLE, Int.reduceEq, Int.reduceNe, Int.reduceBEq, Nat.reduceBEq, Int.reduceBNe, Nat.reduceBNe, Int.reduceAdd, Int.reduceSub, Int.reduceMul, Int.reduceNeg]
    exact ⟨A, AH.le_refl _, br, Z, rd, rfl, hZ, hS, hok, hso, hfr, hK, hrd⟩
end Go.Proofs.YtamlipffhimfmaaGreatDoor.Srv

/- serve: build. -/
namespace Go.Proofs.YtamlipffhimfmaaGreatDoor.Srv
set_option linter.unusedSimpArgs false
set_option linter.unusedVariables false
open Go Go.AX Go.Proofs Ty Go.Proofs.YtamlipffhimfmaaGreatDoor.File Go.Proofs.YtamlipffhimfmaaGreatDoor.Ifs
set_option maxHeartbeats 4000000
set_option maxRecDepth 10000

theorem add_next {Z : List RF} {i : Nat} {z : RF} (hX : OkX (Z.map RF.nf)) (hz : Z[i]? = some z) : addE ((Z.take i).map RF.nf) z.n (z.p, z.R) = 0 := by
  obtain ⟨h1, h2, _⟩ := hX.ok z.nf (List.mem_map_of_mem (List.mem_of_getElem? hz))
  have h3 : lk z.n ((Z.take i).map RF.nf) = none := by
    rw [lk_none]
    intro x hx e
    obtain ⟨y, hy, rfl⟩ := List.mem_map.1 hx
    obtain ⟨j, hj⟩ := List.mem_iff_getElem?.1 hy
    have hji : j < i := by have := Go.AX.lt_of_get hj; rw [List.length_take] at this; omega
    rw [List.getElem?_take, if_pos hji] at hj
    have hk := hX.kd
    have e1 : ((Z.map RF.nf).map (·.1))[j]? = some z.n := by simp [hj, e]
    have e2 : ((Z.map RF.nf).map (·.1))[i]? = some z.n := by simp [hz, RF.nf]
    have := (List.getElem?_inj (by simpa using Go.AX.lt_of_get hj) hk).1 (e1.trans e2.symm)
    omega
  have h1' : (0 ≤ z.n ∧ z.n < 64) := h1
  have h2' : goodF z.p z.R = true := h2
  unfold addE
  rw [if_neg (by omega), if_neg (by rw [h2']; decide), h3]
  rfl
theorem build_c (L : List RF) (base : Option Addr) (cap : Nat) (H : AH) (hs : SlcIn H 3 base cap (L.map encN)) (hz : ∀ z ∈ L, SlcIn H 4 z.base z.cap (z.R.map enc) ∧ ∀ r ∈ z.R, RcOk r) :
    ACalls Tryz.prog 11 #[.slice base L.length cap] H (fun v H' => ∃ b br Z ft rd, v = .tuple #[.pointer (some ⟨b, 0, none⟩), .pointer (some ⟨br, 0, none⟩)] ∧ Z.map RF.nf = refX ((L.take 8).map RF.nf) ∧ StAt H' b (Z.map RF.nf) 0 ft ∧ RefS H' br Z 0 rd ∧ OkX (Z.map RF.nf) ∧ Srt (Z.map RF.nf) ∧ (Keep H H' fun _ => False) ∧ (∀ x, ft x → Fresh H x) ∧ Fresh H br ∧ (∀ x, rd x → ¬ ft x) ∧ ¬ ft br) := by
  refine ACalls.enter2 Tryz.func11 rfl Tryz.ntmps11 Tryz.results11 (by simp) ?_; simp (dsimp := false) (maxSteps := 4000000) only [go_sem, ↓reduceIte, Nat.reduceEqDiff, Nat.reduceLT, Nat.reduceLeDiff, Nat.reduceAdd, Nat.reduceMul, Nat.reduceSub, reduceCtorEq, Int.reduceToNat, Int.reduceLT, Int.reduceLE, Int.reduceEq, Int.reduceNe, Int.reduceBEq, Nat.reduceBEq, Int.reduceBNe, Nat.reduceBNe, Int.reduceAdd, Int.reduceSub, Int.reduceMul, Int.reduceNeg]
  refine (New_c H).mono ?_
  rintro _ A0 ⟨b, ft0, rfl, hs0, hK0, hf0⟩
  simp (dsimp := false) (maxSteps := 4000000) only [go_sem, ↓reduceIte, Nat.reduceEqDiff, Nat.reduceLT, Nat.reduceLeDiff, Nat.reduceAdd, Nat.reduceMul, Nat.reduceSub, reduceCtorEq, Int.reduceToNat, Int.reduceLT, Int.reduceLE, Int.reduceEq, Int.reduceNe, Int.reduceBEq, Nat.reduceBEq, Int.reduceBNe, Nat.reduceBNe, Int.reduceAdd, Int.reduceSub, Int.reduceMul, Int.reduceNeg]
  refine (RefStore_c L base cap _ (hs.keep hK0 fun _ _ h => h) fun z h => ⟨(hz z h).1.keep hK0 fun _ _ h => h, (hz z h).2⟩).mono ?_
  rintro _ A1 ⟨br, Z, rd, rfl, hZ, hS, hok, hso, hfr, hK1, hrd⟩
  have hs1 := hs0.keep hK1 fun _ _ h => h
  have hK := hK0.trans hK1
  have hZl : Z.length ≤ 64 := by have := hok.len; simpa using this
  have hd : ∀ x, rd x → ¬ ft0 x := fun x hx hf => by
    rcases hrd x hx with h | ⟨z, hz1, hR, a, ha, e⟩
    · exact hs0.fresh h hf
    · have := hf0 x hf
      exact ((hz z hz1).1.apart this).elim (fun h => hR (List.map_eq_nil_iff.1 h)) fun h => h a ha e.symm
  have hdb : ¬ ft0 br := hs0.fresh hfr
  have hfrH : Fresh H br := hK0.fr hfr
  simp (dsimp := false) (maxSteps := 4000000) only [go_sem, ↓reduceIte, Nat.reduceEqDiff, Nat.reduceLT, Nat.reduceLeDiff, Nat.reduceAdd, Nat.reduceMul, Nat.reduceSub, reduceCtorEq, Int.reduceToNat, Int.reduceLT, Int.reduceLE, Int.reduceEq, Int.reduceNe, Int.reduceBEq, Nat.reduceBEq, Int.reduceBNe, Nat.reduceBNe, Int.reduceAdd, Int.reduceSub, Int.reduceMul, Int.reduceNeg]
  refine AWp.loopr (ι := Nat × (Nat → Prop)) (fun s A => s.1 ≤ Z.length ∧ StAt A b ((Z.take s.1).map RF.nf) 0 s.2 ∧ RefS A br Z 0 rd ∧ (Keep H A fun _ => False) ∧ (∀ x, s.2 x → Fresh H x) ∧ (∀ x, rd x → ¬ s.2 x) ∧ ¬ s.2 br)
    (fun s => [(6, .int .i64 s.1), (4, .pointer (some ⟨b, 0, none⟩)), (5, .pointer (some ⟨br, 0, none⟩))]) (fun s => Z.length - s.1) (0, ft0) A1
    ⟨by simp, hs1, hS, hK, hf0, hd, hdb⟩ (FrLe.of_lks ?_) (AH.le_refl _) fun s A hV Q again out => ?_
  · simp (dsimp := false) (maxSteps := 4000000) only [go_sem, ↓reduceIte, Nat.reduceEqDiff, Nat.reduceLT, Nat.reduceLeDiff, Nat.reduceAdd, Nat.reduceMul, Nat.reduceSub, reduceCtorEq, Int.reduceToNat, Int.reduceLT, Int.reduceLE, Int.reduceEq, Int.reduceNe, Int.reduceBEq, Nat.reduceBEq, Int.reduceBNe, Nat.reduceBNe, Int.reduceAdd, Int.reduceSub, Int.reduceMul, Int.reduceNeg]
  clear hs1 hS hK hf0 hd hdb hs0 hK0 hK1 hrd
  obtain ⟨i, ft⟩ := s
  obtain ⟨hi, hst, hS, hK, hf, hd, hdb⟩ := hV
  dsimp only at hi hst hS hK hf hd hdb ⊢
  obtain ⟨zb, zc, hbr, hN, _, _, hkn⟩ := id hS
  have r0 : A.rd ⟨br, 0, none⟩ = some (.slice zb Z.length zc) := by rw [rd_find hbr]; rfl
  by_cases hlt : (i : Int) < Z.length
  · obtain ⟨z, hzi⟩ := get_some (l := Z) (i := i) (by omega)
    obtain ⟨q, o, rfl, _, hr⟩ := hN.out.get (Go.AX.map_get (f := encN) hzi)
    have rz := hr 0 _ rfl
    simp only [Nat.add_zero] at rz
    have hx1 : A.row q (o + i * 3 + 1) 2 = some [.int .i64 z.p, .slice z.base z.R.length z.cap] := row_of_rd rfl (by decide) fun j c hj => by
      rw [Nat.add_assoc _ 1 j, Nat.add_comm 1 j]
      exact hr (j + 1) c hj
    have ee := i64_succ (i := i) (by omega)
    have hi0 : (0 : Int) ≤ (i : Int) := by omega
    have hadd := add_next hok hzi
    simp (dsimp := false) (maxSteps := 4000000) only [r0, hlt, go_sem, ↓reduceIte, Nat.reduceEqDiff, Nat.reduceLT, Nat.reduceLeDiff, Nat.reduceAdd, Nat.reduceMul, Nat.reduceSub, reduceCtorEq, Int.reduceToNat, Int.reduceLT, Int.reduceLE, Int.reduceEq, Int.reduceNe, Int.reduceBEq, Nat.reduceBEq, Int.reduceBNe, Nat.reduceBNe, Int.reduceAdd, Int.reduceSub, Int.reduceMul, Int.reduceNeg]
    refine AWp.gen [.pu, .pu, .pu, .pu, .rd, .pu, .pu, .pu, .rd, .pu, .pu, .pu, .rd, .pu, .pu, .pu, .rd, .ch] [0, 0, 2, 6, 14, 0, 62, 126, 254, 0, 512, 1536, 3584, 0, 15872, 32256, 65024, 131071] 0 (_) mixed (by kernel_rfl) (AH.le_refl _) ?_
    simp (dsimp := false) (maxSteps := 4000000) only [r0, hlt, hi0, rz, hx1, go_sem, ↓reduceIte, Nat.reduceEqDiff, Nat.reduceLT, Nat.reduceLeDiff, Nat.reduceAdd, Nat.reduceMul, Nat.reduceSub, reduceCtorEq, Int.reduceToNat, Int.reduceLT, Int.reduceLE, Int.reduceEq, Int.reduceNe, Int.reduceBEq, Nat.reduceBEq, Int.reduceBNe, Nat.reduceBNe, Int.reduceAdd, Int.reduceSub, Int.reduceMul, Int.reduceNeg]
    refine (Add_c hst z.n z.p z.R z.base z.cap (hN.inn z (List.mem_of_getElem? hzi))).mono ?_
    rintro _ B ⟨ft', rfl, hstB, hKB, hfB⟩
    have hX' : addX ((Z.take i).map RF.nf) z.n (z.p, z.R) = (Z.take (i + 1)).map RF.nf := by
      rw [addX, if_pos hadd, List.take_add_one, hzi, List.map_append]; rfl
    rw [hX'] at hstB
    simp (dsimp := false) (maxSteps := 4000000) only [ee, go_sem, ↓reduceIte, Nat.reduceEqDiff, Nat.reduceLT, Nat.reduceLeDiff, Nat.reduceAdd, Nat.reduceMul, Nat.reduceSub, reduceCtorEq, Int.reduceToNat, Int.reduceLT, Int.reduceLE, Int.reduceEq, Int.reduceNe, Int.reduceBEq, Nat.reduceBEq, Int.reduceBNe, Nat.reduceBNe, Int.reduceAdd, Int.reduceSub, Int.reduceMul, Int.reduceNeg]
    exact again (i + 1, ft') _ B _ ⟨by dsimp only; omega, hstB, hS.keep hKB hd hdb, hK.ow hKB hf, fun x hx => (hfB x hx).elim (hf x) fun h => hK.fr h, fun x hx hx' => (hfB x hx').elim (hd x hx) fun h => hkn x hx h, fun hx => (hfB _ hx).elim hdb fun h => h.ne_find hbr rfl⟩ (FrLe.of_lks (by simp (dsimp := false) (maxSteps := 4000000) only [go_sem, ↓reduceIte, Nat.reduceEqDiff, Nat.reduceLT, Nat.reduceLeDiff, Nat.reduceAdd, Nat.reduceMul, Nat.reduceSub, reduceCtorEq, Int.reduceToNat, Int.reduceLT, Int.reduceLE, Int.reduceEq, Int.reduceNe, Int.reduceBEq, Nat.reduceBEq, Int.reduceBNe, Nat.reduceBNe, Int.reduceAdd, Int.reduceSub, Int.reduceMul, Int.reduceNeg])) (AH.le_refl _) (by dsimp only; omega)
  · obtain rfl : i = Z.length := by omega
    rw [List.take_length] at hst
    simp (dsimp := false) (maxSteps := 4000000) only [r0, hlt, go_sem, ↓reduceIte, Nat.reduceEqDiff, Nat.reduceLT, Nat.reduceLeDiff, Nat.reduceAdd, Nat.reduceMul, Nat.reduceSub, reduceCtorEq, Int.reduceToNat, Int.reduceLT, Int.reduceLE, Int.reduceEq, Int.reduceNe, Int.reduceBEq, Nat.reduceBEq, Int.reduceBNe, Nat.reduceBNe, Int.reduceAdd, Int.reduceSub, Int.reduceMul, Int.reduceNeg]
    refine out _ _ _ (by simp) ?_
    simp (dsimp := false) (maxSteps := 4000000) only [go_sem, ↓reduceIte, Nat.reduceEqDiff, Nat.reduceLT, Nat.reduceLeDiff, Nat.reduceAdd, Nat.reduceMul, Nat.reduceSub, reduceCtorEq, Int.reduceToNat, Int.reduceLT, Int.reduceLE, Int.reduceEq, Int.reduceNe, Int.reduceBEq, Nat.reduceBEq, Int.reduceBNe, Nat.reduceBNe, Int.reduceAdd, Int.reduceSub, Int.reduceMul, Int.reduceNeg]
    exact ⟨A, AH.le_refl _, b, br, Z, ft, rd, rfl, hZ, hst, hS, hok, hso, hK, hf, hfrH, hd, hdb⟩
end Go.Proofs.YtamlipffhimfmaaGreatDoor.Srv

/- serve: checked, Data, Open, Ask. -/
namespace Go.Proofs.YtamlipffhimfmaaGreatDoor.Srv
set_option linter.unusedSimpArgs false
set_option linter.unusedVariables false
open Go Go.AX Go.Proofs Ty Go.Proofs.YtamlipffhimfmaaGreatDoor.File
set_option maxHeartbeats 4000000
set_option maxRecDepth 10000

def enc1 (x : Int) : List Value := [.int .u8 x]
def chk (l : List Int) : Int := l.foldl (fun c x => ibits .xor .u8 c x) 90
theorem chk_take {l : List Int} {i : Nat} {x : Int} (h : l[i]? = some x) : chk (l.take (i + 1)) = ibits .xor .u8 (chk (l.take i)) x := by
  rw [chk, chk, List.take_add_one, h, List.foldl_append]; rfl
theorem checked_c (l : List Int) (base : Option Addr) (cap : Nat) (H : AH) (hs : SlcIn H 1 base cap (l.map enc1)) :
    ACalls Tryz.prog 36 #[.slice base l.length cap] H (fun v H' => v = .int .u8 (chk l) ∧ H = H') := by
  have hbig := hs.big
  simp only [List.length_map] at hbig
  refine ACalls.enter2 Tryz.func36 rfl Tryz.ntmps36 Tryz.results36 (by simp) ?_; simp (dsimp := false) (maxSteps := 4000000) only [go_sem, ↓reduceIte, Nat.reduceEqDiff, Nat.reduceLT, Nat.reduceLeDiff, Nat.reduceAdd, Nat.reduceMul, Nat.reduceSub, reduceCtorEq, Int.reduceToNat, Int.reduceLT, Int.reduceLE, Int.reduceEq, Int.reduceNe, Int.reduceBEq, Nat.reduceBEq, Int.reduceBNe, Nat.reduceBNe, Int.reduceAdd, Int.reduceSub, Int.reduceMul, Int.reduceNeg]
  refine AWp.loopo (ι := Nat) (fun i => i ≤ l.length) (fun i => [(8, .int .i64 i), (7, .int .i64 l.length), (6, .slice base l.length cap), (3, .int .u8 (chk (l.take i)))]) (fun _ => H) (fun i => l.length - i) 0 (by omega) (FrLe.of_lks ?_) (AH.le_refl _) fun i hi Q again out => ?_
  · have e0 : chk [] = 90 := rfl
    simp (dsimp := false) (maxSteps := 4000000) only [List.take_zero, e0, go_sem, ↓reduceIte, Nat.reduceEqDiff, Nat.reduceLT, Nat.reduceLeDiff, Nat.reduceAdd, Nat.reduceMul, Nat.reduceSub, reduceCtorEq, Int.reduceToNat, Int.reduceLT, Int.reduceLE, Int.reduceEq, Int.reduceNe, Int.reduceBEq, Nat.reduceBEq, Int.reduceBNe, Nat.reduceBNe, Int.reduceAdd, Int.reduceSub, Int.reduceMul, Int.reduceNeg]
  by_cases hlt : (i : Int) < l.length
  · obtain ⟨x, hx⟩ := get_some (l := l) (i := i) (by omega)
    obtain ⟨b_, o, rfl, _, hrd⟩ := hs.get (Go.AX.map_get (f := enc1) hx)
    have rx := hrd 0 _ rfl
    simp only [Nat.add_zero, Nat.mul_one] at rx
    have ee := i64_succ (i := i) (by omega)
    have hi0 : (0 : Int) ≤ (i : Int) := by omega
    simp (dsimp := false) (maxSteps := 4000000) only [hlt, hi0, rx, ee, go_sem, ↓reduceIte, Nat.reduceEqDiff, Nat.reduceLT, Nat.reduceLeDiff, Nat.reduceAdd, Nat.reduceMul, Nat.reduceSub, reduceCtorEq, Int.reduceToNat, Int.reduceLT, Int.reduceLE, Int.reduceEq, Int.reduceNe, Int.reduceBEq, Nat.reduceBEq, Int.reduceBNe, Nat.reduceBNe, Int.reduceAdd, Int.reduceSub, Int.reduceMul, Int.reduceNeg]
    rw [← chk_take hx]
    exact again (i + 1) _ _ (by omega) (FrLe.of_lks (by simp (dsimp := false) (maxSteps := 4000000) only [go_sem, ↓reduceIte, Nat.reduceEqDiff, Nat.reduceLT, Nat.reduceLeDiff, Nat.reduceAdd, Nat.reduceMul, Nat.reduceSub, reduceCtorEq, Int.reduceToNat, Int.reduceLT, Int.reduceLE, Int.reduceEq, Int.reduceNe, Int.reduceBEq, Nat.reduceBEq, Int.reduceBNe, Nat.reduceBNe, Int.reduceAdd, Int.reduceSub, Int.reduceMul, Int.reduceNeg])) (AH.le_refl _) (by omega)
  · obtain rfl : i = l.length := by omega
    rw [List.take_length]
    simp (dsimp := false) (maxSteps := 4000000) only [hlt, go_sem, ↓reduceIte, Nat.reduceEqDiff, Nat.reduceLT, Nat.reduceLeDiff, Nat.reduceAdd, Nat.reduceMul, Nat.reduceSub, reduceCtorEq, Int.reduceToNat, Int.reduceLT, Int.reduceLE, Int.reduceEq, Int.reduceNe, Int.reduceBEq, Nat.reduceBEq, Int.reduceBNe, Nat.reduceBNe, Int.reduceAdd, Int.reduceSub, Int.reduceMul, Int.reduceNeg]
    refine out _ _ _ (by simp) ?_
    simp (dsimp := false) (maxSteps := 4000000) only [go_sem, ↓reduceIte, Nat.reduceEqDiff, Nat.reduceLT, Nat.reduceLeDiff, Nat.reduceAdd, Nat.reduceMul, Nat.reduceSub, reduceCtorEq, Int.reduceToNat, Int.reduceLT, Int.reduceLE, Int.reduceEq, Int.reduceNe, Int.reduceBEq, Nat.reduceBEq, Int.reduceBNe, Nat.reduceBNe, Int.reduceAdd, Int.reduceSub, Int.reduceMul, Int.reduceNeg]
    exact ⟨H, AH.le_refl _, rfl⟩
/-- A row of bytes in a block of our own. -/
theorem row1 {H : AH} {b e m : Nat} {l k : List Int} {cs : List Value} (hf : H.find b = some (.cells cs e m)) (hc : cs = (k.map enc1).flatten) (hl : l = k.take l.length) (hb : k.length < 9223372036854775808) (cap : Nat) (hcap : l.length ≤ cap) : SlcIn H 1 (some ⟨b, 0, none⟩) cap (l.map enc1) := by
  subst hc
  have h1 : SlcIn H 1 (some ⟨b, 0, none⟩) k.length (k.map enc1) := SlcIn.of_find hf (fun r hr => by obtain ⟨_, _, rfl⟩ := List.mem_map.1 hr; rfl) (by simp) (by simpa using hb)
  have h2 := h1.take (n := l.length)
  rw [← List.map_take, ← hl] at h2
  exact h2.recap (by simpa using hcap)
def rl (r : Rc) : List Int := [r.1, r.2.1, r.2.2.1, r.2.2.2]
def dataV (r : Rc) : Value := .agg #[.int .u8 r.1, .int .u8 r.2.1, .int .u8 r.2.2.1, .int .u8 r.2.2.2, .int .u8 (chk (rl r))]
theorem Data_c (r : Rc) (H : AH) : ACalls Tryz.prog 15 #[.agg (enc r).toArray] H (fun v H' => v = dataV r ∧ H = H') := by
  obtain ⟨r0, r1, r2, r3⟩ := r
  have hck := fun H1 b (h : SlcIn H1 1 (some ⟨b, 0, none⟩) 4 ([r0, r1, r2, r3].map enc1)) => checked_c [r0, r1, r2, r3] (some ⟨b, 0, none⟩) 4 H1 h
  dsimp only [enc]
  refine ACalls.enter2 Tryz.func15 rfl Tryz.ntmps15 Tryz.results15 (by simp) ?_; simp (dsimp := false) (maxSteps := 4000000) only [go_sem, ↓reduceIte, Nat.reduceEqDiff, Nat.reduceLT, Nat.reduceLeDiff, Nat.reduceAdd, Nat.reduceMul, Nat.reduceSub, reduceCtorEq, Int.reduceToNat, Int.reduceLT, Int.reduceLE, Int.reduceEq, Int.reduceNe, Int.reduceBEq, Nat.reduceBEq, Int.reduceBNe, Nat.reduceBNe, Int.reduceAdd, Int.reduceSub, Int.reduceMul, Int.reduceNeg]
  refine AllB.mk fun b1 h_b1 => ?_; have hn_b1 := h_b1; (try simp only [fresh_add, fresh_set, ne_eq] at hn_b1); have hr_b1 := hn_b1; (try simp only [@eq_comm Nat b1] at hr_b1); simp (dsimp := false) (maxSteps := 4000000) only [hn_b1, hr_b1, go_sem, ↓reduceIte, Nat.reduceEqDiff, Nat.reduceLT, Nat.reduceLeDiff, Nat.reduceAdd, Nat.reduceMul, Nat.reduceSub, reduceCtorEq, Int.reduceToNat, Int.reduceLT, Int.reduceLE, Int.reduceEq, Int.reduceNe, Int.reduceBEq, Nat.reduceBEq, Int.reduceBNe, Nat.reduceBNe, Int.reduceAdd, Int.reduceSub, Int.reduceMul, Int.reduceNeg]
  refine AllB.mk fun b2 h_b2 => ?_; have hn_b2 := h_b2; (try simp only [fresh_add, fresh_set, ne_eq] at hn_b2); have hr_b2 := hn_b2; (try simp only [@eq_comm Nat b2] at hr_b2); simp (dsimp := false) (maxSteps := 4000000) only [hn_b1, hr_b1, hn_b2, hr_b2, go_sem, ↓reduceIte, Nat.reduceEqDiff, Nat.reduceLT, Nat.reduceLeDiff, Nat.reduceAdd, Nat.reduceMul, Nat.reduceSub, reduceCtorEq, Int.reduceToNat, Int.reduceLT, Int.reduceLE, Int.reduceEq, Int.reduceNe, Int.reduceBEq, Nat.reduceBEq, Int.reduceBNe, Nat.reduceBNe, Int.reduceAdd, Int.reduceSub, Int.reduceMul, Int.reduceNeg]
  refine AWp.gen [.pu, .rd, .pu, .rd, .pu, .rd, .pu, .rd, .pu, .ch, .pu, .ch] [0, 1, 0, 4, 0, 16, 0, 64, 0, 256, 1023, 2047] 10 (_) mixed (by kernel_rfl) (AH.le_refl _) ?_
  simp (dsimp := false) (maxSteps := 4000000) only [hn_b1, hr_b1, hn_b2, hr_b2, go_sem, ↓reduceIte, Nat.reduceEqDiff, Nat.reduceLT, Nat.reduceLeDiff, Nat.reduceAdd, Nat.reduceMul, Nat.reduceSub, reduceCtorEq, Int.reduceToNat, Int.reduceLT, Int.reduceLE, Int.reduceEq, Int.reduceNe, Int.reduceBEq, Nat.reduceBEq, Int.reduceBNe, Nat.reduceBNe, Int.reduceAdd, Int.reduceSub, Int.reduceMul, Int.reduceNeg]
  refine ACalls.mono (hck _ b1 (row1 (k := [r0, r1, r2, r3]) (cs := [.int .u8 r0, .int .u8 r1, .int .u8 r2, .int .u8 r3]) (e := 26) (m := 4) (by (show AH.find _ _ = _; simp only [find_add_self, find_add_ne, find_fresh, fresh_add, fresh_set, ne_eq, not_false_eq_true, true_and, and_true, and_self, hn_b1, hr_b1, hn_b2, hr_b2])) rfl rfl (by simp) 4 (by simp))) ?_; rintro _ _ ⟨rfl, rfl⟩
  simp (dsimp := false) (maxSteps := 4000000) only [hn_b1, hr_b1, hn_b2, hr_b2, go_sem, ↓reduceIte, Nat.reduceEqDiff, Nat.reduceLT, Nat.reduceLeDiff, Nat.reduceAdd, Nat.reduceMul, Nat.reduceSub, reduceCtorEq, Int.reduceToNat, Int.reduceLT, Int.reduceLE, Int.reduceEq, Int.reduceNe, Int.reduceBEq, Nat.reduceBEq, Int.reduceBNe, Nat.reduceBNe, Int.reduceAdd, Int.reduceSub, Int.reduceMul, Int.reduceNeg]
  exact ⟨H, (AH.le_add (AH.le_add (AH.le_refl _) ((by simp only [fresh_add, fresh_set, ne_eq, hn_b1, not_false_eq_true, and_self] : Fresh _ b1).2)) ((by simp only [fresh_add, fresh_set, ne_eq, hn_b2, not_false_eq_true, and_self] : Fresh _ b2).2)), (by first | exact ⟨rfl, rfl⟩ | rfl)⟩
theorem rdop_arr {P : Program} {H : AH} {t n e len cap : Nat} {a : Option Addr} {K : Value → Prop} (hu : P.underlying t = some (.array n e)) (hl : n ≤ len) : rdop P H (Instr.arrayAt t (.slice a len cap)) K = nv (.pointer a) K := by
  unfold rdop
  have : ¬ len < n := by omega
  simp only [Instr.arrayAt, qrun_bind, qrun_underlying, hu, Option.bind_some, if_neg this, qrun_pure]
  rfl
def openV (r : Rc) (x : Int) : Value := if chk (rl r) = x then .tuple #[.agg (enc r).toArray, .int .i64 0] else .tuple #[.agg (enc zr).toArray, .int .i64 14]
theorem Open_c (r : Rc) (x : Int) (H : AH) : ACalls Tryz.prog 9 #[.agg #[.int .u8 r.1, .int .u8 r.2.1, .int .u8 r.2.2.1, .int .u8 r.2.2.2, .int .u8 x]] H (fun v H' => v = openV r x ∧ H = H') := by
  have hd := fun H1 => Data_c r H1
  obtain ⟨r0, r1, r2, r3⟩ := r
  unfold dataV at hd
  dsimp only [enc] at hd ⊢
  refine ACalls.enter2 Tryz.func9 rfl Tryz.ntmps9 Tryz.results9 (by simp) ?_; simp (dsimp := false) (maxSteps := 4000000) only [go_sem, ↓reduceIte, Nat.reduceEqDiff, Nat.reduceLT, Nat.reduceLeDiff, Nat.reduceAdd, Nat.reduceMul, Nat.reduceSub, reduceCtorEq, Int.reduceToNat, Int.reduceLT, Int.reduceLE, Int.reduceEq, Int.reduceNe, Int.reduceBEq, Nat.reduceBEq, Int.reduceBNe, Nat.reduceBNe, Int.reduceAdd, Int.reduceSub, Int.reduceMul, Int.reduceNeg]
  refine AllB.mk fun b1 h_b1 => ?_; have hn_b1 := h_b1; (try simp only [fresh_add, fresh_set, ne_eq] at hn_b1); have hr_b1 := hn_b1; (try simp only [@eq_comm Nat b1] at hr_b1); simp (dsimp := false) (maxSteps := 4000000) only [hn_b1, hr_b1, go_sem, ↓reduceIte, Nat.reduceEqDiff, Nat.reduceLT, Nat.reduceLeDiff, Nat.reduceAdd, Nat.reduceMul, Nat.reduceSub, reduceCtorEq, Int.reduceToNat, Int.reduceLT, Int.reduceLE, Int.reduceEq, Int.reduceNe, Int.reduceBEq, Nat.reduceBEq, Int.reduceBNe, Nat.reduceBNe, Int.reduceAdd, Int.reduceSub, Int.reduceMul, Int.reduceNeg]
  refine AllB.mk fun b2 h_b2 => ?_; have hn_b2 := h_b2; (try simp only [fresh_add, fresh_set, ne_eq] at hn_b2); have hr_b2 := hn_b2; (try simp only [@eq_comm Nat b2] at hr_b2); simp (dsimp := false) (maxSteps := 4000000) only [hn_b1, hr_b1, hn_b2, hr_b2, go_sem, ↓reduceIte, Nat.reduceEqDiff, Nat.reduceLT, Nat.reduceLeDiff, Nat.reduceAdd, Nat.reduceMul, Nat.reduceSub, reduceCtorEq, Int.reduceToNat, Int.reduceLT, Int.reduceLE, Int.reduceEq, Int.reduceNe, Int.reduceBEq, Nat.reduceBEq, Int.reduceBNe, Nat.reduceBNe, Int.reduceAdd, Int.reduceSub, Int.reduceMul, Int.reduceNeg]
  have har := fun H1 K a cap => rdop_arr (P := Tryz.prog) (H := H1) (cap := cap) (a := a) (K := K) Tryz.underlying26 (Nat.le_refl 4)
  simp (dsimp := false) (maxSteps := 4000000) only [har, hn_b1, hr_b1, hn_b2, hr_b2, go_sem, ↓reduceIte, Nat.reduceEqDiff, Nat.reduceLT, Nat.reduceLeDiff, Nat.reduceAdd, Nat.reduceMul, Nat.reduceSub, reduceCtorEq, Int.reduceToNat, Int.reduceLT, Int.reduceLE, Int.reduceEq, Int.reduceNe, Int.reduceBEq, Nat.reduceBEq, Int.reduceBNe, Nat.reduceBNe, Int.reduceAdd, Int.reduceSub, Int.reduceMul, Int.reduceNeg]
  refine AllB.mk fun b4 h_b4 => ?_; have hn_b4 := h_b4; (try simp only [fresh_add, fresh_set, ne_eq] at hn_b4); have hr_b4 := hn_b4; (try simp only [@eq_comm Nat b4] at hr_b4); simp (dsimp := false) (maxSteps := 4000000) only [hn_b1, hr_b1, hn_b2, hr_b2, hn_b4, hr_b4, go_sem, ↓reduceIte, Nat.reduceEqDiff, Nat.reduceLT, Nat.reduceLeDiff, Nat.reduceAdd, Nat.reduceMul, Nat.reduceSub, reduceCtorEq, Int.reduceToNat, Int.reduceLT, Int.reduceLE, Int.reduceEq, Int.reduceNe, Int.reduceBEq, Nat.reduceBEq, Int.reduceBNe, Nat.reduceBNe, Int.reduceAdd, Int.reduceSub, Int.reduceMul, Int.reduceNeg]
  refine AWp.gen [.rd, .ch, .rd, .pu] [0, 1, 0, 7] 2 (_) mixed (by kernel_rfl) (AH.le_refl _) ?_
  simp (dsimp := false) (maxSteps := 4000000) only [hn_b1, hr_b1, hn_b2, hr_b2, hn_b4, hr_b4, go_sem, ↓reduceIte, Nat.reduceEqDiff, Nat.reduceLT, Nat.reduceLeDiff, Nat.reduceAdd, Nat.reduceMul, Nat.reduceSub, reduceCtorEq, Int.reduceToNat, Int.reduceLT, Int.reduceLE, Int.reduceEq, Int.reduceNe, Int.reduceBEq, Nat.reduceBEq, Int.reduceBNe, Nat.reduceBNe, Int.reduceAdd, Int.reduceSub, Int.reduceMul, Int.reduceNeg]
  refine (hd _).mono ?_; rintro _ _ ⟨rfl, rfl⟩
  simp (dsimp := false) (maxSteps := 4000000) only [hn_b1, hr_b1, hn_b2, hr_b2, hn_b4, hr_b4, go_sem, ↓reduceIte, Nat.reduceEqDiff, Nat.reduceLT, Nat.reduceLeDiff, Nat.reduceAdd, Nat.reduceMul, Nat.reduceSub, reduceCtorEq, Int.reduceToNat, Int.reduceLT, Int.reduceLE, Int.reduceEq, Int.reduceNe, Int.reduceBEq, Nat.reduceBEq, Int.reduceBNe, Nat.reduceBNe, Int.reduceAdd, Int.reduceSub, Int.reduceMul, Int.reduceNeg]
  by_cases h : chk (rl (r0, r1, r2, r3)) = x
  · have hb : (chk (rl (r0, r1, r2, r3)) == x) = true := by simp [h]
    simp (dsimp := false) (maxSteps := 4000000) only [hb, hn_b1, hr_b1, hn_b2, hr_b2, hn_b4, hr_b4, go_sem, ↓reduceIte, Nat.reduceEqDiff, Nat.reduceLT, Nat.reduceLeDiff, Nat.reduceAdd, Nat.reduceMul, Nat.reduceSub, reduceCtorEq, Int.reduceToNat, Int.reduceLT, Int.reduceLE, Int.reduceEq, Int.reduceNe, Int.reduceBEq, Nat.reduceBEq, Int.reduceBNe, Nat.reduceBNe, Int.reduceAdd, Int.reduceSub, Int.reduceMul, Int.reduceNeg]
    exact ⟨H, (AH.le_add (AH.le_add (AH.le_add (AH.le_refl _) ((by simp only [fresh_add, fresh_set, ne_eq, hn_b1, not_false_eq_true, and_self] : Fresh _ b1).2)) ((by simp only [fresh_add, fresh_set, ne_eq, hn_b2, not_false_eq_true, and_self] : Fresh _ b2).2)) ((by simp only [fresh_add, fresh_set, ne_eq, hn_b4, not_false_eq_true, and_self] : Fresh _ b4).2)), by rw [openV, if_pos h]; rfl, rfl⟩
  · have hb : (chk (rl (r0, r1, r2, r3)) == x) = false := by simp [h]
    simp (dsimp := false) (maxSteps := 4000000) only [hb, hn_b1, hr_b1, hn_b2, hr_b2, hn_b4, hr_b4, go_sem, ↓reduceIte, Nat.reduceEqDiff, Nat.reduceLT, Nat.reduceLeDiff, Nat.reduceAdd, Nat.reduceMul, Nat.reduceSub, reduceCtorEq, Int.reduceToNat, Int.reduceLT, Int.reduceLE, Int.reduceEq, Int.reduceNe, Int.reduceBEq, Nat.reduceBEq, Int.reduceBNe, Nat.reduceBNe, Int.reduceAdd, Int.reduceSub, Int.reduceMul, Int.reduceNeg]
    exact ⟨H, (AH.le_add (AH.le_add (AH.le_add (AH.le_refl _) ((by simp only [fresh_add, fresh_set, ne_eq, hn_b1, not_false_eq_true, and_self] : Fresh _ b1).2)) ((by simp only [fresh_add, fresh_set, ne_eq, hn_b2, not_false_eq_true, and_self] : Fresh _ b2).2)) ((by simp only [fresh_add, fresh_set, ne_eq, hn_b4, not_false_eq_true, and_self] : Fresh _ b4).2)), by rw [openV, if_neg h]; rfl, rfl⟩
end Go.Proofs.YtamlipffhimfmaaGreatDoor.Srv
