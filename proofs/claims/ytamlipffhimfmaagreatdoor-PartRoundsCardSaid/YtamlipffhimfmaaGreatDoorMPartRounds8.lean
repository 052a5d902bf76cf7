/- For every input PartRounds answers true and leaves its arguments as_ they were; the package's one variable holds what the program's text lays into it: the tied card. -/
import Derived.Test.YtamlipffhimfmaaGreatDoorMPartRounds7
import Derived.Test.YtamlipffhimfmaaGreatDoorRows
import Derived.Test.YtamlipffhimfmaaGreatDoorCards
import Derived.Test.YtamlipffhimfmaaGreatDoorTie
import Derived.ChangeSame
import Derived.ChangeVars
import Derived.JoinedOf
import Derived.RowKit
import Derived.RowKitTokens
import Derived.LaidLaws
import Derived.LaidHandle
import Derived.Stop.Joined
import Derived.SevenTiedAt
/- part: PartRounds. -/
namespace Go.Proofs.YtamlipffhimfmaaGreatDoor.Prt
set_option linter.unusedSimpArgs false
set_option linter.unusedVariables false
open Go Go.AX Go.Proofs Ty Go.Proofs.YtamlipffhimfmaaGreatDoor.File Go.Proofs.YtamlipffhimfmaaGreatDoor.Ifs Go.Proofs.YtamlipffhimfmaaGreatDoor.Err
open Go.Proofs.YtamlipffhimfmaaGreatDoor.Chk (Tb TabIn encT encE En tabs)
set_option maxHeartbeats 4000000
set_option maxRecDepth 10000

theorem tab_of {C : List Ce} {n : Nat} {w : Bd} {H A : AH} {prot : Nat → Prop} (hin : ∀ c ∈ C, CeIn H c) (hO : Ow H A w.own prot) (hb : Bof C n w) : TabIn A w.b3 w.c3 w.T :=
  ⟨(hO.ow 2 _ rfl).slc, fun x hx => by
    rw [hb.t] at hx
    obtain ⟨c, hc, rfl⟩ := List.mem_map.1 hx
    have h := ((hin c (List.mem_of_mem_take hc)).t.keep hO.kp fun _ _ h => h).take (n := 70)
    rw [← List.map_take] at h
    exact h⟩
theorem PartRounds_c (C : List Ce) (base : Option Addr) (cap : Nat) (P : List Sp) (bp : Option Addr) (cp : Nat) (slot : Int) (H : AH) (hE : ErrT H.w0) (hs : SlcIn H 4 base cap (C.map encC)) (hin : ∀ c ∈ C, CeIn H c) (hP : SlcIn H 2 bp cp (P.map encP)) :
    ACalls Tryz.prog 6 #[.slice base C.length cap, .slice bp P.length cp, .int .i64 slot] H (fun v H' => v = .bool true ∧ H = H') := by
  refine ACalls.enter2 Tryz.func6 rfl Tryz.ntmps6 Tryz.results6 (by simp) ?_; simp (dsimp := false) (maxSteps := 4000000) only [rowH_len, rowH_scal, go_sem]
  refine (build_c C base cap H hs hin).mono ?_
  rintro _ A1 ⟨w, rfl, prot, hO, hPr, hb⟩
  have hT := tab_of hin hO hb
  have hS : StsIn A1 w.b1 w.c1 w.S := ⟨(hO.ow 0 _ rfl).slc, fun s h => (hPr.1 s h).1⟩
  have hR : RtsIn A1 w.b2 w.c2 w.R := ⟨(hO.ow 1 _ rfl).slc, fun s h => (hPr.2 s h).1⟩
  have hB : SlcIn A1 1 w.b4 w.c4 (w.B.map encB1) := (hO.ow 3 _ rfl).slc
  have hXS := xs_eq hb
  have hP1 := hP.keep hO.kp fun _ _ h => h
  have hP2 := sp_in hP1
  have hE1 : ErrT A1.w0 := by rw [hO.kp.w0]; exact hE
  have kH := hO.kp
  obtain ⟨Q, hQ⟩ : ∃ Q, P.take 30 = Q := ⟨_, rfl⟩
  have hfw : ∀ {A : AH}, (Keep A1 A fun _ => False) → _ := fun {A} hk => few_c P bp cp A (hP1.keep hk fun _ _ h => h)
  have hl1 : w.T.length = w.S.length := by rw [hb.t, hb.s, List.length_map, List.length_take]; omega
  have hl2 : w.B.length = w.S.length := by rw [hb.b, hb.s, List.length_map, List.length_take]; omega
  have hl3 : w.S.length ≤ 32 := by rw [hb.s]; omega
  have hl4 : w.R.length = w.S.length := by rw [hb.r, hb.s]
  rw [hQ] at hP2 hfw
  obtain ⟨S, hSe⟩ : ∃ S, w.S = S := ⟨_, rfl⟩
  obtain ⟨R, hRe⟩ : ∃ R, w.R = R := ⟨_, rfl⟩
  obtain ⟨T, hTe⟩ : ∃ T, w.T = T := ⟨_, rfl⟩
  obtain ⟨B, hBe⟩ : ∃ B, w.B = B := ⟨_, rfl⟩
  have hx := hb.x
  rw [hSe] at hS hXS hl1 hl2 hl3 hl4 hx ⊢
  rw [hRe] at hR hXS hl4 hx ⊢
  rw [hTe] at hT hl1 ⊢
  rw [hBe] at hB hl2 ⊢
  obtain ⟨b1, h1e⟩ : ∃ b1, w.b1 = b1 := ⟨_, rfl⟩
  obtain ⟨b2, h2e⟩ : ∃ b2, w.b2 = b2 := ⟨_, rfl⟩
  obtain ⟨b3, h3e⟩ : ∃ b3, w.b3 = b3 := ⟨_, rfl⟩
  obtain ⟨b4, h4e⟩ : ∃ b4, w.b4 = b4 := ⟨_, rfl⟩
  rw [h1e] at hS ⊢
  rw [h2e] at hR ⊢
  rw [h3e] at hT ⊢
  rw [h4e] at hB ⊢
  generalize w.c1 = c1, w.c2 = c2, w.c3 = c3, w.c4 = c4 at *
  clear hb hPr hO hSe hRe hTe hBe h1e h2e h3e h4e hin
  have hXeq : ∀ (A : List SR), A = A := fun _ => rfl
  clear hXeq
  simp (dsimp := false) (maxSteps := 4000000) only [rowH_len, rowH_scal, go_sem]
  refine (hfw Keep.refl).mono ?_; rintro _ _ ⟨rfl, rfl⟩
  simp (dsimp := false) (maxSteps := 4000000) only [rowH_len, rowH_scal, go_sem]
  refine (Round_c S T B Q b1 b3 b4 bp c1 c3 c4 cp _ hE1 hS hT hB hP2 hl1 hl2 hl3).mono ?_
  rintro _ A2 ⟨zb, zc, SO, rfl, hz0, hzv, hSO, hK2, _⟩
  have k2 : Keep A1 A2 fun _ => False := hK2
  simp (dsimp := false) (maxSteps := 4000000) only [rowH_len, rowH_scal, go_sem]
  refine (hfw k2).mono ?_; rintro _ _ ⟨rfl, rfl⟩
  simp (dsimp := false) (maxSteps := 4000000) only [rowH_len, rowH_scal, go_sem]
  refine (RefRound_c R T B Q b2 b3 b4 bp c2 c3 c4 cp _ (hR.keep k2) (hT.keep k2) (hB.keep k2 fun _ _ h => h) (hP2.keep k2 fun _ _ h => h) (by omega) (by omega) (by omega)).mono ?_
  rintro _ A3 ⟨yb, yc, RO, rfl, hy0, hyv, hRO, hK3⟩
  have k3 : Keep A1 A3 fun _ => False := k2.trans hK3
  rw [hl4] at hy0 hyv ⊢
  rw [hXS] at hzv
  have hlo : SO.length = RO.length := by
    by_cases h : rndE S.length T = 0
    · rw [(hzv h).1, (hyv h).1]
    · rw [hz0 h, hy0 h]; rfl
  have hloI : (SO.length : Int) = RO.length := by omega
  obtain ⟨Er, hEr⟩ : ∃ Er, rndE S.length T = Er := ⟨_, rfl⟩
  rw [hEr] at hz0 hzv hy0 hyv ⊢
  simp (dsimp := false) (maxSteps := 4000000) only [hloI, rowH_len, rowH_scal, go_sem]
  refine AWp.loopr (ι := Nat) (fun i A => i ≤ RO.length ∧ Keep A3 A fun _ => False)
    (fun i => [(15, .int .i64 i), (11, .slice zb SO.length zc), (13, .slice yb RO.length yc), (12, .int .i64 Er), (14, .int .i64 Er), (7, .slice b1 S.length c1), (8, .slice b2 S.length c2), (9, .slice b3 T.length c3), (10, .slice b4 B.length c4), (1, .slice bp P.length cp), (2, .int .i64 slot)]) (fun i => RO.length - i) 0 A3
    ⟨by simp, Keep.refl⟩ (FrLe.of_lks ?_) (AH.le_refl _) fun i A hV Q' again out => ?_
  · simp (dsimp := false) (maxSteps := 4000000) only [hlo, rowH_len, rowH_scal, go_sem]
  
  obtain ⟨hi, hK⟩ := hV
  by_cases hlt : (i : Int) < RO.length
  case pos =>
    have h0 : Er = 0 := Classical.byContradiction fun h => by rw [hy0 h] at hlt; simp at hlt; omega
    obtain ⟨hzl, hzv⟩ := hzv h0
    obtain ⟨hyl, hyv⟩ := hyv h0
    obtain ⟨o, ho⟩ := get_some (l := SO) (i := i) (by omega)
    obtain ⟨p, hp⟩ := get_some (l := RO) (i := i) (by omega)
    obtain ⟨s, hsi⟩ := get_some (l := S) (i := i) (by omega)
    obtain ⟨r, hri⟩ := get_some (l := R) (i := i) (by omega)
    obtain ⟨t, hti⟩ := get_some (l := T) (i := i) (by omega)
    obtain ⟨l, hli⟩ := get_some (l := B) (i := i) (by omega)
    obtain ⟨hx1, hx2, hx3, hx4⟩ := hx i s r hsi hri
    obtain ⟨v1, v2⟩ := hzv i s t l o hsi hti hli ho
    obtain ⟨v3, v4⟩ := hyv i r t l p hri hti hli hp
    rw [hx2, hx1] at v1 v2
    rw [hx3] at v3 v4
    have hso : Srt (p.Z.map RF.nf) := by rw [v3]; exact outP_s _ _ _ _ _ (hx1 ▸ hx4)
    have hpo : (p.Z.map RF.nf).Perm o.X := by rw [v3]; exact v1.symm
    have hde : o.den = p.den := v2.trans v4.symm
    have hS3 := hS.keep k3
    have hR3 := hR.keep k3
    have hSO3 := hSO.keep hK3
    have ko := hSO3.inn o (List.mem_of_getElem? ho)
    have kp := hRO.inn p (List.mem_of_getElem? hp)
    have ks := hS3.inn s (List.mem_of_getElem? hsi)
    have kr := hR3.inn r (List.mem_of_getElem? hri)
    obtain ⟨q1, j1, rfl, _, a1⟩ := hSO3.out.get (Go.AX.map_get (f := encS) ho)
    obtain ⟨q2, j2, rfl, _, a2⟩ := hRO.out.get (Go.AX.map_get (f := encR) hp)
    obtain ⟨q3, j3, rfl, _, a3⟩ := hS3.out.get (Go.AX.map_get (f := encS) hsi)
    obtain ⟨q4, j4, rfl, _, a4⟩ := hR3.out.get (Go.AX.map_get (f := encR) hri)
    have a1 := a1 0 _ rfl
    have a2 := a2 0 _ rfl
    have a3 := a3 0 _ rfl
    have a4 := a4 0 _ rfl
    simp only [Nat.add_zero, Nat.mul_one] at a1 a2 a3 a4
    obtain ⟨pb, pc, hpb, hpN, _⟩ := id kp.1
    obtain ⟨rb, rc, hrb, hrN, _⟩ := id kr.1
    have p0 : A3.rd ⟨p.b, 0, none⟩ = some (.slice pb p.Z.length pc) := by rw [rd_find hpb]; rfl
    have p1 : A3.rd ⟨p.b, 1, none⟩ = some (.int .i64 p.den) := by rw [rd_find hpb]; rfl
    have r0 : A3.rd ⟨r.b, 0, none⟩ = some (.slice rb r.Z.length rc) := by rw [rd_find hrb]; rfl
    have ee := i64_succ (i := i) (by omega)
    have hi0 : (0 : Int) ≤ (i : Int) := by omega
    have hi1 : (i : Int) < SO.length := by omega
    have hi2 : (i : Int) < S.length := by omega
    have hi3 : (i : Int) < R.length := by omega
    have hle := hK.all
    simp (dsimp := false) (maxSteps := 4000000) only [hlt, rowH_len, rowH_scal, go_sem]
    refine AWp.gen [.pu, .pu, .pu, .rd, .ch, .pu, .pu, .pu, .rd, .pu, .pu, .rd, .ch, .pu, .pu, .pu, .pu, .pu, .rd, .ch, .pu, .pu, .pu, .rd, .pu, .pu, .rd, .pu, .pu, .pu, .pu, .pu, .pu, .rd, .ch, .pu, .pu, .pu, .rd, .pu, .pu, .rd, .ch, .pu, .pu] [0, 0, 3, 7, 15, 0, 0, 96, 224, 480, 992, 2016, 4095, 8191, 16383, 32767, 32767, 131071, 262143, 524287, 32767, 32767, 3178495, 7372799, 15761407, 32538623, 66093055, 134217727, 268435455, 536870911, 1073741823, 1073741823, 4294967295, 8589934591, 17179869183, 1073741823, 1073741823, 104152956927, 241591910399, 516469817343, 1066225631231, 2165737259007, 4398046511103, 8796093022207, 17592186044415] 35 (A3) mixed (by kernel_rfl) (hle) ?_
    simp (dsimp := false) (maxSteps := 4000000) only [hlt, hi0, hi1, hi2, hi3, a1, a2, a3, a4, p0, p1, r0, hle, rowH_len, rowH_scal, go_sem]
    refine (Files_c (ko.1.keep hK fun _ _ h => h) ko.2).mono ?_
    rintro _ A4 ⟨eb, ec, Z1, rd1, rfl, hz1, hs1, hN1, hKa, _⟩
    have kA4 := hK.trans hKa
    have hle4 := kA4.all
    have e1 : Z1.map RF.nf = p.Z.map RF.nf := Srt.uniq (hz1.trans hpo.symm) hs1 hso
    have hZl : Z1.length = p.Z.length := by have := congrArg List.length e1; simpa using this
    simp (dsimp := false) (maxSteps := 4000000) only [hlt, hi0, hi1, hi2, hi3, a1, a2, a3, a4, p0, p1, r0, hle4, rowH_len, rowH_scal, go_sem]
    refine (Same_c hN1 (hpN.keep kA4 fun _ _ h => h)).mono ?_
    rintro _ _ ⟨rfl, rfl⟩
    rw [decide_eq_true e1]
    simp (dsimp := false) (maxSteps := 4000000) only [hlt, hi0, hi1, hi2, hi3, a1, a2, a3, a4, p0, p1, r0, hle4, rowH_len, rowH_scal, go_sem]
    refine (Denied_c (ko.1.keep kA4 fun _ _ h => h)).mono ?_; rintro _ _ ⟨rfl, rfl⟩
    simp (dsimp := false) (maxSteps := 4000000) only [hlt, hi0, hi1, hi2, hi3, a1, a2, a3, a4, p0, p1, r0, hle4, hde, rowH_len, rowH_scal, go_sem]
    refine (Files_c (ks.1.keep kA4 fun _ _ h => h) ks.2).mono ?_
    rintro _ A5 ⟨fb, fc, Z2, rd2, rfl, hz2, hs2, hN2, hKb, _⟩
    have kA5 := kA4.trans hKb
    have hle5 := kA5.all
    have e2 : Z2.map RF.nf = r.Z.map RF.nf := Srt.uniq (by rw [← hx1]; exact hz2) hs2 (hx1 ▸ hx4)
    simp (dsimp := false) (maxSteps := 4000000) only [hlt, hi0, hi1, hi2, hi3, a1, a2, a3, a4, p0, p1, r0, hle5, rowH_len, rowH_scal, go_sem]
    refine (Same_c hN2 (hrN.keep kA5 fun _ _ h => h)).mono ?_
    rintro _ _ ⟨rfl, rfl⟩
    rw [decide_eq_true e2]
    simp (dsimp := false) (maxSteps := 4000000) only [ee, hle5, rowH_len, rowH_scal, go_sem]
    exact again (i + 1) _ A5 _ ⟨by omega, kA5⟩ (FrLe.of_lks (by simp (dsimp := false) (maxSteps := 4000000) only [rowH_len, rowH_scal, go_sem])) (AH.le_refl _) (by omega)
  obtain rfl : i = RO.length := by omega
  simp (dsimp := false) (maxSteps := 4000000) only [hlt, rowH_len, rowH_scal, go_sem]
  refine out _ _ _ (by simp) ?_
  clear again out
  
  by_cases h0 : Er = 0
  case neg =>
    simp (dsimp := false) (maxSteps := 4000000) only [h0, rowH_len, rowH_scal, go_sem]
    refine (awake_c A (by rw [(k3.trans hK).w0]; exact hE1)).mono ?_
    rintro _ _ ⟨rfl, rfl⟩
    simp (dsimp := false) (maxSteps := 4000000) only [rowH_len, rowH_scal, go_sem]
    exact ⟨H, ((kH.trans k3).trans hK).all, rfl⟩
  subst h0
  have kA := k3.trans hK
  have kHA := kH.trans kA
  have ht : TOk T := tok_of (by
    unfold rndE at hEr
    split at hEr
    · cases hEr
    · exact hEr)
  have hEA : ErrT A.w0 := by rw [kA.w0]; exact hE1
  have hS := hS.keep kA
  have hR := hR.keep kA
  have hT := hT.keep kA
  have hB := hB.keep kA fun _ _ h => h
  have hP2 := hP2.keep kA fun _ _ h => h
  have hfw : ∀ {A' : AH}, (Keep A A' fun _ => False) → ACalls Tryz.prog 27 #[.slice bp P.length cp] A' fun v H' => v = .slice bp Q.length cp ∧ A' = H' := fun {A'} hk => hfw (kA.trans hk)
  clear hK hSO hRO hzv hyv hz0 hy0 hlo hloI hlt hK2 hK3 k2 k3 kA hP1 hE1 kH hs hP
  have hflen := frame_len (S.map (·.X)) T B Q slot
  have hFr := Frame_c S T B Q b1 b3 b4 bp c1 c3 c4 cp slot _ hS hT hB hP2 ht (by omega) (by omega)
  obtain ⟨fn, ff, fok, hf⟩ : ∃ fn ff fok, frameP (S.map (·.X)) T B Q slot = (fn, ff, fok) := ⟨_, _, _, rfl⟩
  have hRF := fun {A' : AH} (hk : Keep A A' fun _ => False) => RefFrame_c R T B Q b2 b3 b4 bp c2 c3 c4 cp slot A' (hR.keep hk) (hT.keep hk) (hB.keep hk fun _ _ h => h) (hP2.keep hk fun _ _ h => h) ht (by omega) (by omega)
  rw [← hXS] at hRF
  rw [hf] at hflen hFr hRF
  unfold frameV at hFr hRF
  dsimp only at hflen hFr hRF
  rw [hl4] at hRF
  have hmf : (ff.map Value.bool).length = 11 := by simp [hflen]
  have hms : (ff.map Value.bool).all scal = true := by rw [List.all_map, List.all_eq_true]; exact fun _ _ => rfl
  simp (dsimp := false) (maxSteps := 4000000) only [rowH_len, rowH_scal, go_sem]
  refine (hfw Keep.refl).mono ?_; rintro _ _ ⟨rfl, rfl⟩
  simp (dsimp := false) (maxSteps := 4000000) only [rowH_len, rowH_scal, go_sem]
  refine (hFr).mono ?_; rintro _ _ ⟨rfl, rfl⟩
  have hlp : lput [Value.bool false, Value.bool false, Value.bool false, Value.bool false, Value.bool false, Value.bool false, Value.bool false, Value.bool false, Value.bool false, Value.bool false, Value.bool false] 0 (ff.map Value.bool) = ff.map Value.bool := by
    match ff, hflen with
    | [_, _, _, _, _, _, _, _, _, _, _], _ => rfl
  simp (dsimp := false) (maxSteps := 4000000) only [hflen, hms, hlp, rowH_len, rowH_scal, go_sem]
  refine AllB.mk fun b17 h_b17 => ?_; have hn_b17 := h_b17; (try simp only [fresh_add, fresh_set, ne_eq] at hn_b17); have hr_b17 := hn_b17; (try simp only [@eq_comm Nat b17] at hr_b17); simp (dsimp := false) (maxSteps := 4000000) only [rowH_len, rowH_scal, hn_b17, hr_b17, go_sem]
  simp (dsimp := false) (maxSteps := 4000000) only [hflen, hms, hlp, rowH_len, rowH_scal, hn_b17, hr_b17, go_sem]
  obtain ⟨A1', hA1⟩ : ∃ A1', A.add b17 (.cells (ff.map Value.bool) 87 11) = A1' := ⟨_, rfl⟩
  have k1 : Keep A A1' fun _ => False := hA1 ▸ Keep.add h_b17
  have f17 : A1'.find b17 = some (.cells (ff.map Value.bool) 87 11) := by rw [← hA1, find_add_self]
  rw [hA1]
  clear hA1 h_b17 hn_b17 hr_b17
  
  refine (hfw k1).mono ?_; rintro _ _ ⟨rfl, rfl⟩
  simp (dsimp := false) (maxSteps := 4000000) only [rowH_len, rowH_scal, go_sem]
  refine (hRF k1).mono ?_; rintro _ _ ⟨rfl, rfl⟩
  simp (dsimp := false) (maxSteps := 4000000) only [hflen, hms, hlp, rowH_len, rowH_scal, go_sem]
  refine AllB.mk fun b20 h_b20 => ?_; have hn_b20 := h_b20; (try simp only [fresh_add, fresh_set, ne_eq] at hn_b20); have hr_b20 := hn_b20; (try simp only [@eq_comm Nat b20] at hr_b20); simp (dsimp := false) (maxSteps := 4000000) only [rowH_len, rowH_scal, hn_b20, hr_b20, go_sem]
  simp (dsimp := false) (maxSteps := 4000000) only [hflen, hms, hlp, rowH_len, rowH_scal, hn_b20, hr_b20, go_sem]
  obtain ⟨A2', hA2⟩ : ∃ A2', A1'.add b20 (.cells (ff.map Value.bool) 87 11) = A2' := ⟨_, rfl⟩
  have k2 : Keep A A2' fun _ => False := hA2 ▸ k1.nw h_b20
  have f20 : A2'.find b20 = some (.cells (ff.map Value.bool) 87 11) := by rw [← hA2, find_add_self]
  have f17 : A2'.find b17 = some (.cells (ff.map Value.bool) 87 11) := by rw [← hA2, find_add_ne _ (h_b20.ne_find f17)]; exact f17
  rw [hA2]
  clear hA2 h_b20 hn_b20 hr_b20 hFr hRF hlp hms hmf
  
  have hHd := Heard_c S T B Q b1 b3 b4 bp c1 c3 c4 cp slot _ (hS.keep k2) (hT.keep k2) (hB.keep k2 fun _ _ h => h) (hP2.keep k2 fun _ _ h => h) ht (by omega) (by omega)
  have hRh := RefHeard_c R T B Q b2 b3 b4 bp c2 c3 c4 cp _ (hR.keep k2) (hT.keep k2) (hB.keep k2 fun _ _ h => h) (hP2.keep k2 fun _ _ h => h) ht (by omega) (by omega)
  rw [← hXS, hl4] at hRh
  have hrd := heard_range (S.map (·.X)) T B Q
  have hout := hdP_out (S.map (·.X)) T B Q
  have hin1 : 1 ≤ slot ∧ slot ≤ 16 → heardO (S.map (·.X)) T B Q slot = hdP (S.map (·.X)) T B Q slot := fun h => by rw [hdP, if_pos h]
  have hin2 : ¬ (1 ≤ slot ∧ slot ≤ 16) → heardO (S.map (·.X)) T B Q slot = none := heard_none _ B Q ht
  obtain ⟨hd, hhd⟩ : ∃ hd, hdP (S.map (·.X)) T B Q = hd := ⟨_, rfl⟩
  obtain ⟨ho, hho⟩ : ∃ ho, heardO (S.map (·.X)) T B Q slot = ho := ⟨_, rfl⟩
  rw [hhd] at hrd hout hin1 hRh
  rw [hho] at hin1 hin2 hHd
  have hlenR := rowH_len hd 17
  have hscR := rowH_scal hd 17
  clear hhd hho hXS hf
  refine (hfw k2).mono ?_; rintro _ _ ⟨rfl, rfl⟩
  simp (dsimp := false) (maxSteps := 4000000) only [rowH_len, rowH_scal, go_sem]
  refine (hHd).mono ?_; rintro _ _ ⟨rfl, rfl⟩
  simp (dsimp := false) (maxSteps := 4000000) only [rowH_len, rowH_scal, go_sem]
  refine (hfw k2).mono ?_; rintro _ _ ⟨rfl, rfl⟩
  simp (dsimp := false) (maxSteps := 4000000) only [rowH_len, rowH_scal, go_sem]
  refine (hRh).mono ?_; rintro _ _ ⟨rfl, rfl⟩
  simp (dsimp := false) (maxSteps := 4000000) only [rowH_len, rowH_scal, go_sem]
  refine AllB.mk fun b24 h_b24 => ?_; have hn_b24 := h_b24; (try simp only [fresh_add, fresh_set, ne_eq] at hn_b24); have hr_b24 := hn_b24; (try simp only [@eq_comm Nat b24] at hr_b24); simp (dsimp := false) (maxSteps := 4000000) only [rowH_len, rowH_scal, hn_b24, hr_b24, go_sem]
  obtain ⟨A3', hA3⟩ : ∃ A3', A2'.add b24 (.cells (rowH hd 17) 96 34) = A3' := ⟨_, rfl⟩
  have k3 : Keep A A3' fun _ => False := hA3 ▸ k2.nw h_b24
  have f24 : A3'.find b24 = some (.cells (rowH hd 17) 96 34) := by rw [← hA3, find_add_self]
  have f20 : A3'.find b20 = some (.cells (ff.map Value.bool) 87 11) := by rw [← hA3, find_add_ne _ (h_b24.ne_find f20)]; exact f20
  have f17 : A3'.find b17 = some (.cells (ff.map Value.bool) 87 11) := by rw [← hA3, find_add_ne _ (h_b24.ne_find f17)]; exact f17
  rw [hA3]
  clear hA3 h_b24 hn_b24 hr_b24 hHd hRh k1
  
  have rv : ∀ i : Nat, i < 17 → A3'.rd ⟨b24, i, none⟩ = some (.int .u8 ((hd i).getD 0)) := fun i hi => by rw [rd_find f24]; exact rowH_val hd hi
  have rk : ∀ i : Nat, i < 17 → A3'.rd ⟨b24, 17 + i, none⟩ = some (.bool (hd i).isSome) := fun i hi => by rw [rd_find f24]; exact rowH_ok hd hi
  refine AllB.mk fun bm h_bm => ?_; have hn_bm := h_bm; (try simp only [fresh_add, fresh_set, ne_eq] at hn_bm); have hr_bm := hn_bm; (try simp only [@eq_comm Nat bm] at hr_bm); simp (dsimp := false) (maxSteps := 4000000) only [rowH_len, rowH_scal, hn_bm, hr_bm, go_sem]
  have nm : ¬ bm = b24 := h_bm.ne_find f24
  have h1 : hents hd 1 = [] := by simp [hents, hout 0 (by omega)]
  refine AWp.loopo (ι := Nat) (fun i => 1 ≤ i ∧ i ≤ 17) (fun i => [(26, .int .i64 i), (25, .map (some bm)), (24, .pointer (some ⟨b24, 0, none⟩)), (16, .int .i64 fn), (17, .pointer (some ⟨b17, 0, none⟩)), (18, .bool fok), (19, .int .i64 fn), (20, .pointer (some ⟨b20, 0, none⟩)), (21, .bool fok), (22, .int .u8 (ho.getD 0)), (23, .bool ho.isSome), (2, .int .i64 slot), (7, .slice b1 S.length c1), (8, .slice b2 S.length c2), (9, .slice b3 T.length c3)]) (fun i => A3'.add bm (.amap (ki (hents hd i)))) (fun i => 17 - i) 1 ⟨by omega, by omega⟩ (FrLe.of_lks ?_) (by rw [h1]; exact AH.le_refl _) fun i hi Q2 again out => ?_
  · simp (dsimp := false) (maxSteps := 4000000) only [rowH_len, rowH_scal, hn_bm, hr_bm, go_sem]
  by_cases hlt : (i : Int) ≤ 16
  · have ee := i64_succ (i := i) (by omega)
    have hi0 : (0 : Int) ≤ (i : Int) := by omega
    have h17 : (i : Int) < 17 := by omega
    have rvi := rv i (by omega)
    have rki := rk i (by omega)
    cases hy : hd i with
    | none =>
      have e1 : hents hd (i + 1) = hents hd i := by rw [hents, hy]
      rw [hy] at rki
      simp (dsimp := false) (maxSteps := 4000000) only [hlt, hi0, h17, nm, rki, ee, Option.isSome_none, rowH_len, rowH_scal, hn_bm, hr_bm, go_sem]
      rw [← e1]
      exact again (i + 1) _ _ (by omega) (FrLe.of_lks (by simp (dsimp := false) (maxSteps := 4000000) only [rowH_len, rowH_scal, hn_bm, hr_bm, go_sem])) (AH.le_refl _) (by omega)
    | some y =>
      have e1 : ki (hents hd i) ++ [(.int .i64 i, .int .u8 y)] = ki (hents hd (i + 1)) := by rw [hents, hy, ki, ki, List.map_append]; rfl
      rw [hy] at rki rvi
      simp (dsimp := false) (maxSteps := 4000000) only [hlt, hi0, h17, nm, rki, rvi, ee, hents_new, mput, Option.getD_some, Option.isSome_some, e1, rowH_len, rowH_scal, hn_bm, hr_bm, go_sem]
      exact again (i + 1) _ _ (by omega) (FrLe.of_lks (by simp (dsimp := false) (maxSteps := 4000000) only [rowH_len, rowH_scal, hn_bm, hr_bm, go_sem])) (AH.le_refl _) (by omega)
  obtain rfl : i = 17 := by omega
  have hM : Hm (A3'.add bm (.amap (ki (hents hd 17)))) (.map (some bm)) hd := hents_hm (find_add_self _ _ _) hout
  obtain ⟨D, hD⟩ : ∃ D, A3'.add bm (.amap (ki (hents hd 17))) = D := ⟨_, rfl⟩
  have k3D : Keep A3' D fun _ => False := hD ▸ Keep.add h_bm
  simp (dsimp := false) (maxSteps := 4000000) only [hlt, rowH_len, rowH_scal, hn_bm, hr_bm, go_sem]
  refine out _ _ _ (by simp) ?_
  rw [hD] at hM ⊢
  clear hD h_bm hn_bm hr_bm again out rv rk nm
  
  have kD := k3.trans k3D
  have hS := hS.keep kD
  have hR := hR.keep kD
  have hT := hT.keep kD
  have f17 := k3D.find (fun h => h) f17
  have f20 := k3D.find (fun h => h) f20
  have f24 := k3D.find (fun h => h) f24
  clear k2 k3 k3D hB hP2
  simp (dsimp := false) (maxSteps := 4000000) only [rowH_len, rowH_scal, go_sem]
  refine AWp.loopr (ι := Nat) (fun i X => i ≤ S.length ∧ Keep D X fun _ => False)
    (fun i => [(27, .int .i64 i), (25, .map (some bm)), (24, .pointer (some ⟨b24, 0, none⟩)), (16, .int .i64 fn), (17, .pointer (some ⟨b17, 0, none⟩)), (18, .bool fok), (19, .int .i64 fn), (20, .pointer (some ⟨b20, 0, none⟩)), (21, .bool fok), (22, .int .u8 (ho.getD 0)), (23, .bool ho.isSome), (2, .int .i64 slot), (7, .slice b1 S.length c1), (8, .slice b2 S.length c2), (9, .slice b3 T.length c3)]) (fun i => S.length - i) 0 D
    ⟨by simp, Keep.refl⟩ (FrLe.of_lks ?_) (AH.le_refl _) fun i X hV Q3 again out => ?_
  · simp (dsimp := false) (maxSteps := 4000000) only [rowH_len, rowH_scal, go_sem]
  
  obtain ⟨hi, hK⟩ := hV
  by_cases hlt : (i : Int) < S.length
  case pos =>
    obtain ⟨s, hsi⟩ := get_some (l := S) (i := i) (by omega)
    obtain ⟨r, hri⟩ := get_some (l := R) (i := i) (by omega)
    obtain ⟨⟨tb, tc, L⟩, hti⟩ := get_some (l := T) (i := i) (by omega)
    obtain ⟨hx1, hx2, hx3, hx4⟩ := hx i s r hsi hri
    have ks := hS.inn s (List.mem_of_getElem? hsi)
    have kr := hR.inn r (List.mem_of_getElem? hri)
    have hmem : ((tb, tc, L) : Tb) ∈ T := List.mem_of_getElem? hti
    have hto := tab_ok ht hmem
    have htin := hT.inn _ hmem
    obtain ⟨q3, j3, rfl, _, a3⟩ := hS.out.get (Go.AX.map_get (f := encS) hsi)
    obtain ⟨q4, j4, rfl, _, a4⟩ := hR.out.get (Go.AX.map_get (f := encR) hri)
    obtain ⟨q5, j5, rfl, _, a5⟩ := hT.out.get (Go.AX.map_get (f := encT) hti)
    have a3 := a3 0 _ rfl
    have a4 := a4 0 _ rfl
    have a5 := a5 0 _ rfl
    simp only [Nat.add_zero, Nat.mul_one] at a3 a4 a5
    have ee := i64_succ (i := i) (by omega)
    have hi0 : (0 : Int) ≤ (i : Int) := by omega
    have hi2 : (i : Int) < T.length := by omega
    have hle := hK.all
    have w24 : D.row b24 0 34 = some (rowH hd 17) := by
      rw [row_find f24 (by rw [hlenR]; exact Nat.le_refl _), List.drop_zero, List.take_of_length_le (by rw [hlenR]; exact Nat.le_refl _)]
    simp (dsimp := false) (maxSteps := 4000000) only [hlt, rowH_len, rowH_scal, go_sem]
    refine AWp.gen [.pu, .pu, .pu, .rd, .pu, .pu, .pu, .rd, .pu, .ch, .ch, .pu, .pu, .pu, .rd, .pu, .pu, .pu, .rd, .rd, .ch, .pu, .pu, .ch, .ch, .pu] [0, 0, 3, 7, 0, 0, 48, 112, 0, 511, 1023, 0, 0, 6144, 14336, 0, 0, 98304, 229376, 0, 1048575, 2097151, 4194303, 8388607, 16777215, 33554431] 21 (D) mixed (by kernel_rfl) (hle) ?_
    simp (dsimp := false) (maxSteps := 4000000) only [hlt, hi0, hi2, a3, a4, a5, w24, hle, rowH_len, rowH_scal, go_sem]
    refine (Apply_c (by rw [hK.w0, kD.w0]; exact hEA) (ks.1.keep hK fun _ _ h => h) ks.2 L tb tc (htin.keep hK fun _ _ h => h) (some bm) hd (hM.keep hK fun _ _ h => h) hrd (fun x hx hx2 => (hto.2 x hx hx2).2) hto.1).mono ?_
    rintro _ X1 ⟨p1, Y1, ft1, rfl, hp1, hok1, hs1, hK1, _⟩
    have k1 := hK.trans hK1
    have hle1 := k1.all
    simp (dsimp := false) (maxSteps := 4000000) only [hlt, hi0, hi2, a3, a4, a5, w24, hle1, rowH_len, rowH_scal, go_sem]
    refine (Files_c hs1 hok1).mono ?_
    rintro _ X2 ⟨eb, ec, Z1, rd1, rfl, hz1, hsr1, hN1, hK2, _⟩
    have k2 := k1.trans hK2
    have hle2 := k2.all
    simp (dsimp := false) (maxSteps := 4000000) only [hlt, hi0, hi2, a3, a4, a5, w24, hle2, rowH_len, rowH_scal, go_sem]
    refine (RefApply_c (kr.1.keep k2 (fun _ _ h => h) fun h => h) kr.2 L tb tc (htin.keep k2 fun _ _ h => h) hd hrd hto.2).mono ?_
    rintro _ X3 ⟨p2, Z2, rd2, rfl, hz2, hok2, hs2, hK3, _, _⟩
    have k3 := k2.trans hK3
    have hle3 := k3.all
    obtain ⟨gb, gc, hgf, hgN, _⟩ := id hs2
    have g0 : X3.rd ⟨p2, 0, none⟩ = some (.slice gb Z2.length gc) := by rw [rd_find hgf]; rfl
    simp (dsimp := false) (maxSteps := 4000000) only [hlt, hi0, hi2, a3, a4, a5, w24, hle3, g0, rowH_len, rowH_scal, go_sem]
    have e1 : Z1.map RF.nf = Z2.map RF.nf := by
      rw [hx1, hx2] at hp1
      rw [hx3] at hz2
      refine Srt.uniq (hz1.trans (hp1.trans ?_)) hsr1 (by rw [hz2]; exact app_s _ _ _ _ (hx1 ▸ hx4))
      rw [hz2]
    refine (Same_c (hN1.keep hK3 fun _ _ h => h) hgN).mono ?_
    rintro _ _ ⟨rfl, rfl⟩
    rw [decide_eq_true e1]
    simp (dsimp := false) (maxSteps := 4000000) only [ee, hle3, rowH_len, rowH_scal, go_sem]
    exact again (i + 1) _ X3 _ ⟨by omega, k3⟩ (FrLe.of_lks (by simp (dsimp := false) (maxSteps := 4000000) only [rowH_len, rowH_scal, go_sem])) (AH.le_refl _) (by omega)
  obtain rfl : i = S.length := by omega
  simp (dsimp := false) (maxSteps := 4000000) only [hlt, rowH_len, rowH_scal, go_sem]
  refine out _ _ _ (by simp) ?_
  clear again out
  
  have f17 := hK.find (fun h => h) f17
  have f20 := hK.find (fun h => h) f20
  have f24 := hK.find (fun h => h) f24
  have kX := kD.trans hK
  have hff : ∃ a0 a1 a2 a3 a4 a5 a6 a7 a8 a9 a10, ff = [a0, a1, a2, a3, a4, a5, a6, a7, a8, a9, a10] := by
    match ff, hflen with
    | [a0, a1, a2, a3, a4, a5, a6, a7, a8, a9, a10], _ => exact ⟨a0, a1, a2, a3, a4, a5, a6, a7, a8, a9, a10, rfl⟩
  have w17 : X.row b17 0 11 = some (ff.map Value.bool) := by
    rw [row_find f17 (by simp [hflen]), List.drop_zero, List.take_of_length_le (by simp [hflen])]
  have w20 : X.row b20 0 11 = some (ff.map Value.bool) := by
    rw [row_find f20 (by simp [hflen]), List.drop_zero, List.take_of_length_le (by simp [hflen])]
  have haw := awake_c X (by rw [kX.w0]; exact hEA)
  have fin : H.le X := (kHA.trans kX).all
  by_cases h1 : 1 ≤ slot ∧ slot ≤ 16
  · have hh := hin1 h1
    obtain ⟨n, rfl⟩ := Int.eq_ofNat_of_zero_le (show 0 ≤ slot by omega)
    have rv : X.rd ⟨b24, n, none⟩ = some (.int .u8 (ho.getD 0)) := by rw [hh, rd_find f24]; exact rowH_val hd (by omega)
    have rk : X.rd ⟨b24, 17 + n, none⟩ = some (.bool ho.isSome) := by rw [hh, rd_find f24]; exact rowH_ok hd (by omega)
    have hn0 : (0 : Int) ≤ (n : Int) := by omega
    have hn17 : (n : Int) < 17 := by omega
    simp (dsimp := false) (maxSteps := 4000000) only [h1.1, h1.2, rowH_len, rowH_scal, go_sem]
    refine AWp.gen [.pu, .pu, .pu, .rd, .pu, .pu, .pu, .rd, .pu, .pu] [0, 0, 3, 7, 0, 0, 48, 112, 15, 511] 0 (_) mixed (by kernel_rfl) (AH.le_refl _) ?_
    simp (dsimp := false) (maxSteps := 4000000) only [h1.1, h1.2, rv, rk, hn0, hn17, rowH_len, rowH_scal, go_sem]
    refine haw.mono ?_
    rintro _ _ ⟨rfl, rfl⟩
    obtain ⟨a0, a1, a2, a3, a4, a5, a6, a7, a8, a9, a10, rfl⟩ := hff
    simp only [List.map_cons, List.map_nil] at w17 w20
    simp (dsimp := false) (maxSteps := 4000000) only [w17, w20, rowH_len, rowH_scal, go_sem]
    exact ⟨H, fin, rfl⟩
  · have hh := hin2 h1
    subst hh
    by_cases h2 : 1 ≤ slot
    · have h3 : ¬ slot ≤ 16 := fun h => h1 ⟨h2, h⟩
      simp (dsimp := false) (maxSteps := 4000000) only [h2, h3, rowH_len, rowH_scal, go_sem]
      refine haw.mono ?_
      rintro _ _ ⟨rfl, rfl⟩
      obtain ⟨a0, a1, a2, a3, a4, a5, a6, a7, a8, a9, a10, rfl⟩ := hff
      simp only [List.map_cons, List.map_nil] at w17 w20
      simp (dsimp := false) (maxSteps := 4000000) only [w17, w20, Option.getD_none, Option.isSome_none, rowH_len, rowH_scal, go_sem]
      exact ⟨H, fin, rfl⟩
    · simp (dsimp := false) (maxSteps := 4000000) only [h2, rowH_len, rowH_scal, go_sem]
      refine haw.mono ?_
      rintro _ _ ⟨rfl, rfl⟩
      obtain ⟨a0, a1, a2, a3, a4, a5, a6, a7, a8, a9, a10, rfl⟩ := hff
      simp only [List.map_cons, List.map_nil] at w17 w20
      simp (dsimp := false) (maxSteps := 4000000) only [w17, w20, Option.getD_none, Option.isSome_none, rowH_len, rowH_scal, go_sem]
      exact ⟨H, fin, rfl⟩
end Go.Proofs.YtamlipffhimfmaaGreatDoor.Prt

/- part: a cell among the arguments. -/
namespace Go.Proofs.YtamlipffhimfmaaGreatDoor.Prt
set_option linter.unusedSimpArgs false
set_option linter.unusedVariables false
open Go Go.AX Go.ChangeShapes Go.WideShapes Go.ChangeAt Go.RowKit Go.Proofs.YtamlipffhimfmaaGreatDoor.File Go.Proofs.YtamlipffhimfmaaGreatDoor.Ifs
open Go.Proofs.YtamlipffhimfmaaGreatDoor.Chk (encE En)
set_option maxRecDepth 100000

theorem u8_wf {x : Int} (h : (Lit.int .u8 x).wf = true) : 0 ≤ x ∧ x ≤ 255 := by
  simp [Lit.wf, IntKind.min, IntKind.max, IntKind.signed, IntKind.bits] at h
  omega
theorem open_named {HT : Type} {ec : TypeId × Value → HT} {W : World} {sp : Nat → Bool} {held : Bool} {cs : List Value} (hl : cs.length = 3) (hc : Leafy ec Tryz.prog W 0 sp held [3, 3, 70] cs) :
    ∃ z : RF, cs = encN z ∧ (SlcIn ⟨W, []⟩ 4 z.base z.cap (z.R.map enc) ∧ ∀ r ∈ z.R, RcOk r) := by
  obtain ⟨c0, c1, c2, rfl⟩ := list3 hl
  obtain ⟨_, _, t0⟩ := hc 0 _ _ rfl rfl
  obtain ⟨a0, q0, _, w0⟩ := DataW.trod_int Tryz.underlying3 t0; cases q0
  obtain ⟨_, _, t1⟩ := hc 1 _ _ rfl rfl
  obtain ⟨a1, q1, _, w1⟩ := DataW.trod_int Tryz.underlying3 t1; cases q1
  obtain ⟨_, _, t2⟩ := hc 2 _ _ rfl rfl
  obtain ⟨b, n, cp, R, rfl, hlR, hs, hR⟩ := open_slcT (P := Tryz.prog) (sz := 4) Tryz.underlying70 (by kernel_rfl) (by simp) (show leafTs Tryz.prog 20 26 = some [5, 5, 5, 5] by kernel_rfl) rfl ⟨_, t2⟩
  obtain ⟨L, rfl, hw⟩ := rows_of (f := File.enc) (G := RcOk) (fun i r hr => by
    obtain ⟨hl, hc⟩ := hR i r hr
    obtain ⟨c0, c1, c2, c3, rfl⟩ := list4 hl
    obtain ⟨_, _, t0⟩ := hc 0 _ _ rfl rfl
    obtain ⟨a0, q0, _, w0⟩ := DataW.trod_int Tryz.underlying5 t0; cases q0
    obtain ⟨_, _, t1⟩ := hc 1 _ _ rfl rfl
    obtain ⟨a1, q1, _, w1⟩ := DataW.trod_int Tryz.underlying5 t1; cases q1
    obtain ⟨_, _, t2⟩ := hc 2 _ _ rfl rfl
    obtain ⟨a2, q2, _, w2⟩ := DataW.trod_int Tryz.underlying5 t2; cases q2
    obtain ⟨_, _, t3⟩ := hc 3 _ _ rfl rfl
    obtain ⟨a3, q3, _, w3⟩ := DataW.trod_int Tryz.underlying5 t3; cases q3
    exact ⟨⟨a0, a1, a2, a3⟩, rfl, u8_wf w0, u8_wf w1, u8_wf w2, u8_wf w3⟩)
  rw [List.length_map] at hlR; subst hlR
  exact ⟨⟨a0, a1, b, cp, L⟩, rfl, hs, hw⟩
theorem open_cell {HT : Type} {ec : TypeId × Value → HT} {W : World} {sp : Nat → Bool} {held : Bool} {cs : List Value} (hl : cs.length = 4) (hc : Leafy ec Tryz.prog W 0 sp held [22, 77, 4, 136] cs) :
    ∃ c : Ce, cs = encC c ∧ CeIn ⟨W, []⟩ c := by
  obtain ⟨c0, c1, c2, c3, rfl⟩ := list4 hl
  obtain ⟨_, _, t0⟩ := hc 0 _ _ rfl rfl
  obtain ⟨b, n, cp, R, rfl, hlR, hs, hR⟩ := open_slcT (P := Tryz.prog) (sz := 3) Tryz.underlying22 (by kernel_rfl) (by simp) (show leafTs Tryz.prog 20 74 = some [3, 3, 70] by kernel_rfl) rfl ⟨_, t0⟩
  obtain ⟨L, rfl, hw⟩ := rows_of (f := encN) (G := fun z => SlcIn ⟨W, []⟩ 4 z.base z.cap (z.R.map enc) ∧ ∀ r ∈ z.R, RcOk r) (fun i r hr => by
    obtain ⟨hl, hc⟩ := hR i r hr
    exact open_named hl hc)
  rw [List.length_map] at hlR; subst hlR
  obtain ⟨_, _, t1⟩ := hc 1 _ _ rfl rfl
  obtain ⟨b1, n1, cp1, R1, rfl, hlR1, hs1, hR1⟩ := open_slcT (P := Tryz.prog) (sz := 5) Tryz.underlying77 (by kernel_rfl) (by simp) (show leafTs Tryz.prog 20 79 = some [3, 3, 3, 3, 3] by kernel_rfl) rfl ⟨_, t1⟩
  obtain ⟨E, rfl, _⟩ := rows_of (f := encE) (G := fun _ => True) (fun i r hr => by
    obtain ⟨hl, hc⟩ := hR1 i r hr
    obtain ⟨c0, c1, c2, c3, c4, rfl⟩ := list5 hl
    obtain ⟨_, _, t0⟩ := hc 0 _ _ rfl rfl
    obtain ⟨a0, q0, _, w0⟩ := DataW.trod_int Tryz.underlying3 t0; cases q0
    obtain ⟨_, _, t1⟩ := hc 1 _ _ rfl rfl
    obtain ⟨a1, q1, _, w1⟩ := DataW.trod_int Tryz.underlying3 t1; cases q1
    obtain ⟨_, _, t2⟩ := hc 2 _ _ rfl rfl
    obtain ⟨a2, q2, _, w2⟩ := DataW.trod_int Tryz.underlying3 t2; cases q2
    obtain ⟨_, _, t3⟩ := hc 3 _ _ rfl rfl
    obtain ⟨a3, q3, _, w3⟩ := DataW.trod_int Tryz.underlying3 t3; cases q3
    obtain ⟨_, _, t4⟩ := hc 4 _ _ rfl rfl
    obtain ⟨a4, q4, _, w4⟩ := DataW.trod_int Tryz.underlying3 t4; cases q4
    exact ⟨⟨a0, a1, a2, a3, a4⟩, rfl, trivial⟩)
  rw [List.length_map] at hlR1; subst hlR1
  obtain ⟨_, _, t2⟩ := hc 2 _ _ rfl rfl
  obtain ⟨l, q2, _⟩ := DataW.trod_bool Tryz.underlying4 t2; cases q2
  exact ⟨⟨b, cp, L, b1, cp1, E, l, c3⟩, rfl, hs, hw, hs1⟩
end Go.Proofs.YtamlipffhimfmaaGreatDoor.Prt

/- For every input PartRounds answers true and leaves its arguments as_ they were; the package's one variable holds what the program's text lays into it: the tied card. -/
namespace Go.Proofs.YtamlipffhimfmaaGreatDoor.lawPartRounds
set_option linter.unusedSimpArgs false
set_option linter.unusedVariables false
open Go Go.AX Go.ChangeShapes Go.WideShapes Go.ChangeAt Go.RowKit Go.Proofs.YtamlipffhimfmaaGreatDoor.Prt

theorem own : ownKnob Tryz.prog.godebug = none := by kernel_rfl
theorem laidOut : laidOutB Tryz.prog = true := by kernel_rfl
theorem et : Tryz.prog.globalNamed "errors.errorType" = some 0 := by kernel_rfl
theorem rt : (Tryz.prog.cutTypes.find? (·.1 == "internal/reflectlite.rtype")).map (·.2) = some 197 := by kernel_rfl
theorem oneRow : ((List.range Tryz.prog.types.size).filter fun t => Tryz.prog.rowNamed t [101, 114, 114, 111, 114]) = [113] := by kernel_rfl

theorem handle_of_laid {W : World} (h : laidMetH Tryz.prog Rows.partRoundsRow.laid W) : Err.ErrT W := by
  have h' : laidMet Tryz.prog [] W ∧ handlesMet Tryz.prog Rows.partRoundsRow.laid W := h
  obtain ⟨name, u, ty, e1, e2, e3, e4, e5⟩ := h'.2 _ (List.mem_singleton.2 rfl)
  have en : name = [101, 114, 114, 111, 114] := (Option.some.inj e1).symm
  subst en
  obtain rfl := Option.some.inj (rt.symm.trans e2)
  have hm : ty ∈ (List.range Tryz.prog.types.size).filter fun t => Tryz.prog.rowNamed t [101, 114, 114, 111, 114] := List.mem_filter.2 ⟨List.mem_range.2 e3, e4⟩
  rw [oneRow] at hm
  obtain rfl := List.mem_singleton.1 hm
  have hh : typeHandle Tryz.prog 113 = .pointer (some ⟨1, 113, none⟩) := by kernel_rfl
  rw [hh] at e5
  unfold Err.ErrT
  simpa using World.var?_cell et e5 0

noncomputable def laidWorld (os : Os) : World :=
  let w0 := World.holding Tryz.prog os ⟨#[], #[], []⟩
  { w0 with heap := w0.heap.modify 0 fun
      | .cells _ t frozen => .cells #[.iface 197 (.agg #[.pointer (some ⟨1, 113, none⟩)])] t frozen
      | o => o }
theorem laidWorld_met (os : Os) (args : Array Value) : laidMetH Tryz.prog Rows.partRoundsRow.laid ((laidWorld os).forCall (fun _ _ => 0) ⟨#[], args, []⟩).memory :=
  laidMetH_of_parts (laidMet_nil _ _) (by kernel_rfl)

set_option maxRecDepth 100000 in
theorem contract (H : Type) (enc : TypeId × Value → H) (W : World) (base : Nat) (args : Array Value) (ds gs : List (DataW H)) (before : List MemPlace)
    (hval : ∀ (j : Nat) t v, Tryz.f6.params[j]? = some t → args[j]? = some v → Value.okWide Tryz.prog W .any base t v)
    (hW : DataW.Whole enc Tryz.prog Tryz.f6.params.toList Rows.partRoundsSpec.vars false W args.toList ds gs before) (hE : Err.ErrT W) :
    Calls Tryz.prog 6 args W fun e W' => ∃ v, e = .returned v ∧ Rows.partRoundsSpec.post enc Tryz.prog Tryz.f6 false true false false W args v W' := by
  have hW' := hW
  obtain ⟨p, q, hA0, hV, rfl, hfz, hnd⟩ := hW
  have hA : DataW.TrodAll enc Tryz.prog W 0 (fun _ => true) true Tryz.f6.params.toList args.toList ds p := hA0
  rw [Tryz.params6] at hA hval
  obtain ⟨v0, v1, v2, d0, d1, d2, p0, p1, p2, rfl, rfl, rfl, h0, h1, h2⟩ := trodAll_three hA
  obtain ⟨rfl, rfl⟩ := trodVars_none hV
  obtain ⟨k0, k1, k2⟩ := okw3 hval
  obtain ⟨bs0, n0, cp0, R0, rfl, hl0, hs0, hR0⟩ := open_slc (P := Tryz.prog) (sz := 4) Tryz.underlying57 (by kernel_rfl) (by simp) (show leafTs Tryz.prog 20 138 = some [22, 77, 4, 136] by kernel_rfl) rfl k0 h0
  obtain ⟨L0, rfl, hw0⟩ := rows_of (f := encC) (G := CeIn ⟨W, []⟩) (fun i r hr => by
    obtain ⟨hl, hc⟩ := hR0 i r hr
    exact open_cell hl hc)
  rw [List.length_map] at hl0; subst hl0
  obtain ⟨bs1, n1, cp1, R1, rfl, hl1, hs1, hR1⟩ := open_slc (P := Tryz.prog) (sz := 2) Tryz.underlying69 (by kernel_rfl) (by simp) (show leafTs Tryz.prog 20 68 = some [3, 3] by kernel_rfl) rfl k1 h1
  obtain ⟨L1, rfl, hw1⟩ := rows_of (f := encP) (G := fun s => True) (fun i r hr => by
    obtain ⟨hl, hc⟩ := hR1 i r hr
    obtain ⟨c0, c1, rfl⟩ := list2 hl
    obtain ⟨_, _, t0⟩ := hc 0 _ _ rfl rfl
    obtain ⟨a0, q0, _, w0⟩ := DataW.trod_int Tryz.underlying3 t0; cases q0
    obtain ⟨_, _, t1⟩ := hc 1 _ _ rfl rfl
    obtain ⟨a1, q1, _, w1⟩ := DataW.trod_int Tryz.underlying3 t1; cases q1
    exact ⟨⟨a0, a1⟩, rfl, trivial⟩)
  rw [List.length_map] at hl1; subst hl1
  obtain ⟨a2, rfl, rfl, rfl, w2⟩ := open_int Tryz.underlying3 k2 h2
  exact law_post laidOut (by kernel_rfl) rfl rfl Tryz.underlying4 hW' rfl rfl rfl
    ((PartRounds_c L0 bs0 cp0 L1 bs1 cp1 a2 _ hE hs0 hw0 hs1).mono fun v H' h => ⟨h.1, h.2 ▸ rfl⟩)

set_option maxRecDepth 100000 in
theorem lifted (os : Os) (started : os.Started) (H : Type) (enc : TypeId × Value → H) :
    ReturnsInHanded {} Tryz.checked os 6 .any (fun w args => (Rows.partRoundsSpec.pre enc Tryz.prog Tryz.f6 [] false w args ∧ laidMetH Tryz.prog Rows.partRoundsRow.laid w) ∧ sizedMet enc Tryz.prog Tryz.f6 (OpenSpec.ofChange Rows.partRoundsSpec) false w args)
      (Rows.partRoundsSpec.post enc Tryz.prog Tryz.f6 false true false false) := by
  refine returnsInHanded_of_change_and (C := Tryz.checked) (X := fun w _ => laidMetH Tryz.prog Rows.partRoundsRow.laid w) (fun _ _ _ hh h => h.of_heap hh) own started (by kernel_rfl) Tryz.func6
    (ChangeSpec.witness_at (enc := enc) (C := Tryz.checked) (os := os) (X := fun w _ => laidMetH Tryz.prog Rows.partRoundsRow.laid w) false (laidWorld os) #[.slice none 0 0, .slice none 0 0, .int .i64 0] 8 rfl (by kernel_rfl) (by kernel_rfl) (by kernel_rfl) (by kernel_rfl) (by kernel_rfl) (laidWorld_met os _)) ?_
  intro W base args ds gs before hval hW _ _ hL _
  exact contract H enc W base args ds gs before hval hW (handle_of_laid hL)

theorem row : Rows.PartRoundsSaid :=
  OpenClaim.holds_of_wide 6 Tryz.f6 rfl rfl rfl rfl rfl rfl rfl ⟨rfl, rfl, rfl, rfl, rfl⟩ rfl rfl rfl rfl rfl (by kernel_rfl) Tryz.func6 (by kernel_rfl)
    (of_decide_eq_true (by kernel_rfl)) (by unfold Func.isWrapper; rw [if_neg (of_decide_eq_false (by kernel_rfl))]; exact ⟨rfl, rfl⟩)
    (fun os started H enc _ => lifted os started H enc)

theorem proved : Rows.PartRoundsCardSaid :=
  Claim7.holds_tied_plain_at .later [] [.handle] true Rows.partRoundsCard.stood.harness true
    row (fun _ h => by cases h) (by kernel_rfl) (fun _ h => by cases h) partRounds_row_tie rfl ⟨rfl, rfl⟩ (by kernel_rfl) rfl
    (fun f fn hf hfn => by
      obtain rfl : f = 6 := Option.some.inj ((show Tryz.prog.funcNamed "hayward/haywardlaw14.PartRounds" = some 6 by kernel_rfl).symm.trans hf) |>.symm
      obtain rfl : fn = Tryz.f6 := (Option.some.inj (Tryz.func6.symm.trans hfn)).symm
      exact ⟨by kernel_rfl, fun j t ht => by
          rw [Tryz.params6] at ht
          rcases j with _ | j
          · have : t = 57 := by simpa using ht.symm
            subst this; exact (show Tryz.prog.wantsStandIn 57 = false by kernel_rfl)
          rcases j with _ | j
          · have : t = 69 := by simpa using ht.symm
            subst this; exact (show Tryz.prog.wantsStandIn 69 = false by kernel_rfl)
          rcases j with _ | j
          · have : t = 3 := by simpa using ht.symm
            subst this; exact (show Tryz.prog.wantsStandIn 3 = false by kernel_rfl)
          · simp at ht⟩)
    (by kernel_rfl)

end Go.Proofs.YtamlipffhimfmaaGreatDoor.lawPartRounds
