/- For every input BusApart answers true and leaves its arguments as_ they were; the package's one variable holds what the program's text lays into it: the tied card. -/
import Derived.Test.YtbhamhhjicehaaaGreatDoorMBusApart6
import Derived.Test.YtbhamhhjicehaaaGreatDoorRows
import Derived.Test.YtbhamhhjicehaaaGreatDoorCards
import Derived.Test.YtbhamhhjicehaaaGreatDoorTie
import Derived.ChangeSame
import Derived.ChangeVars
import Derived.JoinedOf
import Derived.RowKit
import Derived.RowKitTokens
import Derived.LaidLaws
import Derived.LaidHandle
import Derived.Stop.Joined
import Derived.SevenTiedAt
/- bus: build. -/
namespace Go.Proofs.YtbhamhhjicehaaaGreatDoor.Bus
set_option linter.unusedSimpArgs false
set_option linter.unusedVariables false
open Go Go.AX Go.Proofs Ty
open Go.Proofs.YtbhamhhjicehaaaGreatDoor.File (RcOk)
open Go.Proofs.YtbhamhhjicehaaaGreatDoor.Ifs (Srt RF RefS StAt New_c Add_c addX encN NmIn)
open Go.Proofs.YtbhamhhjicehaaaGreatDoor.Srv (RefStore_c refX add_next)
open Go.Proofs.YtbhamhhjicehaaaGreatDoor.Prt (SR RR encR encB1 Ow OQ P2 Ce CeIn encC tabC)
open Go.Proofs.YtbhamhhjicehaaaGreatDoor.Chk (Tb TabIn encT encE En)
set_option maxHeartbeats 4000000
set_option maxRecDepth 10000

abbrev Cb := Ce × Sl
structure CbIn (H : AH) (d : Cb) : Prop where
  c : CeIn H d.1
  e : d.1.st = .slice d.2.1 d.2.2.2.length d.2.2.1
  s : SlcIn H 2 d.2.1 d.2.2.1 (d.2.2.2.map Tck.enc)
def oscC (d : Cb) : Sl := (d.2.1, d.2.2.1, d.2.2.2.take 70)
structure Bd where
  b1 : Option Addr
  c1 : Nat
  S : List SR
  b2 : Option Addr
  c2 : Nat
  R : List RR
  b3 : Option Addr
  c3 : Nat
  T : List Tb
  b4 : Option Addr
  c4 : Nat
  B : List Bool
  b5 : Option Addr
  c5 : Nat
  O : List Sl
def Bd.own (w : Bd) : List OQ := [(47, w.b1, w.c1, w.S.map Prt.encS), (51, w.b2, w.c2, w.R.map encR), (58, w.b3, w.c3, w.T.map encT), (4, w.b4, w.c4, w.B.map encB1), (59, w.b5, w.c5, w.O.map encK)]
structure Bof (C : List Cb) (n : Nat) (w : Bd) : Prop where
  s : w.S.length = n
  r : w.R.length = n
  t : w.T = (C.take n).map fun d => tabC d.1
  b : w.B = (C.take n).map fun d => d.1.live
  o : w.O = (C.take n).map oscC
  x : ∀ (i : Nat) s r, w.S[i]? = some s → w.R[i]? = some r → s.X = r.Z.map RF.nf ∧ s.den = 0 ∧ r.den = 0 ∧ Srt s.X
theorem Bof.add {C : List Cb} {n : Nat} {w : Bd} (h : Bof C n w) {c : Cb} (hc : C[n]? = some c) {b br : Nat} {Z : List RF} {ft rd : Nat → Prop} (hZ : Srt (Z.map RF.nf)) (b1 b2 b3 b4 b5 : Option Addr) (c1 c2 c3 c4 c5 : Nat) :
    Bof C (n + 1) ⟨b1, c1, w.S ++ [⟨b, Z.map RF.nf, 0, ft⟩], b2, c2, w.R ++ [⟨br, Z, 0, rd⟩], b3, c3, w.T ++ [tabC c.1], b4, c4, w.B ++ [c.1.live], b5, c5, w.O ++ [oscC c]⟩ := by
  refine ⟨by simp [h.s], by simp [h.r], by simp [List.take_add_one, hc, h.t], by simp [List.take_add_one, hc, h.b], by simp [List.take_add_one, hc, h.o], fun i s r h1 h2 => ?_⟩
  dsimp only at h1 h2
  by_cases hi : i < n
  · rw [List.getElem?_append_left (by rw [h.s]; exact hi)] at h1
    rw [List.getElem?_append_left (by rw [h.r]; exact hi)] at h2
    exact h.x i s r h1 h2
  · have := Go.AX.lt_of_get h1
    simp only [List.length_append, h.s, List.length_singleton] at this
    obtain rfl : i = n := by omega
    rw [List.getElem?_append_right (by rw [h.s]; exact Nat.le_refl _), h.s, Nat.sub_self] at h1
    rw [List.getElem?_append_right (by rw [h.r]; exact Nat.le_refl _), h.r, Nat.sub_self] at h2
    cases h1; cases h2
    exact ⟨rfl, rfl, rfl, hZ⟩
theorem build_c (C : List Cb) (base : Option Addr) (cap : Nat) (H : AH) (hs : SlcIn H 4 base cap (C.map fun d => encC d.1)) (hin : ∀ c ∈ C, CbIn H c) :
    ACalls Tryz.prog 6 #[.slice base C.length cap] H (fun v H' => ∃ w : Bd, v = .tuple #[.slice w.b1 w.S.length w.c1, .slice w.b2 w.R.length w.c2, .slice w.b3 w.T.length w.c3, .slice w.b4 w.B.length w.c4, .slice w.b5 w.O.length w.c5] ∧ ∃ prot, Ow H H' w.own prot ∧ P2 H' prot w.S w.R ∧ Bof C (min C.length 6) w) := by
  have hbig := hs.big
  simp only [List.length_map] at hbig
  refine ACalls.enter2 Tryz.func6 rfl Tryz.ntmps6 Tryz.results6 (by simp) ?_; simp (dsimp := false) (maxSteps := 4000000) only [go_sem]
  refine AllB.mk fun x1 h_x1 => ?_; have hn_x1 := h_x1; (try simp only [fresh_add, fresh_set, ne_eq] at hn_x1); have hr_x1 := hn_x1; (try simp only [@eq_comm Nat x1] at hr_x1); simp (dsimp := false) (maxSteps := 4000000) only [hn_x1, hr_x1, go_sem]
  refine AllB.mk fun x2 h_x2 => ?_; have hn_x2 := h_x2; (try simp only [fresh_add, fresh_set, ne_eq] at hn_x2); have hr_x2 := hn_x2; (try simp only [@eq_comm Nat x2] at hr_x2); simp (dsimp := false) (maxSteps := 4000000) only [hn_x1, hr_x1, hn_x2, hr_x2, go_sem]
  refine AllB.mk fun x3 h_x3 => ?_; have hn_x3 := h_x3; (try simp only [fresh_add, fresh_set, ne_eq] at hn_x3); have hr_x3 := hn_x3; (try simp only [@eq_comm Nat x3] at hr_x3); simp (dsimp := false) (maxSteps := 4000000) only [hn_x1, hr_x1, hn_x2, hr_x2, hn_x3, hr_x3, go_sem]
  refine AllB.mk fun x4 h_x4 => ?_; have hn_x4 := h_x4; (try simp only [fresh_add, fresh_set, ne_eq] at hn_x4); have hr_x4 := hn_x4; (try simp only [@eq_comm Nat x4] at hr_x4); simp (dsimp := false) (maxSteps := 4000000) only [hn_x1, hr_x1, hn_x2, hr_x2, hn_x3, hr_x3, hn_x4, hr_x4, go_sem]
  refine AllB.mk fun x5 h_x5 => ?_; have hn_x5 := h_x5; (try simp only [fresh_add, fresh_set, ne_eq] at hn_x5); have hr_x5 := hn_x5; (try simp only [@eq_comm Nat x5] at hr_x5); simp (dsimp := false) (maxSteps := 4000000) only [hn_x1, hr_x1, hn_x2, hr_x2, hn_x3, hr_x3, hn_x4, hr_x4, hn_x5, hr_x5, go_sem]
  have hO0 : Ow H (((((H.add x1 (.cells [] 47 0)).add x2 (.cells [] 51 0)).add x3 (.cells [] 58 0)).add x4 (.cells [] 4 0)).add x5 (.cells [] 59 0)) (Bd.own ⟨some ⟨x1, 0, none⟩, 0, [], some ⟨x2, 0, none⟩, 0, [], some ⟨x3, 0, none⟩, 0, [], some ⟨x4, 0, none⟩, 0, [], some ⟨x5, 0, none⟩, 0, []⟩) (fun _ => False) :=
    (((((Ow.nil H).snoc h_x1 _).snoc h_x2 _).snoc h_x3 _).snoc h_x4 _).snoc h_x5 _
  refine AWp.loopr (ι := Nat × Bd) (fun s A => s.1 ≤ C.length ∧ s.1 ≤ 6 ∧ ∃ prot, Ow H A s.2.own prot ∧ P2 A prot s.2.S s.2.R ∧ Bof C s.1 s.2)
    (fun s => [(12, .int .i64 s.1), (7, .slice s.2.b1 s.2.S.length s.2.c1), (8, .slice s.2.b2 s.2.R.length s.2.c2), (9, .slice s.2.b3 s.2.T.length s.2.c3), (10, .slice s.2.b4 s.2.B.length s.2.c4), (11, .slice s.2.b5 s.2.O.length s.2.c5), (0, .slice base C.length cap)]) (fun s => 6 - s.1) (0, _) _
    ⟨by simp, by simp, _, hO0, ⟨by simp, by simp⟩, ⟨rfl, rfl, rfl, rfl, rfl, by simp⟩⟩ (FrLe.of_lks ?_) (AH.le_refl _) fun s A0 hV Q again out => ?_
  · simp (dsimp := false) (maxSteps := 4000000) only [hn_x1, hr_x1, hn_x2, hr_x2, hn_x3, hr_x3, hn_x4, hr_x4, hn_x5, hr_x5, go_sem]
  clear hO0 h_x1 h_x2 h_x3 h_x4 h_x5 hn_x1 hn_x2 hn_x3 hn_x4 hn_x5 hr_x1 hr_x2 hr_x3 hr_x4 hr_x5
  
  obtain ⟨i, w⟩ := s
  obtain ⟨hi, hi8, prot, hO, hP, hB⟩ := hV
  dsimp only at hi hi8 hO hP hB again ⊢
  by_cases hlt : (i : Int) < C.length ∧ (i : Int) < 6
  case neg =>
    have hm : i = min C.length 6 := by omega
    by_cases h1 : (i : Int) < C.length
    · have h2 : ¬ (i : Int) < 6 := fun h => hlt ⟨h1, h⟩
      simp (dsimp := false) (maxSteps := 4000000) only [h1, h2, go_sem]
      refine out _ _ _ (by simp) ?_
      simp (dsimp := false) (maxSteps := 4000000) only [go_sem]
      exact ⟨A0, AH.le_refl _, w, rfl, prot, hO, hP, hm ▸ hB⟩
    · simp (dsimp := false) (maxSteps := 4000000) only [h1, go_sem]
      refine out _ _ _ (by simp) ?_
      simp (dsimp := false) (maxSteps := 4000000) only [go_sem]
      exact ⟨A0, AH.le_refl _, w, rfl, prot, hO, hP, hm ▸ hB⟩
  obtain ⟨c, hc⟩ := get_some (l := C) (i := i) (by omega)
  have hcin5 := hin c (List.mem_of_getElem? hc)
  obtain ⟨c, xb, xc, xK⟩ := c
  have hcin := hcin5.c
  have hxs := hcin5.s
  have hst3 := hcin5.e
  dsimp only at hcin hxs hst3
  obtain ⟨q, o, rfl, _, hr⟩ := hs.get (Go.AX.map_get (f := fun d : Cb => encC d.1) hc)
  have r0 := hr 0 _ rfl
  have r1 := hr 1 _ rfl
  have r2 := hr 2 _ rfl
  have r3 := hr 3 _ rfl
  simp only [Nat.add_zero] at r0 r1 r2 r3
  rw [hst3] at r3
  have ee := i64_succ (i := i) (by omega)
  have hi0 : (0 : Int) ≤ (i : Int) := by omega
  have hle : H.le A0 := hO.kp.all
  simp (dsimp := false) (maxSteps := 4000000) only [hlt.1, hlt.2, go_sem]
  refine AWp.gen [.ch, .pu, .pu, .pu, .pu, .rd, .ch, .pu, .pu] [0, 0, 0, 6, 14, 30, 63, 127, 255] 1 (H) mixed (by kernel_rfl) (hle) ?_
  simp (dsimp := false) (maxSteps := 4000000) only [hlt.1, hi0, hle, go_sem]
  refine (New_c A0).mono ?_
  rintro _ A1 ⟨b, ft0, rfl, hs0, hK0, hf0⟩
  have hle1 : H.le A1 := (hO.kp.trans hK0).all
  simp (dsimp := false) (maxSteps := 4000000) only [hlt.1, hi0, hle1, r0, go_sem]
  have hHA1 := hO.kp.trans hK0
  refine (RefStore_c c.L c.fb c.fc _ (hcin.f.keep hHA1 fun _ _ h => h) fun z h => ⟨(hcin.r z h).1.keep hHA1 fun _ _ h => h, (hcin.r z h).2⟩).mono ?_
  rintro _ A2 ⟨br, Z, rd, rfl, hZ, hS, hok, hso, hfr, hK1, hrd⟩
  have hle2 : H.le A2 := (hHA1.trans hK1).all
  simp (dsimp := false) (maxSteps := 4000000) only [hle2, go_sem]
  have hst0 := hs0.keep hK1 fun _ _ h => h
  have hK01 := hK0.trans hK1
  have hZl : Z.length ≤ 64 := by have := hok.len; simpa using this
  have hd : ∀ x, rd x → ¬ ft0 x := fun x hx hf => by
    rcases hrd x hx with h | ⟨z, hz1, hR, a, ha, e⟩
    · exact hs0.fresh h hf
    · have := hf0 x hf
      exact ((hcin.r z hz1).1.apart (hO.kp.fr this)).elim (fun h => hR (List.map_eq_nil_iff.1 h)) fun h => h a ha e.symm
  have hdb : ¬ ft0 br := hs0.fresh hfr
  have hfr0 : Fresh A0 br := hK0.fr hfr
  have hrd0 : ∀ x, rd x → Fresh A0 x ∨ ¬ Fresh H x := fun x hx => by
    rcases hrd x hx with h | ⟨z, hz1, hR, a, ha, e⟩
    · exact .inl (hK0.fr h)
    · refine .inr fun hf => ?_
      exact ((hcin.r z hz1).1.apart hf).elim (fun h => hR (List.map_eq_nil_iff.1 h)) fun h => h a ha e.symm
  refine AWp.loopr (ι := Nat × (Nat → Prop)) (fun s A => s.1 ≤ Z.length ∧ StAt A b ((Z.take s.1).map RF.nf) 0 s.2 ∧ RefS A br Z 0 rd ∧ (Keep A0 A fun _ => False) ∧ (∀ x, s.2 x → Fresh A0 x) ∧ (∀ x, rd x → ¬ s.2 x) ∧ ¬ s.2 br)
    (fun s => [(15, .int .i64 s.1), (13, .pointer (some ⟨b, 0, none⟩)), (14, .pointer (some ⟨br, 0, none⟩)), (12, .int .i64 i), (7, .slice w.b1 w.S.length w.c1), (8, .slice w.b2 w.R.length w.c2), (9, .slice w.b3 w.T.length w.c3), (10, .slice w.b4 w.B.length w.c4), (11, .slice w.b5 w.O.length w.c5), (0, .slice (some ⟨q, o, none⟩) C.length cap)]) (fun s => Z.length - s.1) (0, ft0) A2
    ⟨by simp, hst0, hS, hK01, hf0, hd, hdb⟩ (FrLe.of_lks ?_) (AH.le_refl _) fun s A hV Q2 again2 out2 => ?_
  · simp (dsimp := false) (maxSteps := 4000000) only [go_sem]
  clear hst0 hS hK01 hf0 hd hdb hs0 hK0 hK1 hrd hfr hle1 hle2 hHA1
  obtain ⟨j, ft⟩ := s
  obtain ⟨hj, hst, hS, hK, hf, hd, hdb⟩ := hV
  dsimp only at hj hst hS hK hf hd hdb again2 ⊢
  obtain ⟨zb, zc, hbr, hN, _, _, hkn⟩ := id hS
  have s0 : A.rd ⟨br, 0, none⟩ = some (.slice zb Z.length zc) := by rw [rd_find hbr]; rfl
  by_cases hlj : (j : Int) < Z.length
  · obtain ⟨z, hzi⟩ := get_some (l := Z) (i := j) (by omega)
    obtain ⟨q2, o2, rfl, _, hr2⟩ := hN.out.get (Go.AX.map_get (f := encN) hzi)
    have rz := hr2 0 _ rfl
    simp only [Nat.add_zero] at rz
    have hx1 : A.row q2 (o2 + j * 3 + 1) 2 = some [.int .i64 z.p, .slice z.base z.R.length z.cap] := row_of_rd rfl (by decide) fun k c hk => by
      rw [Nat.add_assoc _ 1 k, Nat.add_comm 1 k]
      exact hr2 (k + 1) c hk
    have ej := i64_succ (i := j) (by omega)
    have hj0 : (0 : Int) ≤ (j : Int) := by omega
    have hadd := add_next hok hzi
    simp (dsimp := false) (maxSteps := 4000000) only [s0, hlj, go_sem]
    refine AWp.gen [.pu, .pu, .pu, .pu, .rd, .pu, .pu, .pu, .rd, .pu, .pu, .pu, .rd, .pu, .pu, .pu, .rd, .ch] [0, 0, 2, 6, 14, 0, 62, 126, 254, 0, 512, 1536, 3584, 0, 15872, 32256, 65024, 131071] 0 (_) mixed (by kernel_rfl) (AH.le_refl _) ?_
    simp (dsimp := false) (maxSteps := 4000000) only [s0, hlj, hj0, rz, hx1, go_sem]
    refine (Add_c hst z.n z.p z.R z.base z.cap (hN.inn z (List.mem_of_getElem? hzi))).mono ?_
    rintro _ B ⟨ft', rfl, hstB, hKB, hfB⟩
    have hX' : addX ((Z.take j).map RF.nf) z.n (z.p, z.R) = (Z.take (j + 1)).map RF.nf := by
      rw [addX, if_pos hadd, List.take_add_one, hzi, List.map_append]; rfl
    rw [hX'] at hstB
    simp (dsimp := false) (maxSteps := 4000000) only [ej, go_sem]
    exact again2 (j + 1, ft') _ B _ ⟨by dsimp only; omega, hstB, hS.keep hKB hd hdb, hK.ow hKB hf, fun x hx => (hfB x hx).elim (hf x) fun h => hK.fr h, fun x hx hx' => (hfB x hx').elim (hd x hx) fun h => hkn x hx h, fun hx => (hfB _ hx).elim hdb fun h => h.ne_find hbr rfl⟩ (FrLe.of_lks (by simp (dsimp := false) (maxSteps := 4000000) only [go_sem])) (AH.le_refl _) (by dsimp only; omega)
  obtain rfl : j = Z.length := by omega
  rw [List.take_length] at hst
  simp (dsimp := false) (maxSteps := 4000000) only [s0, hlj, go_sem]
  refine out2 _ _ _ (by simp) ?_
  clear again2 out2
  
  have hOA := hO.more (new := fun x => ft x ∨ x = br ∨ rd x) hK fun x hx => by
    rcases hx with hx | rfl | hx
    · exact ⟨.inl (hf x hx), fun h => hst.fresh h hx⟩
    · exact ⟨.inl hfr0, fun h => h.ne_find hbr rfl⟩
    · exact ⟨hrd0 x hx, hkn x hx⟩
  have hPA := (hP.keep hK fun _ _ h => h).more (new := fun x => ft x ∨ x = br ∨ rd x) (s := ⟨b, Z.map RF.nf, 0, ft⟩) (r := ⟨br, Z, 0, rd⟩) ⟨⟨hst, hok⟩, fun x hx => .inl hx⟩ ⟨⟨hS, hok⟩, fun x hx => .inr hx⟩
  have hBA := fun b1 b2 b3 b4 b5 c1 c2 c3 c4 c5 => hB.add hc (b := b) (br := br) (ft := ft) (rd := rd) hso b1 b2 b3 b4 b5 c1 c2 c3 c4 c5
  have hKHA := hOA.kp
  have hw1 := hB.s
  have hw2 := hB.r
  have hw3 : w.T.length = i := by rw [hB.t, List.length_map, List.length_take]; omega
  have hw4 : w.B.length = i := by rw [hB.b, List.length_map, List.length_take]; omega
  have hw5 : w.O.length = i := by rw [hB.o, List.length_map, List.length_take]; omega
  have hle := hKHA.all
  obtain ⟨_, _, e, _, ha⟩ := (hs.keep hKHA fun _ _ h => h).get (Go.AX.map_get (f := fun d : Cb => encC d.1) hc); cases e
  have ha1 := ha 1 _ rfl
  dsimp only at ha1
  generalize (fun x => prot x ∨ (fun x => ft x ∨ x = br ∨ rd x) x) = prot2 at hOA hPA
  clear hO hP hB hst hS hN hkn hd hdb hf hfr0 hrd0 hbr s0 hK ha
  refine AWp.gen [.pu, .pu, .pu, .pu, .rd, .pu, .pu, .pu, .pu, .rd, .pu, .pu] [0, 0, 3, 7, 15, 0, 0, 96, 224, 480, 31, 2047] 0 (H) mixed (by kernel_rfl) (hle) ?_
  simp (dsimp := false) (maxSteps := 4000000) only [hlt.1, hi0, r1, r3, go_sem]
  by_cases h70 : (70 : Int) < c.E.length
  case' pos =>
    obtain ⟨r, hr5⟩ := get_some (l := c.E) (i := 0) (by omega)
    obtain ⟨qt, ot, et, _, _⟩ := hcin.t.get (Go.AX.map_get (f := encE) hr5)
    have hle5 := hcin.t.le
    simp only [List.length_map] at hle5
    have h1 : (70 : Int) ≤ c.tc := by omega
    have h3 : [Value.slice (some ⟨qt, ot, none⟩) 70 c.tc] = encT (tabC c) := by
      have : (c.E.take 70).length = 70 := by rw [List.length_take]; omega
      simp [encT, tabC, this, et]
    simp (dsimp := false) (maxSteps := 4000000) only [h70, h1, et, ite_self, Nat.sub_zero, go_sem]
  case' neg =>
    have h3 : [Value.slice c.tb c.E.length c.tc] = encT (tabC c) := by
      have : (c.E.take 70).length = c.E.length := by rw [List.length_take]; omega
      simp [encT, tabC, this]
    simp (dsimp := false) (maxSteps := 4000000) only [h70, go_sem]
  all_goals
    by_cases h71 : (70 : Int) < xK.length
    case' pos =>
      obtain ⟨r, hr6⟩ := get_some (l := xK) (i := 0) (by omega)
      obtain ⟨qu, ou, eu, _, _⟩ := hxs.get (Go.AX.map_get (f := Tck.enc) hr6)
      have hle6 := hxs.le
      simp only [List.length_map] at hle6
      have h2 : (70 : Int) ≤ xc := by omega
      have h4 : [Value.slice (some ⟨qu, ou, none⟩) 70 xc] = encK (oscC (c, xb, xc, xK)) := by
        have : (xK.take 70).length = 70 := by rw [List.length_take]; omega
        simp [encK, oscC, this, eu]
      simp (dsimp := false) (maxSteps := 4000000) only [h71, h2, eu, ite_self, Nat.sub_zero, go_sem]
    case' neg =>
      have h4 : [Value.slice xb xK.length xc] = encK (oscC (c, xb, xc, xK)) := by
        have : (xK.take 70).length = xK.length := by rw [List.length_take]; omega
        simp [encK, oscC, this]
      simp (dsimp := false) (maxSteps := 4000000) only [h71, go_sem]
    all_goals
      refine AWp.gen [.pu, .pu, .al, .ch, .pu, .pu, .al, .ch, .pu, .pu, .al, .ch, .pu, .pu, .pu, .pu, .pu, .rd, .al, .ch, .pu, .pu, .al, .ch, .pu, .pu, .pu, .pu, .pu] [0, 0, 2, 7, 0, 0, 32, 127, 0, 0, 512, 2047, 0, 0, 0, 24576, 57344, 122880, 253952, 524287, 0, 0, 2097152, 8388607, 16777215, 33554431, 67108863, 134217727, 268435455] 12 (H) mixed (by kernel_rfl) (hle) ?_
      simp (dsimp := false) (maxSteps := 4000000) only [hle, hi0, hlt.1, r2, go_sem]
      refine AllB.mk fun y1 hy1 => ?_
      have hl1 : H.le (A.add y1 (.cells [.pointer (some ⟨b, 0, none⟩)] 47 1)) := (hKHA.nw hy1).all
      simp (dsimp := false) (maxSteps := 4000000) only [hl1, go_sem]
      refine hOA.push (k := 0) rfl rfl se_25 rfl (by decide) (by rw [Tryz.underlying25]; rfl) (by simp) (by omega) hy1 fun d1 e1 B1 hO1 hk1 hp1 => ?_
      have hl2 : H.le B1 := hO1.kp.all
      simp (dsimp := false) (maxSteps := 4000000) only [hl2, go_sem]
      refine AllB.mk fun y2 hy2 => ?_
      have hl3 : H.le (B1.add y2 (.cells [.pointer (some ⟨br, 0, none⟩)] 51 1)) := (hO1.kp.nw hy2).all
      simp (dsimp := false) (maxSteps := 4000000) only [hl3, go_sem]
      refine hO1.push (k := 1) rfl rfl se_26 rfl (by decide) (by rw [Tryz.underlying26]; rfl) (by simp) (by omega) hy2 fun d2 e2 B2 hO2 hk2 hp2 => ?_
      have hl4 : H.le B2 := hO2.kp.all
      simp (dsimp := false) (maxSteps := 4000000) only [hl4, go_sem]
      refine AllB.mk fun y3 hy3 => ?_
      have hl5 := fun cs e n => (hO2.kp.nw (k := .cells cs e n) hy3).all
      simp (dsimp := false) (maxSteps := 4000000) only [hl5, go_sem]
      refine hO2.push (k := 2) rfl rfl se_27 rfl (by decide) (by rw [Tryz.underlying27]; rfl) (by simp) (by omega) hy3 fun d3 e3 B3 hO3 hk3 hp3 => ?_
      rw [h3] at hO3
      have hl6 : H.le B3 := hO3.kp.all
      simp (dsimp := false) (maxSteps := 4000000) only [hl6, hi0, hlt.1, r2, go_sem]
      refine AllB.mk fun y4 hy4 => ?_
      have hl7 := fun cs e n => (hO3.kp.nw (k := .cells cs e n) hy4).all
      simp (dsimp := false) (maxSteps := 4000000) only [hl7, go_sem]
      refine hO3.push (k := 3) rfl rfl se_28 rfl (by decide) (by rw [Tryz.underlying28]; rfl) (by simp) (by omega) hy4 fun d4 e4 B4 hO4 hk4 hp4 => ?_
      have hl8 : H.le B4 := hO4.kp.all
      simp (dsimp := false) (maxSteps := 4000000) only [hl8, go_sem]
      refine AllB.mk fun y5 hy5 => ?_
      have hl9 := fun cs e n => (hO4.kp.nw (k := .cells cs e n) hy5).all
      simp (dsimp := false) (maxSteps := 4000000) only [hl9, go_sem]
      refine hO4.push (k := 4) rfl rfl se_29 rfl (by decide) (by rw [Tryz.underlying29]; rfl) (by simp) (by omega) hy5 fun d5 e5 B5 hO5 hk5 hp5 => ?_
      rw [h4] at hO5
      have hl10 : H.le B5 := hO5.kp.all
      simp (dsimp := false) (maxSteps := 4000000) only [hl10, ee, go_sem]
      have hP5 := ((((hPA.keep hk1 hp1).keep hk2 hp2).keep hk3 hp3).keep hk4 hp4).keep hk5 hp5
      refine again (i + 1, ⟨d1, e1, _, d2, e2, _, d3, e3, _, d4, e4, _, d5, e5, _⟩) _ B5 _ ⟨by dsimp only; omega, by dsimp only; omega, prot2, ?_, hP5, hBA d1 d2 d3 d4 d5 e1 e2 e3 e4 e5⟩ (FrLe.of_lks (by simp (dsimp := false) (maxSteps := 4000000) only [List.length_append, List.length_singleton, go_sem])) (AH.le_refl _) (by dsimp only; omega)
      simp only [Bd.own, List.map_append, List.map_cons, List.map_nil]
      exact hO5
end Go.Proofs.YtbhamhhjicehaaaGreatDoor.Bus

/- bus: a cell with its oscillator among the arguments. -/
namespace Go.Proofs.YtbhamhhjicehaaaGreatDoor.Bus
set_option linter.unusedSimpArgs false
set_option linter.unusedVariables false
open Go Go.AX Go.ChangeShapes Go.WideShapes Go.ChangeAt Go.RowKit
open Go.Proofs.YtbhamhhjicehaaaGreatDoor.Prt (open_cell encC)
set_option maxRecDepth 100000

theorem open_cb {HT : Type} {ec : TypeId × Value → HT} {W : World} {sp : Nat → Bool} {held : Bool} {cs : List Value} (hl : cs.length = 4) (hc : Leafy ec Tryz.prog W 0 sp held [46, 58, 4, 59] cs) :
    ∃ d : Cb, cs = encC d.1 ∧ CbIn ⟨W, []⟩ d := by
  obtain ⟨c, he, hci⟩ := open_cell hl hc
  obtain ⟨c0, c1, c2, c3, rfl⟩ := list4 hl
  have e3 : c3 = c.st := by simp only [encC, List.cons.injEq] at he; exact he.2.2.2.1
  obtain ⟨_, _, t3⟩ := hc 3 _ _ rfl rfl
  obtain ⟨b, n, cp, R, rfl, hlR, hs, hR⟩ := open_slcT (P := Tryz.prog) (sz := 2) Tryz.underlying59 (by kernel_rfl) (by simp) (show leafTs Tryz.prog 20 81 = some [3, 3] by kernel_rfl) rfl ⟨_, t3⟩
  obtain ⟨K, rfl, _⟩ := rows_of (f := Tck.enc) (G := fun _ => True) (fun i r hr => by
    obtain ⟨hl, hc⟩ := hR i r hr
    obtain ⟨c0, c1, rfl⟩ := list2 hl
    obtain ⟨_, _, t0⟩ := hc 0 _ _ rfl rfl
    obtain ⟨a0, q0, _, w0⟩ := DataW.trod_int Tryz.underlying3 t0; cases q0
    obtain ⟨_, _, t1⟩ := hc 1 _ _ rfl rfl
    obtain ⟨a1, q1, _, w1⟩ := DataW.trod_int Tryz.underlying3 t1; cases q1
    exact ⟨⟨a0, a1⟩, rfl, trivial⟩)
  rw [List.length_map] at hlR; subst hlR
  exact ⟨(c, b, cp, K), he, hci, e3.symm, hs⟩
end Go.Proofs.YtbhamhhjicehaaaGreatDoor.Bus

/- bus: the fixed fact. -/
namespace Go.Proofs.YtbhamhhjicehaaaGreatDoor.Bus
set_option linter.unusedSimpArgs false
set_option linter.unusedVariables false
open Go Go.AX Go.Proofs Ty Go.Proofs.YtbhamhhjicehaaaGreatDoor.Wire Go.Proofs.YtbhamhhjicehaaaGreatDoor.Clm Go.Proofs.YtbhamhhjicehaaaGreatDoor.Err
open Go.Proofs.YtbhamhhjicehaaaGreatDoor.Srt (Sp)
open Go.Proofs.YtbhamhhjicehaaaGreatDoor.Tck (Stp good)
open Go.Proofs.YtbhamhhjicehaaaGreatDoor.File (enc enc_len enc_scal newR hd RcOk RefNew_c okNew fv)
open Go.Proofs.YtbhamhhjicehaaaGreatDoor.Ifs (Nf Fl StAt OkX New_c Add_c addX addE getW getV Get_c Keep.set take_enc lput_enc)
open Go.Proofs.YtbhamhhjicehaaaGreatDoor.Prt (SR StsIn encS encB1 encC outP rndE Ow P2 hdP slcF rowS getW_p)
open Go.Proofs.YtbhamhhjicehaaaGreatDoor.Chk (Tb TabIn encT encE En tabs sndO snd)
set_option maxHeartbeats 4000000
set_option maxRecDepth 10000

theorem few_c (P : List Prt.Sp) (base : Option Addr) (cap : Nat) (H : AH) (hP : SlcIn H 2 base cap (P.map Prt.encP)) :
    ACalls Tryz.prog 10 #[.slice base P.length cap] H (fun v H' => v = .slice base (P.take 20).length cap ∧ H = H') := by
  have hbig := hP.big
  have hle := hP.le
  simp only [List.length_map] at hbig hle
  refine ACalls.enter2 Tryz.func10 rfl Tryz.ntmps10 Tryz.results10 (by simp) ?_; simp (dsimp := false) (maxSteps := 4000000) only [go_sem]
  by_cases h : (20 : Int) < P.length
  · have h1 : (20 : Int) ≤ cap := by omega
    have h3 : (P.take 20).length = 20 := by rw [List.length_take]; omega
    obtain ⟨p, hp⟩ := get_some (l := P) (i := 0) (by omega)
    obtain ⟨q, o, rfl, _, _⟩ := hP.get (Go.AX.map_get (f := Prt.encP) hp)
    simp (dsimp := false) (maxSteps := 4000000) only [h, h1, ite_self, Nat.sub_zero, go_sem]
    exact ⟨H, (AH.le_refl _), (by first | exact ⟨by rw [h3], rfl⟩ | rfl)⟩
  · have h3 : (P.take 20).length = P.length := by rw [List.length_take]; omega
    simp (dsimp := false) (maxSteps := 4000000) only [h, go_sem]
    exact ⟨H, (AH.le_refl _), (by first | exact ⟨by rw [h3], rfl⟩ | rfl)⟩
theorem sp_in20 {H : AH} {P : List Prt.Sp} {base : Option Addr} {cap : Nat} (hP : SlcIn H 2 base cap (P.map Prt.encP)) : SlcIn H 2 base cap ((P.take 20).map Prt.encP) := by
  rw [List.map_take]; exact hP.take
theorem net_of {C : List Cb} {w : Bd} {H A : AH} {prot : Nat → Prop} {Q : List Prt.Sp} {bp : Option Addr} {cp : Nat} (hin : ∀ c ∈ C, CbIn H c) (hO : Ow H A w.own prot) (hP : P2 A prot w.S w.R) (hb : Bof C (min C.length 6) w) (hQ : SlcIn A 2 bp cp (Q.map Prt.encP)) :
    NetIn A ⟨w.b1, w.c1, w.b3, w.c3, w.b4, w.c4, bp, cp, w.b5, w.c5⟩ w.S w.T w.B Q w.O where
  s := ⟨(hO.ow 0 _ rfl).slc, fun s h => (hP.1 s h).1⟩
  t := ⟨(hO.ow 2 _ rfl).slc, fun x hx => by
    rw [hb.t] at hx
    obtain ⟨c, hc, rfl⟩ := List.mem_map.1 hx
    have h := ((hin c (List.mem_of_mem_take hc)).c.t.keep hO.kp fun _ _ h => h).take (n := 70)
    rw [← List.map_take] at h
    exact h⟩
  b := (hO.ow 3 _ rfl).slc
  p := hQ
  o := ⟨(hO.ow 4 _ rfl).slc, fun x hx => by
    rw [hb.o] at hx
    obtain ⟨c, hc, rfl⟩ := List.mem_map.1 hx
    have h := ((hin c (List.mem_of_mem_take hc)).s.keep hO.kp fun _ _ h => h).take (n := 70)
    rw [← List.map_take] at h
    exact h⟩
  l1 := by rw [hb.t, hb.s, List.length_map, List.length_take]; omega
  l2 := by rw [hb.b, hb.s, List.length_map, List.length_take]; omega
  l4 := by rw [hb.s]; omega
theorem entry_c (k s x : Int) (H : AH) : ACalls Tryz.prog 30 #[.int .i64 k, .int .i64 s, .int .i64 x] H (fun v H' => v = .agg #[.int .i64 k, .int .i64 s, .int .i64 1, .int .i64 1, .int .i64 x] ∧ H = H') := by
  refine ACalls.enter2 Tryz.func30 rfl Tryz.ntmps30 Tryz.results30 (by simp) ?_; simp (dsimp := false) (maxSteps := 4000000) only [go_sem]
  refine AllB.mk fun b4 h_b4 => ?_; have hn_b4 := h_b4; (try simp only [fresh_add, fresh_set, ne_eq] at hn_b4); have hr_b4 := hn_b4; (try simp only [@eq_comm Nat b4] at hr_b4); simp (dsimp := false) (maxSteps := 4000000) only [hn_b4, hr_b4, go_sem]
  exact ⟨H, (AH.le_add (AH.le_refl _) ((by simp only [fresh_add, fresh_set, ne_eq, hn_b4, not_false_eq_true, and_self] : Fresh _ b4).2)), (by first | exact ⟨rfl, rfl⟩ | rfl)⟩
def Fa : Fl := (3, (newR 3 1).set 1 (255, 8, 0, 0))
def Xa : List Nf := addX [] 1 Fa
theorem okXa : OkX Xa := OkX.nil.add 1 Fa (by unfold RcOk; decide +kernel)
def La : List Chk.En := [(1, 1, 1, 1, 0)]
def Lb : List Chk.En := [(2, 1, 1, 1, 3)]
def Tw (a b : Option Addr) : List Tb := [(a, 1, La), (b, 1, Lb)]
def Oa (a b : Option Addr) : List Sl := [(a, 1, [⟨0, 2000⟩]), (b, 1, [⟨0, -2000⟩])]
def On : List Sl := [(none, 0, []), (none, 0, [])]
theorem rnd_a (a b c d : Option Addr) : rndB 2 (Tw a b) (Oa c d) = 0 := by kernel_rfl
theorem rnd_n (a b : Option Addr) : rndB 2 (Tw a b) On = 0 := by kernel_rfl
theorem rnd_0 (a b : Option Addr) : rndB 2 (Tw a b) [] = 1 := by kernel_rfl
theorem get_w (a b : Option Addr) : getW (outP (hdP [Xa, Xa] (Tw a b) [true, true] []) Xa 0 (b, 1, Lb) true).1 1 1 = some (255, 8, 0, 255) := by kernel_rfl
def Ra : List Sp := [(224, 240), (368, 384)]
theorem sp_one (a b : Option Addr) : (netOf [Xa, Xa] (Tw a b) [true, true] [] On).sp 1 = Ra := by kernel_rfl
theorem sp_no (a b : Option Addr) {slot : Int} (h : slot ≠ 1) : (netOf [Xa, Xa] (Tw a b) [true, true] [] On).sp slot = [] := by
  have hs : sndO slot 0 (Tw a b) = none := by
    simp [Tw, La, Lb, sndO, snd, Ne.symm h]
  unfold Net.sp Net.fr netOf Prt.frameP
  simp only [hs]
  rfl
theorem line_is {R : List Sp} {a b : Option Addr} (hp : Plain R) (h : ∀ t, low R t ↔ (netOf [Xa, Xa] (Tw a b) [true, true] [] On).lowA t) : R = Ra := by
  refine plain_uniq hp ⟨by decide, by decide⟩ fun t => (h t).trans ?_
  constructor
  · rintro ⟨s, _, h2⟩
    by_cases e : s = 1
    · subst e; rw [sp_one] at h2; exact h2
    · rw [sp_no a b e] at h2; obtain ⟨_, hs, _⟩ := h2; cases hs
  · exact fun h2 => ⟨1, by decide, by rw [sp_one]; exact h2⟩
theorem sts2 {H0 A : AH} {y ba bb : Nat} {fa fb : Nat → Prop} (hf : Fresh H0 y) (g : A.find y = some (.cells [.pointer (some ⟨ba, 0, none⟩), .pointer (some ⟨bb, 0, none⟩)] 47 2)) (ha : StAt A ba Xa 0 fa) (hb : StAt A bb Xa 0 fb) : StsIn A (some ⟨y, 0, none⟩) 2 [⟨ba, Xa, 0, fa⟩, ⟨bb, Xa, 0, fb⟩] := by
  refine ⟨slcF (e := 47) (bs := 2) hf g rfl (rowS _) (by decide) (by simp), fun s hs => ?_⟩
  rcases List.mem_cons.1 hs with rfl | hs
  · exact ⟨ha, okXa⟩
  · obtain rfl := List.mem_singleton.1 hs
    exact ⟨hb, okXa⟩
theorem live2 {H0 A : AH} {y : Nat} (hf : Fresh H0 y) (g : A.find y = some (.cells [.bool true, .bool true] 4 2)) : SlcIn A 1 (some ⟨y, 0, none⟩) 2 ([true, true].map encB1) := slcF (e := 4) (bs := 2) hf g rfl (by simp [encB1]) (by decide) (by simp)
theorem okA (a b c d : Option Addr) : (netOf [Xa, Xa] (Tw a b) [true, true] [] (Oa c d)).Ok := ⟨fun L hL => by
  have : L = [⟨0, 2000⟩] ∨ L = [⟨0, -2000⟩] := by simpa [netOf, Oa] using hL
  rcases this with rfl | rfl
  · exact ⟨by decide, fun s hs => by obtain rfl := List.mem_singleton.1 hs; decide⟩
  · exact ⟨by decide, fun s hs => by obtain rfl := List.mem_singleton.1 hs; decide⟩⟩
theorem awake_c (H : AH) (hE : ErrT H.w0) : ACalls Tryz.prog 8 #[] H (fun v H' => v = .bool true ∧ H = H') := by
  refine ACalls.enter2 Tryz.func8 rfl Tryz.ntmps8 Tryz.results8 (by simp) ?_; simp (dsimp := false) (maxSteps := 4000000) only [enc_len, enc_scal, lput_enc, take_enc, go_sem]
  refine (New_c H).mono ?_
  rintro _ A0 ⟨ba, fta, rfl, hsa, hK0, hf0⟩
  simp (dsimp := false) (maxSteps := 4000000) only [enc_len, enc_scal, lput_enc, take_enc, go_sem]
  refine (New_c A0).mono ?_
  rintro _ A1 ⟨bb, ftb, rfl, hsb, hK1, hf1⟩
  simp (dsimp := false) (maxSteps := 4000000) only [enc_len, enc_scal, lput_enc, take_enc, go_sem]
  refine (RefNew_c 3 1 (by unfold okNew; decide) _).mono ?_
  rintro _ A2 ⟨fb, fc, rfl, hO2, hK2⟩
  unfold fv
  simp (dsimp := false) (maxSteps := 4000000) only [enc_len, enc_scal, lput_enc, take_enc, go_sem]
  refine AllB.mk fun b3 h_b3 => ?_; have hn_b3 := h_b3; (try simp only [fresh_add, fresh_set, ne_eq] at hn_b3); have hr_b3 := hn_b3; (try simp only [@eq_comm Nat b3] at hr_b3); simp (dsimp := false) (maxSteps := 4000000) only [enc_len, enc_scal, lput_enc, take_enc, hn_b3, hr_b3, go_sem]
  rcases hO2.at_ with ⟨rfl, h, _⟩ | ⟨q, bs, rfl, hq, hbs, hqf⟩
  · simp [newR] at h
  have n3 : ¬ b3 = q := h_b3.ne_find hq
  obtain ⟨A3, hA3⟩ : ∃ A3, A2.add b3 (.cells [.int .i64 3, .slice (some ⟨q, 0, none⟩) 2 fc] 65 2) = A3 := ⟨_, rfl⟩
  have k23 : Keep A2 A3 fun _ => False := hA3 ▸ Keep.add h_b3
  have hO3 := hO2.keep k23 fun _ _ h => h
  have f3 : A3.find b3 = some (.cells [.int .i64 3, .slice (some ⟨q, 0, none⟩) 2 fc] 65 2) := by rw [← hA3, find_add_self]
  have fq3 : A3.find q = some (.cells ((newR 3 1).map enc).flatten 76 bs) := k23.find (fun h => h) hq
  have hb8 : 8 ≤ bs := by have := hO2.le; simp [newR] at this; omega
  obtain ⟨A4, hA4⟩ : ∃ A4, A3.set q (.cells (Fa.2.map enc).flatten 76 bs) = A4 := ⟨_, rfl⟩
  have hw : A3.wrs q 4 [.int .u8 255, .int .u8 8, .int .u8 0, .int .u8 0] = some A4 := by
    rw [← hA4]
    simp [AH.wrs, fq3, enc, newR, Fa, lput, scal, hb8]
  have k34 : Keep A3 A4 (· = q) := hA4 ▸ Ifs.Keep.set
  have fq4 : A4.find q = some (.cells (Fa.2.map enc).flatten 76 bs) := by rw [← hA4, find_set, if_pos rfl]
  have hO4 : OwnS A1 A4 76 4 (some ⟨q, 0, none⟩) fc (Fa.2.map enc) := ⟨fun r hr => by
    obtain ⟨w, _, rfl⟩ := List.mem_map.1 hr
    rfl, by have := hO2.le; simpa [newR, Fa] using this, by simp [newR, Fa], .inr ⟨q, bs, rfl, fq4, hbs, hqf⟩⟩
  have f4 := k34.find n3 f3
  have hqf1 : Fresh A1 q := hqf
  have hsa1 := hsa.keep hK1 fun _ _ h => h
  have hsa3 := (hsa1.keep hK2 fun _ _ h => h).keep k23 fun _ _ h => h
  have hsb2 := hsb.keep hK2 fun _ _ h => h
  have hsb3 := hsb2.keep k23 fun _ _ h => h
  have hsa4 := hsa3.keep k34 fun x hx e => hsa1.fresh hqf1 (e ▸ hx)
  have hsb4 := hsb3.keep k34 fun x hx e => hsb.fresh hqf1 (e ▸ hx)
  have kH1 := hK0.trans hK1
  have kH4 : Keep H A4 fun _ => False := ((kH1.trans hK2).trans k23).ow k34 fun x e => e ▸ kH1.fr hqf1
  have ga : ∀ x, fta x → Fresh H x := hf0
  have gb : ∀ x, ftb x → Fresh H x := fun x hx => hK0.fr (hf1 x hx)
  have nb3 : ¬ fta b3 := (hsa1.keep hK2 fun _ _ h => h).fresh h_b3
  have nbb3 : ¬ ftb b3 := hsb2.fresh h_b3
  have nq : ¬ fta q := fun hx => hsa1.fresh hqf1 hx
  have hab : ∀ x, ftb x → ¬ fta x := fun x hx => hsa.fresh (hf1 x hx)
  rw [hA3]
  simp (dsimp := false) (maxSteps := 4000000) only [hw, enc_len, enc_scal, lput_enc, take_enc, hn_b3, hr_b3, go_sem]
  clear hA3 hA4 hw fq3 hsa hsb hsa1 hsb2 hsa3 hsb3 hK0 hK1 hK2 k23 k34 hO2 hO3 h_b3 hn_b3 hr_b3
  
  have w4 : A4.row b3 0 2 = some [.int .i64 3, .slice (some ⟨q, 0, none⟩) 2 fc] := row_find f4 (by simp)
  simp (dsimp := false) (maxSteps := 4000000) only [w4, enc_len, enc_scal, lput_enc, take_enc, go_sem]
  refine (Add_c hsa4 1 3 Fa.2 (some ⟨q, 0, none⟩) fc hO4.slc).mono ?_
  rintro _ A5 ⟨ft5, rfl, hsa5, hK5, hf5⟩
  rw [show addE [] 1 (3, Fa.2) = 0 by decide +kernel]
  have k5 : Keep H A5 fun _ => False := kH4.ow hK5 ga
  have ga5 : ∀ x, ft5 x → Fresh H x := fun x hx => (hf5 x hx).elim (ga x) fun h => kH4.fr h
  have f5 := hK5.find nb3 f4
  have hO5 := hO4.keep hK5 fun a ha => by cases ha; exact nq
  have hsb5 := hsb4.keep hK5 hab
  have w5 : A5.row b3 0 2 = some [.int .i64 3, .slice (some ⟨q, 0, none⟩) 2 fc] := row_find f5 (by simp)
  have d5 : ∀ x, ftb x → ¬ ft5 x := fun x hx h => (hf5 x h).elim (hab x hx) fun h => hsb4.fresh h hx
  simp (dsimp := false) (maxSteps := 4000000) only [w5, enc_len, enc_scal, lput_enc, take_enc, go_sem]
  refine (Add_c hsb5 1 3 Fa.2 (some ⟨q, 0, none⟩) fc hO5.slc).mono ?_
  rintro _ A8 ⟨ft8, rfl, hsb8, hK8, hf8⟩
  rw [show addE [] 1 (3, Fa.2) = 0 by decide +kernel]
  have k8 : Keep H A8 fun _ => False := k5.ow hK8 gb
  have hsa8 := hsa5.keep hK8 fun x hx h => d5 x h hx
  change StAt A8 bb Xa 0 ft8 at hsb8
  change StAt A8 ba Xa 0 ft5 at hsa8
  clear hsa5 hsb4 hsb5 hsa4 hK8 hf8 f5 f4 w5 w4 hO5 hO4 hK5 fq4
  simp (dsimp := false) (maxSteps := 4000000) only [enc_len, enc_scal, lput_enc, take_enc, go_sem]
  refine (entry_c 1 1 0 _).mono ?_; rintro _ _ ⟨rfl, rfl⟩
  simp (dsimp := false) (maxSteps := 4000000) only [enc_len, enc_scal, lput_enc, take_enc, go_sem]
  refine AllB.mk fun y2 h_y2 => ?_; have hn_y2 := h_y2; (try simp only [fresh_add, fresh_set, ne_eq] at hn_y2); have hr_y2 := hn_y2; (try simp only [@eq_comm Nat y2] at hr_y2); simp (dsimp := false) (maxSteps := 4000000) only [enc_len, enc_scal, lput_enc, take_enc, hn_y2, hr_y2, go_sem]
  refine (entry_c 2 1 3 _).mono ?_; rintro _ _ ⟨rfl, rfl⟩
  simp (dsimp := false) (maxSteps := 4000000) only [enc_len, enc_scal, lput_enc, take_enc, hn_y2, hr_y2, go_sem]
  refine AllB.mk fun y3 h_y3 => ?_; have hn_y3 := h_y3; (try simp only [fresh_add, fresh_set, ne_eq] at hn_y3); have hr_y3 := hn_y3; (try simp only [@eq_comm Nat y3] at hr_y3); simp (dsimp := false) (maxSteps := 4000000) only [enc_len, enc_scal, lput_enc, take_enc, hn_y2, hr_y2, hn_y3, hr_y3, go_sem]
  refine AllB.mk fun y4 h_y4 => ?_; have hn_y4 := h_y4; (try simp only [fresh_add, fresh_set, ne_eq] at hn_y4); have hr_y4 := hn_y4; (try simp only [@eq_comm Nat y4] at hr_y4); simp (dsimp := false) (maxSteps := 4000000) only [enc_len, enc_scal, lput_enc, take_enc, hn_y2, hr_y2, hn_y3, hr_y3, hn_y4, hr_y4, go_sem]
  refine AllB.mk fun y5 h_y5 => ?_; have hn_y5 := h_y5; (try simp only [fresh_add, fresh_set, ne_eq] at hn_y5); have hr_y5 := hn_y5; (try simp only [@eq_comm Nat y5] at hr_y5); simp (dsimp := false) (maxSteps := 4000000) only [enc_len, enc_scal, lput_enc, take_enc, hn_y2, hr_y2, hn_y3, hr_y3, hn_y4, hr_y4, hn_y5, hr_y5, go_sem]
  refine AllB.mk fun y6 h_y6 => ?_; have hn_y6 := h_y6; (try simp only [fresh_add, fresh_set, ne_eq] at hn_y6); have hr_y6 := hn_y6; (try simp only [@eq_comm Nat y6] at hr_y6); simp (dsimp := false) (maxSteps := 4000000) only [enc_len, enc_scal, lput_enc, take_enc, hn_y2, hr_y2, hn_y3, hr_y3, hn_y4, hr_y4, hn_y5, hr_y5, hn_y6, hr_y6, go_sem]
  refine AllB.mk fun y7 h_y7 => ?_; have hn_y7 := h_y7; (try simp only [fresh_add, fresh_set, ne_eq] at hn_y7); have hr_y7 := hn_y7; (try simp only [@eq_comm Nat y7] at hr_y7); simp (dsimp := false) (maxSteps := 4000000) only [enc_len, enc_scal, lput_enc, take_enc, hn_y2, hr_y2, hn_y3, hr_y3, hn_y4, hr_y4, hn_y5, hr_y5, hn_y6, hr_y6, hn_y7, hr_y7, go_sem]
  refine AllB.mk fun y1 h_y1 => ?_; have hn_y1 := h_y1; (try simp only [fresh_add, fresh_set, ne_eq] at hn_y1); have hr_y1 := hn_y1; (try simp only [@eq_comm Nat y1] at hr_y1); simp (dsimp := false) (maxSteps := 4000000) only [enc_len, enc_scal, lput_enc, take_enc, hn_y2, hr_y2, hn_y3, hr_y3, hn_y4, hr_y4, hn_y5, hr_y5, hn_y6, hr_y6, hn_y7, hr_y7, hn_y1, hr_y1, go_sem]
  refine AllB.mk fun y8 h_y8 => ?_; have hn_y8 := h_y8; (try simp only [fresh_add, fresh_set, ne_eq] at hn_y8); have hr_y8 := hn_y8; (try simp only [@eq_comm Nat y8] at hr_y8); simp (dsimp := false) (maxSteps := 4000000) only [enc_len, enc_scal, lput_enc, take_enc, hn_y2, hr_y2, hn_y3, hr_y3, hn_y4, hr_y4, hn_y5, hr_y5, hn_y6, hr_y6, hn_y7, hr_y7, hn_y1, hr_y1, hn_y8, hr_y8, go_sem]
  obtain ⟨A9, hA9⟩ : ∃ A9, ((((((((A8.add y2 (.cells [.int .i64 1, .int .i64 1, .int .i64 1, .int .i64 1, .int .i64 0] 78 5)).add y3 (.cells [.int .i64 2, .int .i64 1, .int .i64 1, .int .i64 1, .int .i64 3] 78 5)).add y4 (.cells [.slice (some ⟨y2, 0, none⟩) 1 1, .slice (some ⟨y3, 0, none⟩) 1 1] 58 2)).add y5 (.cells [.int .i64 0, .int .i64 2000] 81 2)).add y6 (.cells [.int .i64 0, .int .i64 (-2000)] 81 2)).add y7 (.cells [.slice (some ⟨y5, 0, none⟩) 1 1, .slice (some ⟨y6, 0, none⟩) 1 1] 59 2)).add y1 (.cells [.pointer (some ⟨ba, 0, none⟩), .pointer (some ⟨bb, 0, none⟩)] 47 2)).add y8 (.cells [.bool true, .bool true] 4 2)) = A9 := ⟨_, rfl⟩
  have kA : Keep A8 A9 fun _ => False := hA9 ▸ (((((((Keep.add h_y2).nw h_y3).nw h_y4).nw h_y5).nw h_y6).nw h_y7).nw h_y1).nw h_y8
  have g8 : A9.find y8 = some (.cells [.bool true, .bool true] 4 2) := by rw [← hA9, find_add_self]
  have g1 : A9.find y1 = some (.cells [.pointer (some ⟨ba, 0, none⟩), .pointer (some ⟨bb, 0, none⟩)] 47 2) := by rw [← hA9, find_add_ne _ hn_y8.1, find_add_self]
  have g7 : A9.find y7 = some (.cells [.slice (some ⟨y5, 0, none⟩) 1 1, .slice (some ⟨y6, 0, none⟩) 1 1] 59 2) := by rw [← hA9, find_add_ne _ hn_y8.2.1, find_add_ne _ hn_y1.1, find_add_self]
  have g6 : A9.find y6 = some (.cells [.int .i64 0, .int .i64 (-2000)] 81 2) := by rw [← hA9, find_add_ne _ hn_y8.2.2.1, find_add_ne _ hn_y1.2.1, find_add_ne _ hn_y7.1, find_add_self]
  have g5 : A9.find y5 = some (.cells [.int .i64 0, .int .i64 2000] 81 2) := by rw [← hA9, find_add_ne _ hn_y8.2.2.2.1, find_add_ne _ hn_y1.2.2.1, find_add_ne _ hn_y7.2.1, find_add_ne _ hn_y6.1, find_add_self]
  have g4 : A9.find y4 = some (.cells [.slice (some ⟨y2, 0, none⟩) 1 1, .slice (some ⟨y3, 0, none⟩) 1 1] 58 2) := by rw [← hA9, find_add_ne _ hn_y8.2.2.2.2.1, find_add_ne _ hn_y1.2.2.2.1, find_add_ne _ hn_y7.2.2.1, find_add_ne _ hn_y6.2.1, find_add_ne _ hn_y5.1, find_add_self]
  have g3 : A9.find y3 = some (.cells [.int .i64 2, .int .i64 1, .int .i64 1, .int .i64 1, .int .i64 3] 78 5) := by rw [← hA9, find_add_ne _ hn_y8.2.2.2.2.2.1, find_add_ne _ hn_y1.2.2.2.2.1, find_add_ne _ hn_y7.2.2.2.1, find_add_ne _ hn_y6.2.2.1, find_add_ne _ hn_y5.2.1, find_add_ne _ hn_y4.1, find_add_self]
  have g2 : A9.find y2 = some (.cells [.int .i64 1, .int .i64 1, .int .i64 1, .int .i64 1, .int .i64 0] 78 5) := by rw [← hA9, find_add_ne _ hn_y8.2.2.2.2.2.2.1, find_add_ne _ hn_y1.2.2.2.2.2.1, find_add_ne _ hn_y7.2.2.2.2.1, find_add_ne _ hn_y6.2.2.2.1, find_add_ne _ hn_y5.2.2.1, find_add_ne _ hn_y4.2.1, find_add_ne _ hn_y3.1, find_add_self]
  have hT : TabIn A9 (some ⟨y4, 0, none⟩) 2 (Tw (some ⟨y2, 0, none⟩) (some ⟨y3, 0, none⟩)) := by
    refine ⟨slcF (e := 58) (bs := 2) hn_y4.2.2 g4 rfl (by simp [Tw, encT]) (by decide) (by simp [Tw]), fun x hx => ?_⟩
    rcases List.mem_cons.1 hx with rfl | hx
    · exact slcF (e := 78) (bs := 5) h_y2 g2 rfl (by simp [La, encE]) (by show 5 ≤ 5; omega) (by simp [La])
    · obtain rfl := List.mem_singleton.1 hx
      exact slcF (e := 78) (bs := 5) hn_y3.2 g3 rfl (by simp [Lb, encE]) (by show 5 ≤ 5; omega) (by simp [Lb])
  have hO : OscIn A9 (some ⟨y7, 0, none⟩) 2 (Oa (some ⟨y5, 0, none⟩) (some ⟨y6, 0, none⟩)) := by
    refine ⟨slcF (e := 59) (bs := 2) hn_y7.2.2.2.2.2 g7 rfl (by simp [Oa, encK]) (by decide) (by simp [Oa]), fun x hx => ?_⟩
    rcases List.mem_cons.1 hx with rfl | hx
    · exact slcF (e := 81) (bs := 2) hn_y5.2.2.2 g5 rfl (by simp [Tck.enc]) (by show 2 ≤ 2; omega) (by simp)
    · obtain rfl := List.mem_singleton.1 hx
      exact slcF (e := 81) (bs := 2) hn_y6.2.2.2.2 g6 rfl (by simp [Tck.enc]) (by show 2 ≤ 2; omega) (by simp)
  have hS := sts2 hn_y1.2.2.2.2.2.2 g1 (hsa8.keep kA fun _ _ h => h) (hsb8.keep kA fun _ _ h => h)
  have hB := live2 hn_y8.2.2.2.2.2.2.2 g8
  have hsa9 := hsa8.keep kA fun _ _ h => h
  have hsb9 := hsb8.keep kA fun _ _ h => h
  have k9 := k8.trans kA
  rw [hA9]
  clear hA9 g1 g2 g3 g4 g5 g6 g7 g8 kA h_y1 h_y2 h_y3 h_y4 h_y5 h_y6 h_y7 h_y8 hn_y1 hn_y2 hn_y3 hn_y4 hn_y5 hn_y6 hn_y7 hn_y8 hr_y1 hr_y2 hr_y3 hr_y4 hr_y5 hr_y6 hr_y7 hr_y8 hsa8 hsb8
  
  refine (Round_c ⟨some ⟨y1, 0, none⟩, 2, some ⟨y4, 0, none⟩, 2, some ⟨y8, 0, none⟩, 2, none, 0, some ⟨y7, 0, none⟩, 2⟩ _ _ [true, true] [] _ A9 (by rw [k9.w0]; exact hE) ⟨hS, hT, hB, SlcIn.nil, hO, rfl, rfl, by show 2 ≤ 32; omega⟩).mono ?_
  rintro _ AA ⟨zb, zc, SO, rfl, _, hv, hso, hKA, _⟩
  obtain ⟨hlen, R, hpl, hlow, hv⟩ := hv (rnd_a _ _ _ _)
  obtain ⟨o1, o2, rfl⟩ : ∃ o1 o2, SO = [o1, o2] := by
    match SO, hlen with
    | [o1, o2], _ => exact ⟨o1, o2, rfl⟩
  have v2 := hv 1 _ _ _ _ _ rfl rfl rfl rfl rfl
  rw [hdB_true (okA _ _ _ _) hpl hlow (show good [⟨0, -2000⟩] = true by decide) (show calmB 2000 [⟨0, -2000⟩] from fun s hs => by obtain rfl := List.mem_singleton.1 hs; decide)] at v2
  have kAA := k9.trans hKA
  have i2 := hso.inn o2 (List.mem_cons_of_mem _ (List.mem_cons_self ..))
  have w2 : getW o2.X 1 1 = some (255, 8, 0, 255) := by rw [getW_p v2.1 i2.2.kd]; exact get_w _ _
  rw [show rndB (List.length [SR.mk ba Xa 0 ft5, SR.mk bb Xa 0 ft8]) (Tw (some ⟨y2, 0, none⟩) (some ⟨y3, 0, none⟩)) (Oa (some ⟨y5, 0, none⟩) (some ⟨y6, 0, none⟩)) = 0 from rnd_a _ _ _ _]
  have hTA := hT.keep hKA
  have hsaA := hsa9.keep hKA fun _ _ h => h
  have hsbA := hsb9.keep hKA fun _ _ h => h
  clear v2 hv hS hT hB hO hsa9 hsb9 hlow hpl
  simp (dsimp := false) (maxSteps := 4000000) only [enc_len, enc_scal, lput_enc, take_enc, go_sem]
  refine AllB.mk fun z1 h_z1 => ?_; have hn_z1 := h_z1; (try simp only [fresh_add, fresh_set, ne_eq] at hn_z1); have hr_z1 := hn_z1; (try simp only [@eq_comm Nat z1] at hr_z1); simp (dsimp := false) (maxSteps := 4000000) only [enc_len, enc_scal, lput_enc, take_enc, hn_z1, hr_z1, go_sem]
  refine AllB.mk fun z2 h_z2 => ?_; have hn_z2 := h_z2; (try simp only [fresh_add, fresh_set, ne_eq] at hn_z2); have hr_z2 := hn_z2; (try simp only [@eq_comm Nat z2] at hr_z2); simp (dsimp := false) (maxSteps := 4000000) only [enc_len, enc_scal, lput_enc, take_enc, hn_z1, hr_z1, hn_z2, hr_z2, go_sem]
  refine AllB.mk fun z3 h_z3 => ?_; have hn_z3 := h_z3; (try simp only [fresh_add, fresh_set, ne_eq] at hn_z3); have hr_z3 := hn_z3; (try simp only [@eq_comm Nat z3] at hr_z3); simp (dsimp := false) (maxSteps := 4000000) only [enc_len, enc_scal, lput_enc, take_enc, hn_z1, hr_z1, hn_z2, hr_z2, hn_z3, hr_z3, go_sem]
  obtain ⟨AB, hAB⟩ : ∃ AB, ((AA.add z1 (.cells [.pointer (some ⟨ba, 0, none⟩), .pointer (some ⟨bb, 0, none⟩)] 47 2)).add z2 (.cells [.bool true, .bool true] 4 2)).add z3 (.cells [.slice none 0 0, .slice none 0 0] 59 2) = AB := ⟨_, rfl⟩
  have kAB : Keep AA AB fun _ => False := hAB ▸ ((Keep.add h_z1).nw h_z2).nw h_z3
  have g3 : AB.find z3 = some (.cells [.slice none 0 0, .slice none 0 0] 59 2) := by rw [← hAB, find_add_self]
  have g2 : AB.find z2 = some (.cells [.bool true, .bool true] 4 2) := by rw [← hAB, find_add_ne _ hn_z3.1, find_add_self]
  have g1 : AB.find z1 = some (.cells [.pointer (some ⟨ba, 0, none⟩), .pointer (some ⟨bb, 0, none⟩)] 47 2) := by rw [← hAB, find_add_ne _ hn_z3.2.1, find_add_ne _ hn_z2.1, find_add_self]
  have hO : OscIn AB (some ⟨z3, 0, none⟩) 2 On := by
    refine ⟨slcF (e := 59) (bs := 2) hn_z3.2.2 g3 rfl (by simp [On, encK]) (by decide) (by simp [On]), fun x hx => ?_⟩
    rcases List.mem_cons.1 hx with rfl | hx
    · exact SlcIn.nil
    · obtain rfl := List.mem_singleton.1 hx
      exact SlcIn.nil
  have hS := sts2 h_z1 g1 (hsaA.keep kAB fun _ _ h => h) (hsbA.keep kAB fun _ _ h => h)
  have hB := live2 hn_z2.2 g2
  have hTB := hTA.keep kAB
  rw [hAB]
  clear hAB g1 g2 g3 h_z1 h_z2 h_z3 hn_z1 hn_z2 hn_z3 hr_z1 hr_z2 hr_z3
  
  refine (Line_c ⟨some ⟨z1, 0, none⟩, 2, some ⟨y4, 0, none⟩, 2, some ⟨z2, 0, none⟩, 2, none, 0, some ⟨z3, 0, none⟩, 2⟩ _ _ [true, true] [] On AB ⟨hS, hTB, hB, SlcIn.nil, hO, rfl, rfl, by show 2 ≤ 32; omega⟩ (May.of (rnd_n _ _))).mono ?_
  rintro _ AL ⟨Rl, lb, lc, rfl, hpl2, hsp2, hRl, hKl⟩
  obtain rfl : Rl = Ra := line_is hpl2 hsp2.lo
  have kL := (kAA.trans kAB).trans hKl
  have kAL := kAB.trans hKl
  rw [show List.length Ra = 2 from rfl]
  have hsoL := hso.keep kAL
  obtain ⟨_, _, rfl, _, hr2⟩ := hsoL.out.get (i := 1) rfl
  have hr2 := hr2 0 _ rfl
  obtain ⟨ql, jl, rfl, wl, _⟩ := hRl.get (i := 0) rfl
  simp only [Nat.add_zero, Nat.one_mul] at hr2
  have hGb := fun H1 (h : StAt H1 o2.b o2.X o2.den o2.ft) => Get_c h i2.2 1 1
  rw [w2] at hGb
  unfold getV at hGb
  have i2L := i2.keep kAL
  have hTL := (hTA.keep kAL)
  have hsaL := hsaA.keep kAL fun _ _ h => h
  have hsbL := hsbA.keep kAL fun _ _ h => h
  clear hS hTB hB hO hsp2 hpl2 hTA hsaA hsbA wl
  simp (dsimp := false) (maxSteps := 4000000) only [hr2, enc_len, enc_scal, lput_enc, take_enc, go_sem]
  refine (hGb _ i2L.1).mono ?_; rintro _ _ ⟨rfl, rfl⟩
  simp (dsimp := false) (maxSteps := 4000000) only [enc_len, enc_scal, lput_enc, take_enc, go_sem]
  refine AllB.mk fun p11 h_p11 => ?_; have hn_p11 := h_p11; (try simp only [fresh_add, fresh_set, ne_eq] at hn_p11); have hr_p11 := hn_p11; (try simp only [@eq_comm Nat p11] at hr_p11); simp (dsimp := false) (maxSteps := 4000000) only [enc_len, enc_scal, lput_enc, take_enc, hn_p11, hr_p11, go_sem]
  refine AllB.mk fun x1 h_x1 => ?_; have hn_x1 := h_x1; (try simp only [fresh_add, fresh_set, ne_eq] at hn_x1); have hr_x1 := hn_x1; (try simp only [@eq_comm Nat x1] at hr_x1); simp (dsimp := false) (maxSteps := 4000000) only [enc_len, enc_scal, lput_enc, take_enc, hn_p11, hr_p11, hn_x1, hr_x1, go_sem]
  refine AllB.mk fun x2 h_x2 => ?_; have hn_x2 := h_x2; (try simp only [fresh_add, fresh_set, ne_eq] at hn_x2); have hr_x2 := hn_x2; (try simp only [@eq_comm Nat x2] at hr_x2); simp (dsimp := false) (maxSteps := 4000000) only [enc_len, enc_scal, lput_enc, take_enc, hn_p11, hr_p11, hn_x1, hr_x1, hn_x2, hr_x2, go_sem]
  obtain ⟨AM, hAM⟩ : ∃ AM, ((AL.add p11 (.cells (enc (255, 8, 0, 255)) 76 4)).add x1 (.cells [.pointer (some ⟨ba, 0, none⟩), .pointer (some ⟨bb, 0, none⟩)] 47 2)).add x2 (.cells [.bool true, .bool true] 4 2) = AM := ⟨_, rfl⟩
  have kAM : Keep AL AM fun _ => False := hAM ▸ ((Keep.add h_p11).nw h_x1).nw h_x2
  have g2 : AM.find x2 = some (.cells [.bool true, .bool true] 4 2) := by rw [← hAM, find_add_self]
  have g1 : AM.find x1 = some (.cells [.pointer (some ⟨ba, 0, none⟩), .pointer (some ⟨bb, 0, none⟩)] 47 2) := by rw [← hAM, find_add_ne _ hn_x2.1, find_add_self]
  have g11 : AM.find p11 = some (.cells (enc (255, 8, 0, 255)) 76 4) := by rw [← hAM, find_add_ne _ hn_x2.2.1, find_add_ne _ hn_x1.1, find_add_self]
  have hS := sts2 hn_x1.2 g1 (hsaL.keep kAM fun _ _ h => h) (hsbL.keep kAM fun _ _ h => h)
  have hB := live2 hn_x2.2.2 g2
  rw [hAM]
  clear hAM g1 g2 h_p11 h_x1 h_x2 hn_p11 hn_x1 hn_x2 hr_p11 hr_x1 hr_x2
  
  have kM := kL.trans kAM
  refine (Round_c ⟨some ⟨x1, 0, none⟩, 2, some ⟨y4, 0, none⟩, 2, some ⟨x2, 0, none⟩, 2, none, 0, none, 0⟩ _ _ [true, true] [] [] AM (by rw [kM.w0]; exact hE) ⟨hS, hTL.keep kAM, hB, SlcIn.nil, ⟨SlcIn.nil, by simp⟩, rfl, rfl, by show 2 ≤ 32; omega⟩).mono ?_
  rintro _ AN ⟨ub, uc, SN, rfl, _, _, _, hKN, _⟩
  rw [show rndB (List.length [SR.mk ba Xa 0 ft5, SR.mk bb Xa 0 ft8]) (Tw (some ⟨y2, 0, none⟩) (some ⟨y3, 0, none⟩)) [] = 1 from rnd_0 _ _]
  have kN := kAM.trans hKN
  have w11 : AN.row p11 0 4 = some (enc (255, 8, 0, 255)) := row_find (hKN.find (fun h => h) g11) (by simp [enc])
  obtain ⟨_, _, e, wl, _⟩ := (hRl.keep kN fun _ _ h => h).get (i := 0) rfl; cases e
  simp only [Nat.zero_mul, Nat.add_zero] at wl
  have e1 : enc (255, 8, 0, 255) = [.int .u8 255, .int .u8 8, .int .u8 0, .int .u8 255] := Eq.trans rfl rfl
  have e2 : Srt.encP (224, 240) = [.int .i64 224, .int .i64 240] := Eq.trans rfl rfl
  simp (dsimp := false) (maxSteps := 4000000) only [w11, wl, e1, e2, enc_len, enc_scal, lput_enc, take_enc, go_sem]
  exact ⟨H, (kM.trans hKN).all, rfl⟩
end Go.Proofs.YtbhamhhjicehaaaGreatDoor.Bus

/- bus: BusApart. -/
namespace Go.Proofs.YtbhamhhjicehaaaGreatDoor.Bus
set_option linter.unusedSimpArgs false
set_option linter.unusedVariables false
open Go Go.AX Go.Proofs Ty Go.Proofs.YtbhamhhjicehaaaGreatDoor.Srt Go.Proofs.YtbhamhhjicehaaaGreatDoor.Wire Go.Proofs.YtbhamhhjicehaaaGreatDoor.Tck Go.Proofs.YtbhamhhjicehaaaGreatDoor.Clm Go.Proofs.YtbhamhhjicehaaaGreatDoor.Err
open Go.Proofs.YtbhamhhjicehaaaGreatDoor.Prt (SR StsIn encB1 encC Ow P2)
open Go.Proofs.YtbhamhhjicehaaaGreatDoor.Chk (Tb TabIn encT tabs)
set_option maxHeartbeats 4000000
set_option maxRecDepth 10000

theorem u16_lt {x : Int} (h : (Lit.int .u16 x).wf = true) : 0 ≤ x ∧ x < 65536 := by
  simp [Lit.wf, IntKind.min, IntKind.max, IntKind.signed, IntKind.bits] at h
  omega
theorem apart_meet {N : Net} (hN : N.Ok) {X Y : List Sp} {n m i k : Nat} (hX : SpOf (N.lowN i) n X) (hY : SpOf (N.lowN k) m Y) (h : i ≠ k) : meetB X Y = false := by
  rw [Bool.eq_false_iff]
  intro hm
  obtain ⟨t, h1, h2⟩ := meetB_iff.1 hm
  obtain ⟨a, ha, e1, ha2⟩ := (hX.lo t).1 h1
  obtain ⟨b, hb, e2, hb2⟩ := (hY.lo t).1 h2
  obtain rfl := sp_apart hN ha hb ha2 hb2
  omega
theorem once {N : Net} (hN : N.Ok) {i : Nat} {t : Int} (h : N.lowN i t) : ¬ N.lowUp i t := by
  rintro ⟨n, hn, b, hb, e2, hb2⟩
  obtain ⟨a, ha, e1, ha2⟩ := h
  obtain rfl := sp_apart hN ha hb ha2 hb2
  omega
theorem early {N : Net} (hN : N.Ok) {t : Int} (h : t < 200) : ¬ N.lowA t := by
  rintro ⟨s, hs, h2⟩
  have := sp_range hN hs h2
  omega
theorem BusApart_c (C : List Cb) (base : Option Addr) (cap : Nat) (P : List Prt.Sp) (bp : Option Addr) (cp : Nat) (t : Int) (ht : 0 ≤ t ∧ t < 65536) (H : AH) (hE : ErrT H.w0) (hs : SlcIn H 4 base cap (C.map fun d => encC d.1)) (hin : ∀ c ∈ C, CbIn H c) (hP : SlcIn H 2 bp cp (P.map Prt.encP)) :
    ACalls Tryz.prog 3 #[.slice base C.length cap, .slice bp P.length cp, .int .u16 t] H (fun v H' => v = .bool true ∧ H = H') := by
  have et : IntKind.i64.wrap t = t := i64_eq (by omega) (by omega)
  have e2 : t.tmod 200 = t % 200 := Int.tmod_eq_emod_of_nonneg ht.1
  have e200 : IntKind.i64.wrap (t.tmod 200) = t % 200 := by rw [e2]; exact i64_eq (by omega) (by omega)
  refine ACalls.enter2 Tryz.func3 rfl Tryz.ntmps3 Tryz.results3 (by simp) ?_; simp (dsimp := false) (maxSteps := 4000000) only [go_sem]
  refine (build_c C base cap H hs hin).mono ?_
  rintro _ A1 ⟨w, rfl, prot, hO, hPr, hb⟩
  have hnet := net_of hin hO hPr hb (sp_in20 (hP.keep hO.kp fun _ _ h => h))
  have hnet0 := net_of (Q := []) (bp := none) (cp := 0) hin hO hPr hb SlcIn.nil
  have hfw := fun {A : AH} (hk : Keep A1 A fun _ => False) => few_c P bp cp A ((hP.keep hO.kp fun _ _ h => h).keep hk fun _ _ h => h)
  have hE1 : ErrT A1.w0 := by rw [hO.kp.w0]; exact hE
  have kH := hO.kp
  clear hb hPr hO hin hs hP
  obtain ⟨Q, hQ⟩ : ∃ Q, P.take 20 = Q := ⟨_, rfl⟩
  rw [hQ] at hnet hfw
  obtain ⟨b1, c1, S, b2, c2, R, b3, c3, T, b4, c4, B, b5, c5, O⟩ := w
  dsimp only at hnet hnet0 ⊢
  simp (dsimp := false) (maxSteps := 4000000) only [go_sem]
  refine (Round_c ⟨b1, c1, b3, c3, b4, c4, none, 0, b5, c5⟩ S T B [] O _ hE1 hnet0).mono ?_
  rintro _ A2 ⟨zb, zc, SO, rfl, _, _, _, k2, _⟩
  obtain ⟨Er, hEr⟩ : ∃ Er, rndB S.length T O = Er := ⟨_, rfl⟩
  rw [hEr]
  simp (dsimp := false) (maxSteps := 4000000) only [go_sem]
  by_cases h0 : Er = 0
  case neg =>
    simp (dsimp := false) (maxSteps := 4000000) only [h0, go_sem]
    refine (awake_c A2 (by rw [k2.w0]; exact hE1)).mono ?_
    rintro _ _ ⟨rfl, rfl⟩
    simp (dsimp := false) (maxSteps := 4000000) only [go_sem]
    exact ⟨H, (kH.trans k2).all, rfl⟩
  subst h0
  have hM := May.of hEr
  obtain ⟨_, hcm⟩ := rndB_ok hEr
  have hcm := calmO_iff.1 hcm
  have hN : (netOf (S.map (·.X)) T B Q O).Ok := ⟨fun L hL => by
    obtain ⟨x, hx, rfl⟩ := List.mem_map.1 hL
    exact hcm.2 x hx⟩
  have hsend := fun (A : AH) (hk : Keep A1 A fun _ => False) (node : Nat) => Sends_c ⟨b1, c1, b3, c3, b4, c4, bp, cp, b5, c5⟩ S T B Q O node A (hnet.keep hk) hM
  have hline := fun (A : AH) (hk : Keep A1 A fun _ => False) => Line_c ⟨b1, c1, b3, c3, b4, c4, bp, cp, b5, c5⟩ S T B Q O A (hnet.keep hk) hM
  have hNT : (netOf (S.map (·.X)) T B Q O).T.length = S.length := hnet.l1
  have hl4 := hnet.l4
  clear hnet0 hcm hM hEr
  generalize netOf (S.map (·.X)) T B Q O = N at hN hsend hline hNT
  dsimp only at hsend hline
  simp (dsimp := false) (maxSteps := 4000000) only [go_sem]
  refine AWp.loopr (ι := Nat × Nat) (fun s A => s.1 ≤ S.length ∧ (s.2 = 0 ∧ ¬ N.lowUp s.1 t ∨ s.2 = 1 ∧ N.lowUp s.1 t) ∧ Keep A1 A fun _ => False)
    (fun s => [(15, .int .i64 s.1), (14, .int .i64 s.2), (7, .slice b1 S.length c1), (9, .slice b3 T.length c3), (10, .slice b4 B.length c4), (11, .slice b5 O.length c5), (1, .slice bp P.length cp), (2, .int .u16 t)]) (fun s => S.length - s.1) (0, 0) A2
    ⟨by simp, .inl ⟨rfl, lowUp_zero⟩, k2⟩ (FrLe.of_lks ?_) (AH.le_refl _) fun s A hV Q' again out => ?_
  · simp (dsimp := false) (maxSteps := 4000000) only [go_sem]
  
  obtain ⟨i, p⟩ := s
  obtain ⟨hi, hp, hK⟩ := hV
  dsimp only at hi hp again ⊢
  by_cases hlt : (i : Int) < S.length
  case neg =>
    obtain rfl : i = S.length := by omega
    simp (dsimp := false) (maxSteps := 4000000) only [hlt, go_sem]
    refine out _ _ _ (by simp) ?_
    clear again out
    simp (dsimp := false) (maxSteps := 4000000) only [go_sem]
    refine (hfw hK).mono ?_; rintro _ _ ⟨rfl, rfl⟩
    simp (dsimp := false) (maxSteps := 4000000) only [go_sem]
    refine (hline A hK).mono ?_
    rintro _ A3 ⟨Rl, rb, rc, rfl, hpl, hsp, hRl, hK3⟩
    have k3 := hK.trans hK3
    have h1 : lowB Rl t = decide (p = 1) := by
      rcases hp with ⟨rfl, h⟩ | ⟨rfl, h⟩
      · rw [lowB_not.2 fun h' => h ((lowUp_all (by omega) t).2 ((hsp.lo t).1 h'))]; rfl
      · rw [lowB_iff.2 ((hsp.lo t).2 ((lowUp_all (by omega) t).1 h))]; rfl
    have h2 : lowB Rl (t % 200) = false := lowB_not.2 fun h' => early hN (by omega) ((hsp.lo _).1 h')
    simp (dsimp := false) (maxSteps := 4000000) only [go_sem]
    refine (awake_c A3 (by rw [k3.w0]; exact hE1)).mono ?_
    rintro _ _ ⟨rfl, rfl⟩
    have hH1 := High_c Rl t rb rc A3 hRl
    have hH2 := High_c Rl (t % 200) rb rc A3 hRl
    rw [h1] at hH1
    rw [h2] at hH2
    rcases hp with ⟨rfl, _⟩ | ⟨rfl, _⟩
    · simp (dsimp := false) (maxSteps := 4000000) only [et, go_sem]
      refine (hH1).mono ?_; rintro _ _ ⟨rfl, rfl⟩
      simp (dsimp := false) (maxSteps := 4000000) only [e200, go_sem]
      refine (hH2).mono ?_; rintro _ _ ⟨rfl, rfl⟩
      simp (dsimp := false) (maxSteps := 4000000) only [go_sem]
      exact ⟨H, (kH.trans k3).all, rfl⟩
    · simp (dsimp := false) (maxSteps := 4000000) only [et, go_sem]
      refine (hH1).mono ?_; rintro _ _ ⟨rfl, rfl⟩
      simp (dsimp := false) (maxSteps := 4000000) only [e200, go_sem]
      refine (hH2).mono ?_; rintro _ _ ⟨rfl, rfl⟩
      simp (dsimp := false) (maxSteps := 4000000) only [go_sem]
      exact ⟨H, (kH.trans k3).all, rfl⟩
  have ee := i64_succ (i := i) (by omega)
  have ep := i64_succ (i := p) (by omega)
  simp (dsimp := false) (maxSteps := 4000000) only [hlt, go_sem]
  refine (hfw hK).mono ?_; rintro _ _ ⟨rfl, rfl⟩
  simp (dsimp := false) (maxSteps := 4000000) only [go_sem]
  refine (hsend A hK i).mono ?_
  rintro _ A3 ⟨Ri, rb, rc, rfl, _, hsp, hRi, hK3⟩
  have k3 := hK.trans hK3
  simp (dsimp := false) (maxSteps := 4000000) only [et, go_sem]
  refine (High_c Ri t rb rc _ hRi).mono ?_; rintro _ _ ⟨rfl, rfl⟩
  obtain ⟨p2, hp2e, hp2⟩ : ∃ p2 : Nat, (p2 = if lowB Ri t = true then p + 1 else p) ∧ (p2 = 0 ∧ ¬ N.lowUp (i + 1) t ∨ p2 = 1 ∧ N.lowUp (i + 1) t) := by
    refine ⟨_, rfl, ?_⟩
    cases hb : lowB Ri t with
    | true =>
      have hl := (hsp.lo t).1 (lowB_iff.1 hb)
      rcases hp with ⟨rfl, _⟩ | ⟨rfl, h⟩
      · exact .inr ⟨rfl, (lowUp_succ t).1 (.inr hl)⟩
      · exact absurd h (once hN hl)
    | false =>
      have hl : ¬ N.lowN i t := fun h => lowB_not.1 hb ((hsp.lo t).2 h)
      rcases hp with ⟨rfl, h⟩ | ⟨rfl, h⟩
      · exact .inl ⟨rfl, fun h' => ((lowUp_succ t).2 h').elim h hl⟩
      · exact .inr ⟨rfl, (lowUp_succ t).1 (.inl h)⟩
  have loop : ∀ (Q2 : Exit → Fr → AH → Prop), True := fun _ => trivial
  clear loop
  cases hb : lowB Ri t
  all_goals
    simp only [hb, if_true, if_false, Bool.false_eq_true] at hp2e
    simp (dsimp := false) (maxSteps := 4000000) only [hb, ep, go_sem]
    rw [← hp2e]
    refine AWp.loopr (ι := Nat) (fun k A => k ≤ i ∧ Keep A3 A fun _ => False)
      (fun k => [(17, .int .i64 k), (16, .slice rb Ri.length rc), (15, .int .i64 i), (14, .int .i64 p2), (7, .slice b1 S.length c1), (9, .slice b3 T.length c3), (10, .slice b4 B.length c4), (11, .slice b5 O.length c5), (1, .slice bp P.length cp), (2, .int .u16 t)]) (fun k => i - k) 0 A3
      ⟨by simp, Keep.refl⟩ (FrLe.of_lks ?_) (AH.le_refl _) fun k A4 hV Q2 again2 out2 => ?_
    · simp (dsimp := false) (maxSteps := 4000000) only [go_sem]
    obtain ⟨hk, hK4⟩ := hV
    have k4 := k3.trans hK4
    by_cases hlt2 : (k : Int) < i
    · have eek := i64_succ (i := k) (by omega)
      simp (dsimp := false) (maxSteps := 4000000) only [hlt2, go_sem]
      refine (hfw k4).mono ?_; rintro _ _ ⟨rfl, rfl⟩
      simp (dsimp := false) (maxSteps := 4000000) only [go_sem]
      refine (hsend A4 k4 k).mono ?_
      rintro _ A5 ⟨Rk, sb, sc, rfl, _, hspk, hRk, hK5⟩
      simp (dsimp := false) (maxSteps := 4000000) only [go_sem]
      refine (Meet_c Ri Rk rb rc sb sc _ ((hRi.keep hK4 fun _ _ h => h).keep hK5 fun _ _ h => h) hRk).mono ?_; rintro _ _ ⟨rfl, rfl⟩
      rw [apart_meet hN hsp hspk (by omega)]
      simp (dsimp := false) (maxSteps := 4000000) only [eek, go_sem]
      exact again2 (k + 1) _ A5 _ ⟨by omega, hK4.trans hK5⟩ (FrLe.of_lks (by simp (dsimp := false) (maxSteps := 4000000) only [go_sem])) (AH.le_refl _) (by omega)
    · obtain rfl : k = i := by omega
      simp (dsimp := false) (maxSteps := 4000000) only [hlt2, go_sem]
      refine out2 _ _ _ (by simp) ?_
      simp (dsimp := false) (maxSteps := 4000000) only [ee, go_sem]
      exact again (k + 1, p2) _ A4 _ ⟨by dsimp only; omega, hp2, k4⟩ (FrLe.of_lks (by simp (dsimp := false) (maxSteps := 4000000) only [go_sem])) (AH.le_refl _) (by dsimp only; omega)
end Go.Proofs.YtbhamhhjicehaaaGreatDoor.Bus

/- For every input BusApart answers true and leaves its arguments as_ they were; the package's one variable holds what the program's text lays into it: the tied card. -/
namespace Go.Proofs.YtbhamhhjicehaaaGreatDoor.lawBusApart
set_option linter.unusedSimpArgs false
set_option linter.unusedVariables false
open Go Go.AX Go.ChangeShapes Go.WideShapes Go.ChangeAt Go.RowKit Go.Proofs.YtbhamhhjicehaaaGreatDoor.Bus

theorem own : ownKnob Tryz.prog.godebug = none := by kernel_rfl
theorem laidOut : laidOutB Tryz.prog = true := by kernel_rfl
theorem et : Tryz.prog.globalNamed "errors.errorType" = some 0 := by kernel_rfl
theorem rt : (Tryz.prog.cutTypes.find? (·.1 == "internal/reflectlite.rtype")).map (·.2) = some 230 := by kernel_rfl
theorem oneRow : ((List.range Tryz.prog.types.size).filter fun t => Tryz.prog.rowNamed t [101, 114, 114, 111, 114]) = [174] := by kernel_rfl

theorem handle_of_laid {W : World} (h : laidMetH Tryz.prog Rows.busApartRow.laid W) : Err.ErrT W := by
  have h' : laidMet Tryz.prog [] W ∧ handlesMet Tryz.prog Rows.busApartRow.laid W := h
  obtain ⟨name, u, ty, e1, e2, e3, e4, e5⟩ := h'.2 _ (List.mem_singleton.2 rfl)
  have en : name = [101, 114, 114, 111, 114] := (Option.some.inj e1).symm
  subst en
  obtain rfl := Option.some.inj (rt.symm.trans e2)
  have hm : ty ∈ (List.range Tryz.prog.types.size).filter fun t => Tryz.prog.rowNamed t [101, 114, 114, 111, 114] := List.mem_filter.2 ⟨List.mem_range.2 e3, e4⟩
  rw [oneRow] at hm
  obtain rfl := List.mem_singleton.1 hm
  have hh : typeHandle Tryz.prog 174 = .pointer (some ⟨1, 174, none⟩) := by kernel_rfl
  rw [hh] at e5
  unfold Err.ErrT
  simpa using World.var?_cell et e5 0

noncomputable def laidWorld (os : Os) : World :=
  let w0 := World.holding Tryz.prog os ⟨#[], #[], []⟩
  { w0 with heap := w0.heap.modify 0 fun
      | .cells _ t frozen => .cells #[.iface 230 (.agg #[.pointer (some ⟨1, 174, none⟩)])] t frozen
      | o => o }
theorem laidWorld_met (os : Os) (args : Array Value) : laidMetH Tryz.prog Rows.busApartRow.laid ((laidWorld os).forCall (fun _ _ => 0) ⟨#[], args, []⟩).memory :=
  laidMetH_of_parts (laidMet_nil _ _) (by kernel_rfl)

set_option maxRecDepth 100000 in
theorem contract (H : Type) (enc : TypeId × Value → H) (W : World) (base : Nat) (args : Array Value) (ds gs : List (DataW H)) (before : List MemPlace)
    (hval : ∀ (j : Nat) t v, Tryz.f3.params[j]? = some t → args[j]? = some v → Value.okWide Tryz.prog W .any base t v)
    (hW : DataW.Whole enc Tryz.prog Tryz.f3.params.toList Rows.busApartSpec.vars false W args.toList ds gs before) (hE : Err.ErrT W) :
    Calls Tryz.prog 3 args W fun e W' => ∃ v, e = .returned v ∧ Rows.busApartSpec.post enc Tryz.prog Tryz.f3 false true false false W args v W' := by
  have hW' := hW
  obtain ⟨p, q, hA0, hV, rfl, hfz, hnd⟩ := hW
  have hA : DataW.TrodAll enc Tryz.prog W 0 (fun _ => true) true Tryz.f3.params.toList args.toList ds p := hA0
  rw [Tryz.params3] at hA hval
  obtain ⟨v0, v1, v2, d0, d1, d2, p0, p1, p2, rfl, rfl, rfl, h0, h1, h2⟩ := trodAll_three hA
  obtain ⟨rfl, rfl⟩ := trodVars_none hV
  obtain ⟨k0, k1, k2⟩ := okw3 hval
  obtain ⟨bs0, n0, cp0, R0, rfl, hl0, hs0, hR0⟩ := open_slc (P := Tryz.prog) (sz := 4) Tryz.underlying22 (by kernel_rfl) (by simp) (show leafTs Tryz.prog 20 61 = some [46, 58, 4, 59] by kernel_rfl) rfl k0 h0
  obtain ⟨L0, rfl, hw0⟩ := rows_of (f := fun d : Cb => Prt.encC d.1) (G := CbIn ⟨W, []⟩) (fun i r hr => by
    obtain ⟨hl, hc⟩ := hR0 i r hr
    exact open_cb hl hc)
  rw [List.length_map] at hl0; subst hl0
  obtain ⟨bs1, n1, cp1, R1, rfl, hl1, hs1, hR1⟩ := open_slc (P := Tryz.prog) (sz := 2) Tryz.underlying23 (by kernel_rfl) (by simp) (show leafTs Tryz.prog 20 146 = some [3, 3] by kernel_rfl) rfl k1 h1
  obtain ⟨L1, rfl, hw1⟩ := rows_of (f := Prt.encP) (G := fun s => True) (fun i r hr => by
    obtain ⟨hl, hc⟩ := hR1 i r hr
    obtain ⟨c0, c1, rfl⟩ := list2 hl
    obtain ⟨_, _, t0⟩ := hc 0 _ _ rfl rfl
    obtain ⟨a0, q0, _, w0⟩ := DataW.trod_int Tryz.underlying3 t0; cases q0
    obtain ⟨_, _, t1⟩ := hc 1 _ _ rfl rfl
    obtain ⟨a1, q1, _, w1⟩ := DataW.trod_int Tryz.underlying3 t1; cases q1
    exact ⟨⟨a0, a1⟩, rfl, trivial⟩)
  rw [List.length_map] at hl1; subst hl1
  obtain ⟨a2, rfl, rfl, rfl, w2⟩ := open_int Tryz.underlying24 k2 h2
  exact law_post laidOut (by kernel_rfl) rfl rfl Tryz.underlying4 hW' rfl rfl rfl
    ((BusApart_c L0 bs0 cp0 L1 bs1 cp1 a2 (u16_lt w2) _ hE hs0 hw0 hs1).mono fun v H' h => ⟨h.1, h.2 ▸ rfl⟩)

set_option maxRecDepth 100000 in
theorem lifted (os : Os) (started : os.Started) (H : Type) (enc : TypeId × Value → H) :
    ReturnsInHanded {} Tryz.checked os 3 .any (fun w args => (Rows.busApartSpec.pre enc Tryz.prog Tryz.f3 [] false w args ∧ laidMetH Tryz.prog Rows.busApartRow.laid w) ∧ sizedMet enc Tryz.prog Tryz.f3 (OpenSpec.ofChange Rows.busApartSpec) false w args)
      (Rows.busApartSpec.post enc Tryz.prog Tryz.f3 false true false false) := by
  refine returnsInHanded_of_change_and (C := Tryz.checked) (X := fun w _ => laidMetH Tryz.prog Rows.busApartRow.laid w) (fun _ _ _ hh h => h.of_heap hh) own started (by kernel_rfl) Tryz.func3
    (ChangeSpec.witness_at (enc := enc) (C := Tryz.checked) (os := os) (X := fun w _ => laidMetH Tryz.prog Rows.busApartRow.laid w) false (laidWorld os) #[.slice none 0 0, .slice none 0 0, .int .u16 0] 8 rfl (by kernel_rfl) (by kernel_rfl) (by kernel_rfl) (by kernel_rfl) (by kernel_rfl) (laidWorld_met os _)) ?_
  intro W base args ds gs before hval hW _ _ hL _
  exact contract H enc W base args ds gs before hval hW (handle_of_laid hL)

theorem row : Rows.BusApartSaid :=
  OpenClaim.holds_of_wide 3 Tryz.f3 rfl rfl rfl rfl rfl rfl rfl ⟨rfl, rfl, rfl, rfl, rfl⟩ rfl rfl rfl rfl rfl (by kernel_rfl) Tryz.func3 (by kernel_rfl)
    (of_decide_eq_true (by kernel_rfl)) (by unfold Func.isWrapper; rw [if_neg (of_decide_eq_false (by kernel_rfl))]; exact ⟨rfl, rfl⟩)
    (fun os started H enc _ => lifted os started H enc)

theorem proved : Rows.BusApartCardSaid :=
  Claim7.holds_tied_plain_at .later [] [.handle] true Rows.busApartCard.stood.harness true
    row (fun _ h => by cases h) (by kernel_rfl) (fun _ h => by cases h) busApart_row_tie rfl ⟨rfl, rfl⟩ (by kernel_rfl) rfl
    (fun f fn hf hfn => by
      obtain rfl : f = 3 := Option.some.inj ((show Tryz.prog.funcNamed "hayward/haywardlaw15.BusApart" = some 3 by kernel_rfl).symm.trans hf) |>.symm
      obtain rfl : fn = Tryz.f3 := (Option.some.inj (Tryz.func3.symm.trans hfn)).symm
      exact ⟨by kernel_rfl, fun j t ht => by
          rw [Tryz.params3] at ht
          rcases j with _ | j
          · have : t = 22 := by simpa using ht.symm
            subst this; exact (show Tryz.prog.wantsStandIn 22 = false by kernel_rfl)
          rcases j with _ | j
          · have : t = 23 := by simpa using ht.symm
            subst this; exact (show Tryz.prog.wantsStandIn 23 = false by kernel_rfl)
          rcases j with _ | j
          · have : t = 24 := by simpa using ht.symm
            subst this; exact (show Tryz.prog.wantsStandIn 24 = false by kernel_rfl)
          · simp at ht⟩)
    (by kernel_rfl)

end Go.Proofs.YtbhamhhjicehaaaGreatDoor.lawBusApart
