/- Texts of mine, one behind another. -/
import Derived.Test.YtbhamhhjicehaaaGreatDoorMBusApart4
import Derived.Shelf.SlSortCmp.WholeK
import Derived.Shelf.SlSortCmp.NoneTotal
import Derived.Shelf.SlicesG.Cmp
import Derived.Shelf.Small.Bits
import Derived.Shelf.Lay
import Derived.Ground.SlsfProg
import Derived.Ground.SlgcProg
import Derived.Ground.NamesProg
/- part: nodes in memory; Frame. -/
namespace Go.Proofs.YtbhamhhjicehaaaGreatDoor.Prt
set_option linter.unusedSimpArgs false
set_option linter.unusedVariables false
open Go Go.AX Go.Proofs Ty Go.Proofs.YtbhamhhjicehaaaGreatDoor.File Go.Proofs.YtbhamhhjicehaaaGreatDoor.Ifs Go.Proofs.YtbhamhhjicehaaaGreatDoor.Uart
open Go.Proofs.YtbhamhhjicehaaaGreatDoor.Chk (Tb TabIn sndO snd mayB goodE sN sX encE ze encT Sender_c tabs encE_len encE_scal encE_z5 encE_take)
set_option maxHeartbeats 4000000
set_option maxRecDepth 10000

structure SR where
  b : Nat
  X : List Nf
  den : Int
  ft : Nat → Prop
def encS (s : SR) : List Value := [.pointer (some ⟨s.b, 0, none⟩)]
def SR.In (H : AH) (s : SR) : Prop := StAt H s.b s.X s.den s.ft ∧ OkX s.X
structure StsIn (H : AH) (base : Option Addr) (cap : Nat) (S : List SR) : Prop where
  out : SlcIn H 1 base cap (S.map encS)
  inn : ∀ s ∈ S, s.In H
structure RR where
  b : Nat
  Z : List RF
  den : Int
  rd : Nat → Prop
def encR (s : RR) : List Value := [.pointer (some ⟨s.b, 0, none⟩)]
def RR.In (H : AH) (s : RR) : Prop := RefS H s.b s.Z s.den s.rd ∧ OkX (s.Z.map RF.nf)
structure RtsIn (H : AH) (base : Option Addr) (cap : Nat) (S : List RR) : Prop where
  out : SlcIn H 1 base cap (S.map encR)
  inn : ∀ s ∈ S, s.In H
theorem SR.In.keep {H A : AH} {s : SR} (h : s.In H) (hK : Keep H A fun _ => False) : s.In A := ⟨h.1.keep hK fun _ _ h => h, h.2⟩
theorem StsIn.keep {H A : AH} {base : Option Addr} {cap : Nat} {S : List SR} (h : StsIn H base cap S) (hK : Keep H A fun _ => False) : StsIn A base cap S := ⟨h.out.keep hK fun _ _ h => h, fun s hs => (h.inn s hs).keep hK⟩
theorem RR.In.keep {H A : AH} {s : RR} (h : s.In H) (hK : Keep H A fun _ => False) : s.In A := ⟨h.1.keep hK (fun _ _ h => h) fun h => h, h.2⟩
theorem RtsIn.keep {H A : AH} {base : Option Addr} {cap : Nat} {S : List RR} (h : RtsIn H base cap S) (hK : Keep H A fun _ => False) : RtsIn A base cap S := ⟨h.out.keep hK fun _ _ h => h, fun s hs => (h.inn s hs).keep hK⟩
def encB1 (x : Bool) : List Value := [.bool x]
abbrev Sp := Int × Int
def encP (x : Sp) : List Value := [.int .i64 x.1, .int .i64 x.2]

def zF : List Bool := [false, false, false, false, false, false, false, false, false, false, false]
def flipS (slot : Int) (f : List Bool) (s : Sp) : List Bool := if s.1 = slot then turnl f (ibits .and .i64 s.2 2046) else f
def flips (slot : Int) (P : List Sp) (f : List Bool) : List Bool := P.foldl (flipS slot) f
theorem turnl_len (l : List Bool) (m : Int) : (turnl l m).length = l.length := by simp [turnl]
theorem flipS_len (slot : Int) (f : List Bool) (s : Sp) : (flipS slot f s).length = f.length := by
  unfold flipS; split
  · exact turnl_len ..
  · rfl
theorem flips_len (slot : Int) : ∀ (P : List Sp) (f : List Bool), (flips slot P f).length = f.length
  | [], _ => rfl
  | s :: P, f => (flips_len slot P _).trans (flipS_len slot f s)
def frameP (XS : List (List Nf)) (T : List Tb) (B : List Bool) (P : List Sp) (slot : Int) : Int × List Bool × Bool := match sndO slot 0 T with
  | none => (-1, zF, false)
  | some (n, x) => if B.getD n false = true then match getW (XS.getD n []) x.2.2.1 x.2.2.2.1 with
    | none => (-1, zF, false)
    | some v => (n, flips slot P (putl (byt v x.2.2.2.2) false), true)
    else (-1, zF, false)
def frameV (r : Int × List Bool × Bool) : Value := .tuple #[.int .i64 r.1, .agg (r.2.1.map Value.bool).toArray, .bool r.2.2]
theorem putl_len (b : Int) (odd : Bool) : (putl b odd).length = 11 := rfl
theorem frame_len (XS : List (List Nf)) (T : List Tb) (B : List Bool) (P : List Sp) (slot : Int) : (frameP XS T B P slot).2.1.length = 11 := by
  unfold frameP
  split
  · rfl
  · split
    · split
      · rfl
      · exact (flips_len ..).trans (putl_len ..)
    · rfl
def TOk (T : List Tb) : Prop := ∀ t ∈ T, mayB t.2.2 = true
theorem mayB_good {L : List En} (h : mayB L = true) {x : En} (hx : x ∈ L) : goodE x = true ∧ x.1 ≠ 4 := by
  rw [mayB, Bool.and_eq_true, List.all_eq_true] at h
  obtain ⟨i, hi⟩ := List.mem_iff_getElem?.1 hx
  have := h.1 i (List.mem_range.2 (Go.AX.lt_of_get hi))
  rw [Chk.chk, hi] at this
  simp only [Bool.and_eq_true, Bool.not_eq_true', decide_eq_false_iff_not] at this
  exact ⟨this.1.1, this.1.2⟩
theorem good_byte {x : En} (h : goodE x = true) (h4 : x.1 ≠ 4) : (1 ≤ x.1 ∧ x.1 ≤ 3) ∧ 0 ≤ x.2.2.2.2 ∧ x.2.2.2.2 ≤ 3 := by
  obtain ⟨k, s, f, r, b⟩ := x
  dsimp only at h4
  rw [goodE, if_neg h4] at h
  simp only [Bool.and_eq_true, decide_eq_true_eq] at h
  exact ⟨⟨h.1.1.1, h.1.1.2.1⟩, h.2⟩
theorem snd_at {slot : Int} : ∀ {T : List Tb} {m n : Nat} {x : En}, sndO slot m T = some (n, x) → ∃ t, m ≤ n ∧ T[n - m]? = some t ∧ x ∈ t.2.2 ∧ snd slot x = true
  | [], _, _, _, h => by cases h
  | t :: T, m, n, x, h => by
    rw [sndO] at h
    cases hf : t.2.2.find? (snd slot) with
    | some y =>
      rw [hf] at h
      cases h
      exact ⟨t, Nat.le_refl _, by simp, List.mem_of_find?_eq_some hf, List.find?_some hf⟩
    | none =>
      rw [hf] at h
      obtain ⟨t', h1, h2, h3⟩ := snd_at h
      exact ⟨t', by omega, by rw [show n - m = (n - (m + 1)) + 1 by omega]; simpa using h2, h3⟩
theorem byt_row (v : Rc) (j : Int) (h : 0 ≤ j ∧ j ≤ 3) : (enc v)[j.toNat]? = some (.int .u8 (byt v j)) := by
  rcases (show j = 0 ∨ j = 1 ∨ j = 2 ∨ j = 3 by omega) with rfl | rfl | rfl | rfl <;> rfl
theorem byt_range {v : Rc} (h : RcOk v) (j : Int) : 0 ≤ byt v j ∧ byt v j < 256 := by
  obtain ⟨⟨a, b⟩, ⟨c, d⟩, ⟨e, f⟩, g, i⟩ := h
  unfold byt
  split
  · omega
  · split
    · omega
    · split <;> omega
theorem getW_ok {X : List Nf} (hX : OkX X) {n rec : Int} {v : Rc} (h : getW X n rec = some v) : RcOk v := by
  obtain ⟨f, hl, _, hv⟩ := getW_some h
  exact (hX.lk hl).2.2 v (List.mem_of_getElem? hv)
theorem Frame_c (S : List SR) (T : List Tb) (B : List Bool) (P : List Sp) (bs bt bb bp : Option Addr) (cs ct cb cp : Nat) (slot : Int) (H : AH) (hS : StsIn H bs cs S) (hT : TabIn H bt ct T) (hB : SlcIn H 1 bb cb (B.map encB1)) (hP : SlcIn H 2 bp cp (P.map encP)) (ht : TOk T) (hl1 : T.length ≤ S.length) (hl2 : T.length ≤ B.length) :
    ACalls Tryz.prog 32 #[.slice bs S.length cs, .slice bt T.length ct, .slice bb B.length cb, .slice bp P.length cp, .int .i64 slot] H (fun v H' => v = frameV (frameP (S.map (·.X)) T B P slot) ∧ H = H') := by
  have hpl := hP.big
  simp only [List.length_map] at hpl
  have hsn := fun H1 (h : TabIn H1 bt ct T) => Sender_c T bt ct slot H1 h
  unfold sN sX at hsn
  unfold frameP
  refine ACalls.enter2 Tryz.func32 rfl Tryz.ntmps32 Tryz.results32 (by simp) ?_; simp (dsimp := false) (maxSteps := 4000000) only [encE_len, encE_scal, encE_z5, encE_take, enc_len, enc_scal, lput_enc, take_enc, go_sem]
  refine AllB.mk fun b11 h_b11 => ?_; have hn_b11 := h_b11; (try simp only [fresh_add, fresh_set, ne_eq] at hn_b11); have hr_b11 := hn_b11; (try simp only [@eq_comm Nat b11] at hr_b11); simp (dsimp := false) (maxSteps := 4000000) only [encE_len, encE_scal, encE_z5, encE_take, enc_len, enc_scal, lput_enc, take_enc, hn_b11, hr_b11, go_sem]
  refine (hsn _ (hT.add h_b11)).mono ?_
  rintro _ _ ⟨rfl, rfl⟩
  cases hso : sndO slot 0 T with
  | none =>
    
    simp (dsimp := false) (maxSteps := 4000000) only [encE_len, encE_scal, encE_z5, encE_take, enc_len, enc_scal, lput_enc, take_enc, hn_b11, hr_b11, go_sem]
    refine AllB.mk fun b14 h_b14 => ?_; have hn_b14 := h_b14; (try simp only [fresh_add, fresh_set, ne_eq] at hn_b14); have hr_b14 := hn_b14; (try simp only [@eq_comm Nat b14] at hr_b14); simp (dsimp := false) (maxSteps := 4000000) only [encE_len, encE_scal, encE_z5, encE_take, enc_len, enc_scal, lput_enc, take_enc, hn_b11, hr_b11, hn_b14, hr_b14, go_sem]
    exact ⟨H, (AH.le_add (AH.le_add (AH.le_refl _) ((by simp only [encE_len, encE_scal, encE_z5, encE_take, enc_len, enc_scal, lput_enc, take_enc, fresh_add, fresh_set, ne_eq, hn_b11, not_false_eq_true, and_self] : Fresh _ b11).2)) ((by simp only [encE_len, encE_scal, encE_z5, encE_take, enc_len, enc_scal, lput_enc, take_enc, fresh_add, fresh_set, ne_eq, hn_b14, not_false_eq_true, and_self] : Fresh _ b14).2)), rfl, rfl⟩
    
  | some nx =>
    obtain ⟨n, x⟩ := nx
    obtain ⟨t, _, htn, hxt, hsx⟩ := snd_at hso
    rw [Nat.sub_zero] at htn
    have hn := Go.AX.lt_of_get htn
    obtain ⟨s, hs⟩ := get_some (l := S) (i := n) (by omega)
    obtain ⟨lv, hlv⟩ := get_some (l := B) (i := n) (by omega)
    have eB : B.getD n false = lv := by rw [List.getD_eq_getElem?_getD, hlv]; rfl
    have eX : (S.map (·.X)).getD n [] = s.X := by rw [List.getD_eq_getElem?_getD, List.getElem?_map, hs]; rfl
    obtain ⟨gd, g4⟩ := mayB_good (ht t (List.mem_of_getElem? htn)) hxt
    obtain ⟨_, hb0⟩ := good_byte gd g4
    have hn0 : (0 : Int) ≤ (n : Int) := by omega
    have hn1 : ¬ (n : Int) < 0 := by omega
    have hnB : (n : Int) < (B.length : Int) := by omega
    have hnS : (n : Int) < (S.length : Int) := by omega
    obtain ⟨q1, o1, rfl, _, hr1⟩ := hB.get (Go.AX.map_get (f := encB1) hlv)
    have rB := hr1 0 _ rfl
    simp only [Nat.add_zero, Nat.mul_one] at rB
    obtain ⟨q2, o2, rfl, _, hr2⟩ := hS.out.get (Go.AX.map_get (f := encS) hs)
    have rS := hr2 0 _ rfl
    simp only [Nat.add_zero, Nat.mul_one] at rS
    have hsI := hS.inn s (List.mem_of_getElem? hs)
    dsimp only
    rw [eB, eX]
    simp (dsimp := false) (maxSteps := 4000000) only [encE_len, encE_scal, encE_z5, encE_take, enc_len, enc_scal, lput_enc, take_enc, hn_b11, hr_b11, go_sem]
    refine AllB.mk fun b14 h_b14 => ?_; have hn_b14 := h_b14; (try simp only [fresh_add, fresh_set, ne_eq] at hn_b14); have hr_b14 := hn_b14; (try simp only [@eq_comm Nat b14] at hr_b14); simp (dsimp := false) (maxSteps := 4000000) only [encE_len, encE_scal, encE_z5, encE_take, enc_len, enc_scal, lput_enc, take_enc, hn_b11, hr_b11, hn_b14, hr_b14, go_sem]
    have m1 : ¬ b11 = q1 := h_b11.ne_rd rB
    have m2 : ¬ b14 = q1 := hn_b14.2.ne_rd rB
    have m3 : ¬ b11 = q2 := h_b11.ne_rd rS
    have m4 : ¬ b14 = q2 := hn_b14.2.ne_rd rS
    cases lv with
    | false =>
      
      simp (dsimp := false) (maxSteps := 4000000) only [hn1, hn0, hnB, rB, m1, m2, encE_len, encE_scal, encE_z5, encE_take, enc_len, enc_scal, lput_enc, take_enc, hn_b11, hr_b11, hn_b14, hr_b14, go_sem]
      exact ⟨H, (AH.le_add (AH.le_add (AH.le_refl _) ((by simp only [encE_len, encE_scal, encE_z5, encE_take, enc_len, enc_scal, lput_enc, take_enc, fresh_add, fresh_set, ne_eq, hn_b11, not_false_eq_true, and_self] : Fresh _ b11).2)) ((by simp only [encE_len, encE_scal, encE_z5, encE_take, enc_len, enc_scal, lput_enc, take_enc, fresh_add, fresh_set, ne_eq, hn_b14, not_false_eq_true, and_self] : Fresh _ b14).2)), rfl, rfl⟩
      
    | true =>
      obtain ⟨k, sl, fl, rc, by_⟩ := x
      have eE : encE (k, sl, fl, rc, by_) = [.int .i64 k, .int .i64 sl, .int .i64 fl, .int .i64 rc, .int .i64 by_] := rfl
      dsimp only at hb0 ⊢
      simp (dsimp := false) (maxSteps := 4000000) only [hn1, hn0, hnB, rB, m1, m2, encE_len, encE_scal, encE_z5, encE_take, enc_len, enc_scal, lput_enc, take_enc, hn_b11, hr_b11, hn_b14, hr_b14, go_sem]
      refine AWp.gen [.pu, .pu, .pu, .rd, .pu, .rd, .pu, .rd, .ch, .pu, .pu, .pu, .al, .ch, .pu] [0, 0, 3, 7, 0, 16, 0, 64, 255, 511, 1023, 1023, 0, 6143, 16383] 0 (_) mixed (by kernel_rfl) (AH.le_refl _) ?_
      simp (dsimp := false) (maxSteps := 4000000) only [hn0, hnS, rS, m3, m4, eE, encE_len, encE_scal, encE_z5, encE_take, enc_len, enc_scal, lput_enc, take_enc, hn_b11, hr_b11, hn_b14, hr_b14, go_sem]
      have k2 : Keep H ((H.add b11 (.cells [.bool false, .bool false, .bool false, .bool false, .bool false, .bool false, .bool false, .bool false, .bool false, .bool false, .bool false] 87 11)).add b14 (.cells (encE (k, sl, fl, rc, by_)) 78 5)) fun _ => False := (Keep.refl.nw h_b11).nw (by simp only [fresh_add, ne_eq, hn_b14, not_false_eq_true, and_self])
      refine (Get_c (hsI.keep k2).1 hsI.2 fl rc).mono ?_; rintro _ _ ⟨rfl, rfl⟩
      cases hg : getW s.X fl rc with
      | none =>
        
        unfold getV
        simp (dsimp := false) (maxSteps := 4000000) only [encE_len, encE_scal, encE_z5, encE_take, enc_len, enc_scal, lput_enc, take_enc, hn_b11, hr_b11, hn_b14, hr_b14, go_sem]
        refine AllB.mk fun b15 h_b15 => ?_; have hn_b15 := h_b15; (try simp only [fresh_add, fresh_set, ne_eq] at hn_b15); have hr_b15 := hn_b15; (try simp only [@eq_comm Nat b15] at hr_b15); simp (dsimp := false) (maxSteps := 4000000) only [encE_len, encE_scal, encE_z5, encE_take, enc_len, enc_scal, lput_enc, take_enc, hn_b11, hr_b11, hn_b14, hr_b14, hn_b15, hr_b15, go_sem]
        exact ⟨H, (AH.le_add (AH.le_add (AH.le_add (AH.le_refl _) ((by simp only [encE_len, encE_scal, encE_z5, encE_take, enc_len, enc_scal, lput_enc, take_enc, fresh_add, fresh_set, ne_eq, hn_b11, not_false_eq_true, and_self] : Fresh _ b11).2)) ((by simp only [encE_len, encE_scal, encE_z5, encE_take, enc_len, enc_scal, lput_enc, take_enc, fresh_add, fresh_set, ne_eq, hn_b14, not_false_eq_true, and_self] : Fresh _ b14).2)) ((by simp only [encE_len, encE_scal, encE_z5, encE_take, enc_len, enc_scal, lput_enc, take_enc, fresh_add, fresh_set, ne_eq, hn_b15, not_false_eq_true, and_self] : Fresh _ b15).2)), rfl, rfl⟩
        
      | some v =>
        have hvr := getW_ok hsI.2 hg
        unfold getV
        simp (dsimp := false) (maxSteps := 4000000) only [encE_len, encE_scal, encE_z5, encE_take, enc_len, enc_scal, lput_enc, take_enc, hn_b11, hr_b11, hn_b14, hr_b14, go_sem]
        refine AllB.mk fun b15 h_b15 => ?_; have hn_b15 := h_b15; (try simp only [fresh_add, fresh_set, ne_eq] at hn_b15); have hr_b15 := hn_b15; (try simp only [@eq_comm Nat b15] at hr_b15); simp (dsimp := false) (maxSteps := 4000000) only [encE_len, encE_scal, encE_z5, encE_take, enc_len, enc_scal, lput_enc, take_enc, hn_b11, hr_b11, hn_b14, hr_b14, hn_b15, hr_b15, go_sem]
        obtain ⟨j, rfl⟩ : ∃ j : Nat, by_ = j := ⟨by_.toNat, by omega⟩
        have hj0 : (0 : Int) ≤ (j : Int) := by omega
        have hj4 : (j : Int) < 4 := by omega
        have hrow : (enc v)[j]? = some (.int .u8 (byt v j)) := by have := byt_row v j (by omega); simpa using this
        obtain ⟨f0, hf0⟩ : ∃ f0, putl (byt v j) false = f0 := ⟨_, rfl⟩
        have hlf : f0.length = 11 := by rw [← hf0]; rfl
        have hpt := fun H1 => Uart.Put_c (byt v j) false (byt_range hvr _) H1
        rw [hf0] at hpt
        simp (dsimp := false) (maxSteps := 4000000) only [eE, hj0, hj4, hrow, encE_len, encE_scal, encE_z5, encE_take, enc_len, enc_scal, lput_enc, take_enc, hn_b11, hr_b11, hn_b14, hr_b14, hn_b15, hr_b15, go_sem]
        refine (hpt _).mono ?_; rintro _ _ ⟨rfl, rfl⟩
        have hmf : (f0.map Value.bool).length = 11 := by simp [hlf]
        simp (dsimp := false) (maxSteps := 4000000) only [hmf, encE_len, encE_scal, encE_z5, encE_take, enc_len, enc_scal, lput_enc, take_enc, hn_b11, hr_b11, hn_b14, hr_b14, hn_b15, hr_b15, go_sem]
        have hmk : ∀ i, ((flips slot (P.take i) f0).map Value.bool).length = 11 := fun i => by rw [List.length_map, flips_len, hlf]
        have g17 : ∀ {b17 i}, Fresh (((H.add b11 (.cells ((flips slot (P.take i) f0).map Value.bool) 87 11)).add b14 (.cells (encE (k, sl, fl, rc, (j : Int))) 78 5)).add b15 (.cells (enc v) 76 4)) b17 → Fresh H b17 := fun {b17 i} h => by
          simp only [fresh_add, ne_eq] at h; exact h.2.2.2
        refine AWp.loopo (ι := Nat) (fun i => i ≤ P.length) (fun i => [(56, .int .i64 i), (55, .int .i64 P.length), (54, .slice bp P.length cp), (4, .int .i64 slot), (13, .int .i64 n), (11, .pointer (some ⟨b11, 0, none⟩))])
          (fun i => ((H.add b11 (.cells ((flips slot (P.take i) f0).map Value.bool) 87 11)).add b14 (.cells (encE (k, sl, fl, rc, (j : Int))) 78 5)).add b15 (.cells (enc v) 76 4)) (fun i => P.length - i) 0 (by omega) (FrLe.of_lks ?_) (by simp only [List.take_zero]; exact AH.le_refl _) fun i hi Q again out => ?_
        · simp (dsimp := false) (maxSteps := 4000000) only [encE_len, encE_scal, encE_z5, encE_take, enc_len, enc_scal, lput_enc, take_enc, hn_b11, hr_b11, hn_b14, hr_b14, hn_b15, hr_b15, go_sem]
        by_cases hlt : (i : Int) < P.length
        · obtain ⟨y, hy⟩ := get_some (l := P) (i := i) (by omega)
          obtain ⟨q3, o3, rfl, hr3, _⟩ := hP.get (Go.AX.map_get (f := encP) hy)
          have ee := i64_succ (i := i) (by omega)
          have hi0 : (0 : Int) ≤ (i : Int) := by omega
          have m5 : ¬ b11 = q3 := h_b11.ne_row hr3
          have m6 : ¬ b14 = q3 := hn_b14.2.ne_row hr3
          have m7 : ¬ b15 = q3 := hn_b15.2.2.ne_row hr3
          have hst : flips slot (P.take (i + 1)) f0 = flipS slot (flips slot (P.take i) f0) y := by
            rw [flips, flips, List.take_add_one, hy, List.foldl_append]; rfl
          have hkm := hmk i
          obtain ⟨y1, y2⟩ := y
          have eP : encP (y1, y2) = [.int .i64 y1, .int .i64 y2] := rfl
          
          simp (dsimp := false) (maxSteps := 4000000) only [hlt, hi0, hr3, m5, m6, m7, eP, hkm, encE_len, encE_scal, encE_z5, encE_take, enc_len, enc_scal, lput_enc, take_enc, hn_b11, hr_b11, hn_b14, hr_b14, hn_b15, hr_b15, go_sem]
          refine AllB.mk fun b17 h_b17 => ?_; have hn_b17 := h_b17; (try simp only [fresh_add, fresh_set, ne_eq] at hn_b17); have hr_b17 := hn_b17; (try simp only [@eq_comm Nat b17] at hr_b17); simp (dsimp := false) (maxSteps := 4000000) only [encE_len, encE_scal, encE_z5, encE_take, enc_len, enc_scal, lput_enc, take_enc, hn_b11, hr_b11, hn_b14, hr_b14, hn_b15, hr_b15, hn_b17, hr_b17, go_sem]
          by_cases hsl : y1 = slot
          · have hst' : flips slot (P.take (i + 1)) f0 = turnl (flips slot (P.take i) f0) (ibits .and .i64 y2 2046) := by rw [hst, flipS, if_pos hsl]
            have htn := fun H1 => Uart.Turn_c (flips slot (P.take i) f0) (by rw [flips_len, hlf]) (ibits .and .i64 y2 2046) H1
            rw [← hst'] at htn
            have hk1 := hmk (i + 1)
            simp (dsimp := false) (maxSteps := 4000000) only [hsl, hkm, encE_len, encE_scal, encE_z5, encE_take, enc_len, enc_scal, lput_enc, take_enc, hn_b11, hr_b11, hn_b14, hr_b14, hn_b15, hr_b15, hn_b17, hr_b17, go_sem]
            refine (htn _).mono ?_; rintro _ _ ⟨rfl, rfl⟩
            simp (dsimp := false) (maxSteps := 4000000) only [hkm, hk1, ee, encE_len, encE_scal, encE_z5, encE_take, enc_len, enc_scal, lput_enc, take_enc, hn_b11, hr_b11, hn_b14, hr_b14, hn_b15, hr_b15, hn_b17, hr_b17, go_sem]
            exact again (i + 1) _ _ (by omega) (FrLe.of_lks (by simp (dsimp := false) (maxSteps := 4000000) only [encE_len, encE_scal, encE_z5, encE_take, enc_len, enc_scal, lput_enc, take_enc, hn_b11, hr_b11, hn_b14, hr_b14, hn_b15, hr_b15, hn_b17, hr_b17, go_sem])) (AH.le_add (AH.le_refl _) (by simp only [fresh_add, fresh_set, ne_eq, hn_b17, not_false_eq_true, and_self] : Fresh _ b17).2) (by omega)
          · have hst' : flips slot (P.take (i + 1)) f0 = flips slot (P.take i) f0 := by rw [hst, flipS, if_neg hsl]
            simp (dsimp := false) (maxSteps := 4000000) only [hsl, ee, encE_len, encE_scal, encE_z5, encE_take, enc_len, enc_scal, lput_enc, take_enc, hn_b11, hr_b11, hn_b14, hr_b14, hn_b15, hr_b15, hn_b17, hr_b17, go_sem]
            exact again (i + 1) _ _ (by omega) (FrLe.of_lks (by simp (dsimp := false) (maxSteps := 4000000) only [encE_len, encE_scal, encE_z5, encE_take, enc_len, enc_scal, lput_enc, take_enc, hn_b11, hr_b11, hn_b14, hr_b14, hn_b15, hr_b15, hn_b17, hr_b17, go_sem])) (by rw [hst']; exact AH.le_add (AH.le_refl _) h_b17.2) (by omega)
          
        · obtain rfl : i = P.length := by omega
          have hkm := hmk P.length
          rw [List.take_length] at hkm ⊢
          simp (dsimp := false) (maxSteps := 4000000) only [hlt, encE_len, encE_scal, encE_z5, encE_take, enc_len, enc_scal, lput_enc, take_enc, hn_b11, hr_b11, hn_b14, hr_b14, hn_b15, hr_b15, go_sem]
          refine out _ _ _ (by simp) ?_
          refine AWp.gen [.pu, .rd, .pu, .ch, .pu] [0, 0, 1, 7, 15] 0 (_) mixed (by kernel_rfl) (AH.le_refl _) ?_
          simp (dsimp := false) (maxSteps := 4000000) only [hkm, encE_len, encE_scal, encE_z5, encE_take, enc_len, enc_scal, lput_enc, take_enc, hn_b11, hr_b11, hn_b14, hr_b14, hn_b15, hr_b15, go_sem]
          refine ⟨H, (AH.le_add (AH.le_add (AH.le_add (AH.le_refl _) ((by simp only [encE_len, encE_scal, encE_z5, encE_take, enc_len, enc_scal, lput_enc, take_enc, fresh_add, fresh_set, ne_eq, hn_b11, not_false_eq_true, and_self] : Fresh _ b11).2)) ((by simp only [encE_len, encE_scal, encE_z5, encE_take, enc_len, enc_scal, lput_enc, take_enc, fresh_add, fresh_set, ne_eq, hn_b14, not_false_eq_true, and_self] : Fresh _ b14).2)) ((by simp only [encE_len, encE_scal, encE_z5, encE_take, enc_len, enc_scal, lput_enc, take_enc, fresh_add, fresh_set, ne_eq, hn_b15, not_false_eq_true, and_self] : Fresh _ b15).2)), ?_, rfl⟩
          rw [hf0]
          rfl
end Go.Proofs.YtbhamhhjicehaaaGreatDoor.Prt

/- part: the reference's Frame. -/
namespace Go.Proofs.YtbhamhhjicehaaaGreatDoor.Prt
set_option linter.unusedSimpArgs false
set_option linter.unusedVariables false
open Go Go.AX Go.Proofs Ty Go.Proofs.YtbhamhhjicehaaaGreatDoor.File Go.Proofs.YtbhamhhjicehaaaGreatDoor.Ifs Go.Proofs.YtbhamhhjicehaaaGreatDoor.Uart
open Go.Proofs.YtbhamhhjicehaaaGreatDoor.Chk (Tb TabIn sndO snd mayB goodE sN sX encE ze encT Sender_c tabs encE_len encE_scal encE_z5 encE_take)
set_option maxHeartbeats 4000000
set_option maxRecDepth 10000

theorem bitI_nat (n j : Nat) : bitI (n : Int) j = n.testBit j := by
  rw [Nat.testBit_eq_decide_div_mod_eq]
  unfold bitI
  have e : ((n : Int) / 2 ^ j % 2) = ((n / 2 ^ j % 2 : Nat) : Int) := by push_cast; rfl
  rw [e, Bool.eq_iff_iff]
  simp
  omega
theorem and_2046 (m : Int) : ibits .and .i64 m 2046 = (((BitVec.ofInt 64 m).toNat &&& 2046 : Nat) : Int) := by
  have h1 : (BitVec.ofInt 64 m).toNat &&& 2046 ≤ 2046 := Nat.and_le_right
  show IntKind.i64.wrap ((BitVec.ofInt 64 m &&& BitVec.ofInt 64 2046).toNat : Int) = _
  rw [BitVec.toNat_and, show (BitVec.ofInt 64 2046).toNat = 2046 from rfl]
  exact i64_eq (by omega) (by omega)
theorem bit_2046 (m : Int) {j : Nat} (hj : j < 11) : bitI (ibits .and .i64 m 2046) j = (decide (j ≠ 0) && bitI m j) := by
  rw [and_2046, bitI_nat, Nat.testBit_and]
  have e1 : bitI m j = (BitVec.ofInt 64 m).toNat.testBit j := by
    rw [← bitI_nat, BitVec.toNat_ofInt, ← bitU_eq m j (by omega)]
    unfold bitI
    rw [Int.toNat_of_nonneg (by omega)]
    rfl
  have e2 : (2046 : Nat).testBit j = decide (j ≠ 0) := by
    have : ∀ j : Fin 11, (2046 : Nat).testBit j.val = decide (j.val ≠ 0) := by decide
    exact this ⟨j, hj⟩
  rw [e1, e2, Bool.and_comm]
end Go.Proofs.YtbhamhhjicehaaaGreatDoor.Prt

/- part: what is heard, both sides. -/
namespace Go.Proofs.YtbhamhhjicehaaaGreatDoor.Prt
set_option linter.unusedSimpArgs false
set_option linter.unusedVariables false
open Go Go.AX Go.Proofs Ty Go.Proofs.YtbhamhhjicehaaaGreatDoor.File Go.Proofs.YtbhamhhjicehaaaGreatDoor.Ifs Go.Proofs.YtbhamhhjicehaaaGreatDoor.Uart
open Go.Proofs.YtbhamhhjicehaaaGreatDoor.Chk (Tb TabIn sndO snd mayB goodE encT)
set_option maxHeartbeats 4000000
set_option maxRecDepth 10000

def takeP (l : List Bool) : Int × Bool × Int := if l.getD 0 false = true ∨ l.getD 10 false = false then (0, false, 2) else (valu l 8, par l 9, 0)
theorem takev_eq (l : List Bool) : takev l = .tuple #[.int .u8 (takeP l).1, .bool (takeP l).2.1, .int .i64 (takeP l).2.2] := by
  unfold takev takeP
  split <;> rfl
def heardO (XS : List (List Nf)) (T : List Tb) (B : List Bool) (P : List Sp) (slot : Int) : Option Int :=
  if (frameP XS T B P slot).2.2 = true ∧ (takeP (frameP XS T B P slot).2.1).2.1 = false ∧ (takeP (frameP XS T B P slot).2.1).2.2 = 0 then some (takeP (frameP XS T B P slot).2.1).1 else none
def hdP (XS : List (List Nf)) (T : List Tb) (B : List Bool) (P : List Sp) : Hd := fun s => if 1 ≤ s ∧ s ≤ 16 then heardO XS T B P s else none
theorem Heard_c (S : List SR) (T : List Tb) (B : List Bool) (P : List Sp) (bs bt bb bp : Option Addr) (cs ct cb cp : Nat) (slot : Int) (H : AH) (hS : StsIn H bs cs S) (hT : TabIn H bt ct T) (hB : SlcIn H 1 bb cb (B.map encB1)) (hP : SlcIn H 2 bp cp (P.map encP)) (ht : TOk T) (hl1 : T.length ≤ S.length) (hl2 : T.length ≤ B.length) :
    ACalls Tryz.prog 52 #[.slice bs S.length cs, .slice bt T.length ct, .slice bb B.length cb, .slice bp P.length cp, .int .i64 slot] H (fun v H' => v = .tuple #[.int .u8 ((heardO (S.map (·.X)) T B P slot).getD 0), .bool (heardO (S.map (·.X)) T B P slot).isSome] ∧ H = H') := by
  have hfr := Frame_c S T B P bs bt bb bp cs ct cb cp slot H hS hT hB hP ht hl1 hl2
  have hlen := frame_len (S.map (·.X)) T B P slot
  obtain ⟨n, f, ok, e⟩ : ∃ n f ok, frameP (S.map (·.X)) T B P slot = (n, f, ok) := ⟨_, _, _, rfl⟩
  unfold heardO
  rw [e] at hfr hlen ⊢
  unfold frameV at hfr
  dsimp only at hfr hlen ⊢
  have hmf : (f.map Value.bool).length = 11 := by simp [hlen]
  have htk := fun H1 => Uart.Take_c f hlen H1
  rw [takev_eq] at htk
  obtain ⟨y, odd, er, et⟩ : ∃ y odd er, takeP f = (y, odd, er) := ⟨_, _, _, rfl⟩
  rw [et] at htk ⊢
  dsimp only at htk ⊢
  refine ACalls.enter2 Tryz.func52 rfl Tryz.ntmps52 Tryz.results52 (by simp) ?_; simp (dsimp := false) (maxSteps := 4000000) only [go_sem]
  refine hfr.mono ?_
  rintro _ _ ⟨rfl, rfl⟩
  simp (dsimp := false) (maxSteps := 4000000) only [go_sem]
  refine AllB.mk fun b13 h_b13 => ?_; have hn_b13 := h_b13; (try simp only [fresh_add, fresh_set, ne_eq] at hn_b13); have hr_b13 := hn_b13; (try simp only [@eq_comm Nat b13] at hr_b13); simp (dsimp := false) (maxSteps := 4000000) only [hn_b13, hr_b13, go_sem]
  simp (dsimp := false) (maxSteps := 4000000) only [hlen, hmf, hn_b13, hr_b13, go_sem]
  refine (htk _).mono ?_; rintro _ _ ⟨rfl, rfl⟩
  cases ok with
  | false =>
    simp (dsimp := false) (maxSteps := 4000000) only [hn_b13, hr_b13, go_sem]
    exact ⟨H, (AH.le_add (AH.le_refl _) ((by simp only [fresh_add, fresh_set, ne_eq, hn_b13, not_false_eq_true, and_self] : Fresh _ b13).2)), by simp, rfl⟩
  | true =>
    cases odd with
    | true =>
      simp (dsimp := false) (maxSteps := 4000000) only [hn_b13, hr_b13, go_sem]
      exact ⟨H, (AH.le_add (AH.le_refl _) ((by simp only [fresh_add, fresh_set, ne_eq, hn_b13, not_false_eq_true, and_self] : Fresh _ b13).2)), by simp, rfl⟩
    | false =>
      by_cases h0 : er = 0
      · simp (dsimp := false) (maxSteps := 4000000) only [h0, hn_b13, hr_b13, go_sem]
        exact ⟨H, (AH.le_add (AH.le_refl _) ((by simp only [fresh_add, fresh_set, ne_eq, hn_b13, not_false_eq_true, and_self] : Fresh _ b13).2)), by simp [h0], rfl⟩
      · simp (dsimp := false) (maxSteps := 4000000) only [h0, hn_b13, hr_b13, go_sem]
        exact ⟨H, (AH.le_add (AH.le_refl _) ((by simp only [fresh_add, fresh_set, ne_eq, hn_b13, not_false_eq_true, and_self] : Fresh _ b13).2)), by simp [h0], rfl⟩

end Go.Proofs.YtbhamhhjicehaaaGreatDoor.Prt

/- The engine: maps whose keys are structs; m[k] = append(m[k], ..). -/
namespace Go.AX
set_option linter.unusedSimpArgs false
set_option linter.unusedVariables false
open Go Go.RowKit

section
variable {P : Program} {H : AH} {n d : Nat} {ds : List (Option Tmp)} {fr : Fr} {K : Fr → AH → Prop} {q : Bool} {ty : TypeId} {pos : String} {af : Array Edge} {rest : List Oper}
def MEN (P : Program) (t : TypeId) (m key : Value) (H : AH) (k : Value → AH → Prop) (_t : Lk (k, H) := .mk) : Prop := ASem P (do pure (.value (← Instr.mapEntry t m key))) H k
def EST (P : Program) (t : TypeId) (m s x : Value) (H : AH) (k : Value → AH → Prop) (_t : Lk (k, H) := .mk) : Prop := ASem P (do Instr.entryStore t m s x; pure .skip) H k
theorem T_mapEntry {t : TypeId} {m i : Operand} : vops q P n ds (⟨(some d), .mapEntry t m i, ty, pos, af, none⟩ :: rest) fr H K = (d < n ∧ q = false ∧ wv fr m fun m => wv fr i fun i => MEN P t m i H fun v H' => vops q P n ds rest ((d, v) :: fr) H' K) := by
  rw [← dok_some]
  apply propext
  constructor
  · rintro ⟨h1, h2, _, h3, h4⟩
    have h2' : kn1 fr m = true ∧ kn1 fr i = true := by simpa [Op.operands] using h2
    exact ⟨h1, h3, h2'.1, h2'.2, h4⟩
  · rintro ⟨h1, h2, h3, h4, h5⟩
    exact ⟨h1, by have h3' : kn1 fr m = true := h3; have h4' : kn1 fr i = true := h4; simp [Op.operands, h3', h4'], rfl, h2, h5⟩
theorem T_entryStore {t : TypeId} {m s x : Operand} : vops q P n ds (⟨none, .entryStore t m s x, ty, pos, af, none⟩ :: rest) fr H K = (q = false ∧ wv fr m fun m => wv fr s fun s => wv fr x fun x => EST P t m s x H fun _ H' => vops q P n ds rest fr H' K) := by
  apply propext
  constructor
  · rintro ⟨h1, h2, _, h3, h4⟩
    have h2' : kn1 fr m = true ∧ kn1 fr s = true ∧ kn1 fr x = true := by simpa [Op.operands] using h2
    exact ⟨h3, h2'.1, h2'.2.1, h2'.2.2, h4⟩
  · rintro ⟨h2, h3, h4, h5, h6⟩
    exact ⟨rfl, by have h3' : kn1 fr m = true := h3; have h4' : kn1 fr s = true := h4; have h5' : kn1 fr x = true := h5; simp [Op.operands, h3', h4', h5'], rfl, h2, h6⟩
end
attribute [go_sem ↓] T_mapEntry T_entryStore

structure KeyOk (P : Program) {κ : Type} [DecidableEq κ] (kt : TypeId) (kv : κ → Value) : Prop where
  desc : ∃ d, P.underlying kt = some d ∧ ∀ a b, Instr.sameNow d (kv a) b = none
  chk : ∀ em k H, qrun P (Instr.checkKey em 10000 kt (kv k)) H = some ()
  eq : ∀ a b H, qrun P (Op.equal kt (kv a) (kv b)) H = some (decide (a = b))
  bits : ∀ k, Instr.sameBits 10000 (kv k) (kv k) = true
section
variable {P : Program} {κ : Type} [DecidableEq κ] {kt : TypeId} {kv : κ → Value}
def klk (k : κ) : List (κ × Value) → Nat → Option (Nat × Value)
  | [], _ => none
  | p :: l, i => if k = p.1 then some (i, p.2) else klk k l (i + 1)
def ke (kv : κ → Value) (l : List (κ × Value)) : List (Value × Value) := l.map fun p => (kv p.1, p.2)
theorem klk_some {k : κ} : ∀ {l : List (κ × Value)} {i j : Nat} {v : Value}, klk k l i = some (j, v) → ∃ m, j = i + m ∧ l[m]? = some (k, v)
  | [], _, _, _, h => by cases h
  | p :: l, i, j, v, h => by
    rw [klk] at h
    split at h
    · rename_i e; cases h; subst e; exact ⟨0, rfl, rfl⟩
    · obtain ⟨m, h1, h2⟩ := klk_some h
      exact ⟨m + 1, by omega, by simpa using h2⟩
theorem asking (hk : KeyOk P kt kv) (k : κ) (H : AH) : ∀ (es : List MapEntry) (l : List (κ × Value)) (i : Nat), es.map (fun x => (x.key, x.val)) = ke kv l → qrun P (Instr.findAsking kt (kv k) es i) H = some (klk k l i)
  | [], [], _, _ => rfl
  | [], _ :: _, _, h => by simp [ke] at h
  | _ :: _, [], _, h => by simp [ke] at h
  | e :: es, p :: l, i, h => by
    simp only [ke, List.map_cons, List.cons.injEq, Prod.mk.injEq] at h
    obtain ⟨⟨h1, h2⟩, h3⟩ := h
    unfold Instr.findAsking
    rw [qrun_bind, h1, hk.eq, Option.bind_some, klk]
    by_cases e' : k = p.1
    · simp [e', h2, qrun_pure]
    · simp only [e', decide_false, Bool.false_eq_true, if_false]
      exact asking hk k H es l (i + 1) h3
theorem findK (hk : KeyOk P kt kv) (k : κ) (H : AH) {es : List MapEntry} {l : List (κ × Value)} (h : es.map (fun x => (x.key, x.val)) = ke kv l) : qrun P (Instr.findKey kt (kv k) es) H = some (klk k l 0) := by
  obtain ⟨d, hd, hn⟩ := hk.desc
  simp only [Instr.findKey, qrun_bind, qrun_underlying, hd, Option.bind_some]
  cases es with
  | nil =>
    cases l with
    | nil => rfl
    | cons => simp [ke] at h
  | cons e es =>
    rw [Instr.findNow, hn]
    exact asking hk k H _ l 0 h
def mpS (P : Program) (t : TypeId) : Option (TypeId × Value) :=
  match P.underlying t with
  | some (.map kt e) => (P.info? e).bind fun i => i.zero.map fun z => (kt, z)
  | _ => none
theorem mpS_some {t kt : TypeId} {z : Value} (h : mpS P t = some (kt, z)) : ∃ e i, P.underlying t = some (.map kt e) ∧ P.info? e = some i ∧ i.zero = some z := by
  unfold mpS at h
  split at h
  · rename_i kt' e hu
    obtain ⟨i, hi, h⟩ := Option.bind_eq_some_iff.1 h
    obtain ⟨z', hz, h⟩ := Option.map_eq_some_iff.1 h
    simp only [Prod.mk.injEq] at h
    obtain ⟨rfl, rfl⟩ := h
    exact ⟨e, i, hu, hi, hz⟩
  · cases h
theorem LKS.map {H : AH} {t r : Nat} {k : κ} {z : Value} {ok : Bool} {l : List (κ × Value)} {K : Value → AH → Prop} (hk : KeyOk P kt kv) (ht : mpS P t = some (kt, z)) (hf : H.find r = some (.amap (ke kv l))) (h : K (mres ok z (klk k l 0)) H) :
    LKS P t (.map (some r)) (kv k) ok H K := by
  obtain ⟨e, i, hu, hi, hz⟩ := mpS_some ht
  unfold LKS Instr.lookup
  refine arun_qbind ((qrun_underlying t).trans hu) ?_
  rw [arun_bind]
  simp only [getObj, arun, hf]
  intro en cl hm
  refine arun_qbind (a := en) rfl ?_
  refine arun_qbind (hk.chk _ _ _) ?_
  refine arun_qbind (findK hk k H hm.1) ?_
  cases ho : klk k l 0 with
  | some p =>
    obtain ⟨j, v⟩ := p
    rw [ho] at h
    refine arun_qbind (a := (v, true)) rfl ?_
    exact h
  | none =>
    rw [ho] at h
    refine arun_qbind (qrun_zeroValue hi hz) ?_
    refine arun_qbind (a := (z, false)) rfl ?_
    exact h
def kput (l : List (κ × Value)) (k : κ) (v : Value) : Option (Nat × Value) → List (κ × Value)
  | some (i, _) => l.set i (k, v)
  | none => l ++ [(k, v)]
theorem born_push {en : Array MapEntry} {cl : Nat} (h : BornOk en cl) (k v : Value) : BornOk (en.push { key := k, val := v, born := cl }) (cl + 1) := by
  refine ⟨fun x hx => ?_, ?_⟩
  · simp only [Array.toList_push, List.mem_append, List.mem_singleton] at hx
    rcases hx with hx | hx
    · have := h.1 x hx; omega
    · subst hx; simp
  · rw [Array.toList_push, List.map_append, List.nodup_append]
    refine ⟨h.2, by simp, fun a ha b hb => ?_⟩
    obtain ⟨x, hx, rfl⟩ := List.mem_map.1 ha
    have := h.1 x hx
    simp at hb; omega
theorem born_modify {en : Array MapEntry} {cl j : Nat} {f : MapEntry → MapEntry} (hf : ∀ x, (f x).born = x.born) (h : BornOk en cl) : BornOk (en.modify j f) cl := by
  have hmb : (en.modify j f).toList.map (·.born) = en.toList.map (·.born) := by
    apply List.ext_getElem?
    intro q
    simp only [List.getElem?_map, Array.getElem?_toList, Array.getElem?_modify]
    split
    · rename_i e; subst e; cases en[j]? <;> simp [hf]
    · rfl
  refine ⟨fun y hy => ?_, hmb ▸ h.2⟩
  obtain ⟨q, hq⟩ := List.mem_iff_getElem?.1 hy
  rw [Array.getElem?_toList, Array.getElem?_modify] at hq
  split at hq
  · obtain ⟨y0, hy0, rfl⟩ := Option.map_eq_some_iff.1 hq
    rw [hf]
    exact h.1 y0 (List.mem_iff_getElem?.2 ⟨q, by simpa using hy0⟩)
  · exact h.1 y (List.mem_iff_getElem?.2 ⟨q, by simpa using hq⟩)
theorem ent_set {α : Type} {kv : α → Value} {en : Array MapEntry} {l : List (α × Value)} {j : Nat} {k : α} {v0 v : Value} (h : en.toList.map (fun x => (x.key, x.val)) = ke kv l) (hj : l[j]? = some (k, v0)) :
    (en.modify j fun e => { e with key := kv k, val := v }).toList.map (fun x => (x.key, x.val)) = ke kv (l.set j (k, v)) := by
  have hlen : en.size = l.length := by have := congrArg List.length h; simpa [ke] using this
  have hlt : j < l.length := lt_of_get hj
  apply List.ext_getElem?
  intro q
  have hq0 := congrArg (fun y => y[q]?) h
  simp only [ke, List.getElem?_map, Array.getElem?_toList] at hq0
  simp only [ke, List.getElem?_map, Array.getElem?_toList, Array.getElem?_modify, List.getElem?_set]
  by_cases hq : j = q
  · subst hq
    obtain ⟨x, hx⟩ : ∃ x, en[j]? = some x := ⟨en[j], by simp [hlen, hlt]⟩
    simp [hx, hlt]
  · simp only [hq, if_false]
    exact hq0
theorem ent_get {α : Type} {kv : α → Value} {en : Array MapEntry} {l : List (α × Value)} {j : Nat} {k : α} {v0 : Value} (h : en.toList.map (fun x => (x.key, x.val)) = ke kv l) (hj : l[j]? = some (k, v0)) : ∃ x, en[j]? = some x ∧ x.key = kv k ∧ x.val = v0 := by
  have hq0 := congrArg (fun y => y[j]?) h
  simp only [ke, List.getElem?_map, Array.getElem?_toList, hj, Option.map_some] at hq0
  obtain ⟨x, hx, hx2⟩ := Option.map_eq_some_iff.1 hq0
  simp only [Prod.mk.injEq] at hx2
  exact ⟨x, hx, hx2.1, hx2.2⟩
theorem MUS.map {H : AH} {t r : Nat} {k : κ} {z v : Value} {l : List (κ × Value)} {K : AH → Prop} (hk : KeyOk P kt kv) (ht : mpS P t = some (kt, z)) (hf : H.find r = some (.amap (ke kv l))) (h : K (H.set r (.amap (ke kv (kput l k v (klk k l 0)))))) :
    MUS P t (.map (some r)) (kv k) v H K := by
  obtain ⟨e, i, hu, hi, hz⟩ := mpS_some ht
  unfold MUS Instr.mapUpdate
  refine arun_qbind ((qrun_underlying t).trans hu) ?_
  rw [arun_bind]
  simp only [getObj, arun, hf]
  intro en cl hm
  refine arun_qbind (hk.chk _ _ _) ?_
  refine arun_qbind (findK hk k H hm.1) ?_
  cases ho : klk k l 0 with
  | none =>
    rw [ho] at h
    simp only [setObj, arun, hf]
    refine ⟨born_push hm.2 _ _, ?_⟩
    have e1 : (en.push { key := kv k, val := v, born := cl }).toList.map (fun x => (x.key, x.val)) = ke kv (l ++ [(k, v)]) := by
      rw [Array.toList_push, List.map_append, hm.1]; simp [ke]
    rw [e1]; exact h
  | some p =>
    obtain ⟨j, v0⟩ := p
    rw [ho] at h
    obtain ⟨m, rfl, hj⟩ := klk_some ho
    rw [Nat.zero_add] at h ⊢
    obtain ⟨x, hx, hxk, _⟩ := ent_get hm.1 hj
    have hkey : ((en[m]?).map (·.key)).getD (kv k) = kv k := by rw [hx]; exact hxk
    refine arun_qbind (a := kv k) (by simp only [hkey, Instr.keyThatStays, hk.bits, if_true, qrun_pure]) ?_
    simp only [setObj, arun, hf]
    refine ⟨born_modify (fun _ => rfl) hm.2, ?_⟩
    rw [ent_set hm.1 hj]; exact h

theorem set_set (H : AH) (b : Nat) (k k' : ABlk) : (H.set b k).set b k' = H.set b k' := by
  have : ∀ l : List (Nat × ABlk), aset b k' (aset b k l) = aset b k' l := by
    intro l
    induction l with
    | nil => simp [aset]
    | cons p l ih =>
      obtain ⟨a, x⟩ := p
      simp only [aset]
      split
      · rename_i e; simp [aset, e]
      · rename_i hne
        simp only [aset, hne, if_false, ih, Bool.false_eq_true]
  simp [AH.set, this]
def StampAt (en : Array MapEntry) (st : Int) (i : Nat) : Prop := en.findIdx? (fun e => (e.born : Int) == st) = some i
theorem stamp_of {en : Array MapEntry} {cl i : Nat} {x : MapEntry} (hb : BornOk en cl) (hx : en[i]? = some x) : StampAt en (x.born : Int) i := by
  unfold StampAt
  rw [Array.findIdx?_eq_some_iff_getElem]
  obtain ⟨hi, hxi⟩ := Array.getElem?_eq_some_iff.1 hx
  refine ⟨hi, by simp [hxi], fun j hj => ?_⟩
  simp only [beq_iff_eq, Int.natCast_inj]
  intro e
  have h1 : (en.toList.map (·.born))[j]? = some x.born := by simp [Nat.lt_trans hj hi, e]
  have h2 : (en.toList.map (·.born))[i]? = some x.born := by simp [hi, hxi]
  exact absurd ((List.getElem?_inj (by simpa using Nat.lt_trans hj hi) hb.2).1 (h1.trans h2.symm)) (by omega)
theorem MEN.map {H : AH} {t r : Nat} {k : κ} {z : Value} {l : List (κ × Value)} {K : Value → AH → Prop} (hk : KeyOk P kt kv) (ht : mpS P t = some (kt, z)) (hf : H.find r = some (.amap (ke kv l)))
    (h1 : ∀ i v st en cl, l[i]? = some (k, v) → klk k l 0 = some (i, v) → MapIs (ke kv l) en cl → StampAt en st i → K (.tuple #[v, .int .i64 st]) (H.set r (.obj (.map en cl))))
    (h2 : ∀ st en cl, klk k l 0 = none → MapIs (ke kv (l ++ [(k, z)])) en cl → StampAt en st l.length → K (.tuple #[z, .int .i64 st]) (H.set r (.obj (.map en cl)))) :
    MEN P t (.map (some r)) (kv k) H K := fun E w hs => by
  obtain ⟨e, i, hu, hi, hz⟩ := mpS_some ht
  obtain ⟨en, cl, hm, hs'⟩ := hs.exact hf
  refine ASem.of_arun (H := H.set r (.obj (.map en cl))) (K := K) ?_ E w hs'
  rw [arun_bind]
  unfold Instr.mapEntry
  refine arun_qbind ((qrun_underlying t).trans hu) ?_
  have hf' : (H.set r (.obj (.map en cl))).find r = some (.obj (.map en cl)) := by rw [find_set, if_pos rfl]
  rw [arun_bind]
  simp only [getObj, arun, hf']
  refine arun_qbind (hk.chk _ _ _) ?_
  refine arun_qbind (findK hk k _ hm.1) ?_
  cases ho : klk k l 0 with
  | none =>
    refine arun_qbind (qrun_zeroValue hi hz) ?_
    simp only [setObj, arun_bind, arun, hf', isC, true_and]
    have hb := born_push hm.2 (kv k) z
    have e1 : (en.push { key := kv k, val := z, born := cl }).toList.map (fun x => (x.key, x.val)) = ke kv (l ++ [(k, z)]) := by
      rw [Array.toList_push, List.map_append, hm.1]; simp [ke]
    have hlen : en.size = l.length := by have := congrArg List.length hm.1; simpa [ke] using this
    have hst := stamp_of (i := l.length) hb (x := { key := kv k, val := z, born := cl }) (by rw [← hlen]; simp)
    have := h2 cl _ _ ho ⟨e1, hb⟩ hst
    rw [set_set]
    exact this
  | some p =>
    obtain ⟨j, v0⟩ := p
    obtain ⟨m, rfl, hj⟩ := klk_some ho
    rw [Nat.zero_add] at ho ⊢
    obtain ⟨x, hx, hxk, hxv⟩ := ent_get hm.1 hj
    have hkey : ((en[m]?).map (·.key)).getD (kv k) = kv k := by rw [hx]; exact hxk
    refine arun_qbind (a := kv k) (by simp only [hkey, Instr.keyThatStays, hk.bits, if_true, qrun_pure]) ?_
    simp only [setObj, arun_bind, arun, hf', isC, true_and]
    have hmod : (en.modify m fun e => { e with key := kv k }) = en := by
      apply Array.ext_getElem?
      intro q
      rw [Array.getElem?_modify]
      split
      · rename_i e; subst e; rw [hx, Option.map_some, ← hxk]
      · rfl
    have hborn : ((en[m]?).map (fun x => (x.born : Int))).getD 0 = (x.born : Int) := by rw [hx]; rfl
    rw [hmod, hborn, set_set]
    exact h1 m v0 x.born en cl hj ho hm (stamp_of hm.2 hx)
theorem EST.map {α : Type} {kv : α → Value} {H : AH} {t r i cl : Nat} {st : Int} {k : α} {v0 v : Value} {en : Array MapEntry} {l : List (α × Value)} {K : Value → AH → Prop} (hf : H.find r = some (.obj (.map en cl))) (hm : MapIs (ke kv l) en cl) (hst : StampAt en st i) (hl : l[i]? = some (k, v0))
    (h : K undef (H.set r (.amap (ke kv (l.set i (k, v)))))) : EST P t (.map (some r)) (.int .i64 st) v H K := fun E w hs => by
  obtain ⟨x, hx, hxk, _⟩ := ent_get hm.1 hl
  have hmod : (en.modify i fun e => { e with val := v }) = en.modify i fun e => { e with key := kv k, val := v } := by
    apply Array.ext_getElem?
    intro q
    rw [Array.getElem?_modify, Array.getElem?_modify]
    split
    · rename_i e; subst e; rw [hx, Option.map_some, Option.map_some, ← hxk]
    · rfl
  have ha : arun P (do Instr.entryStore t (.map (some r)) (.int .i64 st) v; pure Next.skip : Sem Next) H (fun nx H' => nx = .skip ∧ H' = H.set r (.obj (.map (en.modify i fun e => { e with val := v }) cl))) := by
    rw [arun_bind]
    unfold Instr.entryStore
    have hst' : en.findIdx? (fun e => (e.born : Int) == st) = some i := hst
    simp only [getObj, arun_bind, arun, hf]
    refine arun_qbind (show qrun P (asIntOf (.int .i64 st)) H = some (.i64, st) from rfl) ?_
    show arun P (match en.findIdx? (fun e => (e.born : Int) == st) with
      | some i => setObj r (Obj.map (en.modify i fun e => { e with val := v }) cl)
      | none => unsupported (Unsupported.noEntry "instr/MapEntry.the entry is gone")) H _
    rw [hst']
    simp only [setObj, arun, hf, isC, true_and]
    exact ⟨rfl, rfl⟩
  obtain ⟨nx, w', H', q1, q2, rfl, rfl⟩ := arun_sound P _ H _ w ha hs
  refine ⟨.skip, w', H.set r (.amap (ke kv (l.set i (k, v)))), q1, ?_, h⟩
  refine Imp.amap (H := H.set r (.obj (.map (en.modify i fun e => { e with val := v }) cl))) (H' := H.set r (.amap (ke kv (l.set i (k, v))))) (m := r) (en := en.modify i fun e => { e with val := v }) (cl := cl) (by rw [find_set, if_pos rfl]) (es := ke kv (l.set i (k, v))) ⟨by rw [hmod]; exact ent_set hm.1 hl, born_modify (fun _ => rfl) hm.2⟩ rfl (fun b k' hk' hne => ?_) (fun k' hk' => ?_) _ _ q2
  · rw [find_set, if_neg hne] at hk' ⊢; exact hk'
  · rw [find_set, if_pos rfl] at hk'; cases hk'; rfl
end
end Go.AX

/- part: what is received, by places: slices that grow side by side. -/
namespace Go.Proofs.YtbhamhhjicehaaaGreatDoor.Prt
set_option linter.unusedSimpArgs false
set_option linter.unusedVariables false
open Go Go.AX Go.Proofs Ty Go.Proofs.YtbhamhhjicehaaaGreatDoor.File Go.Proofs.YtbhamhhjicehaaaGreatDoor.Ifs
open Go.Proofs.YtbhamhhjicehaaaGreatDoor.Chk (encE)
set_option maxHeartbeats 4000000
set_option maxRecDepth 10000

section
variable {X Y : List Nf} (hp : X.Perm Y) (hk : Kd X)
include hp hk
theorem getW_p (n rec : Int) : getW X n rec = getW Y n rec := by rw [getW, getW, lk_perm hp hk]
theorem setOk_p (n rec : Int) : setOk X n rec = setOk Y n rec := by rw [setOk, setOk, getW_p hp hk]
theorem setX_p (n rec : Int) (v : Rc) : (setX X n rec v).Perm (setX Y n rec v) := by
  rw [setX, setX, setOk_p hp hk, lk_perm hp hk]
  split
  · split
    · exact hp
    · exact rp_perm hp
  · exact hp
theorem doE_p (op fl rec : Int) : doE X op fl rec = doE Y op fl rec := by rw [doE, doE, lk_perm hp hk]
theorem doD_p (op fl rec d : Int) : doD X op fl rec d = doD Y op fl rec d := by rw [doD, doD, doE_p hp hk]
theorem doX_p (op fl rec : Int) (v : Rc) : (doX X op fl rec v).Perm (doX Y op fl rec v) := by
  rw [doX, doX, doE_p hp hk, lk_perm hp hk]
  split
  · split
    · exact hp
    · exact rp_perm hp
  · exact hp
end
theorem setX_kd {X : List Nf} (h : Kd X) (n rec : Int) (v : Rc) : Kd (setX X n rec v) := by
  unfold setX
  split
  · split
    · exact h
    · exact rp_kd h
  · exact h
theorem doX_kd {X : List Nf} (h : Kd X) (op fl rec : Int) (v : Rc) : Kd (doX X op fl rec v) := by
  unfold doX
  split
  · split
    · exact h
    · exact rp_kd h
  · exact h
theorem stepP_p (T : List En) (hd : Hd) {X Y : List Nf} (hp : X.Perm Y) (hk : Kd X) (p : Pl) : (stepP T hd X p).Perm (stepP T hd Y p) ∧ Kd (stepP T hd X p) := by
  unfold stepP
  rw [← getW_p hp hk]
  split
  · exact ⟨hp, hk⟩
  · split
    · exact ⟨setX_p hp hk _ _ _, setX_kd hk _ _ _⟩
    · exact ⟨hp, hk⟩
theorem fold_p (T : List En) (hd : Hd) : ∀ (l : List Pl) {X Y : List Nf}, X.Perm Y → Kd X → (l.foldl (stepP T hd) X).Perm (l.foldl (stepP T hd) Y) ∧ Kd (l.foldl (stepP T hd) X)
  | [], _, _, hp, hk => ⟨hp, hk⟩
  | p :: l, _, _, hp, hk => fold_p T hd l (stepP_p T hd hp hk p).1 (stepP_p T hd hp hk p).2
theorem app2_p : ∀ (T : List En) {X Y : List Nf} {d : Int}, X.Perm Y → Kd X → (app2 T (X, d)).1.Perm (app2 T (Y, d)).1 ∧ (app2 T (X, d)).2 = (app2 T (Y, d)).2
  | [], _, _, _, hp, _ => ⟨hp, rfl⟩
  | x :: T, X, Y, d, hp, hk => by
    show (app2 T (exE (X, d) x)).1.Perm (app2 T (exE (Y, d) x)).1 ∧ (app2 T (exE (X, d) x)).2 = (app2 T (exE (Y, d) x)).2
    unfold exE
    by_cases h : x.1 = 3
    · rw [if_pos h, if_pos h]
      dsimp only
      rw [doD_p hp hk]
      exact app2_p T (doX_p hp hk _ _ _ _) (doX_kd hk _ _ _ _)
    · rw [if_neg h, if_neg h]
      exact app2_p T hp hk
theorem app_p (T : List En) (hd : Hd) {X Y : List Nf} {d : Int} (hp : X.Perm Y) (hk : Kd X) : (app T hd X d).1.Perm (app T hd Y d).1 ∧ (app T hd X d).2 = (app T hd Y d).2 :=
  app2_p T (fold_p T hd _ hp hk).1 (fold_p T hd _ hp hk).2

structure Gp where
  p : Pl
  base : Option Addr
  cap : Nat
  L : List En
def kP (p : Pl) : Value := .agg #[.int .i64 p.1, .int .i64 p.2]
def gE (G : List Gp) : List (Pl × Value) := G.map fun g => (g.p, .slice g.base g.L.length g.cap)
theorem got_snoc (T : List En) (x : En) (p : Pl) : got (T ++ [x]) p = got T p ++ if isP p x = true then [x] else [] := by
  rw [got, got, List.filter_append]
  cases h : isP p x <;> simp [h]
structure GInv (M A : AH) (T : List En) (G : List Gp) : Prop where
  own : ∀ g ∈ G, OwnS M A 78 5 g.base g.cap (g.L.map encE)
  eq : ∀ g ∈ G, g.L ≠ [] ∧ g.L = got T g.p
  all : ∀ p, got T p ≠ [] → ∃ g ∈ G, g.p = p
  nd : (G.map (·.p)).Nodup
  ap : ∀ (i j : Nat) (g g' : Gp), G[i]? = some g → G[j]? = some g' → i ≠ j → ∀ a a', g.base = some a → g'.base = some a' → a.block ≠ a'.block
theorem GInv.nil (M A : AH) : GInv M A [] [] := ⟨by simp, by simp, by simp [got], by simp, by simp⟩
theorem GInv.keep {M A B : AH} {T : List En} {G : List Gp} {ex : Nat → Prop} (h : GInv M A T G) (hK : Keep A B ex) (hx : ∀ b, ex b → ¬ ∃ g ∈ G, ∃ a, g.base = some a ∧ a.block = b) : GInv M B T G :=
  ⟨fun g hg => (h.own g hg).keep hK fun a ha he => hx _ he ⟨g, hg, a, ha, rfl⟩, h.eq, h.all, h.nd, h.ap⟩
theorem GInv.skip {M A : AH} {T : List En} {G : List Gp} {x : En} (h : GInv M A T G) (hx : x.1 ≠ 2) : GInv M A (T ++ [x]) G := by
  have e : ∀ p, got (T ++ [x]) p = got T p := fun p => by rw [got_snoc, if_neg (by simp [isP, hx]), List.append_nil]
  exact ⟨h.own, fun g hg => by rw [e]; exact h.eq g hg, fun p hp => h.all p (by rwa [e] at hp), h.nd, h.ap⟩
theorem GInv.base {M A : AH} {T : List En} {G : List Gp} {g : Gp} (h : GInv M A T G) (hg : g ∈ G) {a : Addr} (ha : g.base = some a) : (∃ k, A.find a.block = some k) ∧ Fresh M a.block := by
  rcases (h.own g hg).at_ with ⟨h1, _⟩ | ⟨b, bs, h1, h2, _, h3⟩
  · rw [ha] at h1; cases h1
  · rw [ha] at h1; cases h1; exact ⟨⟨_, h2⟩, h3⟩
theorem GInv.cells {M A : AH} {T : List En} {G : List Gp} {g : Gp} (h : GInv M A T G) (hg : g ∈ G) {a : Addr} (ha : g.base = some a) : ∃ cs e bs, A.find a.block = some (.cells cs e bs) := by
  rcases (h.own g hg).at_ with ⟨h1, _⟩ | ⟨b, bs, h1, h2, _, h3⟩
  · rw [ha] at h1; cases h1
  · rw [ha] at h1; cases h1; exact ⟨_, _, _, h2⟩
theorem GInv.upd {M A B : AH} {T : List En} {G : List Gp} {x : En} {j : Nat} {g : Gp} {base' : Option Addr} {cap' : Nat} (h : GInv M A T G) (hj : G[j]? = some g) (hx : x.1 = 2) (hp : g.p = pl x)
    (hO : OwnS M B 78 5 base' cap' ((g.L ++ [x]).map encE)) (hK : Keep A B (exB g.base)) (hn : ∀ a, base' = some a → (∃ a', g.base = some a' ∧ a.block = a'.block) ∨ Fresh A a.block) : GInv M B (T ++ [x]) (G.set j ⟨g.p, base', cap', g.L ++ [x]⟩) := by
  have hjl := Go.AX.lt_of_get hj
  have hgm := List.mem_of_getElem? hj
  have other : ∀ i g', G[i]? = some g' → i ≠ j → g'.p ≠ g.p := fun i g' hi hne e => by
    have h1 : (G.map (·.p))[i]? = some g.p := by simp [hi, e]
    have h2 : (G.map (·.p))[j]? = some g.p := by simp [hj]
    exact hne ((List.getElem?_inj (by simpa using Go.AX.lt_of_get hi) h.nd).1 (h1.trans h2.symm))
  have get : ∀ {i g'}, (G.set j ⟨g.p, base', cap', g.L ++ [x]⟩)[i]? = some g' → (i = j ∧ g' = ⟨g.p, base', cap', g.L ++ [x]⟩) ∨ (i ≠ j ∧ G[i]? = some g') := fun {i g'} hi => by
    by_cases e : j = i
    · subst e
      rw [List.getElem?_set_self hjl] at hi
      exact .inl ⟨rfl, (Option.some.inj hi).symm⟩
    · rw [List.getElem?_set_ne e] at hi
      exact .inr ⟨fun e' => e e'.symm, hi⟩
  have far : ∀ i g' a, G[i]? = some g' → i ≠ j → g'.base = some a → ¬ exB g.base a.block := fun i g' a hi hne ha ⟨a', ha', e⟩ => h.ap i j g' g hi hj hne a a' ha ha' e
  have fr : ∀ (i : Nat) (g' : Gp) (a a' : Addr), G[i]? = some g' → i ≠ j → g'.base = some a → base' = some a' → a.block ≠ a'.block := fun i g' a a' hi hne ha ha' e => by
    rcases hn a' ha' with ⟨a2, h2, e2⟩ | hf
    · exact far i g' a hi hne ha ⟨a2, h2, e.trans e2⟩
    · obtain ⟨⟨k, hk⟩, _⟩ := h.base (List.mem_of_getElem? hi) ha
      exact hf.ne_find hk e.symm
  have isx : isP (pl x) x = true := by simp [isP, hx]
  refine ⟨fun g' hg' => ?_, fun g' hg' => ?_, fun p hpn => ?_, ?_, fun i i' g1 g2 h1 h2 hne a a' ha ha' => ?_⟩
  · obtain ⟨i, hi⟩ := List.mem_iff_getElem?.1 hg'
    rcases get hi with ⟨_, rfl⟩ | ⟨hne, hi⟩
    · exact hO
    · exact (h.own g' (List.mem_of_getElem? hi)).keep hK fun a ha => far i g' a hi hne ha
  · obtain ⟨i, hi⟩ := List.mem_iff_getElem?.1 hg'
    rcases get hi with ⟨_, rfl⟩ | ⟨hne, hi⟩
    · refine ⟨by simp, ?_⟩
      dsimp only
      rw [got_snoc, hp, if_pos isx, ← hp, ← (h.eq g hgm).2]
    · refine ⟨(h.eq g' (List.mem_of_getElem? hi)).1, ?_⟩
      rw [got_snoc, if_neg, List.append_nil]
      · exact (h.eq g' (List.mem_of_getElem? hi)).2
      · intro hh
        simp only [isP, Bool.and_eq_true, decide_eq_true_eq] at hh
        exact other i g' hi hne (hh.2.symm.trans hp.symm)
  · by_cases e : p = g.p
    · exact ⟨_, List.mem_of_getElem? (i := j) (List.getElem?_set_self hjl), e.symm⟩
    · rw [got_snoc, if_neg, List.append_nil] at hpn
      · obtain ⟨g', hg', e'⟩ := h.all p hpn
        obtain ⟨i, hi⟩ := List.mem_iff_getElem?.1 hg'
        have hne : i ≠ j := fun e2 => by
          subst e2
          rw [hj] at hi; cases hi; exact e e'.symm
        exact ⟨g', List.mem_of_getElem? (i := i) (by rw [List.getElem?_set_ne (fun e => hne e.symm)]; exact hi), e'⟩
      · intro hh
        simp only [isP, Bool.and_eq_true, decide_eq_true_eq] at hh
        exact e (hh.2.symm.trans hp.symm)
  · have : (G.set j ⟨g.p, base', cap', g.L ++ [x]⟩).map (·.p) = G.map (·.p) := by
      apply List.ext_getElem?
      intro q
      rw [List.getElem?_map]
      by_cases e : j = q
      · subst e; rw [List.getElem?_set_self hjl, List.getElem?_map, hj]; rfl
      · rw [List.getElem?_set_ne e, List.getElem?_map]
    rw [this]; exact h.nd
  · rcases get h1 with ⟨e1, rfl⟩ | ⟨n1, h1⟩
    · rcases get h2 with ⟨e2, rfl⟩ | ⟨n2, h2⟩
      · exact absurd (e1.trans e2.symm) hne
      · exact fun e => fr i' g2 a' a h2 n2 ha' ha e.symm
    · rcases get h2 with ⟨e2, rfl⟩ | ⟨n2, h2⟩
      · exact fr i g1 a a' h1 n1 ha ha'
      · exact h.ap i i' g1 g2 h1 h2 hne a a' ha ha'
theorem GInv.new {M A B : AH} {T : List En} {G : List Gp} {x : En} {base' : Option Addr} {cap' : Nat} (h : GInv M A T G) (hno : ∀ g ∈ G, g.p ≠ pl x) (hx : x.1 = 2)
    (hO : OwnS M B 78 5 base' cap' ([x].map encE)) (hK : Keep A B fun _ => False) (hn : ∀ a, base' = some a → Fresh A a.block) : GInv M B (T ++ [x]) (G ++ [⟨pl x, base', cap', [x]⟩]) := by
  have isx : isP (pl x) x = true := by simp [isP, hx]
  have g0 : got T (pl x) = [] := Decidable.byContradiction fun hh => by
    obtain ⟨g, hg, e⟩ := h.all _ hh
    exact hno g hg e
  have isn : ∀ p, p ≠ pl x → got (T ++ [x]) p = got T p := fun p hp => by
    rw [got_snoc, if_neg, List.append_nil]
    intro hh
    simp only [isP, Bool.and_eq_true, decide_eq_true_eq] at hh
    exact hp hh.2.symm
  have get : ∀ {i g'}, (G ++ [(⟨pl x, base', cap', [x]⟩ : Gp)])[i]? = some g' → (i = G.length ∧ g' = ⟨pl x, base', cap', [x]⟩) ∨ (i < G.length ∧ G[i]? = some g') := fun {i g'} hi => by
    rcases Nat.lt_or_ge i G.length with hl | hl
    · rw [List.getElem?_append_left hl] at hi; exact .inr ⟨hl, hi⟩
    · rw [List.getElem?_append_right hl] at hi
      have : i = G.length := by
        have := Go.AX.lt_of_get hi
        simp at this; omega
      subst this
      simp at hi; exact .inl ⟨rfl, hi.symm⟩
  have fr : ∀ (i : Nat) (g' : Gp) (a a' : Addr), G[i]? = some g' → g'.base = some a → base' = some a' → a.block ≠ a'.block := fun i g' a a' hi ha ha' e => by
    obtain ⟨⟨k, hk⟩, _⟩ := h.base (List.mem_of_getElem? hi) ha
    exact (hn a' ha').ne_find hk e.symm
  refine ⟨fun g' hg' => ?_, fun g' hg' => ?_, fun p hpn => ?_, ?_, fun i i' g1 g2 h1 h2 hne a a' ha ha' => ?_⟩
  · rcases List.mem_append.1 hg' with hg | hg
    · exact (h.own g' hg).keep hK fun _ _ h => h
    · obtain rfl := List.mem_singleton.1 hg; exact hO
  · rcases List.mem_append.1 hg' with hg | hg
    · refine ⟨(h.eq g' hg).1, ?_⟩
      rw [isn _ (hno g' hg)]; exact (h.eq g' hg).2
    · obtain rfl := List.mem_singleton.1 hg
      exact ⟨by simp, by dsimp only; rw [got_snoc, if_pos isx, g0]; rfl⟩
  · by_cases e : p = pl x
    · exact ⟨_, List.mem_append_right _ (List.mem_singleton.2 rfl), e.symm⟩
    · rw [isn p e] at hpn
      obtain ⟨g, hg, e'⟩ := h.all p hpn
      exact ⟨g, List.mem_append_left _ hg, e'⟩
  · rw [List.map_append, List.nodup_append]
    refine ⟨h.nd, by simp, fun a ha b hb => ?_⟩
    obtain ⟨g, hg, rfl⟩ := List.mem_map.1 ha
    simp at hb; subst hb
    exact hno g hg
  · rcases get h1 with ⟨e1, rfl⟩ | ⟨n1, h1⟩
    · rcases get h2 with ⟨e2, rfl⟩ | ⟨n2, h2⟩
      · exact absurd (e1.trans e2.symm) hne
      · exact fun e => fr i' g2 a' a h2 ha' ha e.symm
    · rcases get h2 with ⟨e2, rfl⟩ | ⟨n2, h2⟩
      · exact fr i g1 a a' h1 ha ha'
      · exact h.ap i i' g1 g2 h1 h2 hne a a' ha ha'

theorem placeOk : KeyOk Tryz.prog (κ := Pl) 133 kP :=
  ⟨⟨_, Tryz.underlying133, fun _ _ => rfl⟩, fun em k H => by kernel_rfl, fun a b H => by
    have h := eqi_133 (H := H) (m := 9998) a.1 b.1 a.2 b.2
    have e : ((a.1 == b.1) && (a.2 == b.2)) = decide (a = b) := by
      rw [Bool.eq_iff_iff]; simp [Prod.ext_iff]
    rw [e] at h
    exact h, fun k => by simp [kP, Instr.sameBits]⟩
theorem ms_lost : mpS Tryz.prog 130 = some (133, .bool false) := by kernel_rfl
theorem ms_got : mpS Tryz.prog 131 = some (133, .slice none 0 0) := by kernel_rfl
end Go.Proofs.YtbhamhhjicehaaaGreatDoor.Prt

/- part: Apply. -/
namespace Go.Proofs.YtbhamhhjicehaaaGreatDoor.Prt
set_option linter.unusedSimpArgs false
set_option linter.unusedVariables false
open Go Go.AX Go.Proofs Ty Go.Proofs.YtbhamhhjicehaaaGreatDoor.File Go.Proofs.YtbhamhhjicehaaaGreatDoor.Ifs Go.Proofs.YtbhamhhjicehaaaGreatDoor.Err
open Go.Proofs.YtbhamhhjicehaaaGreatDoor.Chk (encE encE_len encE_scal encE_z5 encE_take)
set_option maxHeartbeats 4000000
set_option maxRecDepth 10000

def Hm (H : AH) (tv : Value) (hd : Hd) : Prop := ∃ bm es, tv = .map (some bm) ∧ H.find bm = some (.amap es) ∧ ∀ i : Int, (hd i = none ∧ mlk (.int .i64) (.int .i64 i) es 0 = some none) ∨ ∃ y k, hd i = some y ∧ mlk (.int .i64) (.int .i64 i) es 0 = some (some (k, .int .u8 y))
theorem Hm.keep {H H' : AH} {tv : Value} {hd : Hd} {ex : Nat → Prop} (h : Hm H tv hd) (hK : Keep H H' ex) (hx : ∀ b, tv = .map (some b) → ¬ ex b) : Hm H' tv hd := by
  obtain ⟨bm, es, h1, h2, h3⟩ := h
  exact ⟨bm, es, h1, hK.find (hx bm h1) h2, h3⟩
theorem lkp_hm {H : AH} {tv : Value} {hd : Hd} (h : Hm H tv hd) (i : Int) (k : Value → AH → Prop) : lkp Tryz.prog 70 tv (.int .i64 i) false H k = k (.int .u8 ((hd i).getD 0)) H := by
  unfold lkp
  obtain ⟨bm, es, rfl, h2, h3⟩ := h
  have hmp : H.mp bm = some es := by rw [AH.mp, h2]
  rcases h3 i with ⟨h5, h4⟩ | ⟨y, q, h5, h4⟩
  · simp only [me_70, wo, hmp, h4, mres, nv, h5]
    simp
  · simp only [me_70, wo, hmp, h4, mres, nv, h5]
    simp
theorem lkp_hmo {H : AH} {tv : Value} {hd : Hd} (h : Hm H tv hd) (i : Int) (k : Value → AH → Prop) : lkp Tryz.prog 70 tv (.int .i64 i) true H k = k (.tuple #[.int .u8 ((hd i).getD 0), .bool (hd i).isSome]) H := by
  unfold lkp
  obtain ⟨bm, es, rfl, h2, h3⟩ := h
  have hmp : H.mp bm = some es := by rw [AH.mp, h2]
  rcases h3 i with ⟨h5, h4⟩ | ⟨y, q, h5, h4⟩
  · simp only [me_70, wo, hmp, h4, mres, nv, h5]
    simp
  · simp only [me_70, wo, hmp, h4, mres, nv, h5]
    simp
def lE (Lo : List Pl) : List (Pl × Value) := Lo.map fun p => (p, .bool true)
theorem klk_lost (p : Pl) : ∀ (Lo : List Pl) (i : Nat), (p ∈ Lo ∧ ∃ j, klk p (lE Lo) i = some (j, .bool true)) ∨ (p ∉ Lo ∧ klk p (lE Lo) i = none)
  | [], _ => .inr ⟨by simp, rfl⟩
  | q :: Lo, i => by
    show (_ ∧ ∃ j, klk p ((q, Value.bool true) :: lE Lo) i = _) ∨ (_ ∧ klk p ((q, Value.bool true) :: lE Lo) i = none)
    rw [klk]
    by_cases e : p = q
    · exact .inl ⟨by simp [e], i, by simp [e]⟩
    · simp only [e, if_false, List.mem_cons, false_or]
      exact klk_lost p Lo (i + 1)
def lput1 (p : Pl) (Lo : List Pl) : List Pl := if p ∈ Lo then Lo else Lo ++ [p]
theorem kput_lost (p : Pl) (Lo : List Pl) : kput (lE Lo) p (.bool true) (klk p (lE Lo) 0) = lE (lput1 p Lo) := by
  rcases klk_lost p Lo 0 with ⟨h1, j, h2⟩ | ⟨h1, h2⟩
  · rw [h2, kput, lput1, if_pos h1]
    obtain ⟨m, rfl, hm⟩ := klk_some h2
    rw [Nat.zero_add]
    have hlt := Go.AX.lt_of_get hm
    apply List.ext_getElem?
    intro q
    by_cases e : m = q
    · subst e; rw [List.getElem?_set_self hlt, hm]
    · rw [List.getElem?_set_ne e]
  · rw [h2, kput, lput1, if_neg h1, lE, lE, List.map_append]; rfl
theorem mem_lput1 {p q : Pl} {Lo : List Pl} : q ∈ lput1 p Lo ↔ q = p ∨ q ∈ Lo := by
  unfold lput1
  split
  · rename_i h
    exact ⟨.inr, fun h' => h'.elim (fun e => e ▸ h) id⟩
  · rw [List.mem_append, List.mem_singleton]; exact or_comm
def LInv (T : List En) (hd : Hd) (Lo : List Pl) : Prop := ∀ p, p ∈ Lo ↔ ∃ y ∈ T, isP p y = true ∧ hd y.2.1 = none
theorem LInv.nil (hd : Hd) : LInv [] hd [] := fun p => by simp
theorem LInv.same {T : List En} {hd : Hd} {Lo : List Pl} {x : En} (h : LInv T hd Lo) (hx : x.1 ≠ 2 ∨ hd x.2.1 ≠ none) : LInv (T ++ [x]) hd Lo := fun p => by
  rw [h p]
  constructor
  · rintro ⟨y, hy, h2⟩; exact ⟨y, List.mem_append_left _ hy, h2⟩
  · rintro ⟨y, hy, h2, h3⟩
    rcases List.mem_append.1 hy with hy | hy
    · exact ⟨y, hy, h2, h3⟩
    · obtain rfl := List.mem_singleton.1 hy
      rcases hx with hx | hx
      · simp [isP, hx] at h2
      · exact absurd h3 hx
theorem LInv.put {T : List En} {hd : Hd} {Lo : List Pl} {x : En} (h : LInv T hd Lo) (hx : x.1 = 2) (hn : hd x.2.1 = none) : LInv (T ++ [x]) hd (lput1 (pl x) Lo) := fun p => by
  rw [mem_lput1, h p]
  constructor
  · rintro (rfl | ⟨y, hy, h2⟩)
    · exact ⟨x, List.mem_append_right _ (List.mem_singleton.2 rfl), by simp [isP, hx], hn⟩
    · exact ⟨y, List.mem_append_left _ hy, h2⟩
  · rintro ⟨y, hy, h2, h3⟩
    rcases List.mem_append.1 hy with hy | hy
    · exact .inr ⟨y, hy, h2, h3⟩
    · obtain rfl := List.mem_singleton.1 hy
      simp only [isP, Bool.and_eq_true, decide_eq_true_eq] at h2
      exact .inl h2.2.symm
theorem gE_set {G : List Gp} {j : Nat} {g g' : Gp} (hg : G[j]? = some g) : gE (G.set j g') = (gE G).set j (g'.p, .slice g'.base g'.L.length g'.cap) := by
  rw [gE, gE, List.map_set]
theorem gE_new (G : List Gp) (p : Pl) (z : Value) (g' : Gp) (hp : g'.p = p) : (gE G ++ [(p, z)]).set (gE G).length (p, .slice g'.base g'.L.length g'.cap) = gE (G ++ [g']) := by
  rw [List.set_append_right _ _ (Nat.le_refl _), Nat.sub_self, gE, gE, List.map_append, ← hp]; rfl
theorem klk_none {p : Pl} : ∀ {l : List (Pl × Value)} {i : Nat}, klk p l i = none → ∀ q ∈ l, q.1 ≠ p
  | [], _, _ => by simp
  | q :: l, i, h => by
    rw [klk] at h
    split at h
    · cases h
    · rename_i e
      intro r hr
      rcases List.mem_cons.1 hr with rfl | hr
      · exact fun e' => e e'.symm
      · exact klk_none h r hr
theorem pick_e : ∀ {l : List MapEntry} {G : List Gp}, (l.map (·.born)).Nodup → l.map (fun x => (x.key, x.val)) = ke kP (gE G) → ∃ g : MapEntry → Gp, l.map g = G ∧ ∀ e ∈ l, e.key = kP (g e).p ∧ e.val = .slice (g e).base (g e).L.length (g e).cap
  | [], [], _, _ => ⟨fun _ => ⟨(0, 0), none, 0, []⟩, rfl, by simp⟩
  | [], _ :: _, _, h => by simp [ke, gE] at h
  | _ :: _, [], _, h => by simp [ke, gE] at h
  | e0 :: l, m0 :: ms, hd, h => by
    simp only [ke, gE, List.map_cons, List.nodup_cons, List.mem_map, not_exists, not_and, List.cons.injEq, Prod.mk.injEq] at hd h
    obtain ⟨g, h1, h2⟩ := pick_e (G := ms) hd.2 (by simpa [ke, gE] using h.2)
    refine ⟨fun e => if e.born = e0.born then m0 else g e, ?_, fun e he => ?_⟩
    · simp only [List.map_cons, if_true, List.cons.injEq, true_and]
      rw [← h1]
      exact List.map_congr_left fun e he => if_neg fun hb => hd.1 e he hb
    · rcases List.mem_cons.1 he with rfl | he
      · simp [h.1]
      · simp only [if_neg fun hb => hd.1 e he hb]
        exact h2 e he
theorem putE_ok {hd : Hd} (hr : ∀ s y, hd s = some y → 0 ≤ y ∧ y ≤ 255) : ∀ {l : List En} {v : Rc}, RcOk v → RcOk (l.foldl (putE hd) v)
  | [], _, h => h
  | x :: l, v, h => by
    refine putE_ok hr (l := l) ?_
    have hb : 0 ≤ (hd x.2.1).getD 0 ∧ (hd x.2.1).getD 0 ≤ 255 := by
      cases he : hd x.2.1 with
      | none => simp
      | some y => exact hr _ _ he
    obtain ⟨h0, h1, h2, h3⟩ := h
    unfold putE putB
    split
    · exact ⟨hb, h1, h2, h3⟩
    · split
      · exact ⟨h0, hb, h2, h3⟩
      · split
        · exact ⟨h0, h1, hb, h3⟩
        · exact ⟨h0, h1, h2, hb⟩
theorem stepP_ok {T : List En} {hd : Hd} (hr : ∀ s y, hd s = some y → 0 ≤ y ∧ y ≤ 255) {X : List Nf} (h : OkX X) (p : Pl) : OkX (stepP T hd X p) := by
  unfold stepP
  split
  · exact h
  · rename_i v hv
    split
    · exact h.set _ _ (putE_ok hr (getW_ok h hv))
    · exact h
theorem okP_iff {T : List En} {hd : Hd} {Lo : List Pl} (h : LInv T hd Lo) (p : Pl) : okP hd (got T p) = true ↔ p ∉ Lo := by
  rw [h p, okP, List.all_eq_true]
  constructor
  · rintro h1 ⟨y, hy, h2, h3⟩
    have := h1 y (List.mem_filter.2 ⟨hy, h2⟩)
    rw [h3] at this; cases this
  · intro h1 y hy
    obtain ⟨hy1, hy2⟩ := List.mem_filter.1 hy
    cases he : hd y.2.1 with
    | some z => rfl
    | none => exact absurd ⟨y, hy1, hy2, he⟩ h1
theorem mres_lost (p : Pl) (Lo : List Pl) : mres false (.bool false) (klk p (lE Lo) 0) = .bool (decide (p ∈ Lo)) := by
  rcases klk_lost p Lo 0 with ⟨h1, j, h2⟩ | ⟨h1, h2⟩
  · rw [h2, decide_eq_true h1]; rfl
  · rw [h2, decide_eq_false h1]; rfl
theorem enc_putB (w : Rc) (b : Int) : ∀ m : Nat, m ≤ 3 → (enc w).set m (.int .u8 b) = enc (putB w m b)
  | 0, _ => rfl
  | 1, _ => rfl
  | 2, _ => rfl
  | 3, _ => rfl
  | n + 4, h => by omega
theorem recvs_iff {T : List En} {p : Pl} : p ∈ recvs T ↔ got T p ≠ [] := by
  rw [recvs, List.mem_map, got, ne_eq, List.filter_eq_nil_iff]
  constructor
  · rintro ⟨x, hx, rfl⟩ h
    obtain ⟨h1, h2⟩ := List.mem_filter.1 hx
    exact h x h1 (by simpa [isP] using h2)
  · intro h
    obtain ⟨x, hx⟩ := Classical.not_forall.1 h
    obtain ⟨h1, h2⟩ := Classical.not_imp.1 hx
    have h3 : isP p x = true := Classical.not_not.1 h2
    simp only [isP, Bool.and_eq_true, decide_eq_true_eq] at h3
    exact ⟨x, List.mem_filter.2 ⟨h1, by simpa using h3.1⟩, h3.2⟩
theorem Apply_c {H : AH} {b : Nat} {X : List Nf} {den : Int} {ft : Nat → Prop} (hE : ErrT H.w0) (h : StAt H b X den ft) (hX : OkX X) (T : List En) (bt : Option Addr) (ct : Nat) (hT : SlcIn H 5 bt ct (T.map encE)) (tm : Option Nat) (hd : Hd) (hH : Hm H (.map tm) hd)
    (hr : ∀ s y, hd s = some y → 0 ≤ y ∧ y ≤ 255) (hB : ∀ x ∈ T, x.1 = 2 → 0 ≤ x.2.2.2.2 ∧ x.2.2.2.2 ≤ 3) (hl64 : T.length ≤ 64) :
    ACalls Tryz.prog 25 #[.pointer (some ⟨b, 0, none⟩), .slice bt T.length ct, .map tm] H (fun u H' => ∃ b' X' ft', u = .pointer (some ⟨b', 0, none⟩) ∧ X'.Perm (app T hd X den).1 ∧ OkX X' ∧ StAt H' b' X' (app T hd X den).2 ft' ∧ (Keep H H' fun _ => False) ∧ ∀ x, ft' x → Fresh H x) := by
  refine ACalls.enter2 Tryz.func25 rfl Tryz.ntmps25 Tryz.results25 (by simp) ?_; simp (dsimp := false) (maxSteps := 4000000) only [encE_len, encE_scal, encE_z5, encE_take, enc_len, enc_scal, lput_enc, take_enc, go_sem]
  refine (Copy_c h hX).mono ?_
  rintro _ A0 ⟨bo, X0, ft0, rfl, hp0, hs0, hK0, hf0⟩
  simp (dsimp := false) (maxSteps := 4000000) only [encE_len, encE_scal, encE_z5, encE_take, enc_len, enc_scal, lput_enc, take_enc, go_sem]
  refine AllB.mk fun bl h_bl => ?_; have hn_bl := h_bl; (try simp only [fresh_add, fresh_set, ne_eq] at hn_bl); have hr_bl := hn_bl; (try simp only [@eq_comm Nat bl] at hr_bl); simp (dsimp := false) (maxSteps := 4000000) only [encE_len, encE_scal, encE_z5, encE_take, enc_len, enc_scal, lput_enc, take_enc, hn_bl, hr_bl, go_sem]
  refine AllB.mk fun bg h_bg => ?_; have hn_bg := h_bg; (try simp only [fresh_add, fresh_set, ne_eq] at hn_bg); have hr_bg := hn_bg; (try simp only [@eq_comm Nat bg] at hr_bg); simp (dsimp := false) (maxSteps := 4000000) only [encE_len, encE_scal, encE_z5, encE_take, enc_len, enc_scal, lput_enc, take_enc, hn_bl, hr_bl, hn_bg, hr_bg, go_sem]
  obtain ⟨M, hM⟩ : ∃ M, (A0.add bl (.amap [])).add bg (.amap []) = M := ⟨_, rfl⟩
  have k0M : Keep A0 M fun _ => False := hM ▸ (Keep.refl.nw h_bl).nw h_bg
  have kHM : Keep H M fun _ => False := hK0.trans k0M
  have nlg : bg ≠ bl := hn_bg.1
  have fl0 : M.find bl = some (.amap (ke kP (lE []))) := by
    have : M.find bl = some (.amap []) := by rw [← hM]; (show AH.find _ _ = _; simp only [find_add_self, find_add_ne, find_fresh, fresh_add, fresh_set, ne_eq, not_false_eq_true, true_and, and_true, and_self, encE_len, encE_scal, encE_z5, encE_take, enc_len, enc_scal, lput_enc, take_enc, hn_bl, hr_bl, hn_bg, hr_bg])
    exact this
  have fg0 : M.find bg = some (.amap (ke kP (gE []))) := by rw [← hM, find_add_self]; rfl
  have nfl : ¬ ft0 bl := hs0.fresh h_bl
  have nfg : ¬ ft0 bg := hs0.fresh hn_bg.2
  have f0l : Fresh A0 bl := h_bl
  have f0g : Fresh A0 bg := hn_bg.2
  have hfl : Fresh H bl := hK0.fr h_bl
  have hfg : Fresh H bg := hK0.fr hn_bg.2
  rw [hM]
  clear hM h_bl hn_bl hr_bl h_bg hn_bg hr_bg
  
  refine AWp.loopr (ι := Nat × List Pl × List Gp) (fun s A => s.1 ≤ T.length ∧ A.find bl = some (.amap (ke kP (lE s.2.1))) ∧ A.find bg = some (.amap (ke kP (gE s.2.2))) ∧ LInv (T.take s.1) hd s.2.1 ∧ GInv A0 A (T.take s.1) s.2.2 ∧ Keep A0 A fun _ => False)
    (fun s => [(29, .int .i64 s.1), (28, .int .i64 T.length), (27, .slice bt T.length ct), (7, .pointer (some ⟨bo, 0, none⟩)), (8, .map (some bl)), (9, .map (some bg)), (2, .map tm), (1, .slice bt T.length ct)]) (fun s => T.length - s.1) (0, [], []) M
    ⟨by simp, fl0, fg0, LInv.nil hd, GInv.nil A0 M, k0M⟩ (FrLe.of_lks ?_) (AH.le_refl _) fun s A hV Q again out => ?_
  · simp (dsimp := false) (maxSteps := 4000000) only [encE_len, encE_scal, encE_z5, encE_take, enc_len, enc_scal, lput_enc, take_enc, go_sem]
  obtain ⟨i, Lo, G⟩ := s
  obtain ⟨hi, hfl', hfg', hL, hG, hK⟩ := hV
  dsimp only at hi hfl' hfg' hL hG hK ⊢
  by_cases hlt : (i : Int) < T.length
  case pos =>
    obtain ⟨x, hx⟩ := get_some (l := T) (i := i) (by omega)
    have hne : T ≠ [] := fun e => by rw [e] at hx; cases hx
    have hTA := hT.keep (hK0.trans hK) fun _ _ h => h
    have hHA := hH.keep (hK0.trans hK) fun _ _ h => h
    obtain ⟨q, o, rfl, hrow, _⟩ := hTA.get (Go.AX.map_get (f := encE) hx)
    have ee := i64_succ (i := i) (by omega)
    have hi0 : (0 : Int) ≤ (i : Int) := by omega
    have et : T.take (i + 1) = T.take i ++ [x] := by rw [List.take_add_one, hx]; rfl
    obtain ⟨k, sl, fl, rc, by_⟩ := x
    have eE : encE (k, sl, fl, rc, by_) = [.int .i64 k, .int .i64 sl, .int .i64 fl, .int .i64 rc, .int .i64 by_] := rfl
    rw [eE] at hrow
    simp (dsimp := false) (maxSteps := 4000000) only [hlt, hi0, hrow, encE_len, encE_scal, encE_z5, encE_take, enc_len, enc_scal, lput_enc, take_enc, go_sem]
    refine AllB.mk fun b11 h_b11 => ?_; have hn_b11 := h_b11; (try simp only [fresh_add, fresh_set, ne_eq] at hn_b11); have hr_b11 := hn_b11; (try simp only [@eq_comm Nat b11] at hr_b11); simp (dsimp := false) (maxSteps := 4000000) only [encE_len, encE_scal, encE_z5, encE_take, enc_len, enc_scal, lput_enc, take_enc, hn_b11, hr_b11, go_sem]
    by_cases hk2 : k = 2
    case neg =>
      simp (dsimp := false) (maxSteps := 4000000) only [hk2, ee, encE_len, encE_scal, encE_z5, encE_take, enc_len, enc_scal, lput_enc, take_enc, hn_b11, hr_b11, go_sem]
      exact again (i + 1, Lo, G) _ A _ ⟨by dsimp only; omega, hfl', hfg', by dsimp only; rw [et]; exact hL.same (.inl hk2), by dsimp only; rw [et]; exact hG.skip hk2, hK⟩ (FrLe.of_lks (by simp (dsimp := false) (maxSteps := 4000000) only [encE_len, encE_scal, encE_z5, encE_take, enc_len, enc_scal, lput_enc, take_enc, hn_b11, hr_b11, go_sem])) (AH.le_add (AH.le_refl _) h_b11.2) (by dsimp only; omega)
    case pos =>
      simp (dsimp := false) (maxSteps := 4000000) only [hk2, encE_len, encE_scal, encE_z5, encE_take, enc_len, enc_scal, lput_enc, take_enc, hn_b11, hr_b11, go_sem]
      refine AllB.mk fun b12 h_b12 => ?_; have hn_b12 := h_b12; (try simp only [fresh_add, fresh_set, ne_eq] at hn_b12); have hr_b12 := hn_b12; (try simp only [@eq_comm Nat b12] at hr_b12); simp (dsimp := false) (maxSteps := 4000000) only [encE_len, encE_scal, encE_z5, encE_take, enc_len, enc_scal, lput_enc, take_enc, hn_b11, hr_b11, hn_b12, hr_b12, go_sem]
      obtain ⟨A2, hA2⟩ : ∃ A2, (A.add b11 (.cells [.int .i64 k, .int .i64 sl, .int .i64 fl, .int .i64 rc, .int .i64 by_] 78 5)).add b12 (.cells [.int .i64 fl, .int .i64 rc] 133 2) = A2 := ⟨_, rfl⟩
      have k2 : Keep A A2 fun _ => False := hA2 ▸ (Keep.refl.nw h_b11).nw (by simp only [fresh_add, ne_eq, hn_b12, not_false_eq_true, and_self])
      have f11 : A2.find b11 = some (.cells [.int .i64 k, .int .i64 sl, .int .i64 fl, .int .i64 rc, .int .i64 by_] 78 5) := by rw [← hA2]; (show AH.find _ _ = _; simp only [find_add_self, find_add_ne, find_fresh, fresh_add, fresh_set, ne_eq, not_false_eq_true, true_and, and_true, and_self, encE_len, encE_scal, encE_z5, encE_take, enc_len, enc_scal, lput_enc, take_enc, hn_b11, hr_b11, hn_b12, hr_b12])
      have f12 : A2.find b12 = some (.cells [.int .i64 fl, .int .i64 rc] 133 2) := by rw [← hA2, find_add_self]
      have fA11 : Fresh A b11 := h_b11
      have fA12 : Fresh A b12 := hn_b12.2
      have fl2 := k2.find (fun h => h) hfl'
      have fg2 := k2.find (fun h => h) hfg'
      have hG2 := hG.keep k2 fun _ h => h.elim
      have hK2 := hK.trans k2
      have hH2 := hHA.keep k2 fun _ _ h => h
      have nl11 : b11 ≠ bl := h_b11.ne_find hfl'
      have nl12 : b12 ≠ bl := hn_b12.2.ne_find hfl'
      have ng11 : b11 ≠ bg := h_b11.ne_find hfg'
      have ng12 : b12 ≠ bg := hn_b12.2.ne_find hfg'
      rw [hA2]
      clear hA2 h_b11 hn_b11 hr_b11 h_b12 hn_b12 hr_b12 hrow
      
      have hl2 := fun k => lkp_hmo hH2 sl k
      rw [hl2]
      have r12 : A2.row b12 0 2 = some [.int .i64 fl, .int .i64 rc] := row_find f12 (by simp)
      have nbl : ∀ b', b' = bl → ¬ ∃ g ∈ G, ∃ a, g.base = some a ∧ a.block = b' := by
        rintro b' e ⟨g, hg, a, ha, rfl⟩
        obtain ⟨_, _, _, hc⟩ := hG2.cells hg ha
        rw [e, fl2] at hc; cases hc
      by_cases hdx : hd sl = none
      case' pos =>
        simp (dsimp := false) (maxSteps := 4000000) only [hdx, r12, me_130, encE_len, encE_scal, encE_z5, encE_take, enc_len, enc_scal, lput_enc, take_enc, go_sem]
        refine MUS.map (k := (fl, rc)) placeOk ms_lost fl2 ?_
        rw [kput_lost]
        obtain ⟨A3, hA3⟩ : ∃ A3, A2.set bl (.amap (ke kP (lE (lput1 (fl, rc) Lo)))) = A3 := ⟨_, rfl⟩
        have k3 : Keep A2 A3 (· = bl) := hA3 ▸ Keep.set
        have fl3 : A3.find bl = some (.amap (ke kP (lE (lput1 (fl, rc) Lo)))) := by rw [← hA3, find_set, if_pos rfl]
        have hL3 : LInv (T.take (i + 1)) hd (lput1 (fl, rc) Lo) := by rw [et]; exact hL.put hk2 hdx
        rw [hA3]
        generalize lput1 (fl, rc) Lo = Lo3 at fl3 hL3
        clear hA3
      case' neg =>
        obtain ⟨y, hdx⟩ := Option.ne_none_iff_exists'.1 hdx
        simp (dsimp := false) (maxSteps := 4000000) only [hdx, encE_len, encE_scal, encE_z5, encE_take, enc_len, enc_scal, lput_enc, take_enc, go_sem]
        obtain ⟨A3, hA3⟩ : ∃ A3, A2 = A3 := ⟨_, rfl⟩
        have k3 : Keep A2 A3 (· = bl) := hA3 ▸ Keep.refl
        have fl3 : A3.find bl = some (.amap (ke kP (lE Lo))) := hA3 ▸ fl2
        have hL3 : LInv (T.take (i + 1)) hd Lo := by rw [et]; exact hL.same (.inr (by dsimp only; rw [hdx]; simp))
        rw [hA3]
        obtain ⟨Lo3, hLo3⟩ : ∃ Lo3, Lo = Lo3 := ⟨_, rfl⟩
        rw [hLo3] at fl3 hL3
        clear hA3 hLo3
      all_goals
        have f11 := k3.find nl11 f11
        have f12 := k3.find nl12 f12
        have fg3 := k3.find nlg fg2
        have hG3 := hG2.keep k3 nbl
        have hK3 := hK2.ow k3 fun _ e => e ▸ f0l
        have r11 : A3.row b11 0 5 = some [.int .i64 k, .int .i64 sl, .int .i64 fl, .int .i64 rc, .int .i64 by_] := row_find f11 (by simp)
        have r12 : A3.row b12 0 2 = some [.int .i64 fl, .int .i64 rc] := row_find f12 (by simp)
        clear fl2 fg2 hG2 hK2 hH2 hl2 hL hG k2
        simp (dsimp := false) (maxSteps := 4000000) only [r11, r12, encE_len, encE_scal, encE_z5, encE_take, enc_len, enc_scal, lput_enc, take_enc, go_sem]
        refine AllB.mk fun bq h_bq => ?_; have hn_bq := h_bq; (try simp only [fresh_add, fresh_set, ne_eq] at hn_bq); have hr_bq := hn_bq; (try simp only [@eq_comm Nat bq] at hr_bq); simp (dsimp := false) (maxSteps := 4000000) only [encE_len, encE_scal, encE_z5, encE_take, enc_len, enc_scal, lput_enc, take_enc, hn_bq, hr_bq, go_sem]
        obtain ⟨A4, hA4⟩ : ∃ A4, A3.add bq (.cells [.int .i64 k, .int .i64 sl, .int .i64 fl, .int .i64 rc, .int .i64 by_] 78 5) = A4 := ⟨_, rfl⟩
        have k4 : Keep A3 A4 fun _ => False := hA4 ▸ Keep.add h_bq
        have fq4 : A4.find bq = some (.cells [.int .i64 k, .int .i64 sl, .int .i64 fl, .int .i64 rc, .int .i64 by_] 78 5) := by rw [← hA4, find_add_self]
        have nqg : bq ≠ bg := h_bq.ne_find fg3
        have nql : bq ≠ bl := h_bq.ne_find fl3
        have fg4 := k4.find (fun h => h) fg3
        have fl4 := k4.find (fun h => h) fl3
        have hG4 := hG3.keep k4 fun _ h => h.elim
        have hK4 := hK3.trans k4
        rw [hA4]
        clear hA4 h_bq hn_bq hr_bq
        
        have nbg : ∀ b', b' = bg → ¬ ∃ g ∈ G, ∃ a, g.base = some a ∧ a.block = b' := by
          rintro b' e ⟨g, hg, a, ha, rfl⟩
          obtain ⟨_, _, _, hc⟩ := hG4.cells hg ha
          rw [e, fg4] at hc; cases hc
        refine MEN.map (k := (fl, rc)) (l := gE G) placeOk ms_got fg4 ?_ ?_
        · intro j v st en cl hj hkl hm hst
          obtain ⟨g, hg, hgp, hgv⟩ : ∃ g, G[j]? = some g ∧ g.p = (fl, rc) ∧ v = .slice g.base g.L.length g.cap := by
            rw [gE, List.getElem?_map] at hj
            obtain ⟨g, hg, e⟩ := Option.map_eq_some_iff.1 hj
            simp only [Prod.mk.injEq] at e
            exact ⟨g, hg, e.1, e.2.symm⟩
          subst hgv
          obtain ⟨A5, hA5⟩ : ∃ A5, A4.set bg (.obj (.map en cl)) = A5 := ⟨_, rfl⟩
          have k5 : Keep A4 A5 (· = bg) := hA5 ▸ Keep.set
          have fg5 : A5.find bg = some (.obj (.map en cl)) := by rw [← hA5, find_set, if_pos rfl]
          have fq5 := k5.find nqg fq4
          have hG5 := hG4.keep k5 nbg
          have hK5 := hK4.ow k5 fun _ e => e ▸ f0g
          rw [hA5]
          clear hA5
          simp (dsimp := false) (maxSteps := 4000000) only [encE_len, encE_scal, encE_z5, encE_take, enc_len, enc_scal, lput_enc, take_enc, go_sem]
          have hgo := hG5.own g (List.mem_of_getElem? hg)
          have hgl : g.L.length ≤ 64 := by
            rw [(hG5.eq g (List.mem_of_getElem? hg)).2]
            have h1 : (got (T.take i) g.p).length ≤ (T.take i).length := List.length_filter_le _ _
            rw [List.length_take] at h1; omega
          refine APD.growW (x := .slice (some ⟨bq, 0, none⟩) 1 1) (R' := [encE (k, sl, fl, rc, by_)]) (m := 1) hgo hK5.all se_58 rfl (by decide) (by rw [Tryz.underlying58]; rfl) (by simp) rfl rfl (by rw [srow_some, row_find fq5 (by simp)]; rfl) (by simp [encE]) (by simp [encE, scal]) (by omega) fun base2 cap2 A6 hO' hK6 hN' => ?_
          have nbx : ¬ exB g.base bg := fun ⟨a, ha, e⟩ => by
            obtain ⟨_, _, _, hc⟩ := hG5.cells (List.mem_of_getElem? hg) ha
            rw [← e, fg5] at hc; cases hc
          have nbx' : ¬ exB g.base bl := fun ⟨a, ha, e⟩ => by
            obtain ⟨_, _, _, hc⟩ := hG4.cells (List.mem_of_getElem? hg) ha
            rw [← e, fl4] at hc; cases hc
          have fg6 := hK6.find nbx fg5
          have fl6 := hK6.find nbx' (k5.find (fun e => nlg e.symm) fl4)
          have hG6 := hG5.upd (x := (k, sl, fl, rc, by_)) hg hk2 hgp (by rw [List.map_append]; exact hO') hK6 hN'
          refine ⟨A6, AH.le_refl _, ?_⟩
          simp (dsimp := false) (maxSteps := 4000000) only [encE_len, encE_scal, encE_z5, encE_take, enc_len, enc_scal, lput_enc, take_enc, go_sem]
          refine EST.map (k := (fl, rc)) (l := gE G) fg6 hm hst hj ?_
          have eg : (gE G).set j ((fl, rc), .slice base2 (g.L.length + 1) cap2) = gE (G.set j ⟨g.p, base2, cap2, g.L ++ [(k, sl, fl, rc, by_)]⟩) := by
            rw [gE_set hg]; dsimp only; rw [hgp, List.length_append]; rfl
          rw [eg]
          have nb6 : ∀ b', b' = bg → ¬ ∃ g' ∈ (G.set j ⟨g.p, base2, cap2, g.L ++ [(k, sl, fl, rc, by_)]⟩), ∃ a, g'.base = some a ∧ a.block = b' := by
            rintro b' e ⟨g', hg', a, ha, rfl⟩
            obtain ⟨_, _, _, hc⟩ := hG6.cells hg' ha
            rw [e, fg6] at hc; cases hc
          generalize G.set j ⟨g.p, base2, cap2, g.L ++ [(k, sl, fl, rc, by_)]⟩ = G' at hG6 nb6 ⊢
          obtain ⟨A7, hA7⟩ : ∃ A7, A6.set bg (.amap (ke kP (gE G'))) = A7 := ⟨_, rfl⟩
          have k7 : Keep A6 A7 (· = bg) := hA7 ▸ Keep.set
          have fg7 : A7.find bg = some (.amap (ke kP (gE G'))) := by rw [← hA7, find_set, if_pos rfl]
          have fl7 := k7.find (fun e => nlg e.symm) fl6
          have hK7 := (hK5.ow hK6 fun b' hb => by
            obtain ⟨a, ha, rfl⟩ := hb
            exact (hG5.base (List.mem_of_getElem? hg) ha).2).ow k7 fun _ e => e ▸ f0g
          have hG7 := hG6.keep k7 nb6
          rw [hA7]
          simp (dsimp := false) (maxSteps := 4000000) only [ee, encE_len, encE_scal, encE_z5, encE_take, enc_len, enc_scal, lput_enc, take_enc, go_sem]
          exact again (i + 1, Lo3, G') _ A7 _ ⟨by dsimp only; omega, fl7, fg7, hL3, by dsimp only; rw [et]; exact hG7, hK7⟩ (FrLe.of_lks (by simp (dsimp := false) (maxSteps := 4000000) only [encE_len, encE_scal, encE_z5, encE_take, enc_len, enc_scal, lput_enc, take_enc, go_sem])) (AH.le_refl _) (by dsimp only; omega)
        · intro st en cl hkl hm hst
          obtain ⟨A5, hA5⟩ : ∃ A5, A4.set bg (.obj (.map en cl)) = A5 := ⟨_, rfl⟩
          have k5 : Keep A4 A5 (· = bg) := hA5 ▸ Keep.set
          have fg5 : A5.find bg = some (.obj (.map en cl)) := by rw [← hA5, find_set, if_pos rfl]
          have fq5 := k5.find nqg fq4
          have hG5 := hG4.keep k5 nbg
          have hK5 := hK4.ow k5 fun _ e => e ▸ f0g
          rw [hA5]
          clear hA5
          have hno : ∀ g ∈ G, g.p ≠ (fl, rc) := fun g hg => klk_none hkl (g.p, _) (List.mem_map_of_mem (f := fun g : Gp => (g.p, Value.slice g.base g.L.length g.cap)) hg)
          simp (dsimp := false) (maxSteps := 4000000) only [encE_len, encE_scal, encE_z5, encE_take, enc_len, enc_scal, lput_enc, take_enc, go_sem]
          refine APD.growW (x := .slice (some ⟨bq, 0, none⟩) 1 1) (R' := [encE (k, sl, fl, rc, by_)]) (m := 1) (OwnS.nil (H0 := A0)) hK5.all se_58 rfl (by decide) (by rw [Tryz.underlying58]; rfl) (by simp) rfl rfl (by rw [srow_some, row_find fq5 (by simp)]; rfl) (by simp [encE]) (by simp [encE, scal]) (by omega) fun base2 cap2 A6 hO' hK6 hN' => ?_
          have hK6' : Keep A5 A6 fun _ => False := hK6.mono fun _ ⟨a, ha, _⟩ => by cases ha
          have fg6 := hK6'.find (fun h => h) fg5
          have fl6 := hK6'.find (fun h => h) (k5.find (fun e => nlg e.symm) fl4)
          have hG6 := hG5.new (x := (k, sl, fl, rc, by_)) (base' := base2) (cap' := cap2) hno hk2 hO' hK6' (fun a ha => (hN' a ha).resolve_left fun ⟨a', ha', _⟩ => by cases ha')
          refine ⟨A6, AH.le_refl _, ?_⟩
          simp (dsimp := false) (maxSteps := 4000000) only [encE_len, encE_scal, encE_z5, encE_take, enc_len, enc_scal, lput_enc, take_enc, go_sem]
          refine EST.map (k := (fl, rc)) (l := gE G ++ [((fl, rc), .slice none 0 0)]) (v0 := .slice none 0 0) fg6 hm hst (by rw [List.getElem?_append_right (Nat.le_refl _), Nat.sub_self]; rfl) ?_
          have eg := gE_new G (fl, rc) (.slice none 0 0) ⟨(fl, rc), base2, cap2, [(k, sl, fl, rc, by_)]⟩ rfl
          dsimp only at eg
          have eg' : (gE G ++ [((fl, rc), Value.slice none 0 0)]).set (gE G).length ((fl, rc), .slice base2 (0 + 1) cap2) = gE (G ++ [⟨(fl, rc), base2, cap2, [(k, sl, fl, rc, by_)]⟩]) := eg
          rw [eg']
          have nb6 : ∀ b', b' = bg → ¬ ∃ g' ∈ (G ++ [(⟨(fl, rc), base2, cap2, [(k, sl, fl, rc, by_)]⟩ : Gp)]), ∃ a, g'.base = some a ∧ a.block = b' := by
            rintro b' e ⟨g', hg', a, ha, rfl⟩
            obtain ⟨_, _, _, hc⟩ := hG6.cells hg' ha
            rw [e, fg6] at hc; cases hc
          have hG6' : GInv A0 A6 (T.take i ++ [(k, sl, fl, rc, by_)]) (G ++ [⟨(fl, rc), base2, cap2, [(k, sl, fl, rc, by_)]⟩]) := hG6
          generalize G ++ [(⟨(fl, rc), base2, cap2, [(k, sl, fl, rc, by_)]⟩ : Gp)] = G' at hG6' nb6 ⊢
          obtain ⟨A7, hA7⟩ : ∃ A7, A6.set bg (.amap (ke kP (gE G'))) = A7 := ⟨_, rfl⟩
          have k7 : Keep A6 A7 (· = bg) := hA7 ▸ Keep.set
          have fg7 : A7.find bg = some (.amap (ke kP (gE G'))) := by rw [← hA7, find_set, if_pos rfl]
          have fl7 := k7.find (fun e => nlg e.symm) fl6
          have hK7 := (hK5.trans hK6').ow k7 fun _ e => e ▸ f0g
          have hG7 := hG6'.keep k7 nb6
          rw [hA7]
          simp (dsimp := false) (maxSteps := 4000000) only [ee, encE_len, encE_scal, encE_z5, encE_take, enc_len, enc_scal, lput_enc, take_enc, go_sem]
          exact again (i + 1, Lo3, G') _ A7 _ ⟨by dsimp only; omega, fl7, fg7, hL3, by dsimp only; rw [et]; exact hG7, hK7⟩ (FrLe.of_lks (by simp (dsimp := false) (maxSteps := 4000000) only [encE_len, encE_scal, encE_z5, encE_take, enc_len, enc_scal, lput_enc, take_enc, go_sem])) (AH.le_refl _) (by dsimp only; omega)
  case neg =>
    obtain rfl : i = T.length := by omega
    rw [List.take_length] at hL hG
    simp (dsimp := false) (maxSteps := 4000000) only [hlt, encE_len, encE_scal, encE_z5, encE_take, enc_len, enc_scal, lput_enc, take_enc, go_sem]
    refine out _ _ _ (by simp) ?_
    clear out again
    simp (dsimp := false) (maxSteps := 4000000) only [encE_len, encE_scal, encE_z5, encE_take, enc_len, enc_scal, lput_enc, take_enc, go_sem]
    refine RNG.map (es := ke kP (gE G)) Tryz.underlying131 hfg' fun en cl hm => AllB.mk fun bi h_bi => ?_
    obtain ⟨E0, hE0⟩ : ∃ E0, (A.set bg (.obj (.map en cl))).add bi (.obj (.mapIter (some bg) cl #[] cl)) = E0 := ⟨_, rfl⟩
    have nbg : ∀ b', b' = bg → ¬ ∃ g ∈ G, ∃ a, g.base = some a ∧ a.block = b' := by
      rintro b' e ⟨g, hg, a, ha, rfl⟩
      obtain ⟨_, _, _, hc⟩ := hG.cells hg ha
      rw [e, hfg'] at hc; cases hc
    have hbA : Fresh A bi ∧ bi ≠ bg := by
      have h1 := h_bi
      simp only [fresh_set] at h1
      have h2 : bi ≠ bg := fun e => by have := h_bi.2; rw [e, find_set, if_pos rfl] at this; cases this
      exact ⟨⟨h_bi.1, by have := h_bi.2; rwa [find_set, if_neg h2] at this⟩, h2⟩
    have kA1 : Keep A (A.set bg (.obj (.map en cl))) (· = bg) := Keep.set
    have kA2 : Keep (A.set bg (.obj (.map en cl))) E0 fun _ => False := hE0 ▸ Keep.add h_bi
    have hi0 : E0.find bi = some (.obj (.mapIter (some bg) cl #[] cl)) := by rw [← hE0, find_add_self]
    have hg0 : E0.find bg = some (.obj (.map en cl)) := kA2.find (fun h => h) (by rw [find_set, if_pos rfl])
    have hl0 : E0.find bl = some (.amap (ke kP (lE Lo))) := kA2.find (fun h => h) (kA1.find (fun e => nlg e.symm) hfl')
    have hG0 : GInv A0 E0 T G := (hG.keep kA1 nbg).keep kA2 fun _ h => h.elim
    have hK00 : Keep A0 E0 fun _ => False := (hK.ow kA1 fun _ e => e ▸ f0g).trans kA2
    have f0i : Fresh A0 bi := hK.fr hbA.1
    have nif : ¬ ft0 bi := hs0.fresh f0i
    have nlf : ¬ ft0 bl := hs0.fresh f0l
    have ngf : ¬ ft0 bg := hs0.fresh f0g
    have nil_ : bi ≠ bl := hbA.1.ne_find hfl'
    have nig := hbA.2
    have hX0 : OkX X0 := hX.perm hp0.symm
    rw [hE0]
    clear hE0 h_bi kA1 kA2 hbA hK hfl' hfg' nbg hG
    obtain ⟨gf, hgf, hge⟩ := pick_e hm.2.2 hm.1
    simp (dsimp := false) (maxSteps := 4000000) only [encE_len, encE_scal, encE_z5, encE_take, enc_len, enc_scal, lput_enc, take_enc, go_sem]
    refine AWp.loopr (ι := List MapEntry) (fun D A => Rnd en cl D ∧ A.find bi = some (.obj (.mapIter (some bg) cl (D.map (·.born)).toArray cl)) ∧ A.find bg = some (.obj (.map en cl)) ∧ A.find bl = some (.amap (ke kP (lE Lo))) ∧ GInv A0 A T G ∧ Keep A0 A ft0 ∧ StAt A bo ((D.map fun e => (gf e).p).foldl (stepP T hd) X0) den ft0 ∧ OkX ((D.map fun e => (gf e).p).foldl (stepP T hd) X0))
      (fun D => [(62, .pointer (some ⟨bi, 0, none⟩)), (7, .pointer (some ⟨bo, 0, none⟩)), (8, .map (some bl)), (2, .map tm), (1, .slice bt T.length ct)]) (fun D => (left en D).length) [] E0
      ⟨Rnd.nil hm.2, hi0, hg0, hl0, hG0, hK00.mono fun _ h => h.elim, hs0.keep hK00 fun _ _ h => h, hX0⟩ (FrLe.of_lks ?_) (AH.le_refl _) fun D A hV Q again out => ?_
    · simp (dsimp := false) (maxSteps := 4000000) only [encE_len, encE_scal, encE_z5, encE_take, enc_len, enc_scal, lput_enc, take_enc, go_sem]
    clear hi0 hg0 hl0 hG0 hK00
    obtain ⟨hR, hi, hbg, hbl, hG, hK, hst, hXk⟩ := hV
    simp (dsimp := false) (maxSteps := 4000000) only [encE_len, encE_scal, encE_z5, encE_take, enc_len, enc_scal, lput_enc, take_enc, go_sem]
    refine NXT.map hi hbg hR.ok (fun hl => ?_) (fun e he => ?_)
    case' refine_1 =>
      simp (dsimp := false) (maxSteps := 4000000) only [encE_len, encE_scal, encE_z5, encE_take, enc_len, enc_scal, lput_enc, take_enc, go_sem]
      refine out _ _ _ (by simp) ?_
      have hperm := hR.done hl
      have hap : (D.map fun e => (gf e).p).foldl (stepP T hd) X0 = app1 T hd X0 := by
        refine app1_any T hd X0 _ (fun p hp => ?_) fun p hp => ?_
        · obtain ⟨e, he, rfl⟩ := List.mem_map.1 hp
          have hgm : gf e ∈ G := by rw [← hgf]; exact List.mem_map_of_mem (hperm.mem_iff.1 he)
          rw [recvs_iff, ← (hG.eq _ hgm).2]; exact (hG.eq _ hgm).1
        · obtain ⟨g, hg, rfl⟩ := hG.all p (recvs_iff.1 hp)
          rw [← hgf] at hg
          obtain ⟨e, he, rfl⟩ := List.mem_map.1 hg
          exact List.mem_map_of_mem (f := fun e => (gf e).p) (hperm.mem_iff.2 he)
      rw [hap] at hst hXk
      have kHA : Keep H A fun _ => False := hK0.ow hK hf0
      obtain ⟨X1, hX1⟩ : ∃ X1, app1 T hd X0 = X1 := ⟨_, rfl⟩
      rw [hX1] at hst hXk
      have hfin : (app T hd X0 den).1.Perm (app T hd X den).1 ∧ (app T hd X0 den).2 = (app T hd X den).2 := app_p T hd hp0 hX0.kd
      have happ : app T hd X0 den = app2 T (X1, den) := by rw [app, hX1]
      rw [happ] at hfin
      clear hap hperm hG hR hi hbg hbl hK hs0 f0l f0g f0i nif nlf ngf nil_ nig hgf hge again out
      simp (dsimp := false) (maxSteps := 4000000) only [encE_len, encE_scal, encE_z5, encE_take, enc_len, enc_scal, lput_enc, take_enc, go_sem]
      refine AWp.loopr (ι := Nat × (Nat → Prop)) (fun s A => s.1 ≤ T.length ∧ StAt A bo (app2 (T.take s.1) (X1, den)).1 (app2 (T.take s.1) (X1, den)).2 s.2 ∧ OkX (app2 (T.take s.1) (X1, den)).1 ∧ (Keep H A fun _ => False) ∧ ∀ x, s.2 x → Fresh H x)
        (fun s => [(107, .int .i64 s.1), (106, .int .i64 T.length), (105, .slice bt T.length ct), (7, .pointer (some ⟨bo, 0, none⟩))]) (fun s => T.length - s.1) (0, ft0) A
        ⟨by simp, hst, hXk, kHA, hf0⟩ (FrLe.of_lks ?_) (AH.le_refl _) fun s B hV Q again out => ?_
      · simp (dsimp := false) (maxSteps := 4000000) only [encE_len, encE_scal, encE_z5, encE_take, enc_len, enc_scal, lput_enc, take_enc, go_sem]
      clear hst hXk kHA
      obtain ⟨i, ft1⟩ := s
      obtain ⟨hi, hst, hXk, hK, hf1⟩ := hV
      dsimp only at hi hst hXk hK hf1 ⊢
      by_cases hlt : (i : Int) < T.length
      · obtain ⟨x, hx⟩ := get_some (l := T) (i := i) (by omega)
        obtain ⟨q, o, rfl, hrow, _⟩ := (hT.keep hK fun _ _ h => h).get (Go.AX.map_get (f := encE) hx)
        have ee := i64_succ (i := i) (by omega)
        have hi0 : (0 : Int) ≤ (i : Int) := by omega
        have et : app2 (T.take (i + 1)) (X1, den) = exE (app2 (T.take i) (X1, den)) x := by
          rw [app2, app2, List.take_add_one, hx, List.foldl_append]; rfl
        obtain ⟨k, sl, fl, rc, by_⟩ := x
        have eE : encE (k, sl, fl, rc, by_) = [.int .i64 k, .int .i64 sl, .int .i64 fl, .int .i64 rc, .int .i64 by_] := rfl
        rw [eE] at hrow
        
        simp (dsimp := false) (maxSteps := 4000000) only [hlt, hi0, hrow, encE_len, encE_scal, encE_z5, encE_take, enc_len, enc_scal, lput_enc, take_enc, go_sem]
        refine AllB.mk fun b22 h_b22 => ?_; have hn_b22 := h_b22; (try simp only [fresh_add, fresh_set, ne_eq] at hn_b22); have hr_b22 := hn_b22; (try simp only [@eq_comm Nat b22] at hr_b22); simp (dsimp := false) (maxSteps := 4000000) only [encE_len, encE_scal, encE_z5, encE_take, enc_len, enc_scal, lput_enc, take_enc, hn_b22, hr_b22, go_sem]
        by_cases hk3 : k = 3
        · have hst' := hst.keep (Keep.add h_b22 (k := .cells [.int .i64 k, .int .i64 sl, .int .i64 fl, .int .i64 rc, .int .i64 by_] 78 5) (ex := fun _ => False)) fun _ _ h => h
          have hdo := Do_c (by rw [w0_add, hK.w0]; exact hE) hst' hXk 2 fl rc zr
          have hK22 := hK.nw h_b22 (k := .cells [.int .i64 k, .int .i64 sl, .int .i64 fl, .int .i64 rc, .int .i64 by_] 78 5)
          rw [exE, if_pos hk3] at et
          have e31 := congrArg Prod.fst et
          have e32 := congrArg Prod.snd et
          dsimp only at e31 e32
          subst hk3
          simp (dsimp := false) (maxSteps := 4000000) only [encE_len, encE_scal, encE_z5, encE_take, enc_len, enc_scal, lput_enc, take_enc, hn_b22, hr_b22, go_sem]
          refine hdo.mono ?_
          rintro _ C ⟨ft2, rfl, hst2, hK2, hf2⟩
          simp (dsimp := false) (maxSteps := 4000000) only [ee, encE_len, encE_scal, encE_z5, encE_take, enc_len, enc_scal, lput_enc, take_enc, hn_b22, hr_b22, go_sem]
          exact again (i + 1, ft2) _ C _ ⟨by dsimp only; omega, by dsimp only; rw [e31, e32]; exact hst2, by dsimp only; rw [e31]; exact hXk.do _ _ _ ⟨by decide, by decide, by decide, by decide⟩, hK22.ow hK2 hf1, fun x hx => (hf2 x hx).elim (hf1 x) fun h => hK22.fr h⟩ (FrLe.of_lks (by simp (dsimp := false) (maxSteps := 4000000) only [encE_len, encE_scal, encE_z5, encE_take, enc_len, enc_scal, lput_enc, take_enc, hn_b22, hr_b22, go_sem])) (AH.le_refl _) (by dsimp only; omega)
        · rw [exE, if_neg hk3] at et
          simp (dsimp := false) (maxSteps := 4000000) only [hk3, ee, encE_len, encE_scal, encE_z5, encE_take, enc_len, enc_scal, lput_enc, take_enc, hn_b22, hr_b22, go_sem]
          exact again (i + 1, ft1) _ B _ ⟨by dsimp only; omega, by dsimp only; rw [et]; exact hst, by dsimp only; rw [et]; exact hXk, hK, hf1⟩ (FrLe.of_lks (by simp (dsimp := false) (maxSteps := 4000000) only [encE_len, encE_scal, encE_z5, encE_take, enc_len, enc_scal, lput_enc, take_enc, hn_b22, hr_b22, go_sem])) (AH.le_add (AH.le_refl _) h_b22.2) (by dsimp only; omega)
        
      · obtain rfl : i = T.length := by omega
        rw [List.take_length] at hst hXk
        simp (dsimp := false) (maxSteps := 4000000) only [hlt, encE_len, encE_scal, encE_z5, encE_take, enc_len, enc_scal, lput_enc, take_enc, go_sem]
        refine out _ _ _ (by simp) ?_
        simp (dsimp := false) (maxSteps := 4000000) only [encE_len, encE_scal, encE_z5, encE_take, enc_len, enc_scal, lput_enc, take_enc, go_sem]
        exact ⟨B, AH.le_refl _, bo, _, ft1, rfl, hfin.1, hXk, by rw [← hfin.2]; exact hst, hK, hf1⟩
    case' refine_2 =>
      obtain ⟨hmem, hnb⟩ := Rnd.of_left (cl := cl) he
      obtain ⟨hek, hev⟩ := hge e hmem
      have hek' : e.key = .agg #[.int .i64 (gf e).p.1, .int .i64 (gf e).p.2] := hek
      have hgm : gf e ∈ G := by rw [← hgf]; exact List.mem_map_of_mem hmem
      have nbi : ∀ b', b' = bi → ¬ ∃ g ∈ G, ∃ a, g.base = some a ∧ a.block = b' := by
        rintro b' e ⟨g, hg, a, ha, rfl⟩
        obtain ⟨_, _, _, hc⟩ := hG.cells hg ha
        rw [e, hi] at hc; cases hc
      simp (dsimp := false) (maxSteps := 4000000) only [encE_len, encE_scal, encE_z5, encE_take, enc_len, enc_scal, lput_enc, take_enc, go_sem]
      refine ENT.map (by rw [find_set, if_pos rfl]) (by rw [find_set, if_neg (Ne.symm nig)]; exact hbg) hR.ok hmem ?_
      rw [hek', hev]
      obtain ⟨A1, hA1⟩ : ∃ A1, A.set bi (.obj (.mapIter (some bg) cl ((D ++ [e]).map (·.born)).toArray cl)) = A1 := ⟨_, rfl⟩
      have k1 : Keep A A1 (· = bi) := hA1 ▸ Keep.set
      have hi1 : A1.find bi = some (.obj (.mapIter (some bg) cl ((D ++ [e]).map (·.born)).toArray cl)) := by rw [← hA1, find_set, if_pos rfl]
      have hbg1 := k1.find (fun h => nig h.symm) hbg
      have hbl1 := k1.find (fun h => nil_ h.symm) hbl
      have hG1 := hG.keep k1 nbi
      have hK1 : Keep A0 A1 ft0 := hK.then k1 fun x e => .inr (e ▸ f0i)
      have hst1 := hst.keep k1 fun x hx e => nif (e ▸ hx)
      rw [hA1]
      clear hA1 k1 hi hbg hbl hG hK hst
      obtain ⟨XD, hXD⟩ : ∃ XD, (D.map fun e => (gf e).p).foldl (stepP T hd) X0 = XD := ⟨_, rfl⟩
      have hXD' : ((D ++ [e]).map fun e => (gf e).p).foldl (stepP T hd) X0 = stepP T hd XD (gf e).p := by
        rw [List.map_append, List.foldl_append, hXD]; rfl
      rw [hXD] at hst1 hXk
      have hXk' := stepP_ok (T := T) hr hXk (gf e).p
      have hRD := hR.step he
      have hles := Rnd.less he
      have hgL := (hG1.eq _ hgm).2
      have hgs := (hG1.own _ hgm).slc
      obtain ⟨ge, hge'⟩ : ∃ ge, gf e = ge := ⟨_, rfl⟩
      rw [hge'] at hgL hgs hXD' hXk' hgm ⊢
      obtain ⟨⟨pf, pr⟩, gbase, gcap, gL⟩ := ge
      dsimp only at hgL hgs hXD' hXk' ⊢
      simp (dsimp := false) (maxSteps := 4000000) only [encE_len, encE_scal, encE_z5, encE_take, enc_len, enc_scal, lput_enc, take_enc, go_sem]
      refine AllB.mk fun b15 h_b15 => ?_; have hn_b15 := h_b15; (try simp only [fresh_add, fresh_set, ne_eq] at hn_b15); have hr_b15 := hn_b15; (try simp only [@eq_comm Nat b15] at hr_b15); simp (dsimp := false) (maxSteps := 4000000) only [encE_len, encE_scal, encE_z5, encE_take, enc_len, enc_scal, lput_enc, take_enc, hn_b15, hr_b15, go_sem]
      have hst2 := hst1.keep (Keep.add h_b15 (k := .cells [.int .i64 pf, .int .i64 pr] 133 2) (ex := fun _ => False)) fun _ _ h => h
      refine (Get_c hst2 hXk pf pr).mono ?_; rintro _ _ ⟨rfl, rfl⟩
      clear hst2
      have n15 : ¬ bl = b15 := fun e => h_b15.ne_find hbl1 e.symm
      have hles' : (left en (D ++ [e])).length < (left en D).length := hles
      cases hgw : getW XD pf pr with
      | none =>
        have hsp : stepP T hd XD (pf, pr) = XD := by rw [stepP]; dsimp only; rw [hgw]
        
        unfold getV
        simp (dsimp := false) (maxSteps := 4000000) only [encE_len, encE_scal, encE_z5, encE_take, enc_len, enc_scal, lput_enc, take_enc, hn_b15, hr_b15, go_sem]
        refine AllB.mk fun b17 h_b17 => ?_; have hn_b17 := h_b17; (try simp only [fresh_add, fresh_set, ne_eq] at hn_b17); have hr_b17 := hn_b17; (try simp only [@eq_comm Nat b17] at hr_b17); simp (dsimp := false) (maxSteps := 4000000) only [encE_len, encE_scal, encE_z5, encE_take, enc_len, enc_scal, lput_enc, take_enc, hn_b15, hr_b15, hn_b17, hr_b17, go_sem]
        have n17 : ¬ bl = b17 := fun e => hn_b17.2.ne_find hbl1 e.symm
        refine LKS.map (k := (pf, pr)) placeOk ms_lost (by rw [find_add, if_neg n17, find_add, if_neg n15]; exact hbl1) ?_
        rw [mres_lost]
        have fin : ∀ fr', (FrLe [(62, .pointer (some ⟨bi, 0, none⟩)), (7, .pointer (some ⟨bo, 0, none⟩)), (8, .map (some bl)), (2, .map tm), (1, .slice bt T.length ct)] fr') → Q .normal fr' ((A1.add b15 (.cells [.int .i64 pf, .int .i64 pr] 133 2)).add b17 (.cells (enc zr) 76 4)) := fun fr' hfr =>
          again (D ++ [e]) _ A1 _ ⟨hRD, hi1, hbg1, hbl1, hG1, hK1, by rw [hXD', hsp]; exact hst1, by rw [hXD', hsp]; exact hXk⟩ hfr (AH.le_add (AH.le_add (AH.le_refl _) h_b15.2) (by simp only [fresh_add, ne_eq, hn_b17, not_false_eq_true, and_self] : Fresh _ b17).2) hles'
        by_cases hlo : (pf, pr) ∈ Lo
        · rw [decide_eq_true hlo]
          simp (dsimp := false) (maxSteps := 4000000) only [encE_len, encE_scal, encE_z5, encE_take, enc_len, enc_scal, lput_enc, take_enc, hn_b15, hr_b15, hn_b17, hr_b17, go_sem]
          exact fin _ (FrLe.of_lks (by simp (dsimp := false) (maxSteps := 4000000) only [encE_len, encE_scal, encE_z5, encE_take, enc_len, enc_scal, lput_enc, take_enc, hn_b15, hr_b15, hn_b17, hr_b17, go_sem]))
        · rw [decide_eq_false hlo]
          simp (dsimp := false) (maxSteps := 4000000) only [encE_len, encE_scal, encE_z5, encE_take, enc_len, enc_scal, lput_enc, take_enc, hn_b15, hr_b15, hn_b17, hr_b17, go_sem]
          exact fin _ (FrLe.of_lks (by simp (dsimp := false) (maxSteps := 4000000) only [encE_len, encE_scal, encE_z5, encE_take, enc_len, enc_scal, lput_enc, take_enc, hn_b15, hr_b15, hn_b17, hr_b17, go_sem]))
        
      | some v =>
        
        unfold getV
        simp (dsimp := false) (maxSteps := 4000000) only [encE_len, encE_scal, encE_z5, encE_take, enc_len, enc_scal, lput_enc, take_enc, hn_b15, hr_b15, go_sem]
        refine AllB.mk fun b17 h_b17 => ?_; have hn_b17 := h_b17; (try simp only [fresh_add, fresh_set, ne_eq] at hn_b17); have hr_b17 := hn_b17; (try simp only [@eq_comm Nat b17] at hr_b17); simp (dsimp := false) (maxSteps := 4000000) only [encE_len, encE_scal, encE_z5, encE_take, enc_len, enc_scal, lput_enc, take_enc, hn_b15, hr_b15, hn_b17, hr_b17, go_sem]
        have n17 : ¬ bl = b17 := fun e => hn_b17.2.ne_find hbl1 e.symm
        refine LKS.map (k := (pf, pr)) placeOk ms_lost (by rw [find_add, if_neg n17, find_add, if_neg n15]; exact hbl1) ?_
        rw [mres_lost]
        by_cases hlo : (pf, pr) ∈ Lo
        · have hsp : stepP T hd XD (pf, pr) = XD := by
            rw [stepP]; dsimp only; rw [hgw]; dsimp only
            rw [if_neg]
            rw [okP_iff hL]; exact fun h => h hlo
          rw [decide_eq_true hlo]
          simp (dsimp := false) (maxSteps := 4000000) only [encE_len, encE_scal, encE_z5, encE_take, enc_len, enc_scal, lput_enc, take_enc, hn_b15, hr_b15, hn_b17, hr_b17, go_sem]
          exact again (D ++ [e]) _ A1 _ ⟨hRD, hi1, hbg1, hbl1, hG1, hK1, by rw [hXD', hsp]; exact hst1, by rw [hXD', hsp]; exact hXk⟩ (FrLe.of_lks (by simp (dsimp := false) (maxSteps := 4000000) only [encE_len, encE_scal, encE_z5, encE_take, enc_len, enc_scal, lput_enc, take_enc, hn_b15, hr_b15, hn_b17, hr_b17, go_sem])) (AH.le_add (AH.le_add (AH.le_refl _) h_b15.2) (by simp only [fresh_add, ne_eq, hn_b17, not_false_eq_true, and_self] : Fresh _ b17).2) hles'
        · have hsp : stepP T hd XD (pf, pr) = setX XD pf pr (gL.foldl (putE hd) v) := by
            rw [stepP]; dsimp only; rw [hgw]; dsimp only
            rw [if_pos ((okP_iff hL _).2 hlo), hgL]
          rw [decide_eq_false hlo]
          simp (dsimp := false) (maxSteps := 4000000) only [encE_len, encE_scal, encE_z5, encE_take, enc_len, enc_scal, lput_enc, take_enc, hn_b15, hr_b15, hn_b17, hr_b17, go_sem]
          have kHA1 : Keep H A1 fun _ => False := hK0.ow hK1 hf0
          have hHm1 := hH.keep kHA1 fun _ _ h => h
          have hgb := hgs.big
          simp only [List.length_map] at hgb
          refine AWp.loopo (ι := Nat) (fun j => j ≤ gL.length) (fun j => [(86, .int .i64 j), (85, .int .i64 gL.length), (84, .slice gbase gL.length gcap), (15, .pointer (some ⟨b15, 0, none⟩)), (17, .pointer (some ⟨b17, 0, none⟩)), (62, .pointer (some ⟨bi, 0, none⟩)), (7, .pointer (some ⟨bo, 0, none⟩)), (8, .map (some bl)), (2, .map tm), (1, .slice bt T.length ct)])
            (fun j => (A1.add b15 (.cells [.int .i64 pf, .int .i64 pr] 133 2)).add b17 (.cells (enc ((gL.take j).foldl (putE hd) v)) 76 4)) (fun j => gL.length - j) 0 (by omega) (FrLe.of_lks ?_) (AH.le_refl _) fun j hj Q2 again2 out2 => ?_
          · simp (dsimp := false) (maxSteps := 4000000) only [encE_len, encE_scal, encE_z5, encE_take, enc_len, enc_scal, lput_enc, take_enc, hn_b15, hr_b15, hn_b17, hr_b17, go_sem]
          by_cases hjl : (j : Int) < gL.length
          · obtain ⟨y, hy⟩ := get_some (l := gL) (i := j) (by omega)
            obtain ⟨q3, o3, rfl, hr3, _⟩ := hgs.get (Go.AX.map_get (f := encE) hy)
            have hyT : y ∈ T ∧ y.1 = 2 := by
              have := List.mem_of_getElem? hy
              rw [hgL] at this
              obtain ⟨h1, h2⟩ := List.mem_filter.1 this
              simp only [isP, Bool.and_eq_true, decide_eq_true_eq] at h2
              exact ⟨h1, h2.1⟩
            have hyb := hB y hyT.1 hyT.2
            have ee := i64_succ (i := j) (by omega)
            have hj0 : (0 : Int) ≤ (j : Int) := by omega
            have hstp : (gL.take (j + 1)).foldl (putE hd) v = putE hd ((gL.take j).foldl (putE hd) v) y := by
              rw [List.take_add_one, hy, List.foldl_append]; rfl
            have m15 : ¬ b15 = q3 := h_b15.ne_row hr3
            have m17 : ¬ b17 = q3 := hn_b17.2.ne_row hr3
            obtain ⟨y0, y1, y2, y3, y4⟩ := y
            dsimp only at hyb
            obtain ⟨m, rfl⟩ : ∃ m : Nat, y4 = m := ⟨y4.toNat, by omega⟩
            have eE : encE (y0, y1, y2, y3, (m : Int)) = [.int .i64 y0, .int .i64 y1, .int .i64 y2, .int .i64 y3, .int .i64 (m : Int)] := rfl
            rw [eE] at hr3
            have hm0 : (0 : Int) ≤ (m : Int) := by omega
            have hm4 : (m : Int) < 4 := by omega
            have hm3 : m ≤ 3 := by omega
            obtain ⟨w, hw⟩ : ∃ w, (gL.take j).foldl (putE hd) v = w := ⟨_, rfl⟩
            rw [hw] at hstp ⊢
            
            simp (dsimp := false) (maxSteps := 4000000) only [hjl, hj0, hr3, m15, m17, encE_len, encE_scal, encE_z5, encE_take, enc_len, enc_scal, lput_enc, take_enc, hn_b15, hr_b15, hn_b17, hr_b17, go_sem]
            refine AllB.mk fun b20 h_b20 => ?_; have hn_b20 := h_b20; (try simp only [fresh_add, fresh_set, ne_eq] at hn_b20); have hr_b20 := hn_b20; (try simp only [@eq_comm Nat b20] at hr_b20); simp (dsimp := false) (maxSteps := 4000000) only [encE_len, encE_scal, encE_z5, encE_take, enc_len, enc_scal, lput_enc, take_enc, hn_b15, hr_b15, hn_b17, hr_b17, hn_b20, hr_b20, go_sem]
            have hl := fun k15 k17 k20 i k => lkp_hm (H := ((A1.add b15 k15).add b17 k17).add b20 k20) (hHm1.keep (((Keep.refl.nw h_b15).nw (by simp only [fresh_add, ne_eq, hn_b17, not_false_eq_true, and_self])).nw (by simp only [fresh_add, ne_eq, hn_b20, not_false_eq_true, and_self])) (ex := fun _ => False) fun _ _ h => h) i k
            have hse : (enc w).set m (.int .u8 ((hd y1).getD 0)) = enc ((gL.take (j + 1)).foldl (putE hd) v) := by rw [enc_putB w _ m hm3, hstp]; rfl
            simp (dsimp := false) (maxSteps := 4000000) only [hl, hm0, hm4, hm3, hse, ee, encE_len, encE_scal, encE_z5, encE_take, enc_len, enc_scal, lput_enc, take_enc, hn_b15, hr_b15, hn_b17, hr_b17, hn_b20, hr_b20, go_sem]
            exact again2 (j + 1) _ _ (by omega) (FrLe.of_lks (by simp (dsimp := false) (maxSteps := 4000000) only [encE_len, encE_scal, encE_z5, encE_take, enc_len, enc_scal, lput_enc, take_enc, hn_b15, hr_b15, hn_b17, hr_b17, hn_b20, hr_b20, go_sem])) (AH.le_add (AH.le_refl _) (by simp only [fresh_add, fresh_set, ne_eq, hn_b20, not_false_eq_true, and_self] : Fresh _ b20).2) (by omega)
            
          · obtain rfl : j = gL.length := by omega
            rw [List.take_length]
            obtain ⟨w, hw⟩ : ∃ w, gL.foldl (putE hd) v = w := ⟨_, rfl⟩
            rw [hw] at hsp ⊢
            simp (dsimp := false) (maxSteps := 4000000) only [hjl, encE_len, encE_scal, encE_z5, encE_take, enc_len, enc_scal, lput_enc, take_enc, hn_b15, hr_b15, hn_b17, hr_b17, go_sem]
            refine out2 _ _ _ (by simp) ?_
            simp (dsimp := false) (maxSteps := 4000000) only [encE_len, encE_scal, encE_z5, encE_take, enc_len, enc_scal, lput_enc, take_enc, hn_b15, hr_b15, hn_b17, hr_b17, go_sem]
            have kc : Keep A1 ((A1.add b15 (.cells [.int .i64 pf, .int .i64 pr] 133 2)).add b17 (.cells (enc w) 76 4)) fun _ => False := (Keep.refl.nw h_b15).nw (by simp only [fresh_add, ne_eq, hn_b17, not_false_eq_true, and_self])
            have hset := Set_c (hst1.keep kc fun _ _ h => h) hXk pf pr w
            refine hset.mono ?_
            rintro _ A2 ⟨rfl, hst2, hKs⟩
            have k12 : Keep A1 A2 ft0 := (kc.mono fun _ h => h.elim).trans hKs
            have nbf : ∀ b', ft0 b' → ¬ ∃ g ∈ G, ∃ a, g.base = some a ∧ a.block = b' := by
              rintro b' hb' ⟨g, hg, a, ha, rfl⟩
              exact hs0.fresh (hG1.base hg ha).2 hb'
            simp (dsimp := false) (maxSteps := 4000000) only [encE_len, encE_scal, encE_z5, encE_take, enc_len, enc_scal, lput_enc, take_enc, hn_b15, hr_b15, hn_b17, hr_b17, go_sem]
            exact again (D ++ [e]) _ A2 _ ⟨hRD, k12.find nif hi1, k12.find ngf hbg1, k12.find nlf hbl1, hG1.keep k12 nbf, hK1.trans k12, by rw [hXD', hsp]; exact hst2, hXD' ▸ hXk'⟩ (FrLe.of_lks (by simp (dsimp := false) (maxSteps := 4000000) only [encE_len, encE_scal, encE_z5, encE_take, enc_len, enc_scal, lput_enc, take_enc, hn_b15, hr_b15, hn_b17, hr_b17, go_sem])) (AH.le_refl _) hles'
        
end Go.Proofs.YtbhamhhjicehaaaGreatDoor.Prt

/- part: the reference's Copy. -/
namespace Go.Proofs.YtbhamhhjicehaaaGreatDoor.Prt
set_option linter.unusedSimpArgs false
set_option linter.unusedVariables false
open Go Go.AX Go.Proofs Ty Go.Proofs.YtbhamhhjicehaaaGreatDoor.File Go.Proofs.YtbhamhhjicehaaaGreatDoor.Ifs Go.Proofs.YtbhamhhjicehaaaGreatDoor.Err
open Go.Proofs.YtbhamhhjicehaaaGreatDoor.Chk (encE encE_len encE_scal encE_z5 encE_take)
set_option maxHeartbeats 4000000
set_option maxRecDepth 10000

end Go.Proofs.YtbhamhhjicehaaaGreatDoor.Prt

/- part: the reference's Apply. -/
namespace Go.Proofs.YtbhamhhjicehaaaGreatDoor.Prt
set_option linter.unusedSimpArgs false
set_option linter.unusedVariables false
open Go Go.AX Go.Proofs Ty Go.Proofs.YtbhamhhjicehaaaGreatDoor.File Go.Proofs.YtbhamhhjicehaaaGreatDoor.Ifs Go.Proofs.YtbhamhhjicehaaaGreatDoor.Err
open Go.Proofs.YtbhamhhjicehaaaGreatDoor.Chk (encE encE_len encE_scal encE_z5 encE_take)
set_option maxHeartbeats 4000000
set_option maxRecDepth 10000

end Go.Proofs.YtbhamhhjicehaaaGreatDoor.Prt

/- part: Round. -/
namespace Go.Proofs.YtbhamhhjicehaaaGreatDoor.Prt
set_option linter.unusedSimpArgs false
set_option linter.unusedVariables false
open Go Go.AX Go.Proofs Ty Go.Proofs.YtbhamhhjicehaaaGreatDoor.File Go.Proofs.YtbhamhhjicehaaaGreatDoor.Ifs Go.Proofs.YtbhamhhjicehaaaGreatDoor.Err
open Go.Proofs.YtbhamhhjicehaaaGreatDoor.Chk (Tb TabIn mayB tabs encT encE Tables_c)
set_option maxHeartbeats 4000000
set_option maxRecDepth 10000

theorem same_i (i j : Int) : Instr.sameNow (.int .i64) (.int .i64 i) (.int .i64 j) = some (decide (i = j)) := by
  simp only [Instr.sameNow, ite_true, Option.some.injEq]
  rw [Bool.eq_iff_iff]; simp
def ki (l : List (Int × Int)) : List (Value × Value) := l.map fun p => (.int .i64 p.1, .int .u8 p.2)
theorem mlk_no {i : Int} : ∀ {l : List (Int × Int)} {n : Nat}, (∀ p ∈ l, p.1 ≠ i) → mlk (.int .i64) (.int .i64 i) (ki l) n = some none
  | [], _, _ => rfl
  | p :: l, n, h => by
    have h1 : ¬ i = p.1 := fun e => h p (List.mem_cons_self ..) e.symm
    have ih := mlk_no (l := l) (n := n + 1) fun q hq => h q (List.mem_cons_of_mem _ hq)
    show mlk _ _ ((Value.int .i64 p.1, Value.int .u8 p.2) :: ki l) n = _
    rw [mlk, same_i, decide_eq_false h1]
    exact ih
theorem mlk_yes {i y : Int} : ∀ {l : List (Int × Int)} {n : Nat}, (∃ p ∈ l, p.1 = i) → (∀ p ∈ l, p.1 = i → p.2 = y) → ∃ k, mlk (.int .i64) (.int .i64 i) (ki l) n = some (some (k, .int .u8 y))
  | [], _, h, _ => by obtain ⟨_, h, _⟩ := h; cases h
  | p :: l, n, h, hy => by
    show ∃ k, mlk _ _ ((Value.int .i64 p.1, Value.int .u8 p.2) :: ki l) n = _
    by_cases e : i = p.1
    · refine ⟨n, ?_⟩
      rw [mlk, same_i, decide_eq_true e, ← hy p (List.mem_cons_self ..) e.symm]
    · obtain ⟨k, hk⟩ := mlk_yes (l := l) (n := n + 1) (by
        obtain ⟨q, hq, e'⟩ := h
        rcases List.mem_cons.1 hq with rfl | hq
        · exact absurd e'.symm e
        · exact ⟨q, hq, e'⟩) fun q hq => hy q (List.mem_cons_of_mem _ hq)
      refine ⟨k, ?_⟩
      rw [mlk, same_i, decide_eq_false e]
      exact hk
def hents (hd : Hd) : Nat → List (Int × Int)
  | 0 => []
  | i + 1 => match hd i with
    | none => hents hd i
    | some y => hents hd i ++ [((i : Int), y)]
theorem hents_mem {hd : Hd} {p : Int × Int} : ∀ {i : Nat}, p ∈ hents hd i ↔ ∃ j : Nat, j < i ∧ hd j = some p.2 ∧ p.1 = (j : Int)
  | 0 => by simp [hents]
  | i + 1 => by
    rw [hents]
    cases hi : hd i with
    | none =>
      dsimp only
      rw [hents_mem]
      constructor
      · rintro ⟨j, h1, h2, h3⟩; exact ⟨j, by omega, h2, h3⟩
      · rintro ⟨j, h1, h2, h3⟩
        by_cases e : j = i
        · subst e; rw [hi] at h2; cases h2
        · exact ⟨j, by omega, h2, h3⟩
    | some y =>
      dsimp only
      rw [List.mem_append, hents_mem, List.mem_singleton]
      constructor
      · rintro (⟨j, h1, h2, h3⟩ | rfl)
        · exact ⟨j, by omega, h2, h3⟩
        · exact ⟨i, by omega, hi, rfl⟩
      · rintro ⟨j, h1, h2, h3⟩
        by_cases e : j = i
        · subst e
          rw [hi] at h2
          exact .inr (Prod.ext h3 (Option.some.inj h2).symm)
        · exact .inl ⟨j, by omega, h2, h3⟩
theorem hents_new (hd : Hd) (i : Nat) (n : Nat) : mlk (.int .i64) (.int .i64 (i : Int)) (ki (hents hd i)) n = some none := mlk_no fun p hp e => by
  obtain ⟨j, h1, _, h3⟩ := hents_mem.1 hp
  omega
theorem hents_hm {H : AH} {bm : Nat} {hd : Hd} (h : H.find bm = some (.amap (ki (hents hd 17)))) (hout : ∀ i : Int, ¬ (1 ≤ i ∧ i ≤ 16) → hd i = none) : Hm H (.map (some bm)) hd := by
  refine ⟨bm, _, rfl, h, fun i => ?_⟩
  cases hi : hd i with
  | none =>
    refine .inl ⟨rfl, mlk_no fun p hp e => ?_⟩
    obtain ⟨j, _, h2, h3⟩ := hents_mem.1 hp
    rw [← h3, e, hi] at h2; cases h2
  | some y =>
    have hr : 1 ≤ i ∧ i ≤ 16 := Decidable.byContradiction fun hh => by rw [hout i hh] at hi; cases hi
    obtain ⟨k, hk⟩ := mlk_yes (i := i) (y := y) (l := hents hd 17) (n := 0) ⟨(i, y), hents_mem.2 ⟨i.toNat, by omega, by rw [show ((i.toNat : Nat) : Int) = i by omega]; exact hi, by dsimp only; omega⟩, rfl⟩ fun p hp e => by
      obtain ⟨j, _, h2, h3⟩ := hents_mem.1 hp
      rw [← h3, e, hi] at h2
      exact (Option.some.inj h2).symm
    exact .inr ⟨y, k, rfl, hk⟩
theorem hdP_out (XS : List (List Nf)) (T : List Tb) (B : List Bool) (P : List Sp) (i : Int) (h : ¬ (1 ≤ i ∧ i ≤ 16)) : hdP XS T B P i = none := by rw [hdP, if_neg h]

theorem eqIn_nil_ptr {P : Program} {H : AH} {t e : TypeId} {m : Nat} {a : Option Addr} (h : P.underlying t = some (.pointer e)) : qrun P (Op.equalIn (m + 1) t (.pointer none) (.pointer a)) H = some a.isNone := by
  cases a <;> simp only [Op.equalIn, qrun_bind, qrun_underlying, h, Option.bind_some, qrun_pure] <;> rfl
theorem eql_nil_l {P : Program} {H : AH} {t e : TypeId} {x y : Operand} {kk : Value → Prop} {a : Option Addr} : bin (some (.pointer e)) P H .eql t x y (.pointer none) (.pointer a) kk = (some (.pointer e) = P.underlying t ∧ nv (.bool a.isNone) kk) := bin_eql_of rfl rfl fun h => eqIn_nil_ptr h.symm
theorem Index_c (S : List SR) (base : Option Addr) (cap : Nat) (H : AH) (hs : SlcIn H 1 base cap (S.map encS)) :
    ACalls Tryz.prog 95 #[.slice base S.length cap, .pointer none] H (fun v H' => v = .int .i64 (-1) ∧ H = H') := by
  have hbig := hs.big
  simp only [List.length_map] at hbig
  refine ACalls.enter2 Tryz.func95 rfl Tryz.ntmps95 Tryz.results95 (by simp) ?_; simp (dsimp := false) (maxSteps := 4000000) only [go_sem]
  refine AWp.loopo (ι := Nat) (fun i => i ≤ S.length) (fun i => [(8, .int .i64 i), (7, .int .i64 S.length), (0, .slice base S.length cap), (1, .pointer none)]) (fun _ => H) (fun i => S.length - i) 0 (by omega) (FrLe.of_lks ?_) (AH.le_refl _) fun i hi Q again out => ?_
  · simp (dsimp := false) (maxSteps := 4000000) only [go_sem]
  by_cases hlt : (i : Int) < S.length
  · obtain ⟨s, hsi⟩ := get_some (l := S) (i := i) (by omega)
    obtain ⟨q, o, rfl, _, hrd⟩ := hs.get (Go.AX.map_get (f := encS) hsi)
    have rx := hrd 0 _ rfl
    simp only [Nat.add_zero, Nat.mul_one] at rx
    have ee := i64_succ (i := i) (by omega)
    have hi0 : (0 : Int) ≤ (i : Int) := by omega
    simp (dsimp := false) (maxSteps := 4000000) only [hlt, hi0, rx, ee, eql_nil_l, go_sem]
    exact again (i + 1) _ _ (by omega) (FrLe.of_lks (by simp (dsimp := false) (maxSteps := 4000000) only [go_sem])) (AH.le_refl _) (by omega)
  · obtain rfl : i = S.length := by omega
    simp (dsimp := false) (maxSteps := 4000000) only [hlt, go_sem]
    refine out _ _ _ (by simp) ?_
    simp (dsimp := false) (maxSteps := 4000000) only [go_sem]
    exact ⟨H, AH.le_refl _, rfl⟩
theorem Contains_c (S : List SR) (base : Option Addr) (cap : Nat) (H : AH) (hs : SlcIn H 1 base cap (S.map encS)) :
    ACalls Tryz.prog 50 #[.slice base S.length cap, .pointer none] H (fun v H' => v = .bool false ∧ H = H') := by
  refine ACalls.enter2 Tryz.func50 rfl Tryz.ntmps50 Tryz.results50 (by simp) ?_; simp (dsimp := false) (maxSteps := 4000000) only [go_sem]
  refine (Index_c S base cap _ hs).mono ?_; rintro _ _ ⟨rfl, rfl⟩
  simp (dsimp := false) (maxSteps := 4000000) only [go_sem]
  exact ⟨H, AH.le_refl _, rfl⟩
theorem ClipS_c (base : Option Addr) (n cap : Nat) (H : AH) (h : n ≤ cap) :
    ACalls Tryz.prog 28 #[.slice base n cap] H (fun v H' => v = .slice base n n ∧ H = H') := by
  refine ACalls.enter2 Tryz.func28 rfl Tryz.ntmps28 Tryz.results28 (by simp) ?_; simp (dsimp := false) (maxSteps := 4000000) only [go_sem]
  have h' : (n : Int) ≤ cap := by omega
  simp (dsimp := false) (maxSteps := 4000000) only [h', Int.le_refl, go_sem]
  exact ⟨H, (AH.le_refl _), (by first | exact ⟨rfl, rfl⟩ | rfl)⟩
def outP (hd : Hd) (X : List Nf) (den : Int) (t : Tb) (l : Bool) : List Nf × Int := if l = true then app t.2.2 hd X den else (X, den)
def rndE (n : Nat) (T : List Tb) : Int := if n < 1 then 1 else (tabs T).2
theorem tok_of {T : List Tb} (h : (tabs T).2 = 0) : TOk T := fun t ht => by
  have hb : Chk.bad T 2 = none := by
    cases h2 : Chk.bad T 2 with
    | some n => simp [tabs, h2] at h
    | none => rfl
  obtain ⟨i, hi⟩ := List.mem_iff_getElem?.1 ht
  rw [Chk.bad, List.find?_range_eq_none] at hb
  have := hb i (Go.AX.lt_of_get hi)
  have hf : Chk.fitB T i 2 = true := by simpa using this
  rw [Chk.fitB, if_pos rfl, Chk.rowT, hi] at hf
  exact hf
theorem good_slot {x : En} (h : Chk.goodE x = true) (h4 : x.1 ≠ 4) : 1 ≤ x.2.1 ∧ x.2.1 ≤ 16 := by
  obtain ⟨k, s, f, r, b⟩ := x
  dsimp only at h4
  rw [Chk.goodE, if_neg h4] at h
  simp only [Bool.and_eq_true, decide_eq_true_eq] at h
  have := h.1.2
  simp only [Chk.placeB, decide_eq_true_eq] at this
  exact ⟨this.1, this.2.1⟩
theorem tab_ok {T : List Tb} (h : TOk T) {t : Tb} (ht : t ∈ T) : t.2.2.length ≤ 64 ∧ ∀ x ∈ t.2.2, x.1 = 2 → (1 ≤ x.2.1 ∧ x.2.1 ≤ 16) ∧ 0 ≤ x.2.2.2.2 ∧ x.2.2.2.2 ≤ 3 :=
  ⟨Chk.mayB_len (h t ht), fun x hx _ => by
    obtain ⟨h1, h2⟩ := mayB_good (h t ht) hx
    exact ⟨good_slot h1 h2, (good_byte h1 h2).2⟩⟩
theorem valu8 : ∀ l : List Bool, Uart.valu l 8 ≤ 255 := fun l => by have := Uart.valu_lt l 8; omega
theorem heard_range (XS : List (List Nf)) (T : List Tb) (B : List Bool) (P : List Sp) : ∀ s y, hdP XS T B P s = some y → 0 ≤ y ∧ y ≤ 255 := fun s y h => by
  unfold hdP heardO at h
  split at h
  · split at h
    · obtain rfl := Option.some.inj h
      unfold takeP
      split
      · exact ⟨by decide, by decide⟩
      · exact ⟨Uart.valu_nonneg _ _, valu8 _⟩
    · cases h
  · cases h
theorem rowS (S : List SR) : ∀ r ∈ S.map encS, r.length = 1 := fun r hr => by
  obtain ⟨w, _, rfl⟩ := List.mem_map.1 hr
  rfl
theorem Round_c (S : List SR) (T : List Tb) (B : List Bool) (P : List Sp) (bs bt bb bp : Option Addr) (cs ct cb cp : Nat) (H : AH) (hE : ErrT H.w0) (hS : StsIn H bs cs S) (hT : TabIn H bt ct T) (hB : SlcIn H 1 bb cb (B.map encB1)) (hP : SlcIn H 2 bp cp (P.map encP)) (hl1 : T.length = S.length) (hl2 : B.length = S.length) (hl3 : S.length ≤ 32) :
    ACalls Tryz.prog 20 #[.slice bs S.length cs, .slice bt T.length ct, .slice bb B.length cb, .slice bp P.length cp] H (fun u H' => ∃ base cap SO, u = .tuple #[.slice base (List.length SO) cap, .int .i64 (rndE S.length T)] ∧ (rndE S.length T ≠ 0 → SO = []) ∧ (rndE S.length T = 0 → SO.length = S.length ∧ ∀ (n : Nat) s t l o, S[n]? = some s → T[n]? = some t → B[n]? = some l → SO[n]? = some o → (SR.X o).Perm (outP (hdP (S.map (·.X)) T B P) s.X s.den t l).1 ∧ o.den = (outP (hdP (S.map (·.X)) T B P) s.X s.den t l).2) ∧ StsIn H' base cap SO ∧ (Keep H H' fun _ => False) ∧ ∀ o ∈ SO, ∀ x, o.ft x → Fresh H x) := by
  obtain ⟨hd, hhd⟩ : ∃ hd, hdP (S.map (·.X)) T B P = hd := ⟨_, rfl⟩
  have hrd := heard_range (S.map (·.X)) T B P
  have hout := hdP_out (S.map (·.X)) T B P
  have heq : ∀ i : Int, 1 ≤ i ∧ i ≤ 16 → hd i = heardO (S.map (·.X)) T B P i := fun i hi => by rw [← hhd, hdP, if_pos hi]
  rw [hhd] at hrd hout ⊢
  have hbigS := hS.out.big
  simp only [List.length_map] at hbigS
  have e1 : (T.length : Int) = S.length := by omega
  have e2 : (B.length : Int) = S.length := by omega
  have bad : ∀ {E : Int} {T' : AH}, rndE S.length T = E → E ≠ 0 → H.le T' → ∃ H', H'.le T' ∧ ∃ base cap SO, Value.tuple #[.slice none 0 0, .int .i64 E] = .tuple #[.slice base (List.length SO) cap, .int .i64 (rndE S.length T)] ∧ (rndE S.length T ≠ 0 → SO = []) ∧ (rndE S.length T = 0 → SO.length = S.length ∧ ∀ (n : Nat) s t l o, S[n]? = some s → T[n]? = some t → B[n]? = some l → SO[n]? = some o → (SR.X o).Perm (outP hd s.X s.den t l).1 ∧ o.den = (outP hd s.X s.den t l).2) ∧ StsIn H' base cap SO ∧ (Keep H H' fun _ => False) ∧ ∀ o ∈ SO, ∀ x, o.ft x → Fresh H x := fun {E T'} he h0 hl =>
    ⟨H, hl, none, 0, [], by rw [he]; rfl, fun _ => rfl, fun h => absurd (he.symm.trans h) h0, ⟨SlcIn.nil, by simp⟩, Keep.refl, by simp⟩
  refine ACalls.enter2 Tryz.func20 rfl Tryz.ntmps20 Tryz.results20 (by simp) ?_; simp (dsimp := false) (maxSteps := 4000000) only [go_sem]
  by_cases hn1 : (S.length : Int) < 1
  · simp (dsimp := false) (maxSteps := 4000000) only [hn1, go_sem]
    exact bad (by rw [rndE, if_pos (by omega)]) (by decide) (AH.le_refl _)
  have hn2 : ¬ 32 < (S.length : Int) := by omega
  have hE0 : rndE S.length T = (tabs T).2 := by rw [rndE, if_neg (by omega)]
  simp (dsimp := false) (maxSteps := 4000000) only [hn1, hn2, go_sem]
  refine (Contains_c S bs cs _ hS.out).mono ?_; rintro _ _ ⟨rfl, rfl⟩
  simp (dsimp := false) (maxSteps := 4000000) only [e1, e2, go_sem]
  refine (Tables_c T bt ct _ hT).mono ?_; rintro _ _ ⟨rfl, rfl⟩
  by_cases h0 : (tabs T).2 = 0
  case neg =>
    simp (dsimp := false) (maxSteps := 4000000) only [h0, go_sem]
    exact bad hE0 h0 (AH.le_refl _)
  have ht := tok_of h0
  rw [h0] at hE0
  simp (dsimp := false) (maxSteps := 4000000) only [h0, go_sem]
  refine AllB.mk fun bm h_bm => ?_; have hn_bm := h_bm; (try simp only [fresh_add, fresh_set, ne_eq] at hn_bm); have hr_bm := hn_bm; (try simp only [@eq_comm Nat bm] at hr_bm); simp (dsimp := false) (maxSteps := 4000000) only [hn_bm, hr_bm, go_sem]
  have h1 : hents hd 1 = [] := by simp [hents, hout 0 (by omega)]
  refine AWp.loopo (ι := Nat) (fun i => 1 ≤ i ∧ i ≤ 17) (fun i => [(14, .int .i64 i), (13, .map (some bm)), (0, .slice bs S.length cs), (1, .slice bt T.length ct), (2, .slice bb B.length cb), (3, .slice bp P.length cp)]) (fun i => H.add bm (.amap (ki (hents hd i)))) (fun i => 17 - i) 1 ⟨by omega, by omega⟩ (FrLe.of_lks ?_) (by rw [h1]; exact AH.le_refl _) fun i hi Q again out => ?_
  · simp (dsimp := false) (maxSteps := 4000000) only [hn_bm, hr_bm, go_sem]
  by_cases hlt : (i : Int) ≤ 16
  · have hHd := Heard_c S T B P bs bt bb bp cs ct cb cp i _ (hS.keep (Keep.add (k := .amap (ki (hents hd i))) h_bm)) (hT.add h_bm) (hB.add h_bm) (hP.add h_bm) ht (by omega) (by omega)
    rw [← heq i (by omega)] at hHd
    have ee := i64_succ (i := i) (by omega)
    simp (dsimp := false) (maxSteps := 4000000) only [hlt, hn_bm, hr_bm, go_sem]
    refine (hHd).mono ?_; rintro _ _ ⟨rfl, rfl⟩
    cases hy : hd i with
    | none =>
      have e1 : hents hd (i + 1) = hents hd i := by rw [hents, hy]
      simp (dsimp := false) (maxSteps := 4000000) only [ee, hn_bm, hr_bm, go_sem]
      rw [← e1]
      exact again (i + 1) _ _ (by omega) (FrLe.of_lks (by simp (dsimp := false) (maxSteps := 4000000) only [hn_bm, hr_bm, go_sem])) (AH.le_refl _) (by omega)
    | some y =>
      have e1 : ki (hents hd i) ++ [(.int .i64 i, .int .u8 y)] = ki (hents hd (i + 1)) := by rw [hents, hy, ki, ki, List.map_append]; rfl
      simp (dsimp := false) (maxSteps := 4000000) only [ee, hents_new, mput, Option.getD_some, e1, hn_bm, hr_bm, go_sem]
      exact again (i + 1) _ _ (by omega) (FrLe.of_lks (by simp (dsimp := false) (maxSteps := 4000000) only [hn_bm, hr_bm, go_sem])) (AH.le_refl _) (by omega)
  obtain rfl : i = 17 := by omega
  have hM : Hm (H.add bm (.amap (ki (hents hd 17)))) (.map (some bm)) hd := hents_hm (find_add_self _ _ _) hout
  obtain ⟨D, hD⟩ : ∃ D, H.add bm (.amap (ki (hents hd 17))) = D := ⟨_, rfl⟩
  have kD : Keep H D fun _ => False := hD ▸ Keep.add h_bm
  simp (dsimp := false) (maxSteps := 4000000) only [hlt, hn_bm, hr_bm, go_sem]
  refine out _ _ _ (by simp) ?_
  rw [hD] at hM ⊢
  clear hD h_bm hn_bm hr_bm again out bad
  
  have hS := hS.keep kD
  have hT := hT.keep kD
  have hB := hB.keep kD fun _ _ h => h
  simp (dsimp := false) (maxSteps := 4000000) only [go_sem]
  refine AWp.loopr (ι := Nat × Option Addr × Nat × List SR) (fun s A => s.1 ≤ S.length ∧ s.2.2.2.length = s.1 ∧ OwnS D A 47 1 s.2.1 s.2.2.1 (s.2.2.2.map encS) ∧ (Keep D A fun _ => False) ∧ (∀ o ∈ s.2.2.2, o.In A ∧ ∀ x, o.ft x → Fresh D x ∧ ∀ a, s.2.1 = some a → a.block ≠ x) ∧ ∀ (n : Nat) r t l o, S[n]? = some r → T[n]? = some t → B[n]? = some l → s.2.2.2[n]? = some o → (SR.X o).Perm (outP hd r.X r.den t l).1 ∧ o.den = (outP hd r.X r.den t l).2)
    (fun s => [(72, .int .i64 s.1), (71, .int .i64 S.length), (70, .slice bs S.length cs), (17, .slice s.2.1 s.1 s.2.2.1), (13, .map (some bm)), (0, .slice bs S.length cs), (1, .slice bt T.length ct), (2, .slice bb B.length cb)]) (fun s => S.length - s.1) (0, none, 0, []) _ ⟨by simp only; omega, rfl, OwnS.nil, Keep.refl, by simp, by simp⟩ (FrLe.of_lks ?_) (AH.le_refl _) fun s A hi Q again out => ?_
  · simp (dsimp := false) (maxSteps := 4000000) only [go_sem]
  obtain ⟨i, base, cap, SO⟩ := s
  obtain ⟨hi, hl, hO, hK, hin, hval⟩ := hi
  
  dsimp only at hi hl hO hin hval again ⊢
  by_cases hlt : (i : Int) < S.length
  case neg =>
    obtain rfl : i = S.length := by omega
    simp (dsimp := false) (maxSteps := 4000000) only [hlt, go_sem]
    refine out _ _ _ (by simp) ?_
    simp (dsimp := false) (maxSteps := 4000000) only [go_sem]
    refine (ClipS_c base S.length cap _ (by have := hO.le; simpa [hl] using this)).mono ?_; rintro _ _ ⟨rfl, rfl⟩
    simp (dsimp := false) (maxSteps := 4000000) only [go_sem]
    refine ⟨A, AH.le_refl _, base, S.length, SO, by rw [hl, hE0], by rw [hE0]; exact fun h => absurd rfl h, fun _ => ⟨hl, hval⟩, ⟨?_, fun o ho => (hin o ho).1⟩, kD.trans hK, fun o ho x hx => kD.fr ((hin o ho).2 x hx).1⟩
    rcases hO.at_ with ⟨rfl, h2, rfl⟩ | ⟨b, bs', rfl, _⟩
    · have h3 : SO = [] := List.map_eq_nil_iff.1 h2
      subst h3
      simp only [List.length_nil] at hl
      omega
    · have h3 := hO.clip.slc
      simpa [hl] using h3
  obtain ⟨r, hr⟩ := get_some (l := S) (i := i) (by omega)
  obtain ⟨⟨tb, tc, L⟩, htt⟩ := get_some (l := T) (i := i) (by omega)
  obtain ⟨l, hbl⟩ := get_some (l := B) (i := i) (by omega)
  have hSA := hS.keep hK
  have hTA := hT.keep hK
  have hBA := hB.keep hK fun _ _ h => h
  have hMA := hM.keep hK fun _ _ h => h
  have hrin := hSA.inn r (List.mem_of_getElem? hr)
  have htin := hTA.inn _ (List.mem_of_getElem? htt)
  obtain ⟨q1, o1, rfl, _, hr1⟩ := hSA.out.get (Go.AX.map_get (f := encS) hr)
  obtain ⟨q2, o2, rfl, _, hr2⟩ := hTA.out.get (Go.AX.map_get (f := encT) htt)
  obtain ⟨q3, o3, rfl, _, hr3⟩ := hBA.get (Go.AX.map_get (f := encB1) hbl)
  have hr1 := hr1 0 _ rfl
  have hr2 := hr2 0 _ rfl
  have hr3 := hr3 0 _ rfl
  simp only [Nat.add_zero, Nat.mul_one] at hr1 hr2 hr3
  have ee := i64_succ (i := i) (by omega)
  have hi0 : (0 : Int) ≤ (i : Int) := by omega
  have hiT : (i : Int) < T.length := by omega
  have hiB : (i : Int) < B.length := by omega
  have nb : ∀ {A1 : AH}, (Keep A A1 fun _ => False) → ∀ b X den ft, StAt A1 b X den ft → OkX X → (∀ x, ft x → Fresh A x) → X.Perm (outP hd r.X r.den (tb, tc, L) l).1 → den = (outP hd r.X r.den (tb, tc, L) l).2 → ∀ bx, Fresh A1 bx → ∀ K : Value → AH → Prop, (∀ base' cap' H', ∀ SO' : List SR, SO'.length = i + 1 → OwnS D H' 47 1 base' cap' (SO'.map encS) → (Keep D H' fun _ => False) → (∀ o ∈ SO', SR.In H' o ∧ ∀ x, o.ft x → Fresh D x ∧ ∀ a, base' = some a → a.block ≠ x) → (∀ (n : Nat) r t l o, S[n]? = some r → T[n]? = some t → B[n]? = some l → SO'[n]? = some o → (SR.X o).Perm (outP hd r.X r.den t l).1 ∧ o.den = (outP hd r.X r.den t l).2) → K (.slice base' (i + 1) cap') H') →
      APD Tryz.prog (some 25) (some 25) [.slice base i cap, .slice (some ⟨bx, 0, none⟩) 1 1] (A1.add bx (.cells [.pointer (some ⟨b, 0, none⟩)] 47 1)) K := by
    intro A1 hK1 b X den ft hst hok hft hpm hdn bx hbx K hk
    have hO1 := hO.keep hK1 (fun _ _ h => h)
    have hKA := hK.trans hK1
    refine APD.growW (x := .slice (some ⟨bx, 0, none⟩) 1 1) (R' := [encS ⟨b, X, den, ft⟩]) (m := 1) (hO1.added hbx) (hKA.nw hbx).all se_25 rfl (by decide) (by rw [Tryz.underlying25]; rfl) (by simp [hl]) rfl rfl (by rw [srow_some, row_add_self]; rfl) (by simp [encS]) (by simp [encS, scal]) (by omega) fun base2 cap2 A' hO' hK' hN' => ?_
    have hK2 := (hKA.nw hbx).ow hK' fun b ⟨a, ha, e⟩ => e ▸ hO.fresh a ha
    have hbase : ∀ x, ¬ Fresh A1 x → (∀ a, base = some a → a.block ≠ x) → ∀ a, base2 = some a → a.block ≠ x := fun x hx hb a ha e => by
      rcases hN' a ha with ⟨a', h1, h2⟩ | hf
      · exact hb a' h1 (h2 ▸ e)
      · exact hx (e ▸ (Keep.refl.nw (k := .cells [.pointer (some ⟨b, 0, none⟩)] 47 1) hbx).fr hf)
    refine ⟨A', AH.le_refl _, hk base2 cap2 A' (SO ++ [⟨b, X, den, ft⟩]) (by simp [hl]) (by rw [List.map_append]; exact hO') hK2 (fun o ho => ?_) (fun n r' t l' o h1 h2 h3 h4 => ?_)⟩
    · rcases List.mem_append.1 ho with ho | ho
      · obtain ⟨⟨h1, h2⟩, h3⟩ := hin o ho
        have h1' := h1.keep hK1 fun _ _ h => h
        refine ⟨⟨(h1'.keep (Keep.add hbx) fun _ _ h => h).keep hK' fun x hx ⟨a, ha, e⟩ => (h3 x hx).2 a ha e.symm, h2⟩, fun x hx => ⟨(h3 x hx).1, hbase x (fun hf => h1'.fresh hf hx) (h3 x hx).2⟩⟩
      · obtain rfl := List.mem_singleton.1 ho
        refine ⟨⟨(hst.keep (Keep.add hbx) fun _ _ h => h).keep hK' fun x hx ⟨a, ha, e⟩ => hO.ne (hft x hx) a ha e.symm, hok⟩, fun x hx => ⟨hK.fr (hft x hx), hbase x (fun hf => hst.fresh hf hx) fun a ha => hO.ne (hft x hx) a ha⟩⟩
    · by_cases hn : n < SO.length
      · rw [List.getElem?_append_left hn] at h4
        exact hval n r' t l' o h1 h2 h3 h4
      · have hn2 := Go.AX.lt_of_get h4
        simp only [List.length_append, List.length_singleton] at hn2
        obtain rfl : n = i := by omega
        rw [List.getElem?_append_right (by omega), hl, Nat.sub_self] at h4
        cases h4
        rw [hr] at h1; rw [htt] at h2; rw [hbl] at h3
        cases h1; cases h2; cases h3
        exact ⟨hpm, hdn⟩
  cases l with
  | true =>
    have hmem : ((tb, tc, L) : Tb) ∈ T := List.mem_of_getElem? htt
    have hto := tab_ok ht hmem
    
    simp (dsimp := false) (maxSteps := 4000000) only [hlt, hi0, hiT, hiB, hr1, hr2, hr3, go_sem]
    refine (Apply_c (by rw [hK.w0, kD.w0]; exact hE) hrin.1 hrin.2 L tb tc htin (some bm) hd hMA hrd (fun x hx hx2 => (hto.2 x hx hx2).2) hto.1).mono ?_
    rintro _ A1 ⟨b1, X1, ft1, rfl, hp1, hok1, hs1, hK1, hf1⟩
    simp (dsimp := false) (maxSteps := 4000000) only [go_sem]
    refine AllB.mk fun bx h_bx => ?_; have hn_bx := h_bx; (try simp only [fresh_add, fresh_set, ne_eq] at hn_bx); have hr_bx := hn_bx; (try simp only [@eq_comm Nat bx] at hr_bx); simp (dsimp := false) (maxSteps := 4000000) only [hn_bx, hr_bx, go_sem]
    refine nb hK1 _ _ _ _ hs1 hok1 hf1 hp1 rfl bx h_bx _ fun base' cap' H' SO' g1 g2 g3 g4 g5 => ?_
    simp (dsimp := false) (maxSteps := 4000000) only [ee, hn_bx, hr_bx, go_sem]
    exact again (i + 1, base', cap', SO') _ _ _ ⟨by simp only; omega, g1, g2, g3, g4, g5⟩ (FrLe.of_lks (by simp (dsimp := false) (maxSteps := 4000000) only [hn_bx, hr_bx, go_sem])) (AH.le_refl _) (by simp only; omega)
    
  | false =>
    simp (dsimp := false) (maxSteps := 4000000) only [hlt, hi0, hiT, hiB, hr1, hr2, hr3, go_sem]
    refine (Copy_c hrin.1 hrin.2).mono ?_
    rintro _ A1 ⟨b1, X1, ft1, rfl, hp1, hs1, hK1, hf1⟩
    simp (dsimp := false) (maxSteps := 4000000) only [go_sem]
    refine AllB.mk fun bx h_bx => ?_; have hn_bx := h_bx; (try simp only [fresh_add, fresh_set, ne_eq] at hn_bx); have hr_bx := hn_bx; (try simp only [@eq_comm Nat bx] at hr_bx); simp (dsimp := false) (maxSteps := 4000000) only [hn_bx, hr_bx, go_sem]
    refine nb hK1 _ _ _ _ hs1 (hrin.2.perm hp1.symm) hf1 hp1 rfl bx h_bx _ fun base' cap' H' SO' g1 g2 g3 g4 g5 => ?_
    simp (dsimp := false) (maxSteps := 4000000) only [ee, hn_bx, hr_bx, go_sem]
    exact again (i + 1, base', cap', SO') _ _ _ ⟨by simp only; omega, g1, g2, g3, g4, g5⟩ (FrLe.of_lks (by simp (dsimp := false) (maxSteps := 4000000) only [hn_bx, hr_bx, go_sem])) (AH.le_refl _) (by simp only; omega)
end Go.Proofs.YtbhamhhjicehaaaGreatDoor.Prt

/- part: the reference's Round. -/
namespace Go.Proofs.YtbhamhhjicehaaaGreatDoor.Prt
set_option linter.unusedSimpArgs false
set_option linter.unusedVariables false
open Go Go.AX Go.Proofs Ty Go.Proofs.YtbhamhhjicehaaaGreatDoor.File Go.Proofs.YtbhamhhjicehaaaGreatDoor.Ifs Go.Proofs.YtbhamhhjicehaaaGreatDoor.Err
open Go.Proofs.YtbhamhhjicehaaaGreatDoor.Chk (Tb TabIn mayB tabs encT encE Tables_c)
set_option maxHeartbeats 4000000
set_option maxRecDepth 10000

end Go.Proofs.YtbhamhhjicehaaaGreatDoor.Prt

/- serve: the reference's store of a list. -/
namespace Go.Proofs.YtbhamhhjicehaaaGreatDoor.Srv
set_option linter.unusedSimpArgs false
set_option linter.unusedVariables false
open Go Go.AX Go.Proofs Ty Go.Proofs.YtbhamhhjicehaaaGreatDoor.File Go.Proofs.YtbhamhhjicehaaaGreatDoor.Ifs
set_option maxHeartbeats 4000000
set_option maxRecDepth 10000

def addR (Y : List Nf) (x : Nf) : List Nf := if goodF x.2.1 x.2.2 = true then (if addE Y x.1 x.2 = 0 then ins x.1 x.2 Y else Y) else Y
def refX (L : List Nf) : List Nf := L.foldl addR []
theorem addR_srt {Y : List Nf} (h : Srt Y) (x : Nf) : Srt (addR Y x) := by
  unfold addR
  split
  · split
    · rename_i e
      refine ins_srt h ?_
      unfold addE at e
      split at e
      · cases e
      split at e
      · cases e
      split at e
      · cases e
      · rename_i h1; simpa using h1
    · exact h
  · exact h
theorem addR_ok {Y : List Nf} (h : OkX Y) (x : Nf) (hr : ∀ r ∈ x.2.2, RcOk r) : OkX (addR Y x) := by
  unfold addR
  split
  · split
    · rename_i e
      have := h.add x.1 x.2 hr
      rw [addX, if_pos e] at this
      exact this.perm ((List.perm_append_singleton _ _).trans (ins_perm x.1 x.2 Y).symm)
    · exact h
  · exact h
theorem RefStore_c (L : List RF) (base : Option Addr) (cap : Nat) (H : AH) (hs : SlcIn H 3 base cap (L.map encN)) (hz : ∀ z ∈ L, SlcIn H 4 z.base z.cap (z.R.map enc) ∧ ∀ r ∈ z.R, RcOk r) :
    ACalls Tryz.prog 22 #[.slice base L.length cap] H (fun v H' => ∃ br Z rd, v = .pointer (some ⟨br, 0, none⟩) ∧ Z.map RF.nf = refX ((L.take 8).map RF.nf) ∧ RefS H' br Z 0 rd ∧ OkX (Z.map RF.nf) ∧ Srt (Z.map RF.nf) ∧ Fresh H br ∧ (Keep H H' fun _ => False) ∧ ∀ x, rd x → Fresh H x ∨ ∃ z ∈ L, z.R ≠ [] ∧ ∃ a, z.base = some a ∧ x = a.block) := by
  refine ACalls.enter2 Tryz.func22 rfl Tryz.ntmps22 Tryz.results22 (by simp) ?_; simp (dsimp := false) (maxSteps := 4000000) only [go_sem]
  refine AllB.mk fun br h_br => ?_; have hn_br := h_br; (try simp only [fresh_add, fresh_set, ne_eq] at hn_br); have hr_br := hn_br; (try simp only [@eq_comm Nat br] at hr_br); simp (dsimp := false) (maxSteps := 4000000) only [hn_br, hr_br, go_sem]
  have hst : RefS (H.add br (.cells [.slice none 0 0, .int .i64 0] 50 2)) br [] 0 (fun _ => False) := ⟨none, 0, find_add_self _ _ _, ⟨SlcIn.nil, by simp, .inl rfl, by simp⟩, fun h => h, .inl ⟨rfl, rfl, rfl⟩, fun x h => h.elim⟩
  have hfr : Fresh H br := h_br
  refine AWp.loopr (ι := Nat × List RF × (Nat → Prop)) (fun s A => s.1 ≤ L.length ∧ s.1 ≤ 8 ∧ RefS A br s.2.1 0 s.2.2 ∧ s.2.1.map RF.nf = refX ((L.take s.1).map RF.nf) ∧ OkX (s.2.1.map RF.nf) ∧ Srt (s.2.1.map RF.nf) ∧ (Keep H A fun _ => False) ∧ ∀ x, s.2.2 x → Fresh H x ∨ ∃ z ∈ L, z.R ≠ [] ∧ ∃ a, z.base = some a ∧ x = a.block)
    (fun s => [(4, .int .i64 s.1), (3, .pointer (some ⟨br, 0, none⟩)), (0, .slice base L.length cap)]) (fun s => 8 - s.1) (0, [], fun _ => False) _
    ⟨by simp, by simp, hst, rfl, OkX.nil, by simp [Srt], Keep.add h_br, fun x h => h.elim⟩ (FrLe.of_lks ?_) (AH.le_refl _) fun s A hV Q again out => ?_
  · simp (dsimp := false) (maxSteps := 4000000) only [hn_br, hr_br, go_sem]
  clear hst hn_br hr_br h_br
  
  obtain ⟨i, Z, rd⟩ := s
  obtain ⟨hi, hi2, hS, hZ, hok, hso, hK, hrd⟩ := hV
  dsimp only at hi hi2 hS hZ hok hso hK hrd ⊢
  by_cases hlt : (i : Int) < L.length ∧ (i : Int) < 8
  · obtain ⟨z, hzi⟩ := get_some (l := L) (i := i) (by omega)
    obtain ⟨hzs, hzr⟩ := hz z (List.mem_of_getElem? hzi)
    obtain ⟨q, o, rfl, _, hr⟩ := (hs.keep hK fun _ _ h => h).get (Go.AX.map_get (f := encN) hzi)
    have rz := hr 0 _ rfl
    simp only [Nat.add_zero] at rz
    have hx1 : A.row q (o + i * 3 + 1) 2 = some [.int .i64 z.p, .slice z.base z.R.length z.cap] := row_of_rd rfl (by decide) fun j c hj => by
      rw [Nat.add_assoc _ 1 j, Nat.add_comm 1 j]
      exact hr (j + 1) c hj
    have ee := i64_succ (i := i) (by omega)
    have hi0 : (0 : Int) ≤ (i : Int) := by omega
    have hzA := hzs.keep hK fun _ _ h => h
    have hgc := fun H1 (h : SlcIn H1 4 z.base z.cap (z.R.map enc)) => File.RefGood_c z.p z.R z.base z.cap H1 h
    unfold fv at hgc
    have hstep : refX ((L.take (i + 1)).map RF.nf) = addR (refX ((L.take i).map RF.nf)) z.nf := by
      rw [List.take_add_one, hzi, refX, refX, List.map_append, List.foldl_append]; rfl
    simp (dsimp := false) (maxSteps := 4000000) only [hlt.1, hlt.2, go_sem]
    simp (dsimp := false) (maxSteps := 4000000) only [hlt.1, hlt.2, hi0, hx1, go_sem]
    refine AllB.mk fun b5 h_b5 => ?_; have hn_b5 := h_b5; (try simp only [fresh_add, fresh_set, ne_eq] at hn_b5); have hr_b5 := hn_b5; (try simp only [@eq_comm Nat b5] at hr_b5); simp (dsimp := false) (maxSteps := 4000000) only [hn_b5, hr_b5, go_sem]
    refine (hgc _ (hzA.add h_b5)).mono ?_; rintro _ _ ⟨rfl, rfl⟩
    cases hg : goodF z.p z.R with
    | false =>
      simp (dsimp := false) (maxSteps := 4000000) only [ee, hn_b5, hr_b5, go_sem]
      exact again (i + 1, Z, rd) _ A _ ⟨by dsimp only; omega, by dsimp only; omega, hS, by dsimp only; rw [hstep, hZ, addR, if_neg (by simp [RF.nf, hg])], hok, hso, hK, hrd⟩ (FrLe.of_lks (by simp (dsimp := false) (maxSteps := 4000000) only [hn_b5, hr_b5, go_sem])) (AH.le_add (AH.le_refl _) h_b5.2) (by dsimp only; omega)
    | true =>
      have hR0 : z.R ≠ [] := fun e => by rw [e] at hg; simp [goodF] at hg
      have k5 : Keep H _ fun _ => False := hK.nw (k := .cells [.int .i64 z.p, .slice z.base z.R.length z.cap] 65 2) h_b5
      simp (dsimp := false) (maxSteps := 4000000) only [hn_b5, hr_b5, go_sem]
      refine AWp.gen [.pu, .pu, .pu, .pu, .pu, .rd, .rd, .ch] [0, 0, 0, 6, 14, 30, 0, 127] 0 (_) mixed (by kernel_rfl) (AH.le_refl _) ?_
      have n5 : ¬ b5 = q := h_b5.ne_row hx1
      simp (dsimp := false) (maxSteps := 4000000) only [hi0, hlt.1, rz, n5, hn_b5, hr_b5, go_sem]
      refine (RefAdd_c (hS.keep (Keep.add h_b5 (ex := fun _ => False)) (fun _ _ h => h) fun h => h) hok hso z.n z.p z.R z.base z.cap (hzA.add h_b5) (.inr fun a ha => ⟨?_, fun hf => ?_⟩)).mono ?_
      · exact (hzs.apart hfr).elim (fun h => absurd (List.map_eq_nil_iff.1 h) hR0) fun h => h a ha
      · exact (hzs.apart (k5.fr hf)).elim (fun h => hR0 (List.map_eq_nil_iff.1 h)) fun h => h a ha rfl
      rintro _ B ⟨Z', rd', rfl, hZ', hrB, hKB, hrd'⟩
      have hadd : Z'.map RF.nf = addR (Z.map RF.nf) z.nf := by
        rw [hZ', addR]
        exact (if_pos (show goodF z.nf.2.1 z.nf.2.2 = true from hg)).symm
      simp (dsimp := false) (maxSteps := 4000000) only [ee, hn_b5, hr_b5, go_sem]
      exact again (i + 1, Z', rd') _ B _ ⟨by dsimp only; omega, by dsimp only; omega, hrB, by dsimp only; rw [hadd, hstep, hZ], by dsimp only; rw [hadd]; exact addR_ok hok _ hzr, by dsimp only; rw [hadd]; exact addR_srt hso _, k5.ow hKB fun x e => e ▸ hfr, fun x hx => by
        rcases hrd' x hx with h | h | ⟨h, a, ha, e⟩
        · exact hrd x h
        · exact .inl (k5.fr h)
        · exact .inr ⟨z, List.mem_of_getElem? hzi, h, a, ha, e⟩⟩ (FrLe.of_lks (by simp (dsimp := false) (maxSteps := 4000000) only [hn_b5, hr_b5, go_sem])) (AH.le_refl _) (by dsimp only; omega)
  
  have hno : ¬ (i : Int) < L.length ∨ ((i : Int) < L.length ∧ ¬ (i : Int) < 8) := by omega
  have ht : L.take i = L.take 8 := by
    rcases hno with h | ⟨_, h⟩
    · rw [List.take_of_length_le (by omega), List.take_of_length_le (by omega)]
    · rw [show i = 8 from by omega]
  rw [ht] at hZ
  clear hlt again
  rcases hno with a | ⟨a, a'⟩
  case' inl =>
    
    simp (dsimp := false) (maxSteps := 4000000) only [a, go_sem]
    refine out _ _ _ (by simp) ?_
    
  case' inr =>
    simp (dsimp := false) (maxSteps := 4000000) only [a, a', go_sem]
    refine out _ _ _ (by simp) ?_
  all_goals
    simp (dsimp := false) (maxSteps := 4000000) only [go_sem]
    exact ⟨A, AH.le_refl _, br, Z, rd, rfl, hZ, hS, hok, hso, hfr, hK, hrd⟩
end Go.Proofs.YtbhamhhjicehaaaGreatDoor.Srv

/- serve: build. -/
namespace Go.Proofs.YtbhamhhjicehaaaGreatDoor.Srv
set_option linter.unusedSimpArgs false
set_option linter.unusedVariables false
open Go Go.AX Go.Proofs Ty Go.Proofs.YtbhamhhjicehaaaGreatDoor.File Go.Proofs.YtbhamhhjicehaaaGreatDoor.Ifs
set_option maxHeartbeats 4000000
set_option maxRecDepth 10000

theorem add_next {Z : List RF} {i : Nat} {z : RF} (hX : OkX (Z.map RF.nf)) (hz : Z[i]? = some z) : addE ((Z.take i).map RF.nf) z.n (z.p, z.R) = 0 := by
  obtain ⟨h1, h2, _⟩ := hX.ok z.nf (List.mem_map_of_mem (List.mem_of_getElem? hz))
  have h3 : lk z.n ((Z.take i).map RF.nf) = none := by
    rw [lk_none]
    intro x hx e
    obtain ⟨y, hy, rfl⟩ := List.mem_map.1 hx
    obtain ⟨j, hj⟩ := List.mem_iff_getElem?.1 hy
    have hji : j < i := by have := Go.AX.lt_of_get hj; rw [List.length_take] at this; omega
    rw [List.getElem?_take, if_pos hji] at hj
    have hk := hX.kd
    have e1 : ((Z.map RF.nf).map (·.1))[j]? = some z.n := by simp [hj, e]
    have e2 : ((Z.map RF.nf).map (·.1))[i]? = some z.n := by simp [hz, RF.nf]
    have := (List.getElem?_inj (by simpa using Go.AX.lt_of_get hj) hk).1 (e1.trans e2.symm)
    omega
  have h1' : (0 ≤ z.n ∧ z.n < 64) := h1
  have h2' : goodF z.p z.R = true := h2
  unfold addE
  rw [if_neg (by omega), if_neg (by rw [h2']; decide), h3]
  rfl
end Go.Proofs.YtbhamhhjicehaaaGreatDoor.Srv

/- part: slices of our own that grow side by side. -/
namespace Go.Proofs.YtbhamhhjicehaaaGreatDoor.Prt
set_option linter.unusedSimpArgs false
set_option linter.unusedVariables false
open Go Go.AX Go.Proofs Ty Go.Proofs.YtbhamhhjicehaaaGreatDoor.File Go.Proofs.YtbhamhhjicehaaaGreatDoor.Ifs
open Go.Proofs.YtbhamhhjicehaaaGreatDoor.Chk (Tb TabIn encT encE En)
set_option maxHeartbeats 4000000
set_option maxRecDepth 10000

def Off (base : Option Addr) (x : Nat) : Prop := ∀ a, base = some a → a.block ≠ x
abbrev OQ := Nat × Option Addr × Nat × List (List Value)
structure Ow (H A : AH) (own : List OQ) (prot : Nat → Prop) : Prop where
  ow : ∀ (k : Nat) (q : OQ), own[k]? = some q → OwnS H A q.1 1 q.2.1 q.2.2.1 q.2.2.2
  df : ∀ (j k : Nat) (q r : OQ), j ≠ k → own[j]? = some q → own[k]? = some r → ∀ a, r.2.1 = some a → Off q.2.1 a.block
  nf : ∀ x, prot x → ¬ Fresh A x
  pr : ∀ x, prot x → ∀ (k : Nat) (q : OQ), own[k]? = some q → Off q.2.1 x
  kp : Keep H A fun _ => False
theorem nfrO {H0 H : AH} {e sz cap : Nat} {base : Option Addr} {R : List (List Value)} (h : OwnS H0 H e sz base cap R) {a : Addr} (ha : base = some a) : ¬ Fresh H a.block := fun hf => by
  rcases h.at_ with ⟨h1, _⟩ | ⟨b, bs, h1, h2, _⟩
  · rw [ha] at h1; cases h1
  · rw [ha] at h1; cases h1; exact hf.ne_find h2 rfl
theorem Ow.keep {H A A' : AH} {own : List OQ} {prot : Nat → Prop} (h : Ow H A own prot) (hK : Keep A A' fun _ => False) : Ow H A' own prot :=
  ⟨fun k q hq => (h.ow k q hq).keep hK fun _ _ h => h, h.df, fun x hx hf => h.nf x hx (hK.fr hf), h.pr, h.kp.trans hK⟩
theorem Ow.more {H A A' : AH} {own : List OQ} {prot new : Nat → Prop} (h : Ow H A own prot) (hK : Keep A A' fun _ => False) (hn : ∀ x, new x → (Fresh A x ∨ ¬ Fresh H x) ∧ ¬ Fresh A' x) : Ow H A' own (fun x => prot x ∨ new x) :=
  have h' := h.keep hK
  ⟨h'.ow, h'.df, fun x hx => hx.elim (h'.nf x) fun hx => (hn x hx).2, fun x hx k q hq => hx.elim (fun hx => h'.pr x hx k q hq) fun hx a ha e => by
    rcases (hn x hx).1 with hf | hf
    · exact nfrO (h.ow k q hq) ha (e ▸ hf)
    · exact hf (e ▸ (h.ow k q hq).fresh a ha), h'.kp⟩
theorem Ow.step {H A A' : AH} {own : List OQ} {prot : Nat → Prop} (h : Ow H A own prot) {k e : Nat} {base b' : Option Addr} {cap c' : Nat} {R R' : List (List Value)} (hk : own[k]? = some (e, base, cap, R)) (hO' : OwnS H A' e 1 b' c' R') (hK : Keep A A' (exB base)) (hKH : Keep H A' fun _ => False)
    (hN : ∀ y, ¬ Fresh A y → Off base y → Off b' y) : Ow H A' (own.set k (e, b', c', R')) prot ∧ ∀ y, prot y → ¬ exB base y := by
  have hlt := Go.AX.lt_of_get hk
  have hex : ∀ y, Off base y → ¬ exB base y := fun y hy ⟨a, ha, e⟩ => hy a ha e.symm
  have old : ∀ {j : Nat} {q : OQ}, j ≠ k → (own.set k (e, b', c', R'))[j]? = some q → own[j]? = some q := fun {j q} hj h => by
    rwa [List.getElem?_set_ne (Ne.symm hj)] at h
  have new : ∀ {q : OQ}, (own.set k (e, b', c', R'))[k]? = some q → q = (e, b', c', R') := fun {q} h => by
    rw [List.getElem?_set_self hlt] at h; exact (Option.some.inj h).symm
  refine ⟨⟨fun j q hq => ?_, fun j l q r hjl hq hr a ha => ?_, fun y hy hf => h.nf y hy (hK.fresh hf (hex y (h.pr y hy k _ hk))), fun y hy j q hq => ?_, hKH⟩, fun y hy => hex y (h.pr y hy k _ hk)⟩
  · by_cases hj : j = k
    · subst hj; rw [new hq]; exact hO'
    · have ho := old hj hq
      exact (h.ow j q ho).keep hK fun a ha => hex _ (h.df k j _ q (Ne.symm hj) hk ho a ha)
  · by_cases hj : j = k
    · subst hj
      have hl : l ≠ j := Ne.symm hjl
      have ho := old hl hr
      rw [new hq]
      exact hN _ (nfrO (h.ow l r ho) ha) (h.df j l _ r hjl hk ho a ha)
    · have hqo := old hj hq
      by_cases hl : l = k
      · subst hl
        have e1 := new hr
        subst e1
        intro a2 ha2 e2
        exact hN _ (nfrO (h.ow j q hqo) ha2) (h.df l j _ q (Ne.symm hj) hk hqo a2 ha2) a ha e2.symm
      · exact h.df j l q r hjl hqo (old hl hr) a ha
  · by_cases hj : j = k
    · subst hj; rw [new hq]; exact hN y (h.nf y hy) (h.pr y hy j _ hk)
    · exact h.pr y hy j q (old hj hq)
theorem Ow.push {H A : AH} {own : List OQ} {prot : Nat → Prop} (h : Ow H A own prot) {k e t bt cap n : Nat} {base : Option Addr} {R : List (List Value)} {zs : List Value} {x : Value} (hk : own[k]? = some (e, base, cap, R)) (hx : scal x = true) (hE : slE Tryz.prog t = some (e, 1, zs, bt)) (hz : zs.length = 1) (hbt : bt ≠ 0) (hni : nInt (Tryz.prog.underlying t) = true)
    (hn : n = R.length) (hroom : (2 * (n + 1) + 192) * bt ≤ 281474976710656) {bx : Nat} (hbx : Fresh A bx) {K : Value → AH → Prop} (hc : ∀ b' c' A', Ow H A' (own.set k (e, b', c', R ++ [[x]])) prot → Keep A A' (exB base) → (∀ y, prot y → ¬ exB base y) → K (.slice b' (n + 1) c') A') :
    APD Tryz.prog (some t) (some t) [.slice base n cap, .slice (some ⟨bx, 0, none⟩) 1 1] (A.add bx (.cells [x] e 1)) K := by
  have hO := h.ow k _ hk
  have hadd : Keep A (A.add bx (.cells [x] e 1)) fun _ => False := Keep.add hbx
  refine APD.growW (x := .slice (some ⟨bx, 0, none⟩) 1 1) (R' := [[x]]) (m := 1) (hO.added hbx) (h.kp.nw hbx).all hE hz hbt hni hn rfl rfl (by rw [srow_some, row_add_self]; rfl) (by simp) (by simp [hx]) hroom fun base2 cap2 A' hO' hK' hN' => ?_
  have hKA : Keep A A' (exB base) := hadd.mono (fun _ h => h.elim) |>.trans hK'
  have hKH := (h.kp.nw (k := .cells [x] e 1) hbx).ow hK' fun b ⟨a, ha, e⟩ => e ▸ hO.fresh a ha
  obtain ⟨g1, g2⟩ := h.step hk hO' hKA hKH fun y hy hb a ha e => by
    rcases hN' a ha with ⟨a', h1, h2⟩ | hf
    · exact hb a' h1 (h2 ▸ e)
    · exact hy (e ▸ hadd.fr hf)
  exact ⟨A', AH.le_refl _, hc base2 cap2 A' g1 hKA g2⟩
theorem Ow.nil (H : AH) : Ow H H [] (fun _ => False) := ⟨fun k q h => by simp at h, fun j k q r _ h => by simp at h, fun _ h => h.elim, fun _ h => h.elim, Keep.refl⟩
theorem Ow.snoc {H A : AH} {own : List OQ} {prot : Nat → Prop} (h : Ow H A own prot) {x : Nat} (hx : Fresh A x) (e : Nat) : Ow H (A.add x (.cells [] e 0)) (own ++ [(e, some ⟨x, 0, none⟩, 0, [])]) prot := by
  have sp : ∀ {k : Nat} {q : OQ}, (own ++ [(e, some ⟨x, 0, none⟩, 0, [])])[k]? = some q → (k < own.length ∧ own[k]? = some q) ∨ (k = own.length ∧ q = (e, some ⟨x, 0, none⟩, 0, [])) := fun {k q} h => by
    by_cases hk : k < own.length
    · rw [List.getElem?_append_left hk] at h; exact .inl ⟨hk, h⟩
    · have := Go.AX.lt_of_get h
      simp only [List.length_append, List.length_singleton] at this
      obtain rfl : k = own.length := by omega
      rw [List.getElem?_append_right (Nat.le_refl _), Nat.sub_self] at h
      exact .inr ⟨rfl, (Option.some.inj h).symm⟩
  have hk0 : Keep A (A.add x (.cells [] e 0)) fun _ => False := Keep.add hx
  refine ⟨fun k q hq => ?_, fun j k q r hjk hq hr a ha a2 ha2 e2 => ?_, fun y hy hf => h.nf y hy (hk0.fr hf), fun y hy k q hq a ha e2 => ?_, h.kp.nw hx⟩
  · rcases sp hq with ⟨_, hq⟩ | ⟨_, rfl⟩
    · exact (h.ow k q hq).added hx
    · exact OwnS.new hx h.kp.all rfl rfl rfl (by simp) (by simp)
  · rcases sp hq with ⟨_, hq⟩ | ⟨h1, rfl⟩ <;> rcases sp hr with ⟨_, hr⟩ | ⟨h2, rfl⟩
    · exact h.df j k q r hjk hq hr a ha a2 ha2 e2
    · cases ha
      exact nfrO (h.ow j q hq) ha2 (by rw [e2]; exact hx)
    · cases ha2
      exact nfrO (h.ow k r hr) ha (by rw [← e2]; exact hx)
    · omega
  · rcases sp hq with ⟨_, hq⟩ | ⟨_, rfl⟩
    · exact h.pr y hy k q hq a ha e2
    · cases ha
      exact h.nf y hy (by rw [← e2]; exact hx)
def P2 (A : AH) (prot : Nat → Prop) (S : List SR) (R : List RR) : Prop := (∀ s ∈ S, s.In A ∧ ∀ x, s.ft x → prot x) ∧ ∀ r ∈ R, r.In A ∧ ∀ x, (x = r.b ∨ r.rd x) → prot x
theorem P2.keep {A A' : AH} {prot ex : Nat → Prop} {S : List SR} {R : List RR} (h : P2 A prot S R) (hK : Keep A A' ex) (hp : ∀ y, prot y → ¬ ex y) : P2 A' prot S R :=
  ⟨fun s hs => ⟨⟨(h.1 s hs).1.1.keep hK fun x hx => hp x ((h.1 s hs).2 x hx), (h.1 s hs).1.2⟩, (h.1 s hs).2⟩,
   fun r hr => ⟨⟨(h.2 r hr).1.1.keep hK (fun x hx => hp x ((h.2 r hr).2 x (.inr hx))) (hp _ ((h.2 r hr).2 _ (.inl rfl))), (h.2 r hr).1.2⟩, (h.2 r hr).2⟩⟩
theorem P2.more {A : AH} {prot new : Nat → Prop} {S : List SR} {R : List RR} {s : SR} {r : RR} (h : P2 A prot S R) (hs : s.In A ∧ ∀ x, s.ft x → new x) (hr : r.In A ∧ ∀ x, (x = r.b ∨ r.rd x) → new x) : P2 A (fun x => prot x ∨ new x) (S ++ [s]) (R ++ [r]) :=
  ⟨fun q hq => by
    rcases List.mem_append.1 hq with hq | hq
    · exact ⟨(h.1 q hq).1, fun x hx => .inl ((h.1 q hq).2 x hx)⟩
    · obtain rfl := List.mem_singleton.1 hq
      exact ⟨hs.1, fun x hx => .inr (hs.2 x hx)⟩,
   fun q hq => by
    rcases List.mem_append.1 hq with hq | hq
    · exact ⟨(h.2 q hq).1, fun x hx => .inl ((h.2 q hq).2 x hx)⟩
    · obtain rfl := List.mem_singleton.1 hq
      exact ⟨hr.1, fun x hx => .inr (hr.2 x hx)⟩⟩

end Go.Proofs.YtbhamhhjicehaaaGreatDoor.Prt

/- part: build. -/
namespace Go.Proofs.YtbhamhhjicehaaaGreatDoor.Prt
set_option linter.unusedSimpArgs false
set_option linter.unusedVariables false
open Go Go.AX Go.Proofs Ty Go.Proofs.YtbhamhhjicehaaaGreatDoor.File Go.Proofs.YtbhamhhjicehaaaGreatDoor.Ifs
open Go.Proofs.YtbhamhhjicehaaaGreatDoor.Srv (RefStore_c refX add_next)
open Go.Proofs.YtbhamhhjicehaaaGreatDoor.Chk (Tb TabIn encT encE En)
set_option maxHeartbeats 4000000
set_option maxRecDepth 10000

structure Ce where
  fb : Option Addr
  fc : Nat
  L : List RF
  tb : Option Addr
  tc : Nat
  E : List En
  live : Bool
  st : Value
def encC (c : Ce) : List Value := [.slice c.fb c.L.length c.fc, .slice c.tb c.E.length c.tc, .bool c.live, c.st]
structure CeIn (H : AH) (c : Ce) : Prop where
  f : SlcIn H 3 c.fb c.fc (c.L.map encN)
  r : ∀ z ∈ c.L, SlcIn H 4 z.base z.cap (z.R.map enc) ∧ ∀ r ∈ z.R, RcOk r
  t : SlcIn H 5 c.tb c.tc (c.E.map encE)
def tabC (c : Ce) : Tb := (c.tb, c.tc, c.E.take 70)
structure Bd where
  b1 : Option Addr
  c1 : Nat
  S : List SR
  b2 : Option Addr
  c2 : Nat
  R : List RR
  b3 : Option Addr
  c3 : Nat
  T : List Tb
  b4 : Option Addr
  c4 : Nat
  B : List Bool
def Bd.own (w : Bd) : List OQ := [(47, w.b1, w.c1, w.S.map encS), (51, w.b2, w.c2, w.R.map encR), (58, w.b3, w.c3, w.T.map encT), (4, w.b4, w.c4, w.B.map encB1)]
structure Bof (C : List Ce) (n : Nat) (w : Bd) : Prop where
  s : w.S.length = n
  r : w.R.length = n
  t : w.T = (C.take n).map tabC
  b : w.B = (C.take n).map (·.live)
  x : ∀ (i : Nat) s r, w.S[i]? = some s → w.R[i]? = some r → s.X = r.Z.map RF.nf ∧ s.den = 0 ∧ r.den = 0 ∧ Srt s.X
theorem Bof.add {C : List Ce} {n : Nat} {w : Bd} (h : Bof C n w) {c : Ce} (hc : C[n]? = some c) {b br : Nat} {Z : List RF} {ft rd : Nat → Prop} (hZ : Srt (Z.map RF.nf)) (b1 b2 b3 b4 : Option Addr) (c1 c2 c3 c4 : Nat) :
    Bof C (n + 1) ⟨b1, c1, w.S ++ [⟨b, Z.map RF.nf, 0, ft⟩], b2, c2, w.R ++ [⟨br, Z, 0, rd⟩], b3, c3, w.T ++ [tabC c], b4, c4, w.B ++ [c.live]⟩ := by
  refine ⟨by simp [h.s], by simp [h.r], by simp [List.take_add_one, hc, h.t], by simp [List.take_add_one, hc, h.b], fun i s r h1 h2 => ?_⟩
  dsimp only at h1 h2
  by_cases hi : i < n
  · rw [List.getElem?_append_left (by rw [h.s]; exact hi)] at h1
    rw [List.getElem?_append_left (by rw [h.r]; exact hi)] at h2
    exact h.x i s r h1 h2
  · have := Go.AX.lt_of_get h1
    simp only [List.length_append, h.s, List.length_singleton] at this
    obtain rfl : i = n := by omega
    rw [List.getElem?_append_right (by rw [h.s]; exact Nat.le_refl _), h.s, Nat.sub_self] at h1
    rw [List.getElem?_append_right (by rw [h.r]; exact Nat.le_refl _), h.r, Nat.sub_self] at h2
    cases h1; cases h2
    exact ⟨rfl, rfl, rfl, hZ⟩
end Go.Proofs.YtbhamhhjicehaaaGreatDoor.Prt

/- part: the fixed fact. -/
namespace Go.Proofs.YtbhamhhjicehaaaGreatDoor.Prt
set_option linter.unusedSimpArgs false
set_option linter.unusedVariables false
open Go Go.AX Go.Proofs Ty Go.Proofs.YtbhamhhjicehaaaGreatDoor.File Go.Proofs.YtbhamhhjicehaaaGreatDoor.Ifs Go.Proofs.YtbhamhhjicehaaaGreatDoor.Err
open Go.Proofs.YtbhamhhjicehaaaGreatDoor.Chk (Tb TabIn encT encE En tabs)
set_option maxHeartbeats 4000000
set_option maxRecDepth 10000

theorem slcF {H0 H : AH} {b e sz bs n : Nat} {R : List (List Value)} (hf : Fresh H0 b) (h : H.find b = some (.cells R.flatten e bs)) (hn : n = R.length) (hr : ∀ r ∈ R, r.length = sz) (hb : n * sz ≤ bs) (hbig : R.length < 9223372036854775808) : SlcIn H sz (some ⟨b, 0, none⟩) n R :=
  (⟨hr, by omega, hbig, .inr ⟨b, bs, rfl, h, hb, hf⟩⟩ : OwnS H0 H e sz (some ⟨b, 0, none⟩) n R).slc
end Go.Proofs.YtbhamhhjicehaaaGreatDoor.Prt

/- part: what is sorted stays so; a slot that is none. -/
namespace Go.Proofs.YtbhamhhjicehaaaGreatDoor.Prt
set_option linter.unusedSimpArgs false
set_option linter.unusedVariables false
open Go Go.AX Go.Proofs Ty Go.Proofs.YtbhamhhjicehaaaGreatDoor.File Go.Proofs.YtbhamhhjicehaaaGreatDoor.Ifs Go.Proofs.YtbhamhhjicehaaaGreatDoor.Err
open Go.Proofs.YtbhamhhjicehaaaGreatDoor.Chk (Tb TabIn encT encE En tabs sndO snd)
set_option maxHeartbeats 4000000
set_option maxRecDepth 10000

end Go.Proofs.YtbhamhhjicehaaaGreatDoor.Prt

/- part: PartRounds. -/
namespace Go.Proofs.YtbhamhhjicehaaaGreatDoor.Prt
set_option linter.unusedSimpArgs false
set_option linter.unusedVariables false
open Go Go.AX Go.Proofs Ty Go.Proofs.YtbhamhhjicehaaaGreatDoor.File Go.Proofs.YtbhamhhjicehaaaGreatDoor.Ifs Go.Proofs.YtbhamhhjicehaaaGreatDoor.Err
open Go.Proofs.YtbhamhhjicehaaaGreatDoor.Chk (Tb TabIn encT encE En tabs)
set_option maxHeartbeats 4000000
set_option maxRecDepth 10000

end Go.Proofs.YtbhamhhjicehaaaGreatDoor.Prt

/- part: a cell among the arguments. -/
namespace Go.Proofs.YtbhamhhjicehaaaGreatDoor.Prt
set_option linter.unusedSimpArgs false
set_option linter.unusedVariables false
open Go Go.AX Go.ChangeShapes Go.WideShapes Go.ChangeAt Go.RowKit Go.Proofs.YtbhamhhjicehaaaGreatDoor.File Go.Proofs.YtbhamhhjicehaaaGreatDoor.Ifs
open Go.Proofs.YtbhamhhjicehaaaGreatDoor.Chk (encE En)
set_option maxRecDepth 100000

theorem u8_wf {x : Int} (h : (Lit.int .u8 x).wf = true) : 0 ≤ x ∧ x ≤ 255 := by
  simp [Lit.wf, IntKind.min, IntKind.max, IntKind.signed, IntKind.bits] at h
  omega
theorem open_named {HT : Type} {ec : TypeId × Value → HT} {W : World} {sp : Nat → Bool} {held : Bool} {cs : List Value} (hl : cs.length = 3) (hc : Leafy ec Tryz.prog W 0 sp held [3, 3, 63] cs) :
    ∃ z : RF, cs = encN z ∧ (SlcIn ⟨W, []⟩ 4 z.base z.cap (z.R.map enc) ∧ ∀ r ∈ z.R, RcOk r) := by
  obtain ⟨c0, c1, c2, rfl⟩ := list3 hl
  obtain ⟨_, _, t0⟩ := hc 0 _ _ rfl rfl
  obtain ⟨a0, q0, _, w0⟩ := DataW.trod_int Tryz.underlying3 t0; cases q0
  obtain ⟨_, _, t1⟩ := hc 1 _ _ rfl rfl
  obtain ⟨a1, q1, _, w1⟩ := DataW.trod_int Tryz.underlying3 t1; cases q1
  obtain ⟨_, _, t2⟩ := hc 2 _ _ rfl rfl
  obtain ⟨b, n, cp, R, rfl, hlR, hs, hR⟩ := open_slcT (P := Tryz.prog) (sz := 4) Tryz.underlying63 (by kernel_rfl) (by simp) (show leafTs Tryz.prog 20 76 = some [5, 5, 5, 5] by kernel_rfl) rfl ⟨_, t2⟩
  obtain ⟨L, rfl, hw⟩ := rows_of (f := File.enc) (G := RcOk) (fun i r hr => by
    obtain ⟨hl, hc⟩ := hR i r hr
    obtain ⟨c0, c1, c2, c3, rfl⟩ := list4 hl
    obtain ⟨_, _, t0⟩ := hc 0 _ _ rfl rfl
    obtain ⟨a0, q0, _, w0⟩ := DataW.trod_int Tryz.underlying5 t0; cases q0
    obtain ⟨_, _, t1⟩ := hc 1 _ _ rfl rfl
    obtain ⟨a1, q1, _, w1⟩ := DataW.trod_int Tryz.underlying5 t1; cases q1
    obtain ⟨_, _, t2⟩ := hc 2 _ _ rfl rfl
    obtain ⟨a2, q2, _, w2⟩ := DataW.trod_int Tryz.underlying5 t2; cases q2
    obtain ⟨_, _, t3⟩ := hc 3 _ _ rfl rfl
    obtain ⟨a3, q3, _, w3⟩ := DataW.trod_int Tryz.underlying5 t3; cases q3
    exact ⟨⟨a0, a1, a2, a3⟩, rfl, u8_wf w0, u8_wf w1, u8_wf w2, u8_wf w3⟩)
  rw [List.length_map] at hlR; subst hlR
  exact ⟨⟨a0, a1, b, cp, L⟩, rfl, hs, hw⟩
theorem open_cell {HT : Type} {ec : TypeId × Value → HT} {W : World} {sp : Nat → Bool} {held : Bool} {cs : List Value} (hl : cs.length = 4) (hc : Leafy ec Tryz.prog W 0 sp held [46, 58, 4, 59] cs) :
    ∃ c : Ce, cs = encC c ∧ CeIn ⟨W, []⟩ c := by
  obtain ⟨c0, c1, c2, c3, rfl⟩ := list4 hl
  obtain ⟨_, _, t0⟩ := hc 0 _ _ rfl rfl
  obtain ⟨b, n, cp, R, rfl, hlR, hs, hR⟩ := open_slcT (P := Tryz.prog) (sz := 3) Tryz.underlying46 (by kernel_rfl) (by simp) (show leafTs Tryz.prog 20 67 = some [3, 3, 63] by kernel_rfl) rfl ⟨_, t0⟩
  obtain ⟨L, rfl, hw⟩ := rows_of (f := encN) (G := fun z => SlcIn ⟨W, []⟩ 4 z.base z.cap (z.R.map enc) ∧ ∀ r ∈ z.R, RcOk r) (fun i r hr => by
    obtain ⟨hl, hc⟩ := hR i r hr
    exact open_named hl hc)
  rw [List.length_map] at hlR; subst hlR
  obtain ⟨_, _, t1⟩ := hc 1 _ _ rfl rfl
  obtain ⟨b1, n1, cp1, R1, rfl, hlR1, hs1, hR1⟩ := open_slcT (P := Tryz.prog) (sz := 5) Tryz.underlying58 (by kernel_rfl) (by simp) (show leafTs Tryz.prog 20 78 = some [3, 3, 3, 3, 3] by kernel_rfl) rfl ⟨_, t1⟩
  obtain ⟨E, rfl, _⟩ := rows_of (f := encE) (G := fun _ => True) (fun i r hr => by
    obtain ⟨hl, hc⟩ := hR1 i r hr
    obtain ⟨c0, c1, c2, c3, c4, rfl⟩ := list5 hl
    obtain ⟨_, _, t0⟩ := hc 0 _ _ rfl rfl
    obtain ⟨a0, q0, _, w0⟩ := DataW.trod_int Tryz.underlying3 t0; cases q0
    obtain ⟨_, _, t1⟩ := hc 1 _ _ rfl rfl
    obtain ⟨a1, q1, _, w1⟩ := DataW.trod_int Tryz.underlying3 t1; cases q1
    obtain ⟨_, _, t2⟩ := hc 2 _ _ rfl rfl
    obtain ⟨a2, q2, _, w2⟩ := DataW.trod_int Tryz.underlying3 t2; cases q2
    obtain ⟨_, _, t3⟩ := hc 3 _ _ rfl rfl
    obtain ⟨a3, q3, _, w3⟩ := DataW.trod_int Tryz.underlying3 t3; cases q3
    obtain ⟨_, _, t4⟩ := hc 4 _ _ rfl rfl
    obtain ⟨a4, q4, _, w4⟩ := DataW.trod_int Tryz.underlying3 t4; cases q4
    exact ⟨⟨a0, a1, a2, a3, a4⟩, rfl, trivial⟩)
  rw [List.length_map] at hlR1; subst hlR1
  obtain ⟨_, _, t2⟩ := hc 2 _ _ rfl rfl
  obtain ⟨l, q2, _⟩ := DataW.trod_bool Tryz.underlying4 t2; cases q2
  exact ⟨⟨b, cp, L, b1, cp1, E, l, c3⟩, rfl, hs, hw, hs1⟩
end Go.Proofs.YtbhamhhjicehaaaGreatDoor.Prt

/- slices.SortFunc of spans by their beginnings: what it comes to. -/
namespace Go.Proofs.YtbhamhhjicehaaaGreatDoor.Srt
set_option linter.unusedSimpArgs false
set_option linter.unusedVariables false
open Go Go.AX Go.Proofs Go.Shelf Go.RowKit Go.Lib Go.Sort
shelf_lay_g SlLaysF0.n6 Slsf 6 at Tryz 72 as sortSpan
shelf_lay_g SlLaysC2.n5 Slgc 5 at Tryz 74 as cmpInt

abbrev Sp := Int × Int
def encP (x : Sp) : List Value := [.int .i64 x.1, .int .i64 x.2]
set_option maxHeartbeats 1000000 in
theorem closure (x y : Int × Int) (W : World) : Calls Tryz.prog 73 #[.agg #[.int .i64 x.1, .int .i64 x.2], .agg #[.int .i64 y.1, .int .i64 y.2]] W fun e w' => e = .returned (.int .i64 (Lib.compareInt x.1 y.1)) ∧ ∃ q os', w' = grow (W.drewN q) os' := by
  have hcon := fun W' => AnyG.cmp_Compare_int cmpInt x.1 y.1 W'
  change ∀ W', Calls Tryz.prog 74 _ _ _ at hcon
  generalize Lib.compareInt x.1 y.1 = r at hcon ⊢
  go_enter Tryz.func73, Tryz.ntmps73
  go_wp2_with (go_at_call 74; refine (hcon _).mono ?_; rintro e w' ⟨rfl, rfl⟩)
  go_ret
  exact ⟨rfl, 0, _, by rw [alloc_eq_grow, alloc_eq_grow, grow_grow]; rfl⟩
theorem cmpLays (blk off size : Nat) (w : World) : CmpLays Tryz.prog 73 #[] encP 2 (fun x y => Lib.compareInt x.1 y.1) blk off size w :=
  fun _ _ _ _ x y => closure x y _
theorem lt_of (x y : Sp) : ltOf (fun x y : Sp => Lib.compareInt x.1 y.1) x y = decide (x.1 < y.1) := by
  unfold ltOf Lib.compareInt
  by_cases h1 : x.1 < y.1
  · simp [h1]
  · by_cases h2 : y.1 < x.1 <;> simp [h1, h2]
theorem swo : SWO (ltOf fun x y : Sp => Lib.compareInt x.1 y.1) where
  irrefl x := by rw [lt_of]; simp
  trans x y z h1 h2 := by rw [lt_of] at *; simp at *; omega
  ntrans x y z h1 h2 := by rw [lt_of] at *; simp at *; omega
theorem cells_changed {E : Nat → Option Obj} {H : AH} {w w' : World} {b e bs : Nat} {cs cs' : List Value} (hs : Sat E H w) (hf : H.find b = some (.cells cs e bs)) (hos : w'.os = w.os) (htape : w'.tape = w.tape) (hout : w'.output = w.output) (hsize : w.heap.size ≤ w'.heap.size)
    (hother : ∀ k, k < w.heap.size → k ≠ b → w'.heap[k]? = w.heap[k]?) (hb : ∃ arr' : Array Value, w'.heap[b]? = some (.cells arr' e (0, 0)) ∧ arr'.size = bs ∧ cs' <+: arr'.toList) : Sat E ((H.del b).add b (.cells cs' e bs)) w' := by
  obtain ⟨h1, h2, _⟩ := hs.known b _ hf
  refine ⟨hs.below.trans ⟨hos, htape, hout, hsize, fun k hk => hother k (Nat.lt_of_lt_of_le hk hs.below.size) (by have : k < H.w0.heap.size := hk; omega)⟩, fun b' k' hk => ?_, fun b' o ho => ?_⟩
  · rw [find_add] at hk
    split at hk
    · rename_i e'; subst e'; cases hk
      exact ⟨h1, Nat.lt_of_lt_of_le h2 hsize, hb⟩
    · rename_i hne
      rw [find_del, if_neg hne] at hk
      obtain ⟨q1, q2, q3⟩ := hs.known b' k' hk
      exact ⟨q1, Nat.lt_of_lt_of_le q2 hsize, ok_congr (hother b' q2 hne) q3⟩
  · obtain ⟨q1, q2, q3⟩ := hs.far b' o ho
    have hne : b' ≠ b := fun e' => by subst e'; rw [hf] at q2; cases q2
    have hlt : b' < w.heap.size := (Array.getElem?_eq_some_iff.1 q3).1
    exact ⟨q1, by rw [find_add, if_neg hne, find_del, if_neg hne]; exact q2, by rw [hother b' hlt hne]; exact q3⟩
theorem rowsP (L : List Sp) : ∀ r ∈ L.map encP, r.length = 2 := fun r hr => by
  obtain ⟨x, _, rfl⟩ := List.mem_map.1 hr
  rfl
theorem scalP (l : List Sp) : ((l.map encP).flatten).all scal = true := by
  rw [List.all_flatten, List.all_map, List.all_eq_true]
  intro r _; rfl
theorem flatP_len (L : List Sp) : (L.map encP).flatten.length = L.length * 2 := by rw [flat_len (rowsP L), List.length_map]
theorem flatK_toList (d : Array Sp) : (flatK encP 2 d).toList = (d.toList.map encP).flatten := by
  apply List.ext_getElem?
  intro t
  by_cases ht : t < d.size * 2
  · have hq : t / 2 < d.size := by omega
    have h1 : (d.toList.map encP)[t / 2]? = some (encP d[t / 2]) := by rw [List.getElem?_map]; simp [hq]
    have h2 : (encP d[t / 2])[t % 2]? = some (encP d[t / 2])[t % 2]! := by
      rcases Nat.mod_two_eq_zero_or_one t with h | h <;> rw [h] <;> rfl
    have h3 := flat_get (rowsP d.toList) (t / 2) (t % 2) _ _ h1 h2
    rw [show t / 2 * 2 + t % 2 = t from by omega] at h3
    rw [h3]
    have h4 := get_flatK encP 2 d t ht
    rw [getElem!_pos d (t / 2) hq] at h4
    rw [← h4, Array.getElem?_toList]
    have h5 : t < (flatK encP 2 d).size := by rw [size_flatK]; exact ht
    rw [Array.getElem?_eq_getElem h5, getElem!_pos (flatK encP 2 d) t h5]
  · rw [List.getElem?_eq_none (by simp; omega), List.getElem?_eq_none (by rw [flatP_len]; simp; omega)]
theorem Sort_c (L : List Sp) (b e bs cap n : Nat) (A : AH) (hf : A.find b = some (.cells (L.map encP).flatten e bs)) (hn : n = L.length) (hlen : L.length < 4611686018427387904) (hb : L.length * 2 ≤ bs) :
    ACalls Tryz.prog 72 #[.slice (some ⟨b, 0, none⟩) n cap, .func (.func 73) #[] #[]] A (fun v H' => v = .tuple #[] ∧ ∃ L' : List Sp, L'.Perm L ∧ L'.Pairwise (fun x y => x.1 ≤ y.1) ∧ H' = (A.del b).add b (.cells (L'.map encP).flatten e bs)) := by
  subst hn
  intro E w hs
  obtain ⟨h1, h2, arr, ha, hsz, hp⟩ := hs.known b _ hf
  have hF : (flatK encP 2 L.toArray).toList = (L.map encP).flatten := flatK_toList L.toArray
  have hH : HoldsK encP 2 w b 0 L.toArray := by
    intro j hj
    have hj2 : j < (L.map encP).flatten.length := by rw [← hF]; simpa using hj
    refine ⟨?_, by simp [World.frozen?, ha]⟩
    obtain ⟨t, ht⟩ := hp
    have h3 : arr.toList[j]? = some (L.map encP).flatten[j] := by rw [← ht, List.getElem?_append_left hj2, List.getElem?_eq_getElem hj2]
    have h4 : (flatK encP 2 L.toArray)[j]! = (L.map encP).flatten[j] := by
      rw [getElem!_pos _ j hj]
      have h5 : (flatK encP 2 L.toArray).toList[j]? = some (flatK encP 2 L.toArray)[j] := by simp [hj]
      rw [hF, List.getElem?_eq_getElem hj2] at h5
      exact (Option.some.inj h5).symm
    rw [h4, Nat.zero_add]
    simpa [World.cell?, ha] using h3
  have eg : ∀ args w, (callFunc 73 args).run Tryz.prog w = .ok (.enter 73 args) w := enters_of Tryz.func73 (by kernel_rfl) rfl
  have hcon := AnyQ.slices_SortFunc sortSpan 2 Tryz.isAgg85 Tryz.sizeOf85 encP (fun _ => rfl) (fun x v hv => by simp [encP] at hv; rcases hv with rfl | rfl <;> rfl) (fun x y => Lib.compareInt x.1 y.1) swo 73 #[] b 0 cap L.toArray w eg (cmpLays b 0 _ w) hH h2 (by simpa using hlen)
  change Calls Tryz.prog 72 _ _ _ at hcon
  refine hcon.mono ?_
  rintro e' w' ⟨rfl, d', n, os, hperm, hsort, rfl⟩
  obtain ⟨q1, q2, q3⟩ := hperm
  have hsz' : d'.size = L.length := by simpa using q1
  refine ⟨.tuple #[], _, rfl, cells_changed (cs' := (d'.toList.map encP).flatten) hs hf rfl rfl rfl ?_ ?_ ?_, rfl, d'.toList, ?_, ?_, rfl⟩
  · show w.heap.size ≤ (grow (putRowK encP 2 (Sort.ahead w n) b 0 d') os).heap.size
    rw [size_grow]
    unfold putRowK
    rw [size_putRow, heap_ahead]; omega
  · intro k hk hne
    show (grow (putRowK encP 2 (Sort.ahead w n) b 0 d') os).heap[k]? = _
    rw [heap_grow_old _ _ (by unfold putRowK; rw [size_putRow, heap_ahead]; exact hk)]
    show ((Sort.ahead w n).heap.modify b _)[k]? = _
    rw [Array.getElem?_modify, if_neg (Ne.symm hne)]; rfl
  · refine ⟨putCells id 0 (flatK encP 2 d') arr, ?_, by simp [putCells, hsz], ?_⟩
    · show (grow (putRowK encP 2 (Sort.ahead w n) b 0 d') os).heap[b]? = _
      rw [heap_grow_old _ _ (by unfold putRowK; rw [size_putRow, heap_ahead]; exact h2)]
      show ((Sort.ahead w n).heap.modify b _)[b]? = _
      rw [Array.getElem?_modify, if_pos rfl, heap_ahead, ha]; rfl
    · rw [← flatK_toList]
      refine ⟨(arr.toList.drop (d'.size * 2)), ?_⟩
      apply List.ext_getElem?
      intro t
      have hle : d'.size * 2 ≤ arr.size := by omega
      by_cases ht : t < d'.size * 2
      · rw [List.getElem?_append_left (by simpa using ht)]
        simp only [putCells, Array.getElem?_toList, Array.getElem?_mapIdx, size_flatK]
        have h5 : t < (flatK encP 2 d').size := by rw [size_flatK]; exact ht
        have h6 : t < arr.size := by omega
        rw [Array.getElem?_eq_getElem h5, Array.getElem?_eq_getElem h6, Option.map_some, if_pos ⟨by omega, by omega⟩, Nat.sub_zero, getElem!_pos _ t h5]; rfl
      · rw [List.getElem?_append_right (by simp; omega)]
        simp only [putCells, Array.getElem?_toList, Array.getElem?_mapIdx, size_flatK, Array.length_toList]
        rw [List.getElem?_drop, show d'.size * 2 + (t - d'.size * 2) = t from by omega, Array.getElem?_toList]
        cases hx : arr[t]? with
        | none => rfl
        | some v => rw [Option.map_some, if_neg (by omega)]
  · have : (d'.extract 0 L.toArray.size).toList.Perm (L.toArray.extract 0 L.toArray.size).toList := q3
    have e1 : d'.extract 0 L.toArray.size = d' := by rw [show L.toArray.size = d'.size from by rw [hsz']; simp]; exact Array.extract_size
    have e2 : L.toArray.extract 0 L.toArray.size = L.toArray := Array.extract_size
    rw [e1, e2] at this
    simpa using this
  · rw [List.pairwise_iff_getElem]
    intro i j hi hj hij
    have := hsort i j (Nat.zero_le _) hij (by simpa [hsz'] using hj)
    rw [lt_of] at this
    rw [getElem!_pos d' j (by simpa using hj), getElem!_pos d' i (by simpa using hi)] at this
    simp only [decide_eq_false_iff_not] at this
    simp only [Array.getElem_toList]
    omega
theorem Sort_o {H A : AH} {base : Option Addr} {cap e n : Nat} {L : List Sp} (hO : OwnS H A e 2 base cap (L.map encP)) (hn : n = L.length) (hlen : L.length < 4611686018427387904) :
    ACalls Tryz.prog 72 #[.slice base n cap, .func (.func 73) #[] #[]] A (fun v H' => v = .tuple #[] ∧ ∃ L' : List Sp, L'.Perm L ∧ L'.Pairwise (fun x y => x.1 ≤ y.1) ∧ OwnS H H' e 2 base cap (L'.map encP) ∧ Keep A H' (exB base)) := by
  rcases hO.at_ with ⟨rfl, hnil, rfl⟩ | ⟨b, bs, rfl, hf, hbs, hfr⟩
  · have hL : L = [] := by simpa using hnil
    subst hL
    subst hn
    intro E w hs
    have := AnyF.slices_SortFunc_none (P := Tryz.prog) (ρ := sortSpan_ren) { sortSpan with } none 0 (.func (.func 73) #[] #[]) w
    change Calls Tryz.prog 72 _ _ _ at this
    exact this.mono fun e' w' ⟨h1, h2⟩ => ⟨_, A, h1, h2 ▸ hs, rfl, [], List.Perm.refl _, List.Pairwise.nil, hO, Keep.refl⟩
  · have hle := hO.le
    rw [List.length_map] at hle
    refine (Sort_c L b e bs cap n A hf hn hlen (by omega)).mono ?_
    rintro v H' ⟨rfl, L', hp, hs, rfl⟩
    refine ⟨rfl, L', hp, hs, ⟨rowsP L', by rw [List.length_map, hp.length_eq]; exact hle, by rw [List.length_map, hp.length_eq]; omega, .inr ⟨b, bs, rfl, find_add_self _ _ _, hbs, hfr⟩⟩, Keep.put.mono fun b' hb' => exB_some.2 hb'⟩
end Go.Proofs.YtbhamhhjicehaaaGreatDoor.Srt

/- slices.Grow of nothing and slices.Concat at one type. -/
namespace Go.Proofs.YtbhamhhjicehaaaGreatDoor.CatP
set_option linter.unusedSimpArgs false
set_option linter.unusedVariables false
open Go Go.AX Go.Proofs Ty Go.Proofs.YtbhamhhjicehaaaGreatDoor.Srt
set_option maxHeartbeats 4000000
set_option maxRecDepth 10000

abbrev Ls := Option Addr × Nat × List (Int × Int)
def encS (x : Ls) : List Value := [.slice x.1 x.2.2.length x.2.1]
structure CatIn (H : AH) (base : Option Addr) (cap : Nat) (T : List Ls) : Prop where
  out : SlcIn H 1 base cap (T.map encS)
  inn : ∀ x ∈ T, SlcIn H 2 x.1 x.2.1 (x.2.2.map encP)
def tot (T : List Ls) (i : Nat) : List (Int × Int) := ((T.take i).map (·.2.2)).flatten
theorem tot_succ {T : List Ls} {i : Nat} {x : Ls} (h : T[i]? = some x) : tot T (i + 1) = tot T i ++ x.2.2 := by
  simp [tot, List.take_add_one, h]
theorem tot_le {T : List Ls} : ∀ (j i : Nat), (tot T i).length ≤ (tot T (i + j)).length
  | 0, _ => Nat.le_refl _
  | j + 1, i => by
    refine Nat.le_trans (tot_le j i) ?_
    rw [show i + (j + 1) = i + j + 1 from rfl]
    cases h : T[i + j]? with
    | some x => rw [tot_succ h]; simp
    | none => rw [tot, tot, List.take_of_length_le (by rw [List.getElem?_eq_none_iff] at h; omega), List.take_of_length_le (by rw [List.getElem?_eq_none_iff] at h; omega)]; exact Nat.le_refl _
theorem tot_all {T : List Ls} {i : Nat} (h : i ≤ T.length) : (tot T i).length ≤ (tot T T.length).length := by
  have := tot_le (T := T) (T.length - i) i
  rwa [show i + (T.length - i) = T.length from by omega] at this
theorem Grow_c (n : Nat) (hn : n < 1000000) (H : AH) : ACalls Tryz.prog 113 #[.slice none 0 0, .int .i64 n] H (fun v H' => ∃ base cap, v = .slice base 0 cap ∧ OwnS H H' 85 2 base cap [] ∧ Keep H H' fun _ => False) := by
  have e : IntKind.i64.wrap ((n : Int) - 0) = n := by rw [i64_eq (by omega) (by omega)]; omega
  have c : ¬ (n : Int) < 0 := by omega
  refine ACalls.enter2 Tryz.func113 rfl Tryz.ntmps113 Tryz.results113 (by simp) ?_; simp (dsimp := false) (maxSteps := 4000000) only [c, e, go_sem]
  by_cases h : (0 : Int) < n
  · simp (dsimp := false) (maxSteps := 4000000) only [h, c, e, go_sem]
    refine APD.make se_36 rfl (by decide) (Tryz.underlying3) (by omega) (by omega) (by decide) fun b cc h_b hc => ?_
    have hn_b := h_b; (try simp only [fresh_add, fresh_set, ne_eq] at hn_b); have hr_b := hn_b; (try simp only [@eq_comm Nat b] at hr_b)
    simp (dsimp := false) (maxSteps := 4000000) only [ite_self, Nat.sub_zero, c, e, hn_b, hr_b, go_sem]
    exact ⟨_, AH.le_refl _, _, _, rfl, ⟨by simp, by simp, by simp, .inr ⟨b, _, rfl, find_add_self _ _ _, by omega, h_b⟩⟩, Keep.add h_b⟩
  · 
    simp (dsimp := false) (maxSteps := 4000000) only [h, c, e, go_sem]
    exact ⟨H, AH.le_refl _, none, 0, rfl, OwnS.nil, Keep.refl⟩
theorem Concat_c (T : List Ls) (base : Option Addr) (cap : Nat) (H : AH) (hT : CatIn H base cap T) (hb : (tot T T.length).length < 1000000) :
    ACalls Tryz.prog 70 #[.slice base T.length cap] H (fun v H' => ∃ b' c', v = .slice b' (tot T T.length).length c' ∧ OwnS H H' 85 2 b' c' ((tot T T.length).map encP) ∧ Keep H H' fun _ => False) := by
  have hbig := hT.out.big
  simp only [List.length_map] at hbig
  refine ACalls.enter2 Tryz.func70 rfl Tryz.ntmps70 Tryz.results70 (by simp) ?_; simp (dsimp := false) (maxSteps := 4000000) only [go_sem]
  refine AWp.loopo (ι := Nat) (fun i => i ≤ T.length) (fun i => [(11, .int .i64 i), (10, .int .i64 T.length), (9, .slice base T.length cap), (0, .slice base T.length cap), (3, .int .i64 (tot T i).length)])
    (fun _ => H) (fun i => T.length - i) 0 (by omega) (FrLe.of_lks ?_) (AH.le_refl _) fun i hi Q again out => ?_
  · simp (dsimp := false) (maxSteps := 4000000) only [go_sem]
    rfl
  by_cases h : (i : Int) < T.length
  · obtain ⟨⟨tb, tc, L⟩, ht⟩ := get_some (l := T) (i := i) (by omega)
    have hin := hT.inn _ (List.mem_of_getElem? ht)
    obtain ⟨b, o, rfl, _, hrd⟩ := hT.out.get (map_get (f := encS) ht)
    have hrd := hrd 0 _ rfl
    simp only [Nat.mul_one, Nat.add_zero] at hrd
    have ee := i64_succ (i := i) (by omega)
    have e1 := tot_succ ht
    have b1 := tot_all (T := T) (i := i + 1) (by omega)
    rw [e1, List.length_append] at b1
    simp only at b1
    have e2 : IntKind.i64.wrap (((tot T i).length : Int) + L.length) = ((tot T (i + 1)).length : Int) := by
      rw [e1, List.length_append, i64_eq (by omega) (by omega)]; simp only; omega
    have c : ¬ ((tot T (i + 1)).length : Int) < 0 := by omega
    simp (dsimp := false) (maxSteps := 4000000) only [h, hrd, ee, e2, c, go_sem]
    refine again (i + 1) _ _ (by omega) (FrLe.of_lks (by simp (dsimp := false) (maxSteps := 4000000) only [go_sem])) (AH.le_refl _) (by omega)
  obtain rfl : i = T.length := by omega
  simp (dsimp := false) (maxSteps := 4000000) only [h, go_sem]
  refine out _ _ _ (by simp) ?_
  simp (dsimp := false) (maxSteps := 4000000) only [go_sem]
  refine (Grow_c _ hb _).mono ?_; rintro _ A0 ⟨b0, c0, rfl, hO0, hK0⟩
  clear out again h hi
  simp (dsimp := false) (maxSteps := 4000000) only [go_sem]
  refine AWp.loopr (ι := Nat × Option Addr × Nat) (fun x A => x.1 ≤ T.length ∧ OwnS H A 85 2 x.2.1 x.2.2 ((tot T x.1).map encP) ∧ (Keep H A fun _ => False))
    (fun x => [(27, .int .i64 x.1), (26, .int .i64 T.length), (25, .slice base T.length cap), (6, .slice x.2.1 (tot T x.1).length x.2.2)]) (fun x => T.length - x.1) (0, b0, c0) A0
    ⟨by simp, hO0, hK0⟩ (FrLe.of_lks ?_) (AH.le_refl _) fun x A hi Q again out => ?_
  · simp (dsimp := false) (maxSteps := 4000000) only [go_sem]
    rfl
  clear hO0 hK0
  obtain ⟨i, base', cap'⟩ := x
  obtain ⟨hi, hO, hK⟩ := hi
  dsimp only at hi hO again ⊢
  by_cases h : (i : Int) < T.length
  · obtain ⟨⟨tb, tc, L⟩, ht⟩ := get_some (l := T) (i := i) (by omega)
    have hin := (hT.inn _ (List.mem_of_getElem? ht)).keep hK fun _ _ h => h
    obtain ⟨b, o, rfl, _, hrd⟩ := (hT.out.keep hK fun _ _ h => h).get (map_get (f := encS) ht)
    have hrd := hrd 0 _ rfl
    simp only [Nat.mul_one, Nat.add_zero] at hrd
    have ee := i64_succ (i := i) (by omega)
    have e1 := tot_succ ht
    have b1 := tot_all (T := T) (i := i + 1) (by omega)
    rw [e1, List.length_append] at b1
    simp only at b1
    simp (dsimp := false) (maxSteps := 4000000) only [h, hrd, go_sem]
    refine APD.growS (a := tb) (m := L.length) (c := tc) (R' := L.map encP) hO hK.all se_36 rfl (by decide) (by decide) (by rw [Tryz.underlying36]; rfl) (by simp) (by simp) hin (rowsP _) (scalP _) (by omega) fun base2 cap2 A' hO' hK' hN' => ?_
    refine ⟨_, AH.le_refl _, ?_⟩
    simp (dsimp := false) (maxSteps := 4000000) only [ee, go_sem]
    have hK2 := hK.ow hK' fun b ⟨a, ha, e⟩ => e ▸ hO.fresh a ha
    rw [← List.map_append] at hO'
    have hO' : OwnS H A' 85 2 base2 cap2 ((tot T (i + 1)).map encP) := by rw [e1]; exact hO'
    refine again (i + 1, base2, cap2) _ _ _ ⟨by simp only; omega, hO', hK2⟩ (FrLe.of_lks ?_) (AH.le_refl _) (by simp only; omega)
    rw [e1, List.length_append]
    simp (dsimp := false) (maxSteps := 4000000) only [go_sem]
  · obtain rfl : i = T.length := by omega
    simp (dsimp := false) (maxSteps := 4000000) only [h, go_sem]
    refine out _ _ _ (by simp) ?_
    simp (dsimp := false) (maxSteps := 4000000) only [go_sem]
    exact ⟨A, (by (repeat (first | exact AH.le_refl _ | refine AH.le_add ?_ ?_)); all_goals (first | exact AH.le_refl _ | (show AH.find _ _ = _; simp only [find_add_self, find_add_ne, find_fresh, fresh_add, fresh_set, ne_eq, not_false_eq_true, true_and, and_true, and_self]))), base', cap', rfl, hO, hK⟩
end Go.Proofs.YtbhamhhjicehaaaGreatDoor.CatP

/- IndexFunc, ContainsFunc, DeleteFunc, Clip of spans. -/
namespace Go.Proofs.YtbhamhhjicehaaaGreatDoor.Wire
set_option linter.unusedSimpArgs false
set_option linter.unusedVariables false
open Go Go.AX Go.Proofs Ty Go.Proofs.YtbhamhhjicehaaaGreatDoor.Srt
set_option maxHeartbeats 4000000
set_option maxRecDepth 10000

def Ix (g : Sp → Bool) (L : List Sp) (r : Int) : Prop := (r = -1 ∧ ∀ x ∈ L, g x = false) ∨ ∃ (i : Nat) (x : Sp), L[i]? = some x ∧ g x = true ∧ r = i ∧ ∀ j, j < i → ∀ y, L[j]? = some y → g y = false
theorem Index_g {g : Sp → Bool} {fid : Nat} {caps : List Value} {L : List Sp} {n : Nat} {base : Option Addr} {cap : Nat} {H : AH} (hs : SlcIn H 2 base cap (L.map encP)) (hn : n = L.length) (hok : fnOk Tryz.prog fid = true)
    (hf : ∀ x ∈ L, ACalls Tryz.prog fid ([] ++ [Value.agg (encP x).toArray] ++ caps).toArray H (fun v H' => v = .bool (g x) ∧ H = H')) :
    ACalls Tryz.prog 76 #[.slice base n cap, .func (.func fid) #[] caps.toArray] H (fun v H' => ∃ r : Int, v = .int .i64 r ∧ Ix g L r ∧ H = H') := by
  subst hn
  have hbig := hs.big
  simp only [List.length_map] at hbig
  refine ACalls.enter2 Tryz.func76 rfl Tryz.ntmps76 Tryz.results76 (by simp) ?_; simp (dsimp := false) (maxSteps := 4000000) only [go_sem]
  refine AWp.loopo (ι := Nat) (fun i => i ≤ L.length ∧ ∀ j, j < i → ∀ y, L[j]? = some y → g y = false) (fun i => [(8, .int .i64 i), (7, .int .i64 L.length), (0, .slice base L.length cap), (1, .func (.func fid) #[] caps.toArray)])
    (fun _ => H) (fun i => L.length - i) 0 ⟨by omega, fun j hj => by omega⟩ (FrLe.of_lks ?_) (AH.le_refl _) fun i hi Q again out => ?_
  · simp (dsimp := false) (maxSteps := 4000000) only [go_sem]
  · obtain ⟨hi, hall⟩ := hi
    by_cases h : (i : Int) < L.length
    · obtain ⟨x, hx⟩ := get_some (l := L) (i := i) (by omega)
      obtain ⟨b, o, rfl, hrow, _⟩ := hs.get (map_get (f := encP) hx)
      have ee := i64_succ (i := i) (by omega)
      simp (dsimp := false) (maxSteps := 4000000) only [h, hrow, hok, go_sem]
      refine (hf x (List.mem_of_getElem? hx)).mono ?_; rintro _ _ ⟨rfl, rfl⟩
      cases hb : g x with
      | true =>
        simp (dsimp := false) (maxSteps := 4000000) only [go_sem]
        refine out _ _ _ (by simp) ?_
        simp (dsimp := false) (maxSteps := 4000000) only [go_sem]
        exact ⟨H, (by (repeat (first | exact AH.le_refl _ | refine AH.le_add ?_ ?_)); all_goals (first | exact AH.le_refl _ | (show AH.find _ _ = _; simp only [find_add_self, find_add_ne, find_fresh, fresh_add, fresh_set, ne_eq, not_false_eq_true, true_and, and_true, and_self]))), _, rfl, .inr ⟨i, x, hx, hb, rfl, hall⟩, rfl⟩
      | false =>
        simp (dsimp := false) (maxSteps := 4000000) only [ee, go_sem]
        refine again (i + 1) _ _ ⟨by omega, fun j hj m hm => ?_⟩ (FrLe.of_lks (by simp (dsimp := false) (maxSteps := 4000000) only [go_sem])) (AH.le_refl _) (by omega)
        by_cases hji : j = i
        · subst hji; rw [hx] at hm; cases hm; exact hb
        · exact hall j (by omega) m hm
    · simp (dsimp := false) (maxSteps := 4000000) only [h, go_sem]
      refine out _ _ _ (by simp) ?_
      simp (dsimp := false) (maxSteps := 4000000) only [go_sem]
      exact ⟨H, (by (repeat (first | exact AH.le_refl _ | refine AH.le_add ?_ ?_)); all_goals (first | exact AH.le_refl _ | (show AH.find _ _ = _; simp only [find_add_self, find_add_ne, find_fresh, fresh_add, fresh_set, ne_eq, not_false_eq_true, true_and, and_true, and_self]))), _, rfl, .inl ⟨rfl, fun y hy => by
        obtain ⟨j, hj⟩ := List.mem_iff_getElem?.1 hy
        exact hall j (by have := lt_of_get hj; omega) y hj⟩, rfl⟩
theorem Contains_g {g : Sp → Bool} {fid : Nat} {caps : List Value} {L : List Sp} {n : Nat} {base : Option Addr} {cap : Nat} {H : AH} (hs : SlcIn H 2 base cap (L.map encP)) (hn : n = L.length) (hok : fnOk Tryz.prog fid = true)
    (hf : ∀ x ∈ L, ACalls Tryz.prog fid ([] ++ [Value.agg (encP x).toArray] ++ caps).toArray H (fun v H' => v = .bool (g x) ∧ H = H')) :
    ACalls Tryz.prog 35 #[.slice base n cap, .func (.func fid) #[] caps.toArray] H (fun v H' => v = .bool (L.any g) ∧ H = H') := by
  refine ACalls.enter2 Tryz.func35 rfl Tryz.ntmps35 Tryz.results35 (by simp) ?_; simp (dsimp := false) (maxSteps := 4000000) only [go_sem]
  refine (Index_g hs hn hok hf).mono ?_; rintro _ _ ⟨r, rfl, hr, rfl⟩
  rcases hr with ⟨rfl, hno⟩ | ⟨q, x, hq, hg, rfl, hpre⟩
  · have e : L.any g = false := by rw [List.any_eq_false]; intro x hx; rw [hno x hx]; simp
    simp (dsimp := false) (maxSteps := 4000000) only [go_sem]
    exact ⟨H, (AH.le_refl _), (by first | exact ⟨by rw [e], rfl⟩ | rfl)⟩
  · have e : L.any g = true := List.any_eq_true.2 ⟨x, List.mem_of_getElem? hq, hg⟩
    have q0 : (0 : Int) ≤ (q : Int) := by omega
    simp (dsimp := false) (maxSteps := 4000000) only [go_sem]
    exact ⟨H, (AH.le_refl _), (by first | exact ⟨by rw [e], rfl⟩ | rfl)⟩
theorem Clip_c {base : Option Addr} {n cap : Nat} (h : n ≤ cap) (H : AH) : ACalls Tryz.prog 75 #[.slice base n cap] H (fun v H' => v = .slice base n n ∧ H = H') := by
  have h' : (n : Int) ≤ cap := by omega
  refine ACalls.enter2 Tryz.func75 rfl Tryz.ntmps75 Tryz.results75 (by simp) ?_; simp (dsimp := false) (maxSteps := 4000000) only [h', Int.le_refl, go_sem]
  exact ⟨H, (AH.le_refl _), (by first | exact ⟨rfl, rfl⟩ | rfl)⟩
theorem encP_len (x : Sp) : (encP x).length = 2 := rfl
theorem encP_scal (x : Sp) : (encP x).all scal = true := rfl
theorem encP_z (x : Sp) : lput [.int .i64 0, .int .i64 0] 0 (encP x) = encP x := rfl
theorem encP_take (x : Sp) : (encP x).take 2 = encP x := rfl
theorem zfP (n : Nat) : zf [Value.int .i64 0, .int .i64 0] (n * 2) = ((List.replicate n ((0, 0) : Sp)).map encP).flatten := by
  rw [zf_rows (zs := [Value.int .i64 0, .int .i64 0]) (n := n) (m := n * 2) rfl, List.map_replicate]; rfl
theorem ACalls.monoS {P : Program} {f : FuncId} {args : Array Value} {H : AH} {K K' : Value → AH → Prop} (h : ACalls P f args H K) (hk : ∀ v H', K v H' → ∃ H2 : AH, (∀ E w, Sat E H' w → Sat E H2 w) ∧ K' v H2) : ACalls P f args H K' :=
  fun E w hs => (h E w hs).mono fun e w' ⟨v, H', h1, h2, h3⟩ => by
    obtain ⟨H2, h4, h5⟩ := hk v H' h3
    exact ⟨v, H2, h1, h4 E w' h2, h5⟩
structure Mid (p : Sp → Bool) (L M : List Sp) (i j : Nat) : Prop where
  len : M.length = L.length
  ij : i < j
  jl : j ≤ L.length
  front : M.take i = (L.take j).filter (fun x => !p x)
  cnt : i = ((L.take j).filter (fun x => !p x)).length
  back : M.drop j = L.drop j
theorem Mid.keep {p : Sp → Bool} {L M : List Sp} {i j : Nat} {x : Sp} (h : Mid p L M i j) (hx : L[j]? = some x) (hp : p x = false) : Mid p L (M.set i x) (i + 1) (j + 1) := by
  have hj := lt_of_get hx
  have e : (L.take (j + 1)).filter (fun x => !p x) = (L.take j).filter (fun x => !p x) ++ [x] := by
    rw [List.take_add_one, hx, List.filter_append]; simp [hp]
  have hl := h.len
  have hij := h.ij
  refine ⟨by rw [List.length_set]; exact h.len, by omega, by omega, ?_, ?_, ?_⟩
  · rw [e, ← h.front, List.take_add_one, List.getElem?_set_self (by omega)]
    congr 1
    apply List.ext_getElem?
    intro q
    rw [List.getElem?_take, List.getElem?_take]
    split
    · rw [List.getElem?_set_ne (by omega)]
    · rfl
  · rw [e, List.length_append, ← h.cnt]; rfl
  · have := h.back
    apply List.ext_getElem?
    intro q
    rw [List.getElem?_drop, List.getElem?_drop, List.getElem?_set_ne (by omega)]
    have h2 := congrArg (fun l => l[q + 1]?) this
    simp only [List.getElem?_drop] at h2
    rw [show j + 1 + q = j + (q + 1) from by omega]; exact h2
theorem Mid.drop {p : Sp → Bool} {L M : List Sp} {i j : Nat} {x : Sp} (h : Mid p L M i j) (hx : L[j]? = some x) (hp : p x = true) : Mid p L M i (j + 1) := by
  have hj := lt_of_get hx
  have e : (L.take (j + 1)).filter (fun x => !p x) = (L.take j).filter (fun x => !p x) := by
    rw [List.take_add_one, hx, List.filter_append]; simp [hp]
  have hij := h.ij
  refine ⟨h.len, by omega, by omega, by rw [e]; exact h.front, by rw [e]; exact h.cnt, ?_⟩
  have := h.back
  apply List.ext_getElem?
  intro q
  rw [List.getElem?_drop, List.getElem?_drop]
  have h2 := congrArg (fun l => l[q + 1]?) this
  simp only [List.getElem?_drop] at h2
  rw [show j + 1 + q = j + (q + 1) from by omega]; exact h2
theorem Mid.get {p : Sp → Bool} {L M : List Sp} {i j : Nat} {x : Sp} (h : Mid p L M i j) (hx : L[j]? = some x) : M[j]? = some x := by
  have h2 := congrArg (fun l => l[0]?) h.back
  simp only [List.getElem?_drop, Nat.add_zero] at h2
  rw [h2]; exact hx
theorem Mid.start {p : Sp → Bool} {L : List Sp} {i : Nat} {x : Sp} (hx : L[i]? = some x) (hp : p x = true) (hpre : ∀ j, j < i → ∀ y, L[j]? = some y → p y = false) : Mid p L L i (i + 1) := by
  have hi := lt_of_get hx
  have e0 : (L.take i).filter (fun x => !p x) = L.take i := by
    rw [List.filter_eq_self]
    intro y hy
    obtain ⟨q, hq⟩ := List.mem_iff_getElem?.1 hy
    rw [List.getElem?_take] at hq
    split at hq
    · rename_i hq2; rw [hpre q hq2 y hq]; rfl
    · cases hq
  have e : (L.take (i + 1)).filter (fun x => !p x) = L.take i := by
    rw [List.take_add_one, hx, List.filter_append, e0]; simp [hp]
  exact ⟨rfl, by omega, by omega, e.symm, by rw [e, List.length_take]; omega, rfl⟩
theorem DeleteFunc_c {p : Sp → Bool} {fid : Nat} {H A : AH} {base : Option Addr} {cap n : Nat} {L : List Sp} (hO : OwnS H A 85 2 base cap (L.map encP)) (hn : n = L.length) (hok : fnOk Tryz.prog fid = true)
    (hf : ∀ (x : Sp) (B : AH), ACalls Tryz.prog fid ([] ++ [Value.agg (encP x).toArray] ++ ([] : List Value)).toArray B (fun v H' => v = .bool (p x) ∧ B = H')) :
    ACalls Tryz.prog 69 #[.slice base n cap, .func (.func fid) #[] #[]] A (fun v H' => v = .slice base (L.filter fun x => !p x).length cap ∧ OwnS H H' 85 2 base cap ((L.filter fun x => !p x).map encP) ∧ Keep A H' (exB base)) := by
  subst hn
  have hbig := hO.big
  have hle := hO.le
  simp only [List.length_map] at hbig hle
  have hff : ∀ (x : Sp) (B : AH), ACalls Tryz.prog fid #[Value.agg (encP x).toArray] B (fun v H' => v = .bool (p x) ∧ B = H') := hf
  by_cases hno : ∀ x ∈ L, p x = false
  · have e : (L.filter fun x => !p x) = L := by
      rw [List.filter_eq_self]; intro x hx; rw [hno x hx]; rfl
    rw [e]
    refine ACalls.enter2 Tryz.func69 rfl Tryz.ntmps69 Tryz.results69 (by simp) ?_; simp (dsimp := false) (maxSteps := 4000000) only [go_sem]
    refine (Index_g (g := p) (caps := []) hO.slc rfl hok fun x _ => hf x A).mono ?_; rintro _ _ ⟨r, rfl, hr, rfl⟩
    rcases hr with ⟨rfl, _⟩ | ⟨q, x, hq, hg, rfl, _⟩
    · simp (dsimp := false) (maxSteps := 4000000) only [go_sem]
      exact ⟨A, AH.le_refl _, hO, Keep.refl⟩
    · rw [hno x (List.mem_of_getElem? hq)] at hg; cases hg
  · obtain ⟨b, bs, rfl, hfb, hbs, hfr⟩ : ∃ b bs, base = some ⟨b, 0, none⟩ ∧ A.find b = some (.cells (L.map encP).flatten 85 bs) ∧ cap * 2 ≤ bs ∧ Fresh H b := by
      rcases hO.at_ with ⟨_, h0, _⟩ | ⟨b, bs, h1, h2, h3, h4⟩
      · rw [List.map_eq_nil_iff] at h0
        subst h0
        exact (hno (fun x hx => by cases hx)).elim
      · exact ⟨b, bs, h1, h2, h3, h4⟩
    refine ACalls.at hfb ?_
    have hsl := hO.slc.keep (Keep.top1 hfb) fun _ _ h => h
    have hk1 : ∀ k, Keep A ((A.del b).add b k) (exB (some ⟨b, 0, none⟩)) := fun k => Keep.put.mono fun b' hb' => exB_some.2 hb'
    generalize hB : A.del b = B at hsl hk1 ⊢
    clear hfb hO
    suffices hm : ACalls Tryz.prog 69 #[.slice (some ⟨b, 0, none⟩) L.length cap, .func (.func fid) #[] #[]] (B.add b (.cells (L.map encP).flatten 85 bs)) (fun v H' => v = .slice (some ⟨b, 0, none⟩) (L.filter fun x => !p x).length cap ∧ ∃ rest, H' = B.add b (.cells (((L.filter fun x => !p x).map encP).flatten ++ rest) 85 bs)) by
      refine ACalls.monoS hm ?_
      rintro v H' ⟨rfl, rest, rfl⟩
      refine ⟨_, fun E w hs => hs.pre, rfl, ⟨rowsP _, ?_, ?_, .inr ⟨b, bs, rfl, find_add_self _ _ _, hbs, hfr⟩⟩, hk1 _⟩
      · rw [List.length_map]
        exact Nat.le_trans (List.length_filter_le _ _) hle
      · rw [List.length_map]
        exact Nat.lt_of_le_of_lt (List.length_filter_le _ _) hbig
    refine ACalls.enter2 Tryz.func69 rfl Tryz.ntmps69 Tryz.results69 (by simp) ?_; simp (dsimp := false) (maxSteps := 4000000) only [encP_len, encP_scal, encP_z, encP_take, go_sem]
    refine (Index_g (g := p) (caps := []) hsl rfl hok fun x _ => hf x _).mono ?_; rintro _ _ ⟨r, rfl, hr, rfl⟩
    rcases hr with ⟨rfl, hall⟩ | ⟨i0, x0, hi0, hg0, rfl, hpre⟩
    · exact absurd hall hno
    have hst := Mid.start hi0 hg0 hpre
    have hi0l := lt_of_get hi0
    have e0 := i64_succ (i := i0) (by omega)
    have c0 : ¬ (i0 : Int) = -1 := by omega
    simp (dsimp := false) (maxSteps := 4000000) only [e0, c0, encP_len, encP_scal, encP_z, encP_take, go_sem]
    refine AWp.loopo (ι := Nat × Nat × List Sp) (fun x => Mid p L x.2.2 x.1 x.2.1) (fun x => [(5, .int .i64 x.1), (6, .int .i64 x.2.1), (0, .slice (some ⟨b, 0, none⟩) L.length cap), (1, .func (.func fid) #[] #[])])
      (fun x => B.add b (.cells (x.2.2.map encP).flatten 85 bs)) (fun x => L.length - x.2.1) (i0, i0 + 1, L) hst (FrLe.of_lks ?_) (AH.le_refl _) fun x hi Q again out => ?_
    · simp (dsimp := false) (maxSteps := 4000000) only [encP_len, encP_scal, encP_z, encP_take, go_sem]
    obtain ⟨i, j, M⟩ := x
    dsimp only at hi again ⊢
    have hij := hi.ij
    have hjl := hi.jl
    have hMl := hi.len
    by_cases h : (j : Int) < L.length
    · obtain ⟨x, hx⟩ := get_some (l := L) (i := j) (by omega)
      have hmx := hi.get hx
      have hS2 : SlcIn (B.add b (.cells (M.map encP).flatten 85 bs)) 2 (some ⟨b, 0, none⟩) cap (M.map encP) := SlcIn.own (rowsP _) (by rw [List.length_map]; omega) (by rw [List.length_map]; omega)
      have hrow := hS2.row b 0 rfl j _ (map_get (f := encP) hmx)
      rw [Nat.zero_add, row_add_self] at hrow
      have ej := i64_succ (i := j) (by omega)
      have ei := i64_succ (i := i) (by omega)
      simp (dsimp := false) (maxSteps := 4000000) only [h, hrow, row_add_self, encP_len, encP_scal, encP_z, encP_take, go_sem]
      refine AllB.mk fun b7 h_b7 => ?_
      have hn7 : ¬ b7 = b := h_b7.ne_find (find_add_self _ _ _)
      have hr7 : ¬ b = b7 := fun e => hn7 e.symm
      simp (dsimp := false) (maxSteps := 4000000) only [hn7, hr7, hok, encP_len, encP_scal, encP_z, encP_take, go_sem]
      refine (hff x _).mono ?_; rintro _ _ ⟨rfl, rfl⟩
      cases hp : p x with
      | true =>
        simp (dsimp := false) (maxSteps := 4000000) only [ej, encP_len, encP_scal, encP_z, encP_take, go_sem]
        exact again (i, j + 1, M) _ _ (hi.drop hx hp) (FrLe.of_lks (by simp (dsimp := false) (maxSteps := 4000000) only [encP_len, encP_scal, encP_z, encP_take, go_sem])) (AH.le_add (AH.le_refl _) h_b7.2) (by simp only; omega)
      | false =>
        have hil : (i : Int) < L.length := by omega
        have hfl : (M.map encP).flatten.length = L.length * 2 := by rw [flatP_len, hMl]
        have k2 : i * 2 + 2 ≤ L.length * 2 := by omega
        have k3 : L.length * 2 ≤ bs := by omega
        have hput : lput (M.map encP).flatten (i * 2) (encP x) = ((M.set i x).map encP).flatten := by
          rw [flat_lput (rowsP M) i (encP x) (by rw [List.length_map]; omega) rfl, List.map_set]
        simp (dsimp := false) (maxSteps := 4000000) only [hn7, hr7, hil, hfl, k2, k3, hput, ei, ej, encP_len, encP_scal, encP_z, encP_take, go_sem]
        exact again (i + 1, j + 1, M.set i x) _ _ (hi.keep hx hp) (FrLe.of_lks (by simp (dsimp := false) (maxSteps := 4000000) only [encP_len, encP_scal, encP_z, encP_take, go_sem])) (AH.le_add (AH.le_refl _) (by rw [find_add_ne _ hr7, ← find_add_ne _ hr7 (k := .cells (M.map encP).flatten 85 bs)]; exact (by rw [find_add_ne _ hr7]; have := h_b7.2; rw [find_add_ne _ hr7] at this; exact this))) (by simp only; omega)
    · obtain rfl : j = L.length := by omega
      have hfr2 := hi.front
      have hcn := hi.cnt
      rw [List.take_length] at hfr2 hcn
      have hile : (i : Int) ≤ L.length := by omega
      have hicap : (i : Int) ≤ cap := by omega
      have hne : ¬ cap = i := by omega
      have hfl : (M.map encP).flatten.length = L.length * 2 := by rw [flatP_len, hMl]
      simp (dsimp := false) (maxSteps := 4000000) only [h, encP_len, encP_scal, encP_z, encP_take, go_sem]
      refine out _ _ _ (by simp) ?_
      have hZl : (zf [Value.int .i64 0, .int .i64 0] ((L.length - i) * 2)).length = (L.length - i) * 2 := by rw [zfP, flatP_len, List.length_replicate]
      have hZs : (zf [Value.int .i64 0, .int .i64 0] ((L.length - i) * 2)).all scal = true := by rw [zfP]; exact scalP _
      simp (dsimp := false) (maxSteps := 4000000) only [hile, hicap, hne, encP_len, encP_scal, encP_z, encP_take, go_sem]
      refine CLR.row (n := L.length - i) rfl se_36 (by omega) (by rw [wrs_add_self, if_pos ⟨by rw [hZl, hfl]; omega, by omega, hZs⟩]) rfl ?_
      simp (dsimp := false) (maxSteps := 4000000) only [hicap, ite_self, Nat.sub_zero, encP_len, encP_scal, encP_z, encP_take, go_sem]
      refine ⟨_, AH.le_refl _, by rw [hcn], zf [Value.int .i64 0, .int .i64 0] ((L.length - i) * 2) ++ (M.map encP).flatten.drop (i * 2 + (zf [Value.int .i64 0, .int .i64 0] ((L.length - i) * 2)).length), ?_⟩
      rw [lput_eq _ _ _ (by rw [hZl, hfl]; omega), List.append_assoc]
      congr 3
      rw [← hfr2]
      have e1 : (M.map encP).flatten = ((M.take i).map encP).flatten ++ ((M.drop i).map encP).flatten := by
        rw [← List.flatten_append, ← List.map_append, List.take_append_drop]
      rw [e1, List.take_append_of_le_length (by rw [flatP_len, List.length_take]; omega), List.take_of_length_le (by rw [flatP_len, List.length_take]; omega)]
end Go.Proofs.YtbhamhhjicehaaaGreatDoor.Wire
