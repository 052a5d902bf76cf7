/- For every input PartWhole answers true and leaves its arguments as_ they were; the package's one variable holds what the program's text lays into it: the tied card. -/
import Derived.Test.YtamlipffhimfmaaGreatDoorMPartWhole5
import Derived.Test.YtamlipffhimfmaaGreatDoorRows
import Derived.Test.YtamlipffhimfmaaGreatDoorCards
import Derived.Test.YtamlipffhimfmaaGreatDoorTie
import Derived.ChangeSame
import Derived.ChangeVars
import Derived.JoinedOf
import Derived.RowKit
import Derived.RowKitTokens
import Derived.LaidLaws
import Derived.LaidHandle
import Derived.Stop.Joined
import Derived.SevenTiedAt
/- part: the fixed fact. -/
namespace Go.Proofs.YtamlipffhimfmaaGreatDoor.Prt
set_option linter.unusedSimpArgs false
set_option linter.unusedVariables false
open Go Go.AX Go.Proofs Ty Go.Proofs.YtamlipffhimfmaaGreatDoor.File Go.Proofs.YtamlipffhimfmaaGreatDoor.Ifs Go.Proofs.YtamlipffhimfmaaGreatDoor.Err
open Go.Proofs.YtamlipffhimfmaaGreatDoor.Chk (Tb TabIn encT encE En tabs)
set_option maxHeartbeats 4000000
set_option maxRecDepth 10000

theorem IndexNil_c (b1 q : Nat) (H : AH) (hq : H.find q = some (.cells [.pointer (some ⟨b1, 0, none⟩), .pointer none] 37 2)) :
    ACalls Tryz.prog 89 #[.slice (some ⟨q, 0, none⟩) 2 2, .pointer none] H (fun v H' => v = .int .i64 1 ∧ H = H') := by
  have r0 : H.rd ⟨q, 0, none⟩ = some (.pointer (some ⟨b1, 0, none⟩)) := by rw [rd_find hq]; rfl
  have r1 : H.rd ⟨q, 1, none⟩ = some (.pointer none) := by rw [rd_find hq]; rfl
  refine ACalls.enter2 Tryz.func89 rfl Tryz.ntmps89 Tryz.results89 (by simp) ?_; simp (dsimp := false) (maxSteps := 4000000) only [go_sem]
  refine AWp.rounds 2 ?_
  simp (dsimp := false) (maxSteps := 4000000) only [r0, r1, eql_nil_l, go_sem]
  exact ⟨H, (AH.le_refl _), (by first | exact ⟨rfl, rfl⟩ | rfl)⟩
theorem ContainsNil_c (b1 q : Nat) (H : AH) (hq : H.find q = some (.cells [.pointer (some ⟨b1, 0, none⟩), .pointer none] 37 2)) :
    ACalls Tryz.prog 53 #[.slice (some ⟨q, 0, none⟩) 2 2, .pointer none] H (fun v H' => v = .bool true ∧ H = H') := by
  refine ACalls.enter2 Tryz.func53 rfl Tryz.ntmps53 Tryz.results53 (by simp) ?_; simp (dsimp := false) (maxSteps := 4000000) only [go_sem]
  refine (IndexNil_c b1 q _ hq).mono ?_; rintro _ _ ⟨rfl, rfl⟩
  simp (dsimp := false) (maxSteps := 4000000) only [go_sem]
  exact ⟨H, (AH.le_refl _), (by first | exact ⟨rfl, rfl⟩ | rfl)⟩
theorem RoundNil_c (b1 q : Nat) (H : AH) (hq : H.find q = some (.cells [.pointer (some ⟨b1, 0, none⟩), .pointer none] 37 2)) :
    ACalls Tryz.prog 23 #[.slice (some ⟨q, 0, none⟩) 2 2, .slice none 0 0, .slice none 0 0, .slice none 0 0] H (fun v H' => v = .tuple #[.slice none 0 0, .int .i64 1] ∧ H = H') := by
  refine ACalls.enter2 Tryz.func23 rfl Tryz.ntmps23 Tryz.results23 (by simp) ?_; simp (dsimp := false) (maxSteps := 4000000) only [go_sem]
  refine (ContainsNil_c b1 q _ hq).mono ?_; rintro _ _ ⟨rfl, rfl⟩
  simp (dsimp := false) (maxSteps := 4000000) only [go_sem]
  exact ⟨H, (AH.le_refl _), (by first | exact ⟨rfl, rfl⟩ | rfl)⟩
theorem entry_c (k s : Int) (H : AH) : ACalls Tryz.prog 57 #[.int .i64 k, .int .i64 s] H (fun v H' => v = .agg #[.int .i64 k, .int .i64 s, .int .i64 1, .int .i64 1, .int .i64 0] ∧ H = H') := by
  refine ACalls.enter2 Tryz.func57 rfl Tryz.ntmps57 Tryz.results57 (by simp) ?_; simp (dsimp := false) (maxSteps := 4000000) only [go_sem]
  refine AllB.mk fun b4 h_b4 => ?_; have hn_b4 := h_b4; (try simp only [fresh_add, fresh_set, ne_eq] at hn_b4); have hr_b4 := hn_b4; (try simp only [@eq_comm Nat b4] at hr_b4); simp (dsimp := false) (maxSteps := 4000000) only [hn_b4, hr_b4, go_sem]
  exact ⟨H, (AH.le_add (AH.le_refl _) ((by simp only [fresh_add, fresh_set, ne_eq, hn_b4, not_false_eq_true, and_self] : Fresh _ b4).2)), (by first | exact ⟨rfl, rfl⟩ | rfl)⟩
def Fa : Fl := (3, (newR 3 1).set 1 (7, 8, 0, 0))
def Fb : Fl := (3, [hd 3 1, (9, 10, 0, 0)])
def Xa : List Nf := addX [] 1 Fa
def Xb : List Nf := addX [] 1 Fb
theorem okXa : OkX Xa := OkX.nil.add 1 Fa (by unfold RcOk; decide +kernel)
theorem okXb : OkX Xb := OkX.nil.add 1 Fb (by unfold RcOk; decide +kernel)
theorem slcF {H0 H : AH} {b e sz bs n : Nat} {R : List (List Value)} (hf : Fresh H0 b) (h : H.find b = some (.cells R.flatten e bs)) (hn : n = R.length) (hr : ∀ r ∈ R, r.length = sz) (hb : n * sz ≤ bs) (hbig : R.length < 9223372036854775808) : SlcIn H sz (some ⟨b, 0, none⟩) n R :=
  (⟨hr, by omega, hbig, .inr ⟨b, bs, rfl, h, hb, hf⟩⟩ : OwnS H0 H e sz (some ⟨b, 0, none⟩) n R).slc
def La : List En := [(1, 1, 1, 1, 0), (2, 2, 1, 1, 0)]
def Lb : List En := [(2, 1, 1, 1, 0), (1, 2, 1, 1, 0)]
def Tw (a b : Option Addr) : List Tb := [(a, 2, La), (b, 2, Lb)]
theorem rnd_w (a b : Option Addr) : rndE 2 (Tw a b) = 0 := by kernel_rfl
theorem get_w1 (a b : Option Addr) : getW (outP (hdP [Xa, Xb] (Tw a b) [true, true] []) Xa 0 (a, 2, La) true).1 1 1 = some (9, 8, 0, 0) := by kernel_rfl
theorem get_w2 (a b : Option Addr) : getW (outP (hdP [Xa, Xb] (Tw a b) [true, true] []) Xb 0 (b, 2, Lb) true).1 1 1 = some (7, 10, 0, 0) := by kernel_rfl
theorem awake_c (H : AH) (hE : ErrT H.w0) : ACalls Tryz.prog 24 #[] H (fun v H' => v = .bool true ∧ H = H') := by
  refine ACalls.enter2 Tryz.func24 rfl Tryz.ntmps24 Tryz.results24 (by simp) ?_; simp (dsimp := false) (maxSteps := 4000000) only [enc_len, enc_scal, lput_enc, take_enc, go_sem]
  refine (New_c H).mono ?_
  rintro _ A0 ⟨ba, fta, rfl, hsa, hK0, hf0⟩
  simp (dsimp := false) (maxSteps := 4000000) only [enc_len, enc_scal, lput_enc, take_enc, go_sem]
  refine (New_c A0).mono ?_
  rintro _ A1 ⟨bb, ftb, rfl, hsb, hK1, hf1⟩
  simp (dsimp := false) (maxSteps := 4000000) only [enc_len, enc_scal, lput_enc, take_enc, go_sem]
  refine (RefNew_c 3 1 (by unfold okNew; decide) _).mono ?_
  rintro _ A2 ⟨fb, fc, rfl, hO2, hK2⟩
  unfold fv
  simp (dsimp := false) (maxSteps := 4000000) only [enc_len, enc_scal, lput_enc, take_enc, go_sem]
  refine AllB.mk fun b3 h_b3 => ?_; have hn_b3 := h_b3; (try simp only [fresh_add, fresh_set, ne_eq] at hn_b3); have hr_b3 := hn_b3; (try simp only [@eq_comm Nat b3] at hr_b3); simp (dsimp := false) (maxSteps := 4000000) only [enc_len, enc_scal, lput_enc, take_enc, hn_b3, hr_b3, go_sem]
  rcases hO2.at_ with ⟨rfl, h, _⟩ | ⟨q, bs, rfl, hq, hbs, hqf⟩
  · simp [newR] at h
  have n3 : ¬ b3 = q := h_b3.ne_find hq
  obtain ⟨A3, hA3⟩ : ∃ A3, A2.add b3 (.cells [.int .i64 3, .slice (some ⟨q, 0, none⟩) 2 fc] 72 2) = A3 := ⟨_, rfl⟩
  have k23 : Keep A2 A3 fun _ => False := hA3 ▸ Keep.add h_b3
  have hO3 := hO2.keep k23 fun _ _ h => h
  have f3 : A3.find b3 = some (.cells [.int .i64 3, .slice (some ⟨q, 0, none⟩) 2 fc] 72 2) := by rw [← hA3, find_add_self]
  have fq3 : A3.find q = some (.cells ((newR 3 1).map enc).flatten 26 bs) := k23.find (fun h => h) hq
  have hb8 : 8 ≤ bs := by have := hO2.le; simp [newR] at this; omega
  obtain ⟨A4, hA4⟩ : ∃ A4, A3.set q (.cells (Fa.2.map enc).flatten 26 bs) = A4 := ⟨_, rfl⟩
  have hw : A3.wrs q 4 [.int .u8 7, .int .u8 8, .int .u8 0, .int .u8 0] = some A4 := by
    rw [← hA4]
    simp [AH.wrs, fq3, enc, newR, Fa, lput, scal, hb8]
  have k34 : Keep A3 A4 (· = q) := hA4 ▸ Keep.set
  have fq4 : A4.find q = some (.cells (Fa.2.map enc).flatten 26 bs) := by rw [← hA4, find_set, if_pos rfl]
  have hO4 : OwnS A1 A4 26 4 (some ⟨q, 0, none⟩) fc (Fa.2.map enc) := ⟨fun r hr => by
    obtain ⟨w, _, rfl⟩ := List.mem_map.1 hr
    rfl, by have := hO2.le; simpa [newR, Fa] using this, by simp [newR, Fa], .inr ⟨q, bs, rfl, fq4, hbs, hqf⟩⟩
  have f4 := k34.find n3 f3
  have hqf1 : Fresh A1 q := hqf
  have hsa1 := hsa.keep hK1 fun _ _ h => h
  have hsa2 := hsa1.keep hK2 fun _ _ h => h
  have hsb2 := hsb.keep hK2 fun _ _ h => h
  have hsa3 := hsa2.keep k23 fun _ _ h => h
  have hsb3 := hsb2.keep k23 fun _ _ h => h
  have hsa4 := hsa3.keep k34 fun x hx e => hsa1.fresh hqf1 (e ▸ hx)
  have hsb4 := hsb3.keep k34 fun x hx e => hsb.fresh hqf1 (e ▸ hx)
  have kH1 := hK0.trans hK1
  have kH4 : Keep H A4 fun _ => False := ((kH1.trans hK2).trans k23).ow k34 fun x e => e ▸ kH1.fr hqf1
  have ga : ∀ x, fta x → Fresh H x := hf0
  have gb : ∀ x, ftb x → Fresh H x := fun x hx => hK0.fr (hf1 x hx)
  have hfb3 : Fresh A2 b3 := h_b3
  have kH2 := kH1.trans hK2
  have nb3 : ¬ fta b3 := hsa2.fresh h_b3
  have nbb3 : ¬ ftb b3 := hsb2.fresh h_b3
  have nq : ¬ fta q := fun hx => hsa1.fresh hqf1 hx
  have nbq : ¬ ftb q := fun hx => hsb.fresh hqf1 hx
  have hab : ∀ x, ftb x → ¬ fta x := fun x hx => hsa.fresh (hf1 x hx)
  rw [hA3]
  simp (dsimp := false) (maxSteps := 4000000) only [hw, enc_len, enc_scal, lput_enc, take_enc, hn_b3, hr_b3, go_sem]
  clear hA3 hA4 hw fq3 hsa hsb hsa1 hsa2 hsb2 hsa3 hsb3 hK0 hK1 hK2 k23 k34 hO2 hO3 h_b3 hn_b3 hr_b3
  
  have w4 : A4.row b3 0 2 = some [.int .i64 3, .slice (some ⟨q, 0, none⟩) 2 fc] := row_find f4 (by simp)
  simp (dsimp := false) (maxSteps := 4000000) only [w4, enc_len, enc_scal, lput_enc, take_enc, go_sem]
  refine (Add_c hsa4 1 3 Fa.2 (some ⟨q, 0, none⟩) fc hO4.slc).mono ?_
  rintro _ A5 ⟨ft5, rfl, hsa5, hK5, hf5⟩
  rw [show addE [] 1 (3, Fa.2) = 0 by decide +kernel]
  have k5 : Keep H A5 fun _ => False := kH4.ow hK5 ga
  have ga5 : ∀ x, ft5 x → Fresh H x := fun x hx => (hf5 x hx).elim (ga x) fun h => kH4.fr h
  have f5 := hK5.find nb3 f4
  have fq5 := hK5.find nq fq4
  have hsb5 := hsb4.keep hK5 hab
  have d5 : ∀ x, ftb x → ¬ ft5 x := fun x hx h => (hf5 x h).elim (hab x hx) fun h => hsb4.fresh h hx
  have nb5 : ¬ ft5 b3 := fun h => (hf5 _ h).elim nb3 fun h => h.ne_find f4 rfl
  have w5 : A5.row q 0 4 = some (enc (hd 3 1)) := row_find fq5 (by simp [Fa, newR, enc])
  have r5 : A5.rd ⟨b3, 1, none⟩ = some (.slice (some ⟨q, 0, none⟩) 2 fc) := by rw [rd_find f5]; rfl
  simp (dsimp := false) (maxSteps := 4000000) only [w5, r5, enc_len, enc_scal, lput_enc, take_enc, go_sem]
  refine AllB.mk fun b32 h_b32 => ?_; have hn_b32 := h_b32; (try simp only [fresh_add, fresh_set, ne_eq] at hn_b32); have hr_b32 := hn_b32; (try simp only [@eq_comm Nat b32] at hr_b32); simp (dsimp := false) (maxSteps := 4000000) only [enc_len, enc_scal, lput_enc, take_enc, hn_b32, hr_b32, go_sem]
  obtain ⟨A6, hA6⟩ : ∃ A6, A5.add b32 (.cells (enc (hd 3 1) ++ [.int .u8 9, .int .u8 10, .int .u8 0, .int .u8 0]) 26 (enc (hd 3 1) ++ [Value.int .u8 9, .int .u8 10, .int .u8 0, .int .u8 0]).length) = A6 := ⟨_, rfl⟩
  have k56 : Keep A5 A6 fun _ => False := hA6 ▸ Keep.add h_b32
  have fb6 : A6.find b32 = some (.cells (Fb.2.map enc).flatten 26 8) := by rw [← hA6, find_add_self]; rfl
  have f6 := k56.find (fun h => h) f5
  have n32 : ¬ b32 = b3 := h_b32.ne_find f5
  have hb32 : Fresh A5 b32 := h_b32
  obtain ⟨A7, hA7⟩ : ∃ A7, A6.set b3 (.cells [.int .i64 3, .slice (some ⟨b32, 0, none⟩) 2 2] 72 2) = A7 := ⟨_, rfl⟩
  have hw7 : A6.wrs b3 1 [.slice (some ⟨b32, 0, none⟩) 2 2] = some A7 := by
    rw [← hA7]
    simp [AH.wrs, f6, lput, scal]
  have k67 : Keep A6 A7 (· = b3) := hA7 ▸ Keep.set
  have f7 : A7.find b3 = some (.cells [.int .i64 3, .slice (some ⟨b32, 0, none⟩) 2 2] 72 2) := by rw [← hA7, find_set, if_pos rfl]
  have fb7 := k67.find n32 fb6
  have hO7 : OwnS A5 A7 26 4 (some ⟨b32, 0, none⟩) 2 (Fb.2.map enc) := ⟨fun r hr => by
    obtain ⟨w, _, rfl⟩ := List.mem_map.1 hr
    rfl, by simp [Fb], by simp [Fb], .inr ⟨b32, 8, rfl, fb7, by decide, hb32⟩⟩
  have hsa7 := (hsa5.keep k56 fun _ _ h => h).keep k67 fun x hx e => nb5 (e ▸ hx)
  have hsb7 := (hsb5.keep k56 fun _ _ h => h).keep k67 fun x hx e => nbb3 (e ▸ hx)
  have fr3 : Fresh H b3 := kH2.fr hfb3
  have kH7 : Keep H A7 fun _ => False := (k5.trans k56).ow k67 fun x e => e ▸ fr3
  have w7 : A7.row b3 0 2 = some [.int .i64 3, .slice (some ⟨b32, 0, none⟩) 2 2] := row_find f7 (by simp)
  rw [hA6]
  simp (dsimp := false) (maxSteps := 4000000) only [hw7, enc_len, enc_scal, lput_enc, take_enc, hn_b32, hr_b32, go_sem]
  clear hA6 hA7 hw7 h_b32 hn_b32 hr_b32 hsa4 hsb4 hsb5 f4 f5 f6 fb6 fb7 fq4 fq5 hK5 hO4 w4 w5 r5 k56 k67 hsa5
  
  simp (dsimp := false) (maxSteps := 4000000) only [w7, enc_len, enc_scal, lput_enc, take_enc, go_sem]
  refine (Add_c hsb7 1 3 Fb.2 (some ⟨b32, 0, none⟩) 2 hO7.slc).mono ?_
  rintro _ A8 ⟨ft8, rfl, hsb8, hK8, hf8⟩
  rw [show addE [] 1 (3, Fb.2) = 0 by decide +kernel]
  have k8 : Keep H A8 fun _ => False := kH7.ow hK8 gb
  have gb8 : ∀ x, ft8 x → Fresh H x := fun x hx => (hf8 x hx).elim (gb x) fun h => kH7.fr h
  have hsa8 := hsa7.keep hK8 fun x hx h => d5 x h hx
  change StAt A8 bb Xb 0 ft8 at hsb8
  change StAt A8 ba Xa 0 ft5 at hsa8
  clear hsa7 hsb7 hK8 hf8 f7 w7 hO7
  simp (dsimp := false) (maxSteps := 4000000) only [enc_len, enc_scal, lput_enc, take_enc, go_sem]
  refine AllB.mk fun y1 h_y1 => ?_; have hn_y1 := h_y1; (try simp only [fresh_add, fresh_set, ne_eq] at hn_y1); have hr_y1 := hn_y1; (try simp only [@eq_comm Nat y1] at hr_y1); simp (dsimp := false) (maxSteps := 4000000) only [enc_len, enc_scal, lput_enc, take_enc, hn_y1, hr_y1, go_sem]
  refine (entry_c 1 1 _).mono ?_; rintro _ _ ⟨rfl, rfl⟩
  simp (dsimp := false) (maxSteps := 4000000) only [enc_len, enc_scal, lput_enc, take_enc, hn_y1, hr_y1, go_sem]
  refine (entry_c 2 2 _).mono ?_; rintro _ _ ⟨rfl, rfl⟩
  simp (dsimp := false) (maxSteps := 4000000) only [enc_len, enc_scal, lput_enc, take_enc, hn_y1, hr_y1, go_sem]
  refine AllB.mk fun y2 h_y2 => ?_; have hn_y2 := h_y2; (try simp only [fresh_add, fresh_set, ne_eq] at hn_y2); have hr_y2 := hn_y2; (try simp only [@eq_comm Nat y2] at hr_y2); simp (dsimp := false) (maxSteps := 4000000) only [enc_len, enc_scal, lput_enc, take_enc, hn_y1, hr_y1, hn_y2, hr_y2, go_sem]
  refine (entry_c 2 1 _).mono ?_; rintro _ _ ⟨rfl, rfl⟩
  simp (dsimp := false) (maxSteps := 4000000) only [enc_len, enc_scal, lput_enc, take_enc, hn_y1, hr_y1, hn_y2, hr_y2, go_sem]
  refine (entry_c 1 2 _).mono ?_; rintro _ _ ⟨rfl, rfl⟩
  simp (dsimp := false) (maxSteps := 4000000) only [enc_len, enc_scal, lput_enc, take_enc, hn_y1, hr_y1, hn_y2, hr_y2, go_sem]
  refine AllB.mk fun y3 h_y3 => ?_; have hn_y3 := h_y3; (try simp only [fresh_add, fresh_set, ne_eq] at hn_y3); have hr_y3 := hn_y3; (try simp only [@eq_comm Nat y3] at hr_y3); simp (dsimp := false) (maxSteps := 4000000) only [enc_len, enc_scal, lput_enc, take_enc, hn_y1, hr_y1, hn_y2, hr_y2, hn_y3, hr_y3, go_sem]
  refine AllB.mk fun y4 h_y4 => ?_; have hn_y4 := h_y4; (try simp only [fresh_add, fresh_set, ne_eq] at hn_y4); have hr_y4 := hn_y4; (try simp only [@eq_comm Nat y4] at hr_y4); simp (dsimp := false) (maxSteps := 4000000) only [enc_len, enc_scal, lput_enc, take_enc, hn_y1, hr_y1, hn_y2, hr_y2, hn_y3, hr_y3, hn_y4, hr_y4, go_sem]
  refine AllB.mk fun y5 h_y5 => ?_; have hn_y5 := h_y5; (try simp only [fresh_add, fresh_set, ne_eq] at hn_y5); have hr_y5 := hn_y5; (try simp only [@eq_comm Nat y5] at hr_y5); simp (dsimp := false) (maxSteps := 4000000) only [enc_len, enc_scal, lput_enc, take_enc, hn_y1, hr_y1, hn_y2, hr_y2, hn_y3, hr_y3, hn_y4, hr_y4, hn_y5, hr_y5, go_sem]
  obtain ⟨A9, hA9⟩ : ∃ A9, (((((A8.add y1 (.cells [.pointer (some ⟨ba, 0, none⟩), .pointer (some ⟨bb, 0, none⟩)] 37 2)).add y2 (.cells [.int .i64 1, .int .i64 1, .int .i64 1, .int .i64 1, .int .i64 0, .int .i64 2, .int .i64 2, .int .i64 1, .int .i64 1, .int .i64 0] 79 10)).add y3 (.cells [.int .i64 2, .int .i64 1, .int .i64 1, .int .i64 1, .int .i64 0, .int .i64 1, .int .i64 2, .int .i64 1, .int .i64 1, .int .i64 0] 79 10)).add y4 (.cells [.slice (some ⟨y2, 0, none⟩) 2 2, .slice (some ⟨y3, 0, none⟩) 2 2] 77 2)).add y5 (.cells [.bool true, .bool true] 4 2)) = A9 := ⟨_, rfl⟩
  have kA : Keep A8 A9 fun _ => False := hA9 ▸ ((((Keep.add h_y1).nw h_y2).nw h_y3).nw h_y4).nw h_y5
  have g5 : A9.find y5 = some (.cells [.bool true, .bool true] 4 2) := by rw [← hA9, find_add_self]
  have g4 : A9.find y4 = some (.cells [.slice (some ⟨y2, 0, none⟩) 2 2, .slice (some ⟨y3, 0, none⟩) 2 2] 77 2) := by rw [← hA9, find_add_ne _ hn_y5.1, find_add_self]
  have g3 : A9.find y3 = some (.cells [.int .i64 2, .int .i64 1, .int .i64 1, .int .i64 1, .int .i64 0, .int .i64 1, .int .i64 2, .int .i64 1, .int .i64 1, .int .i64 0] 79 10) := by rw [← hA9, find_add_ne _ hn_y5.2.1, find_add_ne _ hn_y4.1, find_add_self]
  have g2 : A9.find y2 = some (.cells [.int .i64 1, .int .i64 1, .int .i64 1, .int .i64 1, .int .i64 0, .int .i64 2, .int .i64 2, .int .i64 1, .int .i64 1, .int .i64 0] 79 10) := by rw [← hA9, find_add_ne _ hn_y5.2.2.1, find_add_ne _ hn_y4.2.1, find_add_ne _ hn_y3.1, find_add_self]
  have g1 : A9.find y1 = some (.cells [.pointer (some ⟨ba, 0, none⟩), .pointer (some ⟨bb, 0, none⟩)] 37 2) := by rw [← hA9, find_add_ne _ hn_y5.2.2.2.1, find_add_ne _ hn_y4.2.2.1, find_add_ne _ hn_y3.2.1, find_add_ne _ hn_y2.1, find_add_self]
  have hS : StsIn A9 (some ⟨y1, 0, none⟩) 2 [⟨ba, Xa, 0, ft5⟩, ⟨bb, Xb, 0, ft8⟩] := by
    refine ⟨slcF (e := 37) (bs := 2) h_y1 g1 rfl (rowS _) (by decide) (by simp), fun s hs => ?_⟩
    rcases List.mem_cons.1 hs with rfl | hs
    · exact ⟨hsa8.keep kA fun _ _ h => h, okXa⟩
    · obtain rfl := List.mem_singleton.1 hs
      exact ⟨hsb8.keep kA fun _ _ h => h, okXb⟩
  have hT : TabIn A9 (some ⟨y4, 0, none⟩) 2 (Tw (some ⟨y2, 0, none⟩) (some ⟨y3, 0, none⟩)) := by
    refine ⟨slcF (e := 77) (bs := 2) hn_y4.2.2.2 g4 rfl (by simp [Tw, encT]) (by decide) (by simp [Tw]), fun x hx => ?_⟩
    rcases List.mem_cons.1 hx with rfl | hx
    · exact slcF (e := 79) (bs := 10) hn_y2.2 g2 rfl (by simp [La, encE]) (by show 10 ≤ 10; omega) (by simp [La])
    · obtain rfl := List.mem_singleton.1 hx
      exact slcF (e := 79) (bs := 10) hn_y3.2.2 g3 rfl (by simp [Lb, encE]) (by show 10 ≤ 10; omega) (by simp [Lb])
  have hB : SlcIn A9 1 (some ⟨y5, 0, none⟩) 2 ([true, true].map encB1) := slcF (e := 4) (bs := 2) hn_y5.2.2.2.2 g5 rfl (by simp [encB1]) (by decide) (by simp)
  have k9 := k8.trans kA
  rw [hA9]
  clear hA9 g1 g2 g3 g4 g5 kA h_y1 h_y2 h_y3 h_y4 h_y5 hn_y1 hn_y2 hn_y3 hn_y4 hn_y5 hr_y1 hr_y2 hr_y3 hr_y4 hr_y5
  
  refine (Round_c _ _ _ [] _ _ _ none 2 2 2 0 _ (by rw [k9.w0]; exact hE) hS hT hB SlcIn.nil rfl rfl (by show 2 ≤ 32; omega)).mono ?_
  rintro _ AA ⟨zb, zc, SO, rfl, _, hv, hso, hKA, _⟩
  obtain ⟨hlen, hv⟩ := hv (rnd_w _ _)
  obtain ⟨o1, o2, rfl⟩ : ∃ o1 o2, SO = [o1, o2] := by
    match SO, hlen with
    | [o1, o2], _ => exact ⟨o1, o2, rfl⟩
  have v1 := hv 0 _ _ _ _ rfl rfl rfl rfl
  have v2 := hv 1 _ _ _ _ rfl rfl rfl rfl
  have kAA := k9.trans hKA
  have i1 := hso.inn o1 (List.mem_cons_self ..)
  have i2 := hso.inn o2 (List.mem_cons_of_mem _ (List.mem_cons_self ..))
  have w1 : getW o1.X 1 1 = some (9, 8, 0, 0) := by rw [getW_p v1.1 i1.2.kd]; exact get_w1 _ _
  have w2 : getW o2.X 1 1 = some (7, 10, 0, 0) := by rw [getW_p v2.1 i2.2.kd]; exact get_w2 _ _
  rw [show rndE (List.length [SR.mk ba Xa 0 ft5, SR.mk bb Xb 0 ft8]) (Tw (some ⟨y2, 0, none⟩) (some ⟨y3, 0, none⟩)) = 0 from rnd_w _ _]
  obtain ⟨q1, j1, rfl, _, hr1⟩ := hso.out.get (i := 0) rfl
  obtain ⟨_, _, e, _, hr2⟩ := hso.out.get (i := 1) rfl; cases e
  have hr1 := hr1 0 _ rfl
  have hr2 := hr2 0 _ rfl
  simp only [Nat.add_zero, Nat.zero_mul, Nat.one_mul] at hr1 hr2
  have hGa := fun H1 (h : StAt H1 o1.b o1.X o1.den o1.ft) => Get_c h i1.2 1 1
  have hGb := fun H1 (h : StAt H1 o2.b o2.X o2.den o2.ft) => Get_c h i2.2 1 1
  rw [w1] at hGa
  rw [w2] at hGb
  unfold getV at hGa hGb
  clear v1 v2 hv hS hT hB
  simp (dsimp := false) (maxSteps := 4000000) only [hr1, enc_len, enc_scal, lput_enc, take_enc, go_sem]
  refine (hGa _ i1.1).mono ?_; rintro _ _ ⟨rfl, rfl⟩
  simp (dsimp := false) (maxSteps := 4000000) only [enc_len, enc_scal, lput_enc, take_enc, go_sem]
  refine AllB.mk fun p8 h_p8 => ?_; have hn_p8 := h_p8; (try simp only [fresh_add, fresh_set, ne_eq] at hn_p8); have hr_p8 := hn_p8; (try simp only [@eq_comm Nat p8] at hr_p8); simp (dsimp := false) (maxSteps := 4000000) only [enc_len, enc_scal, lput_enc, take_enc, hn_p8, hr_p8, go_sem]
  obtain ⟨AB, hAB⟩ : ∃ AB, AA.add p8 (.cells (enc (9, 8, 0, 0)) 26 4) = AB := ⟨_, rfl⟩
  have kAB : Keep AA AB fun _ => False := hAB ▸ Keep.add h_p8
  have f8 : AB.find p8 = some (.cells (enc (9, 8, 0, 0)) 26 4) := by rw [← hAB, find_add_self]
  rw [hAB]
  clear hAB h_p8 hn_p8 hr_p8
  
  obtain ⟨_, _, e, _, hr2⟩ := (hso.keep kAB).out.get (i := 1) rfl; cases e
  have hr2 := hr2 0 _ rfl
  simp only [Nat.add_zero, Nat.one_mul] at hr2
  have i2b := i2.keep kAB
  simp (dsimp := false) (maxSteps := 4000000) only [hr2, enc_len, enc_scal, lput_enc, take_enc, go_sem]
  refine (hGb _ i2b.1).mono ?_; rintro _ _ ⟨rfl, rfl⟩
  simp (dsimp := false) (maxSteps := 4000000) only [enc_len, enc_scal, lput_enc, take_enc, go_sem]
  refine AllB.mk fun p10 h_p10 => ?_; have hn_p10 := h_p10; (try simp only [fresh_add, fresh_set, ne_eq] at hn_p10); have hr_p10 := hn_p10; (try simp only [@eq_comm Nat p10] at hr_p10); simp (dsimp := false) (maxSteps := 4000000) only [enc_len, enc_scal, lput_enc, take_enc, hn_p10, hr_p10, go_sem]
  obtain ⟨AC, hAC⟩ : ∃ AC, AB.add p10 (.cells (enc (7, 10, 0, 0)) 26 4) = AC := ⟨_, rfl⟩
  have kAC : Keep AB AC fun _ => False := hAC ▸ Keep.add h_p10
  have f10 : AC.find p10 = some (.cells (enc (7, 10, 0, 0)) 26 4) := by rw [← hAC, find_add_self]
  have f8 := kAC.find (fun h => h) f8
  rw [hAC]
  clear hAC h_p10 hn_p10 hr_p10
  
  refine AllB.mk fun p79 h_p79 => ?_; have hn_p79 := h_p79; (try simp only [fresh_add, fresh_set, ne_eq] at hn_p79); have hr_p79 := hn_p79; (try simp only [@eq_comm Nat p79] at hr_p79); simp (dsimp := false) (maxSteps := 4000000) only [enc_len, enc_scal, lput_enc, take_enc, hn_p79, hr_p79, go_sem]
  obtain ⟨AD, hAD⟩ : ∃ AD, AC.add p79 (.cells [.pointer (some ⟨ba, 0, none⟩), .pointer none] 37 2) = AD := ⟨_, rfl⟩
  have kAD : Keep AC AD fun _ => False := hAD ▸ Keep.add h_p79
  have f79 : AD.find p79 = some (.cells [.pointer (some ⟨ba, 0, none⟩), .pointer none] 37 2) := by rw [← hAD, find_add_self]
  have f8 := kAD.find (fun h => h) f8
  have f10 := kAD.find (fun h => h) f10
  rw [hAD]
  clear hAD h_p79 hn_p79 hr_p79
  
  refine (RoundNil_c ba p79 _ f79).mono ?_; rintro _ _ ⟨rfl, rfl⟩
  have kD := ((kAA.trans kAB).trans kAC).trans kAD
  have w8 : AD.row p8 0 4 = some (enc (9, 8, 0, 0)) := row_find f8 (by simp [enc])
  have w10 : AD.row p10 0 4 = some (enc (7, 10, 0, 0)) := row_find f10 (by simp [enc])
  have e1 : enc (9, 8, 0, 0) = [.int .u8 9, .int .u8 8, .int .u8 0, .int .u8 0] := Eq.trans rfl rfl
  have e2 : enc (7, 10, 0, 0) = [.int .u8 7, .int .u8 10, .int .u8 0, .int .u8 0] := Eq.trans rfl rfl
  simp (dsimp := false) (maxSteps := 4000000) only [w8, w10, e1, e2, enc_len, enc_scal, lput_enc, take_enc, go_sem]
  exact ⟨H, kD.all, rfl⟩
end Go.Proofs.YtamlipffhimfmaaGreatDoor.Prt

/- part: what is sorted stays so; a slot that is none. -/
namespace Go.Proofs.YtamlipffhimfmaaGreatDoor.Prt
set_option linter.unusedSimpArgs false
set_option linter.unusedVariables false
open Go Go.AX Go.Proofs Ty Go.Proofs.YtamlipffhimfmaaGreatDoor.File Go.Proofs.YtamlipffhimfmaaGreatDoor.Ifs Go.Proofs.YtamlipffhimfmaaGreatDoor.Err
open Go.Proofs.YtamlipffhimfmaaGreatDoor.Chk (Tb TabIn encT encE En tabs sndO snd)
set_option maxHeartbeats 4000000
set_option maxRecDepth 10000

end Go.Proofs.YtamlipffhimfmaaGreatDoor.Prt

/- part: PartRounds. -/
namespace Go.Proofs.YtamlipffhimfmaaGreatDoor.Prt
set_option linter.unusedSimpArgs false
set_option linter.unusedVariables false
open Go Go.AX Go.Proofs Ty Go.Proofs.YtamlipffhimfmaaGreatDoor.File Go.Proofs.YtamlipffhimfmaaGreatDoor.Ifs Go.Proofs.YtamlipffhimfmaaGreatDoor.Err
open Go.Proofs.YtamlipffhimfmaaGreatDoor.Chk (Tb TabIn encT encE En tabs)
set_option maxHeartbeats 4000000
set_option maxRecDepth 10000

end Go.Proofs.YtamlipffhimfmaaGreatDoor.Prt

/- part: a cell among the arguments. -/
namespace Go.Proofs.YtamlipffhimfmaaGreatDoor.Prt
set_option linter.unusedSimpArgs false
set_option linter.unusedVariables false
open Go Go.AX Go.ChangeShapes Go.WideShapes Go.ChangeAt Go.RowKit Go.Proofs.YtamlipffhimfmaaGreatDoor.File Go.Proofs.YtamlipffhimfmaaGreatDoor.Ifs
open Go.Proofs.YtamlipffhimfmaaGreatDoor.Chk (encE En)
set_option maxRecDepth 100000

theorem u8_wf {x : Int} (h : (Lit.int .u8 x).wf = true) : 0 ≤ x ∧ x ≤ 255 := by
  simp [Lit.wf, IntKind.min, IntKind.max, IntKind.signed, IntKind.bits] at h
  omega
theorem u8_lt {x : Int} (h : (Lit.int .u8 x).wf = true) : 0 ≤ x ∧ x < 256 := by have := u8_wf h; omega
theorem open_named {HT : Type} {ec : TypeId × Value → HT} {W : World} {sp : Nat → Bool} {held : Bool} {cs : List Value} (hl : cs.length = 3) (hc : Leafy ec Tryz.prog W 0 sp held [3, 3, 70] cs) :
    ∃ z : RF, cs = encN z ∧ (SlcIn ⟨W, []⟩ 4 z.base z.cap (z.R.map enc) ∧ ∀ r ∈ z.R, RcOk r) := by
  obtain ⟨c0, c1, c2, rfl⟩ := list3 hl
  obtain ⟨_, _, t0⟩ := hc 0 _ _ rfl rfl
  obtain ⟨a0, q0, _, w0⟩ := DataW.trod_int Tryz.underlying3 t0; cases q0
  obtain ⟨_, _, t1⟩ := hc 1 _ _ rfl rfl
  obtain ⟨a1, q1, _, w1⟩ := DataW.trod_int Tryz.underlying3 t1; cases q1
  obtain ⟨_, _, t2⟩ := hc 2 _ _ rfl rfl
  obtain ⟨b, n, cp, R, rfl, hlR, hs, hR⟩ := open_slcT (P := Tryz.prog) (sz := 4) Tryz.underlying70 (by kernel_rfl) (by simp) (show leafTs Tryz.prog 20 26 = some [5, 5, 5, 5] by kernel_rfl) rfl ⟨_, t2⟩
  obtain ⟨L, rfl, hw⟩ := rows_of (f := File.enc) (G := RcOk) (fun i r hr => by
    obtain ⟨hl, hc⟩ := hR i r hr
    obtain ⟨c0, c1, c2, c3, rfl⟩ := list4 hl
    obtain ⟨_, _, t0⟩ := hc 0 _ _ rfl rfl
    obtain ⟨a0, q0, _, w0⟩ := DataW.trod_int Tryz.underlying5 t0; cases q0
    obtain ⟨_, _, t1⟩ := hc 1 _ _ rfl rfl
    obtain ⟨a1, q1, _, w1⟩ := DataW.trod_int Tryz.underlying5 t1; cases q1
    obtain ⟨_, _, t2⟩ := hc 2 _ _ rfl rfl
    obtain ⟨a2, q2, _, w2⟩ := DataW.trod_int Tryz.underlying5 t2; cases q2
    obtain ⟨_, _, t3⟩ := hc 3 _ _ rfl rfl
    obtain ⟨a3, q3, _, w3⟩ := DataW.trod_int Tryz.underlying5 t3; cases q3
    exact ⟨⟨a0, a1, a2, a3⟩, rfl, u8_wf w0, u8_wf w1, u8_wf w2, u8_wf w3⟩)
  rw [List.length_map] at hlR; subst hlR
  exact ⟨⟨a0, a1, b, cp, L⟩, rfl, hs, hw⟩
theorem open_cell {HT : Type} {ec : TypeId × Value → HT} {W : World} {sp : Nat → Bool} {held : Bool} {cs : List Value} (hl : cs.length = 4) (hc : Leafy ec Tryz.prog W 0 sp held [22, 77, 4, 136] cs) :
    ∃ c : Ce, cs = encC c ∧ CeIn ⟨W, []⟩ c := by
  obtain ⟨c0, c1, c2, c3, rfl⟩ := list4 hl
  obtain ⟨_, _, t0⟩ := hc 0 _ _ rfl rfl
  obtain ⟨b, n, cp, R, rfl, hlR, hs, hR⟩ := open_slcT (P := Tryz.prog) (sz := 3) Tryz.underlying22 (by kernel_rfl) (by simp) (show leafTs Tryz.prog 20 74 = some [3, 3, 70] by kernel_rfl) rfl ⟨_, t0⟩
  obtain ⟨L, rfl, hw⟩ := rows_of (f := encN) (G := fun z => SlcIn ⟨W, []⟩ 4 z.base z.cap (z.R.map enc) ∧ ∀ r ∈ z.R, RcOk r) (fun i r hr => by
    obtain ⟨hl, hc⟩ := hR i r hr
    exact open_named hl hc)
  rw [List.length_map] at hlR; subst hlR
  obtain ⟨_, _, t1⟩ := hc 1 _ _ rfl rfl
  obtain ⟨b1, n1, cp1, R1, rfl, hlR1, hs1, hR1⟩ := open_slcT (P := Tryz.prog) (sz := 5) Tryz.underlying77 (by kernel_rfl) (by simp) (show leafTs Tryz.prog 20 79 = some [3, 3, 3, 3, 3] by kernel_rfl) rfl ⟨_, t1⟩
  obtain ⟨E, rfl, _⟩ := rows_of (f := encE) (G := fun _ => True) (fun i r hr => by
    obtain ⟨hl, hc⟩ := hR1 i r hr
    obtain ⟨c0, c1, c2, c3, c4, rfl⟩ := list5 hl
    obtain ⟨_, _, t0⟩ := hc 0 _ _ rfl rfl
    obtain ⟨a0, q0, _, w0⟩ := DataW.trod_int Tryz.underlying3 t0; cases q0
    obtain ⟨_, _, t1⟩ := hc 1 _ _ rfl rfl
    obtain ⟨a1, q1, _, w1⟩ := DataW.trod_int Tryz.underlying3 t1; cases q1
    obtain ⟨_, _, t2⟩ := hc 2 _ _ rfl rfl
    obtain ⟨a2, q2, _, w2⟩ := DataW.trod_int Tryz.underlying3 t2; cases q2
    obtain ⟨_, _, t3⟩ := hc 3 _ _ rfl rfl
    obtain ⟨a3, q3, _, w3⟩ := DataW.trod_int Tryz.underlying3 t3; cases q3
    obtain ⟨_, _, t4⟩ := hc 4 _ _ rfl rfl
    obtain ⟨a4, q4, _, w4⟩ := DataW.trod_int Tryz.underlying3 t4; cases q4
    exact ⟨⟨a0, a1, a2, a3, a4⟩, rfl, trivial⟩)
  rw [List.length_map] at hlR1; subst hlR1
  obtain ⟨_, _, t2⟩ := hc 2 _ _ rfl rfl
  obtain ⟨l, q2, _⟩ := DataW.trod_bool Tryz.underlying4 t2; cases q2
  exact ⟨⟨b, cp, L, b1, cp1, E, l, c3⟩, rfl, hs, hw, hs1⟩
end Go.Proofs.YtamlipffhimfmaaGreatDoor.Prt

/- part: what a record comes to, and a byte of which one bit is turned. -/
namespace Go.Proofs.YtamlipffhimfmaaGreatDoor.Prt
set_option linter.unusedSimpArgs false
set_option linter.unusedVariables false
open Go Go.AX Go.Proofs Ty Go.Proofs.YtamlipffhimfmaaGreatDoor.File Go.Proofs.YtamlipffhimfmaaGreatDoor.Ifs Go.Proofs.YtamlipffhimfmaaGreatDoor.Uart
open Go.Proofs.YtamlipffhimfmaaGreatDoor.Chk (Tb TabIn sndO snd mayB tabs encT encE)
set_option maxHeartbeats 4000000
set_option maxRecDepth 10000

theorem getW_rp {X : List Nf} {fl : Int} {f g : Fl} (hl : lk fl X = some f) (n rec : Int) : getW (rp fl g X) n rec = if n = fl then (if rec < 0 then none else g.2[rec.toNat]?) else getW X n rec := by
  unfold getW
  rw [lk_rp]
  by_cases h : n = fl
  · rw [if_pos h, if_pos h, hl]; rfl
  · rw [if_neg h, if_neg h]
theorem getW_do {X : List Nf} {fl rec n r : Int} (v : Rc) (h : (fl, rec) ≠ (n, r)) : getW (doX X 2 fl rec v) n r = getW X n r := by
  unfold doX
  split
  · rename_i he
    cases hl : lk fl X with
    | none => rfl
    | some f =>
      dsimp only
      have hr : 0 ≤ rec := by
        unfold doE at he
        split at he
        · cases he
        · rename_i ha
          simp only [agood, Bool.not_eq_false, decide_eq_true_eq] at ha
          omega
      rw [getW_rp hl]
      by_cases hn : n = fl
      · subst hn
        have hne : rec ≠ r := fun e => h (by rw [e])
        rw [if_pos rfl, getW, hl, Option.bind_some]
        by_cases h0 : r < 0
        · rw [if_pos h0, if_pos h0]
        · rw [if_neg h0, if_neg h0]
          show (doR f.2 2 rec.toNat v)[r.toNat]? = _
          rw [doR, if_neg (by decide), if_pos rfl]
          exact List.getElem?_set_ne (by omega)
      · rw [if_neg hn]
  · rfl
theorem getW_app2 {n r : Int} : ∀ (T : List En) (S : List Nf × Int), (∀ x ∈ T, x.1 = 3 → pl x ≠ (n, r)) → getW (app2 T S).1 n r = getW S.1 n r
  | [], _, _ => rfl
  | x :: T, S, h => by
    have ih := getW_app2 T (exE S x) fun y hy => h y (List.mem_cons_of_mem _ hy)
    show getW (app2 T (exE S x)).1 n r = _
    rw [ih]
    unfold exE
    split
    · rename_i h3
      exact getW_do zr (h x (List.mem_cons_self ..) h3)
    · rfl
def stW (L : List En) (hd : Hd) (p : Pl) (v : Rc) : Rc := if okP hd (got L p) = true then (got L p).foldl (putE hd) v else v
theorem stW_idem (L : List En) (hd : Hd) (p : Pl) (v : Rc) : stW L hd p (stW L hd p v) = stW L hd p v := by
  unfold stW
  split
  · exact fold_idem ..
  · rfl
theorem getW_step (L : List En) (hd : Hd) (X : List Nf) (q p : Pl) (h0 : p.2 ≠ 0) : getW (stepP L hd X q) p.1 p.2 = if q = p then (getW X p.1 p.2).map (stW L hd p) else getW X p.1 p.2 := by
  by_cases e : q = p
  · subst e
    rw [if_pos rfl]
    cases hg : getW X q.1 q.2 with
    | none => rw [stepP, hg, hg]; rfl
    | some v =>
      rw [stepP, hg]
      dsimp only
      unfold stW
      split
      · rw [getW_set, if_pos ⟨rfl, rfl, h0⟩, hg]
        simp [*]
      · rw [hg]
        simp [*]
  · rw [if_neg e]
    unfold stepP
    split
    · rfl
    · split
      · rw [getW_set, if_neg fun h => e (Prod.ext h.1.symm h.2.1.symm)]
      · rfl
theorem getW_fold (L : List En) (hd : Hd) (p : Pl) (h0 : p.2 ≠ 0) : ∀ (K : List Pl) (X : List Nf), getW (K.foldl (stepP L hd) X) p.1 p.2 = if p ∈ K then (getW X p.1 p.2).map (stW L hd p) else getW X p.1 p.2
  | [], _ => by simp
  | q :: K, X => by
    rw [List.foldl_cons, getW_fold L hd p h0 K, getW_step L hd X q p h0]
    by_cases e : q = p
    · subst e
      rw [if_pos rfl, if_pos (List.mem_cons_self ..)]
      split
      · rw [Option.map_map]
        congr 1
        funext v
        exact stW_idem L hd q v
      · rfl
    · rw [if_neg e]
      have : (p ∈ q :: K) = (p ∈ K) := by
        apply propext
        rw [List.mem_cons]
        exact ⟨fun h => h.resolve_left fun h => e h.symm, .inr⟩
      simp only [this]
theorem getW_app (L : List En) (hd : Hd) (X : List Nf) (den : Int) (p : Pl) (hr : ∀ x ∈ L, isP p x = true → p.2 ≠ 0) (hx : ∀ x ∈ L, x.1 = 3 → pl x ≠ p) : getW (app L hd X den).1 p.1 p.2 = (getW X p.1 p.2).map (stW L hd p) := by
  rw [app, getW_app2 L _ (fun x hx1 h3 => hx x hx1 h3)]
  show getW (app1 L hd X) p.1 p.2 = _
  by_cases hg : got L p = []
  · have hn : p ∉ recvs L := fun h => recvs_iff.1 h hg
    have hs : stW L hd p = id := by
      funext v; unfold stW; rw [hg]; simp
    have hf : ∀ (K : List Pl) (X : List Nf), p ∉ K → getW (K.foldl (stepP L hd) X) p.1 p.2 = getW X p.1 p.2 := by
      intro K
      induction K with
      | nil => intro X _; rfl
      | cons q K ih =>
        intro X h
        rw [List.foldl_cons, ih _ fun h' => h (List.mem_cons_of_mem _ h')]
        have e : ¬ q = p := fun e => h (e ▸ List.mem_cons_self ..)
        unfold stepP
        split
        · rfl
        · split
          · rw [getW_set, if_neg fun h => e (Prod.ext h.1.symm h.2.1.symm)]
          · rfl
    rw [app1, hf _ _ hn, hs, Option.map_id]; rfl
  · obtain ⟨x, hx1⟩ := List.exists_mem_of_ne_nil _ hg
    have hx2 := List.mem_filter.1 hx1
    have h0 := hr x hx2.1 hx2.2
    rw [app1, getW_fold L hd p h0, if_pos (recvs_iff.2 hg)]

theorem take_put : ∀ b : Fin 256, takeP (putl (b.val : Int) false) = ((b.val : Int), false, 0) := by decide +kernel
theorem take_turn : ∀ b : Fin 256, ∀ j : Fin 9, (takeP (turnl (putl (b.val : Int) false) (ibits .and .i64 ((2 : Int) ^ (j.val + 1)) 2046))).2.1 = true := by decide +kernel
theorem B_true {B : List Bool} {n : Nat} (hB : ∀ b ∈ B, b = true) (hn : n < B.length) : B.getD n false = true := by
  obtain ⟨b, hb⟩ := get_some hn
  rw [List.getD_eq_getElem?_getD, hb]
  exact hB b (List.mem_of_getElem? hb)
def sentO (XS : List (List Nf)) (T : List Tb) (slot : Int) : Option Int := match sndO slot 0 T with
  | none => none
  | some (n, x) => (getW (XS.getD n []) x.2.2.1 x.2.2.2.1).map fun v => byt v x.2.2.2.2
theorem heard_all {XS : List (List Nf)} {T : List Tb} {B : List Bool} (hB : ∀ b ∈ B, b = true) (hl : T.length = B.length) (hX : ∀ X ∈ XS, OkX X) (P : List Sp) (slot : Int) (h : ∀ b, 0 ≤ b → b < 256 → flips slot P (putl b false) = putl b false) : heardO XS T B P slot = sentO XS T slot := by
  unfold heardO sentO frameP
  cases hs : sndO slot 0 T with
  | none => rfl
  | some nx =>
    obtain ⟨n, x⟩ := nx
    obtain ⟨t, _, htn, _⟩ := snd_at hs
    rw [Nat.sub_zero] at htn
    dsimp only
    simp only [B_true hB (hl ▸ Go.AX.lt_of_get htn), if_true]
    cases hg : getW (XS.getD n []) x.2.2.1 x.2.2.2.1 with
    | none => rfl
    | some v =>
      dsimp only
      have hok : OkX (XS.getD n []) := by
        rw [List.getD_eq_getElem?_getD]
        cases hx : XS[n]? with
        | none => exact OkX.nil
        | some X => exact hX X (List.mem_of_getElem? hx)
      have hb := byt_range (getW_ok hok hg) x.2.2.2.2
      have ht := take_put ⟨(byt v x.2.2.2.2).toNat, by omega⟩
      rw [show (((byt v x.2.2.2.2).toNat : Nat) : Int) = byt v x.2.2.2.2 by omega] at ht
      have hf := h _ hb.1 hb.2
      simp only [hf, ht]
      simp
theorem heard_turned {XS : List (List Nf)} {T : List Tb} {B : List Bool} (hX : ∀ X ∈ XS, OkX X) (j : Nat) (hj : j < 9) (slot : Int) : heardO XS T B [(slot, (2 : Int) ^ (j + 1))] slot = none := by
  unfold heardO frameP
  cases hs : sndO slot 0 T with
  | none => rfl
  | some nx =>
    obtain ⟨n, x⟩ := nx
    dsimp only
    split
    · cases hg : getW (XS.getD n []) x.2.2.1 x.2.2.2.1 with
      | none => rfl
      | some v =>
        dsimp only
        have hok : OkX (XS.getD n []) := by
          rw [List.getD_eq_getElem?_getD]
          cases hx : XS[n]? with
          | none => exact OkX.nil
          | some X => exact hX X (List.mem_of_getElem? hx)
        have hb := byt_range (getW_ok hok hg) x.2.2.2.2
        have ht := take_turn ⟨(byt v x.2.2.2.2).toNat, by omega⟩ ⟨j, hj⟩
        rw [show (((byt v x.2.2.2.2).toNat : Nat) : Int) = byt v x.2.2.2.2 by omega] at ht
        have hf : flips slot [(slot, (2 : Int) ^ (j + 1))] (putl (byt v x.2.2.2.2) false) = turnl (putl (byt v x.2.2.2.2) false) (ibits .and .i64 ((2 : Int) ^ (j + 1)) 2046) := by
          simp [flips, flipS]
        simp only [hf, ht]
        simp
    · rfl

structure Wa where
  v : Rc
  hit : Bool
  runs : Bool
def waE (sent : Hd) (k : Int) (p : Pl) (w : Wa) (y : En) : Wa := if pl y ≠ p then w else
  if y.1 = 2 then match sent y.2.1 with
    | some b => ⟨putB w.v y.2.2.2.2 b, w.hit || decide (y.2.1 = k), w.runs⟩
    | none => ⟨w.v, w.hit || decide (y.2.1 = k), true⟩
  else ⟨w.v, w.hit, w.runs || decide (y.1 = 3)⟩
def waF (sent : Hd) (k : Int) (p : Pl) (L : List En) (w : Wa) : Wa := L.foldl (waE sent k p) w
theorem got_cons (y : En) (L : List En) (p : Pl) : got (y :: L) p = if isP p y = true then y :: got L p else got L p := by
  unfold got
  rw [List.filter_cons]
theorem waF_ok {sent : Hd} {k : Int} {p : Pl} : ∀ {L : List En} {w : Wa}, (waF sent k p L w).runs = false → w.runs = false ∧ (∀ x ∈ L, x.1 = 3 → pl x ≠ p) ∧ okP sent (got L p) = true ∧ (waF sent k p L w).v = (got L p).foldl (putE sent) w.v ∧ ((waF sent k p L w).hit = (w.hit || (got L p).any fun y => decide (y.2.1 = k)))
  | [], w, h => ⟨h, by simp, rfl, rfl, by simp [waF, got]⟩
  | y :: L, w, h => by
    have h' : (waF sent k p L (waE sent k p w y)).runs = false := h
    obtain ⟨h1, h2, h3, h4, h5⟩ := waF_ok h'
    have e1 : waF sent k p (y :: L) w = waF sent k p L (waE sent k p w y) := rfl
    rw [e1, h4, h5, got_cons]
    by_cases hp : pl y = p
    · by_cases hk : y.1 = 2
      · have hi : isP p y = true := by simp [isP, hk, hp]
        rw [if_pos hi]
        cases hs : sent y.2.1 with
        | none =>
          have : (waE sent k p w y).runs = true := by simp [waE, hp, hk, hs]
          rw [this] at h1; cases h1
        | some b =>
          have ew : waE sent k p w y = ⟨putB w.v y.2.2.2.2 b, w.hit || decide (y.2.1 = k), w.runs⟩ := by simp [waE, hp, hk, hs]
          rw [ew] at h1 ⊢
          refine ⟨h1, ?_, ?_, ?_, ?_⟩
          · intro x hx h3'
            rcases List.mem_cons.1 hx with rfl | hx
            · rw [hk] at h3'; cases h3'
            · exact h2 x hx h3'
          · rw [okP, List.all_cons, hs, Option.isSome_some, Bool.true_and]; exact h3
          · rw [List.foldl_cons, putE, hs]; rfl
          · simp [Bool.or_assoc]
      · have hi : isP p y = false := by simp [isP, hk]
        rw [hi, if_neg (by decide)]
        have ew : waE sent k p w y = ⟨w.v, w.hit, w.runs || decide (y.1 = 3)⟩ := by simp [waE, hp, hk]
        rw [ew] at h1 ⊢
        simp only [Bool.or_eq_false_iff, decide_eq_false_iff_not] at h1
        refine ⟨h1.1, ?_, h3, rfl, rfl⟩
        intro x hx h3'
        rcases List.mem_cons.1 hx with rfl | hx
        · exact absurd h3' h1.2
        · exact h2 x hx h3'
    · have hi : isP p y = false := by simp [isP, hp]
      rw [hi, if_neg (by decide)]
      have ew : waE sent k p w y = w := by simp [waE, hp]
      rw [ew] at h1 ⊢
      refine ⟨h1, ?_, h3, rfl, rfl⟩
      intro x hx h3'
      rcases List.mem_cons.1 hx with rfl | hx
      · exact hp
      · exact h2 x hx h3'
theorem okP_congr {a b : Hd} : ∀ {l : List En}, (∀ y ∈ l, a y.2.1 = b y.2.1) → okP a l = okP b l
  | [], _ => rfl
  | y :: l, h => by
    rw [okP, okP, List.all_cons, List.all_cons, h y (List.mem_cons_self ..)]
    have := okP_congr (l := l) fun z hz => h z (List.mem_cons_of_mem _ hz)
    unfold okP at this
    rw [this]
theorem fold_congr {a b : Hd} : ∀ {l : List En} {v : Rc}, (∀ y ∈ l, a y.2.1 = b y.2.1) → l.foldl (putE a) v = l.foldl (putE b) v
  | [], _, _ => rfl
  | y :: l, v, h => by
    rw [List.foldl_cons, List.foldl_cons, fold_congr fun z hz => h z (List.mem_cons_of_mem _ hz), putE, putE, h y (List.mem_cons_self ..)]
theorem whole {L : List En} {hA hB sent : Hd} {k : Int} {p : Pl} {X : List Nf} {den : Int} {v : Rc} (hr : ∀ x ∈ L, isP p x = true → p.2 ≠ 0) (hin : ∀ x ∈ L, x.1 = 2 → hA x.2.1 = sent x.2.1 ∧ (x.2.1 ≠ k → hB x.2.1 = sent x.2.1)) (hk : hB k = none) (hv : getW X p.1 p.2 = some v)
    (h : (waF sent k p L ⟨v, false, false⟩).runs = false) :
    getW (app L hA X den).1 p.1 p.2 = some (waF sent k p L ⟨v, false, false⟩).v ∧ getW (app L hB X den).1 p.1 p.2 = some (if (waF sent k p L ⟨v, false, false⟩).hit = true then v else (waF sent k p L ⟨v, false, false⟩).v) := by
  obtain ⟨_, h2, h3, h4, h5⟩ := waF_ok h
  have hg : ∀ y ∈ got L p, y ∈ L ∧ y.1 = 2 := fun y hy => by
    have := List.mem_filter.1 hy
    refine ⟨this.1, ?_⟩
    have h' := this.2
    simp only [isP, Bool.and_eq_true, decide_eq_true_eq] at h'
    exact h'.1
  have eA : ∀ y ∈ got L p, hA y.2.1 = sent y.2.1 := fun y hy => (hin y (hg y hy).1 (hg y hy).2).1
  rw [getW_app L hA X den p hr h2, getW_app L hB X den p hr h2, hv, Option.map_some, Option.map_some]
  rw [h5, h4]
  constructor
  · rw [stW, okP_congr eA, if_pos h3, fold_congr eA]
  · rw [Bool.false_or]
    cases ha : (got L p).any fun y => decide (y.2.1 = k) with
    | true =>
      obtain ⟨y, hy, hy2⟩ := List.any_eq_true.1 ha
      simp only [decide_eq_true_eq] at hy2
      have : okP hB (got L p) = false := by
        unfold okP
        rw [List.all_eq_false]
        exact ⟨y, hy, by rw [hy2, hk]; simp⟩
      rw [if_pos rfl, stW, this, if_neg (by decide)]
    | false =>
      have eB : ∀ y ∈ got L p, hB y.2.1 = sent y.2.1 := fun y hy => (hin y (hg y hy).1 (hg y hy).2).2 fun e => by
        rw [List.any_eq_false] at ha
        exact ha y hy (by simp [e])
      rw [if_neg (by decide), stW, okP_congr eB, if_pos h3, fold_congr eB]
end Go.Proofs.YtamlipffhimfmaaGreatDoor.Prt

/- part: PartWhole. -/
namespace Go.Proofs.YtamlipffhimfmaaGreatDoor.Prt
set_option linter.unusedSimpArgs false
set_option linter.unusedVariables false
open Go Go.AX Go.Proofs Ty Go.Proofs.YtamlipffhimfmaaGreatDoor.File Go.Proofs.YtamlipffhimfmaaGreatDoor.Ifs Go.Proofs.YtamlipffhimfmaaGreatDoor.Err
open Go.Proofs.YtamlipffhimfmaaGreatDoor.Chk (Tb TabIn encT encE En tabs sN sX sndO snd encE_len encE_scal encE_z5 encE_take RefSender_c)
set_option maxHeartbeats 4000000
set_option maxRecDepth 10000

theorem tab_in {C : List Ce} {n : Nat} {w : Bd} {H A : AH} {prot : Nat → Prop} (hin : ∀ c ∈ C, CeIn H c) (hO : Ow H A w.own prot) (hb : w.T = (C.take n).map tabC) : TabIn A w.b3 w.c3 w.T :=
  ⟨(hO.ow 2 _ rfl).slc, fun x hx => by
    rw [hb] at hx
    obtain ⟨c, hc, rfl⟩ := List.mem_map.1 hx
    have h := ((hin c (List.mem_of_mem_take hc)).t.keep hO.kp fun _ _ h => h).take (n := 70)
    rw [← List.map_take] at h
    exact h⟩
theorem Ow.set {H A : AH} {own : List OQ} {prot : Nat → Prop} (h : Ow H A own prot) {k e cap i : Nat} {base : Option Addr} {R : List (List Value)} {x : Value} (hk : own[k]? = some (e, base, cap, R)) (hi : i < R.length) (hx : scal x = true) :
    ∃ b A', base = some ⟨b, 0, none⟩ ∧ A.wrs b i [x] = some A' ∧ Ow H A' (own.set k (e, base, cap, R.set i [x])) prot ∧ Keep A A' (exB base) ∧ ∀ y, prot y → ¬ exB base y := by
  have hO := h.ow k _ hk
  rcases hO.at_ with ⟨_, h2, _⟩ | ⟨b, bs, h1, hf, hbs, hfr⟩
  · dsimp only at h2; rw [h2] at hi; simp at hi
  dsimp only at h1 hf hbs hfr hO
  subst h1
  have hlen : R.flatten.length = R.length := by rw [flat_len hO.rows, Nat.mul_one]
  have hfl : lput R.flatten i [x] = (R.set i [x]).flatten := by have := flat_lput hO.rows i [x] hi rfl; rwa [Nat.mul_one] at this
  have hlr : R.length ≤ bs := Nat.le_trans (by have := hO.le; omega) hbs
  obtain ⟨A', hA⟩ : ∃ A', A.set b (.cells (R.set i [x]).flatten e bs) = A' := ⟨_, rfl⟩
  have hw : A.wrs b i [x] = some A' := by
    unfold AH.wrs
    rw [hf]
    simp only
    rw [if_pos ⟨by rw [hlen]; exact hi, by rw [hlen]; exact hlr, by simp [hx]⟩, hfl, hA]
  have hK : Keep A A' (exB (some ⟨b, 0, none⟩)) := (hA ▸ Keep.set (b := b)).mono fun y hy => exB_some.2 hy
  have hf' : A'.find b = some (.cells (R.set i [x]).flatten e bs) := by rw [← hA, find_set, if_pos rfl]
  have hO' : OwnS H A' e 1 (some ⟨b, 0, none⟩) cap (R.set i [x]) := ⟨fun r hr => by
    rcases List.mem_or_eq_of_mem_set hr with h2 | h2
    · exact hO.rows r h2
    · rw [h2]; rfl, by rw [List.length_set]; exact hO.le, by rw [List.length_set]; exact hO.big, .inr ⟨b, bs, rfl, hf', hbs, hfr⟩⟩
  have hKH : Keep H A' fun _ => False := h.kp.ow hK fun y hy => by rw [exB_some] at hy; subst hy; exact hfr
  obtain ⟨g1, g2⟩ := h.step hk hO' hK hKH fun y _ hy => hy
  exact ⟨b, A', rfl, hw, g1, hK, g2⟩
theorem trues_set (B : List Bool) {i : Nat} (hi : i < B.length) : ((List.replicate i true ++ B.drop i).map encB1).set i [.bool true] = (List.replicate (i + 1) true ++ B.drop (i + 1)).map encB1 := by
  rw [show ([.bool true] : List Value) = encB1 true from rfl, ← List.map_set]
  congr 1
  apply List.ext_getElem?
  intro q
  rw [List.getElem?_set, List.getElem?_append, List.getElem?_append]
  simp only [List.length_append, List.length_replicate, List.length_drop, List.getElem?_replicate, List.getElem?_drop]
  by_cases e : i = q
  · subst e
    rw [if_pos rfl, if_pos (by omega), if_pos (by omega)]
    simp
  · rw [if_neg e]
    by_cases h1 : q < i
    · rw [if_pos h1, if_pos (by omega)]; simp [h1, show q < i + 1 by omega]
    · rw [if_neg h1, if_neg (by omega)]
      congr 1; omega
theorem sender_some {T : List Tb} (h : (tabs T).2 = 0) {t : Tb} (ht : t ∈ T) {y : En} (hy : y ∈ t.2.2) (h2 : y.1 = 2) : ∃ n x, sndO y.2.1 0 T = some (n, x) := by
  have hb : Chk.bad T 9 = none := by
    cases h9 : Chk.bad T 9 with
    | none => rfl
    | some n =>
      exfalso
      unfold tabs at h
      rw [h9] at h
      split at h
      · cases h
      · split at h
        · cases h
        · cases h
  obtain ⟨i, hi⟩ := List.mem_iff_getElem?.1 ht
  rw [Chk.bad, List.find?_range_eq_none] at hb
  have := hb i (Go.AX.lt_of_get hi)
  have hf : Chk.fitB T i 9 = true := by simpa using this
  have hr : Chk.rowT T i = t.2.2 := by simp [Chk.rowT, hi]
  rw [Chk.fitB, if_neg (by decide), if_neg (by decide), hr, Bool.not_eq_true', List.any_eq_false] at hf
  have hg := hf y hy
  simp only [Chk.gap, h2, decide_true, Bool.true_and, decide_eq_true_eq] at hg
  cases hs : sndO y.2.1 0 T with
  | some z => exact ⟨z.1, z.2, rfl⟩
  | none => simp [sN, hs] at hg
theorem good_rec {x : En} (h : Chk.goodE x = true) (h4 : x.1 ≠ 4) : 1 ≤ x.2.2.2.1 := by
  obtain ⟨k, s, f, r, b⟩ := x
  dsimp only at h4
  rw [Chk.goodE, if_neg h4] at h
  simp only [Bool.and_eq_true, decide_eq_true_eq] at h
  have := h.1.2
  simp only [Chk.placeB, decide_eq_true_eq] at this
  exact this.2.2.2.2.1
theorem whole_node {XS : List (List Nf)} {T : List Tb} {B : List Bool} (hBt : ∀ b ∈ B, b = true) (hl : T.length = B.length) (hX : ∀ X ∈ XS, OkX X) (h0 : TOk T) {k : Int} (hk : 1 ≤ k ∧ k ≤ 16) {m : Nat} (hm : m < 9) {t : Tb} (ht : t ∈ T) {X : List Nf} {den : Int} {v : Rc} {p : Pl} (hv : getW X p.1 p.2 = some v)
    (h : (waF (sentO XS T) k p t.2.2 ⟨v, false, false⟩).runs = false) :
    getW (app t.2.2 (hdP XS T B []) X den).1 p.1 p.2 = some (waF (sentO XS T) k p t.2.2 ⟨v, false, false⟩).v ∧
    getW (app t.2.2 (hdP XS T B [(k, (2 : Int) ^ (m + 1))]) X den).1 p.1 p.2 = some (if (waF (sentO XS T) k p t.2.2 ⟨v, false, false⟩).hit = true then v else (waF (sentO XS T) k p t.2.2 ⟨v, false, false⟩).v) := by
  refine whole (fun x hx hp => ?_) (fun x hx h2 => ?_) ?_ hv h
  · obtain ⟨g1, g2⟩ := mayB_good (h0 t ht) hx
    have := good_rec g1 g2
    simp only [isP, Bool.and_eq_true, decide_eq_true_eq] at hp
    have e : x.2.2.2.1 = p.2 := congrArg Prod.snd hp.2
    omega
  · obtain ⟨g1, g2⟩ := mayB_good (h0 t ht) hx
    have hs := good_slot g1 g2
    refine ⟨?_, fun hne => ?_⟩
    · rw [hdP, if_pos hs]
      exact heard_all hBt hl hX [] _ fun b _ _ => rfl
    · rw [hdP, if_pos hs]
      refine heard_all hBt hl hX _ _ fun b _ _ => ?_
      show flipS _ _ _ = _
      rw [flipS, if_neg fun e => hne e.symm]
  · rw [hdP, if_pos hk]
    exact heard_turned hX m hm k
theorem waF_step {sent : Hd} {k : Int} {p : Pl} {L : List En} {m : Nat} {y : En} (hy : L[m]? = some y) (w : Wa) : waF sent k p (L.take (m + 1)) w = waE sent k p (waF sent k p (L.take m) w) y := by
  rw [waF, waF, List.take_add_one, hy, List.foldl_append]; rfl
theorem slot_eq : ∀ s : Fin 256, IntKind.i64.wrap (1 + IntKind.i64.wrap ((s.val : Int).tmod 16)) = ((s.val % 16 + 1 : Nat) : Int) := by decide +kernel
theorem mask_eq : ∀ b : Fin 256, IntKind.i64.wrap (1 * 2 ^ min (IntKind.u64.wrap (IntKind.u8.wrap (1 + (b.val : Int).tmod 9))).toNat 64) = (2 : Int) ^ (b.val % 9 + 1) := by decide +kernel
theorem PartWhole_c (C : List Ce) (base : Option Addr) (cap : Nat) (slot bit : Int) (h1 : 0 ≤ slot ∧ slot < 256) (h2 : 0 ≤ bit ∧ bit < 256) (H : AH) (hE : ErrT H.w0) (hs : SlcIn H 4 base cap (C.map encC)) (hin : ∀ c ∈ C, CeIn H c) :
    ACalls Tryz.prog 5 #[.slice base C.length cap, .int .u8 slot, .int .u8 bit] H (fun v H' => v = .bool true ∧ H = H') := by
  refine ACalls.enter2 Tryz.func5 rfl Tryz.ntmps5 Tryz.results5 (by simp) ?_; simp (dsimp := false) (maxSteps := 4000000) only [enc_len, enc_scal, lput_enc, take_enc, encE_len, encE_scal, encE_z5, encE_take, go_sem]
  refine (build_c C base cap H hs hin).mono ?_
  rintro _ A1 ⟨w, rfl, prot, hO, hPr, hb⟩
  have hl0 : w.B.length = w.S.length := by rw [hb.b, hb.s, List.length_map, List.length_take]; omega
  simp (dsimp := false) (maxSteps := 4000000) only [enc_len, enc_scal, lput_enc, take_enc, encE_len, encE_scal, encE_z5, encE_take, go_sem]
  refine AWp.loopr (ι := Nat) (fun i A => i ≤ w.B.length ∧ Ow H A (Bd.own { w with B := List.replicate i true ++ w.B.drop i }) prot ∧ P2 A prot w.S w.R)
    (fun i => [(11, .int .i64 i), (7, .slice w.b1 w.S.length w.c1), (9, .slice w.b3 w.T.length w.c3), (10, .slice w.b4 w.B.length w.c4), (1, .int .u8 slot), (2, .int .u8 bit)]) (fun i => w.B.length - i) 0 A1 ⟨by simp, by simpa using hO, hPr⟩ (FrLe.of_lks ?_) (AH.le_refl _) fun i A hV Q again out => ?_
  · simp (dsimp := false) (maxSteps := 4000000) only [enc_len, enc_scal, lput_enc, take_enc, encE_len, encE_scal, encE_z5, encE_take, go_sem]
  clear hO hPr
  obtain ⟨hi, hO, hPr⟩ := hV
  by_cases hlt : (i : Int) < w.B.length
  case pos =>
    obtain ⟨b, A', hb4, hw, hO', hK, hp⟩ := hO.set (k := 3) (i := i) (x := .bool true) rfl (by simp; omega) rfl
    have ee := i64_succ (i := i) (by have := (hO.ow 3 _ rfl).big; simp at this; omega)
    have hi0 : (0 : Int) ≤ (i : Int) := by omega
    dsimp only at hb4
    rw [trues_set _ (by omega)] at hO'
    simp (dsimp := false) (maxSteps := 4000000) only [hlt, hi0, hb4, hw, ee, enc_len, enc_scal, lput_enc, take_enc, encE_len, encE_scal, encE_z5, encE_take, go_sem]
    exact again (i + 1) _ A' _ ⟨by omega, hO', hPr.keep hK hp⟩ (FrLe.of_lks (by simp (dsimp := false) (maxSteps := 4000000) only [hb4, enc_len, enc_scal, lput_enc, take_enc, encE_len, encE_scal, encE_z5, encE_take, go_sem])) (AH.le_refl _) (by omega)
  obtain rfl : i = w.B.length := by omega
  simp (dsimp := false) (maxSteps := 4000000) only [hlt, enc_len, enc_scal, lput_enc, take_enc, encE_len, encE_scal, encE_z5, encE_take, go_sem]
  refine out _ _ _ (by simp) ?_
  clear again out
  
  have hB : SlcIn A 1 w.b4 w.c4 ((List.replicate w.S.length true).map encB1) := by
    have := (hO.ow 3 _ rfl).slc
    rw [List.drop_length, List.append_nil, hl0] at this
    exact this
  have hT := tab_in (w := { w with B := List.replicate w.B.length true ++ w.B.drop w.B.length }) hin hO hb.t
  have hS : StsIn A w.b1 w.c1 w.S := ⟨(hO.ow 0 _ rfl).slc, fun s h => (hPr.1 s h).1⟩
  have hE1 : ErrT A.w0 := by rw [hO.kp.w0]; exact hE
  have kH := hO.kp
  have hl1 : w.T.length = w.S.length := by rw [hb.t, hb.s, List.length_map, List.length_take]; omega
  have hl3 : w.S.length ≤ 32 := by rw [hb.s]; omega
  dsimp only at hT
  rw [hl0]
  have hlr : w.R.length = w.S.length := by rw [hb.r, hb.s]
  have hx : ∀ s ∈ w.S, s.den = 0 := fun s h => by
    obtain ⟨i, hi⟩ := List.mem_iff_getElem?.1 h
    obtain ⟨r, hr⟩ := get_some (l := w.R) (i := i) (by have := Go.AX.lt_of_get hi; omega)
    exact (hb.x i s r hi hr).2.1
  clear hPr hO hb hl0 hlr hlt hi hin hs
  obtain ⟨wb1, wc1, S, wb2, wc2, R, wb3, wc3, T, wb4, wc4, B⟩ := w
  dsimp only at hB hT hS hl1 hl3 hx ⊢
  clear wb2 wc2 R B
  obtain ⟨B, hBe⟩ : ∃ B, List.replicate S.length true = B := ⟨_, rfl⟩
  have hl2 : B.length = S.length := by rw [← hBe, List.length_replicate]
  have hBt : ∀ b ∈ B, b = true := fun b hb => by rw [← hBe] at hb; exact (List.mem_replicate.1 hb).2
  rw [hBe] at hB
  clear hBe
  simp (dsimp := false) (maxSteps := 4000000) only [enc_len, enc_scal, lput_enc, take_enc, encE_len, encE_scal, encE_z5, encE_take, go_sem]
  obtain ⟨k, hk⟩ : ∃ k : Int, IntKind.i64.wrap (1 + IntKind.i64.wrap (slot.tmod 16)) = k := ⟨_, rfl⟩
  have hk1 : 1 ≤ k ∧ k ≤ 16 := by
    have := slot_eq ⟨slot.toNat, by omega⟩
    dsimp only at this
    rw [show ((slot.toNat : Nat) : Int) = slot by omega, hk] at this
    omega
  obtain ⟨m, hm, hmk⟩ : ∃ m : Nat, m < 9 ∧ IntKind.i64.wrap (1 * 2 ^ min (IntKind.u64.wrap (IntKind.u8.wrap (1 + bit.tmod 9))).toNat 64) = (2 : Int) ^ (m + 1) := by
    have := mask_eq ⟨bit.toNat, by omega⟩
    dsimp only at this
    rw [show ((bit.toNat : Nat) : Int) = bit by omega] at this
    exact ⟨bit.toNat % 9, Nat.mod_lt _ (by decide), this⟩
  have hR1 := Round_c S T B [] wb1 wb3 wb4 none wc1 wc3 wc4 0 A hE1 hS hT hB SlcIn.nil hl1 hl2 hl3
  rw [hl2] at hR1
  refine hR1.mono ?_
  rintro _ A2 ⟨zb, zc, SA, rfl, hz0, hzv, hSA, hK2, _⟩
  clear hR1
  simp (dsimp := false) (maxSteps := 4000000) only [hk, hmk, enc_len, enc_scal, lput_enc, take_enc, encE_len, encE_scal, encE_z5, encE_take, go_sem]
  refine AllB.mk fun bs h_bs => ?_; have hn_bs := h_bs; (try simp only [fresh_add, fresh_set, ne_eq] at hn_bs); have hr_bs := hn_bs; (try simp only [@eq_comm Nat bs] at hr_bs); simp (dsimp := false) (maxSteps := 4000000) only [enc_len, enc_scal, lput_enc, take_enc, encE_len, encE_scal, encE_z5, encE_take, hn_bs, hr_bs, go_sem]
  have k2 : Keep A (A2.add bs (.cells [encP (k, (2 : Int) ^ (m + 1))].flatten 68 2)) fun _ => False := hK2.nw h_bs
  have hSA2 := hSA.keep (Keep.add (k := .cells [encP (k, (2 : Int) ^ (m + 1))].flatten 68 2) h_bs)
  have hR2 := Round_c S T B [(k, (2 : Int) ^ (m + 1))] wb1 wb3 wb4 (some ⟨bs, 0, none⟩) wc1 wc3 wc4 1 _ (by rw [k2.w0]; exact hE1) (hS.keep k2) (hT.keep k2) (hB.keep k2 fun _ _ h => h) (SlcIn.own (R := [encP (k, (2 : Int) ^ (m + 1))]) (by simp [encP]) (by simp) (by simp)) hl1 hl2 hl3
  rw [hl2] at hR2
  refine hR2.mono ?_
  rintro _ A3 ⟨yb, yc, SB, rfl, hy0, hyv, hSB, hK3, _⟩
  have k3 : Keep A A3 fun _ => False := k2.trans hK3
  have hS := hS.keep k3
  have hT := hT.keep k3
  have hSA := hSA2.keep hK3
  have hE3 : ErrT A3.w0 := by rw [k3.w0]; exact hE1
  have kH3 := kH.trans k3
  clear hR2 h_bs hn_bs hr_bs k2 hSA2 hK2 hK3 hE1 hB hmk h1 h2 hE kH
  
  obtain ⟨Er, hEr⟩ : ∃ Er, rndE S.length T = Er := ⟨_, rfl⟩
  rw [hEr] at hz0 hzv hy0 hyv ⊢
  simp (dsimp := false) (maxSteps := 4000000) only [enc_len, enc_scal, lput_enc, take_enc, encE_len, encE_scal, encE_z5, encE_take, go_sem]
  by_cases h0 : Er = 0
  case neg =>
    have e1 := hz0 h0
    have e2 := hy0 h0
    subst e1 e2
    simp (dsimp := false) (maxSteps := 4000000) only [h0, enc_len, enc_scal, lput_enc, take_enc, encE_len, encE_scal, encE_z5, encE_take, go_sem]
    refine (awake_c A3 hE3).mono ?_
    rintro _ _ ⟨rfl, rfl⟩
    simp (dsimp := false) (maxSteps := 4000000) only [List.length_nil, enc_len, enc_scal, lput_enc, take_enc, encE_len, encE_scal, encE_z5, encE_take, go_sem]
    exact ⟨H, kH3.all, rfl⟩
  subst h0
  obtain ⟨hla, hzv⟩ := hzv rfl
  obtain ⟨hlb, hyv⟩ := hyv rfl
  have hlaI : (SA.length : Int) = S.length := by omega
  have hlbI : (SB.length : Int) = S.length := by omega
  have h0 : (tabs T).2 = 0 := by
    unfold rndE at hEr
    split at hEr
    · cases hEr
    · exact hEr
  have ht : TOk T := tok_of h0
  have hX : ∀ X ∈ S.map (·.X), OkX X := fun X h => by
    obtain ⟨s, hs, rfl⟩ := List.mem_map.1 h
    exact (hS.inn s hs).2
  obtain ⟨XS, hXS⟩ : ∃ XS, S.map (·.X) = XS := ⟨_, rfl⟩
  rw [hXS] at hzv hyv hX
  clear hz0 hy0 hEr
  simp (dsimp := false) (maxSteps := 4000000) only [hlaI, hlbI, enc_len, enc_scal, lput_enc, take_enc, encE_len, encE_scal, encE_z5, encE_take, go_sem]
  refine AWp.loopr (ι := Nat) (fun i X => i ≤ S.length ∧ Keep A3 X fun _ => False)
    (fun i => [(17, .int .i64 i), (13, .slice zb SA.length zc), (15, .slice yb SB.length yc), (12, .int .i64 k), (7, .slice wb1 S.length wc1), (9, .slice wb3 T.length wc3)]) (fun i => S.length - i) 0 A3
    ⟨by simp, Keep.refl⟩ (FrLe.of_lks ?_) (AH.le_refl _) fun i X hV Q again out => ?_
  · simp (dsimp := false) (maxSteps := 4000000) only [hk, enc_len, enc_scal, lput_enc, take_enc, encE_len, encE_scal, encE_z5, encE_take, go_sem]
  obtain ⟨hi, hK⟩ := hV
  by_cases hlt : (i : Int) < S.length
  case neg =>
    obtain rfl : i = S.length := by omega
    simp (dsimp := false) (maxSteps := 4000000) only [hlt, enc_len, enc_scal, lput_enc, take_enc, encE_len, encE_scal, encE_z5, encE_take, go_sem]
    refine out _ _ _ (by simp) ?_
    simp (dsimp := false) (maxSteps := 4000000) only [enc_len, enc_scal, lput_enc, take_enc, encE_len, encE_scal, encE_z5, encE_take, go_sem]
    refine (awake_c X (by rw [hK.w0]; exact hE3)).mono ?_
    rintro _ _ ⟨rfl, rfl⟩
    simp (dsimp := false) (maxSteps := 4000000) only [enc_len, enc_scal, lput_enc, take_enc, encE_len, encE_scal, encE_z5, encE_take, go_sem]
    exact ⟨H, (kH3.trans hK).all, rfl⟩
  obtain ⟨s, hsi⟩ := get_some (l := S) (i := i) (by omega)
  obtain ⟨⟨tb, tc, L⟩, hti⟩ := get_some (l := T) (i := i) (by omega)
  obtain ⟨oa, hai⟩ := get_some (l := SA) (i := i) (by omega)
  obtain ⟨ob, hbi⟩ := get_some (l := SB) (i := i) (by omega)
  obtain ⟨lv, hli⟩ := get_some (l := B) (i := i) (by omega)
  obtain rfl : lv = true := hBt lv (List.mem_of_getElem? hli)
  obtain ⟨pa, _⟩ := hzv i s _ true oa hsi hti hli hai
  obtain ⟨pb, _⟩ := hyv i s _ true ob hsi hti hli hbi
  simp only [outP, if_true] at pa pb
  have hmem : ((tb, tc, L) : Tb) ∈ T := List.mem_of_getElem? hti
  have ks := hS.inn s (List.mem_of_getElem? hsi)
  have ka := hSA.inn oa (List.mem_of_getElem? hai)
  have kb := hSB.inn ob (List.mem_of_getElem? hbi)
  have hi0 : (0 : Int) ≤ (i : Int) := by omega
  have hia : (i : Int) < SA.length := by omega
  have hib : (i : Int) < SB.length := by omega
  have hit : (i : Int) < T.length := by omega
  have eei := i64_succ (i := i) (by omega)
  obtain ⟨q1, j1, rfl, _, a1⟩ := (hS.keep hK).out.get (Go.AX.map_get (f := encS) hsi)
  have a1 := a1 0 _ rfl
  simp only [Nat.add_zero, Nat.mul_one] at a1
  simp (dsimp := false) (maxSteps := 4000000) only [hlt, hi0, a1, enc_len, enc_scal, lput_enc, take_enc, encE_len, encE_scal, encE_z5, encE_take, go_sem]
  refine (Files_c (ks.1.keep hK fun _ _ h => h) ks.2).mono ?_
  rintro _ D ⟨eb, ec, Z, rd, rfl, hz1, hs1, hN1, hKa, _⟩
  have kD := hK.trans hKa
  have hSD := hS.keep kD
  have hTD := hT.keep kD
  have hinL := hTD.inn _ hmem
  obtain ⟨q2, j2, rfl, _, a2⟩ := (hSA.keep kD).out.get (Go.AX.map_get (f := encS) hai)
  obtain ⟨q3, j3, rfl, _, a3⟩ := (hSB.keep kD).out.get (Go.AX.map_get (f := encS) hbi)
  obtain ⟨q4, j4, rfl, _, a4⟩ := hTD.out.get (Go.AX.map_get (f := encT) hti)
  have a2 := a2 0 _ rfl
  have a3 := a3 0 _ rfl
  have a4 := a4 0 _ rfl
  simp only [Nat.add_zero, Nat.mul_one] at a2 a3 a4
  have hga := fun {A' : AH} (h : Keep D A' fun _ => False) => Get_c (ka.1.keep (kD.trans h) fun _ _ h => h) ka.2
  have hgb := fun {A' : AH} (h : Keep D A' fun _ => False) => Get_c (kb.1.keep (kD.trans h) fun _ _ h => h) kb.2
  clear a1
  have hZbig := hN1.out.big
  have hLbig := hinL.big
  simp only [List.length_map] at hZbig hLbig
  simp (dsimp := false) (maxSteps := 4000000) only [enc_len, enc_scal, lput_enc, take_enc, encE_len, encE_scal, encE_z5, encE_take, go_sem]
  refine AWp.loopo (ι := Nat) (fun c => c ≤ Z.length) (fun c => [(19, .int .i64 c), (18, .slice eb Z.length ec), (17, .int .i64 i), (13, .slice (some ⟨q2, j2, none⟩) SA.length zc), (15, .slice (some ⟨q3, j3, none⟩) SB.length yc), (12, .int .i64 k), (7, .slice (some ⟨q1, j1, none⟩) S.length wc1), (9, .slice (some ⟨q4, j4, none⟩) T.length wc3)]) (fun _ => D) (fun c => Z.length - c) 0 (by omega) (FrLe.of_lks ?_) (AH.le_refl _) fun c hc Q2 again2 out2 => ?_
  · simp (dsimp := false) (maxSteps := 4000000) only [enc_len, enc_scal, lput_enc, take_enc, encE_len, encE_scal, encE_z5, encE_take, go_sem]
  by_cases hlt2 : (c : Int) < Z.length
  case neg =>
    obtain rfl : c = Z.length := by omega
    simp (dsimp := false) (maxSteps := 4000000) only [hlt2, enc_len, enc_scal, lput_enc, take_enc, encE_len, encE_scal, encE_z5, encE_take, go_sem]
    refine out2 _ _ _ (by simp) ?_
    simp (dsimp := false) (maxSteps := 4000000) only [eei, enc_len, enc_scal, lput_enc, take_enc, encE_len, encE_scal, encE_z5, encE_take, go_sem]
    exact again (i + 1) _ D _ ⟨by omega, kD⟩ (FrLe.of_lks (by simp (dsimp := false) (maxSteps := 4000000) only [enc_len, enc_scal, lput_enc, take_enc, encE_len, encE_scal, encE_z5, encE_take, go_sem])) (AH.le_refl _) (by omega)
  obtain ⟨⟨zn, zp, zbs, zcp, zR⟩, hzc⟩ := get_some (l := Z) (i := c) (by omega)
  have hzm := List.mem_of_getElem? hzc
  have hzin := hN1.inn _ hzm
  obtain ⟨q5, j5, rfl, _, a5⟩ := hN1.out.get (Go.AX.map_get (f := encN) hzc)
  have b0 := a5 0 _ rfl
  have b2 := a5 2 _ rfl
  dsimp only at hzin b0 b2
  simp only [Nat.add_zero] at b0
  have hc0 : (0 : Int) ≤ (c : Int) := by omega
  have eec := i64_succ (i := c) (by omega)
  have hlk : lk zn s.X = some (zp, zR) := lk_mem (ks.2.kd) (hz1.mem_iff.1 (List.mem_map.2 ⟨_, hzm, rfl⟩))
  have hzbig := hzin.big
  simp only [List.length_map] at hzbig
  simp (dsimp := false) (maxSteps := 4000000) only [hlt2, enc_len, enc_scal, lput_enc, take_enc, encE_len, encE_scal, encE_z5, encE_take, go_sem]
  refine AWp.loopo (ι := Nat) (fun j => j ≤ zR.length) (fun j => [(20, .int .i64 j), (19, .int .i64 c), (18, .slice (some ⟨q5, j5, none⟩) Z.length ec), (17, .int .i64 i), (13, .slice (some ⟨q2, j2, none⟩) SA.length zc), (15, .slice (some ⟨q3, j3, none⟩) SB.length yc), (12, .int .i64 k), (7, .slice (some ⟨q1, j1, none⟩) S.length wc1), (9, .slice (some ⟨q4, j4, none⟩) T.length wc3)]) (fun _ => D) (fun j => zR.length - j) 0 (by omega) (FrLe.of_lks ?_) (AH.le_refl _) fun j hj Q3 again3 out3 => ?_
  · simp (dsimp := false) (maxSteps := 4000000) only [enc_len, enc_scal, lput_enc, take_enc, encE_len, encE_scal, encE_z5, encE_take, go_sem]
  by_cases hlt3 : (j : Int) < zR.length
  case neg =>
    obtain rfl : j = zR.length := by omega
    simp (dsimp := false) (maxSteps := 4000000) only [hlt2, hc0, b2, hlt3, enc_len, enc_scal, lput_enc, take_enc, encE_len, encE_scal, encE_z5, encE_take, go_sem]
    refine out3 _ _ _ (by simp) ?_
    simp (dsimp := false) (maxSteps := 4000000) only [eec, enc_len, enc_scal, lput_enc, take_enc, encE_len, encE_scal, encE_z5, encE_take, go_sem]
    exact again2 (c + 1) _ D (by omega) (FrLe.of_lks (by simp (dsimp := false) (maxSteps := 4000000) only [enc_len, enc_scal, lput_enc, take_enc, encE_len, encE_scal, encE_z5, encE_take, go_sem])) (AH.le_refl _) (by omega)
  obtain ⟨v, hvj⟩ := get_some (l := zR) (i := j) (by omega)
  obtain ⟨q6, j6, rfl, w6, _⟩ := hzin.get (Go.AX.map_get (f := enc) hvj)
  have hj0 : (0 : Int) ≤ (j : Int) := by omega
  have eej := i64_succ (i := j) (by omega)
  have hgv : getW s.X zn j = some v := by rw [getW_eq hlk, if_neg (by omega)]; simpa using hvj
  simp (dsimp := false) (maxSteps := 4000000) only [hlt2, hc0, b2, hlt3, hj0, w6, enc_len, enc_scal, lput_enc, take_enc, encE_len, encE_scal, encE_z5, encE_take, go_sem]
  refine AllB.mk fun b21 h_b21 => ?_; have hn_b21 := h_b21; (try simp only [fresh_add, fresh_set, ne_eq] at hn_b21); have hr_b21 := hn_b21; (try simp only [@eq_comm Nat b21] at hr_b21); simp (dsimp := false) (maxSteps := 4000000) only [enc_len, enc_scal, lput_enc, take_enc, encE_len, encE_scal, encE_z5, encE_take, hn_b21, hr_b21, go_sem]
  refine AllB.mk fun b22 h_b22 => ?_; have hn_b22 := h_b22; (try simp only [fresh_add, fresh_set, ne_eq] at hn_b22); have hr_b22 := hn_b22; (try simp only [@eq_comm Nat b22] at hr_b22); simp (dsimp := false) (maxSteps := 4000000) only [enc_len, enc_scal, lput_enc, take_enc, encE_len, encE_scal, encE_z5, encE_take, hn_b21, hr_b21, hn_b22, hr_b22, go_sem]
  refine AllB.mk fun b23 h_b23 => ?_; have hn_b23 := h_b23; (try simp only [fresh_add, fresh_set, ne_eq] at hn_b23); have hr_b23 := hn_b23; (try simp only [@eq_comm Nat b23] at hr_b23); simp (dsimp := false) (maxSteps := 4000000) only [enc_len, enc_scal, lput_enc, take_enc, encE_len, encE_scal, encE_z5, encE_take, hn_b21, hr_b21, hn_b22, hr_b22, hn_b23, hr_b23, go_sem]
  obtain ⟨wv, okw, hgw, _, hw2⟩ := get_val (getW oa.X zn j)
  obtain ⟨uv, oku, hgu, _, hu2⟩ := get_val (getW ob.X zn j)
  have n21 : ¬ b21 = q5 := h_b21.ne_rd b0
  have n22 : ¬ b22 = q5 := hn_b22.2.ne_rd b0
  have n23 : ¬ b23 = q5 := hn_b23.2.2.ne_rd b0
  have m21 : ¬ b21 = q2 := h_b21.ne_rd a2
  have m22 : ¬ b22 = q2 := hn_b22.2.ne_rd a2
  have m23 : ¬ b23 = q2 := hn_b23.2.2.ne_rd a2
  have l21 : ¬ b21 = q3 := h_b21.ne_rd a3
  have l22 : ¬ b22 = q3 := hn_b22.2.ne_rd a3
  have l23 : ¬ b23 = q3 := hn_b23.2.2.ne_rd a3
  have o21 : ¬ b21 = q4 := h_b21.ne_rd a4
  have o22 : ¬ b22 = q4 := hn_b22.2.ne_rd a4
  have o23 : ¬ b23 = q4 := hn_b23.2.2.ne_rd a4
  have p21 : ¬ b21 = q6 := h_b21.ne_row w6
  have p22 : ¬ b22 = q6 := hn_b22.2.ne_row w6
  have p23 : ¬ b23 = q6 := hn_b23.2.2.ne_row w6
  have kT : ∀ {k1 k2 k3 : ABlk}, Keep D (((D.add b21 k1).add b22 k2).add b23 k3) fun _ => False := fun {k1 k2 k3} => ((Keep.refl.nw h_b21).nw (by simp only [fresh_add, ne_eq, hn_b22, not_false_eq_true, and_self])).nw (by simp only [fresh_add, ne_eq, hn_b23, not_false_eq_true, and_self])
  have hgaj := fun {k1 k2 k3 : ABlk} => hga (kT (k1 := k1) (k2 := k2) (k3 := k3)) zn j
  have hgbj := fun {k1 k2 k3 : ABlk} => hgb (kT (k1 := k1) (k2 := k2) (k3 := k3)) zn j
  rw [hgw] at hgaj
  rw [hgu] at hgbj
  refine AWp.gen [.pu, .pu, .pu, .rd, .pu, .pu, .pu, .pu, .rd, .pu, .ch, .pu, .pu, .pu, .ch] [0, 0, 3, 7, 0, 0, 48, 112, 240, 0, 1023, 2047, 4095, 4095, 8191] 0 (_) mixed (by kernel_rfl) (AH.le_refl _) ?_
  simp (dsimp := false) (maxSteps := 4000000) only [hia, hi0, hlt2, hc0, a2, b0, n21, n22, n23, m21, m22, m23, enc_len, enc_scal, lput_enc, take_enc, encE_len, encE_scal, encE_z5, encE_take, hn_b21, hr_b21, hn_b22, hr_b22, hn_b23, hr_b23, go_sem]
  refine (hgaj).mono ?_; rintro _ _ ⟨rfl, rfl⟩
  simp (dsimp := false) (maxSteps := 4000000) only [enc_len, enc_scal, lput_enc, take_enc, encE_len, encE_scal, encE_z5, encE_take, hn_b21, hr_b21, hn_b22, hr_b22, hn_b23, hr_b23, go_sem]
  refine AWp.gen [.pu, .pu, .pu, .rd, .pu, .pu, .pu, .pu, .rd, .pu, .ch, .pu, .pu, .pu, .ch] [0, 0, 3, 7, 0, 0, 48, 112, 240, 0, 1023, 2047, 4095, 4095, 8191] 0 (_) mixed (by kernel_rfl) (AH.le_refl _) ?_
  simp (dsimp := false) (maxSteps := 4000000) only [hib, hi0, hlt2, hc0, a3, b0, n21, n22, n23, l21, l22, l23, enc_len, enc_scal, lput_enc, take_enc, encE_len, encE_scal, encE_z5, encE_take, hn_b21, hr_b21, hn_b22, hr_b22, hn_b23, hr_b23, go_sem]
  refine (hgbj).mono ?_; rintro _ _ ⟨rfl, rfl⟩
  simp (dsimp := false) (maxSteps := 4000000) only [enc_len, enc_scal, lput_enc, take_enc, encE_len, encE_scal, encE_z5, encE_take, hn_b21, hr_b21, hn_b22, hr_b22, hn_b23, hr_b23, go_sem]
  obtain ⟨W, hW⟩ : ∃ W : Nat → Wa, (fun c => waF (sentO XS T) k (zn, (j : Int)) (L.take c) ⟨v, false, false⟩) = W := ⟨_, rfl⟩
  have hWe : ∀ c, waF (sentO XS T) k (zn, (j : Int)) (L.take c) ⟨v, false, false⟩ = W c := fun c => congrFun hW c
  have hW0 : W 0 = ⟨v, false, false⟩ := by rw [← hWe]; rfl
  refine AWp.loopo (ι := Nat) (fun x => x ≤ L.length) (fun x => [(26, .int .i64 x), (24, .bool (W x).hit), (25, .bool (W x).runs), (21, .pointer (some ⟨b21, 0, none⟩)), (22, .pointer (some ⟨b22, 0, none⟩)), (23, .pointer (some ⟨b23, 0, none⟩)), (20, .int .i64 j), (19, .int .i64 c), (18, .slice (some ⟨q5, j5, none⟩) Z.length ec), (17, .int .i64 i), (13, .slice (some ⟨q2, j2, none⟩) SA.length zc), (15, .slice (some ⟨q3, j3, none⟩) SB.length yc), (12, .int .i64 k), (7, .slice (some ⟨q1, j1, none⟩) S.length wc1), (9, .slice (some ⟨q4, j4, none⟩) T.length wc3)])
    (fun x => ((D.add b21 (.cells (enc (W x).v) 26 4)).add b22 (.cells (enc wv) 26 4)).add b23 (.cells (enc uv) 26 4)) (fun x => L.length - x) 0 (by omega) (FrLe.of_lks ?_) (by rw [hW0]; exact AH.le_refl _) fun x hxl Q4 again4 out4 => ?_
  · simp (dsimp := false) (maxSteps := 4000000) only [hW0, enc_len, enc_scal, lput_enc, take_enc, encE_len, encE_scal, encE_z5, encE_take, hn_b21, hr_b21, hn_b22, hr_b22, hn_b23, hr_b23, go_sem]
  by_cases hlt4 : (x : Int) < L.length
  case pos =>
    obtain ⟨y, hy⟩ := get_some (l := L) (i := x) (by omega)
    have hWs : W (x + 1) = waE (sentO XS T) k (zn, (j : Int)) (W x) y := by rw [← hWe, ← hWe, waF_step hy]
    obtain ⟨⟨wr, wh, wn⟩, hwx⟩ : ∃ z, W x = z := ⟨_, rfl⟩
    have hyL := List.mem_of_getElem? hy
    rw [hwx] at hWs ⊢
    dsimp only
    obtain ⟨q7, j7, rfl, w7, _⟩ := hinL.get (Go.AX.map_get (f := encE) hy)
    have hx0 : (0 : Int) ≤ (x : Int) := by omega
    have eex := i64_succ (i := x) (by omega)
    have r21 : ¬ b21 = q7 := h_b21.ne_row w7
    have r22 : ¬ b22 = q7 := hn_b22.2.ne_row w7
    have r23 : ¬ b23 = q7 := hn_b23.2.2.ne_row w7
    obtain ⟨y0, y1, y2, y3, y4⟩ := y
    have eY : encE (y0, y1, y2, y3, y4) = [.int .i64 y0, .int .i64 y1, .int .i64 y2, .int .i64 y3, .int .i64 y4] := rfl
    rw [eY] at w7
    
    simp (dsimp := false) (maxSteps := 4000000) only [hi0, hit, a4, o21, o22, o23, hlt4, hx0, w7, r21, r22, r23, enc_len, enc_scal, lput_enc, take_enc, encE_len, encE_scal, encE_z5, encE_take, hn_b21, hr_b21, hn_b22, hr_b22, hn_b23, hr_b23, go_sem]
    refine AllB.mk fun b27 h_b27 => ?_; have hn_b27 := h_b27; (try simp only [fresh_add, fresh_set, ne_eq] at hn_b27); have hr_b27 := hn_b27; (try simp only [@eq_comm Nat b27] at hr_b27); simp (dsimp := false) (maxSteps := 4000000) only [enc_len, enc_scal, lput_enc, take_enc, encE_len, encE_scal, encE_z5, encE_take, hn_b21, hr_b21, hn_b22, hr_b22, hn_b23, hr_b23, hn_b27, hr_b27, go_sem]
    have n27 : ¬ b27 = q5 := hn_b27.2.2.2.ne_rd b0
    refine AWp.gen [.pu, .rd, .pu, .pu, .pu, .pu, .rd, .pu, .pu, .pu, .rd, .pu, .pu, .pu] [0, 1, 0, 0, 12, 28, 60, 127, 255, 511, 1023, 511, 4095, 8191] 0 (_) mixed (by kernel_rfl) (AH.le_refl _) ?_
    by_cases c1 : y2 = zn
    case' neg =>
      have e1 : W (x + 1) = ⟨wr, wh, wn⟩ := by rw [hWs, waE, if_pos fun e => c1 (congrArg Prod.fst e)]
      simp (dsimp := false) (maxSteps := 4000000) only [hlt2, hc0, b0, n21, n22, n23, n27, c1, eex, enc_len, enc_scal, lput_enc, take_enc, encE_len, encE_scal, encE_z5, encE_take, hn_b21, hr_b21, hn_b22, hr_b22, hn_b23, hr_b23, hn_b27, hr_b27, go_sem]
      exact again4 (x + 1) _ _ (by omega) (FrLe.of_lks (by simp (dsimp := false) (maxSteps := 4000000) only [e1, enc_len, enc_scal, lput_enc, take_enc, encE_len, encE_scal, encE_z5, encE_take, hn_b21, hr_b21, hn_b22, hr_b22, hn_b23, hr_b23, hn_b27, hr_b27, go_sem])) (by rw [e1]; exact AH.le_add (AH.le_refl _) h_b27.2) (by omega)
    by_cases c2 : y3 = (j : Int)
    case' neg =>
      have e1 : W (x + 1) = ⟨wr, wh, wn⟩ := by rw [hWs, waE, if_pos fun e => c2 (congrArg Prod.snd e)]
      simp (dsimp := false) (maxSteps := 4000000) only [hlt2, hc0, b0, n21, n22, n23, n27, c1, c2, eex, enc_len, enc_scal, lput_enc, take_enc, encE_len, encE_scal, encE_z5, encE_take, hn_b21, hr_b21, hn_b22, hr_b22, hn_b23, hr_b23, hn_b27, hr_b27, go_sem]
      exact again4 (x + 1) _ _ (by omega) (FrLe.of_lks (by simp (dsimp := false) (maxSteps := 4000000) only [e1, enc_len, enc_scal, lput_enc, take_enc, encE_len, encE_scal, encE_z5, encE_take, hn_b21, hr_b21, hn_b22, hr_b22, hn_b23, hr_b23, hn_b27, hr_b27, go_sem])) (by rw [e1]; exact AH.le_add (AH.le_refl _) h_b27.2) (by omega)
    have hpl : ¬ pl (y0, y1, y2, y3, y4) ≠ (zn, (j : Int)) := fun h => h (by simp [pl, c1, c2])
    rw [waE, if_neg hpl] at hWs
    dsimp only at hWs
    simp (dsimp := false) (maxSteps := 4000000) only [hlt2, hc0, b0, n21, n22, n23, n27, c1, c2, enc_len, enc_scal, lput_enc, take_enc, encE_len, encE_scal, encE_z5, encE_take, hn_b21, hr_b21, hn_b22, hr_b22, hn_b23, hr_b23, hn_b27, hr_b27, go_sem]
    by_cases k2 : y0 = 2
    case' neg =>
      rw [if_neg k2] at hWs
      obtain ⟨g3, e3⟩ : ∃ g, (y0 == 3) = g := ⟨_, rfl⟩
      rw [show decide (y0 = 3) = g3 from e3] at hWs
      cases wn <;> cases wh
      all_goals
        simp only [Bool.true_or, Bool.false_or] at hWs
        simp (dsimp := false) (maxSteps := 4000000) only [k2, e3, eex, enc_len, enc_scal, lput_enc, take_enc, encE_len, encE_scal, encE_z5, encE_take, hn_b21, hr_b21, hn_b22, hr_b22, hn_b23, hr_b23, hn_b27, hr_b27, go_sem]
        exact again4 (x + 1) _ _ (by omega) (FrLe.of_lks (by simp (dsimp := false) (maxSteps := 4000000) only [hWs, enc_len, enc_scal, lput_enc, take_enc, encE_len, encE_scal, encE_z5, encE_take, hn_b21, hr_b21, hn_b22, hr_b22, hn_b23, hr_b23, hn_b27, hr_b27, go_sem])) (by rw [hWs]; exact AH.le_add (AH.le_refl _) h_b27.2) (by omega)
    rw [if_pos k2] at hWs
    obtain ⟨sn, x', hso⟩ := sender_some h0 hmem hyL k2
    dsimp only at hso
    obtain ⟨t', _, htn', hxt', hsx'⟩ := snd_at hso
    rw [Nat.sub_zero] at htn'
    have hnT := Go.AX.lt_of_get htn'
    obtain ⟨s', hs'⟩ := get_some (l := S) (i := sn) (by omega)
    have ks' := hS.inn s' (List.mem_of_getElem? hs')
    obtain ⟨gd, g4⟩ := mayB_good (ht t' (List.mem_of_getElem? htn')) hxt'
    obtain ⟨_, hb0⟩ := good_byte gd g4
    obtain ⟨gd2, g42⟩ := mayB_good (ht _ hmem) hyL
    obtain ⟨_, hb02⟩ := good_byte gd2 g42
    dsimp only at hb02
    have eX : XS.getD sn [] = s'.X := by rw [← hXS, List.getD_eq_getElem?_getD, List.getElem?_map, hs']; rfl
    have esN : sN y1 T = sn := by rw [sN, hso]
    have esX : sX y1 T = x' := by rw [sX, hso]
    have est : sentO XS T y1 = (getW s'.X x'.2.2.1 x'.2.2.2.1).map fun v => byt v x'.2.2.2.2 := by rw [sentO, hso]; dsimp only; rw [eX]
    rw [est] at hWs
    obtain ⟨q8, j8, hq8, _, a8⟩ := hSD.out.get (Go.AX.map_get (f := encS) hs')
    cases hq8
    have a8 := a8 0 _ rfl
    simp only [Nat.add_zero, Nat.mul_one] at a8
    have s21 : ¬ b21 = q1 := h_b21.ne_rd a8
    have s22 : ¬ b22 = q1 := hn_b22.2.ne_rd a8
    have s23 : ¬ b23 = q1 := hn_b23.2.2.ne_rd a8
    have s27 : ¬ b27 = q1 := hn_b27.2.2.2.ne_rd a8
    have kT4 : ∀ {k1 k2 k3 k4 : ABlk}, Keep D ((((D.add b21 k1).add b22 k2).add b23 k3).add b27 k4) fun _ => False := fun {k1 k2 k3 k4} => kT.nw (by simp only [fresh_add, ne_eq, hn_b27, not_false_eq_true, and_self])
    have hrs := fun {k1 k2 k3 k4 : ABlk} => RefSender_c T (some ⟨q4, j4, none⟩) wc3 y1 _ (hTD.keep (kT4 (k1 := k1) (k2 := k2) (k3 := k3) (k4 := k4)))
    rw [esN, esX] at hrs
    have hn0 : (0 : Int) ≤ (sn : Int) := by omega
    have hn1 : ¬ (sn : Int) < 0 := by omega
    have hnS : (sn : Int) < S.length := by omega
    obtain ⟨z0, z1, z2, z3, z4⟩ := x'
    have eZ : encE (z0, z1, z2, z3, z4) = [.int .i64 z0, .int .i64 z1, .int .i64 z2, .int .i64 z3, .int .i64 z4] := rfl
    dsimp only at hWs hb0 est
    obtain ⟨gh, hgh⟩ : ∃ g, (y1 == k) = g := ⟨_, rfl⟩
    rw [show decide (y1 = k) = gh from hgh] at hWs
    cases wn <;> cases wh
    all_goals
      simp (dsimp := false) (maxSteps := 4000000) only [k2, hgh, enc_len, enc_scal, lput_enc, take_enc, encE_len, encE_scal, encE_z5, encE_take, hn_b21, hr_b21, hn_b22, hr_b22, hn_b23, hr_b23, hn_b27, hr_b27, go_sem]
      refine (hrs).mono ?_; rintro _ _ ⟨rfl, rfl⟩
      simp (dsimp := false) (maxSteps := 4000000) only [eZ, enc_len, enc_scal, lput_enc, take_enc, encE_len, encE_scal, encE_z5, encE_take, hn_b21, hr_b21, hn_b22, hr_b22, hn_b23, hr_b23, hn_b27, hr_b27, go_sem]
      
      refine AllB.mk fun b29 h_b29 => ?_; have hn_b29 := h_b29; (try simp only [fresh_add, fresh_set, ne_eq] at hn_b29); have hr_b29 := hn_b29; (try simp only [@eq_comm Nat b29] at hr_b29); simp (dsimp := false) (maxSteps := 4000000) only [enc_len, enc_scal, lput_enc, take_enc, encE_len, encE_scal, encE_z5, encE_take, hn_b21, hr_b21, hn_b22, hr_b22, hn_b23, hr_b23, hn_b27, hr_b27, hn_b29, hr_b29, go_sem]
      simp (dsimp := false) (maxSteps := 4000000) only [hn1, enc_len, enc_scal, lput_enc, take_enc, encE_len, encE_scal, encE_z5, encE_take, hn_b21, hr_b21, hn_b22, hr_b22, hn_b23, hr_b23, hn_b27, hr_b27, hn_b29, hr_b29, go_sem]
      refine AWp.gen [.pu, .pu, .pu, .rd, .pu, .rd, .pu, .rd, .ch, .pu, .pu, .pu, .al, .ch, .pu] [0, 0, 3, 7, 0, 16, 0, 64, 255, 511, 1023, 1023, 0, 6143, 16383] 0 (_) mixed (by kernel_rfl) (AH.le_refl _) ?_
      have s29 : ¬ b29 = q1 := hn_b29.2.2.2.2.ne_rd a8
      simp (dsimp := false) (maxSteps := 4000000) only [hn0, hnS, a8, s21, s22, s23, s27, s29, enc_len, enc_scal, lput_enc, take_enc, encE_len, encE_scal, encE_z5, encE_take, hn_b21, hr_b21, hn_b22, hr_b22, hn_b23, hr_b23, hn_b27, hr_b27, hn_b29, hr_b29, go_sem]
      refine (Get_c (ks'.1.keep (kD.trans ((kT4 (k1 := _) (k2 := _) (k3 := _) (k4 := _)).nw h_b29)) fun _ _ h => h) ks'.2 z2 z3).mono ?_
      rintro _ _ ⟨rfl, rfl⟩
      cases hgq : getW s'.X z2 z3 with
      | none =>
        rw [hgq] at hWs
        simp only [Option.map_none, Bool.true_or, Bool.false_or] at hWs
        
        simp only [getV]
        simp (dsimp := false) (maxSteps := 4000000) only [enc_len, enc_scal, lput_enc, take_enc, encE_len, encE_scal, encE_z5, encE_take, hn_b21, hr_b21, hn_b22, hr_b22, hn_b23, hr_b23, hn_b27, hr_b27, hn_b29, hr_b29, go_sem]
        refine AllB.mk fun b30 h_b30 => ?_; have hn_b30 := h_b30; (try simp only [fresh_add, fresh_set, ne_eq] at hn_b30); have hr_b30 := hn_b30; (try simp only [@eq_comm Nat b30] at hr_b30); simp (dsimp := false) (maxSteps := 4000000) only [enc_len, enc_scal, lput_enc, take_enc, encE_len, encE_scal, encE_z5, encE_take, hn_b21, hr_b21, hn_b22, hr_b22, hn_b23, hr_b23, hn_b27, hr_b27, hn_b29, hr_b29, hn_b30, hr_b30, go_sem]
        simp (dsimp := false) (maxSteps := 4000000) only [eex, enc_len, enc_scal, lput_enc, take_enc, encE_len, encE_scal, encE_z5, encE_take, hn_b21, hr_b21, hn_b22, hr_b22, hn_b23, hr_b23, hn_b27, hr_b27, hn_b29, hr_b29, hn_b30, hr_b30, go_sem]
        exact again4 (x + 1) _ _ (by omega) (FrLe.of_lks (by simp (dsimp := false) (maxSteps := 4000000) only [hWs, enc_len, enc_scal, lput_enc, take_enc, encE_len, encE_scal, encE_z5, encE_take, hn_b21, hr_b21, hn_b22, hr_b22, hn_b23, hr_b23, hn_b27, hr_b27, hn_b29, hr_b29, hn_b30, hr_b30, go_sem])) (by rw [hWs]; exact AH.le_add (AH.le_add (AH.le_add (AH.le_refl _) h_b27.2) h_b29.2) h_b30.2) (by omega)
        
      | some qv =>
        rw [hgq] at hWs
        simp only [Option.map_some, Bool.true_or, Bool.false_or] at hWs
        obtain ⟨yb', rfl⟩ : ∃ n : Nat, y4 = n := ⟨y4.toNat, by omega⟩
        obtain ⟨zb', rfl⟩ : ∃ n : Nat, z4 = n := ⟨z4.toNat, by omega⟩
        have e4 : (enc wr).set yb' (.int .u8 (byt qv (zb' : Int))) = enc (putB wr yb' (byt qv (zb' : Int))) := enc_putB wr _ yb' (by omega)
        have hrow : (enc qv)[zb']? = some (.int .u8 (byt qv (zb' : Int))) := by have := byt_row qv zb' (by omega); simpa using this
        have d0 : (0 : Int) ≤ (yb' : Int) := by omega
        have d1 : (yb' : Int) < 4 := by omega
        have d2 : (0 : Int) ≤ (zb' : Int) := by omega
        have d3 : (zb' : Int) < 4 := by omega
        have d4 : yb' ≤ 3 := by omega
        have d5 : zb' ≤ 3 := by omega
        
        simp only [getV]
        simp (dsimp := false) (maxSteps := 4000000) only [enc_len, enc_scal, lput_enc, take_enc, encE_len, encE_scal, encE_z5, encE_take, hn_b21, hr_b21, hn_b22, hr_b22, hn_b23, hr_b23, hn_b27, hr_b27, hn_b29, hr_b29, go_sem]
        refine AllB.mk fun b30 h_b30 => ?_; have hn_b30 := h_b30; (try simp only [fresh_add, fresh_set, ne_eq] at hn_b30); have hr_b30 := hn_b30; (try simp only [@eq_comm Nat b30] at hr_b30); simp (dsimp := false) (maxSteps := 4000000) only [enc_len, enc_scal, lput_enc, take_enc, encE_len, encE_scal, encE_z5, encE_take, hn_b21, hr_b21, hn_b22, hr_b22, hn_b23, hr_b23, hn_b27, hr_b27, hn_b29, hr_b29, hn_b30, hr_b30, go_sem]
        refine AWp.gen [.pu, .rd, .pu, .rd, .pu, .rd, .pu, .ch] [0, 1, 0, 4, 12, 28, 63, 127] 0 (_) mixed (by kernel_rfl) (AH.le_refl _) ?_
        simp (dsimp := false) (maxSteps := 4000000) only [d0, d1, d2, d3, d4, d5, hrow, e4, eex, enc_len, enc_scal, lput_enc, take_enc, encE_len, encE_scal, encE_z5, encE_take, hn_b21, hr_b21, hn_b22, hr_b22, hn_b23, hr_b23, hn_b27, hr_b27, hn_b29, hr_b29, hn_b30, hr_b30, go_sem]
        exact again4 (x + 1) _ _ (by omega) (FrLe.of_lks (by simp (dsimp := false) (maxSteps := 4000000) only [hWs, enc_len, enc_scal, lput_enc, take_enc, encE_len, encE_scal, encE_z5, encE_take, hn_b21, hr_b21, hn_b22, hr_b22, hn_b23, hr_b23, hn_b27, hr_b27, hn_b29, hr_b29, hn_b30, hr_b30, go_sem])) (by rw [hWs]; exact AH.le_add (AH.le_add (AH.le_add (AH.le_refl _) (by simp only [fresh_add, fresh_set, ne_eq, hn_b27, not_false_eq_true, and_self] : Fresh _ b27).2) (by simp only [fresh_add, fresh_set, ne_eq, hn_b29, not_false_eq_true, and_self] : Fresh _ b29).2) (by simp only [fresh_add, fresh_set, ne_eq, hn_b30, not_false_eq_true, and_self] : Fresh _ b30).2) (by omega)
        
      
    
  obtain rfl : x = L.length := by omega
  have hWL : W L.length = waF (sentO XS T) k (zn, (j : Int)) L ⟨v, false, false⟩ := by rw [← hWe, List.take_length]
  have hfin := fun hr => whole_node (XS := XS) (T := T) (B := B) hBt (by omega) hX ht hk1 hm hmem (X := s.X) (den := s.den) (v := v) (p := (zn, (j : Int))) hgv hr
  dsimp only at hfin
  rw [← hWL] at hfin
  obtain ⟨⟨wr, wh, wn⟩, hwx⟩ : ∃ z, W L.length = z := ⟨_, rfl⟩
  rw [hwx] at hfin ⊢
  dsimp only at hfin ⊢
  simp (dsimp := false) (maxSteps := 4000000) only [hi0, hit, a4, o21, o22, o23, hlt4, enc_len, enc_scal, lput_enc, take_enc, encE_len, encE_scal, encE_z5, encE_take, hn_b21, hr_b21, hn_b22, hr_b22, hn_b23, hr_b23, go_sem]
  refine out4 _ _ _ (by simp) ?_
  have kf : D.le (((D.add b21 (.cells (enc wr) 26 4)).add b22 (.cells (enc wv) 26 4)).add b23 (.cells (enc uv) 26 4)) := kT.all
  cases wn with
  | true =>
    simp (dsimp := false) (maxSteps := 4000000) only [eej, enc_len, enc_scal, lput_enc, take_enc, encE_len, encE_scal, encE_z5, encE_take, hn_b21, hr_b21, hn_b22, hr_b22, hn_b23, hr_b23, go_sem]
    exact again3 (j + 1) _ _ (by omega) (FrLe.of_lks (by simp (dsimp := false) (maxSteps := 4000000) only [enc_len, enc_scal, lput_enc, take_enc, encE_len, encE_scal, encE_z5, encE_take, hn_b21, hr_b21, hn_b22, hr_b22, hn_b23, hr_b23, go_sem])) kf (by omega)
  | false =>
    obtain ⟨f1, f2⟩ := hfin rfl
    rw [← getW_p pa ka.2.kd] at f1
    rw [← getW_p pb kb.2.kd] at f2
    obtain ⟨rfl, _⟩ := hw2 _ f1
    obtain ⟨hue, _⟩ := hu2 _ f2
    simp (dsimp := false) (maxSteps := 4000000) only [enc_len, enc_scal, lput_enc, take_enc, encE_len, encE_scal, encE_z5, encE_take, hn_b21, hr_b21, hn_b22, hr_b22, hn_b23, hr_b23, go_sem]
    refine AWp.gen [.rd, .rd, .pu, .pu, .pu, .pu, .pu, .rd, .rd, .pu, .pu, .pu, .pu, .pu, .pu, .rd, .pu, .pu, .pu, .pu, .pu, .rd, .pu, .pu, .rd, .pu, .pu, .pu] [0, 0, 3, 7, 15, 31, 63, 127, 127, 511, 1023, 2047, 4095, 8191, 16383, 32767, 32767, 32767, 229375, 491519, 1015807, 2064383, 32767, 8355839, 16744447, 33554431, 67108863, 134217727] 0 (_) mixed (by kernel_rfl) (AH.le_refl _) ?_
    cases wh with
    | true =>
      rw [if_pos rfl] at hue
      subst hue
      obtain ⟨w0, w1, w2, w3⟩ := wv
      obtain ⟨u0, u1, u2, u3⟩ := uv
      simp only [enc] at w6 ⊢
      simp (dsimp := false) (maxSteps := 4000000) only [hlt2, hc0, b2, n21, n22, n23, hlt3, hj0, w6, p21, p22, p23, eej, enc_len, enc_scal, lput_enc, take_enc, encE_len, encE_scal, encE_z5, encE_take, hn_b21, hr_b21, hn_b22, hr_b22, hn_b23, hr_b23, go_sem]
      exact again3 (j + 1) _ _ (by omega) (FrLe.of_lks (by simp (dsimp := false) (maxSteps := 4000000) only [enc_len, enc_scal, lput_enc, take_enc, encE_len, encE_scal, encE_z5, encE_take, hn_b21, hr_b21, hn_b22, hr_b22, hn_b23, hr_b23, go_sem])) kf (by omega)
    | false =>
      rw [if_neg (by decide)] at hue
      subst hue
      obtain ⟨w0, w1, w2, w3⟩ := uv
      simp only [enc] at w6 ⊢
      simp (dsimp := false) (maxSteps := 4000000) only [hlt2, hc0, b2, n21, n22, n23, hlt3, hj0, w6, p21, p22, p23, eej, enc_len, enc_scal, lput_enc, take_enc, encE_len, encE_scal, encE_z5, encE_take, hn_b21, hr_b21, hn_b22, hr_b22, hn_b23, hr_b23, go_sem]
      exact again3 (j + 1) _ _ (by omega) (FrLe.of_lks (by simp (dsimp := false) (maxSteps := 4000000) only [enc_len, enc_scal, lput_enc, take_enc, encE_len, encE_scal, encE_z5, encE_take, hn_b21, hr_b21, hn_b22, hr_b22, hn_b23, hr_b23, go_sem])) kf (by omega)
end Go.Proofs.YtamlipffhimfmaaGreatDoor.Prt

/- For every input PartWhole answers true and leaves its arguments as_ they were; the package's one variable holds what the program's text lays into it: the tied card. -/
namespace Go.Proofs.YtamlipffhimfmaaGreatDoor.lawPartWhole
set_option linter.unusedSimpArgs false
set_option linter.unusedVariables false
open Go Go.AX Go.ChangeShapes Go.WideShapes Go.ChangeAt Go.RowKit Go.Proofs.YtamlipffhimfmaaGreatDoor.Prt

theorem own : ownKnob Tryz.prog.godebug = none := by kernel_rfl
theorem laidOut : laidOutB Tryz.prog = true := by kernel_rfl
theorem et : Tryz.prog.globalNamed "errors.errorType" = some 0 := by kernel_rfl
theorem rt : (Tryz.prog.cutTypes.find? (·.1 == "internal/reflectlite.rtype")).map (·.2) = some 197 := by kernel_rfl
theorem oneRow : ((List.range Tryz.prog.types.size).filter fun t => Tryz.prog.rowNamed t [101, 114, 114, 111, 114]) = [113] := by kernel_rfl

theorem handle_of_laid {W : World} (h : laidMetH Tryz.prog Rows.partWholeRow.laid W) : Err.ErrT W := by
  have h' : laidMet Tryz.prog [] W ∧ handlesMet Tryz.prog Rows.partWholeRow.laid W := h
  obtain ⟨name, u, ty, e1, e2, e3, e4, e5⟩ := h'.2 _ (List.mem_singleton.2 rfl)
  have en : name = [101, 114, 114, 111, 114] := (Option.some.inj e1).symm
  subst en
  obtain rfl := Option.some.inj (rt.symm.trans e2)
  have hm : ty ∈ (List.range Tryz.prog.types.size).filter fun t => Tryz.prog.rowNamed t [101, 114, 114, 111, 114] := List.mem_filter.2 ⟨List.mem_range.2 e3, e4⟩
  rw [oneRow] at hm
  obtain rfl := List.mem_singleton.1 hm
  have hh : typeHandle Tryz.prog 113 = .pointer (some ⟨1, 113, none⟩) := by kernel_rfl
  rw [hh] at e5
  unfold Err.ErrT
  simpa using World.var?_cell et e5 0

noncomputable def laidWorld (os : Os) : World :=
  let w0 := World.holding Tryz.prog os ⟨#[], #[], []⟩
  { w0 with heap := w0.heap.modify 0 fun
      | .cells _ t frozen => .cells #[.iface 197 (.agg #[.pointer (some ⟨1, 113, none⟩)])] t frozen
      | o => o }
theorem laidWorld_met (os : Os) (args : Array Value) : laidMetH Tryz.prog Rows.partWholeRow.laid ((laidWorld os).forCall (fun _ _ => 0) ⟨#[], args, []⟩).memory :=
  laidMetH_of_parts (laidMet_nil _ _) (by kernel_rfl)

set_option maxRecDepth 100000 in
theorem contract (H : Type) (enc : TypeId × Value → H) (W : World) (base : Nat) (args : Array Value) (ds gs : List (DataW H)) (before : List MemPlace)
    (hval : ∀ (j : Nat) t v, Tryz.f5.params[j]? = some t → args[j]? = some v → Value.okWide Tryz.prog W .any base t v)
    (hW : DataW.Whole enc Tryz.prog Tryz.f5.params.toList Rows.partWholeSpec.vars false W args.toList ds gs before) (hE : Err.ErrT W) :
    Calls Tryz.prog 5 args W fun e W' => ∃ v, e = .returned v ∧ Rows.partWholeSpec.post enc Tryz.prog Tryz.f5 false true false false W args v W' := by
  have hW' := hW
  obtain ⟨p, q, hA0, hV, rfl, hfz, hnd⟩ := hW
  have hA : DataW.TrodAll enc Tryz.prog W 0 (fun _ => true) true Tryz.f5.params.toList args.toList ds p := hA0
  rw [Tryz.params5] at hA hval
  obtain ⟨v0, v1, v2, d0, d1, d2, p0, p1, p2, rfl, rfl, rfl, h0, h1, h2⟩ := trodAll_three hA
  obtain ⟨rfl, rfl⟩ := trodVars_none hV
  obtain ⟨k0, k1, k2⟩ := okw3 hval
  obtain ⟨bs0, n0, cp0, R0, rfl, hl0, hs0, hR0⟩ := open_slc (P := Tryz.prog) (sz := 4) Tryz.underlying57 (by kernel_rfl) (by simp) (show leafTs Tryz.prog 20 138 = some [22, 77, 4, 136] by kernel_rfl) rfl k0 h0
  obtain ⟨L0, rfl, hw0⟩ := rows_of (f := encC) (G := CeIn ⟨W, []⟩) (fun i r hr => by
    obtain ⟨hl, hc⟩ := hR0 i r hr
    exact open_cell hl hc)
  rw [List.length_map] at hl0; subst hl0
  obtain ⟨a1, rfl, rfl, rfl, w1⟩ := open_int Tryz.underlying5 k1 h1
  obtain ⟨a2, rfl, rfl, rfl, w2⟩ := open_int Tryz.underlying5 k2 h2
  exact law_post laidOut (by kernel_rfl) rfl rfl Tryz.underlying4 hW' rfl rfl rfl
    ((PartWhole_c L0 bs0 cp0 a1 a2 (u8_lt w1) (u8_lt w2) _ hE hs0 hw0).mono fun v H' h => ⟨h.1, h.2 ▸ rfl⟩)

set_option maxRecDepth 100000 in
theorem lifted (os : Os) (started : os.Started) (H : Type) (enc : TypeId × Value → H) :
    ReturnsInHanded {} Tryz.checked os 5 .any (fun w args => (Rows.partWholeSpec.pre enc Tryz.prog Tryz.f5 [] false w args ∧ laidMetH Tryz.prog Rows.partWholeRow.laid w) ∧ sizedMet enc Tryz.prog Tryz.f5 (OpenSpec.ofChange Rows.partWholeSpec) false w args)
      (Rows.partWholeSpec.post enc Tryz.prog Tryz.f5 false true false false) := by
  refine returnsInHanded_of_change_and (C := Tryz.checked) (X := fun w _ => laidMetH Tryz.prog Rows.partWholeRow.laid w) (fun _ _ _ hh h => h.of_heap hh) own started (by kernel_rfl) Tryz.func5
    (ChangeSpec.witness_at (enc := enc) (C := Tryz.checked) (os := os) (X := fun w _ => laidMetH Tryz.prog Rows.partWholeRow.laid w) false (laidWorld os) #[.slice none 0 0, .int .u8 0, .int .u8 0] 8 rfl (by kernel_rfl) (by kernel_rfl) (by kernel_rfl) (by kernel_rfl) (by kernel_rfl) (laidWorld_met os _)) ?_
  intro W base args ds gs before hval hW _ _ hL _
  exact contract H enc W base args ds gs before hval hW (handle_of_laid hL)

theorem row : Rows.PartWholeSaid :=
  OpenClaim.holds_of_wide 5 Tryz.f5 rfl rfl rfl rfl rfl rfl rfl ⟨rfl, rfl, rfl, rfl, rfl⟩ rfl rfl rfl rfl rfl (by kernel_rfl) Tryz.func5 (by kernel_rfl)
    (of_decide_eq_true (by kernel_rfl)) (by unfold Func.isWrapper; rw [if_neg (of_decide_eq_false (by kernel_rfl))]; exact ⟨rfl, rfl⟩)
    (fun os started H enc _ => lifted os started H enc)

theorem proved : Rows.PartWholeCardSaid :=
  Claim7.holds_tied_plain_at .later [] [.handle] true Rows.partWholeCard.stood.harness true
    row (fun _ h => by cases h) (by kernel_rfl) (fun _ h => by cases h) partWhole_row_tie rfl ⟨rfl, rfl⟩ (by kernel_rfl) rfl
    (fun f fn hf hfn => by
      obtain rfl : f = 5 := Option.some.inj ((show Tryz.prog.funcNamed "hayward/haywardlaw14.PartWhole" = some 5 by kernel_rfl).symm.trans hf) |>.symm
      obtain rfl : fn = Tryz.f5 := (Option.some.inj (Tryz.func5.symm.trans hfn)).symm
      exact ⟨by kernel_rfl, fun j t ht => by
          rw [Tryz.params5] at ht
          rcases j with _ | j
          · have : t = 57 := by simpa using ht.symm
            subst this; exact (show Tryz.prog.wantsStandIn 57 = false by kernel_rfl)
          rcases j with _ | j
          · have : t = 5 := by simpa using ht.symm
            subst this; exact (show Tryz.prog.wantsStandIn 5 = false by kernel_rfl)
          rcases j with _ | j
          · have : t = 5 := by simpa using ht.symm
            subst this; exact (show Tryz.prog.wantsStandIn 5 = false by kernel_rfl)
          · simp at ht⟩)
    (by kernel_rfl)

end Go.Proofs.YtamlipffhimfmaaGreatDoor.lawPartWhole
