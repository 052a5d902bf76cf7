/- ifs: what is alike in a store and in the reference's. -/
import Derived.Test.YtmkbpdlijfjgkaaDoorIfsD
import Derived.Test.YtmkbpdlijfjgkaaDoorIfs17
namespace Go.Proofs.YtmkbpdlijfjgkaaDoor.Ifs
set_option linter.unusedSimpArgs false
set_option linter.unusedVariables false
open Go Go.AX Go.Proofs Ty Go.Proofs.YtmkbpdlijfjgkaaDoor.File Go.Proofs.YtmkbpdlijfjgkaaDoor.Err
set_option maxHeartbeats 4000000
set_option maxRecDepth 10000

section
variable {X Y : List Nf} (hp : X.Perm Y) (hk : Kd X)
include hp hk
theorem addE_p (n : Int) (f : Fl) : addE X n f = addE Y n f := by rw [addE, addE, lk_perm hp hk]
theorem addX_p (n : Int) (f : Fl) : (addX X n f).Perm (if addE Y n f = 0 then ins n f Y else Y) := by
  rw [addX, addE_p hp hk]
  split
  · exact (hp.append_right _).trans ((List.perm_append_singleton _ _).trans (ins_perm n f Y).symm)
  · exact hp
theorem getW_p (n rec : Int) : getW X n rec = getW Y n rec := by rw [getW, getW, lk_perm hp hk]
theorem setOk_p (n rec : Int) : setOk X n rec = setOk Y n rec := by rw [setOk, setOk, getW_p hp hk]
theorem setX_p (n rec : Int) (v : Rc) : (setX X n rec v).Perm (setX Y n rec v) := by
  rw [setX, setX, setOk_p hp hk, lk_perm hp hk]
  split
  · split
    · exact hp
    · exact rp_perm hp
  · exact hp
theorem doE_p (op fl rec : Int) : doE X op fl rec = doE Y op fl rec := by rw [doE, doE, lk_perm hp hk]
theorem doV_p (op fl rec : Int) (v : Rc) : doV X op fl rec v = doV Y op fl rec v := by rw [doV, doV, doW, doW, doE_p hp hk, lk_perm hp hk]
theorem doD_p (op fl rec d : Int) : doD X op fl rec d = doD Y op fl rec d := by rw [doD, doD, doE_p hp hk]
theorem doX_p (op fl rec : Int) (v : Rc) : (doX X op fl rec v).Perm (doX Y op fl rec v) := by
  rw [doX, doX, doE_p hp hk, lk_perm hp hk]
  split
  · split
    · exact hp
    · exact rp_perm hp
  · exact hp
end
theorem addX_s {Y : List Nf} (h : Srt Y) (n : Int) (f : Fl) : Srt (if addE Y n f = 0 then ins n f Y else Y) := by
  split
  · rename_i e
    refine ins_srt h ?_
    unfold addE at e
    split at e
    · cases e
    split at e
    · cases e
    split at e
    · cases e
    · rename_i h1; simpa using h1
  · exact h
theorem setX_s {Y : List Nf} (h : Srt Y) (n rec : Int) (v : Rc) : Srt (setX Y n rec v) := by
  unfold setX
  split
  · split
    · exact h
    · exact rp_srt h
  · exact h
theorem doX_s {Y : List Nf} (h : Srt Y) (op fl rec : Int) (v : Rc) : Srt (doX Y op fl rec v) := by
  unfold doX
  split
  · split
    · exact h
    · exact rp_srt h
  · exact h

/-- The two stores, beside one another. -/
structure Both (H A : AH) (b br : Nat) (X : List Nf) (Z : List RF) (den : Int) (ft rd : Nat → Prop) : Prop where
  st : StAt A b X den ft
  ok : OkX X
  rf : RefS A br Z den rd
  pm : X.Perm (Z.map RF.nf)
  so : Srt (Z.map RF.nf)
  kp : Keep H A fun _ => False
  f1 : ∀ x, ft x → Fresh H x
  f2 : Fresh H br
  d1 : ∀ x, rd x → ¬ ft x
  d2 : ¬ ft br
theorem RefS.find {H : AH} {b : Nat} {Z : List RF} {den : Int} {rd : Nat → Prop} (h : RefS H b Z den rd) : ∃ k, H.find b = some k := by
  obtain ⟨_, _, h, _⟩ := h
  exact ⟨_, h⟩
theorem RefS.kn {H : AH} {b : Nat} {Z : List RF} {den : Int} {rd : Nat → Prop} (h : RefS H b Z den rd) : RefK H rd := by
  obtain ⟨_, _, _, _, _, _, h⟩ := h
  exact h
/-- A step of both: the first heap is A, between the two calls it is B, and behind them C. -/
theorem Both.step {H A B C : AH} {b br : Nat} {X X' : List Nf} {Z Z' : List RF} {den den' : Int} {ft rd ft' rd' : Nat → Prop} (h : Both H A b br X Z den ft rd)
    (hs : StAt B b X' den' ft') (hK : Keep A B ft) (hf : ∀ x, ft' x → ft x ∨ Fresh A x) (hX : OkX X')
    (hr : RefS C br Z' den' rd') (hK2 : Keep B C (· = br)) (hrd : ∀ x, rd' x → rd x ∨ Fresh B x ∨ ¬ Fresh H x) (hp : X'.Perm (Z'.map RF.nf)) (hso : Srt (Z'.map RF.nf)) : Both H C b br X' Z' den' ft' rd' := by
  have f1 : ∀ x, ft' x → Fresh H x := fun x hx => (hf x hx).elim (h.f1 x) fun h' => h.kp.fr h'
  have d2 : ¬ ft' br := fun hx => (hf _ hx).elim h.d2 fun h' => by
    obtain ⟨k, hk⟩ := h.rf.find
    exact h'.ne_find hk rfl
  refine ⟨hs.keep hK2 fun x hx e => d2 (e ▸ hx), hX, hr, hp, hso, (h.kp.ow hK h.f1).ow hK2 fun x e => e ▸ h.f2, f1, h.f2, fun x hx hx' => ?_, d2⟩
  rcases hrd x hx with h1 | h1 | h1
  · exact (hf x hx').elim (h.d1 x h1) fun h2 => h.rf.kn x h1 h2
  · exact hs.fresh h1 hx'
  · exact h1 (f1 x hx')
/-- Between the two calls. -/
theorem Both.mid {H A B : AH} {b br : Nat} {X : List Nf} {Z : List RF} {den : Int} {ft rd : Nat → Prop} (h : Both H A b br X Z den ft rd) (hK : Keep A B ft) : RefS B br Z den rd ∧ Keep H B fun _ => False :=
  ⟨h.rf.keep hK h.d1 h.d2, h.kp.ow hK h.f1⟩
theorem Both.keep {H A B : AH} {b br : Nat} {X : List Nf} {Z : List RF} {den : Int} {ft rd : Nat → Prop} (h : Both H A b br X Z den ft rd) (hK : Keep A B fun _ => False) : Both H B b br X Z den ft rd :=
  ⟨h.st.keep hK fun _ _ h => h, h.ok, h.rf.keep hK (fun _ _ h => h) fun h => h, h.pm, h.so, h.kp.trans hK, h.f1, h.f2, h.d1, h.d2⟩

/-! ### The law -/
theorem IfsDoes_c (L : List Dd) (b1 : Option Addr) (c1 : Nat) (H : AH) (h1 : SlcIn H 10 b1 c1 (L.map encD)) (d1 : ∀ d ∈ L, DdIn H d) (hE : ErrT H.w0) :
    ACalls Tryd.prog 3 #[.slice b1 L.length c1] H (fun v H' => v = .bool true ∧ H = H') := by
  refine ACalls.enter2 Tryd.func3 rfl Tryd.ntmps3 Tryd.results3 (by simp) ?_; simp (dsimp := false) (maxSteps := 4000000) only [enc_len, enc_scal, lput_enc, take_enc, go_sem, ↓reduceIte, Nat.reduceEqDiff, Nat.reduceLT, Nat.reduceLeDiff, Nat.reduceAdd, Nat.reduceMul, Nat.reduceSub, reduceCtorEq, Int.reduceToNat, Int.reduceLT, Int.reduceLE, Int.reduceEq, Int.reduceNe, Int.reduceBEq, Nat.reduceBEq, Int.reduceBNe, Nat.reduceBNe, Int.reduceAdd, Int.reduceSub, Int.reduceMul, Int.reduceNeg]
  refine (New_c H).mono ?_
  rintro _ A0 ⟨b, ft0, rfl, hs0, hK0, hf0⟩
  simp (dsimp := false) (maxSteps := 4000000) only [enc_len, enc_scal, lput_enc, take_enc, go_sem, ↓reduceIte, Nat.reduceEqDiff, Nat.reduceLT, Nat.reduceLeDiff, Nat.reduceAdd, Nat.reduceMul, Nat.reduceSub, reduceCtorEq, Int.reduceToNat, Int.reduceLT, Int.reduceLE, Int.reduceEq, Int.reduceNe, Int.reduceBEq, Nat.reduceBEq, Int.reduceBNe, Nat.reduceBNe, Int.reduceAdd, Int.reduceSub, Int.reduceMul, Int.reduceNeg]
  refine AllB.mk fun br h_br => ?_; have hn_br := h_br; (try simp only [fresh_add, fresh_set, ne_eq] at hn_br); have hr_br := hn_br; (try simp only [@eq_comm Nat br] at hr_br); simp (dsimp := false) (maxSteps := 4000000) only [enc_len, enc_scal, lput_enc, take_enc, hn_br, hr_br, go_sem, ↓reduceIte, Nat.reduceEqDiff, Nat.reduceLT, Nat.reduceLeDiff, Nat.reduceAdd, Nat.reduceMul, Nat.reduceSub, reduceCtorEq, Int.reduceToNat, Int.reduceLT, Int.reduceLE, Int.reduceEq, Int.reduceNe, Int.reduceBEq, Nat.reduceBEq, Int.reduceBNe, Nat.reduceBNe, Int.reduceAdd, Int.reduceSub, Int.reduceMul, Int.reduceNeg]
  have hB0 : Both H (A0.add br (.cells [.slice none 0 0, .int .i64 0] 28 2)) b br [] [] 0 ft0 (fun _ => False) :=
    ⟨hs0.keep (Keep.add h_br (ex := fun _ => False)) fun _ _ h => h, OkX.nil, ⟨none, 0, find_add_self _ _ _, ⟨SlcIn.nil, by simp, .inl rfl, by simp⟩, fun h => h, .inl ⟨rfl, rfl, rfl⟩, fun x h => h.elim⟩, .refl _, by simp [Srt], hK0.nw h_br, hf0, hK0.fr h_br, fun x h => h.elim, hs0.fresh h_br⟩
  refine AWp.loopr (ι := Nat × List Nf × List RF × Int × (Nat → Prop) × (Nat → Prop)) (fun s A => s.1 ≤ L.length ∧ s.1 ≤ 40 ∧ Both H A b br s.2.1 s.2.2.1 s.2.2.2.1 s.2.2.2.2.1 s.2.2.2.2.2)
    (fun s => [(5, .int .i64 s.1), (3, .pointer (some ⟨b, 0, none⟩)), (4, .pointer (some ⟨br, 0, none⟩)), (0, .slice b1 L.length c1)]) (fun s => 40 - s.1) (0, [], [], 0, ft0, fun _ => False) _
    ⟨by simp, by simp, hB0⟩ (FrLe.of_lks ?_) (AH.le_refl _) fun s A hV Q again out => ?_
  · simp (dsimp := false) (maxSteps := 4000000) only [enc_len, enc_scal, lput_enc, take_enc, hn_br, hr_br, go_sem, ↓reduceIte, Nat.reduceEqDiff, Nat.reduceLT, Nat.reduceLeDiff, Nat.reduceAdd, Nat.reduceMul, Nat.reduceSub, reduceCtorEq, Int.reduceToNat, Int.reduceLT, Int.reduceLE, Int.reduceEq, Int.reduceNe, Int.reduceBEq, Nat.reduceBEq, Int.reduceBNe, Nat.reduceBNe, Int.reduceAdd, Int.reduceSub, Int.reduceMul, Int.reduceNeg]
  clear hB0 hs0 hK0 hf0 h_br hn_br hr_br
  
  obtain ⟨i, X, Z, den, ft, rd⟩ := s
  obtain ⟨hi, hi2, hB⟩ := hV
  dsimp only at hi hi2 hB ⊢
  by_cases hlt : (i : Int) < L.length ∧ (i : Int) < 40
  case pos =>
    obtain ⟨d, hd⟩ := get_some (l := L) (i := i) (by omega)
    have hdd := d1 d (List.mem_of_getElem? hd)
    obtain ⟨q, o, rfl, hrow, _⟩ := (h1.keep hB.kp fun _ _ h => h).get (Go.AX.map_get (f := encD) hd)
    have ee := i64_succ (i := i) (by omega)
    have hi0 : (0 : Int) ≤ (i : Int) := by omega
    obtain ⟨k, op, fl, rc, ⟨v0, v1, v2, v3⟩, p, R, base, cap⟩ := d
    obtain ⟨hsR, hk, hvok, hRok⟩ := hdd
    dsimp only [encD] at hrow hsR hk hvok hRok
    have ek : k.tmod 5 = k % 5 := Int.tmod_eq_emod_of_nonneg hk.1
    simp (dsimp := false) (maxSteps := 4000000) only [hlt.1, hlt.2, enc_len, enc_scal, lput_enc, take_enc, go_sem, ↓reduceIte, Nat.reduceEqDiff, Nat.reduceLT, Nat.reduceLeDiff, Nat.reduceAdd, Nat.reduceMul, Nat.reduceSub, reduceCtorEq, Int.reduceToNat, Int.reduceLT, Int.reduceLE, Int.reduceEq, Int.reduceNe, Int.reduceBEq, Nat.reduceBEq, Int.reduceBNe, Nat.reduceBNe, Int.reduceAdd, Int.reduceSub, Int.reduceMul, Int.reduceNeg]
    simp (dsimp := false) (maxSteps := 4000000) only [hlt.1, hlt.2, hi0, hrow, enc_len, enc_scal, lput_enc, take_enc, go_sem, ↓reduceIte, Nat.reduceEqDiff, Nat.reduceLT, Nat.reduceLeDiff, Nat.reduceAdd, Nat.reduceMul, Nat.reduceSub, reduceCtorEq, Int.reduceToNat, Int.reduceLT, Int.reduceLE, Int.reduceEq, Int.reduceNe, Int.reduceBEq, Nat.reduceBEq, Int.reduceBNe, Nat.reduceBNe, Int.reduceAdd, Int.reduceSub, Int.reduceMul, Int.reduceNeg]
    refine AllB.mk fun b6 h_b6 => ?_; have hn_b6 := h_b6; (try simp only [fresh_add, fresh_set, ne_eq] at hn_b6); have hr_b6 := hn_b6; (try simp only [@eq_comm Nat b6] at hr_b6); simp (dsimp := false) (maxSteps := 4000000) only [enc_len, enc_scal, lput_enc, take_enc, hn_b6, hr_b6, go_sem, ↓reduceIte, Nat.reduceEqDiff, Nat.reduceLT, Nat.reduceLeDiff, Nat.reduceAdd, Nat.reduceMul, Nat.reduceSub, reduceCtorEq, Int.reduceToNat, Int.reduceLT, Int.reduceLE, Int.reduceEq, Int.reduceNe, Int.reduceBEq, Nat.reduceBEq, Int.reduceBNe, Nat.reduceBNe, Int.reduceAdd, Int.reduceSub, Int.reduceMul, Int.reduceNeg]
    have hB1 := hB.keep (Keep.add h_b6 (k := (.cells [.int .u8 k, .int .i64 op, .int .i64 fl, .int .i64 rc, .int .u8 v0, .int .u8 v1, .int .u8 v2, .int .u8 v3, .int .i64 p, .slice base R.length cap] 37 10)))
    obtain ⟨A1, hA1⟩ : ∃ A1, A.add b6 (.cells [.int .u8 k, .int .i64 op, .int .i64 fl, .int .i64 rc, .int .u8 v0, .int .u8 v1, .int .u8 v2, .int .u8 v3, .int .i64 p, .slice base R.length cap] 37 10) = A1 := ⟨_, rfl⟩
    rw [hA1] at hB1 ⊢
    have f6 : A1.find b6 = some (.cells [.int .u8 k, .int .i64 op, .int .i64 fl, .int .i64 rc, .int .u8 v0, .int .u8 v1, .int .u8 v2, .int .u8 v3, .int .i64 p, .slice base R.length cap] 37 10) := by rw [← hA1, find_add_self]
    have hn6 : ¬ ft b6 := hB.st.fresh h_b6
    have nbr : b6 ≠ br := by
      obtain ⟨k, hk⟩ := hB.rf.find
      exact h_b6.ne_find hk
    have hle : ∀ {T : AH}, T.find b6 = some (.cells [.int .u8 k, .int .i64 op, .int .i64 fl, .int .i64 rc, .int .u8 v0, .int .u8 v1, .int .u8 v2, .int .u8 v3, .int .i64 p, .slice base R.length cap] 37 10) → (Keep H T fun _ => False) → (H.add b6 (.cells [.int .u8 k, .int .i64 op, .int .i64 fl, .int .i64 rc, .int .u8 v0, .int .u8 v1, .int .u8 v2, .int .u8 v3, .int .i64 p, .slice base R.length cap] 37 10)).le T := fun hf hk => AH.le_cons hf hk.all
    have r0 : A1.rd ⟨b6, 0, none⟩ = some (.int .u8 k) := by rw [rd_find f6]; rfl
    have hY : OkX (Z.map RF.nf) := hB.ok.perm hB.pm
    have hkd := hB.ok.kd
    have hpm := hB.pm
    have hso := hB.so
    clear hA1 h_b6 hn_b6 hr_b6 hB hrow
    
    have hcases : k % 5 = 0 ∨ k % 5 = 1 ∨ (¬ k % 5 = 0 ∧ ¬ k % 5 = 1) := by omega
    rcases hcases with k0 | k1 | ⟨k0, k1⟩
    case' inl =>
      have hfew := fun H1 (h : SlcIn H1 4 base cap (R.map enc)) => few_c p R base cap H1 h
      unfold fv at hfew
      simp (dsimp := false) (maxSteps := 4000000) only [r0, ek, k0, enc_len, enc_scal, lput_enc, take_enc, go_sem, ↓reduceIte, Nat.reduceEqDiff, Nat.reduceLT, Nat.reduceLeDiff, Nat.reduceAdd, Nat.reduceMul, Nat.reduceSub, reduceCtorEq, Int.reduceToNat, Int.reduceLT, Int.reduceLE, Int.reduceEq, Int.reduceNe, Int.reduceBEq, Nat.reduceBEq, Int.reduceBNe, Nat.reduceBNe, Int.reduceAdd, Int.reduceSub, Int.reduceMul, Int.reduceNeg]
      refine AWp.gen [.pu, .pu, .pu, .rd, .pu, .rd, .ch, .ch, .pu, .pu, .pu, .rd, .pu, .rd, .ch, .ch, .pu] [0, 0, 2, 6, 0, 16, 48, 127, 0, 0, 512, 1536, 0, 4096, 12543, 32767, 65535] 15 (H.add b6 (.cells [.int .u8 k, .int .i64 op, .int .i64 fl, .int .i64 rc, .int .u8 v0, .int .u8 v1, .int .u8 v2, .int .u8 v3, .int .i64 p, .slice base R.length cap] 37 10)) mixed (by kernel_rfl) (hle f6 hB1.kp) ?_
      simp (dsimp := false) (maxSteps := 4000000) only [enc_len, enc_scal, lput_enc, take_enc, go_sem, ↓reduceIte, Nat.reduceEqDiff, Nat.reduceLT, Nat.reduceLeDiff, Nat.reduceAdd, Nat.reduceMul, Nat.reduceSub, reduceCtorEq, Int.reduceToNat, Int.reduceLT, Int.reduceLE, Int.reduceEq, Int.reduceNe, Int.reduceBEq, Nat.reduceBEq, Int.reduceBNe, Nat.reduceBNe, Int.reduceAdd, Int.reduceSub, Int.reduceMul, Int.reduceNeg]
      refine (hfew _ (hsR.keep hB1.kp fun _ _ h => h)).mono ?_; rintro _ _ ⟨rfl, rfl⟩
      have hleA := hle f6 hB1.kp
      simp (dsimp := false) (maxSteps := 4000000) only [hleA, enc_len, enc_scal, lput_enc, take_enc, go_sem, ↓reduceIte, Nat.reduceEqDiff, Nat.reduceLT, Nat.reduceLeDiff, Nat.reduceAdd, Nat.reduceMul, Nat.reduceSub, reduceCtorEq, Int.reduceToNat, Int.reduceLT, Int.reduceLE, Int.reduceEq, Int.reduceNe, Int.reduceBEq, Nat.reduceBEq, Int.reduceBNe, Nat.reduceBNe, Int.reduceAdd, Int.reduceSub, Int.reduceMul, Int.reduceNeg]
      refine (Add_c hB1.st fl p (R.take 260) base cap (few_in (hsR.keep hB1.kp fun _ _ h => h))).mono ?_
      rintro _ B ⟨ft', rfl, hstB, hKB, hfB⟩
      obtain ⟨hrB, kHB⟩ := hB1.mid hKB
      have g6 := hKB.find hn6 f6
      have hleB := hle g6 kHB
      simp (dsimp := false) (maxSteps := 4000000) only [hleB, enc_len, enc_scal, lput_enc, take_enc, go_sem, ↓reduceIte, Nat.reduceEqDiff, Nat.reduceLT, Nat.reduceLeDiff, Nat.reduceAdd, Nat.reduceMul, Nat.reduceSub, reduceCtorEq, Int.reduceToNat, Int.reduceLT, Int.reduceLE, Int.reduceEq, Int.reduceNe, Int.reduceBEq, Nat.reduceBEq, Int.reduceBNe, Nat.reduceBNe, Int.reduceAdd, Int.reduceSub, Int.reduceMul, Int.reduceNeg]
      refine (hfew _ (hsR.keep kHB fun _ _ h => h)).mono ?_; rintro _ _ ⟨rfl, rfl⟩
      simp (dsimp := false) (maxSteps := 4000000) only [hleB, enc_len, enc_scal, lput_enc, take_enc, go_sem, ↓reduceIte, Nat.reduceEqDiff, Nat.reduceLT, Nat.reduceLeDiff, Nat.reduceAdd, Nat.reduceMul, Nat.reduceSub, reduceCtorEq, Int.reduceToNat, Int.reduceLT, Int.reduceLE, Int.reduceEq, Int.reduceNe, Int.reduceBEq, Nat.reduceBEq, Int.reduceBNe, Nat.reduceBNe, Int.reduceAdd, Int.reduceSub, Int.reduceMul, Int.reduceNeg]
      refine (RefAdd_c hrB hY hso fl p (R.take 260) base cap (few_in (hsR.keep kHB fun _ _ h => h)) ?_).mono ?_
      · rcases (few_in hsR).apart hB1.f2 with h | h
        · left; cases h' : R.take 260 with
          | nil => rfl
          | cons x l => rw [h'] at h; cases h
        · by_cases hR : R.take 260 = []
          · exact .inl hR
          · refine .inr fun a ha => ⟨h a ha, fun hf => ?_⟩
            rcases (few_in hsR).apart (kHB.fr hf) with h2 | h2
            · exact hR (by simpa using h2)
            · exact h2 a ha rfl
      rintro _ C ⟨Z', rd', rfl, hZ', hrC, hKC, hrd'⟩
      obtain ⟨X', hX'⟩ : ∃ X', addX X fl (p, R.take 260) = X' := ⟨_, rfl⟩
      have hBC : Both H C b br X' Z' den ft' rd' := hB1.step hstB hKB hfB (hB1.ok.add fl (p, R.take 260) fun r hr => hRok r (List.mem_of_mem_take hr)) hrC hKC (fun x hx => (hrd' x hx).imp id fun h => h.imp id fun ⟨hR, a, ha, e⟩ hf => by
        rcases (few_in hsR).apart hf with h2 | h2
        · exact hR (by simpa using h2)
        · exact h2 a ha e.symm) (by rw [hZ']; exact addX_p hpm hkd ..) (by rw [hZ']; exact addX_s hso ..) |> (hX' ▸ ·)
      have f6C := hKC.find nbr g6
      rw [addE_p hpm hkd]
      simp (dsimp := false) (maxSteps := 4000000) only [enc_len, enc_scal, lput_enc, take_enc, go_sem, ↓reduceIte, Nat.reduceEqDiff, Nat.reduceLT, Nat.reduceLeDiff, Nat.reduceAdd, Nat.reduceMul, Nat.reduceSub, reduceCtorEq, Int.reduceToNat, Int.reduceLT, Int.reduceLE, Int.reduceEq, Int.reduceNe, Int.reduceBEq, Nat.reduceBEq, Int.reduceBNe, Nat.reduceBNe, Int.reduceAdd, Int.reduceSub, Int.reduceMul, Int.reduceNeg]
      clear hX' hrd' hKC hrC hZ' hleB g6 kHB hrB hfB hKB hstB hfew
    case' inr.inl =>
      have hleA := hle f6 hB1.kp
      simp (dsimp := false) (maxSteps := 4000000) only [r0, ek, k1, enc_len, enc_scal, lput_enc, take_enc, go_sem, ↓reduceIte, Nat.reduceEqDiff, Nat.reduceLT, Nat.reduceLeDiff, Nat.reduceAdd, Nat.reduceMul, Nat.reduceSub, reduceCtorEq, Int.reduceToNat, Int.reduceLT, Int.reduceLE, Int.reduceEq, Int.reduceNe, Int.reduceBEq, Nat.reduceBEq, Int.reduceBNe, Nat.reduceBNe, Int.reduceAdd, Int.reduceSub, Int.reduceMul, Int.reduceNeg]
      refine AWp.gen [.pu, .pu, .pu, .rd, .pu, .pu, .rd, .pu, .rd, .ch, .pu, .pu, .pu, .rd, .pu, .pu, .rd, .pu, .rd, .ch, .pu] [0, 0, 2, 6, 0, 16, 48, 0, 128, 511, 0, 0, 2048, 6144, 0, 16384, 49152, 0, 131072, 524287, 1048575] 10 (H.add b6 (.cells [.int .u8 k, .int .i64 op, .int .i64 fl, .int .i64 rc, .int .u8 v0, .int .u8 v1, .int .u8 v2, .int .u8 v3, .int .i64 p, .slice base R.length cap] 37 10)) mixed (by kernel_rfl) (hle f6 hB1.kp) ?_
      simp (dsimp := false) (maxSteps := 4000000) only [hleA, enc_len, enc_scal, lput_enc, take_enc, go_sem, ↓reduceIte, Nat.reduceEqDiff, Nat.reduceLT, Nat.reduceLeDiff, Nat.reduceAdd, Nat.reduceMul, Nat.reduceSub, reduceCtorEq, Int.reduceToNat, Int.reduceLT, Int.reduceLE, Int.reduceEq, Int.reduceNe, Int.reduceBEq, Nat.reduceBEq, Int.reduceBNe, Nat.reduceBNe, Int.reduceAdd, Int.reduceSub, Int.reduceMul, Int.reduceNeg]
      refine (Set_c hB1.st hB1.ok fl rc (v0, v1, v2, v3)).mono ?_
      rintro _ B ⟨rfl, hstB, hKB⟩
      obtain ⟨hrB, kHB⟩ := hB1.mid hKB
      have g6 := hKB.find hn6 f6
      have hleB := hle g6 kHB
      simp (dsimp := false) (maxSteps := 4000000) only [hleB, enc_len, enc_scal, lput_enc, take_enc, go_sem, ↓reduceIte, Nat.reduceEqDiff, Nat.reduceLT, Nat.reduceLeDiff, Nat.reduceAdd, Nat.reduceMul, Nat.reduceSub, reduceCtorEq, Int.reduceToNat, Int.reduceLT, Int.reduceLE, Int.reduceEq, Int.reduceNe, Int.reduceBEq, Nat.reduceBEq, Int.reduceBNe, Nat.reduceBNe, Int.reduceAdd, Int.reduceSub, Int.reduceMul, Int.reduceNeg]
      refine (RefSet_c hrB hY fl rc (v0, v1, v2, v3)).mono ?_
      rintro _ C ⟨Z', rd', rfl, hZ', hrC, hKC, hrd'⟩
      obtain ⟨X', hX'⟩ : ∃ X', setX X fl rc (v0, v1, v2, v3) = X' := ⟨_, rfl⟩
      have hBC : Both H C b br X' Z' den ft rd' := hB1.step hstB hKB (fun x h => .inl h) (hB1.ok.set fl rc hvok) hrC hKC (fun x hx => (hrd' x hx).imp id .inl) (by rw [hZ']; exact setX_p hpm hkd ..) (by rw [hZ']; exact setX_s hso ..) |> (hX' ▸ ·)
      have f6C := hKC.find nbr g6
      rw [setOk_p hpm hkd]
      simp (dsimp := false) (maxSteps := 4000000) only [enc_len, enc_scal, lput_enc, take_enc, go_sem, ↓reduceIte, Nat.reduceEqDiff, Nat.reduceLT, Nat.reduceLeDiff, Nat.reduceAdd, Nat.reduceMul, Nat.reduceSub, reduceCtorEq, Int.reduceToNat, Int.reduceLT, Int.reduceLE, Int.reduceEq, Int.reduceNe, Int.reduceBEq, Nat.reduceBEq, Int.reduceBNe, Nat.reduceBNe, Int.reduceAdd, Int.reduceSub, Int.reduceMul, Int.reduceNeg]
      clear hX' hrd' hKC hrC hZ' hleB g6 kHB hrB hKB hstB
    case' inr.inr =>
      have wa : A1.row b6 1 3 = some [.int .i64 op, .int .i64 fl, .int .i64 rc] := row_find f6 (by simp)
      have wv : A1.row b6 4 4 = some [.int .u8 v0, .int .u8 v1, .int .u8 v2, .int .u8 v3] := row_find f6 (by simp)
      simp (dsimp := false) (maxSteps := 4000000) only [r0, ek, k0, k1, wa, wv, enc_len, enc_scal, lput_enc, take_enc, go_sem, ↓reduceIte, Nat.reduceEqDiff, Nat.reduceLT, Nat.reduceLeDiff, Nat.reduceAdd, Nat.reduceMul, Nat.reduceSub, reduceCtorEq, Int.reduceToNat, Int.reduceLT, Int.reduceLE, Int.reduceEq, Int.reduceNe, Int.reduceBEq, Nat.reduceBEq, Int.reduceBNe, Nat.reduceBNe, Int.reduceAdd, Int.reduceSub, Int.reduceMul, Int.reduceNeg]
      refine (Do_c (by rw [hB1.kp.w0]; exact hE) hB1.st hB1.ok op fl rc (v0, v1, v2, v3)).mono ?_
      rintro _ B ⟨ft', rfl, hstB, hKB, hfB⟩
      obtain ⟨wY, hwY⟩ : ∃ wY, doW (Z.map RF.nf) op fl rc (v0, v1, v2, v3) = wY := ⟨_, rfl⟩
      obtain ⟨eY, heY⟩ : ∃ eY, doE (Z.map RF.nf) op fl rc = eY := ⟨_, rfl⟩
      rw [doV_p hpm hkd, doV, hwY, heY]
      simp (dsimp := false) (maxSteps := 4000000) only [enc_len, enc_scal, lput_enc, take_enc, go_sem, ↓reduceIte, Nat.reduceEqDiff, Nat.reduceLT, Nat.reduceLeDiff, Nat.reduceAdd, Nat.reduceMul, Nat.reduceSub, reduceCtorEq, Int.reduceToNat, Int.reduceLT, Int.reduceLE, Int.reduceEq, Int.reduceNe, Int.reduceBEq, Nat.reduceBEq, Int.reduceBNe, Nat.reduceBNe, Int.reduceAdd, Int.reduceSub, Int.reduceMul, Int.reduceNeg]
      refine AllB.mk fun b7 h_b7 => ?_
      simp (dsimp := false) (maxSteps := 4000000) only [enc_len, enc_scal, lput_enc, take_enc, go_sem, ↓reduceIte, Nat.reduceEqDiff, Nat.reduceLT, Nat.reduceLeDiff, Nat.reduceAdd, Nat.reduceMul, Nat.reduceSub, reduceCtorEq, Int.reduceToNat, Int.reduceLT, Int.reduceLE, Int.reduceEq, Int.reduceNe, Int.reduceBEq, Nat.reduceBEq, Int.reduceBNe, Nat.reduceBNe, Int.reduceAdd, Int.reduceSub, Int.reduceMul, Int.reduceNeg]
      obtain ⟨B7, hB7⟩ : ∃ B7, B.add b7 (.cells (enc wY) 32 4) = B7 := ⟨_, rfl⟩
      have g6' := hKB.find hn6 f6
      have hK7 : Keep A1 B7 ft := hB7 ▸ hKB.trans (Keep.add h_b7)
      have hst7 : StAt B7 b _ _ ft' := hB7 ▸ hstB.keep (Keep.add h_b7 (ex := fun _ => False)) fun _ _ h => h
      have g7 : B7.find b7 = some (.cells (enc wY) 32 4) := by rw [← hB7, find_add_self]
      obtain ⟨hrB, kHB⟩ := hB1.mid hK7
      have g6 := hK7.find hn6 f6
      have n7 : b7 ≠ br := by
        obtain ⟨k, hk⟩ := (hB1.mid hKB).1.find
        exact h_b7.ne_find hk
      have n76 : b7 ≠ b6 := h_b7.ne_find g6'
      rw [hB7]
      clear hB7 h_b7
      have wa' : B7.row b6 1 3 = some [.int .i64 op, .int .i64 fl, .int .i64 rc] := row_find g6 (by simp)
      have wv' : B7.row b6 4 4 = some [.int .u8 v0, .int .u8 v1, .int .u8 v2, .int .u8 v3] := row_find g6 (by simp)
      simp (dsimp := false) (maxSteps := 4000000) only [wa', wv', enc_len, enc_scal, lput_enc, take_enc, go_sem, ↓reduceIte, Nat.reduceEqDiff, Nat.reduceLT, Nat.reduceLeDiff, Nat.reduceAdd, Nat.reduceMul, Nat.reduceSub, reduceCtorEq, Int.reduceToNat, Int.reduceLT, Int.reduceLE, Int.reduceEq, Int.reduceNe, Int.reduceBEq, Nat.reduceBEq, Int.reduceBNe, Nat.reduceBNe, Int.reduceAdd, Int.reduceSub, Int.reduceMul, Int.reduceNeg]
      refine (RefDo_c hrB hY op fl rc (v0, v1, v2, v3)).mono ?_
      rintro _ C0 ⟨Z', rd', rfl, hZ', hrC, hKC, hrd'⟩
      rw [doV, hwY, heY]
      simp (dsimp := false) (maxSteps := 4000000) only [enc_len, enc_scal, lput_enc, take_enc, go_sem, ↓reduceIte, Nat.reduceEqDiff, Nat.reduceLT, Nat.reduceLeDiff, Nat.reduceAdd, Nat.reduceMul, Nat.reduceSub, reduceCtorEq, Int.reduceToNat, Int.reduceLT, Int.reduceLE, Int.reduceEq, Int.reduceNe, Int.reduceBEq, Nat.reduceBEq, Int.reduceBNe, Nat.reduceBNe, Int.reduceAdd, Int.reduceSub, Int.reduceMul, Int.reduceNeg]
      refine AllB.mk fun b9 h_b9 => ?_
      simp (dsimp := false) (maxSteps := 4000000) only [enc_len, enc_scal, lput_enc, take_enc, go_sem, ↓reduceIte, Nat.reduceEqDiff, Nat.reduceLT, Nat.reduceLeDiff, Nat.reduceAdd, Nat.reduceMul, Nat.reduceSub, reduceCtorEq, Int.reduceToNat, Int.reduceLT, Int.reduceLE, Int.reduceEq, Int.reduceNe, Int.reduceBEq, Nat.reduceBEq, Int.reduceBNe, Nat.reduceBNe, Int.reduceAdd, Int.reduceSub, Int.reduceMul, Int.reduceNeg]
      obtain ⟨X', hX'⟩ : ∃ X', doX X op fl rc (v0, v1, v2, v3) = X' := ⟨_, rfl⟩
      have hBC0 : Both H C0 b br X' Z' _ ft' rd' := hB1.step (doD_p hpm hkd op fl rc den ▸ hst7) hK7 hfB (hB1.ok.do op fl rc hvok) hrC hKC (fun x hx => (hrd' x hx).imp id .inl) (by rw [hZ']; exact doX_p hpm hkd ..) (by rw [hZ']; exact doX_s hso ..) |> (hX' ▸ ·)
      have f6C0 := hKC.find nbr g6
      have f7C0 := hKC.find n7 g7
      obtain ⟨C, hC⟩ : ∃ C, C0.add b9 (.cells (enc wY) 32 4) = C := ⟨_, rfl⟩
      have kC : Keep C0 C fun _ => False := hC ▸ Keep.add h_b9
      have hBC := hBC0.keep kC
      have f6C := kC.find (fun h => h) f6C0
      have w7C : C.row b7 0 4 = some (enc wY) := row_find (kC.find (fun h => h) f7C0) (by simp [enc])
      have f9C : C.find b9 = some (.cells (enc wY) 32 4) := by rw [← hC, find_add_self]
      have w9C : C.row b9 0 4 = some (enc wY) := row_find f9C (by simp [enc])
      rw [hC]
      clear hC h_b9
      simp (dsimp := false) (maxSteps := 4000000) only [w7C, w9C, File.neqRc, enc_len, enc_scal, lput_enc, take_enc, go_sem, ↓reduceIte, Nat.reduceEqDiff, Nat.reduceLT, Nat.reduceLeDiff, Nat.reduceAdd, Nat.reduceMul, Nat.reduceSub, reduceCtorEq, Int.reduceToNat, Int.reduceLT, Int.reduceLE, Int.reduceEq, Int.reduceNe, Int.reduceBEq, Nat.reduceBEq, Int.reduceBNe, Nat.reduceBNe, Int.reduceAdd, Int.reduceSub, Int.reduceMul, Int.reduceNeg]
      clear hX' hrd' hKC hrC hZ' g6 kHB hrB hfB hKB hstB hK7 hst7 hBC0 kC
    all_goals
      have r2 : _ = some (Value.int .i64 fl) := rd_find (off := 2) f6C
      have r3 : _ = some (Value.int .i64 rc) := rd_find (off := 3) f6C
      
      simp (dsimp := false) (maxSteps := 4000000) only [r2, r3, enc_len, enc_scal, lput_enc, take_enc, go_sem, ↓reduceIte, Nat.reduceEqDiff, Nat.reduceLT, Nat.reduceLeDiff, Nat.reduceAdd, Nat.reduceMul, Nat.reduceSub, reduceCtorEq, Int.reduceToNat, Int.reduceLT, Int.reduceLE, Int.reduceEq, Int.reduceNe, Int.reduceBEq, Nat.reduceBEq, Int.reduceBNe, Nat.reduceBNe, Int.reduceAdd, Int.reduceSub, Int.reduceMul, Int.reduceNeg]
      refine (Get_c hBC.st hBC.ok fl rc).mono ?_; rintro _ _ ⟨rfl, rfl⟩
      rw [getW_p hBC.pm hBC.ok.kd]
      cases hg : getW (Z'.map RF.nf) fl rc
      all_goals
        simp only [getV]
        
        simp (dsimp := false) (maxSteps := 4000000) only [enc_len, enc_scal, lput_enc, take_enc, go_sem, ↓reduceIte, Nat.reduceEqDiff, Nat.reduceLT, Nat.reduceLeDiff, Nat.reduceAdd, Nat.reduceMul, Nat.reduceSub, reduceCtorEq, Int.reduceToNat, Int.reduceLT, Int.reduceLE, Int.reduceEq, Int.reduceNe, Int.reduceBEq, Nat.reduceBEq, Int.reduceBNe, Nat.reduceBNe, Int.reduceAdd, Int.reduceSub, Int.reduceMul, Int.reduceNeg]
        refine AllB.mk fun b11 h_b11 => ?_; have hn_b11 := h_b11; (try simp only [fresh_add, fresh_set, ne_eq] at hn_b11); have hr_b11 := hn_b11; (try simp only [@eq_comm Nat b11] at hr_b11); simp (dsimp := false) (maxSteps := 4000000) only [enc_len, enc_scal, lput_enc, take_enc, hn_b11, hr_b11, go_sem, ↓reduceIte, Nat.reduceEqDiff, Nat.reduceLT, Nat.reduceLeDiff, Nat.reduceAdd, Nat.reduceMul, Nat.reduceSub, reduceCtorEq, Int.reduceToNat, Int.reduceLT, Int.reduceLE, Int.reduceEq, Int.reduceNe, Int.reduceBEq, Nat.reduceBEq, Int.reduceBNe, Nat.reduceBNe, Int.reduceAdd, Int.reduceSub, Int.reduceMul, Int.reduceNeg]
        have n11 : ¬ b11 = b6 := h_b11.ne_find f6C
        have n11r : ¬ b11 = br := by
          obtain ⟨k, hk⟩ := hBC.rf.find
          exact h_b11.ne_find hk
        have hB11 := fun k => hBC.keep (Keep.add (k := k) h_b11)
        simp (dsimp := false) (maxSteps := 4000000) only [r2, r3, n11, enc_len, enc_scal, lput_enc, take_enc, hn_b11, hr_b11, go_sem, ↓reduceIte, Nat.reduceEqDiff, Nat.reduceLT, Nat.reduceLeDiff, Nat.reduceAdd, Nat.reduceMul, Nat.reduceSub, reduceCtorEq, Int.reduceToNat, Int.reduceLT, Int.reduceLE, Int.reduceEq, Int.reduceNe, Int.reduceBEq, Nat.reduceBEq, Int.reduceBNe, Nat.reduceBNe, Int.reduceAdd, Int.reduceSub, Int.reduceMul, Int.reduceNeg]
        refine (RefGet_c (hB11 _).rf.at fl rc).mono ?_
        rintro _ _ ⟨rfl, rfl⟩
        rw [hg]
        simp only [getV]
        simp (dsimp := false) (maxSteps := 4000000) only [enc_len, enc_scal, lput_enc, take_enc, hn_b11, hr_b11, go_sem, ↓reduceIte, Nat.reduceEqDiff, Nat.reduceLT, Nat.reduceLeDiff, Nat.reduceAdd, Nat.reduceMul, Nat.reduceSub, reduceCtorEq, Int.reduceToNat, Int.reduceLT, Int.reduceLE, Int.reduceEq, Int.reduceNe, Int.reduceBEq, Nat.reduceBEq, Int.reduceBNe, Nat.reduceBNe, Int.reduceAdd, Int.reduceSub, Int.reduceMul, Int.reduceNeg]
        refine AllB.mk fun b13 h_b13 => ?_; have hn_b13 := h_b13; (try simp only [fresh_add, fresh_set, ne_eq] at hn_b13); have hr_b13 := hn_b13; (try simp only [@eq_comm Nat b13] at hr_b13); simp (dsimp := false) (maxSteps := 4000000) only [enc_len, enc_scal, lput_enc, take_enc, hn_b11, hr_b11, hn_b13, hr_b13, go_sem, ↓reduceIte, Nat.reduceEqDiff, Nat.reduceLT, Nat.reduceLeDiff, Nat.reduceAdd, Nat.reduceMul, Nat.reduceSub, reduceCtorEq, Int.reduceToNat, Int.reduceLT, Int.reduceLE, Int.reduceEq, Int.reduceNe, Int.reduceBEq, Nat.reduceBEq, Int.reduceBNe, Nat.reduceBNe, Int.reduceAdd, Int.reduceSub, Int.reduceMul, Int.reduceNeg]
        have hB13 := fun k k' => (hB11 k).keep (Keep.add (k := k') (show Fresh (C.add b11 k) b13 from by simp only [fresh_add, ne_eq, hn_b13, not_false_eq_true, and_self]))
        have n13r : ¬ b13 = br := by
          obtain ⟨k, hk⟩ := hBC.rf.find
          exact hn_b13.2.ne_find hk
        obtain ⟨_, _, hbr, _⟩ := hBC.rf
        have r1 : _ = some (Value.int .i64 _) := rd_find (off := 1) hbr
        refine AWp.gen [.rd, .rd, .pu, .pu, .pu, .pu, .pu, .pu, .pu, .pu, .ch, .pu, .pu, .pu, .rd, .pu, .pu] [0, 0, 3, 7, 15, 15, 63, 127, 255, 511, 1023, 511, 2559, 6655, 14847, 32767, 65535] 11 (_) mixed (by kernel_rfl) (AH.le_refl _) ?_
        simp (dsimp := false) (maxSteps := 4000000) only [File.neqRc, enc_len, enc_scal, lput_enc, take_enc, hn_b11, hr_b11, hn_b13, hr_b13, go_sem, ↓reduceIte, Nat.reduceEqDiff, Nat.reduceLT, Nat.reduceLeDiff, Nat.reduceAdd, Nat.reduceMul, Nat.reduceSub, reduceCtorEq, Int.reduceToNat, Int.reduceLT, Int.reduceLE, Int.reduceEq, Int.reduceNe, Int.reduceBEq, Nat.reduceBEq, Int.reduceBNe, Nat.reduceBNe, Int.reduceAdd, Int.reduceSub, Int.reduceMul, Int.reduceNeg]
        refine (Denied_c (hB13 _ _).st).mono ?_; rintro _ _ ⟨rfl, rfl⟩
        simp (dsimp := false) (maxSteps := 4000000) only [r1, n11r, n13r, ee, enc_len, enc_scal, lput_enc, take_enc, hn_b11, hr_b11, hn_b13, hr_b13, go_sem, ↓reduceIte, Nat.reduceEqDiff, Nat.reduceLT, Nat.reduceLeDiff, Nat.reduceAdd, Nat.reduceMul, Nat.reduceSub, reduceCtorEq, Int.reduceToNat, Int.reduceLT, Int.reduceLE, Int.reduceEq, Int.reduceNe, Int.reduceBEq, Nat.reduceBEq, Int.reduceBNe, Nat.reduceBNe, Int.reduceAdd, Int.reduceSub, Int.reduceMul, Int.reduceNeg]
        exact again (i + 1, _, _, _, _, _) _ _ _ ⟨by dsimp only; omega, by dsimp only; omega, hBC⟩ (FrLe.of_lks (by simp (dsimp := false) (maxSteps := 4000000) only [enc_len, enc_scal, lput_enc, take_enc, hn_b11, hr_b11, hn_b13, hr_b13, go_sem, ↓reduceIte, Nat.reduceEqDiff, Nat.reduceLT, Nat.reduceLeDiff, Nat.reduceAdd, Nat.reduceMul, Nat.reduceSub, reduceCtorEq, Int.reduceToNat, Int.reduceLT, Int.reduceLE, Int.reduceEq, Int.reduceNe, Int.reduceBEq, Nat.reduceBEq, Int.reduceBNe, Nat.reduceBNe, Int.reduceAdd, Int.reduceSub, Int.reduceMul, Int.reduceNeg])) (AH.le_add (AH.le_add (AH.le_refl _) ((by simp only [enc_len, enc_scal, lput_enc, take_enc, fresh_add, fresh_set, ne_eq, hn_b11, not_false_eq_true, and_self] : Fresh _ b11).2)) ((by simp only [enc_len, enc_scal, lput_enc, take_enc, fresh_add, fresh_set, ne_eq, hn_b13, not_false_eq_true, and_self] : Fresh _ b13).2)) (by dsimp only; omega)
        
      
  have hno : ¬ (i : Int) < L.length ∨ ((i : Int) < L.length ∧ ¬ (i : Int) < 40) := by omega
  clear hlt again
  obtain ⟨zb, zc, hbr, hZ, _⟩ := hB.rf
  have r0 : A.rd ⟨br, 0, none⟩ = some (.slice zb Z.length zc) := by rw [rd_find hbr]; rfl
  rcases hno with a | ⟨a, a'⟩
  case' inl =>
    
    simp (dsimp := false) (maxSteps := 4000000) only [a, enc_len, enc_scal, lput_enc, take_enc, go_sem, ↓reduceIte, Nat.reduceEqDiff, Nat.reduceLT, Nat.reduceLeDiff, Nat.reduceAdd, Nat.reduceMul, Nat.reduceSub, reduceCtorEq, Int.reduceToNat, Int.reduceLT, Int.reduceLE, Int.reduceEq, Int.reduceNe, Int.reduceBEq, Nat.reduceBEq, Int.reduceBNe, Nat.reduceBNe, Int.reduceAdd, Int.reduceSub, Int.reduceMul, Int.reduceNeg]
    refine out _ _ _ (by simp) ?_
    
  case' inr =>
    simp (dsimp := false) (maxSteps := 4000000) only [a, a', enc_len, enc_scal, lput_enc, take_enc, go_sem, ↓reduceIte, Nat.reduceEqDiff, Nat.reduceLT, Nat.reduceLeDiff, Nat.reduceAdd, Nat.reduceMul, Nat.reduceSub, reduceCtorEq, Int.reduceToNat, Int.reduceLT, Int.reduceLE, Int.reduceEq, Int.reduceNe, Int.reduceBEq, Nat.reduceBEq, Int.reduceBNe, Nat.reduceBNe, Int.reduceAdd, Int.reduceSub, Int.reduceMul, Int.reduceNeg]
    refine out _ _ _ (by simp) ?_
  all_goals
    simp (dsimp := false) (maxSteps := 4000000) only [enc_len, enc_scal, lput_enc, take_enc, go_sem, ↓reduceIte, Nat.reduceEqDiff, Nat.reduceLT, Nat.reduceLeDiff, Nat.reduceAdd, Nat.reduceMul, Nat.reduceSub, reduceCtorEq, Int.reduceToNat, Int.reduceLT, Int.reduceLE, Int.reduceEq, Int.reduceNe, Int.reduceBEq, Nat.reduceBEq, Int.reduceBNe, Nat.reduceBNe, Int.reduceAdd, Int.reduceSub, Int.reduceMul, Int.reduceNeg]
    refine AWp.gen [.ch, .pu, .pu, .ch, .pu, .pu, .pu, .rd, .ch, .pu, .pu] [0, 1, 3, 7, 3, 19, 51, 115, 255, 511, 1023] 4 (_) mixed (by kernel_rfl) (AH.le_refl _) ?_
    simp (dsimp := false) (maxSteps := 4000000) only [enc_len, enc_scal, lput_enc, take_enc, go_sem, ↓reduceIte, Nat.reduceEqDiff, Nat.reduceLT, Nat.reduceLeDiff, Nat.reduceAdd, Nat.reduceMul, Nat.reduceSub, reduceCtorEq, Int.reduceToNat, Int.reduceLT, Int.reduceLE, Int.reduceEq, Int.reduceNe, Int.reduceBEq, Nat.reduceBEq, Int.reduceBNe, Nat.reduceBNe, Int.reduceAdd, Int.reduceSub, Int.reduceMul, Int.reduceNeg]
    refine (awake_c _ (by rw [hB.kp.w0]; exact hE)).mono ?_; rintro _ _ ⟨rfl, rfl⟩
    simp (dsimp := false) (maxSteps := 4000000) only [enc_len, enc_scal, lput_enc, take_enc, go_sem, ↓reduceIte, Nat.reduceEqDiff, Nat.reduceLT, Nat.reduceLeDiff, Nat.reduceAdd, Nat.reduceMul, Nat.reduceSub, reduceCtorEq, Int.reduceToNat, Int.reduceLT, Int.reduceLE, Int.reduceEq, Int.reduceNe, Int.reduceBEq, Nat.reduceBEq, Int.reduceBNe, Nat.reduceBNe, Int.reduceAdd, Int.reduceSub, Int.reduceMul, Int.reduceNeg]
    refine (Files_c hB.st hB.ok).mono ?_
    rintro _ B ⟨vb, vc, V, rd4, rfl, hVp, hVs, hV, kG, _⟩
    have e2 : V.map RF.nf = Z.map RF.nf := Srt.uniq (hVp.trans hB.pm) hVs hB.so
    have hle := kG.all
    simp (dsimp := false) (maxSteps := 4000000) only [hle, r0, enc_len, enc_scal, lput_enc, take_enc, go_sem, ↓reduceIte, Nat.reduceEqDiff, Nat.reduceLT, Nat.reduceLeDiff, Nat.reduceAdd, Nat.reduceMul, Nat.reduceSub, reduceCtorEq, Int.reduceToNat, Int.reduceLT, Int.reduceLE, Int.reduceEq, Int.reduceNe, Int.reduceBEq, Nat.reduceBEq, Int.reduceBNe, Nat.reduceBNe, Int.reduceAdd, Int.reduceSub, Int.reduceMul, Int.reduceNeg]
    refine (Same_c hV (hZ.keep kG fun _ _ h => h)).mono ?_
    rintro _ _ ⟨rfl, rfl⟩
    rw [decide_eq_true e2]
    simp (dsimp := false) (maxSteps := 4000000) only [hle, enc_len, enc_scal, lput_enc, take_enc, go_sem, ↓reduceIte, Nat.reduceEqDiff, Nat.reduceLT, Nat.reduceLeDiff, Nat.reduceAdd, Nat.reduceMul, Nat.reduceSub, reduceCtorEq, Int.reduceToNat, Int.reduceLT, Int.reduceLE, Int.reduceEq, Int.reduceNe, Int.reduceBEq, Nat.reduceBEq, Int.reduceBNe, Nat.reduceBNe, Int.reduceAdd, Int.reduceSub, Int.reduceMul, Int.reduceNeg]
    exact ⟨H, (hB.kp.trans kG).all, rfl⟩
end Go.Proofs.YtmkbpdlijfjgkaaDoor.Ifs
