/- rose: contracts of one form; awake. -/
import Derived.Test.YtadbmmdmibiikaaRose5
namespace Go.Proofs.Ytadbmmdmibiikaa.Rose
set_option linter.unusedSimpArgs false
set_option linter.unusedVariables false
open Go Go.AX Go.Proofs Ty Go.Proofs.Ytadbmmdmibiikaa.File
set_option maxHeartbeats 4000000
set_option maxRecDepth 10000

/-- A slice that was made in a call. -/
structure Got (H H' : AH) (sz : Nat) (base : Option Addr) (cap : Nat) (R : List (List Value)) : Prop where
  slc : SlcIn H' sz base cap R
  new : ∀ a, base = some a → Fresh H a.block
  keep : Keep H H' fun _ => False
theorem Got.nil {H : AH} {sz : Nat} : Got H H sz none 0 [] := ⟨SlcIn.nil, (fun a h => by cases h), Keep.refl⟩
theorem Got.own {H H' : AH} {e sz cap : Nat} {base : Option Addr} {R : List (List Value)} (h : OwnS H H' e sz base cap R) (k : Keep H H' fun _ => False) : Got H H' sz base cap R := ⟨h.slc, h.fresh, k⟩
theorem Got.add {H : AH} {e sz cap m b : Nat} {R : List (List Value)} (hf : Fresh H b) (hR : ∀ r ∈ R, r.length = sz) (hl : R.length ≤ cap) (hb : R.length < 9223372036854775808) : Got H (H.add b (.cells R.flatten e m)) sz (some ⟨b, 0, none⟩) cap R :=
  ⟨SlcIn.own hR hl hb, fun a h => by cases h; exact hf, Keep.add hf⟩

def fP (L : List Int) : Int := if seqB L = true then 3 else 0
def fR (L : List Int) : List Rc := if seqB L = true then fileR L else []
def fE (L : List Int) : Int := if seqB L = true then 0 else 1
theorem fileR_len (L : List Int) : (fileR L).length = L.length + 1 := by simp [fileR]
theorem File_u (L : List Int) (base : Option Addr) (cap : Nat) (H : AH) (hs : SlcIn H 1 base cap (L.map e1)) :
    ACalls Try.prog 15 #[.slice base L.length cap] H (fun v H' => ∃ b c, v = .tuple #[.agg #[.int .i64 (fP L), .slice b (fR L).length c], .int .i64 (fE L)] ∧ Got H H' 4 b c ((fR L).map enc)) := by
  cases g : seqB L with
  | true =>
    have h1 : fR L = fileR L := by simp [fR, g]
    obtain ⟨_, hl⟩ := seqB_len g
    refine (File_ok L base cap H hs g).mono fun v H' ⟨b, h2, h3, h4⟩ => ⟨some ⟨b, 0, none⟩, L.length + 1, ?_, ?_⟩
    · rw [h1, fileR_len, h3]; simp [fP, fE, g]
    · rw [h1, h4]; exact Got.add h2 (rows4 _) (by rw [List.length_map, fileR_len]; omega) (by rw [List.length_map, fileR_len]; omega)
  | false =>
    have h1 : fR L = [] := by simp [fR, g]
    refine (File_bad L base cap H hs g).mono fun v H' ⟨h3, h4⟩ => ⟨none, 0, ?_, ?_⟩
    · rw [h1, h3]; simp [fP, fE, g, fbad]
    · rw [h1, ← h4]; exact Got.nil
theorem RefFile_u (L : List Int) (base : Option Addr) (cap : Nat) (H : AH) (hs : SlcIn H 1 base cap (L.map e1)) :
    ACalls Try.prog 17 #[.slice base L.length cap] H (fun v H' => ∃ b c, v = .tuple #[.agg #[.int .i64 (fP L), .slice b (fR L).length c], .int .i64 (fE L)] ∧ Got H H' 4 b c ((fR L).map enc)) := by
  cases g : seqB L with
  | true =>
    have h1 : fR L = fileR L := by simp [fR, g]
    refine (RefFile_ok L base cap H hs g).mono fun v H' ⟨b, c, h3, h4, h5⟩ => ⟨b, c, ?_, ?_⟩
    · rw [h1, fileR_len, h3]; simp [fP, fE, g]
    · rw [h1]; exact Got.own h4 h5
  | false =>
    have h1 : fR L = [] := by simp [fR, g]
    refine (RefFile_bad L base cap H hs g).mono fun v H' ⟨h3, h4⟩ => ⟨none, 0, ?_, ?_⟩
    · rw [h1, h3]; simp [fP, fE, g, fbad]
    · rw [h1, ← h4]; exact Got.nil
def sO (p : Int) (R : List Rc) : List Int := if sq p R = true then outF R.tail else []
def sE (p : Int) (R : List Rc) : Int := if sq p R = true then 0 else 2
theorem sq_nogood {p : Int} {R : List Rc} (g : goodF p R = false) : sq p R = false := by simp [sq, g]
theorem Sequence_u {p : Int} {R : List Rc} {n : Nat} {base : Option Addr} {cap : Nat} {H : AH} (hs : SlcIn H 4 base cap (R.map enc)) (hw : ∀ r ∈ R, RcOk r) (hn : n = R.length) :
    ACalls Try.prog 18 #[.agg #[.int .i64 p, .slice base n cap]] H (fun v H' => ∃ b c, v = .tuple #[.slice b (sO p R).length c, .int .i64 (sE p R)] ∧ Got H H' 1 b c ((sO p R).map e1)) := by
  subst hn
  have bad : ∀ v H', sq p R = false → v = sbad ∧ H = H' → ∃ b c, v = .tuple #[.slice b (sO p R).length c, .int .i64 (sE p R)] ∧ Got H H' 1 b c ((sO p R).map e1) := fun v H' hq ⟨h3, h4⟩ => by
    have h1 : sO p R = [] := by simp [sO, hq]
    refine ⟨none, 0, ?_, ?_⟩
    · rw [h1, h3]; simp [sE, hq, sbad]
    · rw [h1, ← h4]; exact Got.nil
  cases g : goodF p R with
  | false => exact (Sequence_nogood p R base cap H hs g).mono fun v H' h => bad v H' (sq_nogood g) h
  | true =>
    refine (Sequence_good p R base cap H hs hw g).mono fun v H' h => ?_
    rcases h with ⟨hq, h⟩ | ⟨hq, b, c, h3, h4, h5⟩
    · exact bad v H' hq h
    · have h1 : sO p R = outF R.tail := by simp [sO, hq]
      have hl : (outF R.tail).length = R.tail.length := by simp [outF]
      have hs := h4.clip
      rw [List.length_map, hl] at hs
      have hne : b ≠ none := fun e => by
        have := hq
        simp only [sq, Bool.and_eq_true] at this
        have h6 := seqB_len this.1.2
        rw [e] at h4
        rcases h4.at_ with ⟨_, h7, _⟩ | ⟨_, _, h7, _⟩
        · rw [List.map_eq_nil_iff] at h7; rw [h7] at h6; simp at h6
        · cases h7
      refine ⟨b, R.tail.length, ?_, ?_⟩
      · rw [h1, hl, h3]; simp [sE, hq]
      · rw [h1]
        cases b with
        | none => exact absurd rfl hne
        | some a => exact Got.own hs h5
theorem RefSequence_u {p : Int} {R : List Rc} {n : Nat} {base : Option Addr} {cap : Nat} {H : AH} (hs : SlcIn H 4 base cap (R.map enc)) (hw : ∀ r ∈ R, RcOk r) (hn : n = R.length) :
    ACalls Try.prog 19 #[.agg #[.int .i64 p, .slice base n cap]] H (fun v H' => ∃ b c, v = .tuple #[.slice b (sO p R).length c, .int .i64 (sE p R)] ∧ Got H H' 1 b c ((sO p R).map e1)) := by
  subst hn
  have bad : ∀ v H', sq p R = false → v = sbad ∧ H = H' → ∃ b c, v = .tuple #[.slice b (sO p R).length c, .int .i64 (sE p R)] ∧ Got H H' 1 b c ((sO p R).map e1) := fun v H' hq ⟨h3, h4⟩ => by
    have h1 : sO p R = [] := by simp [sO, hq]
    refine ⟨none, 0, ?_, ?_⟩
    · rw [h1, h3]; simp [sE, hq, sbad]
    · rw [h1, ← h4]; exact Got.nil
  cases g : goodF p R with
  | false => exact (RefSequence_nogood p R base cap H hs g).mono fun v H' h => bad v H' (sq_nogood g) h
  | true =>
    refine (RefSequence_good p R base cap H hs hw g).mono fun v H' h => ?_
    rcases h with ⟨hq, h⟩ | ⟨hq, b, c, h3, h4, h5⟩
    · exact bad v H' hq h
    · have h1 : sO p R = outF R.tail := by simp [sO, hq]
      have hl : (outF R.tail).length = R.tail.length := by simp [outF]
      refine ⟨b, c, ?_, ?_⟩
      · rw [h1, hl, h3]; simp [sE, hq]
      · rw [h1]; exact Got.own h4 h5
open Classical in
noncomputable def nN (L : List Int) (a : Int) : Int := if okAt L a then L.getD a.toNat 0 else 0
open Classical in
noncomputable def nA (L : List Int) (a : Int) : Int := if okAt L a then (((a.toNat + 1) % L.length : Nat) : Int) else 0
open Classical in
noncomputable def nE (L : List Int) (a : Int) : Int := if okAt L a then 0 else 1
theorem Next_u {L : List Int} {a : Int} {n : Nat} {base : Option Addr} {cap : Nat} {H : AH} (hs : SlcIn H 1 base cap (L.map e1)) (hn : n = L.length) :
    ACalls Try.prog 20 #[.slice base n cap, .int .i64 a] H (fun v H' => v = .tuple #[.int .i64 (nN L a), .int .i64 (nA L a), .int .i64 (nE L a)] ∧ H = H') := by
  subst hn
  by_cases h : okAt L a
  · obtain ⟨k, rfl⟩ : ∃ k : Nat, a = k := ⟨a.toNat, by have := h.2.1; omega⟩
    obtain ⟨m, hm⟩ := get_some (l := L) (i := k) (by have := h.2.2; omega)
    have h1 : L.getD k 0 = m := by rw [List.getD_eq_getElem?_getD, hm]; rfl
    refine (Next_ok L k m base cap H hs h.1 hm).mono fun v H' ⟨h3, h4⟩ => ⟨?_, h4⟩
    rw [h3, nN, nA, nE, if_pos h, if_pos h, if_pos h, Int.toNat_natCast, h1]
  · refine (Next_bad L a base cap H hs h).mono fun v H' ⟨h3, h4⟩ => ⟨?_, h4⟩
    rw [h3, nN, nA, nE, if_neg h, if_neg h, if_neg h, nbad]
theorem RefNext_u {L : List Int} {a : Int} {n : Nat} {base : Option Addr} {cap : Nat} {H : AH} (hs : SlcIn H 1 base cap (L.map e1)) (hn : n = L.length) :
    ACalls Try.prog 21 #[.slice base n cap, .int .i64 a] H (fun v H' => v = .tuple #[.int .i64 (nN L a), .int .i64 (nA L a), .int .i64 (nE L a)] ∧ H = H') := by
  subst hn
  by_cases h : okAt L a
  · obtain ⟨k, rfl⟩ : ∃ k : Nat, a = k := ⟨a.toNat, by have := h.2.1; omega⟩
    obtain ⟨m, hm⟩ := get_some (l := L) (i := k) (by have := h.2.2; omega)
    have h1 : L.getD k 0 = m := by rw [List.getD_eq_getElem?_getD, hm]; rfl
    refine (RefNext_ok L k m base cap H hs h.1 hm).mono fun v H' ⟨h3, h4⟩ => ⟨?_, h4⟩
    rw [h3, nN, nA, nE, if_pos h, if_pos h, if_pos h, Int.toNat_natCast, h1]
  · refine (RefNext_bad L a base cap H hs h).mono fun v H' ⟨h3, h4⟩ => ⟨?_, h4⟩
    rw [h3, nN, nA, nE, if_neg h, if_neg h, if_neg h, nbad]
theorem fR_ok (L : List Int) : ∀ r ∈ fR L, RcOk r := fun r hr => by
  unfold fR at hr
  split at hr
  · rename_i g
    have hu := fun x : Int => (show 0 ≤ IntKind.u8.wrap x ∧ IntKind.u8.wrap x ≤ 255 from by rw [u8w]; omega)
    simp only [fileR, List.mem_cons, List.mem_map] at hr
    rcases hr with rfl | ⟨n, _, rfl⟩
    · refine ⟨hu _, hu _, by simp [hd], ?_⟩
      exact hu _
    · exact ⟨hu _, by simp [fb], by simp [fb], by simp [fb]⟩
  · cases hr

/-- What a call has made, over own blocks. -/
theorem _root_.Go.AX.Keep.row {H A : AH} {b n e m : Nat} {cs : List Value} (h : Keep H A fun _ => False) (hf : H.find b = some (.cells cs e m)) (hn : cs.length = n) : A.row b 0 n = some cs := by
  have := row_find (off := 0) (n := n) (h.find (fun h => h) hf) (by omega)
  rw [this, List.drop_zero, List.take_of_length_le (by omega)]
theorem awake_c (H : AH) : ACalls Try.prog 22 #[] H (fun v H' => v = .bool true ∧ H = H') := by
  refine ACalls.enter2 Try.func22 rfl Try.ntmps22 Try.results22 (by simp) ?_; simp (dsimp := false) (maxSteps := 4000000) only [go_sem, ↓reduceIte, Nat.reduceEqDiff, Nat.reduceLT, Nat.reduceLeDiff, Nat.reduceAdd, Nat.reduceMul, Nat.reduceSub, reduceCtorEq, Int.reduceToNat, Int.reduceLT, Int.reduceLE, Int.reduceEq, Int.reduceNe, Int.reduceBEq, Nat.reduceBEq, Int.reduceBNe, Nat.reduceBNe, Int.reduceAdd, Int.reduceSub, Int.reduceMul, Int.reduceNeg]
  refine AllB.mk fun ba h_ba => ?_; have hn_ba := h_ba; (try simp only [fresh_add, fresh_set, ne_eq] at hn_ba); have hr_ba := hn_ba; (try simp only [@eq_comm Nat ba] at hr_ba); simp (dsimp := false) (maxSteps := 4000000) only [hn_ba, hr_ba, go_sem, ↓reduceIte, Nat.reduceEqDiff, Nat.reduceLT, Nat.reduceLeDiff, Nat.reduceAdd, Nat.reduceMul, Nat.reduceSub, reduceCtorEq, Int.reduceToNat, Int.reduceLT, Int.reduceLE, Int.reduceEq, Int.reduceNe, Int.reduceBEq, Nat.reduceBEq, Int.reduceBNe, Nat.reduceBNe, Int.reduceAdd, Int.reduceSub, Int.reduceMul, Int.reduceNeg]
  refine (File_u [2, 5] (some ⟨ba, 0, none⟩) 2 _ (SlcIn.own (R := [[.int .i64 2], [.int .i64 5]]) (by decide) (by decide) (by decide))).mono ?_; rintro _ A ⟨b_, c_, rfl, hG⟩
  have f1 : fR [2, 5] = [(2, 3, 165, 164), (2, 0, 0, 0), (5, 0, 0, 0)] := by decide
  have f2 : fP [2, 5] = 3 := by decide
  have f3 : fE [2, 5] = 0 := by decide
  rw [f1] at hG ⊢
  
  simp (dsimp := false) (maxSteps := 4000000) only [f2, f3, go_sem, ↓reduceIte, Nat.reduceEqDiff, Nat.reduceLT, Nat.reduceLeDiff, Nat.reduceAdd, Nat.reduceMul, Nat.reduceSub, reduceCtorEq, Int.reduceToNat, Int.reduceLT, Int.reduceLE, Int.reduceEq, Int.reduceNe, Int.reduceBEq, Nat.reduceBEq, Int.reduceBNe, Nat.reduceBNe, Int.reduceAdd, Int.reduceSub, Int.reduceMul, Int.reduceNeg]
  refine AllB.mk fun b1 h_b1 => ?_; have hn_b1 := h_b1; (try simp only [fresh_add, fresh_set, ne_eq] at hn_b1); have hr_b1 := hn_b1; (try simp only [@eq_comm Nat b1] at hr_b1); simp (dsimp := false) (maxSteps := 4000000) only [hn_b1, hr_b1, go_sem, ↓reduceIte, Nat.reduceEqDiff, Nat.reduceLT, Nat.reduceLeDiff, Nat.reduceAdd, Nat.reduceMul, Nat.reduceSub, reduceCtorEq, Int.reduceToNat, Int.reduceLT, Int.reduceLE, Int.reduceEq, Int.reduceNe, Int.reduceBEq, Nat.reduceBEq, Int.reduceBNe, Nat.reduceBNe, Int.reduceAdd, Int.reduceSub, Int.reduceMul, Int.reduceNeg]
  refine (Sequence_u (p := 3) (R := [(2, 3, 165, 164), (2, 0, 0, 0), (5, 0, 0, 0)]) (hG.slc.add h_b1) (by rw [← f1]; exact fR_ok _) rfl).mono ?_; rintro _ A2 ⟨b2_, c2_, rfl, hG2⟩
  have f4 : sO 3 [(2, 3, 165, 164), (2, 0, 0, 0), (5, 0, 0, 0)] = [2, 5] := by decide
  have f5 : sE 3 [(2, 3, 165, 164), (2, 0, 0, 0), (5, 0, 0, 0)] = 0 := by decide
  rw [f4] at hG2 ⊢
  
  simp (dsimp := false) (maxSteps := 4000000) only [f5, go_sem, ↓reduceIte, Nat.reduceEqDiff, Nat.reduceLT, Nat.reduceLeDiff, Nat.reduceAdd, Nat.reduceMul, Nat.reduceSub, reduceCtorEq, Int.reduceToNat, Int.reduceLT, Int.reduceLE, Int.reduceEq, Int.reduceNe, Int.reduceBEq, Nat.reduceBEq, Int.reduceBNe, Nat.reduceBNe, Int.reduceAdd, Int.reduceSub, Int.reduceMul, Int.reduceNeg]
  refine (Next_u (L := [2, 5]) (a := 1) hG2.slc rfl).mono ?_; rintro _ _ ⟨rfl, rfl⟩
  have ok : okAt [2, 5] 1 := ⟨by decide, by decide, by decide⟩
  have g1 : nN [2, 5] 1 = 5 := by rw [nN, if_pos ok]; rfl
  have g2 : nA [2, 5] 1 = 0 := by rw [nA, if_pos ok]; rfl
  have g3 : nE [2, 5] 1 = 0 := by rw [nE, if_pos ok]
  simp (dsimp := false) (maxSteps := 4000000) only [g1, g2, g3, go_sem, ↓reduceIte, Nat.reduceEqDiff, Nat.reduceLT, Nat.reduceLeDiff, Nat.reduceAdd, Nat.reduceMul, Nat.reduceSub, reduceCtorEq, Int.reduceToNat, Int.reduceLT, Int.reduceLE, Int.reduceEq, Int.reduceNe, Int.reduceBEq, Nat.reduceBEq, Int.reduceBNe, Nat.reduceBNe, Int.reduceAdd, Int.reduceSub, Int.reduceMul, Int.reduceNeg]
  refine AllB.mk fun b27 h_b27 => ?_; have hn_b27 := h_b27; (try simp only [fresh_add, fresh_set, ne_eq] at hn_b27); have hr_b27 := hn_b27; (try simp only [@eq_comm Nat b27] at hr_b27); simp (dsimp := false) (maxSteps := 4000000) only [hn_b27, hr_b27, go_sem, ↓reduceIte, Nat.reduceEqDiff, Nat.reduceLT, Nat.reduceLeDiff, Nat.reduceAdd, Nat.reduceMul, Nat.reduceSub, reduceCtorEq, Int.reduceToNat, Int.reduceLT, Int.reduceLE, Int.reduceEq, Int.reduceNe, Int.reduceBEq, Nat.reduceBEq, Int.reduceBNe, Nat.reduceBNe, Int.reduceAdd, Int.reduceSub, Int.reduceMul, Int.reduceNeg]
  refine (File_u [6] (some ⟨b27, 0, none⟩) 1 _ (SlcIn.own (R := [[.int .i64 6]]) (by decide) (by decide) (by decide))).mono ?_; rintro _ A3 ⟨b3_, c3_, rfl, hG3⟩
  have f6 : fR [6] = [] := by decide
  have f7 : fP [6] = 0 := by decide
  have f8 : fE [6] = 1 := by decide
  rw [f6] at hG3 ⊢
  
  simp (dsimp := false) (maxSteps := 4000000) only [f7, f8, go_sem, ↓reduceIte, Nat.reduceEqDiff, Nat.reduceLT, Nat.reduceLeDiff, Nat.reduceAdd, Nat.reduceMul, Nat.reduceSub, reduceCtorEq, Int.reduceToNat, Int.reduceLT, Int.reduceLE, Int.reduceEq, Int.reduceNe, Int.reduceBEq, Nat.reduceBEq, Int.reduceBNe, Nat.reduceBNe, Int.reduceAdd, Int.reduceSub, Int.reduceMul, Int.reduceNeg]
  refine AllB.mk fun b8 h_b8 => ?_; have hn_b8 := h_b8; (try simp only [fresh_add, fresh_set, ne_eq] at hn_b8); have hr_b8 := hn_b8; (try simp only [@eq_comm Nat b8] at hr_b8); simp (dsimp := false) (maxSteps := 4000000) only [hn_b8, hr_b8, go_sem, ↓reduceIte, Nat.reduceEqDiff, Nat.reduceLT, Nat.reduceLeDiff, Nat.reduceAdd, Nat.reduceMul, Nat.reduceSub, reduceCtorEq, Int.reduceToNat, Int.reduceLT, Int.reduceLE, Int.reduceEq, Int.reduceNe, Int.reduceBEq, Nat.reduceBEq, Int.reduceBNe, Nat.reduceBNe, Int.reduceAdd, Int.reduceSub, Int.reduceMul, Int.reduceNeg]
  exact ⟨H, AH.le_add (AH.le_trans (AH.le_add (AH.le_trans (AH.le_add (AH.le_trans (AH.le_add (AH.le_refl _) h_ba.2) hG.keep.all) h_b1.2) hG2.keep.all) h_b27.2) hG3.keep.all) h_b8.2, rfl⟩
end Go.Proofs.Ytadbmmdmibiikaa.Rose
