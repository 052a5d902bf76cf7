/- ifs: do, Do. -/
import Derived.Test.YtmkbpdlijfjgkaaDoorIfs4
import Derived.Test.YtmkbpdlijfjgkaaDoorAx23
namespace Go.Proofs.YtmkbpdlijfjgkaaDoor.Ifs
set_option linter.unusedSimpArgs false
set_option linter.unusedVariables false
open Go Go.AX Go.Proofs Ty Go.Proofs.YtmkbpdlijfjgkaaDoor.File Go.Proofs.YtmkbpdlijfjgkaaDoor.Err
set_option maxHeartbeats 4000000
set_option maxRecDepth 10000

theorem StIn.rep {H : AH} {b bm k : Nat} {ms : List MF} {den : Int} {m m' : MF} {T : AH} (h : StIn H b bm ms den) (hk : ms[k]? = some m) (hn : m'.n = m.n) (hf : Fresh H m'.blk) (hb : m'.R.length * 4 ≤ m'.bs)
    (hT : T = (H.set bm (.amap ((ms.map MF.ent).set k m'.ent))).add m'.blk (.cells (m'.R.map enc).flatten 32 m'.bs)) : StIn T b bm (ms.set k m') den := by
  subst hT
  have e1 : b ≠ m'.blk := fun e => by have := hf.2; rw [← e, h.top] at this; cases this
  have e2 : bm ≠ m'.blk := fun e => by have := hf.2; rw [← e, h.map] at this; cases this
  have e4 : ∀ x ∈ ms, x.blk ≠ m'.blk := fun x hx e => by have h2 := hf.2; rw [← e, (h.rows x hx).1] at h2; cases h2
  refine ⟨?_, ?_, fun x hx => ?_, ?_, ?_⟩
  · rw [find_add, if_neg e1, find_set, if_neg h.ne1]; exact h.top
  · rw [find_add, if_neg e2, find_set, if_pos rfl, List.map_set]
  · rcases List.mem_or_eq_of_mem_set hx with hx | rfl
    · have := h.rows x hx
      exact ⟨by rw [find_add, if_neg (e4 x hx), find_set, if_neg (h.ne3 hx)]; exact this.1, this.2⟩
    · exact ⟨by rw [find_add, if_pos rfl], hb⟩
  · rw [List.map_set, List.Nodup, List.pairwise_iff_getElem]
    intro i j hi hj hij
    have hnd := h.nd
    rw [List.Nodup, List.pairwise_iff_getElem] at hnd
    simp only [List.length_set, List.length_map] at hi hj
    rw [List.getElem_set, List.getElem_set]
    split
    · rw [if_neg (by omega)]
      have := e4 ms[j] (List.getElem_mem _)
      simpa using fun e => this e.symm
    · split
      · have := e4 ms[i] (List.getElem_mem _)
        simpa using this
      · exact hnd i j (by simpa using hi) (by simpa using hj) hij
  · rw [setMs hk hn h.kd]; exact rp_kd h.kd
theorem StIn.ftR {b bm k : Nat} {ms : List MF} {m' : MF} {ft : Nat → Prop} (h : ∀ x, ftOf b bm ms x → ft x) {x : Nat} (hx : ftOf b bm (ms.set k m') x) : ft x ∨ x = m'.blk := by
  rcases hx with hx | hx | ⟨y, hy, rfl⟩
  · exact .inl (h x (.inl hx))
  · exact .inl (h x (.inr (.inl hx)))
  · rcases List.mem_or_eq_of_mem_set hy with hy | rfl
    · exact .inl (h _ (.inr (.inr ⟨y, hy, rfl⟩)))
    · exact .inr rfl
theorem agood_in {a b c : Int} (h : agood a b c = true) : 0 ≤ a ∧ a ≤ 2 ∧ 0 ≤ b ∧ b < 64 ∧ 0 ≤ c ∧ c < 256 := by simpa [agood] using h
theorem doR_len (R : List Rc) (op : Int) (i : Nat) (v : Rc) : (doR R op i v).length = R.length := by
  unfold doR; split
  · simp
  · split <;> simp
theorem do_c {H : AH} {b : Nat} {X : List Nf} {den : Int} {ft : Nat → Prop} (h : StAt H b X den ft) (hX : OkX X) (op fl rec : Int) (v : Rc) :
    ACalls Tryd.prog 29 #[.pointer (some ⟨b, 0, none⟩), .agg #[.int .i64 op, .int .i64 fl, .int .i64 rec], .agg (enc v).toArray] H
      (fun u H' => ∃ ev ft', u = .tuple #[.agg (enc (doW X op fl rec v)).toArray, ev] ∧ ErrV H' ev (doE X op fl rec) ∧ StAt H' b (doX X op fl rec v) den ft' ∧ Keep H H' ft ∧ ∀ x, ft' x → ft x ∨ Fresh H x) := by
  have bad : ∀ {e : Int} {T H' : AH} {ev : Value}, doE X op fl rec = e → e ≠ 0 → H'.le T → Keep H H' (fun _ => False) → ErrV H' ev e → ∃ H', H'.le T ∧ ∃ ev' ft', Value.tuple #[.agg (enc zr).toArray, ev] = .tuple #[.agg (enc (doW X op fl rec v)).toArray, ev'] ∧ ErrV H' ev' (doE X op fl rec) ∧ StAt H' b (doX X op fl rec v) den ft' ∧ Keep H H' ft ∧ ∀ x, ft' x → ft x ∨ Fresh H x := fun {e T H' ev} he h0 hl hK hv => by
    have hx : doX X op fl rec v = X := by rw [doX, he, if_neg h0]
    have hw : doW X op fl rec v = zr := by rw [doW, he, if_neg h0]
    exact ⟨H', hl, ev, ft, by rw [hw], he ▸ hv, by rw [hx]; exact h.keep hK fun _ _ h => h, hK.mono fun _ h => h.elim, fun x h => .inl h⟩
  refine ACalls.enter2 Tryd.func29 rfl Tryd.ntmps29 Tryd.results29 (by simp) ?_; simp (dsimp := false) (maxSteps := 4000000) only [enc_len, enc_scal, lput_enc, take_enc, go_sem, ↓reduceIte, Nat.reduceEqDiff, Nat.reduceLT, Nat.reduceLeDiff, Nat.reduceAdd, Nat.reduceMul, Nat.reduceSub, reduceCtorEq, Int.reduceToNat, Int.reduceLT, Int.reduceLE, Int.reduceEq, Int.reduceNe, Int.reduceBEq, Nat.reduceBEq, Int.reduceBNe, Nat.reduceBNe, Int.reduceAdd, Int.reduceSub, Int.reduceMul, Int.reduceNeg]
  refine AllB.mk fun b4 h_b4 => ?_; have hn_b4 := h_b4; (try simp only [fresh_add, fresh_set, ne_eq] at hn_b4); have hr_b4 := hn_b4; (try simp only [@eq_comm Nat b4] at hr_b4); simp (dsimp := false) (maxSteps := 4000000) only [enc_len, enc_scal, lput_enc, take_enc, hn_b4, hr_b4, go_sem, ↓reduceIte, Nat.reduceEqDiff, Nat.reduceLT, Nat.reduceLeDiff, Nat.reduceAdd, Nat.reduceMul, Nat.reduceSub, reduceCtorEq, Int.reduceToNat, Int.reduceLT, Int.reduceLE, Int.reduceEq, Int.reduceNe, Int.reduceBEq, Nat.reduceBEq, Int.reduceBNe, Nat.reduceBNe, Int.reduceAdd, Int.reduceSub, Int.reduceMul, Int.reduceNeg]
  refine AllB.mk fun b5 h_b5 => ?_; have hn_b5 := h_b5; (try simp only [fresh_add, fresh_set, ne_eq] at hn_b5); have hr_b5 := hn_b5; (try simp only [@eq_comm Nat b5] at hr_b5); simp (dsimp := false) (maxSteps := 4000000) only [enc_len, enc_scal, lput_enc, take_enc, hn_b4, hr_b4, hn_b5, hr_b5, go_sem, ↓reduceIte, Nat.reduceEqDiff, Nat.reduceLT, Nat.reduceLeDiff, Nat.reduceAdd, Nat.reduceMul, Nat.reduceSub, reduceCtorEq, Int.reduceToNat, Int.reduceLT, Int.reduceLE, Int.reduceEq, Int.reduceNe, Int.reduceBEq, Nat.reduceBEq, Int.reduceBNe, Nat.reduceBNe, Int.reduceAdd, Int.reduceSub, Int.reduceMul, Int.reduceNeg]
  refine AllB.mk fun b6 h_b6 => ?_; have hn_b6 := h_b6; (try simp only [fresh_add, fresh_set, ne_eq] at hn_b6); have hr_b6 := hn_b6; (try simp only [@eq_comm Nat b6] at hr_b6); simp (dsimp := false) (maxSteps := 4000000) only [enc_len, enc_scal, lput_enc, take_enc, hn_b4, hr_b4, hn_b5, hr_b5, hn_b6, hr_b6, go_sem, ↓reduceIte, Nat.reduceEqDiff, Nat.reduceLT, Nat.reduceLeDiff, Nat.reduceAdd, Nat.reduceMul, Nat.reduceSub, reduceCtorEq, Int.reduceToNat, Int.reduceLT, Int.reduceLE, Int.reduceEq, Int.reduceNe, Int.reduceBEq, Nat.reduceBEq, Int.reduceBNe, Nat.reduceBNe, Int.reduceAdd, Int.reduceSub, Int.reduceMul, Int.reduceNeg]
  refine (Go.Proofs.YtmkbpdlijfjgkaaDoor.Good_c op fl rec _).mono ?_; rintro _ _ ⟨rfl, rfl⟩
  cases hg : agood op fl rec with
  | false =>
    simp (dsimp := false) (maxSteps := 4000000) only [enc_len, enc_scal, lput_enc, take_enc, hn_b4, hr_b4, hn_b5, hr_b5, hn_b6, hr_b6, go_sem, ↓reduceIte, Nat.reduceEqDiff, Nat.reduceLT, Nat.reduceLeDiff, Nat.reduceAdd, Nat.reduceMul, Nat.reduceSub, reduceCtorEq, Int.reduceToNat, Int.reduceLT, Int.reduceLE, Int.reduceEq, Int.reduceNe, Int.reduceBEq, Nat.reduceBEq, Int.reduceBNe, Nat.reduceBNe, Int.reduceAdd, Int.reduceSub, Int.reduceMul, Int.reduceNeg]
    exact bad (e := 1) (H' := H) (by simp [doE, hg]) (by decide) (AH.le_add (AH.le_add (AH.le_add (AH.le_refl _) ((by simp only [enc_len, enc_scal, lput_enc, take_enc, fresh_add, fresh_set, ne_eq, hn_b4, not_false_eq_true, and_self] : Fresh _ b4).2)) ((by simp only [enc_len, enc_scal, lput_enc, take_enc, fresh_add, fresh_set, ne_eq, hn_b5, not_false_eq_true, and_self] : Fresh _ b5).2)) ((by simp only [enc_len, enc_scal, lput_enc, take_enc, fresh_add, fresh_set, ne_eq, hn_b6, not_false_eq_true, and_self] : Fresh _ b6).2)) Keep.refl (.inr (.inl rfl))
  | true =>
    obtain ⟨hop0, hop1, hfl0, hfl1, hrec0, hrec1⟩ := agood_in hg
    obtain ⟨bm, ms, h1, rfl, hft⟩ := h
    have r0 : H.rd ⟨b, 0, none⟩ = some (.map (some bm)) := by rw [rd_find h1.top]; rfl
    have hmp : H.mp bm = some (ms.map MF.ent) := by rw [AH.mp, h1.map]
    have hms : ∀ es, H.mset bm es = some (H.set bm (.amap es)) := fun es => by rw [AH.mset, h1.map]
    have n1 : ¬ b4 = b := h_b4.ne_find h1.top
    have n2 : ¬ b4 = bm := h_b4.ne_find h1.map
    have n3 : ¬ b5 = b := hn_b5.2.ne_find h1.top
    have n4 : ¬ b5 = bm := hn_b5.2.ne_find h1.map
    have n5 : ¬ b6 = b := hn_b6.2.2.ne_find h1.top
    have n6 : ¬ b6 = bm := hn_b6.2.2.ne_find h1.map
    simp (dsimp := false) (maxSteps := 4000000) only [enc_len, enc_scal, lput_enc, take_enc, hn_b4, hr_b4, hn_b5, hr_b5, hn_b6, hr_b6, go_sem, ↓reduceIte, Nat.reduceEqDiff, Nat.reduceLT, Nat.reduceLeDiff, Nat.reduceAdd, Nat.reduceMul, Nat.reduceSub, reduceCtorEq, Int.reduceToNat, Int.reduceLT, Int.reduceLE, Int.reduceEq, Int.reduceNe, Int.reduceBEq, Nat.reduceBEq, Int.reduceBNe, Nat.reduceBNe, Int.reduceAdd, Int.reduceSub, Int.reduceMul, Int.reduceNeg]
    refine AWp.gen [.pu, .pu, .pu, .rd, .pu, .rd, .ch, .pu, .pu, .pu, .al, .ch, .pu] [0, 1, 3, 7, 0, 16, 63, 127, 255, 255, 0, 1535, 4095] 0 (_) mixed (by kernel_rfl) (AH.le_refl _) ?_
    rcases h1.at_ fl with ⟨hm, hl⟩ | ⟨k, m, hm, hk, hn, hl⟩
    · have he : doE (ms.map MF.nf) op fl rec = 3 := by simp [doE, hg, hl]
      
      simp (dsimp := false) (maxSteps := 4000000) only [r0, n1, n2, n3, n4, n5, n6, hmp, hm, enc_len, enc_scal, lput_enc, take_enc, hn_b4, hr_b4, hn_b5, hr_b5, hn_b6, hr_b6, go_sem, ↓reduceIte, Nat.reduceEqDiff, Nat.reduceLT, Nat.reduceLeDiff, Nat.reduceAdd, Nat.reduceMul, Nat.reduceSub, reduceCtorEq, Int.reduceToNat, Int.reduceLT, Int.reduceLE, Int.reduceEq, Int.reduceNe, Int.reduceBEq, Nat.reduceBEq, Int.reduceBNe, Nat.reduceBNe, Int.reduceAdd, Int.reduceSub, Int.reduceMul, Int.reduceNeg]
      refine AllB.mk fun b8 h_b8 => ?_; have hn_b8 := h_b8; (try simp only [fresh_add, fresh_set, ne_eq] at hn_b8); have hr_b8 := hn_b8; (try simp only [@eq_comm Nat b8] at hr_b8); simp (dsimp := false) (maxSteps := 4000000) only [enc_len, enc_scal, lput_enc, take_enc, hn_b4, hr_b4, hn_b5, hr_b5, hn_b6, hr_b6, hn_b8, hr_b8, go_sem, ↓reduceIte, Nat.reduceEqDiff, Nat.reduceLT, Nat.reduceLeDiff, Nat.reduceAdd, Nat.reduceMul, Nat.reduceSub, reduceCtorEq, Int.reduceToNat, Int.reduceLT, Int.reduceLE, Int.reduceEq, Int.reduceNe, Int.reduceBEq, Nat.reduceBEq, Int.reduceBNe, Nat.reduceBNe, Int.reduceAdd, Int.reduceSub, Int.reduceMul, Int.reduceNeg]
      refine AWp.genp [.pu, .pu, .rd, .pu, .pu, .al, .pu, .ch, .pu] [0, 0, 2, 0, 14, 30, 62, 1, 255] [0, 1, 2, 3, 4, 7, 5, 6, 8] 10 (_) mixed (by kernel_rfl) (AH.le_refl _) ?_; rw [nd_eq]; simp (dsimp := false) only [prm_nil, prm_eq, pm_some, List.getElem?_cons_zero, List.getElem?_cons_succ, ↓reduceIte, Nat.reduceEqDiff, Nat.reduceLT, Nat.reduceLeDiff, Nat.reduceAdd, Nat.reduceMul, Nat.reduceSub, reduceCtorEq, Int.reduceToNat, Int.reduceLT, Int.reduceLE, Int.reduceEq, Int.reduceNe, Int.reduceBEq, Nat.reduceBEq, Int.reduceBNe, Nat.reduceBNe, Int.reduceAdd, Int.reduceSub, Int.reduceMul, Int.reduceNeg]
      simp (dsimp := false) (maxSteps := 4000000) only [enc_len, enc_scal, lput_enc, take_enc, hn_b4, hr_b4, hn_b5, hr_b5, hn_b6, hr_b6, hn_b8, hr_b8, go_sem, ↓reduceIte, Nat.reduceEqDiff, Nat.reduceLT, Nat.reduceLeDiff, Nat.reduceAdd, Nat.reduceMul, Nat.reduceSub, reduceCtorEq, Int.reduceToNat, Int.reduceLT, Int.reduceLE, Int.reduceEq, Int.reduceNe, Int.reduceBEq, Nat.reduceBEq, Int.reduceBNe, Nat.reduceBNe, Int.reduceAdd, Int.reduceSub, Int.reduceMul, Int.reduceNeg]
      refine AllB.mk fun bf h_bf => ?_; have hn_bf := h_bf; (try simp only [fresh_add, fresh_set, ne_eq] at hn_bf); have hr_bf := hn_bf; (try simp only [@eq_comm Nat bf] at hr_bf); simp (dsimp := false) (maxSteps := 4000000) only [enc_len, enc_scal, lput_enc, take_enc, hn_b4, hr_b4, hn_b5, hr_b5, hn_b6, hr_b6, hn_b8, hr_b8, hn_bf, hr_bf, go_sem, ↓reduceIte, Nat.reduceEqDiff, Nat.reduceLT, Nat.reduceLeDiff, Nat.reduceAdd, Nat.reduceMul, Nat.reduceSub, reduceCtorEq, Int.reduceToNat, Int.reduceLT, Int.reduceLE, Int.reduceEq, Int.reduceNe, Int.reduceBEq, Nat.reduceBEq, Int.reduceBNe, Nat.reduceBNe, Int.reduceAdd, Int.reduceSub, Int.reduceMul, Int.reduceNeg]
      exact bad (e := 3) (H' := H.add bf (.cells [.int .i64 fl, .iface 38 (.int .i64 3)] 99 2)) he (by decide) (AH.le_cons (find_add_self _ _ _) (AH.le_add (AH.le_add (AH.le_add (AH.le_add (AH.le_add (AH.le_refl _) ((by simp only [enc_len, enc_scal, lput_enc, take_enc, fresh_add, fresh_set, ne_eq, hn_b4, not_false_eq_true, and_self] : Fresh _ b4).2)) ((by simp only [enc_len, enc_scal, lput_enc, take_enc, fresh_add, fresh_set, ne_eq, hn_b5, not_false_eq_true, and_self] : Fresh _ b5).2)) ((by simp only [enc_len, enc_scal, lput_enc, take_enc, fresh_add, fresh_set, ne_eq, hn_b6, not_false_eq_true, and_self] : Fresh _ b6).2)) ((by simp only [enc_len, enc_scal, lput_enc, take_enc, fresh_add, fresh_set, ne_eq, hn_b8, not_false_eq_true, and_self] : Fresh _ b8).2)) ((by simp only [enc_len, enc_scal, lput_enc, take_enc, fresh_add, fresh_set, ne_eq, hn_bf, not_false_eq_true, and_self] : Fresh _ bf).2))) (Keep.add hn_bf.2.2.2.2) (.inr (.inr ⟨bf, 0, rfl, by rw [rd_add_self]; rfl⟩))
      
    · obtain ⟨i, rfl⟩ : ∃ i : Nat, rec = i := ⟨rec.toNat, by omega⟩
      obtain ⟨_, hgd, _⟩ := hX.lk hl
      obtain ⟨hl1, hl2⟩ := goodF_len hgd
      dsimp only at hl1 hl2
      have hmem := List.mem_of_getElem? hk
      have hs := h1.slc hmem (by omega)
      have he : doE (ms.map MF.nf) op fl i = mayF m.p m.R op i := by simp [doE, hg, hl]
      unfold MF.val fv at hm
      
      simp (dsimp := false) (maxSteps := 4000000) only [r0, n1, n2, n3, n4, n5, n6, hmp, hm, enc_len, enc_scal, lput_enc, take_enc, hn_b4, hr_b4, hn_b5, hr_b5, hn_b6, hr_b6, go_sem, ↓reduceIte, Nat.reduceEqDiff, Nat.reduceLT, Nat.reduceLeDiff, Nat.reduceAdd, Nat.reduceMul, Nat.reduceSub, reduceCtorEq, Int.reduceToNat, Int.reduceLT, Int.reduceLE, Int.reduceEq, Int.reduceNe, Int.reduceBEq, Nat.reduceBEq, Int.reduceBNe, Nat.reduceBNe, Int.reduceAdd, Int.reduceSub, Int.reduceMul, Int.reduceNeg]
      refine AllB.mk fun b8 h_b8 => ?_; have hn_b8 := h_b8; (try simp only [fresh_add, fresh_set, ne_eq] at hn_b8); have hr_b8 := hn_b8; (try simp only [@eq_comm Nat b8] at hr_b8); simp (dsimp := false) (maxSteps := 4000000) only [enc_len, enc_scal, lput_enc, take_enc, hn_b4, hr_b4, hn_b5, hr_b5, hn_b6, hr_b6, hn_b8, hr_b8, go_sem, ↓reduceIte, Nat.reduceEqDiff, Nat.reduceLT, Nat.reduceLeDiff, Nat.reduceAdd, Nat.reduceMul, Nat.reduceSub, reduceCtorEq, Int.reduceToNat, Int.reduceLT, Int.reduceLE, Int.reduceEq, Int.reduceNe, Int.reduceBEq, Nat.reduceBEq, Int.reduceBNe, Nat.reduceBNe, Int.reduceAdd, Int.reduceSub, Int.reduceMul, Int.reduceNeg]
      by_cases hmay : mayF m.p m.R op i = 0
      · have hc := fun H1 (h1 : SlcIn H1 4 (some ⟨m.blk, 0, none⟩) m.R.length (m.R.map enc)) => Do_ok m.p op i m.R v _ _ H1 h1 hmay
        unfold fv at hc
        
        refine (hc _ ((((hs.add (by simp only [fresh_add, ne_eq, hn_b4, not_false_eq_true, and_self] : Fresh _ b4)).add (by simp only [fresh_add, ne_eq, hn_b5, not_false_eq_true, and_self] : Fresh _ b5)).add (by simp only [fresh_add, ne_eq, hn_b6, not_false_eq_true, and_self] : Fresh _ b6)).add (by simp only [fresh_add, ne_eq, hn_b8, not_false_eq_true, and_self] : Fresh _ b8))).mono ?_; rintro _ _ ⟨b9, bs, h_b9, rfl, hbs, rfl⟩
        have hn_b9 := h_b9; (try simp only [fresh_add, fresh_set, ne_eq] at hn_b9); have hr_b9 := hn_b9; (try simp only [@eq_comm Nat b9] at hr_b9)
        simp (dsimp := false) (maxSteps := 4000000) only [enc_len, enc_scal, lput_enc, take_enc, hn_b4, hr_b4, hn_b5, hr_b5, hn_b6, hr_b6, hn_b8, hr_b8, hn_b9, hr_b9, go_sem, ↓reduceIte, Nat.reduceEqDiff, Nat.reduceLT, Nat.reduceLeDiff, Nat.reduceAdd, Nat.reduceMul, Nat.reduceSub, reduceCtorEq, Int.reduceToNat, Int.reduceLT, Int.reduceLE, Int.reduceEq, Int.reduceNe, Int.reduceBEq, Nat.reduceBEq, Int.reduceBNe, Nat.reduceBNe, Int.reduceAdd, Int.reduceSub, Int.reduceMul, Int.reduceNeg]
        refine AllB.mk fun b10 h_b10 => ?_; have hn_b10 := h_b10; (try simp only [fresh_add, fresh_set, ne_eq] at hn_b10); have hr_b10 := hn_b10; (try simp only [@eq_comm Nat b10] at hr_b10); simp (dsimp := false) (maxSteps := 4000000) only [enc_len, enc_scal, lput_enc, take_enc, hn_b4, hr_b4, hn_b5, hr_b5, hn_b6, hr_b6, hn_b8, hr_b8, hn_b9, hr_b9, hn_b10, hr_b10, go_sem, ↓reduceIte, Nat.reduceEqDiff, Nat.reduceLT, Nat.reduceLeDiff, Nat.reduceAdd, Nat.reduceMul, Nat.reduceSub, reduceCtorEq, Int.reduceToNat, Int.reduceLT, Int.reduceLE, Int.reduceEq, Int.reduceNe, Int.reduceBEq, Nat.reduceBEq, Int.reduceBNe, Nat.reduceBNe, Int.reduceAdd, Int.reduceSub, Int.reduceMul, Int.reduceNeg]
        refine AllB.mk fun b11 h_b11 => ?_; have hn_b11 := h_b11; (try simp only [fresh_add, fresh_set, ne_eq] at hn_b11); have hr_b11 := hn_b11; (try simp only [@eq_comm Nat b11] at hr_b11); simp (dsimp := false) (maxSteps := 4000000) only [enc_len, enc_scal, lput_enc, take_enc, hn_b4, hr_b4, hn_b5, hr_b5, hn_b6, hr_b6, hn_b8, hr_b8, hn_b9, hr_b9, hn_b10, hr_b10, hn_b11, hr_b11, go_sem, ↓reduceIte, Nat.reduceEqDiff, Nat.reduceLT, Nat.reduceLeDiff, Nat.reduceAdd, Nat.reduceMul, Nat.reduceSub, reduceCtorEq, Int.reduceToNat, Int.reduceLT, Int.reduceLE, Int.reduceEq, Int.reduceNe, Int.reduceBEq, Nat.reduceBEq, Int.reduceBNe, Nat.reduceBNe, Int.reduceAdd, Int.reduceSub, Int.reduceMul, Int.reduceNeg]
        refine AWp.gen [.pu, .pu, .pu, .rd, .pu, .rd, .rd, .ch] [0, 1, 3, 7, 0, 16, 0, 127] 0 (_) mixed (by kernel_rfl) (AH.le_refl _) ?_
        have n7 : ¬ b8 = b := hn_b8.2.2.2.ne_find h1.top
        have n8 : ¬ b8 = bm := hn_b8.2.2.2.ne_find h1.map
        have n9 : ¬ b9 = b := hn_b9.2.2.2.2.ne_find h1.top
        have n10 : ¬ b9 = bm := hn_b9.2.2.2.2.ne_find h1.map
        have n11 : ¬ b10 = b := hn_b10.2.2.2.2.2.ne_find h1.top
        have n12 : ¬ b10 = bm := hn_b10.2.2.2.2.2.ne_find h1.map
        have n13 : ¬ b11 = b := hn_b11.2.2.2.2.2.2.ne_find h1.top
        have n14 : ¬ b11 = bm := hn_b11.2.2.2.2.2.2.ne_find h1.map
        simp (dsimp := false) (maxSteps := 4000000) only [r0, n1, n2, n3, n4, n5, n6, n7, n8, n9, n10, n11, n12, n13, n14, hmp, hms, hm, enc_len, enc_scal, lput_enc, take_enc, hn_b4, hr_b4, hn_b5, hr_b5, hn_b6, hr_b6, hn_b8, hr_b8, hn_b9, hr_b9, hn_b10, hr_b10, hn_b11, hr_b11, go_sem, ↓reduceIte, Nat.reduceEqDiff, Nat.reduceLT, Nat.reduceLeDiff, Nat.reduceAdd, Nat.reduceMul, Nat.reduceSub, reduceCtorEq, Int.reduceToNat, Int.reduceLT, Int.reduceLE, Int.reduceEq, Int.reduceNe, Int.reduceBEq, Nat.reduceBEq, Int.reduceBNe, Nat.reduceBNe, Int.reduceAdd, Int.reduceSub, Int.reduceMul, Int.reduceNeg]
        subst hn
        have hdl := doR_len m.R op i v
        have hx : doX (ms.map MF.nf) op m.n i v = rp m.n (m.p, doR m.R op i v) (ms.map MF.nf) := by
          rw [doX, if_pos (by rw [he]; exact hmay), hl]; rfl
        have hw : doW (ms.map MF.nf) op m.n i v = (doR m.R op i v).getD i zr := by
          rw [doW, if_pos (by rw [he]; exact hmay), hl]; rfl
        have hent : (MF.mk m.n m.p b9 bs (doR m.R op i v)).ent = (.int .i64 m.n, .agg #[.int .i64 m.p, .slice (some ⟨b9, 0, none⟩) m.R.length m.R.length]) := by rw [MF.ent, MF.val, hdl]; rfl
        
        refine ⟨(H.set bm (.amap ((ms.map MF.ent).set k (MF.mk m.n m.p b9 bs (doR m.R op i v)).ent))).add b9 (.cells ((doR m.R op i v).map enc).flatten 32 bs), ?_, .nilIface, ftOf b bm (ms.set k (MF.mk m.n m.p b9 bs (doR m.R op i v))), ?_, .inl ⟨rfl, by rw [he]; exact hmay⟩, ?_, ?_, ?_⟩
        · rw [hent]
          exact (by refine AH.le_cons ?_ ?_; (show AH.find _ _ = _; simp only [find_add_self, find_add_ne, find_fresh, fresh_add, fresh_set, ne_eq, not_false_eq_true, true_and, and_true, and_self, enc_len, n2, n4, n6, n8, n10, n12, n14, hn_b4, hr_b4, hn_b5, hr_b5, hn_b6, hr_b6, hn_b8, hr_b8, hn_b9, hr_b9, hn_b10, hr_b10, hn_b11, hr_b11]); (repeat (first | exact AH.le_refl _ | refine AH.le_add ?_ ?_)); all_goals (first | exact AH.le_refl _ | (show AH.find _ _ = _; simp only [find_add_self, find_add_ne, find_fresh, fresh_add, fresh_set, ne_eq, not_false_eq_true, true_and, and_true, and_self, enc_len, n2, n4, n6, n8, n10, n12, n14, hn_b4, hr_b4, hn_b5, hr_b5, hn_b6, hr_b6, hn_b8, hr_b8, hn_b9, hr_b9, hn_b10, hr_b10, hn_b11, hr_b11])))
        · rw [hw]
        · rw [hx]
          exact ⟨bm, _, h1.rep (m' := MF.mk m.n m.p b9 bs (doR m.R op i v)) hk rfl hn_b9.2.2.2.2 (by dsimp only; rw [hdl]; exact hbs) rfl, setMs (m' := MF.mk m.n m.p b9 bs (doR m.R op i v)) hk rfl h1.kd, fun x => Iff.rfl⟩
        · exact (Keep.set.mono fun x hx => (hft x).2 (.inr (.inl hx))).trans (Keep.add (Fresh.mk' hn_b9.2.2.2.2 n10))
        · intro x hx
          rcases StIn.ftR (m' := MF.mk m.n m.p b9 bs (doR m.R op i v)) (fun x => (hft x).2) hx with hx | rfl
          · exact .inl hx
          · exact .inr hn_b9.2.2.2.2
        
        
      · have hc := fun H1 (h1 : SlcIn H1 4 (some ⟨m.blk, 0, none⟩) m.R.length (m.R.map enc)) => Do_bad m.p op i m.R v _ _ H1 h1 hmay
        unfold fv at hc
        
        refine (hc _ ((((hs.add (by simp only [fresh_add, ne_eq, hn_b4, not_false_eq_true, and_self] : Fresh _ b4)).add (by simp only [fresh_add, ne_eq, hn_b5, not_false_eq_true, and_self] : Fresh _ b5)).add (by simp only [fresh_add, ne_eq, hn_b6, not_false_eq_true, and_self] : Fresh _ b6)).add (by simp only [fresh_add, ne_eq, hn_b8, not_false_eq_true, and_self] : Fresh _ b8))).mono ?_; rintro _ _ ⟨rfl, rfl⟩
        simp (dsimp := false) (maxSteps := 4000000) only [dbad, enc_len, enc_scal, lput_enc, take_enc, hn_b4, hr_b4, hn_b5, hr_b5, hn_b6, hr_b6, hn_b8, hr_b8, go_sem, ↓reduceIte, Nat.reduceEqDiff, Nat.reduceLT, Nat.reduceLeDiff, Nat.reduceAdd, Nat.reduceMul, Nat.reduceSub, reduceCtorEq, Int.reduceToNat, Int.reduceLT, Int.reduceLE, Int.reduceEq, Int.reduceNe, Int.reduceBEq, Nat.reduceBEq, Int.reduceBNe, Nat.reduceBNe, Int.reduceAdd, Int.reduceSub, Int.reduceMul, Int.reduceNeg]
        refine AllB.mk fun b10 h_b10 => ?_; have hn_b10 := h_b10; (try simp only [fresh_add, fresh_set, ne_eq] at hn_b10); have hr_b10 := hn_b10; (try simp only [@eq_comm Nat b10] at hr_b10); simp (dsimp := false) (maxSteps := 4000000) only [enc_len, enc_scal, lput_enc, take_enc, hn_b4, hr_b4, hn_b5, hr_b5, hn_b6, hr_b6, hn_b8, hr_b8, hn_b10, hr_b10, go_sem, ↓reduceIte, Nat.reduceEqDiff, Nat.reduceLT, Nat.reduceLeDiff, Nat.reduceAdd, Nat.reduceMul, Nat.reduceSub, reduceCtorEq, Int.reduceToNat, Int.reduceLT, Int.reduceLE, Int.reduceEq, Int.reduceNe, Int.reduceBEq, Nat.reduceBEq, Int.reduceBNe, Nat.reduceBNe, Int.reduceAdd, Int.reduceSub, Int.reduceMul, Int.reduceNeg]
        refine AllB.mk fun b11 h_b11 => ?_; have hn_b11 := h_b11; (try simp only [fresh_add, fresh_set, ne_eq] at hn_b11); have hr_b11 := hn_b11; (try simp only [@eq_comm Nat b11] at hr_b11); simp (dsimp := false) (maxSteps := 4000000) only [enc_len, enc_scal, lput_enc, take_enc, hn_b4, hr_b4, hn_b5, hr_b5, hn_b6, hr_b6, hn_b8, hr_b8, hn_b10, hr_b10, hn_b11, hr_b11, go_sem, ↓reduceIte, Nat.reduceEqDiff, Nat.reduceLT, Nat.reduceLeDiff, Nat.reduceAdd, Nat.reduceMul, Nat.reduceSub, reduceCtorEq, Int.reduceToNat, Int.reduceLT, Int.reduceLE, Int.reduceEq, Int.reduceNe, Int.reduceBEq, Nat.reduceBEq, Int.reduceBNe, Nat.reduceBNe, Int.reduceAdd, Int.reduceSub, Int.reduceMul, Int.reduceNeg]
        simp (dsimp := false) (maxSteps := 4000000) only [hmay, enc_len, enc_scal, lput_enc, take_enc, hn_b4, hr_b4, hn_b5, hr_b5, hn_b6, hr_b6, hn_b8, hr_b8, hn_b10, hr_b10, hn_b11, hr_b11, go_sem, ↓reduceIte, Nat.reduceEqDiff, Nat.reduceLT, Nat.reduceLeDiff, Nat.reduceAdd, Nat.reduceMul, Nat.reduceSub, reduceCtorEq, Int.reduceToNat, Int.reduceLT, Int.reduceLE, Int.reduceEq, Int.reduceNe, Int.reduceBEq, Nat.reduceBEq, Int.reduceBNe, Nat.reduceBNe, Int.reduceAdd, Int.reduceSub, Int.reduceMul, Int.reduceNeg]
        refine AWp.genp [.pu, .pu, .rd, .pu, .pu, .pu, .al, .pu, .ch, .pu] [0, 0, 2, 0, 8, 30, 62, 126, 1, 511] [0, 1, 2, 3, 4, 5, 8, 6, 7, 9] 11 (_) mixed (by kernel_rfl) (AH.le_refl _) ?_; rw [nd_eq]; simp (dsimp := false) only [prm_nil, prm_eq, pm_some, List.getElem?_cons_zero, List.getElem?_cons_succ, ↓reduceIte, Nat.reduceEqDiff, Nat.reduceLT, Nat.reduceLeDiff, Nat.reduceAdd, Nat.reduceMul, Nat.reduceSub, reduceCtorEq, Int.reduceToNat, Int.reduceLT, Int.reduceLE, Int.reduceEq, Int.reduceNe, Int.reduceBEq, Nat.reduceBEq, Int.reduceBNe, Nat.reduceBNe, Int.reduceAdd, Int.reduceSub, Int.reduceMul, Int.reduceNeg]
        simp (dsimp := false) (maxSteps := 4000000) only [enc_len, enc_scal, lput_enc, take_enc, hn_b4, hr_b4, hn_b5, hr_b5, hn_b6, hr_b6, hn_b8, hr_b8, hn_b10, hr_b10, hn_b11, hr_b11, go_sem, ↓reduceIte, Nat.reduceEqDiff, Nat.reduceLT, Nat.reduceLeDiff, Nat.reduceAdd, Nat.reduceMul, Nat.reduceSub, reduceCtorEq, Int.reduceToNat, Int.reduceLT, Int.reduceLE, Int.reduceEq, Int.reduceNe, Int.reduceBEq, Nat.reduceBEq, Int.reduceBNe, Nat.reduceBNe, Int.reduceAdd, Int.reduceSub, Int.reduceMul, Int.reduceNeg]
        refine AllB.mk fun bf h_bf => ?_; have hn_bf := h_bf; (try simp only [fresh_add, fresh_set, ne_eq] at hn_bf); have hr_bf := hn_bf; (try simp only [@eq_comm Nat bf] at hr_bf); simp (dsimp := false) (maxSteps := 4000000) only [enc_len, enc_scal, lput_enc, take_enc, hn_b4, hr_b4, hn_b5, hr_b5, hn_b6, hr_b6, hn_b8, hr_b8, hn_b10, hr_b10, hn_b11, hr_b11, hn_bf, hr_bf, go_sem, ↓reduceIte, Nat.reduceEqDiff, Nat.reduceLT, Nat.reduceLeDiff, Nat.reduceAdd, Nat.reduceMul, Nat.reduceSub, reduceCtorEq, Int.reduceToNat, Int.reduceLT, Int.reduceLE, Int.reduceEq, Int.reduceNe, Int.reduceBEq, Nat.reduceBEq, Int.reduceBNe, Nat.reduceBNe, Int.reduceAdd, Int.reduceSub, Int.reduceMul, Int.reduceNeg]
        exact bad (e := mayF m.p m.R op i) (H' := H.add bf (.cells [.int .i64 fl, .iface 38 (.int .i64 (mayF m.p m.R op i))] 99 2)) he hmay (AH.le_cons (find_add_self _ _ _) (AH.le_add (AH.le_add (AH.le_add (AH.le_add (AH.le_add (AH.le_add (AH.le_add (AH.le_refl _) ((by simp only [enc_len, enc_scal, lput_enc, take_enc, fresh_add, fresh_set, ne_eq, hn_b4, not_false_eq_true, and_self] : Fresh _ b4).2)) ((by simp only [enc_len, enc_scal, lput_enc, take_enc, fresh_add, fresh_set, ne_eq, hn_b5, not_false_eq_true, and_self] : Fresh _ b5).2)) ((by simp only [enc_len, enc_scal, lput_enc, take_enc, fresh_add, fresh_set, ne_eq, hn_b6, not_false_eq_true, and_self] : Fresh _ b6).2)) ((by simp only [enc_len, enc_scal, lput_enc, take_enc, fresh_add, fresh_set, ne_eq, hn_b8, not_false_eq_true, and_self] : Fresh _ b8).2)) ((by simp only [enc_len, enc_scal, lput_enc, take_enc, fresh_add, fresh_set, ne_eq, hn_b10, not_false_eq_true, and_self] : Fresh _ b10).2)) ((by simp only [enc_len, enc_scal, lput_enc, take_enc, fresh_add, fresh_set, ne_eq, hn_b11, not_false_eq_true, and_self] : Fresh _ b11).2)) ((by simp only [enc_len, enc_scal, lput_enc, take_enc, fresh_add, fresh_set, ne_eq, hn_bf, not_false_eq_true, and_self] : Fresh _ bf).2))) (Keep.add hn_bf.2.2.2.2.2.2) (.inr (.inr ⟨bf, 0, rfl, by rw [rd_add_self]; rfl⟩))
        
      
end Go.Proofs.YtmkbpdlijfjgkaaDoor.Ifs
