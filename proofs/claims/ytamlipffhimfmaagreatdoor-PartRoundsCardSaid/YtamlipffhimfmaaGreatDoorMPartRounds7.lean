/- Texts of mine, one behind another. -/
import Derived.Test.YtamlipffhimfmaaGreatDoorMPartRounds6
/- part: Apply. -/
namespace Go.Proofs.YtamlipffhimfmaaGreatDoor.Prt
set_option linter.unusedSimpArgs false
set_option linter.unusedVariables false
open Go Go.AX Go.Proofs Ty Go.Proofs.YtamlipffhimfmaaGreatDoor.File Go.Proofs.YtamlipffhimfmaaGreatDoor.Ifs Go.Proofs.YtamlipffhimfmaaGreatDoor.Err
open Go.Proofs.YtamlipffhimfmaaGreatDoor.Chk (encE encE_len encE_scal encE_z5 encE_take)
set_option maxHeartbeats 4000000
set_option maxRecDepth 10000

def Hm (H : AH) (tv : Value) (hd : Hd) : Prop := ∃ bm es, tv = .map (some bm) ∧ H.find bm = some (.amap es) ∧ ∀ i : Int, (hd i = none ∧ mlk (.int .i64) (.int .i64 i) es 0 = some none) ∨ ∃ y k, hd i = some y ∧ mlk (.int .i64) (.int .i64 i) es 0 = some (some (k, .int .u8 y))
theorem Hm.keep {H H' : AH} {tv : Value} {hd : Hd} {ex : Nat → Prop} (h : Hm H tv hd) (hK : Keep H H' ex) (hx : ∀ b, tv = .map (some b) → ¬ ex b) : Hm H' tv hd := by
  obtain ⟨bm, es, h1, h2, h3⟩ := h
  exact ⟨bm, es, h1, hK.find (hx bm h1) h2, h3⟩
theorem lkp_hm {H : AH} {tv : Value} {hd : Hd} (h : Hm H tv hd) (i : Int) (k : Value → AH → Prop) : lkp Tryz.prog 53 tv (.int .i64 i) false H k = k (.int .u8 ((hd i).getD 0)) H := by
  unfold lkp
  obtain ⟨bm, es, rfl, h2, h3⟩ := h
  have hmp : H.mp bm = some es := by rw [AH.mp, h2]
  rcases h3 i with ⟨h5, h4⟩ | ⟨y, q, h5, h4⟩
  · simp only [me_53, wo, hmp, h4, mres, nv, h5]
    simp
  · simp only [me_53, wo, hmp, h4, mres, nv, h5]
    simp
theorem lkp_hmo {H : AH} {tv : Value} {hd : Hd} (h : Hm H tv hd) (i : Int) (k : Value → AH → Prop) : lkp Tryz.prog 53 tv (.int .i64 i) true H k = k (.tuple #[.int .u8 ((hd i).getD 0), .bool (hd i).isSome]) H := by
  unfold lkp
  obtain ⟨bm, es, rfl, h2, h3⟩ := h
  have hmp : H.mp bm = some es := by rw [AH.mp, h2]
  rcases h3 i with ⟨h5, h4⟩ | ⟨y, q, h5, h4⟩
  · simp only [me_53, wo, hmp, h4, mres, nv, h5]
    simp
  · simp only [me_53, wo, hmp, h4, mres, nv, h5]
    simp
def lE (Lo : List Pl) : List (Pl × Value) := Lo.map fun p => (p, .bool true)
theorem klk_lost (p : Pl) : ∀ (Lo : List Pl) (i : Nat), (p ∈ Lo ∧ ∃ j, klk p (lE Lo) i = some (j, .bool true)) ∨ (p ∉ Lo ∧ klk p (lE Lo) i = none)
  | [], _ => .inr ⟨by simp, rfl⟩
  | q :: Lo, i => by
    show (_ ∧ ∃ j, klk p ((q, Value.bool true) :: lE Lo) i = _) ∨ (_ ∧ klk p ((q, Value.bool true) :: lE Lo) i = none)
    rw [klk]
    by_cases e : p = q
    · exact .inl ⟨by simp [e], i, by simp [e]⟩
    · simp only [e, if_false, List.mem_cons, false_or]
      exact klk_lost p Lo (i + 1)
def lput1 (p : Pl) (Lo : List Pl) : List Pl := if p ∈ Lo then Lo else Lo ++ [p]
theorem kput_lost (p : Pl) (Lo : List Pl) : kput (lE Lo) p (.bool true) (klk p (lE Lo) 0) = lE (lput1 p Lo) := by
  rcases klk_lost p Lo 0 with ⟨h1, j, h2⟩ | ⟨h1, h2⟩
  · rw [h2, kput, lput1, if_pos h1]
    obtain ⟨m, rfl, hm⟩ := klk_some h2
    rw [Nat.zero_add]
    have hlt := Go.AX.lt_of_get hm
    apply List.ext_getElem?
    intro q
    by_cases e : m = q
    · subst e; rw [List.getElem?_set_self hlt, hm]
    · rw [List.getElem?_set_ne e]
  · rw [h2, kput, lput1, if_neg h1, lE, lE, List.map_append]; rfl
theorem mem_lput1 {p q : Pl} {Lo : List Pl} : q ∈ lput1 p Lo ↔ q = p ∨ q ∈ Lo := by
  unfold lput1
  split
  · rename_i h
    exact ⟨.inr, fun h' => h'.elim (fun e => e ▸ h) id⟩
  · rw [List.mem_append, List.mem_singleton]; exact or_comm
def LInv (T : List En) (hd : Hd) (Lo : List Pl) : Prop := ∀ p, p ∈ Lo ↔ ∃ y ∈ T, isP p y = true ∧ hd y.2.1 = none
theorem LInv.nil (hd : Hd) : LInv [] hd [] := fun p => by simp
theorem LInv.same {T : List En} {hd : Hd} {Lo : List Pl} {x : En} (h : LInv T hd Lo) (hx : x.1 ≠ 2 ∨ hd x.2.1 ≠ none) : LInv (T ++ [x]) hd Lo := fun p => by
  rw [h p]
  constructor
  · rintro ⟨y, hy, h2⟩; exact ⟨y, List.mem_append_left _ hy, h2⟩
  · rintro ⟨y, hy, h2, h3⟩
    rcases List.mem_append.1 hy with hy | hy
    · exact ⟨y, hy, h2, h3⟩
    · obtain rfl := List.mem_singleton.1 hy
      rcases hx with hx | hx
      · simp [isP, hx] at h2
      · exact absurd h3 hx
theorem LInv.put {T : List En} {hd : Hd} {Lo : List Pl} {x : En} (h : LInv T hd Lo) (hx : x.1 = 2) (hn : hd x.2.1 = none) : LInv (T ++ [x]) hd (lput1 (pl x) Lo) := fun p => by
  rw [mem_lput1, h p]
  constructor
  · rintro (rfl | ⟨y, hy, h2⟩)
    · exact ⟨x, List.mem_append_right _ (List.mem_singleton.2 rfl), by simp [isP, hx], hn⟩
    · exact ⟨y, List.mem_append_left _ hy, h2⟩
  · rintro ⟨y, hy, h2, h3⟩
    rcases List.mem_append.1 hy with hy | hy
    · exact .inr ⟨y, hy, h2, h3⟩
    · obtain rfl := List.mem_singleton.1 hy
      simp only [isP, Bool.and_eq_true, decide_eq_true_eq] at h2
      exact .inl h2.2.symm
theorem gE_set {G : List Gp} {j : Nat} {g g' : Gp} (hg : G[j]? = some g) : gE (G.set j g') = (gE G).set j (g'.p, .slice g'.base g'.L.length g'.cap) := by
  rw [gE, gE, List.map_set]
theorem gE_new (G : List Gp) (p : Pl) (z : Value) (g' : Gp) (hp : g'.p = p) : (gE G ++ [(p, z)]).set (gE G).length (p, .slice g'.base g'.L.length g'.cap) = gE (G ++ [g']) := by
  rw [List.set_append_right _ _ (Nat.le_refl _), Nat.sub_self, gE, gE, List.map_append, ← hp]; rfl
theorem klk_none {p : Pl} : ∀ {l : List (Pl × Value)} {i : Nat}, klk p l i = none → ∀ q ∈ l, q.1 ≠ p
  | [], _, _ => by simp
  | q :: l, i, h => by
    rw [klk] at h
    split at h
    · cases h
    · rename_i e
      intro r hr
      rcases List.mem_cons.1 hr with rfl | hr
      · exact fun e' => e e'.symm
      · exact klk_none h r hr
theorem pick_e : ∀ {l : List MapEntry} {G : List Gp}, (l.map (·.born)).Nodup → l.map (fun x => (x.key, x.val)) = ke kP (gE G) → ∃ g : MapEntry → Gp, l.map g = G ∧ ∀ e ∈ l, e.key = kP (g e).p ∧ e.val = .slice (g e).base (g e).L.length (g e).cap
  | [], [], _, _ => ⟨fun _ => ⟨(0, 0), none, 0, []⟩, rfl, by simp⟩
  | [], _ :: _, _, h => by simp [ke, gE] at h
  | _ :: _, [], _, h => by simp [ke, gE] at h
  | e0 :: l, m0 :: ms, hd, h => by
    simp only [ke, gE, List.map_cons, List.nodup_cons, List.mem_map, not_exists, not_and, List.cons.injEq, Prod.mk.injEq] at hd h
    obtain ⟨g, h1, h2⟩ := pick_e (G := ms) hd.2 (by simpa [ke, gE] using h.2)
    refine ⟨fun e => if e.born = e0.born then m0 else g e, ?_, fun e he => ?_⟩
    · simp only [List.map_cons, if_true, List.cons.injEq, true_and]
      rw [← h1]
      exact List.map_congr_left fun e he => if_neg fun hb => hd.1 e he hb
    · rcases List.mem_cons.1 he with rfl | he
      · simp [h.1]
      · simp only [if_neg fun hb => hd.1 e he hb]
        exact h2 e he
theorem putE_ok {hd : Hd} (hr : ∀ s y, hd s = some y → 0 ≤ y ∧ y ≤ 255) : ∀ {l : List En} {v : Rc}, RcOk v → RcOk (l.foldl (putE hd) v)
  | [], _, h => h
  | x :: l, v, h => by
    refine putE_ok hr (l := l) ?_
    have hb : 0 ≤ (hd x.2.1).getD 0 ∧ (hd x.2.1).getD 0 ≤ 255 := by
      cases he : hd x.2.1 with
      | none => simp
      | some y => exact hr _ _ he
    obtain ⟨h0, h1, h2, h3⟩ := h
    unfold putE putB
    split
    · exact ⟨hb, h1, h2, h3⟩
    · split
      · exact ⟨h0, hb, h2, h3⟩
      · split
        · exact ⟨h0, h1, hb, h3⟩
        · exact ⟨h0, h1, h2, hb⟩
theorem stepP_ok {T : List En} {hd : Hd} (hr : ∀ s y, hd s = some y → 0 ≤ y ∧ y ≤ 255) {X : List Nf} (h : OkX X) (p : Pl) : OkX (stepP T hd X p) := by
  unfold stepP
  split
  · exact h
  · rename_i v hv
    split
    · exact h.set _ _ (putE_ok hr (getW_ok h hv))
    · exact h
theorem okP_iff {T : List En} {hd : Hd} {Lo : List Pl} (h : LInv T hd Lo) (p : Pl) : okP hd (got T p) = true ↔ p ∉ Lo := by
  rw [h p, okP, List.all_eq_true]
  constructor
  · rintro h1 ⟨y, hy, h2, h3⟩
    have := h1 y (List.mem_filter.2 ⟨hy, h2⟩)
    rw [h3] at this; cases this
  · intro h1 y hy
    obtain ⟨hy1, hy2⟩ := List.mem_filter.1 hy
    cases he : hd y.2.1 with
    | some z => rfl
    | none => exact absurd ⟨y, hy1, hy2, he⟩ h1
theorem mres_lost (p : Pl) (Lo : List Pl) : mres false (.bool false) (klk p (lE Lo) 0) = .bool (decide (p ∈ Lo)) := by
  rcases klk_lost p Lo 0 with ⟨h1, j, h2⟩ | ⟨h1, h2⟩
  · rw [h2, decide_eq_true h1]; rfl
  · rw [h2, decide_eq_false h1]; rfl
theorem enc_putB (w : Rc) (b : Int) : ∀ m : Nat, m ≤ 3 → (enc w).set m (.int .u8 b) = enc (putB w m b)
  | 0, _ => rfl
  | 1, _ => rfl
  | 2, _ => rfl
  | 3, _ => rfl
  | n + 4, h => by omega
theorem recvs_iff {T : List En} {p : Pl} : p ∈ recvs T ↔ got T p ≠ [] := by
  rw [recvs, List.mem_map, got, ne_eq, List.filter_eq_nil_iff]
  constructor
  · rintro ⟨x, hx, rfl⟩ h
    obtain ⟨h1, h2⟩ := List.mem_filter.1 hx
    exact h x h1 (by simpa [isP] using h2)
  · intro h
    obtain ⟨x, hx⟩ := Classical.not_forall.1 h
    obtain ⟨h1, h2⟩ := Classical.not_imp.1 hx
    have h3 : isP p x = true := Classical.not_not.1 h2
    simp only [isP, Bool.and_eq_true, decide_eq_true_eq] at h3
    exact ⟨x, List.mem_filter.2 ⟨h1, by simpa using h3.1⟩, h3.2⟩
theorem Apply_c {H : AH} {b : Nat} {X : List Nf} {den : Int} {ft : Nat → Prop} (hE : ErrT H.w0) (h : StAt H b X den ft) (hX : OkX X) (T : List En) (bt : Option Addr) (ct : Nat) (hT : SlcIn H 5 bt ct (T.map encE)) (tm : Option Nat) (hd : Hd) (hH : Hm H (.map tm) hd)
    (hr : ∀ s y, hd s = some y → 0 ≤ y ∧ y ≤ 255) (hB : ∀ x ∈ T, x.1 = 2 → 0 ≤ x.2.2.2.2 ∧ x.2.2.2.2 ≤ 3) (hl64 : T.length ≤ 64) :
    ACalls Tryz.prog 33 #[.pointer (some ⟨b, 0, none⟩), .slice bt T.length ct, .map tm] H (fun u H' => ∃ b' X' ft', u = .pointer (some ⟨b', 0, none⟩) ∧ X'.Perm (app T hd X den).1 ∧ OkX X' ∧ StAt H' b' X' (app T hd X den).2 ft' ∧ (Keep H H' fun _ => False) ∧ ∀ x, ft' x → Fresh H x) := by
  refine ACalls.enter2 Tryz.func33 rfl Tryz.ntmps33 Tryz.results33 (by simp) ?_; simp (dsimp := false) (maxSteps := 4000000) only [encE_len, encE_scal, encE_z5, encE_take, enc_len, enc_scal, lput_enc, take_enc, go_sem]
  refine (Copy_c h hX).mono ?_
  rintro _ A0 ⟨bo, X0, ft0, rfl, hp0, hs0, hK0, hf0⟩
  simp (dsimp := false) (maxSteps := 4000000) only [encE_len, encE_scal, encE_z5, encE_take, enc_len, enc_scal, lput_enc, take_enc, go_sem]
  refine AllB.mk fun bl h_bl => ?_; have hn_bl := h_bl; (try simp only [fresh_add, fresh_set, ne_eq] at hn_bl); have hr_bl := hn_bl; (try simp only [@eq_comm Nat bl] at hr_bl); simp (dsimp := false) (maxSteps := 4000000) only [encE_len, encE_scal, encE_z5, encE_take, enc_len, enc_scal, lput_enc, take_enc, hn_bl, hr_bl, go_sem]
  refine AllB.mk fun bg h_bg => ?_; have hn_bg := h_bg; (try simp only [fresh_add, fresh_set, ne_eq] at hn_bg); have hr_bg := hn_bg; (try simp only [@eq_comm Nat bg] at hr_bg); simp (dsimp := false) (maxSteps := 4000000) only [encE_len, encE_scal, encE_z5, encE_take, enc_len, enc_scal, lput_enc, take_enc, hn_bl, hr_bl, hn_bg, hr_bg, go_sem]
  obtain ⟨M, hM⟩ : ∃ M, (A0.add bl (.amap [])).add bg (.amap []) = M := ⟨_, rfl⟩
  have k0M : Keep A0 M fun _ => False := hM ▸ (Keep.refl.nw h_bl).nw h_bg
  have kHM : Keep H M fun _ => False := hK0.trans k0M
  have nlg : bg ≠ bl := hn_bg.1
  have fl0 : M.find bl = some (.amap (ke kP (lE []))) := by
    have : M.find bl = some (.amap []) := by rw [← hM]; (show AH.find _ _ = _; simp only [find_add_self, find_add_ne, find_fresh, fresh_add, fresh_set, ne_eq, not_false_eq_true, true_and, and_true, and_self, encE_len, encE_scal, encE_z5, encE_take, enc_len, enc_scal, lput_enc, take_enc, hn_bl, hr_bl, hn_bg, hr_bg])
    exact this
  have fg0 : M.find bg = some (.amap (ke kP (gE []))) := by rw [← hM, find_add_self]; rfl
  have nfl : ¬ ft0 bl := hs0.fresh h_bl
  have nfg : ¬ ft0 bg := hs0.fresh hn_bg.2
  have f0l : Fresh A0 bl := h_bl
  have f0g : Fresh A0 bg := hn_bg.2
  have hfl : Fresh H bl := hK0.fr h_bl
  have hfg : Fresh H bg := hK0.fr hn_bg.2
  rw [hM]
  clear hM h_bl hn_bl hr_bl h_bg hn_bg hr_bg
  
  refine AWp.loopr (ι := Nat × List Pl × List Gp) (fun s A => s.1 ≤ T.length ∧ A.find bl = some (.amap (ke kP (lE s.2.1))) ∧ A.find bg = some (.amap (ke kP (gE s.2.2))) ∧ LInv (T.take s.1) hd s.2.1 ∧ GInv A0 A (T.take s.1) s.2.2 ∧ Keep A0 A fun _ => False)
    (fun s => [(29, .int .i64 s.1), (28, .int .i64 T.length), (27, .slice bt T.length ct), (7, .pointer (some ⟨bo, 0, none⟩)), (8, .map (some bl)), (9, .map (some bg)), (2, .map tm), (1, .slice bt T.length ct)]) (fun s => T.length - s.1) (0, [], []) M
    ⟨by simp, fl0, fg0, LInv.nil hd, GInv.nil A0 M, k0M⟩ (FrLe.of_lks ?_) (AH.le_refl _) fun s A hV Q again out => ?_
  · simp (dsimp := false) (maxSteps := 4000000) only [encE_len, encE_scal, encE_z5, encE_take, enc_len, enc_scal, lput_enc, take_enc, go_sem]
  obtain ⟨i, Lo, G⟩ := s
  obtain ⟨hi, hfl', hfg', hL, hG, hK⟩ := hV
  dsimp only at hi hfl' hfg' hL hG hK ⊢
  by_cases hlt : (i : Int) < T.length
  case pos =>
    obtain ⟨x, hx⟩ := get_some (l := T) (i := i) (by omega)
    have hne : T ≠ [] := fun e => by rw [e] at hx; cases hx
    have hTA := hT.keep (hK0.trans hK) fun _ _ h => h
    have hHA := hH.keep (hK0.trans hK) fun _ _ h => h
    obtain ⟨q, o, rfl, hrow, _⟩ := hTA.get (Go.AX.map_get (f := encE) hx)
    have ee := i64_succ (i := i) (by omega)
    have hi0 : (0 : Int) ≤ (i : Int) := by omega
    have et : T.take (i + 1) = T.take i ++ [x] := by rw [List.take_add_one, hx]; rfl
    obtain ⟨k, sl, fl, rc, by_⟩ := x
    have eE : encE (k, sl, fl, rc, by_) = [.int .i64 k, .int .i64 sl, .int .i64 fl, .int .i64 rc, .int .i64 by_] := rfl
    rw [eE] at hrow
    simp (dsimp := false) (maxSteps := 4000000) only [hlt, hi0, hrow, encE_len, encE_scal, encE_z5, encE_take, enc_len, enc_scal, lput_enc, take_enc, go_sem]
    refine AllB.mk fun b11 h_b11 => ?_; have hn_b11 := h_b11; (try simp only [fresh_add, fresh_set, ne_eq] at hn_b11); have hr_b11 := hn_b11; (try simp only [@eq_comm Nat b11] at hr_b11); simp (dsimp := false) (maxSteps := 4000000) only [encE_len, encE_scal, encE_z5, encE_take, enc_len, enc_scal, lput_enc, take_enc, hn_b11, hr_b11, go_sem]
    by_cases hk2 : k = 2
    case neg =>
      simp (dsimp := false) (maxSteps := 4000000) only [hk2, ee, encE_len, encE_scal, encE_z5, encE_take, enc_len, enc_scal, lput_enc, take_enc, hn_b11, hr_b11, go_sem]
      exact again (i + 1, Lo, G) _ A _ ⟨by dsimp only; omega, hfl', hfg', by dsimp only; rw [et]; exact hL.same (.inl hk2), by dsimp only; rw [et]; exact hG.skip hk2, hK⟩ (FrLe.of_lks (by simp (dsimp := false) (maxSteps := 4000000) only [encE_len, encE_scal, encE_z5, encE_take, enc_len, enc_scal, lput_enc, take_enc, hn_b11, hr_b11, go_sem])) (AH.le_add (AH.le_refl _) h_b11.2) (by dsimp only; omega)
    case pos =>
      simp (dsimp := false) (maxSteps := 4000000) only [hk2, encE_len, encE_scal, encE_z5, encE_take, enc_len, enc_scal, lput_enc, take_enc, hn_b11, hr_b11, go_sem]
      refine AllB.mk fun b12 h_b12 => ?_; have hn_b12 := h_b12; (try simp only [fresh_add, fresh_set, ne_eq] at hn_b12); have hr_b12 := hn_b12; (try simp only [@eq_comm Nat b12] at hr_b12); simp (dsimp := false) (maxSteps := 4000000) only [encE_len, encE_scal, encE_z5, encE_take, enc_len, enc_scal, lput_enc, take_enc, hn_b11, hr_b11, hn_b12, hr_b12, go_sem]
      obtain ⟨A2, hA2⟩ : ∃ A2, (A.add b11 (.cells [.int .i64 k, .int .i64 sl, .int .i64 fl, .int .i64 rc, .int .i64 by_] 79 5)).add b12 (.cells [.int .i64 fl, .int .i64 rc] 156 2) = A2 := ⟨_, rfl⟩
      have k2 : Keep A A2 fun _ => False := hA2 ▸ (Keep.refl.nw h_b11).nw (by simp only [fresh_add, ne_eq, hn_b12, not_false_eq_true, and_self])
      have f11 : A2.find b11 = some (.cells [.int .i64 k, .int .i64 sl, .int .i64 fl, .int .i64 rc, .int .i64 by_] 79 5) := by rw [← hA2]; (show AH.find _ _ = _; simp only [find_add_self, find_add_ne, find_fresh, fresh_add, fresh_set, ne_eq, not_false_eq_true, true_and, and_true, and_self, encE_len, encE_scal, encE_z5, encE_take, enc_len, enc_scal, lput_enc, take_enc, hn_b11, hr_b11, hn_b12, hr_b12])
      have f12 : A2.find b12 = some (.cells [.int .i64 fl, .int .i64 rc] 156 2) := by rw [← hA2, find_add_self]
      have fA11 : Fresh A b11 := h_b11
      have fA12 : Fresh A b12 := hn_b12.2
      have fl2 := k2.find (fun h => h) hfl'
      have fg2 := k2.find (fun h => h) hfg'
      have hG2 := hG.keep k2 fun _ h => h.elim
      have hK2 := hK.trans k2
      have hH2 := hHA.keep k2 fun _ _ h => h
      have nl11 : b11 ≠ bl := h_b11.ne_find hfl'
      have nl12 : b12 ≠ bl := hn_b12.2.ne_find hfl'
      have ng11 : b11 ≠ bg := h_b11.ne_find hfg'
      have ng12 : b12 ≠ bg := hn_b12.2.ne_find hfg'
      rw [hA2]
      clear hA2 h_b11 hn_b11 hr_b11 h_b12 hn_b12 hr_b12 hrow
      
      have hl2 := fun k => lkp_hmo hH2 sl k
      rw [hl2]
      have r12 : A2.row b12 0 2 = some [.int .i64 fl, .int .i64 rc] := row_find f12 (by simp)
      have nbl : ∀ b', b' = bl → ¬ ∃ g ∈ G, ∃ a, g.base = some a ∧ a.block = b' := by
        rintro b' e ⟨g, hg, a, ha, rfl⟩
        obtain ⟨_, _, _, hc⟩ := hG2.cells hg ha
        rw [e, fl2] at hc; cases hc
      by_cases hdx : hd sl = none
      case' pos =>
        simp (dsimp := false) (maxSteps := 4000000) only [hdx, r12, me_153, encE_len, encE_scal, encE_z5, encE_take, enc_len, enc_scal, lput_enc, take_enc, go_sem]
        refine MUS.map (k := (fl, rc)) placeOk ms_lost fl2 ?_
        rw [kput_lost]
        obtain ⟨A3, hA3⟩ : ∃ A3, A2.set bl (.amap (ke kP (lE (lput1 (fl, rc) Lo)))) = A3 := ⟨_, rfl⟩
        have k3 : Keep A2 A3 (· = bl) := hA3 ▸ Keep.set
        have fl3 : A3.find bl = some (.amap (ke kP (lE (lput1 (fl, rc) Lo)))) := by rw [← hA3, find_set, if_pos rfl]
        have hL3 : LInv (T.take (i + 1)) hd (lput1 (fl, rc) Lo) := by rw [et]; exact hL.put hk2 hdx
        rw [hA3]
        generalize lput1 (fl, rc) Lo = Lo3 at fl3 hL3
        clear hA3
      case' neg =>
        obtain ⟨y, hdx⟩ := Option.ne_none_iff_exists'.1 hdx
        simp (dsimp := false) (maxSteps := 4000000) only [hdx, encE_len, encE_scal, encE_z5, encE_take, enc_len, enc_scal, lput_enc, take_enc, go_sem]
        obtain ⟨A3, hA3⟩ : ∃ A3, A2 = A3 := ⟨_, rfl⟩
        have k3 : Keep A2 A3 (· = bl) := hA3 ▸ Keep.refl
        have fl3 : A3.find bl = some (.amap (ke kP (lE Lo))) := hA3 ▸ fl2
        have hL3 : LInv (T.take (i + 1)) hd Lo := by rw [et]; exact hL.same (.inr (by dsimp only; rw [hdx]; simp))
        rw [hA3]
        obtain ⟨Lo3, hLo3⟩ : ∃ Lo3, Lo = Lo3 := ⟨_, rfl⟩
        rw [hLo3] at fl3 hL3
        clear hA3 hLo3
      all_goals
        have f11 := k3.find nl11 f11
        have f12 := k3.find nl12 f12
        have fg3 := k3.find nlg fg2
        have hG3 := hG2.keep k3 nbl
        have hK3 := hK2.ow k3 fun _ e => e ▸ f0l
        have r11 : A3.row b11 0 5 = some [.int .i64 k, .int .i64 sl, .int .i64 fl, .int .i64 rc, .int .i64 by_] := row_find f11 (by simp)
        have r12 : A3.row b12 0 2 = some [.int .i64 fl, .int .i64 rc] := row_find f12 (by simp)
        clear fl2 fg2 hG2 hK2 hH2 hl2 hL hG k2
        simp (dsimp := false) (maxSteps := 4000000) only [r11, r12, encE_len, encE_scal, encE_z5, encE_take, enc_len, enc_scal, lput_enc, take_enc, go_sem]
        refine AllB.mk fun bq h_bq => ?_; have hn_bq := h_bq; (try simp only [fresh_add, fresh_set, ne_eq] at hn_bq); have hr_bq := hn_bq; (try simp only [@eq_comm Nat bq] at hr_bq); simp (dsimp := false) (maxSteps := 4000000) only [encE_len, encE_scal, encE_z5, encE_take, enc_len, enc_scal, lput_enc, take_enc, hn_bq, hr_bq, go_sem]
        obtain ⟨A4, hA4⟩ : ∃ A4, A3.add bq (.cells [.int .i64 k, .int .i64 sl, .int .i64 fl, .int .i64 rc, .int .i64 by_] 79 5) = A4 := ⟨_, rfl⟩
        have k4 : Keep A3 A4 fun _ => False := hA4 ▸ Keep.add h_bq
        have fq4 : A4.find bq = some (.cells [.int .i64 k, .int .i64 sl, .int .i64 fl, .int .i64 rc, .int .i64 by_] 79 5) := by rw [← hA4, find_add_self]
        have nqg : bq ≠ bg := h_bq.ne_find fg3
        have nql : bq ≠ bl := h_bq.ne_find fl3
        have fg4 := k4.find (fun h => h) fg3
        have fl4 := k4.find (fun h => h) fl3
        have hG4 := hG3.keep k4 fun _ h => h.elim
        have hK4 := hK3.trans k4
        rw [hA4]
        clear hA4 h_bq hn_bq hr_bq
        
        have nbg : ∀ b', b' = bg → ¬ ∃ g ∈ G, ∃ a, g.base = some a ∧ a.block = b' := by
          rintro b' e ⟨g, hg, a, ha, rfl⟩
          obtain ⟨_, _, _, hc⟩ := hG4.cells hg ha
          rw [e, fg4] at hc; cases hc
        refine MEN.map (k := (fl, rc)) (l := gE G) placeOk ms_got fg4 ?_ ?_
        · intro j v st en cl hj hkl hm hst
          obtain ⟨g, hg, hgp, hgv⟩ : ∃ g, G[j]? = some g ∧ g.p = (fl, rc) ∧ v = .slice g.base g.L.length g.cap := by
            rw [gE, List.getElem?_map] at hj
            obtain ⟨g, hg, e⟩ := Option.map_eq_some_iff.1 hj
            simp only [Prod.mk.injEq] at e
            exact ⟨g, hg, e.1, e.2.symm⟩
          subst hgv
          obtain ⟨A5, hA5⟩ : ∃ A5, A4.set bg (.obj (.map en cl)) = A5 := ⟨_, rfl⟩
          have k5 : Keep A4 A5 (· = bg) := hA5 ▸ Keep.set
          have fg5 : A5.find bg = some (.obj (.map en cl)) := by rw [← hA5, find_set, if_pos rfl]
          have fq5 := k5.find nqg fq4
          have hG5 := hG4.keep k5 nbg
          have hK5 := hK4.ow k5 fun _ e => e ▸ f0g
          rw [hA5]
          clear hA5
          simp (dsimp := false) (maxSteps := 4000000) only [encE_len, encE_scal, encE_z5, encE_take, enc_len, enc_scal, lput_enc, take_enc, go_sem]
          have hgo := hG5.own g (List.mem_of_getElem? hg)
          have hgl : g.L.length ≤ 64 := by
            rw [(hG5.eq g (List.mem_of_getElem? hg)).2]
            have h1 : (got (T.take i) g.p).length ≤ (T.take i).length := List.length_filter_le _ _
            rw [List.length_take] at h1; omega
          refine APD.growW (x := .slice (some ⟨bq, 0, none⟩) 1 1) (R' := [encE (k, sl, fl, rc, by_)]) (m := 1) hgo hK5.all se_77 rfl (by decide) (by rw [Tryz.underlying77]; rfl) (by simp) rfl rfl (by rw [srow_some, row_find fq5 (by simp)]; rfl) (by simp [encE]) (by simp [encE, scal]) (by omega) fun base2 cap2 A6 hO' hK6 hN' => ?_
          have nbx : ¬ exB g.base bg := fun ⟨a, ha, e⟩ => by
            obtain ⟨_, _, _, hc⟩ := hG5.cells (List.mem_of_getElem? hg) ha
            rw [← e, fg5] at hc; cases hc
          have nbx' : ¬ exB g.base bl := fun ⟨a, ha, e⟩ => by
            obtain ⟨_, _, _, hc⟩ := hG4.cells (List.mem_of_getElem? hg) ha
            rw [← e, fl4] at hc; cases hc
          have fg6 := hK6.find nbx fg5
          have fl6 := hK6.find nbx' (k5.find (fun e => nlg e.symm) fl4)
          have hG6 := hG5.upd (x := (k, sl, fl, rc, by_)) hg hk2 hgp (by rw [List.map_append]; exact hO') hK6 hN'
          refine ⟨A6, AH.le_refl _, ?_⟩
          simp (dsimp := false) (maxSteps := 4000000) only [encE_len, encE_scal, encE_z5, encE_take, enc_len, enc_scal, lput_enc, take_enc, go_sem]
          refine EST.map (k := (fl, rc)) (l := gE G) fg6 hm hst hj ?_
          have eg : (gE G).set j ((fl, rc), .slice base2 (g.L.length + 1) cap2) = gE (G.set j ⟨g.p, base2, cap2, g.L ++ [(k, sl, fl, rc, by_)]⟩) := by
            rw [gE_set hg]; dsimp only; rw [hgp, List.length_append]; rfl
          rw [eg]
          have nb6 : ∀ b', b' = bg → ¬ ∃ g' ∈ (G.set j ⟨g.p, base2, cap2, g.L ++ [(k, sl, fl, rc, by_)]⟩), ∃ a, g'.base = some a ∧ a.block = b' := by
            rintro b' e ⟨g', hg', a, ha, rfl⟩
            obtain ⟨_, _, _, hc⟩ := hG6.cells hg' ha
            rw [e, fg6] at hc; cases hc
          generalize G.set j ⟨g.p, base2, cap2, g.L ++ [(k, sl, fl, rc, by_)]⟩ = G' at hG6 nb6 ⊢
          obtain ⟨A7, hA7⟩ : ∃ A7, A6.set bg (.amap (ke kP (gE G'))) = A7 := ⟨_, rfl⟩
          have k7 : Keep A6 A7 (· = bg) := hA7 ▸ Keep.set
          have fg7 : A7.find bg = some (.amap (ke kP (gE G'))) := by rw [← hA7, find_set, if_pos rfl]
          have fl7 := k7.find (fun e => nlg e.symm) fl6
          have hK7 := (hK5.ow hK6 fun b' hb => by
            obtain ⟨a, ha, rfl⟩ := hb
            exact (hG5.base (List.mem_of_getElem? hg) ha).2).ow k7 fun _ e => e ▸ f0g
          have hG7 := hG6.keep k7 nb6
          rw [hA7]
          simp (dsimp := false) (maxSteps := 4000000) only [ee, encE_len, encE_scal, encE_z5, encE_take, enc_len, enc_scal, lput_enc, take_enc, go_sem]
          exact again (i + 1, Lo3, G') _ A7 _ ⟨by dsimp only; omega, fl7, fg7, hL3, by dsimp only; rw [et]; exact hG7, hK7⟩ (FrLe.of_lks (by simp (dsimp := false) (maxSteps := 4000000) only [encE_len, encE_scal, encE_z5, encE_take, enc_len, enc_scal, lput_enc, take_enc, go_sem])) (AH.le_refl _) (by dsimp only; omega)
        · intro st en cl hkl hm hst
          obtain ⟨A5, hA5⟩ : ∃ A5, A4.set bg (.obj (.map en cl)) = A5 := ⟨_, rfl⟩
          have k5 : Keep A4 A5 (· = bg) := hA5 ▸ Keep.set
          have fg5 : A5.find bg = some (.obj (.map en cl)) := by rw [← hA5, find_set, if_pos rfl]
          have fq5 := k5.find nqg fq4
          have hG5 := hG4.keep k5 nbg
          have hK5 := hK4.ow k5 fun _ e => e ▸ f0g
          rw [hA5]
          clear hA5
          have hno : ∀ g ∈ G, g.p ≠ (fl, rc) := fun g hg => klk_none hkl (g.p, _) (List.mem_map_of_mem (f := fun g : Gp => (g.p, Value.slice g.base g.L.length g.cap)) hg)
          simp (dsimp := false) (maxSteps := 4000000) only [encE_len, encE_scal, encE_z5, encE_take, enc_len, enc_scal, lput_enc, take_enc, go_sem]
          refine APD.growW (x := .slice (some ⟨bq, 0, none⟩) 1 1) (R' := [encE (k, sl, fl, rc, by_)]) (m := 1) (OwnS.nil (H0 := A0)) hK5.all se_77 rfl (by decide) (by rw [Tryz.underlying77]; rfl) (by simp) rfl rfl (by rw [srow_some, row_find fq5 (by simp)]; rfl) (by simp [encE]) (by simp [encE, scal]) (by omega) fun base2 cap2 A6 hO' hK6 hN' => ?_
          have hK6' : Keep A5 A6 fun _ => False := hK6.mono fun _ ⟨a, ha, _⟩ => by cases ha
          have fg6 := hK6'.find (fun h => h) fg5
          have fl6 := hK6'.find (fun h => h) (k5.find (fun e => nlg e.symm) fl4)
          have hG6 := hG5.new (x := (k, sl, fl, rc, by_)) (base' := base2) (cap' := cap2) hno hk2 hO' hK6' (fun a ha => (hN' a ha).resolve_left fun ⟨a', ha', _⟩ => by cases ha')
          refine ⟨A6, AH.le_refl _, ?_⟩
          simp (dsimp := false) (maxSteps := 4000000) only [encE_len, encE_scal, encE_z5, encE_take, enc_len, enc_scal, lput_enc, take_enc, go_sem]
          refine EST.map (k := (fl, rc)) (l := gE G ++ [((fl, rc), .slice none 0 0)]) (v0 := .slice none 0 0) fg6 hm hst (by rw [List.getElem?_append_right (Nat.le_refl _), Nat.sub_self]; rfl) ?_
          have eg := gE_new G (fl, rc) (.slice none 0 0) ⟨(fl, rc), base2, cap2, [(k, sl, fl, rc, by_)]⟩ rfl
          dsimp only at eg
          have eg' : (gE G ++ [((fl, rc), Value.slice none 0 0)]).set (gE G).length ((fl, rc), .slice base2 (0 + 1) cap2) = gE (G ++ [⟨(fl, rc), base2, cap2, [(k, sl, fl, rc, by_)]⟩]) := eg
          rw [eg']
          have nb6 : ∀ b', b' = bg → ¬ ∃ g' ∈ (G ++ [(⟨(fl, rc), base2, cap2, [(k, sl, fl, rc, by_)]⟩ : Gp)]), ∃ a, g'.base = some a ∧ a.block = b' := by
            rintro b' e ⟨g', hg', a, ha, rfl⟩
            obtain ⟨_, _, _, hc⟩ := hG6.cells hg' ha
            rw [e, fg6] at hc; cases hc
          have hG6' : GInv A0 A6 (T.take i ++ [(k, sl, fl, rc, by_)]) (G ++ [⟨(fl, rc), base2, cap2, [(k, sl, fl, rc, by_)]⟩]) := hG6
          generalize G ++ [(⟨(fl, rc), base2, cap2, [(k, sl, fl, rc, by_)]⟩ : Gp)] = G' at hG6' nb6 ⊢
          obtain ⟨A7, hA7⟩ : ∃ A7, A6.set bg (.amap (ke kP (gE G'))) = A7 := ⟨_, rfl⟩
          have k7 : Keep A6 A7 (· = bg) := hA7 ▸ Keep.set
          have fg7 : A7.find bg = some (.amap (ke kP (gE G'))) := by rw [← hA7, find_set, if_pos rfl]
          have fl7 := k7.find (fun e => nlg e.symm) fl6
          have hK7 := (hK5.trans hK6').ow k7 fun _ e => e ▸ f0g
          have hG7 := hG6'.keep k7 nb6
          rw [hA7]
          simp (dsimp := false) (maxSteps := 4000000) only [ee, encE_len, encE_scal, encE_z5, encE_take, enc_len, enc_scal, lput_enc, take_enc, go_sem]
          exact again (i + 1, Lo3, G') _ A7 _ ⟨by dsimp only; omega, fl7, fg7, hL3, by dsimp only; rw [et]; exact hG7, hK7⟩ (FrLe.of_lks (by simp (dsimp := false) (maxSteps := 4000000) only [encE_len, encE_scal, encE_z5, encE_take, enc_len, enc_scal, lput_enc, take_enc, go_sem])) (AH.le_refl _) (by dsimp only; omega)
  case neg =>
    obtain rfl : i = T.length := by omega
    rw [List.take_length] at hL hG
    simp (dsimp := false) (maxSteps := 4000000) only [hlt, encE_len, encE_scal, encE_z5, encE_take, enc_len, enc_scal, lput_enc, take_enc, go_sem]
    refine out _ _ _ (by simp) ?_
    clear out again
    simp (dsimp := false) (maxSteps := 4000000) only [encE_len, encE_scal, encE_z5, encE_take, enc_len, enc_scal, lput_enc, take_enc, go_sem]
    refine RNG.map (es := ke kP (gE G)) Tryz.underlying154 hfg' fun en cl hm => AllB.mk fun bi h_bi => ?_
    obtain ⟨E0, hE0⟩ : ∃ E0, (A.set bg (.obj (.map en cl))).add bi (.obj (.mapIter (some bg) cl #[] cl)) = E0 := ⟨_, rfl⟩
    have nbg : ∀ b', b' = bg → ¬ ∃ g ∈ G, ∃ a, g.base = some a ∧ a.block = b' := by
      rintro b' e ⟨g, hg, a, ha, rfl⟩
      obtain ⟨_, _, _, hc⟩ := hG.cells hg ha
      rw [e, hfg'] at hc; cases hc
    have hbA : Fresh A bi ∧ bi ≠ bg := by
      have h1 := h_bi
      simp only [fresh_set] at h1
      have h2 : bi ≠ bg := fun e => by have := h_bi.2; rw [e, find_set, if_pos rfl] at this; cases this
      exact ⟨⟨h_bi.1, by have := h_bi.2; rwa [find_set, if_neg h2] at this⟩, h2⟩
    have kA1 : Keep A (A.set bg (.obj (.map en cl))) (· = bg) := Keep.set
    have kA2 : Keep (A.set bg (.obj (.map en cl))) E0 fun _ => False := hE0 ▸ Keep.add h_bi
    have hi0 : E0.find bi = some (.obj (.mapIter (some bg) cl #[] cl)) := by rw [← hE0, find_add_self]
    have hg0 : E0.find bg = some (.obj (.map en cl)) := kA2.find (fun h => h) (by rw [find_set, if_pos rfl])
    have hl0 : E0.find bl = some (.amap (ke kP (lE Lo))) := kA2.find (fun h => h) (kA1.find (fun e => nlg e.symm) hfl')
    have hG0 : GInv A0 E0 T G := (hG.keep kA1 nbg).keep kA2 fun _ h => h.elim
    have hK00 : Keep A0 E0 fun _ => False := (hK.ow kA1 fun _ e => e ▸ f0g).trans kA2
    have f0i : Fresh A0 bi := hK.fr hbA.1
    have nif : ¬ ft0 bi := hs0.fresh f0i
    have nlf : ¬ ft0 bl := hs0.fresh f0l
    have ngf : ¬ ft0 bg := hs0.fresh f0g
    have nil_ : bi ≠ bl := hbA.1.ne_find hfl'
    have nig := hbA.2
    have hX0 : OkX X0 := hX.perm hp0.symm
    rw [hE0]
    clear hE0 h_bi kA1 kA2 hbA hK hfl' hfg' nbg hG
    obtain ⟨gf, hgf, hge⟩ := pick_e hm.2.2 hm.1
    simp (dsimp := false) (maxSteps := 4000000) only [encE_len, encE_scal, encE_z5, encE_take, enc_len, enc_scal, lput_enc, take_enc, go_sem]
    refine AWp.loopr (ι := List MapEntry) (fun D A => Rnd en cl D ∧ A.find bi = some (.obj (.mapIter (some bg) cl (D.map (·.born)).toArray cl)) ∧ A.find bg = some (.obj (.map en cl)) ∧ A.find bl = some (.amap (ke kP (lE Lo))) ∧ GInv A0 A T G ∧ Keep A0 A ft0 ∧ StAt A bo ((D.map fun e => (gf e).p).foldl (stepP T hd) X0) den ft0 ∧ OkX ((D.map fun e => (gf e).p).foldl (stepP T hd) X0))
      (fun D => [(62, .pointer (some ⟨bi, 0, none⟩)), (7, .pointer (some ⟨bo, 0, none⟩)), (8, .map (some bl)), (2, .map tm), (1, .slice bt T.length ct)]) (fun D => (left en D).length) [] E0
      ⟨Rnd.nil hm.2, hi0, hg0, hl0, hG0, hK00.mono fun _ h => h.elim, hs0.keep hK00 fun _ _ h => h, hX0⟩ (FrLe.of_lks ?_) (AH.le_refl _) fun D A hV Q again out => ?_
    · simp (dsimp := false) (maxSteps := 4000000) only [encE_len, encE_scal, encE_z5, encE_take, enc_len, enc_scal, lput_enc, take_enc, go_sem]
    clear hi0 hg0 hl0 hG0 hK00
    obtain ⟨hR, hi, hbg, hbl, hG, hK, hst, hXk⟩ := hV
    simp (dsimp := false) (maxSteps := 4000000) only [encE_len, encE_scal, encE_z5, encE_take, enc_len, enc_scal, lput_enc, take_enc, go_sem]
    refine NXT.map hi hbg hR.ok (fun hl => ?_) (fun e he => ?_)
    case' refine_1 =>
      simp (dsimp := false) (maxSteps := 4000000) only [encE_len, encE_scal, encE_z5, encE_take, enc_len, enc_scal, lput_enc, take_enc, go_sem]
      refine out _ _ _ (by simp) ?_
      have hperm := hR.done hl
      have hap : (D.map fun e => (gf e).p).foldl (stepP T hd) X0 = app1 T hd X0 := by
        refine app1_any T hd X0 _ (fun p hp => ?_) fun p hp => ?_
        · obtain ⟨e, he, rfl⟩ := List.mem_map.1 hp
          have hgm : gf e ∈ G := by rw [← hgf]; exact List.mem_map_of_mem (hperm.mem_iff.1 he)
          rw [recvs_iff, ← (hG.eq _ hgm).2]; exact (hG.eq _ hgm).1
        · obtain ⟨g, hg, rfl⟩ := hG.all p (recvs_iff.1 hp)
          rw [← hgf] at hg
          obtain ⟨e, he, rfl⟩ := List.mem_map.1 hg
          exact List.mem_map_of_mem (f := fun e => (gf e).p) (hperm.mem_iff.2 he)
      rw [hap] at hst hXk
      have kHA : Keep H A fun _ => False := hK0.ow hK hf0
      obtain ⟨X1, hX1⟩ : ∃ X1, app1 T hd X0 = X1 := ⟨_, rfl⟩
      rw [hX1] at hst hXk
      have hfin : (app T hd X0 den).1.Perm (app T hd X den).1 ∧ (app T hd X0 den).2 = (app T hd X den).2 := app_p T hd hp0 hX0.kd
      have happ : app T hd X0 den = app2 T (X1, den) := by rw [app, hX1]
      rw [happ] at hfin
      clear hap hperm hG hR hi hbg hbl hK hs0 f0l f0g f0i nif nlf ngf nil_ nig hgf hge again out
      simp (dsimp := false) (maxSteps := 4000000) only [encE_len, encE_scal, encE_z5, encE_take, enc_len, enc_scal, lput_enc, take_enc, go_sem]
      refine AWp.loopr (ι := Nat × (Nat → Prop)) (fun s A => s.1 ≤ T.length ∧ StAt A bo (app2 (T.take s.1) (X1, den)).1 (app2 (T.take s.1) (X1, den)).2 s.2 ∧ OkX (app2 (T.take s.1) (X1, den)).1 ∧ (Keep H A fun _ => False) ∧ ∀ x, s.2 x → Fresh H x)
        (fun s => [(107, .int .i64 s.1), (106, .int .i64 T.length), (105, .slice bt T.length ct), (7, .pointer (some ⟨bo, 0, none⟩))]) (fun s => T.length - s.1) (0, ft0) A
        ⟨by simp, hst, hXk, kHA, hf0⟩ (FrLe.of_lks ?_) (AH.le_refl _) fun s B hV Q again out => ?_
      · simp (dsimp := false) (maxSteps := 4000000) only [encE_len, encE_scal, encE_z5, encE_take, enc_len, enc_scal, lput_enc, take_enc, go_sem]
      clear hst hXk kHA
      obtain ⟨i, ft1⟩ := s
      obtain ⟨hi, hst, hXk, hK, hf1⟩ := hV
      dsimp only at hi hst hXk hK hf1 ⊢
      by_cases hlt : (i : Int) < T.length
      · obtain ⟨x, hx⟩ := get_some (l := T) (i := i) (by omega)
        obtain ⟨q, o, rfl, hrow, _⟩ := (hT.keep hK fun _ _ h => h).get (Go.AX.map_get (f := encE) hx)
        have ee := i64_succ (i := i) (by omega)
        have hi0 : (0 : Int) ≤ (i : Int) := by omega
        have et : app2 (T.take (i + 1)) (X1, den) = exE (app2 (T.take i) (X1, den)) x := by
          rw [app2, app2, List.take_add_one, hx, List.foldl_append]; rfl
        obtain ⟨k, sl, fl, rc, by_⟩ := x
        have eE : encE (k, sl, fl, rc, by_) = [.int .i64 k, .int .i64 sl, .int .i64 fl, .int .i64 rc, .int .i64 by_] := rfl
        rw [eE] at hrow
        
        simp (dsimp := false) (maxSteps := 4000000) only [hlt, hi0, hrow, encE_len, encE_scal, encE_z5, encE_take, enc_len, enc_scal, lput_enc, take_enc, go_sem]
        refine AllB.mk fun b22 h_b22 => ?_; have hn_b22 := h_b22; (try simp only [fresh_add, fresh_set, ne_eq] at hn_b22); have hr_b22 := hn_b22; (try simp only [@eq_comm Nat b22] at hr_b22); simp (dsimp := false) (maxSteps := 4000000) only [encE_len, encE_scal, encE_z5, encE_take, enc_len, enc_scal, lput_enc, take_enc, hn_b22, hr_b22, go_sem]
        by_cases hk3 : k = 3
        · have hst' := hst.keep (Keep.add h_b22 (k := .cells [.int .i64 k, .int .i64 sl, .int .i64 fl, .int .i64 rc, .int .i64 by_] 79 5) (ex := fun _ => False)) fun _ _ h => h
          have hdo := Do_c (by rw [w0_add, hK.w0]; exact hE) hst' hXk 2 fl rc zr
          have hK22 := hK.nw h_b22 (k := .cells [.int .i64 k, .int .i64 sl, .int .i64 fl, .int .i64 rc, .int .i64 by_] 79 5)
          rw [exE, if_pos hk3] at et
          have e31 := congrArg Prod.fst et
          have e32 := congrArg Prod.snd et
          dsimp only at e31 e32
          subst hk3
          simp (dsimp := false) (maxSteps := 4000000) only [encE_len, encE_scal, encE_z5, encE_take, enc_len, enc_scal, lput_enc, take_enc, hn_b22, hr_b22, go_sem]
          refine hdo.mono ?_
          rintro _ C ⟨ft2, rfl, hst2, hK2, hf2⟩
          simp (dsimp := false) (maxSteps := 4000000) only [ee, encE_len, encE_scal, encE_z5, encE_take, enc_len, enc_scal, lput_enc, take_enc, hn_b22, hr_b22, go_sem]
          exact again (i + 1, ft2) _ C _ ⟨by dsimp only; omega, by dsimp only; rw [e31, e32]; exact hst2, by dsimp only; rw [e31]; exact hXk.do _ _ _ ⟨by decide, by decide, by decide, by decide⟩, hK22.ow hK2 hf1, fun x hx => (hf2 x hx).elim (hf1 x) fun h => hK22.fr h⟩ (FrLe.of_lks (by simp (dsimp := false) (maxSteps := 4000000) only [encE_len, encE_scal, encE_z5, encE_take, enc_len, enc_scal, lput_enc, take_enc, hn_b22, hr_b22, go_sem])) (AH.le_refl _) (by dsimp only; omega)
        · rw [exE, if_neg hk3] at et
          simp (dsimp := false) (maxSteps := 4000000) only [hk3, ee, encE_len, encE_scal, encE_z5, encE_take, enc_len, enc_scal, lput_enc, take_enc, hn_b22, hr_b22, go_sem]
          exact again (i + 1, ft1) _ B _ ⟨by dsimp only; omega, by dsimp only; rw [et]; exact hst, by dsimp only; rw [et]; exact hXk, hK, hf1⟩ (FrLe.of_lks (by simp (dsimp := false) (maxSteps := 4000000) only [encE_len, encE_scal, encE_z5, encE_take, enc_len, enc_scal, lput_enc, take_enc, hn_b22, hr_b22, go_sem])) (AH.le_add (AH.le_refl _) h_b22.2) (by dsimp only; omega)
        
      · obtain rfl : i = T.length := by omega
        rw [List.take_length] at hst hXk
        simp (dsimp := false) (maxSteps := 4000000) only [hlt, encE_len, encE_scal, encE_z5, encE_take, enc_len, enc_scal, lput_enc, take_enc, go_sem]
        refine out _ _ _ (by simp) ?_
        simp (dsimp := false) (maxSteps := 4000000) only [encE_len, encE_scal, encE_z5, encE_take, enc_len, enc_scal, lput_enc, take_enc, go_sem]
        exact ⟨B, AH.le_refl _, bo, _, ft1, rfl, hfin.1, hXk, by rw [← hfin.2]; exact hst, hK, hf1⟩
    case' refine_2 =>
      obtain ⟨hmem, hnb⟩ := Rnd.of_left (cl := cl) he
      obtain ⟨hek, hev⟩ := hge e hmem
      have hek' : e.key = .agg #[.int .i64 (gf e).p.1, .int .i64 (gf e).p.2] := hek
      have hgm : gf e ∈ G := by rw [← hgf]; exact List.mem_map_of_mem hmem
      have nbi : ∀ b', b' = bi → ¬ ∃ g ∈ G, ∃ a, g.base = some a ∧ a.block = b' := by
        rintro b' e ⟨g, hg, a, ha, rfl⟩
        obtain ⟨_, _, _, hc⟩ := hG.cells hg ha
        rw [e, hi] at hc; cases hc
      simp (dsimp := false) (maxSteps := 4000000) only [encE_len, encE_scal, encE_z5, encE_take, enc_len, enc_scal, lput_enc, take_enc, go_sem]
      refine ENT.map (by rw [find_set, if_pos rfl]) (by rw [find_set, if_neg (Ne.symm nig)]; exact hbg) hR.ok hmem ?_
      rw [hek', hev]
      obtain ⟨A1, hA1⟩ : ∃ A1, A.set bi (.obj (.mapIter (some bg) cl ((D ++ [e]).map (·.born)).toArray cl)) = A1 := ⟨_, rfl⟩
      have k1 : Keep A A1 (· = bi) := hA1 ▸ Keep.set
      have hi1 : A1.find bi = some (.obj (.mapIter (some bg) cl ((D ++ [e]).map (·.born)).toArray cl)) := by rw [← hA1, find_set, if_pos rfl]
      have hbg1 := k1.find (fun h => nig h.symm) hbg
      have hbl1 := k1.find (fun h => nil_ h.symm) hbl
      have hG1 := hG.keep k1 nbi
      have hK1 : Keep A0 A1 ft0 := hK.then k1 fun x e => .inr (e ▸ f0i)
      have hst1 := hst.keep k1 fun x hx e => nif (e ▸ hx)
      rw [hA1]
      clear hA1 k1 hi hbg hbl hG hK hst
      obtain ⟨XD, hXD⟩ : ∃ XD, (D.map fun e => (gf e).p).foldl (stepP T hd) X0 = XD := ⟨_, rfl⟩
      have hXD' : ((D ++ [e]).map fun e => (gf e).p).foldl (stepP T hd) X0 = stepP T hd XD (gf e).p := by
        rw [List.map_append, List.foldl_append, hXD]; rfl
      rw [hXD] at hst1 hXk
      have hXk' := stepP_ok (T := T) hr hXk (gf e).p
      have hRD := hR.step he
      have hles := Rnd.less he
      have hgL := (hG1.eq _ hgm).2
      have hgs := (hG1.own _ hgm).slc
      obtain ⟨ge, hge'⟩ : ∃ ge, gf e = ge := ⟨_, rfl⟩
      rw [hge'] at hgL hgs hXD' hXk' hgm ⊢
      obtain ⟨⟨pf, pr⟩, gbase, gcap, gL⟩ := ge
      dsimp only at hgL hgs hXD' hXk' ⊢
      simp (dsimp := false) (maxSteps := 4000000) only [encE_len, encE_scal, encE_z5, encE_take, enc_len, enc_scal, lput_enc, take_enc, go_sem]
      refine AllB.mk fun b15 h_b15 => ?_; have hn_b15 := h_b15; (try simp only [fresh_add, fresh_set, ne_eq] at hn_b15); have hr_b15 := hn_b15; (try simp only [@eq_comm Nat b15] at hr_b15); simp (dsimp := false) (maxSteps := 4000000) only [encE_len, encE_scal, encE_z5, encE_take, enc_len, enc_scal, lput_enc, take_enc, hn_b15, hr_b15, go_sem]
      have hst2 := hst1.keep (Keep.add h_b15 (k := .cells [.int .i64 pf, .int .i64 pr] 156 2) (ex := fun _ => False)) fun _ _ h => h
      refine (Get_c hst2 hXk pf pr).mono ?_; rintro _ _ ⟨rfl, rfl⟩
      clear hst2
      have n15 : ¬ bl = b15 := fun e => h_b15.ne_find hbl1 e.symm
      have hles' : (left en (D ++ [e])).length < (left en D).length := hles
      cases hgw : getW XD pf pr with
      | none =>
        have hsp : stepP T hd XD (pf, pr) = XD := by rw [stepP]; dsimp only; rw [hgw]
        
        unfold getV
        simp (dsimp := false) (maxSteps := 4000000) only [encE_len, encE_scal, encE_z5, encE_take, enc_len, enc_scal, lput_enc, take_enc, hn_b15, hr_b15, go_sem]
        refine AllB.mk fun b17 h_b17 => ?_; have hn_b17 := h_b17; (try simp only [fresh_add, fresh_set, ne_eq] at hn_b17); have hr_b17 := hn_b17; (try simp only [@eq_comm Nat b17] at hr_b17); simp (dsimp := false) (maxSteps := 4000000) only [encE_len, encE_scal, encE_z5, encE_take, enc_len, enc_scal, lput_enc, take_enc, hn_b15, hr_b15, hn_b17, hr_b17, go_sem]
        have n17 : ¬ bl = b17 := fun e => hn_b17.2.ne_find hbl1 e.symm
        refine LKS.map (k := (pf, pr)) placeOk ms_lost (by rw [find_add, if_neg n17, find_add, if_neg n15]; exact hbl1) ?_
        rw [mres_lost]
        have fin : ∀ fr', (FrLe [(62, .pointer (some ⟨bi, 0, none⟩)), (7, .pointer (some ⟨bo, 0, none⟩)), (8, .map (some bl)), (2, .map tm), (1, .slice bt T.length ct)] fr') → Q .normal fr' ((A1.add b15 (.cells [.int .i64 pf, .int .i64 pr] 156 2)).add b17 (.cells (enc zr) 26 4)) := fun fr' hfr =>
          again (D ++ [e]) _ A1 _ ⟨hRD, hi1, hbg1, hbl1, hG1, hK1, by rw [hXD', hsp]; exact hst1, by rw [hXD', hsp]; exact hXk⟩ hfr (AH.le_add (AH.le_add (AH.le_refl _) h_b15.2) (by simp only [fresh_add, ne_eq, hn_b17, not_false_eq_true, and_self] : Fresh _ b17).2) hles'
        by_cases hlo : (pf, pr) ∈ Lo
        · rw [decide_eq_true hlo]
          simp (dsimp := false) (maxSteps := 4000000) only [encE_len, encE_scal, encE_z5, encE_take, enc_len, enc_scal, lput_enc, take_enc, hn_b15, hr_b15, hn_b17, hr_b17, go_sem]
          exact fin _ (FrLe.of_lks (by simp (dsimp := false) (maxSteps := 4000000) only [encE_len, encE_scal, encE_z5, encE_take, enc_len, enc_scal, lput_enc, take_enc, hn_b15, hr_b15, hn_b17, hr_b17, go_sem]))
        · rw [decide_eq_false hlo]
          simp (dsimp := false) (maxSteps := 4000000) only [encE_len, encE_scal, encE_z5, encE_take, enc_len, enc_scal, lput_enc, take_enc, hn_b15, hr_b15, hn_b17, hr_b17, go_sem]
          exact fin _ (FrLe.of_lks (by simp (dsimp := false) (maxSteps := 4000000) only [encE_len, encE_scal, encE_z5, encE_take, enc_len, enc_scal, lput_enc, take_enc, hn_b15, hr_b15, hn_b17, hr_b17, go_sem]))
        
      | some v =>
        
        unfold getV
        simp (dsimp := false) (maxSteps := 4000000) only [encE_len, encE_scal, encE_z5, encE_take, enc_len, enc_scal, lput_enc, take_enc, hn_b15, hr_b15, go_sem]
        refine AllB.mk fun b17 h_b17 => ?_; have hn_b17 := h_b17; (try simp only [fresh_add, fresh_set, ne_eq] at hn_b17); have hr_b17 := hn_b17; (try simp only [@eq_comm Nat b17] at hr_b17); simp (dsimp := false) (maxSteps := 4000000) only [encE_len, encE_scal, encE_z5, encE_take, enc_len, enc_scal, lput_enc, take_enc, hn_b15, hr_b15, hn_b17, hr_b17, go_sem]
        have n17 : ¬ bl = b17 := fun e => hn_b17.2.ne_find hbl1 e.symm
        refine LKS.map (k := (pf, pr)) placeOk ms_lost (by rw [find_add, if_neg n17, find_add, if_neg n15]; exact hbl1) ?_
        rw [mres_lost]
        by_cases hlo : (pf, pr) ∈ Lo
        · have hsp : stepP T hd XD (pf, pr) = XD := by
            rw [stepP]; dsimp only; rw [hgw]; dsimp only
            rw [if_neg]
            rw [okP_iff hL]; exact fun h => h hlo
          rw [decide_eq_true hlo]
          simp (dsimp := false) (maxSteps := 4000000) only [encE_len, encE_scal, encE_z5, encE_take, enc_len, enc_scal, lput_enc, take_enc, hn_b15, hr_b15, hn_b17, hr_b17, go_sem]
          exact again (D ++ [e]) _ A1 _ ⟨hRD, hi1, hbg1, hbl1, hG1, hK1, by rw [hXD', hsp]; exact hst1, by rw [hXD', hsp]; exact hXk⟩ (FrLe.of_lks (by simp (dsimp := false) (maxSteps := 4000000) only [encE_len, encE_scal, encE_z5, encE_take, enc_len, enc_scal, lput_enc, take_enc, hn_b15, hr_b15, hn_b17, hr_b17, go_sem])) (AH.le_add (AH.le_add (AH.le_refl _) h_b15.2) (by simp only [fresh_add, ne_eq, hn_b17, not_false_eq_true, and_self] : Fresh _ b17).2) hles'
        · have hsp : stepP T hd XD (pf, pr) = setX XD pf pr (gL.foldl (putE hd) v) := by
            rw [stepP]; dsimp only; rw [hgw]; dsimp only
            rw [if_pos ((okP_iff hL _).2 hlo), hgL]
          rw [decide_eq_false hlo]
          simp (dsimp := false) (maxSteps := 4000000) only [encE_len, encE_scal, encE_z5, encE_take, enc_len, enc_scal, lput_enc, take_enc, hn_b15, hr_b15, hn_b17, hr_b17, go_sem]
          have kHA1 : Keep H A1 fun _ => False := hK0.ow hK1 hf0
          have hHm1 := hH.keep kHA1 fun _ _ h => h
          have hgb := hgs.big
          simp only [List.length_map] at hgb
          refine AWp.loopo (ι := Nat) (fun j => j ≤ gL.length) (fun j => [(86, .int .i64 j), (85, .int .i64 gL.length), (84, .slice gbase gL.length gcap), (15, .pointer (some ⟨b15, 0, none⟩)), (17, .pointer (some ⟨b17, 0, none⟩)), (62, .pointer (some ⟨bi, 0, none⟩)), (7, .pointer (some ⟨bo, 0, none⟩)), (8, .map (some bl)), (2, .map tm), (1, .slice bt T.length ct)])
            (fun j => (A1.add b15 (.cells [.int .i64 pf, .int .i64 pr] 156 2)).add b17 (.cells (enc ((gL.take j).foldl (putE hd) v)) 26 4)) (fun j => gL.length - j) 0 (by omega) (FrLe.of_lks ?_) (AH.le_refl _) fun j hj Q2 again2 out2 => ?_
          · simp (dsimp := false) (maxSteps := 4000000) only [encE_len, encE_scal, encE_z5, encE_take, enc_len, enc_scal, lput_enc, take_enc, hn_b15, hr_b15, hn_b17, hr_b17, go_sem]
          by_cases hjl : (j : Int) < gL.length
          · obtain ⟨y, hy⟩ := get_some (l := gL) (i := j) (by omega)
            obtain ⟨q3, o3, rfl, hr3, _⟩ := hgs.get (Go.AX.map_get (f := encE) hy)
            have hyT : y ∈ T ∧ y.1 = 2 := by
              have := List.mem_of_getElem? hy
              rw [hgL] at this
              obtain ⟨h1, h2⟩ := List.mem_filter.1 this
              simp only [isP, Bool.and_eq_true, decide_eq_true_eq] at h2
              exact ⟨h1, h2.1⟩
            have hyb := hB y hyT.1 hyT.2
            have ee := i64_succ (i := j) (by omega)
            have hj0 : (0 : Int) ≤ (j : Int) := by omega
            have hstp : (gL.take (j + 1)).foldl (putE hd) v = putE hd ((gL.take j).foldl (putE hd) v) y := by
              rw [List.take_add_one, hy, List.foldl_append]; rfl
            have m15 : ¬ b15 = q3 := h_b15.ne_row hr3
            have m17 : ¬ b17 = q3 := hn_b17.2.ne_row hr3
            obtain ⟨y0, y1, y2, y3, y4⟩ := y
            dsimp only at hyb
            obtain ⟨m, rfl⟩ : ∃ m : Nat, y4 = m := ⟨y4.toNat, by omega⟩
            have eE : encE (y0, y1, y2, y3, (m : Int)) = [.int .i64 y0, .int .i64 y1, .int .i64 y2, .int .i64 y3, .int .i64 (m : Int)] := rfl
            rw [eE] at hr3
            have hm0 : (0 : Int) ≤ (m : Int) := by omega
            have hm4 : (m : Int) < 4 := by omega
            have hm3 : m ≤ 3 := by omega
            obtain ⟨w, hw⟩ : ∃ w, (gL.take j).foldl (putE hd) v = w := ⟨_, rfl⟩
            rw [hw] at hstp ⊢
            
            simp (dsimp := false) (maxSteps := 4000000) only [hjl, hj0, hr3, m15, m17, encE_len, encE_scal, encE_z5, encE_take, enc_len, enc_scal, lput_enc, take_enc, hn_b15, hr_b15, hn_b17, hr_b17, go_sem]
            refine AllB.mk fun b20 h_b20 => ?_; have hn_b20 := h_b20; (try simp only [fresh_add, fresh_set, ne_eq] at hn_b20); have hr_b20 := hn_b20; (try simp only [@eq_comm Nat b20] at hr_b20); simp (dsimp := false) (maxSteps := 4000000) only [encE_len, encE_scal, encE_z5, encE_take, enc_len, enc_scal, lput_enc, take_enc, hn_b15, hr_b15, hn_b17, hr_b17, hn_b20, hr_b20, go_sem]
            have hl := fun k15 k17 k20 i k => lkp_hm (H := ((A1.add b15 k15).add b17 k17).add b20 k20) (hHm1.keep (((Keep.refl.nw h_b15).nw (by simp only [fresh_add, ne_eq, hn_b17, not_false_eq_true, and_self])).nw (by simp only [fresh_add, ne_eq, hn_b20, not_false_eq_true, and_self])) (ex := fun _ => False) fun _ _ h => h) i k
            have hse : (enc w).set m (.int .u8 ((hd y1).getD 0)) = enc ((gL.take (j + 1)).foldl (putE hd) v) := by rw [enc_putB w _ m hm3, hstp]; rfl
            simp (dsimp := false) (maxSteps := 4000000) only [hl, hm0, hm4, hm3, hse, ee, encE_len, encE_scal, encE_z5, encE_take, enc_len, enc_scal, lput_enc, take_enc, hn_b15, hr_b15, hn_b17, hr_b17, hn_b20, hr_b20, go_sem]
            exact again2 (j + 1) _ _ (by omega) (FrLe.of_lks (by simp (dsimp := false) (maxSteps := 4000000) only [encE_len, encE_scal, encE_z5, encE_take, enc_len, enc_scal, lput_enc, take_enc, hn_b15, hr_b15, hn_b17, hr_b17, hn_b20, hr_b20, go_sem])) (AH.le_add (AH.le_refl _) (by simp only [fresh_add, fresh_set, ne_eq, hn_b20, not_false_eq_true, and_self] : Fresh _ b20).2) (by omega)
            
          · obtain rfl : j = gL.length := by omega
            rw [List.take_length]
            obtain ⟨w, hw⟩ : ∃ w, gL.foldl (putE hd) v = w := ⟨_, rfl⟩
            rw [hw] at hsp ⊢
            simp (dsimp := false) (maxSteps := 4000000) only [hjl, encE_len, encE_scal, encE_z5, encE_take, enc_len, enc_scal, lput_enc, take_enc, hn_b15, hr_b15, hn_b17, hr_b17, go_sem]
            refine out2 _ _ _ (by simp) ?_
            simp (dsimp := false) (maxSteps := 4000000) only [encE_len, encE_scal, encE_z5, encE_take, enc_len, enc_scal, lput_enc, take_enc, hn_b15, hr_b15, hn_b17, hr_b17, go_sem]
            have kc : Keep A1 ((A1.add b15 (.cells [.int .i64 pf, .int .i64 pr] 156 2)).add b17 (.cells (enc w) 26 4)) fun _ => False := (Keep.refl.nw h_b15).nw (by simp only [fresh_add, ne_eq, hn_b17, not_false_eq_true, and_self])
            have hset := Set_c (hst1.keep kc fun _ _ h => h) hXk pf pr w
            refine hset.mono ?_
            rintro _ A2 ⟨rfl, hst2, hKs⟩
            have k12 : Keep A1 A2 ft0 := (kc.mono fun _ h => h.elim).trans hKs
            have nbf : ∀ b', ft0 b' → ¬ ∃ g ∈ G, ∃ a, g.base = some a ∧ a.block = b' := by
              rintro b' hb' ⟨g, hg, a, ha, rfl⟩
              exact hs0.fresh (hG1.base hg ha).2 hb'
            simp (dsimp := false) (maxSteps := 4000000) only [encE_len, encE_scal, encE_z5, encE_take, enc_len, enc_scal, lput_enc, take_enc, hn_b15, hr_b15, hn_b17, hr_b17, go_sem]
            exact again (D ++ [e]) _ A2 _ ⟨hRD, k12.find nif hi1, k12.find ngf hbg1, k12.find nlf hbl1, hG1.keep k12 nbf, hK1.trans k12, by rw [hXD', hsp]; exact hst2, hXD' ▸ hXk'⟩ (FrLe.of_lks (by simp (dsimp := false) (maxSteps := 4000000) only [encE_len, encE_scal, encE_z5, encE_take, enc_len, enc_scal, lput_enc, take_enc, hn_b15, hr_b15, hn_b17, hr_b17, go_sem])) (AH.le_refl _) hles'
        
end Go.Proofs.YtamlipffhimfmaaGreatDoor.Prt

/- part: the reference's Copy. -/
namespace Go.Proofs.YtamlipffhimfmaaGreatDoor.Prt
set_option linter.unusedSimpArgs false
set_option linter.unusedVariables false
open Go Go.AX Go.Proofs Ty Go.Proofs.YtamlipffhimfmaaGreatDoor.File Go.Proofs.YtamlipffhimfmaaGreatDoor.Ifs Go.Proofs.YtamlipffhimfmaaGreatDoor.Err
open Go.Proofs.YtamlipffhimfmaaGreatDoor.Chk (encE encE_len encE_scal encE_z5 encE_take)
set_option maxHeartbeats 4000000
set_option maxRecDepth 10000

theorem RefCopy_c {H : AH} {b : Nat} {Z : List RF} {den : Int} {rd : Nat → Prop} (h : RefS H b Z den rd) (hX : OkX (Z.map RF.nf)) :
    ACalls Tryz.prog 59 #[.pointer (some ⟨b, 0, none⟩)] H (fun u H' => ∃ b' rd', u = .pointer (some ⟨b', 0, none⟩) ∧ RefS H' b' Z den rd' ∧ (Keep H H' fun _ => False) ∧ Fresh H b' ∧ ∀ x, rd' x → rd x ∨ Fresh H x) := by
  obtain ⟨zb, zc, ht, hZ, hnb, hzb, hk⟩ := id h
  have hZl : Z.length ≤ 64 := by have := hX.len; simpa using this
  have r0 : H.rd ⟨b, 0, none⟩ = some (.slice zb Z.length zc) := by rw [rd_find ht]; rfl
  have r1 : H.rd ⟨b, 1, none⟩ = some (.int .i64 den) := by rw [rd_find ht]; rfl
  refine ACalls.enter2 Tryz.func59 rfl Tryz.ntmps59 Tryz.results59 (by simp) ?_; simp (dsimp := false) (maxSteps := 4000000) only [go_sem]
  refine AWp.gen [.al, .pu, .pu, .pu, .rd, .ch, .pu, .pu, .pu, .rd, .pu, .al, .pu] [0, 0, 2, 6, 14, 31, 0, 64, 192, 448, 1023, 2047, 4095] 6 (_) mixed (by kernel_rfl) (AH.le_refl _) ?_
  simp (dsimp := false) (maxSteps := 4000000) only [r0, r1, go_sem]
  refine AllB.mk fun bl h_bl => ?_
  have kl : Keep H (H.add bl (.cells [] 74 0)) fun _ => False := Keep.add h_bl
  simp (dsimp := false) (maxSteps := 4000000) only [r0, r1, go_sem]
  refine APD.growS (H0 := H) (m := Z.length) (R := []) (R' := Z.map encN) (OwnS.new h_bl (AH.le_refl _) rfl rfl rfl (by simp) (by simp)) kl.all se_22 rfl (by decide) (by decide) (by rw [Tryz.underlying22]; rfl) rfl (by simp) (hZ.keep kl fun _ _ h => h).out (rowsN Z) (scalN Z) (by omega) fun base' cap' A hO' hK' hN' => ?_
  refine ⟨A, AH.le_refl _, ?_⟩
  rw [List.nil_append] at hO'
  rw [Nat.zero_add]
  have kA : Keep H A fun _ => False := kl.ow hK' fun b ⟨a, ha, e⟩ => by cases ha; exact e ▸ h_bl
  simp (dsimp := false) (maxSteps := 4000000) only [r0, r1, go_sem]
  refine ⟨kA.all, AllB.mk fun bc h_bc => ?_⟩
  have hcl : ∀ x, exB base' x → (∃ k, A.find x = some k) ∧ Fresh H x := fun x ⟨a, ha, e⟩ => by
    rcases hO'.at_ with ⟨h1, _⟩ | ⟨b2, bs, h1, h2, _, h3⟩
    · rw [ha] at h1; cases h1
    · rw [ha] at h1; cases h1; subst e; exact ⟨⟨_, h2⟩, h3⟩
  have kc : Keep A (A.add bc (.cells [.slice base' Z.length cap', .int .i64 den] 49 2)) fun _ => False := Keep.add h_bc
  have hfr := kA.fr h_bc
  have hRef : RefS (A.add bc (.cells [.slice base' Z.length cap', .int .i64 den] 49 2)) bc Z den (fun x => exB base' x ∨ rd x) := by
    refine ⟨base', cap', find_add_self _ _ _, ⟨hO'.slc.keep kc fun _ _ h => h, fun z hz => ((hZ.inn z hz).keep kA fun _ _ h => h).keep kc fun _ _ h => h, .inr fun a ha => .inl ⟨a, ha, rfl⟩, fun z hz => (hZ.r2 z hz).imp id fun h a ha => .inr (h a ha)⟩, ?_, ?_, ?_⟩
    · rintro (hx | hx)
      · obtain ⟨⟨k, hk'⟩, _⟩ := hcl _ hx
        exact h_bc.ne_find hk' rfl
      · exact hk _ hx hfr
    · rcases hO'.at_ with ⟨h1, h2, h3⟩ | ⟨b2, bs, h1, _⟩
      · exact .inl ⟨h1, List.map_eq_nil_iff.1 h2, h3⟩
      · exact .inr ⟨_, _, h1⟩
    · rintro x (hx | hx) hf
      · obtain ⟨⟨k, hk'⟩, _⟩ := hcl _ hx
        exact hf.ne_find (kc.find (fun h => h) hk') rfl
      · exact hk _ hx ((kA.trans kc).fr hf)
  simp (dsimp := false) (maxSteps := 4000000) only [go_sem]
  exact ⟨_, AH.le_refl _, bc, _, rfl, hRef, kA.trans kc, hfr, fun x hx => hx.elim (fun h => .inr (hcl x h).2) .inl⟩
end Go.Proofs.YtamlipffhimfmaaGreatDoor.Prt

/- part: the reference's Apply. -/
namespace Go.Proofs.YtamlipffhimfmaaGreatDoor.Prt
set_option linter.unusedSimpArgs false
set_option linter.unusedVariables false
open Go Go.AX Go.Proofs Ty Go.Proofs.YtamlipffhimfmaaGreatDoor.File Go.Proofs.YtamlipffhimfmaaGreatDoor.Ifs Go.Proofs.YtamlipffhimfmaaGreatDoor.Err
open Go.Proofs.YtamlipffhimfmaaGreatDoor.Chk (encE encE_len encE_scal encE_z5 encE_take)
set_option maxHeartbeats 4000000
set_option maxRecDepth 10000

theorem app1_snoc (T0 T : List En) (x : En) (hd : Hd) (X : List Nf) : (recvs (T ++ [x])).foldl (stepP T0 hd) X = if x.1 = 2 then stepP T0 hd ((recvs T).foldl (stepP T0 hd) X) (pl x) else (recvs T).foldl (stepP T0 hd) X := by
  rw [recvs, List.filter_append, List.map_append, List.foldl_append, ← recvs]
  by_cases h : x.1 = 2
  · rw [if_pos h]; simp [h]
  · rw [if_neg h]; simp [h]
theorem okP_app (hd : Hd) (l l' : List En) : okP hd (l ++ l') = (okP hd l && okP hd l') := by rw [okP, okP, okP, List.all_append]
theorem refS_find {H : AH} {b : Nat} {Z : List RF} {den : Int} {rd : Nat → Prop} (h : RefS H b Z den rd) : ∃ k, H.find b = some k := by
  obtain ⟨_, _, h, _⟩ := h
  exact ⟨_, h⟩
theorem refS_kn {H : AH} {b : Nat} {Z : List RF} {den : Int} {rd : Nat → Prop} (h : RefS H b Z den rd) : RefK H rd := by
  obtain ⟨_, _, _, _, _, _, h⟩ := h
  exact h
theorem get_val (o : Option Rc) : ∃ v ok, getV o = .tuple #[.agg (enc v).toArray, .bool ok] ∧ (o = none → ok = false) ∧ ∀ w, o = some w → v = w ∧ ok = true := by
  cases o with
  | none => exact ⟨zr, false, rfl, fun _ => rfl, fun _ h => by cases h⟩
  | some w => exact ⟨w, true, rfl, (fun h => by cases h), fun _ h => ⟨Option.some.inj h, rfl⟩⟩
theorem got_step (T : List En) {m : Nat} {y : En} (hy : T[m]? = some y) (p : Pl) : got (T.take (m + 1)) p = got (T.take m) p ++ if isP p y = true then [y] else [] := by
  rw [List.take_add_one, hy]; exact got_snoc _ _ _
theorem RefApply_c {H : AH} {b : Nat} {Z : List RF} {den : Int} {rd : Nat → Prop} (h : RefS H b Z den rd) (hX : OkX (Z.map RF.nf)) (T : List En) (bt : Option Addr) (ct : Nat) (hT : SlcIn H 5 bt ct (T.map encE)) (hd : Hd)
    (hr : ∀ s y, hd s = some y → 0 ≤ y ∧ y ≤ 255) (hB : ∀ x ∈ T, x.1 = 2 → (1 ≤ x.2.1 ∧ x.2.1 ≤ 16) ∧ 0 ≤ x.2.2.2.2 ∧ x.2.2.2.2 ≤ 3) :
    ACalls Tryz.prog 34 #[.pointer (some ⟨b, 0, none⟩), .slice bt T.length ct, .agg (rowH hd 17).toArray] H (fun u H' => ∃ b' Z' rd', u = .pointer (some ⟨b', 0, none⟩) ∧ Z'.map RF.nf = (app T hd (Z.map RF.nf) den).1 ∧ OkX (Z'.map RF.nf) ∧ RefS H' b' Z' (app T hd (Z.map RF.nf) den).2 rd' ∧ (Keep H H' fun _ => False) ∧ Fresh H b' ∧ ∀ x, rd' x → rd x ∨ Fresh H x) := by
  have hlenR := rowH_len hd 17
  have hscR := rowH_scal hd 17
  have hbigT := hT.big
  simp only [List.length_map] at hbigT
  refine ACalls.enter2 Tryz.func34 rfl Tryz.ntmps34 Tryz.results34 (by simp) ?_; simp (dsimp := false) (maxSteps := 4000000) only [encE_len, encE_scal, encE_z5, encE_take, enc_len, enc_scal, lput_enc, take_enc, hlenR, hscR, go_sem]
  refine AllB.mk fun b5 h_b5 => ?_; have hn_b5 := h_b5; (try simp only [fresh_add, fresh_set, ne_eq] at hn_b5); have hr_b5 := hn_b5; (try simp only [@eq_comm Nat b5] at hr_b5); simp (dsimp := false) (maxSteps := 4000000) only [encE_len, encE_scal, encE_z5, encE_take, enc_len, enc_scal, lput_enc, take_enc, hlenR, hscR, hn_b5, hr_b5, go_sem]
  have f5 : Fresh H b5 := h_b5
  have k5 : Keep H (H.add b5 (.cells (rowH hd 17) 96 34)) fun _ => False := Keep.add h_b5
  refine (RefCopy_c (h.keep k5 (fun _ _ h => h) fun h => h) hX).mono ?_
  rintro _ A0 ⟨bo, rd0, rfl, hS0, hK0, hfo, hr0⟩
  have f50 := hK0.find (fun h => h) (find_add_self _ _ _)
  have kH0 := k5.trans hK0
  have hfoH : Fresh H bo := k5.fr hfo
  have hr0H : ∀ x, rd0 x → rd x ∨ Fresh H x := fun x hx => (hr0 x hx).imp id fun h => k5.fr h
  have n5o : b5 ≠ bo := fun e => hfo.ne_find (find_add_self _ _ _) e.symm
  rw [show (some (ABlk.cells (rowH hd 17) 96 34)) = some (.cells (rowH hd 17) 96 34) from rfl] at f50
  clear h_b5 hn_b5 hr_b5 hK0 hr0 hfo k5
  
  simp (dsimp := false) (maxSteps := 4000000) only [encE_len, encE_scal, encE_z5, encE_take, enc_len, enc_scal, lput_enc, take_enc, hlenR, hscR, go_sem]
  obtain ⟨X0, hX0⟩ : ∃ X0, Z.map RF.nf = X0 := ⟨_, rfl⟩
  refine AWp.loopr (ι := Nat × List RF × (Nat → Prop)) (fun s A => s.1 ≤ T.length ∧ RefS A bo s.2.1 den s.2.2 ∧ s.2.1.map RF.nf = (recvs (T.take s.1)).foldl (stepP T hd) X0 ∧ OkX (s.2.1.map RF.nf) ∧ (Keep H A fun _ => False) ∧ (∀ x, s.2.2 x → rd x ∨ Fresh H x) ∧ A.find b5 = some (.cells (rowH hd 17) 96 34))
    (fun s => [(8, .int .i64 s.1), (1, .slice bt T.length ct), (7, .pointer (some ⟨bo, 0, none⟩)), (5, .pointer (some ⟨b5, 0, none⟩))]) (fun s => T.length - s.1) (0, Z, rd0) A0
    ⟨by simp, hS0, hX0, hX, kH0, hr0H, f50⟩ (FrLe.of_lks ?_) (AH.le_refl _) fun s A hV Q again out => ?_
  · simp (dsimp := false) (maxSteps := 4000000) only [encE_len, encE_scal, encE_z5, encE_take, enc_len, enc_scal, lput_enc, take_enc, hlenR, hscR, go_sem]
  clear hS0 kH0 hr0H f50
  obtain ⟨i, Zi, rdi⟩ := s
  obtain ⟨hi, hS, hZi, hXi, hK, hrd, hf5⟩ := hV
  dsimp only at hi hS hZi hXi hK hrd hf5 ⊢
  by_cases hlt : (i : Int) < T.length
  · obtain ⟨x, hx⟩ := get_some (l := T) (i := i) (by omega)
    have hTA := hT.keep hK fun _ _ h => h
    obtain ⟨q, o, rfl, hrow, _⟩ := hTA.get (Go.AX.map_get (f := encE) hx)
    have ee := i64_succ (i := i) (by omega)
    have hi0 : (0 : Int) ≤ (i : Int) := by omega
    have et : T.take (i + 1) = T.take i ++ [x] := by rw [List.take_add_one, hx]; rfl
    have hxT := List.mem_of_getElem? hx
    have hsn := app1_snoc T (T.take i) x hd X0
    rw [← et, ← hZi] at hsn
    obtain ⟨k, sl, fl, rc, by_⟩ := x
    have eE : encE (k, sl, fl, rc, by_) = [.int .i64 k, .int .i64 sl, .int .i64 fl, .int .i64 rc, .int .i64 by_] := rfl
    rw [eE] at hrow
    
    simp (dsimp := false) (maxSteps := 4000000) only [hlt, hi0, hrow, encE_len, encE_scal, encE_z5, encE_take, enc_len, enc_scal, lput_enc, take_enc, hlenR, hscR, go_sem]
    refine AllB.mk fun b9 h_b9 => ?_; have hn_b9 := h_b9; (try simp only [fresh_add, fresh_set, ne_eq] at hn_b9); have hr_b9 := hn_b9; (try simp only [@eq_comm Nat b9] at hr_b9); simp (dsimp := false) (maxSteps := 4000000) only [encE_len, encE_scal, encE_z5, encE_take, enc_len, enc_scal, lput_enc, take_enc, hlenR, hscR, hn_b9, hr_b9, go_sem]
    by_cases hk2 : k = 2
    case' neg =>
      rw [if_neg hk2] at hsn
      simp (dsimp := false) (maxSteps := 4000000) only [hk2, ee, encE_len, encE_scal, encE_z5, encE_take, enc_len, enc_scal, lput_enc, take_enc, hlenR, hscR, hn_b9, hr_b9, go_sem]
      exact again (i + 1, Zi, rdi) _ A _ ⟨by dsimp only; omega, hS, hsn.symm, hXi, hK, hrd, hf5⟩ (FrLe.of_lks (by simp (dsimp := false) (maxSteps := 4000000) only [encE_len, encE_scal, encE_z5, encE_take, enc_len, enc_scal, lput_enc, take_enc, hlenR, hscR, hn_b9, hr_b9, go_sem])) (AH.le_add (AH.le_refl _) h_b9.2) (by dsimp only; omega)
    rw [if_pos hk2] at hsn
    have k9 : Keep A (A.add b9 (.cells [.int .i64 k, .int .i64 sl, .int .i64 fl, .int .i64 rc, .int .i64 by_] 79 5)) fun _ => False := Keep.add h_b9
    simp (dsimp := false) (maxSteps := 4000000) only [hk2, encE_len, encE_scal, encE_z5, encE_take, enc_len, enc_scal, lput_enc, take_enc, hlenR, hscR, hn_b9, hr_b9, go_sem]
    refine (RefGet_c (hS.keep k9 (fun _ _ h => h) fun h => h).at fl rc).mono ?_; rintro _ _ ⟨rfl, rfl⟩
    obtain ⟨v0, ok0, hgv, hg1, hg2⟩ := get_val (getW (Zi.map RF.nf) fl rc)
    rw [hgv]
    simp (dsimp := false) (maxSteps := 4000000) only [encE_len, encE_scal, encE_z5, encE_take, enc_len, enc_scal, lput_enc, take_enc, hlenR, hscR, hn_b9, hr_b9, go_sem]
    refine AllB.mk fun b10 h_b10 => ?_; have hn_b10 := h_b10; (try simp only [fresh_add, fresh_set, ne_eq] at hn_b10); have hr_b10 := hn_b10; (try simp only [@eq_comm Nat b10] at hr_b10); simp (dsimp := false) (maxSteps := 4000000) only [encE_len, encE_scal, encE_z5, encE_take, enc_len, enc_scal, lput_enc, take_enc, hlenR, hscR, hn_b9, hr_b9, hn_b10, hr_b10, go_sem]
    have n59 : ¬ b9 = b5 := h_b9.ne_find hf5
    have n510 : ¬ b10 = b5 := hn_b10.2.ne_find hf5
    have hsR : ∀ n : Nat, n < 17 → A.rd ⟨b5, n, none⟩ = some (.int .u8 ((hd n).getD 0)) := fun n hn => by
      rw [rd_find hf5]
      show (rowH hd 17)[n]? = _
      rw [rowH_get, if_pos hn, if_pos hn]
    have hsI : ∀ n : Nat, n < 17 → A.rd ⟨b5, 17 + n, none⟩ = some (.bool (hd n).isSome) := fun n hn => by
      rw [rd_find hf5]
      show (rowH hd 17)[17 + n]? = _
      rw [rowH_get, if_neg (by omega), if_pos (by omega), show 17 + n - 17 = n by omega, decide_eq_true hn, Bool.true_and]
    refine AWp.loopo (ι := Nat) (fun m => m ≤ T.length) (fun m => [(12, .int .i64 m), (11, .bool (ok0 && okP hd (got (T.take m) (fl, rc)))), (8, .int .i64 i), (1, .slice (some ⟨q, o, none⟩) T.length ct), (7, .pointer (some ⟨bo, 0, none⟩)), (5, .pointer (some ⟨b5, 0, none⟩)), (9, .pointer (some ⟨b9, 0, none⟩)), (10, .pointer (some ⟨b10, 0, none⟩))])
      (fun m => (A.add b9 (.cells [.int .i64 k, .int .i64 sl, .int .i64 fl, .int .i64 rc, .int .i64 by_] 79 5)).add b10 (.cells (enc ((got (T.take m) (fl, rc)).foldl (putE hd) v0)) 26 4)) (fun m => T.length - m) 0 (by omega) (FrLe.of_lks ?_) (AH.le_refl _) fun m hm Q2 again2 out2 => ?_
    · have : okP hd (got [] (fl, rc)) = true := rfl
      simp (dsimp := false) (maxSteps := 4000000) only [List.take_zero, this, Bool.and_true, encE_len, encE_scal, encE_z5, encE_take, enc_len, enc_scal, lput_enc, take_enc, hlenR, hscR, hn_b9, hr_b9, hn_b10, hr_b10, go_sem]
    by_cases hml : (m : Int) < T.length
    · obtain ⟨y, hy⟩ := get_some (l := T) (i := m) (by omega)
      obtain ⟨q', o', hqq, hry, _⟩ := hTA.get (Go.AX.map_get (f := encE) hy)
      cases hqq
      have ee2 := i64_succ (i := m) (by omega)
      have hm0 : (0 : Int) ≤ (m : Int) := by omega
      have hyT := List.mem_of_getElem? hy
      have hgs := got_step T hy (fl, rc)
      have m9 : ¬ b9 = q := h_b9.ne_row hry
      have m10 : ¬ b10 = q := hn_b10.2.ne_row hry
      obtain ⟨w, hw⟩ : ∃ w, (got (T.take m) (fl, rc)).foldl (putE hd) v0 = w := ⟨_, rfl⟩
      obtain ⟨okm, hokm⟩ : ∃ okm, (ok0 && okP hd (got (T.take m) (fl, rc))) = okm := ⟨_, rfl⟩
      obtain ⟨y0, y1, y2, y3, y4⟩ := y
      have eY : encE (y0, y1, y2, y3, y4) = [.int .i64 y0, .int .i64 y1, .int .i64 y2, .int .i64 y3, .int .i64 y4] := rfl
      rw [eY] at hry
      rw [hw, hokm]
      
      simp (dsimp := false) (maxSteps := 4000000) only [hml, hm0, hry, m9, m10, encE_len, encE_scal, encE_z5, encE_take, enc_len, enc_scal, lput_enc, take_enc, hlenR, hscR, hn_b9, hr_b9, hn_b10, hr_b10, go_sem]
      refine AllB.mk fun b13 h_b13 => ?_; have hn_b13 := h_b13; (try simp only [fresh_add, fresh_set, ne_eq] at hn_b13); have hr_b13 := hn_b13; (try simp only [@eq_comm Nat b13] at hr_b13); simp (dsimp := false) (maxSteps := 4000000) only [encE_len, encE_scal, encE_z5, encE_take, enc_len, enc_scal, lput_enc, take_enc, hlenR, hscR, hn_b9, hr_b9, hn_b10, hr_b10, hn_b13, hr_b13, go_sem]
      have no : isP (fl, rc) (y0, y1, y2, y3, y4) = false → (ok0 && okP hd (got (T.take (m + 1)) (fl, rc))) = okm ∧ (got (T.take (m + 1)) (fl, rc)).foldl (putE hd) v0 = w := fun h => by
        rw [hgs, h, if_neg (by simp), List.append_nil]; exact ⟨hokm, hw⟩
      by_cases c0 : y0 = 2
      case' neg =>
        obtain ⟨e1, e2⟩ := no (by simp [isP, c0])
        simp (dsimp := false) (maxSteps := 4000000) only [c0, ee2, encE_len, encE_scal, encE_z5, encE_take, enc_len, enc_scal, lput_enc, take_enc, hlenR, hscR, hn_b9, hr_b9, hn_b10, hr_b10, hn_b13, hr_b13, go_sem]
        exact again2 (m + 1) _ _ (by omega) (FrLe.of_lks (by simp (dsimp := false) (maxSteps := 4000000) only [e1, encE_len, encE_scal, encE_z5, encE_take, enc_len, enc_scal, lput_enc, take_enc, hlenR, hscR, hn_b9, hr_b9, hn_b10, hr_b10, hn_b13, hr_b13, go_sem])) (by rw [e2]; exact AH.le_add (AH.le_refl _) h_b13.2) (by omega)
      by_cases c1 : y2 = fl
      case' neg =>
        obtain ⟨e1, e2⟩ := no (by simp [isP, pl, c1])
        simp (dsimp := false) (maxSteps := 4000000) only [c0, c1, ee2, encE_len, encE_scal, encE_z5, encE_take, enc_len, enc_scal, lput_enc, take_enc, hlenR, hscR, hn_b9, hr_b9, hn_b10, hr_b10, hn_b13, hr_b13, go_sem]
        exact again2 (m + 1) _ _ (by omega) (FrLe.of_lks (by simp (dsimp := false) (maxSteps := 4000000) only [e1, encE_len, encE_scal, encE_z5, encE_take, enc_len, enc_scal, lput_enc, take_enc, hlenR, hscR, hn_b9, hr_b9, hn_b10, hr_b10, hn_b13, hr_b13, go_sem])) (by rw [e2]; exact AH.le_add (AH.le_refl _) h_b13.2) (by omega)
      by_cases c2 : y3 = rc
      case' neg =>
        obtain ⟨e1, e2⟩ := no (by simp [isP, pl, c2])
        simp (dsimp := false) (maxSteps := 4000000) only [c0, c1, c2, ee2, encE_len, encE_scal, encE_z5, encE_take, enc_len, enc_scal, lput_enc, take_enc, hlenR, hscR, hn_b9, hr_b9, hn_b10, hr_b10, hn_b13, hr_b13, go_sem]
        exact again2 (m + 1) _ _ (by omega) (FrLe.of_lks (by simp (dsimp := false) (maxSteps := 4000000) only [e1, encE_len, encE_scal, encE_z5, encE_take, enc_len, enc_scal, lput_enc, take_enc, hlenR, hscR, hn_b9, hr_b9, hn_b10, hr_b10, hn_b13, hr_b13, go_sem])) (by rw [e2]; exact AH.le_add (AH.le_refl _) h_b13.2) (by omega)
      have hyes : isP (fl, rc) (y0, y1, y2, y3, y4) = true := by simp [isP, pl, c0, c1, c2]
      obtain ⟨⟨hs1, hs2⟩, hb1, hb2⟩ := hB _ hyT c0
      dsimp only at hs1 hs2 hb1 hb2
      obtain ⟨n, rfl⟩ : ∃ n : Nat, y1 = n := ⟨y1.toNat, by omega⟩
      obtain ⟨j, rfl⟩ : ∃ j : Nat, y4 = j := ⟨y4.toNat, by omega⟩
      have n135 : ¬ b13 = b5 := hn_b13.2.2.ne_find hf5
      have rI := hsI n (by omega)
      have rR := hsR n (by omega)
      have e1 : (ok0 && okP hd (got (T.take (m + 1)) (fl, rc))) = (okm && (hd n).isSome) := by
        rw [hgs, if_pos hyes, okP_app, ← Bool.and_assoc, hokm]; simp [okP]
      have e2 : (enc w).set j (.int .u8 ((hd n).getD 0)) = enc ((got (T.take (m + 1)) (fl, rc)).foldl (putE hd) v0) := by
        rw [hgs, if_pos hyes, List.foldl_append, hw, enc_putB w _ j (by omega)]; rfl
      have hn0 : (0 : Int) ≤ (n : Int) := by omega
      have hn17 : (n : Int) < 17 := by omega
      have hj0 : (0 : Int) ≤ (j : Int) := by omega
      have hj4 : (j : Int) < 4 := by omega
      have hj3 : j ≤ 3 := by omega
      cases okm with
      | false =>
        rw [Bool.false_and] at e1
        simp (dsimp := false) (maxSteps := 4000000) only [c0, c1, c2, encE_len, encE_scal, encE_z5, encE_take, enc_len, enc_scal, lput_enc, take_enc, hlenR, hscR, hn_b9, hr_b9, hn_b10, hr_b10, hn_b13, hr_b13, go_sem]
        refine AWp.gen [.pu, .rd, .pu, .rd, .pu, .pu, .rd, .pu, .ch] [0, 1, 0, 4, 0, 28, 60, 127, 255] 0 (_) mixed (by kernel_rfl) (AH.le_refl _) ?_
        simp (dsimp := false) (maxSteps := 4000000) only [hn0, hn17, rR, n59, n510, n135, hj0, hj4, hj3, e2, ee2, encE_len, encE_scal, encE_z5, encE_take, enc_len, enc_scal, lput_enc, take_enc, hlenR, hscR, hn_b9, hr_b9, hn_b10, hr_b10, hn_b13, hr_b13, go_sem]
        exact again2 (m + 1) _ _ (by omega) (FrLe.of_lks (by simp (dsimp := false) (maxSteps := 4000000) only [e1, encE_len, encE_scal, encE_z5, encE_take, enc_len, enc_scal, lput_enc, take_enc, hlenR, hscR, hn_b9, hr_b9, hn_b10, hr_b10, hn_b13, hr_b13, go_sem])) (AH.le_add (AH.le_refl _) (by simp only [fresh_add, fresh_set, ne_eq, hn_b13, not_false_eq_true, and_self] : Fresh _ b13).2) (by omega)
      | true =>
        rw [Bool.true_and] at e1
        simp (dsimp := false) (maxSteps := 4000000) only [c0, c1, c2, hn0, hn17, rI, n59, n510, n135, encE_len, encE_scal, encE_z5, encE_take, enc_len, enc_scal, lput_enc, take_enc, hlenR, hscR, hn_b9, hr_b9, hn_b10, hr_b10, hn_b13, hr_b13, go_sem]
        refine AWp.gen [.pu, .rd, .pu, .rd, .pu, .pu, .rd, .pu, .ch] [0, 1, 0, 4, 0, 28, 60, 127, 255] 0 (_) mixed (by kernel_rfl) (AH.le_refl _) ?_
        simp (dsimp := false) (maxSteps := 4000000) only [hn0, hn17, rR, n59, n510, n135, hj0, hj4, hj3, e2, ee2, encE_len, encE_scal, encE_z5, encE_take, enc_len, enc_scal, lput_enc, take_enc, hlenR, hscR, hn_b9, hr_b9, hn_b10, hr_b10, hn_b13, hr_b13, go_sem]
        exact again2 (m + 1) _ _ (by omega) (FrLe.of_lks (by simp (dsimp := false) (maxSteps := 4000000) only [e1, encE_len, encE_scal, encE_z5, encE_take, enc_len, enc_scal, lput_enc, take_enc, hlenR, hscR, hn_b9, hr_b9, hn_b10, hr_b10, hn_b13, hr_b13, go_sem])) (AH.le_add (AH.le_refl _) (by simp only [fresh_add, fresh_set, ne_eq, hn_b13, not_false_eq_true, and_self] : Fresh _ b13).2) (by omega)
      
    · obtain rfl : m = T.length := by omega
      rw [List.take_length]
      simp (dsimp := false) (maxSteps := 4000000) only [hml, encE_len, encE_scal, encE_z5, encE_take, enc_len, enc_scal, lput_enc, take_enc, hlenR, hscR, hn_b9, hr_b9, hn_b10, hr_b10, go_sem]
      refine out2 _ _ _ (by simp) ?_
      obtain ⟨w, hw⟩ : ∃ w, (got T (fl, rc)).foldl (putE hd) v0 = w := ⟨_, rfl⟩
      obtain ⟨okm, hokm⟩ : ∃ okm, (ok0 && okP hd (got T (fl, rc))) = okm := ⟨_, rfl⟩
      rw [hw, hokm]
      have hsp : stepP T hd (Zi.map RF.nf) (fl, rc) = if okm = true then setX (Zi.map RF.nf) fl rc w else Zi.map RF.nf := by
        rw [stepP]; dsimp only
        cases hgw : getW (Zi.map RF.nf) fl rc with
        | none => dsimp only; rw [← hokm, hg1 hgw, Bool.false_and, if_neg (by decide)]
        | some v =>
          obtain ⟨rfl, rfl⟩ := hg2 v hgw
          dsimp only
          rw [← hokm, Bool.true_and, hw]
      have hok' := stepP_ok (T := T) hr hXi (fl, rc)
      have hsn' : stepP T hd (Zi.map RF.nf) (fl, rc) = (recvs (T.take (i + 1))).foldl (stepP T hd) X0 := hsn.symm
      rw [hsp] at hok' hsn'
      have kc : Keep A ((A.add b9 (.cells [.int .i64 k, .int .i64 sl, .int .i64 fl, .int .i64 rc, .int .i64 by_] 79 5)).add b10 (.cells (enc w) 26 4)) fun _ => False := (Keep.refl.nw h_b9).nw (by simp only [fresh_add, ne_eq, hn_b10, not_false_eq_true, and_self])
      have lec : A.le ((A.add b9 (.cells [.int .i64 k, .int .i64 sl, .int .i64 fl, .int .i64 rc, .int .i64 by_] 79 5)).add b10 (.cells (enc w) 26 4)) := kc.all
      cases okm with
      | false =>
        rw [if_neg (by decide)] at hok' hsn'
        simp (dsimp := false) (maxSteps := 4000000) only [ee, encE_len, encE_scal, encE_z5, encE_take, enc_len, enc_scal, lput_enc, take_enc, hlenR, hscR, hn_b9, hr_b9, hn_b10, hr_b10, go_sem]
        exact again (i + 1, Zi, rdi) _ A _ ⟨by dsimp only; omega, hS, hsn', hXi, hK, hrd, hf5⟩ (FrLe.of_lks (by simp (dsimp := false) (maxSteps := 4000000) only [encE_len, encE_scal, encE_z5, encE_take, enc_len, enc_scal, lput_enc, take_enc, hlenR, hscR, hn_b9, hr_b9, hn_b10, hr_b10, go_sem])) lec (by dsimp only; omega)
      | true =>
        rw [if_pos rfl] at hok' hsn'
        have hset := RefSet_c (hS.keep kc (fun _ _ h => h) fun h => h) hXi fl rc w
        simp (dsimp := false) (maxSteps := 4000000) only [encE_len, encE_scal, encE_z5, encE_take, enc_len, enc_scal, lput_enc, take_enc, hlenR, hscR, hn_b9, hr_b9, hn_b10, hr_b10, go_sem]
        refine hset.mono ?_
        rintro _ C ⟨Z', rd', rfl, hZ', hS', hK', hrd'⟩
        have kAC : Keep A C (· = bo) := (kc.mono fun _ h => h.elim).trans hK'
        simp (dsimp := false) (maxSteps := 4000000) only [ee, encE_len, encE_scal, encE_z5, encE_take, enc_len, enc_scal, lput_enc, take_enc, hlenR, hscR, hn_b9, hr_b9, hn_b10, hr_b10, go_sem]
        exact again (i + 1, Z', rd') _ C _ ⟨by dsimp only; omega, hS', by dsimp only; rw [hZ', hsn'], by dsimp only; rw [hZ']; exact hok', hK.ow kAC fun x e => e ▸ hfoH, fun x hx => (hrd' x hx).elim (hrd x) fun h => .inr ((hK.trans kc).fr h), kAC.find n5o hf5⟩ (FrLe.of_lks (by simp (dsimp := false) (maxSteps := 4000000) only [encE_len, encE_scal, encE_z5, encE_take, enc_len, enc_scal, lput_enc, take_enc, hlenR, hscR, hn_b9, hr_b9, hn_b10, hr_b10, go_sem])) (AH.le_refl _) (by dsimp only; omega)
    
  · obtain rfl : i = T.length := by omega
    rw [List.take_length] at hZi
    simp (dsimp := false) (maxSteps := 4000000) only [hlt, encE_len, encE_scal, encE_z5, encE_take, enc_len, enc_scal, lput_enc, take_enc, hlenR, hscR, go_sem]
    refine out _ _ _ (by simp) ?_
    clear again out
    obtain ⟨X1, hX1⟩ : ∃ X1, app1 T hd X0 = X1 := ⟨_, rfl⟩
    have hZ1 : Zi.map RF.nf = X1 := by rw [← hX1]; exact hZi
    have happ : app T hd X0 den = app2 T (X1, den) := by rw [app, hX1]
    rw [hX0, happ]
    rw [hZ1] at hXi
    clear hZi hX1 happ hX hX0 hf5
    simp (dsimp := false) (maxSteps := 4000000) only [encE_len, encE_scal, encE_z5, encE_take, enc_len, enc_scal, lput_enc, take_enc, hlenR, hscR, go_sem]
    refine AWp.loopr (ι := Nat × List RF × (Nat → Prop)) (fun s A => s.1 ≤ T.length ∧ RefS A bo s.2.1 (app2 (T.take s.1) (X1, den)).2 s.2.2 ∧ s.2.1.map RF.nf = (app2 (T.take s.1) (X1, den)).1 ∧ OkX (s.2.1.map RF.nf) ∧ (Keep H A fun _ => False) ∧ ∀ x, s.2.2 x → rd x ∨ Fresh H x)
      (fun s => [(14, .int .i64 s.1), (1, .slice bt T.length ct), (7, .pointer (some ⟨bo, 0, none⟩))]) (fun s => T.length - s.1) (0, Zi, rdi) A
      ⟨by simp, hS, hZ1, by dsimp only; rw [hZ1]; exact hXi, hK, hrd⟩ (FrLe.of_lks ?_) (AH.le_refl _) fun s B hV Q again out => ?_
    · simp (dsimp := false) (maxSteps := 4000000) only [encE_len, encE_scal, encE_z5, encE_take, enc_len, enc_scal, lput_enc, take_enc, hlenR, hscR, go_sem]
    clear hS hZ1 hXi hK hrd
    obtain ⟨i, Zj, rdj⟩ := s
    obtain ⟨hi, hS, hZ1, hXi, hK, hrd⟩ := hV
    dsimp only at hi hS hZ1 hXi hK hrd ⊢
    by_cases hlt : (i : Int) < T.length
    · obtain ⟨x, hx⟩ := get_some (l := T) (i := i) (by omega)
      obtain ⟨q, o, rfl, _, hrd0⟩ := (hT.keep hK fun _ _ h => h).get (Go.AX.map_get (f := encE) hx)
      have ee := i64_succ (i := i) (by omega)
      have hi0 : (0 : Int) ≤ (i : Int) := by omega
      have et : app2 (T.take (i + 1)) (X1, den) = exE (app2 (T.take i) (X1, den)) x := by
        rw [app2, app2, List.take_add_one, hx, List.foldl_append]; rfl
      obtain ⟨k, sl, fl, rc, by_⟩ := x
      have rk := hrd0 0 _ rfl
      have rf := hrd0 2 _ rfl
      have rr := hrd0 3 _ rfl
      simp only [Nat.add_zero] at rk
      dsimp only at rk rf rr
      
      by_cases hk3 : k = 3
      · rw [exE, if_pos hk3, ← hZ1] at et
        have e31 := congrArg Prod.fst et
        have e32 := congrArg Prod.snd et
        dsimp only at e31 e32
        have hdo := RefDo_c hS hXi 2 fl rc zr
        simp (dsimp := false) (maxSteps := 4000000) only [hlt, hi0, rk, hk3, encE_len, encE_scal, encE_z5, encE_take, enc_len, enc_scal, lput_enc, take_enc, hlenR, hscR, go_sem]
        refine AWp.gen [.pu, .pu, .pu, .pu, .pu, .rd, .pu, .pu, .pu, .pu, .rd, .pu, .pu, .ch] [0, 0, 0, 6, 14, 30, 0, 0, 192, 448, 960, 2046, 0, 8191] 0 (_) mixed (by kernel_rfl) (AH.le_refl _) ?_
        simp (dsimp := false) (maxSteps := 4000000) only [hlt, hi0, rf, rr, encE_len, encE_scal, encE_z5, encE_take, enc_len, enc_scal, lput_enc, take_enc, hlenR, hscR, go_sem]
        refine hdo.mono ?_
        rintro _ C ⟨Z', rd', rfl, hZ', hS', hK', hrd'⟩
        have hK2 := hK.ow hK' fun x e => e ▸ hfoH
        simp (dsimp := false) (maxSteps := 4000000) only [ee, encE_len, encE_scal, encE_z5, encE_take, enc_len, enc_scal, lput_enc, take_enc, hlenR, hscR, go_sem]
        exact again (i + 1, Z', rd') _ C _ ⟨by dsimp only; omega, by dsimp only; rw [e32]; exact hS', by dsimp only; rw [e31]; exact hZ', by dsimp only; rw [hZ']; exact hXi.do _ _ _ ⟨by decide, by decide, by decide, by decide⟩, hK2, fun x hx => (hrd' x hx).elim (hrd x) fun h => .inr (hK.fr h)⟩ (FrLe.of_lks (by simp (dsimp := false) (maxSteps := 4000000) only [encE_len, encE_scal, encE_z5, encE_take, enc_len, enc_scal, lput_enc, take_enc, hlenR, hscR, go_sem])) (AH.le_refl _) (by dsimp only; omega)
      · rw [exE, if_neg hk3] at et
        simp (dsimp := false) (maxSteps := 4000000) only [hlt, hi0, rk, hk3, ee, encE_len, encE_scal, encE_z5, encE_take, enc_len, enc_scal, lput_enc, take_enc, hlenR, hscR, go_sem]
        exact again (i + 1, Zj, rdj) _ B _ ⟨by dsimp only; omega, by dsimp only; rw [et]; exact hS, by dsimp only; rw [et]; exact hZ1, hXi, hK, hrd⟩ (FrLe.of_lks (by simp (dsimp := false) (maxSteps := 4000000) only [encE_len, encE_scal, encE_z5, encE_take, enc_len, enc_scal, lput_enc, take_enc, hlenR, hscR, go_sem])) (AH.le_refl _) (by dsimp only; omega)
      
    · obtain rfl : i = T.length := by omega
      rw [List.take_length] at hS hZ1
      simp (dsimp := false) (maxSteps := 4000000) only [hlt, encE_len, encE_scal, encE_z5, encE_take, enc_len, enc_scal, lput_enc, take_enc, hlenR, hscR, go_sem]
      refine out _ _ _ (by simp) ?_
      simp (dsimp := false) (maxSteps := 4000000) only [encE_len, encE_scal, encE_z5, encE_take, enc_len, enc_scal, lput_enc, take_enc, hlenR, hscR, go_sem]
      exact ⟨B, AH.le_refl _, bo, Zj, rdj, rfl, hZ1, hXi, hS, hK, hfoH, hrd⟩
end Go.Proofs.YtamlipffhimfmaaGreatDoor.Prt

/- part: Round. -/
namespace Go.Proofs.YtamlipffhimfmaaGreatDoor.Prt
set_option linter.unusedSimpArgs false
set_option linter.unusedVariables false
open Go Go.AX Go.Proofs Ty Go.Proofs.YtamlipffhimfmaaGreatDoor.File Go.Proofs.YtamlipffhimfmaaGreatDoor.Ifs Go.Proofs.YtamlipffhimfmaaGreatDoor.Err
open Go.Proofs.YtamlipffhimfmaaGreatDoor.Chk (Tb TabIn mayB tabs encT encE Tables_c RefTables_c)
set_option maxHeartbeats 4000000
set_option maxRecDepth 10000

theorem same_i (i j : Int) : Instr.sameNow (.int .i64) (.int .i64 i) (.int .i64 j) = some (decide (i = j)) := by
  simp only [Instr.sameNow, ite_true, Option.some.injEq]
  rw [Bool.eq_iff_iff]; simp
def ki (l : List (Int × Int)) : List (Value × Value) := l.map fun p => (.int .i64 p.1, .int .u8 p.2)
theorem mlk_no {i : Int} : ∀ {l : List (Int × Int)} {n : Nat}, (∀ p ∈ l, p.1 ≠ i) → mlk (.int .i64) (.int .i64 i) (ki l) n = some none
  | [], _, _ => rfl
  | p :: l, n, h => by
    have h1 : ¬ i = p.1 := fun e => h p (List.mem_cons_self ..) e.symm
    have ih := mlk_no (l := l) (n := n + 1) fun q hq => h q (List.mem_cons_of_mem _ hq)
    show mlk _ _ ((Value.int .i64 p.1, Value.int .u8 p.2) :: ki l) n = _
    rw [mlk, same_i, decide_eq_false h1]
    exact ih
theorem mlk_yes {i y : Int} : ∀ {l : List (Int × Int)} {n : Nat}, (∃ p ∈ l, p.1 = i) → (∀ p ∈ l, p.1 = i → p.2 = y) → ∃ k, mlk (.int .i64) (.int .i64 i) (ki l) n = some (some (k, .int .u8 y))
  | [], _, h, _ => by obtain ⟨_, h, _⟩ := h; cases h
  | p :: l, n, h, hy => by
    show ∃ k, mlk _ _ ((Value.int .i64 p.1, Value.int .u8 p.2) :: ki l) n = _
    by_cases e : i = p.1
    · refine ⟨n, ?_⟩
      rw [mlk, same_i, decide_eq_true e, ← hy p (List.mem_cons_self ..) e.symm]
    · obtain ⟨k, hk⟩ := mlk_yes (l := l) (n := n + 1) (by
        obtain ⟨q, hq, e'⟩ := h
        rcases List.mem_cons.1 hq with rfl | hq
        · exact absurd e'.symm e
        · exact ⟨q, hq, e'⟩) fun q hq => hy q (List.mem_cons_of_mem _ hq)
      refine ⟨k, ?_⟩
      rw [mlk, same_i, decide_eq_false e]
      exact hk
def hents (hd : Hd) : Nat → List (Int × Int)
  | 0 => []
  | i + 1 => match hd i with
    | none => hents hd i
    | some y => hents hd i ++ [((i : Int), y)]
theorem hents_mem {hd : Hd} {p : Int × Int} : ∀ {i : Nat}, p ∈ hents hd i ↔ ∃ j : Nat, j < i ∧ hd j = some p.2 ∧ p.1 = (j : Int)
  | 0 => by simp [hents]
  | i + 1 => by
    rw [hents]
    cases hi : hd i with
    | none =>
      dsimp only
      rw [hents_mem]
      constructor
      · rintro ⟨j, h1, h2, h3⟩; exact ⟨j, by omega, h2, h3⟩
      · rintro ⟨j, h1, h2, h3⟩
        by_cases e : j = i
        · subst e; rw [hi] at h2; cases h2
        · exact ⟨j, by omega, h2, h3⟩
    | some y =>
      dsimp only
      rw [List.mem_append, hents_mem, List.mem_singleton]
      constructor
      · rintro (⟨j, h1, h2, h3⟩ | rfl)
        · exact ⟨j, by omega, h2, h3⟩
        · exact ⟨i, by omega, hi, rfl⟩
      · rintro ⟨j, h1, h2, h3⟩
        by_cases e : j = i
        · subst e
          rw [hi] at h2
          exact .inr (Prod.ext h3 (Option.some.inj h2).symm)
        · exact .inl ⟨j, by omega, h2, h3⟩
theorem hents_new (hd : Hd) (i : Nat) (n : Nat) : mlk (.int .i64) (.int .i64 (i : Int)) (ki (hents hd i)) n = some none := mlk_no fun p hp e => by
  obtain ⟨j, h1, _, h3⟩ := hents_mem.1 hp
  omega
theorem hents_hm {H : AH} {bm : Nat} {hd : Hd} (h : H.find bm = some (.amap (ki (hents hd 17)))) (hout : ∀ i : Int, ¬ (1 ≤ i ∧ i ≤ 16) → hd i = none) : Hm H (.map (some bm)) hd := by
  refine ⟨bm, _, rfl, h, fun i => ?_⟩
  cases hi : hd i with
  | none =>
    refine .inl ⟨rfl, mlk_no fun p hp e => ?_⟩
    obtain ⟨j, _, h2, h3⟩ := hents_mem.1 hp
    rw [← h3, e, hi] at h2; cases h2
  | some y =>
    have hr : 1 ≤ i ∧ i ≤ 16 := Decidable.byContradiction fun hh => by rw [hout i hh] at hi; cases hi
    obtain ⟨k, hk⟩ := mlk_yes (i := i) (y := y) (l := hents hd 17) (n := 0) ⟨(i, y), hents_mem.2 ⟨i.toNat, by omega, by rw [show ((i.toNat : Nat) : Int) = i by omega]; exact hi, by dsimp only; omega⟩, rfl⟩ fun p hp e => by
      obtain ⟨j, _, h2, h3⟩ := hents_mem.1 hp
      rw [← h3, e, hi] at h2
      exact (Option.some.inj h2).symm
    exact .inr ⟨y, k, rfl, hk⟩
theorem hdP_out (XS : List (List Nf)) (T : List Tb) (B : List Bool) (P : List Sp) (i : Int) (h : ¬ (1 ≤ i ∧ i ≤ 16)) : hdP XS T B P i = none := by rw [hdP, if_neg h]

theorem eqIn_nil_ptr {P : Program} {H : AH} {t e : TypeId} {m : Nat} {a : Option Addr} (h : P.underlying t = some (.pointer e)) : qrun P (Op.equalIn (m + 1) t (.pointer none) (.pointer a)) H = some a.isNone := by
  cases a <;> simp only [Op.equalIn, qrun_bind, qrun_underlying, h, Option.bind_some, qrun_pure] <;> rfl
theorem eql_nil_l {P : Program} {H : AH} {t e : TypeId} {x y : Operand} {kk : Value → Prop} {a : Option Addr} : bin (some (.pointer e)) P H .eql t x y (.pointer none) (.pointer a) kk = (some (.pointer e) = P.underlying t ∧ nv (.bool a.isNone) kk) := bin_eql_of rfl rfl fun h => eqIn_nil_ptr h.symm
theorem Index_c (S : List SR) (base : Option Addr) (cap : Nat) (H : AH) (hs : SlcIn H 1 base cap (S.map encS)) :
    ACalls Tryz.prog 89 #[.slice base S.length cap, .pointer none] H (fun v H' => v = .int .i64 (-1) ∧ H = H') := by
  have hbig := hs.big
  simp only [List.length_map] at hbig
  refine ACalls.enter2 Tryz.func89 rfl Tryz.ntmps89 Tryz.results89 (by simp) ?_; simp (dsimp := false) (maxSteps := 4000000) only [go_sem]
  refine AWp.loopo (ι := Nat) (fun i => i ≤ S.length) (fun i => [(8, .int .i64 i), (7, .int .i64 S.length), (0, .slice base S.length cap), (1, .pointer none)]) (fun _ => H) (fun i => S.length - i) 0 (by omega) (FrLe.of_lks ?_) (AH.le_refl _) fun i hi Q again out => ?_
  · simp (dsimp := false) (maxSteps := 4000000) only [go_sem]
  by_cases hlt : (i : Int) < S.length
  · obtain ⟨s, hsi⟩ := get_some (l := S) (i := i) (by omega)
    obtain ⟨q, o, rfl, _, hrd⟩ := hs.get (Go.AX.map_get (f := encS) hsi)
    have rx := hrd 0 _ rfl
    simp only [Nat.add_zero, Nat.mul_one] at rx
    have ee := i64_succ (i := i) (by omega)
    have hi0 : (0 : Int) ≤ (i : Int) := by omega
    simp (dsimp := false) (maxSteps := 4000000) only [hlt, hi0, rx, ee, eql_nil_l, go_sem]
    exact again (i + 1) _ _ (by omega) (FrLe.of_lks (by simp (dsimp := false) (maxSteps := 4000000) only [go_sem])) (AH.le_refl _) (by omega)
  · obtain rfl : i = S.length := by omega
    simp (dsimp := false) (maxSteps := 4000000) only [hlt, go_sem]
    refine out _ _ _ (by simp) ?_
    simp (dsimp := false) (maxSteps := 4000000) only [go_sem]
    exact ⟨H, AH.le_refl _, rfl⟩
theorem Contains_c (S : List SR) (base : Option Addr) (cap : Nat) (H : AH) (hs : SlcIn H 1 base cap (S.map encS)) :
    ACalls Tryz.prog 53 #[.slice base S.length cap, .pointer none] H (fun v H' => v = .bool false ∧ H = H') := by
  refine ACalls.enter2 Tryz.func53 rfl Tryz.ntmps53 Tryz.results53 (by simp) ?_; simp (dsimp := false) (maxSteps := 4000000) only [go_sem]
  refine (Index_c S base cap _ hs).mono ?_; rintro _ _ ⟨rfl, rfl⟩
  simp (dsimp := false) (maxSteps := 4000000) only [go_sem]
  exact ⟨H, AH.le_refl _, rfl⟩
theorem ClipS_c (base : Option Addr) (n cap : Nat) (H : AH) (h : n ≤ cap) :
    ACalls Tryz.prog 56 #[.slice base n cap] H (fun v H' => v = .slice base n n ∧ H = H') := by
  refine ACalls.enter2 Tryz.func56 rfl Tryz.ntmps56 Tryz.results56 (by simp) ?_; simp (dsimp := false) (maxSteps := 4000000) only [go_sem]
  have h' : (n : Int) ≤ cap := by omega
  simp (dsimp := false) (maxSteps := 4000000) only [h', Int.le_refl, go_sem]
  exact ⟨H, (AH.le_refl _), (by first | exact ⟨rfl, rfl⟩ | rfl)⟩
def outP (hd : Hd) (X : List Nf) (den : Int) (t : Tb) (l : Bool) : List Nf × Int := if l = true then app t.2.2 hd X den else (X, den)
def rndE (n : Nat) (T : List Tb) : Int := if n < 1 then 1 else (tabs T).2
theorem tok_of {T : List Tb} (h : (tabs T).2 = 0) : TOk T := fun t ht => by
  have hb : Chk.bad T 2 = none := by
    cases h2 : Chk.bad T 2 with
    | some n => simp [tabs, h2] at h
    | none => rfl
  obtain ⟨i, hi⟩ := List.mem_iff_getElem?.1 ht
  rw [Chk.bad, List.find?_range_eq_none] at hb
  have := hb i (Go.AX.lt_of_get hi)
  have hf : Chk.fitB T i 2 = true := by simpa using this
  rw [Chk.fitB, if_pos rfl, Chk.rowT, hi] at hf
  exact hf
theorem good_slot {x : En} (h : Chk.goodE x = true) (h4 : x.1 ≠ 4) : 1 ≤ x.2.1 ∧ x.2.1 ≤ 16 := by
  obtain ⟨k, s, f, r, b⟩ := x
  dsimp only at h4
  rw [Chk.goodE, if_neg h4] at h
  simp only [Bool.and_eq_true, decide_eq_true_eq] at h
  have := h.1.2
  simp only [Chk.placeB, decide_eq_true_eq] at this
  exact ⟨this.1, this.2.1⟩
theorem tab_ok {T : List Tb} (h : TOk T) {t : Tb} (ht : t ∈ T) : t.2.2.length ≤ 64 ∧ ∀ x ∈ t.2.2, x.1 = 2 → (1 ≤ x.2.1 ∧ x.2.1 ≤ 16) ∧ 0 ≤ x.2.2.2.2 ∧ x.2.2.2.2 ≤ 3 :=
  ⟨Chk.mayB_len (h t ht), fun x hx _ => by
    obtain ⟨h1, h2⟩ := mayB_good (h t ht) hx
    exact ⟨good_slot h1 h2, (good_byte h1 h2).2⟩⟩
theorem valu8 : ∀ l : List Bool, Uart.valu l 8 ≤ 255 := fun l => by have := Uart.valu_lt l 8; omega
theorem heard_range (XS : List (List Nf)) (T : List Tb) (B : List Bool) (P : List Sp) : ∀ s y, hdP XS T B P s = some y → 0 ≤ y ∧ y ≤ 255 := fun s y h => by
  unfold hdP heardO at h
  split at h
  · split at h
    · obtain rfl := Option.some.inj h
      unfold takeP
      split
      · exact ⟨by decide, by decide⟩
      · exact ⟨Uart.valu_nonneg _ _, valu8 _⟩
    · cases h
  · cases h
theorem rowS (S : List SR) : ∀ r ∈ S.map encS, r.length = 1 := fun r hr => by
  obtain ⟨w, _, rfl⟩ := List.mem_map.1 hr
  rfl
theorem Round_c (S : List SR) (T : List Tb) (B : List Bool) (P : List Sp) (bs bt bb bp : Option Addr) (cs ct cb cp : Nat) (H : AH) (hE : ErrT H.w0) (hS : StsIn H bs cs S) (hT : TabIn H bt ct T) (hB : SlcIn H 1 bb cb (B.map encB1)) (hP : SlcIn H 2 bp cp (P.map encP)) (hl1 : T.length = S.length) (hl2 : B.length = S.length) (hl3 : S.length ≤ 32) :
    ACalls Tryz.prog 23 #[.slice bs S.length cs, .slice bt T.length ct, .slice bb B.length cb, .slice bp P.length cp] H (fun u H' => ∃ base cap SO, u = .tuple #[.slice base (List.length SO) cap, .int .i64 (rndE S.length T)] ∧ (rndE S.length T ≠ 0 → SO = []) ∧ (rndE S.length T = 0 → SO.length = S.length ∧ ∀ (n : Nat) s t l o, S[n]? = some s → T[n]? = some t → B[n]? = some l → SO[n]? = some o → (SR.X o).Perm (outP (hdP (S.map (·.X)) T B P) s.X s.den t l).1 ∧ o.den = (outP (hdP (S.map (·.X)) T B P) s.X s.den t l).2) ∧ StsIn H' base cap SO ∧ (Keep H H' fun _ => False) ∧ ∀ o ∈ SO, ∀ x, o.ft x → Fresh H x) := by
  obtain ⟨hd, hhd⟩ : ∃ hd, hdP (S.map (·.X)) T B P = hd := ⟨_, rfl⟩
  have hrd := heard_range (S.map (·.X)) T B P
  have hout := hdP_out (S.map (·.X)) T B P
  have heq : ∀ i : Int, 1 ≤ i ∧ i ≤ 16 → hd i = heardO (S.map (·.X)) T B P i := fun i hi => by rw [← hhd, hdP, if_pos hi]
  rw [hhd] at hrd hout ⊢
  have hbigS := hS.out.big
  simp only [List.length_map] at hbigS
  have e1 : (T.length : Int) = S.length := by omega
  have e2 : (B.length : Int) = S.length := by omega
  have bad : ∀ {E : Int} {T' : AH}, rndE S.length T = E → E ≠ 0 → H.le T' → ∃ H', H'.le T' ∧ ∃ base cap SO, Value.tuple #[.slice none 0 0, .int .i64 E] = .tuple #[.slice base (List.length SO) cap, .int .i64 (rndE S.length T)] ∧ (rndE S.length T ≠ 0 → SO = []) ∧ (rndE S.length T = 0 → SO.length = S.length ∧ ∀ (n : Nat) s t l o, S[n]? = some s → T[n]? = some t → B[n]? = some l → SO[n]? = some o → (SR.X o).Perm (outP hd s.X s.den t l).1 ∧ o.den = (outP hd s.X s.den t l).2) ∧ StsIn H' base cap SO ∧ (Keep H H' fun _ => False) ∧ ∀ o ∈ SO, ∀ x, o.ft x → Fresh H x := fun {E T'} he h0 hl =>
    ⟨H, hl, none, 0, [], by rw [he]; rfl, fun _ => rfl, fun h => absurd (he.symm.trans h) h0, ⟨SlcIn.nil, by simp⟩, Keep.refl, by simp⟩
  refine ACalls.enter2 Tryz.func23 rfl Tryz.ntmps23 Tryz.results23 (by simp) ?_; simp (dsimp := false) (maxSteps := 4000000) only [go_sem]
  by_cases hn1 : (S.length : Int) < 1
  · simp (dsimp := false) (maxSteps := 4000000) only [hn1, go_sem]
    exact bad (by rw [rndE, if_pos (by omega)]) (by decide) (AH.le_refl _)
  have hn2 : ¬ 32 < (S.length : Int) := by omega
  have hE0 : rndE S.length T = (tabs T).2 := by rw [rndE, if_neg (by omega)]
  simp (dsimp := false) (maxSteps := 4000000) only [hn1, hn2, go_sem]
  refine (Contains_c S bs cs _ hS.out).mono ?_; rintro _ _ ⟨rfl, rfl⟩
  simp (dsimp := false) (maxSteps := 4000000) only [e1, e2, go_sem]
  refine (Tables_c T bt ct _ hT).mono ?_; rintro _ _ ⟨rfl, rfl⟩
  by_cases h0 : (tabs T).2 = 0
  case neg =>
    simp (dsimp := false) (maxSteps := 4000000) only [h0, go_sem]
    exact bad hE0 h0 (AH.le_refl _)
  have ht := tok_of h0
  rw [h0] at hE0
  simp (dsimp := false) (maxSteps := 4000000) only [h0, go_sem]
  refine AllB.mk fun bm h_bm => ?_; have hn_bm := h_bm; (try simp only [fresh_add, fresh_set, ne_eq] at hn_bm); have hr_bm := hn_bm; (try simp only [@eq_comm Nat bm] at hr_bm); simp (dsimp := false) (maxSteps := 4000000) only [hn_bm, hr_bm, go_sem]
  have h1 : hents hd 1 = [] := by simp [hents, hout 0 (by omega)]
  refine AWp.loopo (ι := Nat) (fun i => 1 ≤ i ∧ i ≤ 17) (fun i => [(14, .int .i64 i), (13, .map (some bm)), (0, .slice bs S.length cs), (1, .slice bt T.length ct), (2, .slice bb B.length cb), (3, .slice bp P.length cp)]) (fun i => H.add bm (.amap (ki (hents hd i)))) (fun i => 17 - i) 1 ⟨by omega, by omega⟩ (FrLe.of_lks ?_) (by rw [h1]; exact AH.le_refl _) fun i hi Q again out => ?_
  · simp (dsimp := false) (maxSteps := 4000000) only [hn_bm, hr_bm, go_sem]
  by_cases hlt : (i : Int) ≤ 16
  · have hHd := Heard_c S T B P bs bt bb bp cs ct cb cp i _ (hS.keep (Keep.add (k := .amap (ki (hents hd i))) h_bm)) (hT.add h_bm) (hB.add h_bm) (hP.add h_bm) ht (by omega) (by omega)
    rw [← heq i (by omega)] at hHd
    have ee := i64_succ (i := i) (by omega)
    simp (dsimp := false) (maxSteps := 4000000) only [hlt, hn_bm, hr_bm, go_sem]
    refine (hHd).mono ?_; rintro _ _ ⟨rfl, rfl⟩
    cases hy : hd i with
    | none =>
      have e1 : hents hd (i + 1) = hents hd i := by rw [hents, hy]
      simp (dsimp := false) (maxSteps := 4000000) only [ee, hn_bm, hr_bm, go_sem]
      rw [← e1]
      exact again (i + 1) _ _ (by omega) (FrLe.of_lks (by simp (dsimp := false) (maxSteps := 4000000) only [hn_bm, hr_bm, go_sem])) (AH.le_refl _) (by omega)
    | some y =>
      have e1 : ki (hents hd i) ++ [(.int .i64 i, .int .u8 y)] = ki (hents hd (i + 1)) := by rw [hents, hy, ki, ki, List.map_append]; rfl
      simp (dsimp := false) (maxSteps := 4000000) only [ee, hents_new, mput, Option.getD_some, e1, hn_bm, hr_bm, go_sem]
      exact again (i + 1) _ _ (by omega) (FrLe.of_lks (by simp (dsimp := false) (maxSteps := 4000000) only [hn_bm, hr_bm, go_sem])) (AH.le_refl _) (by omega)
  obtain rfl : i = 17 := by omega
  have hM : Hm (H.add bm (.amap (ki (hents hd 17)))) (.map (some bm)) hd := hents_hm (find_add_self _ _ _) hout
  obtain ⟨D, hD⟩ : ∃ D, H.add bm (.amap (ki (hents hd 17))) = D := ⟨_, rfl⟩
  have kD : Keep H D fun _ => False := hD ▸ Keep.add h_bm
  simp (dsimp := false) (maxSteps := 4000000) only [hlt, hn_bm, hr_bm, go_sem]
  refine out _ _ _ (by simp) ?_
  rw [hD] at hM ⊢
  clear hD h_bm hn_bm hr_bm again out bad
  
  have hS := hS.keep kD
  have hT := hT.keep kD
  have hB := hB.keep kD fun _ _ h => h
  simp (dsimp := false) (maxSteps := 4000000) only [go_sem]
  refine AWp.loopr (ι := Nat × Option Addr × Nat × List SR) (fun s A => s.1 ≤ S.length ∧ s.2.2.2.length = s.1 ∧ OwnS D A 37 1 s.2.1 s.2.2.1 (s.2.2.2.map encS) ∧ (Keep D A fun _ => False) ∧ (∀ o ∈ s.2.2.2, o.In A ∧ ∀ x, o.ft x → Fresh D x ∧ ∀ a, s.2.1 = some a → a.block ≠ x) ∧ ∀ (n : Nat) r t l o, S[n]? = some r → T[n]? = some t → B[n]? = some l → s.2.2.2[n]? = some o → (SR.X o).Perm (outP hd r.X r.den t l).1 ∧ o.den = (outP hd r.X r.den t l).2)
    (fun s => [(72, .int .i64 s.1), (71, .int .i64 S.length), (70, .slice bs S.length cs), (17, .slice s.2.1 s.1 s.2.2.1), (13, .map (some bm)), (0, .slice bs S.length cs), (1, .slice bt T.length ct), (2, .slice bb B.length cb)]) (fun s => S.length - s.1) (0, none, 0, []) _ ⟨by simp only; omega, rfl, OwnS.nil, Keep.refl, by simp, by simp⟩ (FrLe.of_lks ?_) (AH.le_refl _) fun s A hi Q again out => ?_
  · simp (dsimp := false) (maxSteps := 4000000) only [go_sem]
  obtain ⟨i, base, cap, SO⟩ := s
  obtain ⟨hi, hl, hO, hK, hin, hval⟩ := hi
  
  dsimp only at hi hl hO hin hval again ⊢
  by_cases hlt : (i : Int) < S.length
  case neg =>
    obtain rfl : i = S.length := by omega
    simp (dsimp := false) (maxSteps := 4000000) only [hlt, go_sem]
    refine out _ _ _ (by simp) ?_
    simp (dsimp := false) (maxSteps := 4000000) only [go_sem]
    refine (ClipS_c base S.length cap _ (by have := hO.le; simpa [hl] using this)).mono ?_; rintro _ _ ⟨rfl, rfl⟩
    simp (dsimp := false) (maxSteps := 4000000) only [go_sem]
    refine ⟨A, AH.le_refl _, base, S.length, SO, by rw [hl, hE0], by rw [hE0]; exact fun h => absurd rfl h, fun _ => ⟨hl, hval⟩, ⟨?_, fun o ho => (hin o ho).1⟩, kD.trans hK, fun o ho x hx => kD.fr ((hin o ho).2 x hx).1⟩
    rcases hO.at_ with ⟨rfl, h2, rfl⟩ | ⟨b, bs', rfl, _⟩
    · have h3 : SO = [] := List.map_eq_nil_iff.1 h2
      subst h3
      simp only [List.length_nil] at hl
      omega
    · have h3 := hO.clip.slc
      simpa [hl] using h3
  obtain ⟨r, hr⟩ := get_some (l := S) (i := i) (by omega)
  obtain ⟨⟨tb, tc, L⟩, htt⟩ := get_some (l := T) (i := i) (by omega)
  obtain ⟨l, hbl⟩ := get_some (l := B) (i := i) (by omega)
  have hSA := hS.keep hK
  have hTA := hT.keep hK
  have hBA := hB.keep hK fun _ _ h => h
  have hMA := hM.keep hK fun _ _ h => h
  have hrin := hSA.inn r (List.mem_of_getElem? hr)
  have htin := hTA.inn _ (List.mem_of_getElem? htt)
  obtain ⟨q1, o1, rfl, _, hr1⟩ := hSA.out.get (Go.AX.map_get (f := encS) hr)
  obtain ⟨q2, o2, rfl, _, hr2⟩ := hTA.out.get (Go.AX.map_get (f := encT) htt)
  obtain ⟨q3, o3, rfl, _, hr3⟩ := hBA.get (Go.AX.map_get (f := encB1) hbl)
  have hr1 := hr1 0 _ rfl
  have hr2 := hr2 0 _ rfl
  have hr3 := hr3 0 _ rfl
  simp only [Nat.add_zero, Nat.mul_one] at hr1 hr2 hr3
  have ee := i64_succ (i := i) (by omega)
  have hi0 : (0 : Int) ≤ (i : Int) := by omega
  have hiT : (i : Int) < T.length := by omega
  have hiB : (i : Int) < B.length := by omega
  have nb : ∀ {A1 : AH}, (Keep A A1 fun _ => False) → ∀ b X den ft, StAt A1 b X den ft → OkX X → (∀ x, ft x → Fresh A x) → X.Perm (outP hd r.X r.den (tb, tc, L) l).1 → den = (outP hd r.X r.den (tb, tc, L) l).2 → ∀ bx, Fresh A1 bx → ∀ K : Value → AH → Prop, (∀ base' cap' H', ∀ SO' : List SR, SO'.length = i + 1 → OwnS D H' 37 1 base' cap' (SO'.map encS) → (Keep D H' fun _ => False) → (∀ o ∈ SO', SR.In H' o ∧ ∀ x, o.ft x → Fresh D x ∧ ∀ a, base' = some a → a.block ≠ x) → (∀ (n : Nat) r t l o, S[n]? = some r → T[n]? = some t → B[n]? = some l → SO'[n]? = some o → (SR.X o).Perm (outP hd r.X r.den t l).1 ∧ o.den = (outP hd r.X r.den t l).2) → K (.slice base' (i + 1) cap') H') →
      APD Tryz.prog (some 58) (some 58) [.slice base i cap, .slice (some ⟨bx, 0, none⟩) 1 1] (A1.add bx (.cells [.pointer (some ⟨b, 0, none⟩)] 37 1)) K := by
    intro A1 hK1 b X den ft hst hok hft hpm hdn bx hbx K hk
    have hO1 := hO.keep hK1 (fun _ _ h => h)
    have hKA := hK.trans hK1
    refine APD.growW (x := .slice (some ⟨bx, 0, none⟩) 1 1) (R' := [encS ⟨b, X, den, ft⟩]) (m := 1) (hO1.added hbx) (hKA.nw hbx).all se_58 rfl (by decide) (by rw [Tryz.underlying58]; rfl) (by simp [hl]) rfl rfl (by rw [srow_some, row_add_self]; rfl) (by simp [encS]) (by simp [encS, scal]) (by omega) fun base2 cap2 A' hO' hK' hN' => ?_
    have hK2 := (hKA.nw hbx).ow hK' fun b ⟨a, ha, e⟩ => e ▸ hO.fresh a ha
    have hbase : ∀ x, ¬ Fresh A1 x → (∀ a, base = some a → a.block ≠ x) → ∀ a, base2 = some a → a.block ≠ x := fun x hx hb a ha e => by
      rcases hN' a ha with ⟨a', h1, h2⟩ | hf
      · exact hb a' h1 (h2 ▸ e)
      · exact hx (e ▸ (Keep.refl.nw (k := .cells [.pointer (some ⟨b, 0, none⟩)] 37 1) hbx).fr hf)
    refine ⟨A', AH.le_refl _, hk base2 cap2 A' (SO ++ [⟨b, X, den, ft⟩]) (by simp [hl]) (by rw [List.map_append]; exact hO') hK2 (fun o ho => ?_) (fun n r' t l' o h1 h2 h3 h4 => ?_)⟩
    · rcases List.mem_append.1 ho with ho | ho
      · obtain ⟨⟨h1, h2⟩, h3⟩ := hin o ho
        have h1' := h1.keep hK1 fun _ _ h => h
        refine ⟨⟨(h1'.keep (Keep.add hbx) fun _ _ h => h).keep hK' fun x hx ⟨a, ha, e⟩ => (h3 x hx).2 a ha e.symm, h2⟩, fun x hx => ⟨(h3 x hx).1, hbase x (fun hf => h1'.fresh hf hx) (h3 x hx).2⟩⟩
      · obtain rfl := List.mem_singleton.1 ho
        refine ⟨⟨(hst.keep (Keep.add hbx) fun _ _ h => h).keep hK' fun x hx ⟨a, ha, e⟩ => hO.ne (hft x hx) a ha e.symm, hok⟩, fun x hx => ⟨hK.fr (hft x hx), hbase x (fun hf => hst.fresh hf hx) fun a ha => hO.ne (hft x hx) a ha⟩⟩
    · by_cases hn : n < SO.length
      · rw [List.getElem?_append_left hn] at h4
        exact hval n r' t l' o h1 h2 h3 h4
      · have hn2 := Go.AX.lt_of_get h4
        simp only [List.length_append, List.length_singleton] at hn2
        obtain rfl : n = i := by omega
        rw [List.getElem?_append_right (by omega), hl, Nat.sub_self] at h4
        cases h4
        rw [hr] at h1; rw [htt] at h2; rw [hbl] at h3
        cases h1; cases h2; cases h3
        exact ⟨hpm, hdn⟩
  cases l with
  | true =>
    have hmem : ((tb, tc, L) : Tb) ∈ T := List.mem_of_getElem? htt
    have hto := tab_ok ht hmem
    
    simp (dsimp := false) (maxSteps := 4000000) only [hlt, hi0, hiT, hiB, hr1, hr2, hr3, go_sem]
    refine (Apply_c (by rw [hK.w0, kD.w0]; exact hE) hrin.1 hrin.2 L tb tc htin (some bm) hd hMA hrd (fun x hx hx2 => (hto.2 x hx hx2).2) hto.1).mono ?_
    rintro _ A1 ⟨b1, X1, ft1, rfl, hp1, hok1, hs1, hK1, hf1⟩
    simp (dsimp := false) (maxSteps := 4000000) only [go_sem]
    refine AllB.mk fun bx h_bx => ?_; have hn_bx := h_bx; (try simp only [fresh_add, fresh_set, ne_eq] at hn_bx); have hr_bx := hn_bx; (try simp only [@eq_comm Nat bx] at hr_bx); simp (dsimp := false) (maxSteps := 4000000) only [hn_bx, hr_bx, go_sem]
    refine nb hK1 _ _ _ _ hs1 hok1 hf1 hp1 rfl bx h_bx _ fun base' cap' H' SO' g1 g2 g3 g4 g5 => ?_
    simp (dsimp := false) (maxSteps := 4000000) only [ee, hn_bx, hr_bx, go_sem]
    exact again (i + 1, base', cap', SO') _ _ _ ⟨by simp only; omega, g1, g2, g3, g4, g5⟩ (FrLe.of_lks (by simp (dsimp := false) (maxSteps := 4000000) only [hn_bx, hr_bx, go_sem])) (AH.le_refl _) (by simp only; omega)
    
  | false =>
    simp (dsimp := false) (maxSteps := 4000000) only [hlt, hi0, hiT, hiB, hr1, hr2, hr3, go_sem]
    refine (Copy_c hrin.1 hrin.2).mono ?_
    rintro _ A1 ⟨b1, X1, ft1, rfl, hp1, hs1, hK1, hf1⟩
    simp (dsimp := false) (maxSteps := 4000000) only [go_sem]
    refine AllB.mk fun bx h_bx => ?_; have hn_bx := h_bx; (try simp only [fresh_add, fresh_set, ne_eq] at hn_bx); have hr_bx := hn_bx; (try simp only [@eq_comm Nat bx] at hr_bx); simp (dsimp := false) (maxSteps := 4000000) only [hn_bx, hr_bx, go_sem]
    refine nb hK1 _ _ _ _ hs1 (hrin.2.perm hp1.symm) hf1 hp1 rfl bx h_bx _ fun base' cap' H' SO' g1 g2 g3 g4 g5 => ?_
    simp (dsimp := false) (maxSteps := 4000000) only [ee, hn_bx, hr_bx, go_sem]
    exact again (i + 1, base', cap', SO') _ _ _ ⟨by simp only; omega, g1, g2, g3, g4, g5⟩ (FrLe.of_lks (by simp (dsimp := false) (maxSteps := 4000000) only [hn_bx, hr_bx, go_sem])) (AH.le_refl _) (by simp only; omega)
end Go.Proofs.YtamlipffhimfmaaGreatDoor.Prt

/- part: the reference's Round. -/
namespace Go.Proofs.YtamlipffhimfmaaGreatDoor.Prt
set_option linter.unusedSimpArgs false
set_option linter.unusedVariables false
open Go Go.AX Go.Proofs Ty Go.Proofs.YtamlipffhimfmaaGreatDoor.File Go.Proofs.YtamlipffhimfmaaGreatDoor.Ifs Go.Proofs.YtamlipffhimfmaaGreatDoor.Err
open Go.Proofs.YtamlipffhimfmaaGreatDoor.Chk (Tb TabIn mayB tabs encT encE Tables_c RefTables_c)
set_option maxHeartbeats 4000000
set_option maxRecDepth 10000

theorem RefRound_c (S : List RR) (T : List Tb) (B : List Bool) (P : List Sp) (bs bt bb bp : Option Addr) (cs ct cb cp : Nat) (H : AH) (hS : RtsIn H bs cs S) (hT : TabIn H bt ct T) (hB : SlcIn H 1 bb cb (B.map encB1)) (hP : SlcIn H 2 bp cp (P.map encP)) (hl1 : T.length = S.length) (hl2 : B.length = S.length) (hl3 : S.length ≤ 32) :
    ACalls Tryz.prog 28 #[.slice bs S.length cs, .slice bt T.length ct, .slice bb B.length cb, .slice bp P.length cp] H (fun u H' => ∃ base cap SO, u = .tuple #[.slice base (List.length SO) cap, .int .i64 (rndE S.length T)] ∧ (rndE S.length T ≠ 0 → SO = []) ∧ (rndE S.length T = 0 → SO.length = S.length ∧ ∀ (n : Nat) s t l o, S[n]? = some s → T[n]? = some t → B[n]? = some l → SO[n]? = some o → (RR.Z o).map RF.nf = (outP (hdP (S.map (fun r => r.Z.map RF.nf)) T B P) (s.Z.map RF.nf) s.den t l).1 ∧ o.den = (outP (hdP (S.map (fun r => r.Z.map RF.nf)) T B P) (s.Z.map RF.nf) s.den t l).2) ∧ RtsIn H' base cap SO ∧ Keep H H' fun _ => False) := by
  have hrh := RefHeard_c S T B P bs bt bb bp cs ct cb cp H hS hT hB hP
  have hrd := heard_range (S.map (fun r => r.Z.map RF.nf)) T B P
  obtain ⟨hd, hhd⟩ : ∃ hd, hdP (S.map (fun r => r.Z.map RF.nf)) T B P = hd := ⟨_, rfl⟩
  rw [hhd] at hrd hrh ⊢
  have hbigS := hS.out.big
  simp only [List.length_map] at hbigS
  have e1 : (T.length : Int) = S.length := by omega
  have e2 : (B.length : Int) = S.length := by omega
  have hlenR := rowH_len hd 17
  have hscR := rowH_scal hd 17
  have bad : ∀ {E : Int} {T' : AH}, rndE S.length T = E → E ≠ 0 → H.le T' → ∃ H', H'.le T' ∧ ∃ base cap SO, Value.tuple #[.slice none 0 0, .int .i64 E] = .tuple #[.slice base (List.length SO) cap, .int .i64 (rndE S.length T)] ∧ (rndE S.length T ≠ 0 → SO = []) ∧ (rndE S.length T = 0 → SO.length = S.length ∧ ∀ (n : Nat) s t l o, S[n]? = some s → T[n]? = some t → B[n]? = some l → SO[n]? = some o → (RR.Z o).map RF.nf = (outP hd (s.Z.map RF.nf) s.den t l).1 ∧ o.den = (outP hd (s.Z.map RF.nf) s.den t l).2) ∧ RtsIn H' base cap SO ∧ Keep H H' fun _ => False := fun {E T'} he h0 hl =>
    ⟨H, hl, none, 0, [], by rw [he]; rfl, fun _ => rfl, fun h => absurd (he.symm.trans h) h0, ⟨SlcIn.nil, by simp⟩, Keep.refl⟩
  refine ACalls.enter2 Tryz.func28 rfl Tryz.ntmps28 Tryz.results28 (by simp) ?_; simp (dsimp := false) (maxSteps := 4000000) only [hlenR, hscR, go_sem]
  by_cases hn1 : (S.length : Int) < 1
  · simp (dsimp := false) (maxSteps := 4000000) only [hn1, hlenR, hscR, go_sem]
    exact bad (by rw [rndE, if_pos (by omega)]) (by decide) (AH.le_refl _)
  have hn2 : ¬ 32 < (S.length : Int) := by omega
  have hE0 : rndE S.length T = (tabs T).2 := by rw [rndE, if_neg (by omega)]
  simp (dsimp := false) (maxSteps := 4000000) only [hn1, hn2, e1, e2, hlenR, hscR, go_sem]
  refine (RefTables_c T bt ct _ hT).mono ?_; rintro _ _ ⟨rfl, rfl⟩
  by_cases h0 : (tabs T).2 = 0
  case neg =>
    simp (dsimp := false) (maxSteps := 4000000) only [h0, hlenR, hscR, go_sem]
    exact bad hE0 h0 (AH.le_refl _)
  have ht := tok_of h0
  rw [h0] at hE0
  simp (dsimp := false) (maxSteps := 4000000) only [h0, hlenR, hscR, go_sem]
  refine (hrh ht (by omega) (by omega)).mono ?_; rintro _ _ ⟨rfl, rfl⟩
  clear hrh
  simp (dsimp := false) (maxSteps := 4000000) only [hlenR, hscR, go_sem]
  refine AllB.mk fun b12 h_b12 => ?_; have hn_b12 := h_b12; (try simp only [fresh_add, fresh_set, ne_eq] at hn_b12); have hr_b12 := hn_b12; (try simp only [@eq_comm Nat b12] at hr_b12); simp (dsimp := false) (maxSteps := 4000000) only [hlenR, hscR, hn_b12, hr_b12, go_sem]
  obtain ⟨D, hD⟩ : ∃ D, H.add b12 (.cells (rowH hd 17) 96 34) = D := ⟨_, rfl⟩
  have kD : Keep H D fun _ => False := hD ▸ Keep.add h_b12
  have f12 : D.find b12 = some (.cells (rowH hd 17) 96 34) := by rw [← hD, find_add_self]
  have w12 : D.row b12 0 34 = some (rowH hd 17) := by
    rw [row_find f12 (by rw [hlenR]; exact Nat.le_refl _), List.drop_zero, List.take_of_length_le (by rw [hlenR]; exact Nat.le_refl _)]
  rw [hD]
  clear hD h_b12 hn_b12 hr_b12 bad
  
  have hS := hS.keep kD
  have hT := hT.keep kD
  have hB := hB.keep kD fun _ _ h => h
  refine AllB.mk fun b13 h_b13 => ?_; have hn_b13 := h_b13; (try simp only [fresh_add, fresh_set, ne_eq] at hn_b13); have hr_b13 := hn_b13; (try simp only [@eq_comm Nat b13] at hr_b13); simp (dsimp := false) (maxSteps := 4000000) only [hlenR, hscR, hn_b13, hr_b13, go_sem]
  refine AWp.loopr (ι := Nat × Option Addr × Nat × List RR) (fun s A => s.1 ≤ S.length ∧ s.2.2.2.length = s.1 ∧ OwnS D A 38 1 s.2.1 s.2.2.1 (s.2.2.2.map encR) ∧ (Keep D A fun _ => False) ∧ (∀ o ∈ s.2.2.2, o.In A ∧ ∀ x, (x = o.b ∨ o.rd x) → ∀ a, s.2.1 = some a → a.block ≠ x) ∧ ∀ (n : Nat) r t l o, S[n]? = some r → T[n]? = some t → B[n]? = some l → s.2.2.2[n]? = some o → (RR.Z o).map RF.nf = (outP hd (r.Z.map RF.nf) r.den t l).1 ∧ o.den = (outP hd (r.Z.map RF.nf) r.den t l).2)
    (fun s => [(14, .int .i64 s.1), (12, .pointer (some ⟨b12, 0, none⟩)), (13, .slice s.2.1 s.1 s.2.2.1), (0, .slice bs S.length cs), (1, .slice bt T.length ct), (2, .slice bb B.length cb)]) (fun s => S.length - s.1) (0, some ⟨b13, 0, none⟩, 0, []) _ ⟨by simp only; omega, rfl, OwnS.new h_b13 (AH.le_refl _) rfl rfl rfl (by simp) (by simp), Keep.add h_b13, by simp, by simp⟩ (FrLe.of_lks ?_) (AH.le_refl _) fun s A hi Q again out => ?_
  · simp (dsimp := false) (maxSteps := 4000000) only [hlenR, hscR, hn_b13, hr_b13, go_sem]
  clear h_b13 hn_b13 hr_b13
  
  obtain ⟨i, base, cap, SO⟩ := s
  obtain ⟨hi, hl, hO, hK, hin, hval⟩ := hi
  dsimp only at hi hl hO hin hval again ⊢
  by_cases hlt : (i : Int) < S.length
  case neg =>
    obtain rfl : i = S.length := by omega
    simp (dsimp := false) (maxSteps := 4000000) only [hlt, hlenR, hscR, go_sem]
    refine out _ _ _ (by simp) ?_
    simp (dsimp := false) (maxSteps := 4000000) only [hlenR, hscR, go_sem]
    exact ⟨A, AH.le_refl _, base, cap, SO, by rw [hl, hE0], by rw [hE0]; exact fun h => absurd rfl h, fun _ => ⟨hl, hval⟩, ⟨hO.slc, fun o ho => (hin o ho).1⟩, kD.trans hK⟩
  obtain ⟨r, hr⟩ := get_some (l := S) (i := i) (by omega)
  obtain ⟨⟨tb, tc, L⟩, htt⟩ := get_some (l := T) (i := i) (by omega)
  obtain ⟨l, hbl⟩ := get_some (l := B) (i := i) (by omega)
  have hSA := hS.keep hK
  have hTA := hT.keep hK
  have hrin := hSA.inn r (List.mem_of_getElem? hr)
  have htin := hTA.inn _ (List.mem_of_getElem? htt)
  obtain ⟨q1, o1, rfl, _, hr1⟩ := hS.out.get (Go.AX.map_get (f := encR) hr)
  obtain ⟨q2, o2, rfl, _, hr2⟩ := hT.out.get (Go.AX.map_get (f := encT) htt)
  obtain ⟨q3, o3, rfl, _, hr3⟩ := hB.get (Go.AX.map_get (f := encB1) hbl)
  have hr1 := hr1 0 _ rfl
  have hr2 := hr2 0 _ rfl
  have hr3 := hr3 0 _ rfl
  have hBA := hB.keep hK fun _ _ h => h
  obtain ⟨_, _, e, _, ha1⟩ := hSA.out.get (Go.AX.map_get (f := encR) hr); cases e
  obtain ⟨_, _, e, _, ha2⟩ := hTA.out.get (Go.AX.map_get (f := encT) htt); cases e
  obtain ⟨_, _, e, _, ha3⟩ := hBA.get (Go.AX.map_get (f := encB1) hbl); cases e
  have ha1 := ha1 0 _ rfl
  have ha2 := ha2 0 _ rfl
  have ha3 := ha3 0 _ rfl
  simp only [Nat.add_zero, Nat.mul_one] at hr1 hr2 hr3 ha1 ha2 ha3
  have ee := i64_succ (i := i) (by omega)
  have hi0 : (0 : Int) ≤ (i : Int) := by omega
  have hiT : (i : Int) < T.length := by omega
  have hiB : (i : Int) < B.length := by omega
  have nb : ∀ {A1 : AH}, (Keep A A1 fun _ => False) → ∀ b Z den rd, RefS A1 b Z den rd → OkX (Z.map RF.nf) → Fresh A b → (∀ x, rd x → r.rd x ∨ Fresh A x) → Z.map RF.nf = (outP hd (r.Z.map RF.nf) r.den (tb, tc, L) l).1 → den = (outP hd (r.Z.map RF.nf) r.den (tb, tc, L) l).2 → ∀ bx, Fresh A1 bx → ∀ K : Value → AH → Prop, (∀ base' cap' H', ∀ SO' : List RR, SO'.length = i + 1 → OwnS D H' 38 1 base' cap' (SO'.map encR) → (Keep D H' fun _ => False) → (∀ o ∈ SO', RR.In H' o ∧ ∀ x, (x = o.b ∨ o.rd x) → ∀ a, base' = some a → a.block ≠ x) → (∀ (n : Nat) r t l o, S[n]? = some r → T[n]? = some t → B[n]? = some l → SO'[n]? = some o → (RR.Z o).map RF.nf = (outP hd (r.Z.map RF.nf) r.den t l).1 ∧ o.den = (outP hd (r.Z.map RF.nf) r.den t l).2) → K (.slice base' (i + 1) cap') H') →
      APD Tryz.prog (some 59) (some 59) [.slice base i cap, .slice (some ⟨bx, 0, none⟩) 1 1] (A1.add bx (.cells [.pointer (some ⟨b, 0, none⟩)] 38 1)) K := by
    intro A1 hK1 b Z den rd hst hok hfb hft hpm hdn bx hbx K hk
    have hO1 := hO.keep hK1 (fun _ _ h => h)
    have hKA := hK.trans hK1
    refine APD.growW (x := .slice (some ⟨bx, 0, none⟩) 1 1) (R' := [encR ⟨b, Z, den, rd⟩]) (m := 1) (hO1.added hbx) (hKA.nw hbx).all se_59 rfl (by decide) (by rw [Tryz.underlying59]; rfl) (by simp [hl]) rfl rfl (by rw [srow_some, row_add_self]; rfl) (by simp [encR]) (by simp [encR, scal]) (by omega) fun base2 cap2 A' hO' hK' hN' => ?_
    have hK2 := (hKA.nw hbx).ow hK' fun b ⟨a, ha, e⟩ => e ▸ hO.fresh a ha
    have hbase : ∀ x, ¬ Fresh A1 x → (∀ a, base = some a → a.block ≠ x) → ∀ a, base2 = some a → a.block ≠ x := fun x hx hb a ha e => by
      rcases hN' a ha with ⟨a', h1, h2⟩ | hf
      · exact hb a' h1 (h2 ▸ e)
      · exact hx (e ▸ (Keep.refl.nw (k := .cells [.pointer (some ⟨b, 0, none⟩)] 38 1) hbx).fr hf)
    have kn : ∀ (b0 : Nat) Z0 den0 rd0, RefS A1 b0 Z0 den0 rd0 → ∀ x, (x = b0 ∨ rd0 x) → ¬ Fresh A1 x := fun b0 Z0 den0 rd0 h x hx hf => by
      rcases hx with rfl | hx
      · obtain ⟨k, hk⟩ := refS_find h
        exact hf.ne_find hk rfl
      · exact refS_kn h x hx hf
    have hnew : ∀ x, (x = b ∨ rd x) → ∀ a, base = some a → a.block ≠ x := fun x hx a ha => by
      rcases hx with rfl | hx
      · exact hO.ne hfb a ha
      · rcases hft x hx with h | h
        · intro e
          exact refS_kn (hS.inn r (List.mem_of_getElem? hr)).1 x h (e ▸ hO.fresh a ha)
        · exact hO.ne h a ha
    refine ⟨A', AH.le_refl _, hk base2 cap2 A' (SO ++ [⟨b, Z, den, rd⟩]) (by simp [hl]) (by rw [List.map_append]; exact hO') hK2 (fun o ho => ?_) (fun n r' t l' o h1 h2 h3 h4 => ?_)⟩
    · rcases List.mem_append.1 ho with ho | ho
      · obtain ⟨⟨h1, h2⟩, h3⟩ := hin o ho
        have h1' := h1.keep hK1 (fun _ _ h => h) fun h => h
        refine ⟨⟨(h1'.keep (Keep.add hbx) (fun _ _ h => h) fun h => h).keep hK' (fun x hx ⟨a, ha, e⟩ => h3 x (.inr hx) a ha e.symm) fun ⟨a, ha, e⟩ => h3 _ (.inl rfl) a ha e.symm, h2⟩, fun x hx => hbase x (kn _ _ _ _ h1' x hx) (h3 x hx)⟩
      · obtain rfl := List.mem_singleton.1 ho
        refine ⟨⟨(hst.keep (Keep.add hbx) (fun _ _ h => h) fun h => h).keep hK' (fun x hx ⟨a, ha, e⟩ => hnew x (.inr hx) a ha e.symm) fun ⟨a, ha, e⟩ => hnew _ (.inl rfl) a ha e.symm, hok⟩, fun x hx => hbase x (kn _ _ _ _ hst x hx) (hnew x hx)⟩
    · by_cases hn : n < SO.length
      · rw [List.getElem?_append_left hn] at h4
        exact hval n r' t l' o h1 h2 h3 h4
      · have hn2 := Go.AX.lt_of_get h4
        simp only [List.length_append, List.length_singleton] at hn2
        obtain rfl : n = i := by omega
        rw [List.getElem?_append_right (by omega), hl, Nat.sub_self] at h4
        cases h4
        rw [hr] at h1; rw [htt] at h2; rw [hbl] at h3
        cases h1; cases h2; cases h3
        exact ⟨hpm, hdn⟩
  have hle := hK.all
  cases l with
  | true =>
    have hmem : ((tb, tc, L) : Tb) ∈ T := List.mem_of_getElem? htt
    have hto := tab_ok ht hmem
    
    simp (dsimp := false) (maxSteps := 4000000) only [hlt, hi0, hiT, hiB, ha1, ha2, ha3, hlenR, hscR, go_sem]
    refine AWp.gen [.pu, .pu, .pu, .pu, .rd, .pu, .pu, .pu, .rd, .rd, .ch, .al, .ch, .pu] [0, 0, 0, 6, 14, 0, 0, 96, 224, 0, 1022, 2046, 4095, 8191] 0 (D) mixed (by kernel_rfl) (hle) ?_
    simp (dsimp := false) (maxSteps := 4000000) only [hlt, hi0, hiT, hiB, hr1, hr2, hr3, w12, hle, hlenR, hscR, go_sem]
    refine (RefApply_c hrin.1 hrin.2 L tb tc htin hd hrd hto.2).mono ?_
    rintro _ A1 ⟨b1, Z1, rd1, rfl, hp1, hok1, hs1, hK1, hfb1, hf1⟩
    have hle1 : D.le A1 := (hK.trans hK1).all
    simp (dsimp := false) (maxSteps := 4000000) only [hle1, hlenR, hscR, go_sem]
    refine AllB.mk fun bx h_bx => ?_
    have hle2 : D.le (A1.add bx (.cells [.pointer (some ⟨b1, 0, none⟩)] 38 1)) := ((hK.trans hK1).nw h_bx).all
    simp (dsimp := false) (maxSteps := 4000000) only [hle2, hlenR, hscR, go_sem]
    refine nb hK1 _ _ _ _ hs1 hok1 hfb1 hf1 hp1 rfl bx h_bx _ fun base' cap' H' SO' g1 g2 g3 g4 g5 => ?_
    have hle3 := g3.all
    simp (dsimp := false) (maxSteps := 4000000) only [ee, hle3, hlenR, hscR, go_sem]
    exact again (i + 1, base', cap', SO') _ _ _ ⟨by simp only; omega, g1, g2, g3, g4, g5⟩ (FrLe.of_lks (by simp (dsimp := false) (maxSteps := 4000000) only [hlenR, hscR, go_sem])) (AH.le_refl _) (by simp only; omega)
    
  | false =>
    simp (dsimp := false) (maxSteps := 4000000) only [hlt, hi0, hiT, hiB, ha1, ha2, ha3, hlenR, hscR, go_sem]
    refine (RefCopy_c hrin.1 hrin.2).mono ?_
    rintro _ A1 ⟨b1, rd1, rfl, hs1, hK1, hfb1, hf1⟩
    simp (dsimp := false) (maxSteps := 4000000) only [hlenR, hscR, go_sem]
    refine AllB.mk fun bx h_bx => ?_; have hn_bx := h_bx; (try simp only [fresh_add, fresh_set, ne_eq] at hn_bx); have hr_bx := hn_bx; (try simp only [@eq_comm Nat bx] at hr_bx); simp (dsimp := false) (maxSteps := 4000000) only [hlenR, hscR, hn_bx, hr_bx, go_sem]
    refine nb hK1 _ _ _ _ hs1 hrin.2 hfb1 hf1 rfl rfl bx h_bx _ fun base' cap' H' SO' g1 g2 g3 g4 g5 => ?_
    simp (dsimp := false) (maxSteps := 4000000) only [ee, hlenR, hscR, hn_bx, hr_bx, go_sem]
    exact again (i + 1, base', cap', SO') _ _ _ ⟨by simp only; omega, g1, g2, g3, g4, g5⟩ (FrLe.of_lks (by simp (dsimp := false) (maxSteps := 4000000) only [hlenR, hscR, hn_bx, hr_bx, go_sem])) (AH.le_refl _) (by simp only; omega)
end Go.Proofs.YtamlipffhimfmaaGreatDoor.Prt

/- serve: the reference's store of a list. -/
namespace Go.Proofs.YtamlipffhimfmaaGreatDoor.Srv
set_option linter.unusedSimpArgs false
set_option linter.unusedVariables false
open Go Go.AX Go.Proofs Ty Go.Proofs.YtamlipffhimfmaaGreatDoor.File Go.Proofs.YtamlipffhimfmaaGreatDoor.Ifs
set_option maxHeartbeats 4000000
set_option maxRecDepth 10000

def addR (Y : List Nf) (x : Nf) : List Nf := if goodF x.2.1 x.2.2 = true then (if addE Y x.1 x.2 = 0 then ins x.1 x.2 Y else Y) else Y
def refX (L : List Nf) : List Nf := L.foldl addR []
theorem addR_srt {Y : List Nf} (h : Srt Y) (x : Nf) : Srt (addR Y x) := by
  unfold addR
  split
  · split
    · rename_i e
      refine ins_srt h ?_
      unfold addE at e
      split at e
      · cases e
      split at e
      · cases e
      split at e
      · cases e
      · rename_i h1; simpa using h1
    · exact h
  · exact h
theorem addR_ok {Y : List Nf} (h : OkX Y) (x : Nf) (hr : ∀ r ∈ x.2.2, RcOk r) : OkX (addR Y x) := by
  unfold addR
  split
  · split
    · rename_i e
      have := h.add x.1 x.2 hr
      rw [addX, if_pos e] at this
      exact this.perm ((List.perm_append_singleton _ _).trans (ins_perm x.1 x.2 Y).symm)
    · exact h
  · exact h
theorem RefStore_c (L : List RF) (base : Option Addr) (cap : Nat) (H : AH) (hs : SlcIn H 3 base cap (L.map encN)) (hz : ∀ z ∈ L, SlcIn H 4 z.base z.cap (z.R.map enc) ∧ ∀ r ∈ z.R, RcOk r) :
    ACalls Tryz.prog 41 #[.slice base L.length cap] H (fun v H' => ∃ br Z rd, v = .pointer (some ⟨br, 0, none⟩) ∧ Z.map RF.nf = refX ((L.take 8).map RF.nf) ∧ RefS H' br Z 0 rd ∧ OkX (Z.map RF.nf) ∧ Srt (Z.map RF.nf) ∧ Fresh H br ∧ (Keep H H' fun _ => False) ∧ ∀ x, rd x → Fresh H x ∨ ∃ z ∈ L, z.R ≠ [] ∧ ∃ a, z.base = some a ∧ x = a.block) := by
  refine ACalls.enter2 Tryz.func41 rfl Tryz.ntmps41 Tryz.results41 (by simp) ?_; simp (dsimp := false) (maxSteps := 4000000) only [go_sem]
  refine AllB.mk fun br h_br => ?_; have hn_br := h_br; (try simp only [fresh_add, fresh_set, ne_eq] at hn_br); have hr_br := hn_br; (try simp only [@eq_comm Nat br] at hr_br); simp (dsimp := false) (maxSteps := 4000000) only [hn_br, hr_br, go_sem]
  have hst : RefS (H.add br (.cells [.slice none 0 0, .int .i64 0] 49 2)) br [] 0 (fun _ => False) := ⟨none, 0, find_add_self _ _ _, ⟨SlcIn.nil, by simp, .inl rfl, by simp⟩, fun h => h, .inl ⟨rfl, rfl, rfl⟩, fun x h => h.elim⟩
  have hfr : Fresh H br := h_br
  refine AWp.loopr (ι := Nat × List RF × (Nat → Prop)) (fun s A => s.1 ≤ L.length ∧ s.1 ≤ 8 ∧ RefS A br s.2.1 0 s.2.2 ∧ s.2.1.map RF.nf = refX ((L.take s.1).map RF.nf) ∧ OkX (s.2.1.map RF.nf) ∧ Srt (s.2.1.map RF.nf) ∧ (Keep H A fun _ => False) ∧ ∀ x, s.2.2 x → Fresh H x ∨ ∃ z ∈ L, z.R ≠ [] ∧ ∃ a, z.base = some a ∧ x = a.block)
    (fun s => [(4, .int .i64 s.1), (3, .pointer (some ⟨br, 0, none⟩)), (0, .slice base L.length cap)]) (fun s => 8 - s.1) (0, [], fun _ => False) _
    ⟨by simp, by simp, hst, rfl, OkX.nil, by simp [Srt], Keep.add h_br, fun x h => h.elim⟩ (FrLe.of_lks ?_) (AH.le_refl _) fun s A hV Q again out => ?_
  · simp (dsimp := false) (maxSteps := 4000000) only [hn_br, hr_br, go_sem]
  clear hst hn_br hr_br h_br
  
  obtain ⟨i, Z, rd⟩ := s
  obtain ⟨hi, hi2, hS, hZ, hok, hso, hK, hrd⟩ := hV
  dsimp only at hi hi2 hS hZ hok hso hK hrd ⊢
  by_cases hlt : (i : Int) < L.length ∧ (i : Int) < 8
  · obtain ⟨z, hzi⟩ := get_some (l := L) (i := i) (by omega)
    obtain ⟨hzs, hzr⟩ := hz z (List.mem_of_getElem? hzi)
    obtain ⟨q, o, rfl, _, hr⟩ := (hs.keep hK fun _ _ h => h).get (Go.AX.map_get (f := encN) hzi)
    have rz := hr 0 _ rfl
    simp only [Nat.add_zero] at rz
    have hx1 : A.row q (o + i * 3 + 1) 2 = some [.int .i64 z.p, .slice z.base z.R.length z.cap] := row_of_rd rfl (by decide) fun j c hj => by
      rw [Nat.add_assoc _ 1 j, Nat.add_comm 1 j]
      exact hr (j + 1) c hj
    have ee := i64_succ (i := i) (by omega)
    have hi0 : (0 : Int) ≤ (i : Int) := by omega
    have hzA := hzs.keep hK fun _ _ h => h
    have hgc := fun H1 (h : SlcIn H1 4 z.base z.cap (z.R.map enc)) => File.RefGood_c z.p z.R z.base z.cap H1 h
    unfold fv at hgc
    have hstep : refX ((L.take (i + 1)).map RF.nf) = addR (refX ((L.take i).map RF.nf)) z.nf := by
      rw [List.take_add_one, hzi, refX, refX, List.map_append, List.foldl_append]; rfl
    simp (dsimp := false) (maxSteps := 4000000) only [hlt.1, hlt.2, go_sem]
    simp (dsimp := false) (maxSteps := 4000000) only [hlt.1, hlt.2, hi0, hx1, go_sem]
    refine AllB.mk fun b5 h_b5 => ?_; have hn_b5 := h_b5; (try simp only [fresh_add, fresh_set, ne_eq] at hn_b5); have hr_b5 := hn_b5; (try simp only [@eq_comm Nat b5] at hr_b5); simp (dsimp := false) (maxSteps := 4000000) only [hn_b5, hr_b5, go_sem]
    refine (hgc _ (hzA.add h_b5)).mono ?_; rintro _ _ ⟨rfl, rfl⟩
    cases hg : goodF z.p z.R with
    | false =>
      simp (dsimp := false) (maxSteps := 4000000) only [ee, hn_b5, hr_b5, go_sem]
      exact again (i + 1, Z, rd) _ A _ ⟨by dsimp only; omega, by dsimp only; omega, hS, by dsimp only; rw [hstep, hZ, addR, if_neg (by simp [RF.nf, hg])], hok, hso, hK, hrd⟩ (FrLe.of_lks (by simp (dsimp := false) (maxSteps := 4000000) only [hn_b5, hr_b5, go_sem])) (AH.le_add (AH.le_refl _) h_b5.2) (by dsimp only; omega)
    | true =>
      have hR0 : z.R ≠ [] := fun e => by rw [e] at hg; simp [goodF] at hg
      have k5 : Keep H _ fun _ => False := hK.nw (k := .cells [.int .i64 z.p, .slice z.base z.R.length z.cap] 72 2) h_b5
      simp (dsimp := false) (maxSteps := 4000000) only [hn_b5, hr_b5, go_sem]
      refine AWp.gen [.pu, .pu, .pu, .pu, .pu, .rd, .rd, .ch] [0, 0, 0, 6, 14, 30, 0, 127] 0 (_) mixed (by kernel_rfl) (AH.le_refl _) ?_
      have n5 : ¬ b5 = q := h_b5.ne_row hx1
      simp (dsimp := false) (maxSteps := 4000000) only [hi0, hlt.1, rz, n5, hn_b5, hr_b5, go_sem]
      refine (RefAdd_c (hS.keep (Keep.add h_b5 (ex := fun _ => False)) (fun _ _ h => h) fun h => h) hok hso z.n z.p z.R z.base z.cap (hzA.add h_b5) (.inr fun a ha => ⟨?_, fun hf => ?_⟩)).mono ?_
      · exact (hzs.apart hfr).elim (fun h => absurd (List.map_eq_nil_iff.1 h) hR0) fun h => h a ha
      · exact (hzs.apart (k5.fr hf)).elim (fun h => hR0 (List.map_eq_nil_iff.1 h)) fun h => h a ha rfl
      rintro _ B ⟨Z', rd', rfl, hZ', hrB, hKB, hrd'⟩
      have hadd : Z'.map RF.nf = addR (Z.map RF.nf) z.nf := by
        rw [hZ', addR]
        exact (if_pos (show goodF z.nf.2.1 z.nf.2.2 = true from hg)).symm
      simp (dsimp := false) (maxSteps := 4000000) only [ee, hn_b5, hr_b5, go_sem]
      exact again (i + 1, Z', rd') _ B _ ⟨by dsimp only; omega, by dsimp only; omega, hrB, by dsimp only; rw [hadd, hstep, hZ], by dsimp only; rw [hadd]; exact addR_ok hok _ hzr, by dsimp only; rw [hadd]; exact addR_srt hso _, k5.ow hKB fun x e => e ▸ hfr, fun x hx => by
        rcases hrd' x hx with h | h | ⟨h, a, ha, e⟩
        · exact hrd x h
        · exact .inl (k5.fr h)
        · exact .inr ⟨z, List.mem_of_getElem? hzi, h, a, ha, e⟩⟩ (FrLe.of_lks (by simp (dsimp := false) (maxSteps := 4000000) only [hn_b5, hr_b5, go_sem])) (AH.le_refl _) (by dsimp only; omega)
  
  have hno : ¬ (i : Int) < L.length ∨ ((i : Int) < L.length ∧ ¬ (i : Int) < 8) := by omega
  have ht : L.take i = L.take 8 := by
    rcases hno with h | ⟨_, h⟩
    · rw [List.take_of_length_le (by omega), List.take_of_length_le (by omega)]
    · rw [show i = 8 from by omega]
  rw [ht] at hZ
  clear hlt again
  rcases hno with a | ⟨a, a'⟩
  case' inl =>
    
    simp (dsimp := false) (maxSteps := 4000000) only [a, go_sem]
    refine out _ _ _ (by simp) ?_
    
  case' inr =>
    simp (dsimp := false) (maxSteps := 4000000) only [a, a', go_sem]
    refine out _ _ _ (by simp) ?_
  all_goals
    simp (dsimp := false) (maxSteps := 4000000) only [go_sem]
    exact ⟨A, AH.le_refl _, br, Z, rd, rfl, hZ, hS, hok, hso, hfr, hK, hrd⟩
end Go.Proofs.YtamlipffhimfmaaGreatDoor.Srv

/- serve: build. -/
namespace Go.Proofs.YtamlipffhimfmaaGreatDoor.Srv
set_option linter.unusedSimpArgs false
set_option linter.unusedVariables false
open Go Go.AX Go.Proofs Ty Go.Proofs.YtamlipffhimfmaaGreatDoor.File Go.Proofs.YtamlipffhimfmaaGreatDoor.Ifs
set_option maxHeartbeats 4000000
set_option maxRecDepth 10000

theorem add_next {Z : List RF} {i : Nat} {z : RF} (hX : OkX (Z.map RF.nf)) (hz : Z[i]? = some z) : addE ((Z.take i).map RF.nf) z.n (z.p, z.R) = 0 := by
  obtain ⟨h1, h2, _⟩ := hX.ok z.nf (List.mem_map_of_mem (List.mem_of_getElem? hz))
  have h3 : lk z.n ((Z.take i).map RF.nf) = none := by
    rw [lk_none]
    intro x hx e
    obtain ⟨y, hy, rfl⟩ := List.mem_map.1 hx
    obtain ⟨j, hj⟩ := List.mem_iff_getElem?.1 hy
    have hji : j < i := by have := Go.AX.lt_of_get hj; rw [List.length_take] at this; omega
    rw [List.getElem?_take, if_pos hji] at hj
    have hk := hX.kd
    have e1 : ((Z.map RF.nf).map (·.1))[j]? = some z.n := by simp [hj, e]
    have e2 : ((Z.map RF.nf).map (·.1))[i]? = some z.n := by simp [hz, RF.nf]
    have := (List.getElem?_inj (by simpa using Go.AX.lt_of_get hj) hk).1 (e1.trans e2.symm)
    omega
  have h1' : (0 ≤ z.n ∧ z.n < 64) := h1
  have h2' : goodF z.p z.R = true := h2
  unfold addE
  rw [if_neg (by omega), if_neg (by rw [h2']; decide), h3]
  rfl
theorem build_c (L : List RF) (base : Option Addr) (cap : Nat) (H : AH) (hs : SlcIn H 3 base cap (L.map encN)) (hz : ∀ z ∈ L, SlcIn H 4 z.base z.cap (z.R.map enc) ∧ ∀ r ∈ z.R, RcOk r) :
    ACalls Tryz.prog 11 #[.slice base L.length cap] H (fun v H' => ∃ b br Z ft rd, v = .tuple #[.pointer (some ⟨b, 0, none⟩), .pointer (some ⟨br, 0, none⟩)] ∧ Z.map RF.nf = refX ((L.take 8).map RF.nf) ∧ StAt H' b (Z.map RF.nf) 0 ft ∧ RefS H' br Z 0 rd ∧ OkX (Z.map RF.nf) ∧ Srt (Z.map RF.nf) ∧ (Keep H H' fun _ => False) ∧ (∀ x, ft x → Fresh H x) ∧ Fresh H br ∧ (∀ x, rd x → ¬ ft x) ∧ ¬ ft br) := by
  refine ACalls.enter2 Tryz.func11 rfl Tryz.ntmps11 Tryz.results11 (by simp) ?_; simp (dsimp := false) (maxSteps := 4000000) only [go_sem]
  refine (New_c H).mono ?_
  rintro _ A0 ⟨b, ft0, rfl, hs0, hK0, hf0⟩
  simp (dsimp := false) (maxSteps := 4000000) only [go_sem]
  refine (RefStore_c L base cap _ (hs.keep hK0 fun _ _ h => h) fun z h => ⟨(hz z h).1.keep hK0 fun _ _ h => h, (hz z h).2⟩).mono ?_
  rintro _ A1 ⟨br, Z, rd, rfl, hZ, hS, hok, hso, hfr, hK1, hrd⟩
  have hs1 := hs0.keep hK1 fun _ _ h => h
  have hK := hK0.trans hK1
  have hZl : Z.length ≤ 64 := by have := hok.len; simpa using this
  have hd : ∀ x, rd x → ¬ ft0 x := fun x hx hf => by
    rcases hrd x hx with h | ⟨z, hz1, hR, a, ha, e⟩
    · exact hs0.fresh h hf
    · have := hf0 x hf
      exact ((hz z hz1).1.apart this).elim (fun h => hR (List.map_eq_nil_iff.1 h)) fun h => h a ha e.symm
  have hdb : ¬ ft0 br := hs0.fresh hfr
  have hfrH : Fresh H br := hK0.fr hfr
  simp (dsimp := false) (maxSteps := 4000000) only [go_sem]
  refine AWp.loopr (ι := Nat × (Nat → Prop)) (fun s A => s.1 ≤ Z.length ∧ StAt A b ((Z.take s.1).map RF.nf) 0 s.2 ∧ RefS A br Z 0 rd ∧ (Keep H A fun _ => False) ∧ (∀ x, s.2 x → Fresh H x) ∧ (∀ x, rd x → ¬ s.2 x) ∧ ¬ s.2 br)
    (fun s => [(6, .int .i64 s.1), (4, .pointer (some ⟨b, 0, none⟩)), (5, .pointer (some ⟨br, 0, none⟩))]) (fun s => Z.length - s.1) (0, ft0) A1
    ⟨by simp, hs1, hS, hK, hf0, hd, hdb⟩ (FrLe.of_lks ?_) (AH.le_refl _) fun s A hV Q again out => ?_
  · simp (dsimp := false) (maxSteps := 4000000) only [go_sem]
  clear hs1 hS hK hf0 hd hdb hs0 hK0 hK1 hrd
  obtain ⟨i, ft⟩ := s
  obtain ⟨hi, hst, hS, hK, hf, hd, hdb⟩ := hV
  dsimp only at hi hst hS hK hf hd hdb ⊢
  obtain ⟨zb, zc, hbr, hN, _, _, hkn⟩ := id hS
  have r0 : A.rd ⟨br, 0, none⟩ = some (.slice zb Z.length zc) := by rw [rd_find hbr]; rfl
  by_cases hlt : (i : Int) < Z.length
  · obtain ⟨z, hzi⟩ := get_some (l := Z) (i := i) (by omega)
    obtain ⟨q, o, rfl, _, hr⟩ := hN.out.get (Go.AX.map_get (f := encN) hzi)
    have rz := hr 0 _ rfl
    simp only [Nat.add_zero] at rz
    have hx1 : A.row q (o + i * 3 + 1) 2 = some [.int .i64 z.p, .slice z.base z.R.length z.cap] := row_of_rd rfl (by decide) fun j c hj => by
      rw [Nat.add_assoc _ 1 j, Nat.add_comm 1 j]
      exact hr (j + 1) c hj
    have ee := i64_succ (i := i) (by omega)
    have hi0 : (0 : Int) ≤ (i : Int) := by omega
    have hadd := add_next hok hzi
    simp (dsimp := false) (maxSteps := 4000000) only [r0, hlt, go_sem]
    refine AWp.gen [.pu, .pu, .pu, .pu, .rd, .pu, .pu, .pu, .rd, .pu, .pu, .pu, .rd, .pu, .pu, .pu, .rd, .ch] [0, 0, 2, 6, 14, 0, 62, 126, 254, 0, 512, 1536, 3584, 0, 15872, 32256, 65024, 131071] 0 (_) mixed (by kernel_rfl) (AH.le_refl _) ?_
    simp (dsimp := false) (maxSteps := 4000000) only [r0, hlt, hi0, rz, hx1, go_sem]
    refine (Add_c hst z.n z.p z.R z.base z.cap (hN.inn z (List.mem_of_getElem? hzi))).mono ?_
    rintro _ B ⟨ft', rfl, hstB, hKB, hfB⟩
    have hX' : addX ((Z.take i).map RF.nf) z.n (z.p, z.R) = (Z.take (i + 1)).map RF.nf := by
      rw [addX, if_pos hadd, List.take_add_one, hzi, List.map_append]; rfl
    rw [hX'] at hstB
    simp (dsimp := false) (maxSteps := 4000000) only [ee, go_sem]
    exact again (i + 1, ft') _ B _ ⟨by dsimp only; omega, hstB, hS.keep hKB hd hdb, hK.ow hKB hf, fun x hx => (hfB x hx).elim (hf x) fun h => hK.fr h, fun x hx hx' => (hfB x hx').elim (hd x hx) fun h => hkn x hx h, fun hx => (hfB _ hx).elim hdb fun h => h.ne_find hbr rfl⟩ (FrLe.of_lks (by simp (dsimp := false) (maxSteps := 4000000) only [go_sem])) (AH.le_refl _) (by dsimp only; omega)
  · obtain rfl : i = Z.length := by omega
    rw [List.take_length] at hst
    simp (dsimp := false) (maxSteps := 4000000) only [r0, hlt, go_sem]
    refine out _ _ _ (by simp) ?_
    simp (dsimp := false) (maxSteps := 4000000) only [go_sem]
    exact ⟨A, AH.le_refl _, b, br, Z, ft, rd, rfl, hZ, hst, hS, hok, hso, hK, hf, hfrH, hd, hdb⟩
end Go.Proofs.YtamlipffhimfmaaGreatDoor.Srv

/- part: slices of our own that grow side by side. -/
namespace Go.Proofs.YtamlipffhimfmaaGreatDoor.Prt
set_option linter.unusedSimpArgs false
set_option linter.unusedVariables false
open Go Go.AX Go.Proofs Ty Go.Proofs.YtamlipffhimfmaaGreatDoor.File Go.Proofs.YtamlipffhimfmaaGreatDoor.Ifs
open Go.Proofs.YtamlipffhimfmaaGreatDoor.Chk (Tb TabIn encT encE En)
set_option maxHeartbeats 4000000
set_option maxRecDepth 10000

def Off (base : Option Addr) (x : Nat) : Prop := ∀ a, base = some a → a.block ≠ x
abbrev OQ := Nat × Option Addr × Nat × List (List Value)
structure Ow (H A : AH) (own : List OQ) (prot : Nat → Prop) : Prop where
  ow : ∀ (k : Nat) (q : OQ), own[k]? = some q → OwnS H A q.1 1 q.2.1 q.2.2.1 q.2.2.2
  df : ∀ (j k : Nat) (q r : OQ), j ≠ k → own[j]? = some q → own[k]? = some r → ∀ a, r.2.1 = some a → Off q.2.1 a.block
  nf : ∀ x, prot x → ¬ Fresh A x
  pr : ∀ x, prot x → ∀ (k : Nat) (q : OQ), own[k]? = some q → Off q.2.1 x
  kp : Keep H A fun _ => False
theorem nfrO {H0 H : AH} {e sz cap : Nat} {base : Option Addr} {R : List (List Value)} (h : OwnS H0 H e sz base cap R) {a : Addr} (ha : base = some a) : ¬ Fresh H a.block := fun hf => by
  rcases h.at_ with ⟨h1, _⟩ | ⟨b, bs, h1, h2, _⟩
  · rw [ha] at h1; cases h1
  · rw [ha] at h1; cases h1; exact hf.ne_find h2 rfl
theorem Ow.keep {H A A' : AH} {own : List OQ} {prot : Nat → Prop} (h : Ow H A own prot) (hK : Keep A A' fun _ => False) : Ow H A' own prot :=
  ⟨fun k q hq => (h.ow k q hq).keep hK fun _ _ h => h, h.df, fun x hx hf => h.nf x hx (hK.fr hf), h.pr, h.kp.trans hK⟩
theorem Ow.more {H A A' : AH} {own : List OQ} {prot new : Nat → Prop} (h : Ow H A own prot) (hK : Keep A A' fun _ => False) (hn : ∀ x, new x → (Fresh A x ∨ ¬ Fresh H x) ∧ ¬ Fresh A' x) : Ow H A' own (fun x => prot x ∨ new x) :=
  have h' := h.keep hK
  ⟨h'.ow, h'.df, fun x hx => hx.elim (h'.nf x) fun hx => (hn x hx).2, fun x hx k q hq => hx.elim (fun hx => h'.pr x hx k q hq) fun hx a ha e => by
    rcases (hn x hx).1 with hf | hf
    · exact nfrO (h.ow k q hq) ha (e ▸ hf)
    · exact hf (e ▸ (h.ow k q hq).fresh a ha), h'.kp⟩
theorem Ow.step {H A A' : AH} {own : List OQ} {prot : Nat → Prop} (h : Ow H A own prot) {k e : Nat} {base b' : Option Addr} {cap c' : Nat} {R R' : List (List Value)} (hk : own[k]? = some (e, base, cap, R)) (hO' : OwnS H A' e 1 b' c' R') (hK : Keep A A' (exB base)) (hKH : Keep H A' fun _ => False)
    (hN : ∀ y, ¬ Fresh A y → Off base y → Off b' y) : Ow H A' (own.set k (e, b', c', R')) prot ∧ ∀ y, prot y → ¬ exB base y := by
  have hlt := Go.AX.lt_of_get hk
  have hex : ∀ y, Off base y → ¬ exB base y := fun y hy ⟨a, ha, e⟩ => hy a ha e.symm
  have old : ∀ {j : Nat} {q : OQ}, j ≠ k → (own.set k (e, b', c', R'))[j]? = some q → own[j]? = some q := fun {j q} hj h => by
    rwa [List.getElem?_set_ne (Ne.symm hj)] at h
  have new : ∀ {q : OQ}, (own.set k (e, b', c', R'))[k]? = some q → q = (e, b', c', R') := fun {q} h => by
    rw [List.getElem?_set_self hlt] at h; exact (Option.some.inj h).symm
  refine ⟨⟨fun j q hq => ?_, fun j l q r hjl hq hr a ha => ?_, fun y hy hf => h.nf y hy (hK.fresh hf (hex y (h.pr y hy k _ hk))), fun y hy j q hq => ?_, hKH⟩, fun y hy => hex y (h.pr y hy k _ hk)⟩
  · by_cases hj : j = k
    · subst hj; rw [new hq]; exact hO'
    · have ho := old hj hq
      exact (h.ow j q ho).keep hK fun a ha => hex _ (h.df k j _ q (Ne.symm hj) hk ho a ha)
  · by_cases hj : j = k
    · subst hj
      have hl : l ≠ j := Ne.symm hjl
      have ho := old hl hr
      rw [new hq]
      exact hN _ (nfrO (h.ow l r ho) ha) (h.df j l _ r hjl hk ho a ha)
    · have hqo := old hj hq
      by_cases hl : l = k
      · subst hl
        have e1 := new hr
        subst e1
        intro a2 ha2 e2
        exact hN _ (nfrO (h.ow j q hqo) ha2) (h.df l j _ q (Ne.symm hj) hk hqo a2 ha2) a ha e2.symm
      · exact h.df j l q r hjl hqo (old hl hr) a ha
  · by_cases hj : j = k
    · subst hj; rw [new hq]; exact hN y (h.nf y hy) (h.pr y hy j _ hk)
    · exact h.pr y hy j q (old hj hq)
theorem Ow.push {H A : AH} {own : List OQ} {prot : Nat → Prop} (h : Ow H A own prot) {k e t bt cap n : Nat} {base : Option Addr} {R : List (List Value)} {zs : List Value} {x : Value} (hk : own[k]? = some (e, base, cap, R)) (hx : scal x = true) (hE : slE Tryz.prog t = some (e, 1, zs, bt)) (hz : zs.length = 1) (hbt : bt ≠ 0) (hni : nInt (Tryz.prog.underlying t) = true)
    (hn : n = R.length) (hroom : (2 * (n + 1) + 192) * bt ≤ 281474976710656) {bx : Nat} (hbx : Fresh A bx) {K : Value → AH → Prop} (hc : ∀ b' c' A', Ow H A' (own.set k (e, b', c', R ++ [[x]])) prot → Keep A A' (exB base) → (∀ y, prot y → ¬ exB base y) → K (.slice b' (n + 1) c') A') :
    APD Tryz.prog (some t) (some t) [.slice base n cap, .slice (some ⟨bx, 0, none⟩) 1 1] (A.add bx (.cells [x] e 1)) K := by
  have hO := h.ow k _ hk
  have hadd : Keep A (A.add bx (.cells [x] e 1)) fun _ => False := Keep.add hbx
  refine APD.growW (x := .slice (some ⟨bx, 0, none⟩) 1 1) (R' := [[x]]) (m := 1) (hO.added hbx) (h.kp.nw hbx).all hE hz hbt hni hn rfl rfl (by rw [srow_some, row_add_self]; rfl) (by simp) (by simp [hx]) hroom fun base2 cap2 A' hO' hK' hN' => ?_
  have hKA : Keep A A' (exB base) := hadd.mono (fun _ h => h.elim) |>.trans hK'
  have hKH := (h.kp.nw (k := .cells [x] e 1) hbx).ow hK' fun b ⟨a, ha, e⟩ => e ▸ hO.fresh a ha
  obtain ⟨g1, g2⟩ := h.step hk hO' hKA hKH fun y hy hb a ha e => by
    rcases hN' a ha with ⟨a', h1, h2⟩ | hf
    · exact hb a' h1 (h2 ▸ e)
    · exact hy (e ▸ hadd.fr hf)
  exact ⟨A', AH.le_refl _, hc base2 cap2 A' g1 hKA g2⟩
theorem Ow.nil (H : AH) : Ow H H [] (fun _ => False) := ⟨fun k q h => by simp at h, fun j k q r _ h => by simp at h, fun _ h => h.elim, fun _ h => h.elim, Keep.refl⟩
theorem Ow.snoc {H A : AH} {own : List OQ} {prot : Nat → Prop} (h : Ow H A own prot) {x : Nat} (hx : Fresh A x) (e : Nat) : Ow H (A.add x (.cells [] e 0)) (own ++ [(e, some ⟨x, 0, none⟩, 0, [])]) prot := by
  have sp : ∀ {k : Nat} {q : OQ}, (own ++ [(e, some ⟨x, 0, none⟩, 0, [])])[k]? = some q → (k < own.length ∧ own[k]? = some q) ∨ (k = own.length ∧ q = (e, some ⟨x, 0, none⟩, 0, [])) := fun {k q} h => by
    by_cases hk : k < own.length
    · rw [List.getElem?_append_left hk] at h; exact .inl ⟨hk, h⟩
    · have := Go.AX.lt_of_get h
      simp only [List.length_append, List.length_singleton] at this
      obtain rfl : k = own.length := by omega
      rw [List.getElem?_append_right (Nat.le_refl _), Nat.sub_self] at h
      exact .inr ⟨rfl, (Option.some.inj h).symm⟩
  have hk0 : Keep A (A.add x (.cells [] e 0)) fun _ => False := Keep.add hx
  refine ⟨fun k q hq => ?_, fun j k q r hjk hq hr a ha a2 ha2 e2 => ?_, fun y hy hf => h.nf y hy (hk0.fr hf), fun y hy k q hq a ha e2 => ?_, h.kp.nw hx⟩
  · rcases sp hq with ⟨_, hq⟩ | ⟨_, rfl⟩
    · exact (h.ow k q hq).added hx
    · exact OwnS.new hx h.kp.all rfl rfl rfl (by simp) (by simp)
  · rcases sp hq with ⟨_, hq⟩ | ⟨h1, rfl⟩ <;> rcases sp hr with ⟨_, hr⟩ | ⟨h2, rfl⟩
    · exact h.df j k q r hjk hq hr a ha a2 ha2 e2
    · cases ha
      exact nfrO (h.ow j q hq) ha2 (by rw [e2]; exact hx)
    · cases ha2
      exact nfrO (h.ow k r hr) ha (by rw [← e2]; exact hx)
    · omega
  · rcases sp hq with ⟨_, hq⟩ | ⟨_, rfl⟩
    · exact h.pr y hy k q hq a ha e2
    · cases ha
      exact h.nf y hy (by rw [← e2]; exact hx)
def P2 (A : AH) (prot : Nat → Prop) (S : List SR) (R : List RR) : Prop := (∀ s ∈ S, s.In A ∧ ∀ x, s.ft x → prot x) ∧ ∀ r ∈ R, r.In A ∧ ∀ x, (x = r.b ∨ r.rd x) → prot x
theorem P2.keep {A A' : AH} {prot ex : Nat → Prop} {S : List SR} {R : List RR} (h : P2 A prot S R) (hK : Keep A A' ex) (hp : ∀ y, prot y → ¬ ex y) : P2 A' prot S R :=
  ⟨fun s hs => ⟨⟨(h.1 s hs).1.1.keep hK fun x hx => hp x ((h.1 s hs).2 x hx), (h.1 s hs).1.2⟩, (h.1 s hs).2⟩,
   fun r hr => ⟨⟨(h.2 r hr).1.1.keep hK (fun x hx => hp x ((h.2 r hr).2 x (.inr hx))) (hp _ ((h.2 r hr).2 _ (.inl rfl))), (h.2 r hr).1.2⟩, (h.2 r hr).2⟩⟩
theorem P2.more {A : AH} {prot new : Nat → Prop} {S : List SR} {R : List RR} {s : SR} {r : RR} (h : P2 A prot S R) (hs : s.In A ∧ ∀ x, s.ft x → new x) (hr : r.In A ∧ ∀ x, (x = r.b ∨ r.rd x) → new x) : P2 A (fun x => prot x ∨ new x) (S ++ [s]) (R ++ [r]) :=
  ⟨fun q hq => by
    rcases List.mem_append.1 hq with hq | hq
    · exact ⟨(h.1 q hq).1, fun x hx => .inl ((h.1 q hq).2 x hx)⟩
    · obtain rfl := List.mem_singleton.1 hq
      exact ⟨hs.1, fun x hx => .inr (hs.2 x hx)⟩,
   fun q hq => by
    rcases List.mem_append.1 hq with hq | hq
    · exact ⟨(h.2 q hq).1, fun x hx => .inl ((h.2 q hq).2 x hx)⟩
    · obtain rfl := List.mem_singleton.1 hq
      exact ⟨hr.1, fun x hx => .inr (hr.2 x hx)⟩⟩

theorem few_c (P : List Sp) (base : Option Addr) (cap : Nat) (H : AH) (hP : SlcIn H 2 base cap (P.map encP)) :
    ACalls Tryz.prog 27 #[.slice base P.length cap] H (fun v H' => v = .slice base (P.take 30).length cap ∧ H = H') := by
  have hbig := hP.big
  have hle := hP.le
  simp only [List.length_map] at hbig hle
  refine ACalls.enter2 Tryz.func27 rfl Tryz.ntmps27 Tryz.results27 (by simp) ?_; simp (dsimp := false) (maxSteps := 4000000) only [go_sem]
  by_cases h : (30 : Int) < P.length
  · have h1 : (30 : Int) ≤ cap := by omega
    have h3 : (P.take 30).length = 30 := by rw [List.length_take]; omega
    obtain ⟨p, hp⟩ := get_some (l := P) (i := 0) (by omega)
    obtain ⟨q, o, rfl, _, _⟩ := hP.get (Go.AX.map_get (f := encP) hp)
    simp (dsimp := false) (maxSteps := 4000000) only [h, h1, ite_self, Nat.sub_zero, go_sem]
    exact ⟨H, (AH.le_refl _), (by first | exact ⟨by rw [h3], rfl⟩ | rfl)⟩
  · have h3 : (P.take 30).length = P.length := by rw [List.length_take]; omega
    simp (dsimp := false) (maxSteps := 4000000) only [h, go_sem]
    exact ⟨H, (AH.le_refl _), (by first | exact ⟨by rw [h3], rfl⟩ | rfl)⟩
theorem sp_in {H : AH} {P : List Sp} {base : Option Addr} {cap : Nat} (hP : SlcIn H 2 base cap (P.map encP)) : SlcIn H 2 base cap ((P.take 30).map encP) := by
  rw [List.map_take]; exact hP.take
end Go.Proofs.YtamlipffhimfmaaGreatDoor.Prt

/- part: build. -/
namespace Go.Proofs.YtamlipffhimfmaaGreatDoor.Prt
set_option linter.unusedSimpArgs false
set_option linter.unusedVariables false
open Go Go.AX Go.Proofs Ty Go.Proofs.YtamlipffhimfmaaGreatDoor.File Go.Proofs.YtamlipffhimfmaaGreatDoor.Ifs
open Go.Proofs.YtamlipffhimfmaaGreatDoor.Srv (RefStore_c refX add_next)
open Go.Proofs.YtamlipffhimfmaaGreatDoor.Chk (Tb TabIn encT encE En)
set_option maxHeartbeats 4000000
set_option maxRecDepth 10000

structure Ce where
  fb : Option Addr
  fc : Nat
  L : List RF
  tb : Option Addr
  tc : Nat
  E : List En
  live : Bool
  st : Value
def encC (c : Ce) : List Value := [.slice c.fb c.L.length c.fc, .slice c.tb c.E.length c.tc, .bool c.live, c.st]
structure CeIn (H : AH) (c : Ce) : Prop where
  f : SlcIn H 3 c.fb c.fc (c.L.map encN)
  r : ∀ z ∈ c.L, SlcIn H 4 z.base z.cap (z.R.map enc) ∧ ∀ r ∈ z.R, RcOk r
  t : SlcIn H 5 c.tb c.tc (c.E.map encE)
def tabC (c : Ce) : Tb := (c.tb, c.tc, c.E.take 70)
structure Bd where
  b1 : Option Addr
  c1 : Nat
  S : List SR
  b2 : Option Addr
  c2 : Nat
  R : List RR
  b3 : Option Addr
  c3 : Nat
  T : List Tb
  b4 : Option Addr
  c4 : Nat
  B : List Bool
def Bd.own (w : Bd) : List OQ := [(37, w.b1, w.c1, w.S.map encS), (38, w.b2, w.c2, w.R.map encR), (77, w.b3, w.c3, w.T.map encT), (4, w.b4, w.c4, w.B.map encB1)]
structure Bof (C : List Ce) (n : Nat) (w : Bd) : Prop where
  s : w.S.length = n
  r : w.R.length = n
  t : w.T = (C.take n).map tabC
  b : w.B = (C.take n).map (·.live)
  x : ∀ (i : Nat) s r, w.S[i]? = some s → w.R[i]? = some r → s.X = r.Z.map RF.nf ∧ s.den = 0 ∧ r.den = 0 ∧ Srt s.X
theorem Bof.add {C : List Ce} {n : Nat} {w : Bd} (h : Bof C n w) {c : Ce} (hc : C[n]? = some c) {b br : Nat} {Z : List RF} {ft rd : Nat → Prop} (hZ : Srt (Z.map RF.nf)) (b1 b2 b3 b4 : Option Addr) (c1 c2 c3 c4 : Nat) :
    Bof C (n + 1) ⟨b1, c1, w.S ++ [⟨b, Z.map RF.nf, 0, ft⟩], b2, c2, w.R ++ [⟨br, Z, 0, rd⟩], b3, c3, w.T ++ [tabC c], b4, c4, w.B ++ [c.live]⟩ := by
  refine ⟨by simp [h.s], by simp [h.r], by simp [List.take_add_one, hc, h.t], by simp [List.take_add_one, hc, h.b], fun i s r h1 h2 => ?_⟩
  dsimp only at h1 h2
  by_cases hi : i < n
  · rw [List.getElem?_append_left (by rw [h.s]; exact hi)] at h1
    rw [List.getElem?_append_left (by rw [h.r]; exact hi)] at h2
    exact h.x i s r h1 h2
  · have := Go.AX.lt_of_get h1
    simp only [List.length_append, h.s, List.length_singleton] at this
    obtain rfl : i = n := by omega
    rw [List.getElem?_append_right (by rw [h.s]; exact Nat.le_refl _), h.s, Nat.sub_self] at h1
    rw [List.getElem?_append_right (by rw [h.r]; exact Nat.le_refl _), h.r, Nat.sub_self] at h2
    cases h1; cases h2
    exact ⟨rfl, rfl, rfl, hZ⟩
theorem build_c (C : List Ce) (base : Option Addr) (cap : Nat) (H : AH) (hs : SlcIn H 4 base cap (C.map encC)) (hin : ∀ c ∈ C, CeIn H c) :
    ACalls Tryz.prog 22 #[.slice base C.length cap] H (fun v H' => ∃ w : Bd, v = .tuple #[.slice w.b1 w.S.length w.c1, .slice w.b2 w.R.length w.c2, .slice w.b3 w.T.length w.c3, .slice w.b4 w.B.length w.c4] ∧ ∃ prot, Ow H H' w.own prot ∧ P2 H' prot w.S w.R ∧ Bof C (min C.length 8) w) := by
  have hbig := hs.big
  simp only [List.length_map] at hbig
  refine ACalls.enter2 Tryz.func22 rfl Tryz.ntmps22 Tryz.results22 (by simp) ?_; simp (dsimp := false) (maxSteps := 4000000) only [go_sem]
  refine AllB.mk fun x1 h_x1 => ?_; have hn_x1 := h_x1; (try simp only [fresh_add, fresh_set, ne_eq] at hn_x1); have hr_x1 := hn_x1; (try simp only [@eq_comm Nat x1] at hr_x1); simp (dsimp := false) (maxSteps := 4000000) only [hn_x1, hr_x1, go_sem]
  refine AllB.mk fun x2 h_x2 => ?_; have hn_x2 := h_x2; (try simp only [fresh_add, fresh_set, ne_eq] at hn_x2); have hr_x2 := hn_x2; (try simp only [@eq_comm Nat x2] at hr_x2); simp (dsimp := false) (maxSteps := 4000000) only [hn_x1, hr_x1, hn_x2, hr_x2, go_sem]
  refine AllB.mk fun x3 h_x3 => ?_; have hn_x3 := h_x3; (try simp only [fresh_add, fresh_set, ne_eq] at hn_x3); have hr_x3 := hn_x3; (try simp only [@eq_comm Nat x3] at hr_x3); simp (dsimp := false) (maxSteps := 4000000) only [hn_x1, hr_x1, hn_x2, hr_x2, hn_x3, hr_x3, go_sem]
  refine AllB.mk fun x4 h_x4 => ?_; have hn_x4 := h_x4; (try simp only [fresh_add, fresh_set, ne_eq] at hn_x4); have hr_x4 := hn_x4; (try simp only [@eq_comm Nat x4] at hr_x4); simp (dsimp := false) (maxSteps := 4000000) only [hn_x1, hr_x1, hn_x2, hr_x2, hn_x3, hr_x3, hn_x4, hr_x4, go_sem]
  have hO0 : Ow H ((((H.add x1 (.cells [] 37 0)).add x2 (.cells [] 38 0)).add x3 (.cells [] 77 0)).add x4 (.cells [] 4 0)) (Bd.own ⟨some ⟨x1, 0, none⟩, 0, [], some ⟨x2, 0, none⟩, 0, [], some ⟨x3, 0, none⟩, 0, [], some ⟨x4, 0, none⟩, 0, []⟩) (fun _ => False) :=
    ((((Ow.nil H).snoc h_x1 _).snoc h_x2 _).snoc h_x3 _).snoc h_x4 _
  refine AWp.loopr (ι := Nat × Bd) (fun s A => s.1 ≤ C.length ∧ s.1 ≤ 8 ∧ ∃ prot, Ow H A s.2.own prot ∧ P2 A prot s.2.S s.2.R ∧ Bof C s.1 s.2)
    (fun s => [(10, .int .i64 s.1), (6, .slice s.2.b1 s.2.S.length s.2.c1), (7, .slice s.2.b2 s.2.R.length s.2.c2), (8, .slice s.2.b3 s.2.T.length s.2.c3), (9, .slice s.2.b4 s.2.B.length s.2.c4), (0, .slice base C.length cap)]) (fun s => 8 - s.1) (0, _) _
    ⟨by simp, by simp, _, hO0, ⟨by simp, by simp⟩, ⟨rfl, rfl, rfl, rfl, by simp⟩⟩ (FrLe.of_lks ?_) (AH.le_refl _) fun s A0 hV Q again out => ?_
  · simp (dsimp := false) (maxSteps := 4000000) only [hn_x1, hr_x1, hn_x2, hr_x2, hn_x3, hr_x3, hn_x4, hr_x4, go_sem]
  clear hO0 h_x1 h_x2 h_x3 h_x4 hn_x1 hn_x2 hn_x3 hn_x4 hr_x1 hr_x2 hr_x3 hr_x4
  
  obtain ⟨i, w⟩ := s
  obtain ⟨hi, hi8, prot, hO, hP, hB⟩ := hV
  dsimp only at hi hi8 hO hP hB again ⊢
  by_cases hlt : (i : Int) < C.length ∧ (i : Int) < 8
  case neg =>
    have hm : i = min C.length 8 := by omega
    by_cases h1 : (i : Int) < C.length
    · have h2 : ¬ (i : Int) < 8 := fun h => hlt ⟨h1, h⟩
      simp (dsimp := false) (maxSteps := 4000000) only [h1, h2, go_sem]
      refine out _ _ _ (by simp) ?_
      simp (dsimp := false) (maxSteps := 4000000) only [go_sem]
      exact ⟨A0, AH.le_refl _, w, rfl, prot, hO, hP, hm ▸ hB⟩
    · simp (dsimp := false) (maxSteps := 4000000) only [h1, go_sem]
      refine out _ _ _ (by simp) ?_
      simp (dsimp := false) (maxSteps := 4000000) only [go_sem]
      exact ⟨A0, AH.le_refl _, w, rfl, prot, hO, hP, hm ▸ hB⟩
  obtain ⟨c, hc⟩ := get_some (l := C) (i := i) (by omega)
  have hcin := hin c (List.mem_of_getElem? hc)
  obtain ⟨q, o, rfl, _, hr⟩ := hs.get (Go.AX.map_get (f := encC) hc)
  have r0 := hr 0 _ rfl
  have r1 := hr 1 _ rfl
  have r2 := hr 2 _ rfl
  simp only [Nat.add_zero] at r0 r1 r2
  have ee := i64_succ (i := i) (by omega)
  have hi0 : (0 : Int) ≤ (i : Int) := by omega
  have hle : H.le A0 := hO.kp.all
  simp (dsimp := false) (maxSteps := 4000000) only [hlt.1, hlt.2, go_sem]
  refine AWp.gen [.ch, .pu, .pu, .pu, .pu, .rd, .ch, .pu, .pu] [0, 0, 0, 6, 14, 30, 63, 127, 255] 1 (H) mixed (by kernel_rfl) (hle) ?_
  simp (dsimp := false) (maxSteps := 4000000) only [hlt.1, hi0, hle, go_sem]
  refine (New_c A0).mono ?_
  rintro _ A1 ⟨b, ft0, rfl, hs0, hK0, hf0⟩
  have hle1 : H.le A1 := (hO.kp.trans hK0).all
  simp (dsimp := false) (maxSteps := 4000000) only [hlt.1, hi0, hle1, r0, go_sem]
  have hHA1 := hO.kp.trans hK0
  refine (RefStore_c c.L c.fb c.fc _ (hcin.f.keep hHA1 fun _ _ h => h) fun z h => ⟨(hcin.r z h).1.keep hHA1 fun _ _ h => h, (hcin.r z h).2⟩).mono ?_
  rintro _ A2 ⟨br, Z, rd, rfl, hZ, hS, hok, hso, hfr, hK1, hrd⟩
  have hle2 : H.le A2 := (hHA1.trans hK1).all
  simp (dsimp := false) (maxSteps := 4000000) only [hle2, go_sem]
  have hst0 := hs0.keep hK1 fun _ _ h => h
  have hK01 := hK0.trans hK1
  have hZl : Z.length ≤ 64 := by have := hok.len; simpa using this
  have hd : ∀ x, rd x → ¬ ft0 x := fun x hx hf => by
    rcases hrd x hx with h | ⟨z, hz1, hR, a, ha, e⟩
    · exact hs0.fresh h hf
    · have := hf0 x hf
      exact ((hcin.r z hz1).1.apart (hO.kp.fr this)).elim (fun h => hR (List.map_eq_nil_iff.1 h)) fun h => h a ha e.symm
  have hdb : ¬ ft0 br := hs0.fresh hfr
  have hfr0 : Fresh A0 br := hK0.fr hfr
  have hrd0 : ∀ x, rd x → Fresh A0 x ∨ ¬ Fresh H x := fun x hx => by
    rcases hrd x hx with h | ⟨z, hz1, hR, a, ha, e⟩
    · exact .inl (hK0.fr h)
    · refine .inr fun hf => ?_
      exact ((hcin.r z hz1).1.apart hf).elim (fun h => hR (List.map_eq_nil_iff.1 h)) fun h => h a ha e.symm
  refine AWp.loopr (ι := Nat × (Nat → Prop)) (fun s A => s.1 ≤ Z.length ∧ StAt A b ((Z.take s.1).map RF.nf) 0 s.2 ∧ RefS A br Z 0 rd ∧ (Keep A0 A fun _ => False) ∧ (∀ x, s.2 x → Fresh A0 x) ∧ (∀ x, rd x → ¬ s.2 x) ∧ ¬ s.2 br)
    (fun s => [(13, .int .i64 s.1), (11, .pointer (some ⟨b, 0, none⟩)), (12, .pointer (some ⟨br, 0, none⟩)), (10, .int .i64 i), (6, .slice w.b1 w.S.length w.c1), (7, .slice w.b2 w.R.length w.c2), (8, .slice w.b3 w.T.length w.c3), (9, .slice w.b4 w.B.length w.c4), (0, .slice (some ⟨q, o, none⟩) C.length cap)]) (fun s => Z.length - s.1) (0, ft0) A2
    ⟨by simp, hst0, hS, hK01, hf0, hd, hdb⟩ (FrLe.of_lks ?_) (AH.le_refl _) fun s A hV Q2 again2 out2 => ?_
  · simp (dsimp := false) (maxSteps := 4000000) only [go_sem]
  clear hst0 hS hK01 hf0 hd hdb hs0 hK0 hK1 hrd hfr hle1 hle2 hHA1
  obtain ⟨j, ft⟩ := s
  obtain ⟨hj, hst, hS, hK, hf, hd, hdb⟩ := hV
  dsimp only at hj hst hS hK hf hd hdb again2 ⊢
  obtain ⟨zb, zc, hbr, hN, _, _, hkn⟩ := id hS
  have s0 : A.rd ⟨br, 0, none⟩ = some (.slice zb Z.length zc) := by rw [rd_find hbr]; rfl
  by_cases hlj : (j : Int) < Z.length
  · obtain ⟨z, hzi⟩ := get_some (l := Z) (i := j) (by omega)
    obtain ⟨q2, o2, rfl, _, hr2⟩ := hN.out.get (Go.AX.map_get (f := encN) hzi)
    have rz := hr2 0 _ rfl
    simp only [Nat.add_zero] at rz
    have hx1 : A.row q2 (o2 + j * 3 + 1) 2 = some [.int .i64 z.p, .slice z.base z.R.length z.cap] := row_of_rd rfl (by decide) fun k c hk => by
      rw [Nat.add_assoc _ 1 k, Nat.add_comm 1 k]
      exact hr2 (k + 1) c hk
    have ej := i64_succ (i := j) (by omega)
    have hj0 : (0 : Int) ≤ (j : Int) := by omega
    have hadd := add_next hok hzi
    simp (dsimp := false) (maxSteps := 4000000) only [s0, hlj, go_sem]
    refine AWp.gen [.pu, .pu, .pu, .pu, .rd, .pu, .pu, .pu, .rd, .pu, .pu, .pu, .rd, .pu, .pu, .pu, .rd, .ch] [0, 0, 2, 6, 14, 0, 62, 126, 254, 0, 512, 1536, 3584, 0, 15872, 32256, 65024, 131071] 0 (_) mixed (by kernel_rfl) (AH.le_refl _) ?_
    simp (dsimp := false) (maxSteps := 4000000) only [s0, hlj, hj0, rz, hx1, go_sem]
    refine (Add_c hst z.n z.p z.R z.base z.cap (hN.inn z (List.mem_of_getElem? hzi))).mono ?_
    rintro _ B ⟨ft', rfl, hstB, hKB, hfB⟩
    have hX' : addX ((Z.take j).map RF.nf) z.n (z.p, z.R) = (Z.take (j + 1)).map RF.nf := by
      rw [addX, if_pos hadd, List.take_add_one, hzi, List.map_append]; rfl
    rw [hX'] at hstB
    simp (dsimp := false) (maxSteps := 4000000) only [ej, go_sem]
    exact again2 (j + 1, ft') _ B _ ⟨by dsimp only; omega, hstB, hS.keep hKB hd hdb, hK.ow hKB hf, fun x hx => (hfB x hx).elim (hf x) fun h => hK.fr h, fun x hx hx' => (hfB x hx').elim (hd x hx) fun h => hkn x hx h, fun hx => (hfB _ hx).elim hdb fun h => h.ne_find hbr rfl⟩ (FrLe.of_lks (by simp (dsimp := false) (maxSteps := 4000000) only [go_sem])) (AH.le_refl _) (by dsimp only; omega)
  obtain rfl : j = Z.length := by omega
  rw [List.take_length] at hst
  simp (dsimp := false) (maxSteps := 4000000) only [s0, hlj, go_sem]
  refine out2 _ _ _ (by simp) ?_
  clear again2 out2
  
  have hOA := hO.more (new := fun x => ft x ∨ x = br ∨ rd x) hK fun x hx => by
    rcases hx with hx | rfl | hx
    · exact ⟨.inl (hf x hx), fun h => hst.fresh h hx⟩
    · exact ⟨.inl hfr0, fun h => h.ne_find hbr rfl⟩
    · exact ⟨hrd0 x hx, hkn x hx⟩
  have hPA := (hP.keep hK fun _ _ h => h).more (new := fun x => ft x ∨ x = br ∨ rd x) (s := ⟨b, Z.map RF.nf, 0, ft⟩) (r := ⟨br, Z, 0, rd⟩) ⟨⟨hst, hok⟩, fun x hx => .inl hx⟩ ⟨⟨hS, hok⟩, fun x hx => .inr hx⟩
  have hBA := fun b1 b2 b3 b4 c1 c2 c3 c4 => hB.add hc (b := b) (br := br) (ft := ft) (rd := rd) hso b1 b2 b3 b4 c1 c2 c3 c4
  have hKHA := hOA.kp
  have hw1 := hB.s
  have hw2 := hB.r
  have hw3 : w.T.length = i := by rw [hB.t, List.length_map, List.length_take]; omega
  have hw4 : w.B.length = i := by rw [hB.b, List.length_map, List.length_take]; omega
  have hle := hKHA.all
  obtain ⟨_, _, e, _, ha⟩ := (hs.keep hKHA fun _ _ h => h).get (Go.AX.map_get (f := encC) hc); cases e
  have ha1 := ha 1 _ rfl
  generalize (fun x => prot x ∨ (fun x => ft x ∨ x = br ∨ rd x) x) = prot2 at hOA hPA
  clear hO hP hB hst hS hN hkn hd hdb hf hfr0 hrd0 hbr s0 hK ha
  simp (dsimp := false) (maxSteps := 4000000) only [hlt.1, hi0, ha1, go_sem]
  by_cases h70 : (70 : Int) < c.E.length
  case' pos =>
    obtain ⟨r, hr5⟩ := get_some (l := c.E) (i := 0) (by omega)
    obtain ⟨qt, ot, et, _, _⟩ := hcin.t.get (Go.AX.map_get (f := encE) hr5)
    have hle5 := hcin.t.le
    simp only [List.length_map] at hle5
    have h1 : (70 : Int) ≤ c.tc := by omega
    have h3 : [Value.slice (some ⟨qt, ot, none⟩) 70 c.tc] = encT (tabC c) := by
      have : (c.E.take 70).length = 70 := by rw [List.length_take]; omega
      simp [encT, tabC, this, et]
    simp (dsimp := false) (maxSteps := 4000000) only [h70, h1, et, ite_self, Nat.sub_zero, go_sem]
  case' neg =>
    have h3 : [Value.slice c.tb c.E.length c.tc] = encT (tabC c) := by
      have : (c.E.take 70).length = c.E.length := by rw [List.length_take]; omega
      simp [encT, tabC, this]
    simp (dsimp := false) (maxSteps := 4000000) only [h70, go_sem]
  all_goals
    refine AWp.gen [.pu, .pu, .al, .ch, .pu, .pu, .al, .ch, .pu, .pu, .al, .ch, .pu, .pu, .pu, .pu, .pu, .rd, .al, .ch, .pu, .pu, .pu, .pu] [0, 0, 2, 7, 0, 0, 32, 127, 0, 0, 512, 2047, 0, 0, 0, 24576, 57344, 122880, 253952, 524287, 1048575, 2097151, 4194303, 8388607] 12 (H) mixed (by kernel_rfl) (hle) ?_
    simp (dsimp := false) (maxSteps := 4000000) only [hle, hi0, hlt.1, r2, go_sem]
    refine AllB.mk fun y1 hy1 => ?_
    have hl1 : H.le (A.add y1 (.cells [.pointer (some ⟨b, 0, none⟩)] 37 1)) := (hKHA.nw hy1).all
    simp (dsimp := false) (maxSteps := 4000000) only [hl1, go_sem]
    refine hOA.push (k := 0) rfl rfl se_58 rfl (by decide) (by rw [Tryz.underlying58]; rfl) (by simp) (by omega) hy1 fun d1 e1 B1 hO1 hk1 hp1 => ?_
    have hl2 : H.le B1 := hO1.kp.all
    simp (dsimp := false) (maxSteps := 4000000) only [hl2, go_sem]
    refine AllB.mk fun y2 hy2 => ?_
    have hl3 : H.le (B1.add y2 (.cells [.pointer (some ⟨br, 0, none⟩)] 38 1)) := (hO1.kp.nw hy2).all
    simp (dsimp := false) (maxSteps := 4000000) only [hl3, go_sem]
    refine hO1.push (k := 1) rfl rfl se_59 rfl (by decide) (by rw [Tryz.underlying59]; rfl) (by simp) (by omega) hy2 fun d2 e2 B2 hO2 hk2 hp2 => ?_
    have hl4 : H.le B2 := hO2.kp.all
    simp (dsimp := false) (maxSteps := 4000000) only [hl4, go_sem]
    refine AllB.mk fun y3 hy3 => ?_
    have hl5 := fun cs e n => (hO2.kp.nw (k := .cells cs e n) hy3).all
    simp (dsimp := false) (maxSteps := 4000000) only [hl5, go_sem]
    refine hO2.push (k := 2) rfl rfl se_60 rfl (by decide) (by rw [Tryz.underlying60]; rfl) (by simp) (by omega) hy3 fun d3 e3 B3 hO3 hk3 hp3 => ?_
    rw [h3] at hO3
    have hl6 : H.le B3 := hO3.kp.all
    simp (dsimp := false) (maxSteps := 4000000) only [hl6, hi0, hlt.1, r2, go_sem]
    refine AllB.mk fun y4 hy4 => ?_
    have hl7 := fun cs e n => (hO3.kp.nw (k := .cells cs e n) hy4).all
    simp (dsimp := false) (maxSteps := 4000000) only [hl7, go_sem]
    refine hO3.push (k := 3) rfl rfl se_61 rfl (by decide) (by rw [Tryz.underlying61]; rfl) (by simp) (by omega) hy4 fun d4 e4 B4 hO4 hk4 hp4 => ?_
    have hl8 : H.le B4 := hO4.kp.all
    simp (dsimp := false) (maxSteps := 4000000) only [hl8, ee, go_sem]
    have hP4 := (((hPA.keep hk1 hp1).keep hk2 hp2).keep hk3 hp3).keep hk4 hp4
    refine again (i + 1, ⟨d1, e1, _, d2, e2, _, d3, e3, _, d4, e4, _⟩) _ B4 _ ⟨by dsimp only; omega, by dsimp only; omega, prot2, ?_, hP4, hBA d1 d2 d3 d4 e1 e2 e3 e4⟩ (FrLe.of_lks (by simp (dsimp := false) (maxSteps := 4000000) only [List.length_append, List.length_singleton, go_sem])) (AH.le_refl _) (by dsimp only; omega)
    simp only [Bd.own, List.map_append, List.map_cons, List.map_nil]
    exact hO4
end Go.Proofs.YtamlipffhimfmaaGreatDoor.Prt

/- part: the fixed fact. -/
namespace Go.Proofs.YtamlipffhimfmaaGreatDoor.Prt
set_option linter.unusedSimpArgs false
set_option linter.unusedVariables false
open Go Go.AX Go.Proofs Ty Go.Proofs.YtamlipffhimfmaaGreatDoor.File Go.Proofs.YtamlipffhimfmaaGreatDoor.Ifs Go.Proofs.YtamlipffhimfmaaGreatDoor.Err
open Go.Proofs.YtamlipffhimfmaaGreatDoor.Chk (Tb TabIn encT encE En tabs)
set_option maxHeartbeats 4000000
set_option maxRecDepth 10000

theorem IndexNil_c (b1 q : Nat) (H : AH) (hq : H.find q = some (.cells [.pointer (some ⟨b1, 0, none⟩), .pointer none] 37 2)) :
    ACalls Tryz.prog 89 #[.slice (some ⟨q, 0, none⟩) 2 2, .pointer none] H (fun v H' => v = .int .i64 1 ∧ H = H') := by
  have r0 : H.rd ⟨q, 0, none⟩ = some (.pointer (some ⟨b1, 0, none⟩)) := by rw [rd_find hq]; rfl
  have r1 : H.rd ⟨q, 1, none⟩ = some (.pointer none) := by rw [rd_find hq]; rfl
  refine ACalls.enter2 Tryz.func89 rfl Tryz.ntmps89 Tryz.results89 (by simp) ?_; simp (dsimp := false) (maxSteps := 4000000) only [go_sem]
  refine AWp.rounds 2 ?_
  simp (dsimp := false) (maxSteps := 4000000) only [r0, r1, eql_nil_l, go_sem]
  exact ⟨H, (AH.le_refl _), (by first | exact ⟨rfl, rfl⟩ | rfl)⟩
theorem ContainsNil_c (b1 q : Nat) (H : AH) (hq : H.find q = some (.cells [.pointer (some ⟨b1, 0, none⟩), .pointer none] 37 2)) :
    ACalls Tryz.prog 53 #[.slice (some ⟨q, 0, none⟩) 2 2, .pointer none] H (fun v H' => v = .bool true ∧ H = H') := by
  refine ACalls.enter2 Tryz.func53 rfl Tryz.ntmps53 Tryz.results53 (by simp) ?_; simp (dsimp := false) (maxSteps := 4000000) only [go_sem]
  refine (IndexNil_c b1 q _ hq).mono ?_; rintro _ _ ⟨rfl, rfl⟩
  simp (dsimp := false) (maxSteps := 4000000) only [go_sem]
  exact ⟨H, (AH.le_refl _), (by first | exact ⟨rfl, rfl⟩ | rfl)⟩
theorem RoundNil_c (b1 q : Nat) (H : AH) (hq : H.find q = some (.cells [.pointer (some ⟨b1, 0, none⟩), .pointer none] 37 2)) :
    ACalls Tryz.prog 23 #[.slice (some ⟨q, 0, none⟩) 2 2, .slice none 0 0, .slice none 0 0, .slice none 0 0] H (fun v H' => v = .tuple #[.slice none 0 0, .int .i64 1] ∧ H = H') := by
  refine ACalls.enter2 Tryz.func23 rfl Tryz.ntmps23 Tryz.results23 (by simp) ?_; simp (dsimp := false) (maxSteps := 4000000) only [go_sem]
  refine (ContainsNil_c b1 q _ hq).mono ?_; rintro _ _ ⟨rfl, rfl⟩
  simp (dsimp := false) (maxSteps := 4000000) only [go_sem]
  exact ⟨H, (AH.le_refl _), (by first | exact ⟨rfl, rfl⟩ | rfl)⟩
theorem entry_c (k s : Int) (H : AH) : ACalls Tryz.prog 57 #[.int .i64 k, .int .i64 s] H (fun v H' => v = .agg #[.int .i64 k, .int .i64 s, .int .i64 1, .int .i64 1, .int .i64 0] ∧ H = H') := by
  refine ACalls.enter2 Tryz.func57 rfl Tryz.ntmps57 Tryz.results57 (by simp) ?_; simp (dsimp := false) (maxSteps := 4000000) only [go_sem]
  refine AllB.mk fun b4 h_b4 => ?_; have hn_b4 := h_b4; (try simp only [fresh_add, fresh_set, ne_eq] at hn_b4); have hr_b4 := hn_b4; (try simp only [@eq_comm Nat b4] at hr_b4); simp (dsimp := false) (maxSteps := 4000000) only [hn_b4, hr_b4, go_sem]
  exact ⟨H, (AH.le_add (AH.le_refl _) ((by simp only [fresh_add, fresh_set, ne_eq, hn_b4, not_false_eq_true, and_self] : Fresh _ b4).2)), (by first | exact ⟨rfl, rfl⟩ | rfl)⟩
def Fa : Fl := (3, (newR 3 1).set 1 (7, 8, 0, 0))
def Fb : Fl := (3, [hd 3 1, (9, 10, 0, 0)])
def Xa : List Nf := addX [] 1 Fa
def Xb : List Nf := addX [] 1 Fb
theorem okXa : OkX Xa := OkX.nil.add 1 Fa (by unfold RcOk; decide +kernel)
theorem okXb : OkX Xb := OkX.nil.add 1 Fb (by unfold RcOk; decide +kernel)
theorem slcF {H0 H : AH} {b e sz bs n : Nat} {R : List (List Value)} (hf : Fresh H0 b) (h : H.find b = some (.cells R.flatten e bs)) (hn : n = R.length) (hr : ∀ r ∈ R, r.length = sz) (hb : n * sz ≤ bs) (hbig : R.length < 9223372036854775808) : SlcIn H sz (some ⟨b, 0, none⟩) n R :=
  (⟨hr, by omega, hbig, .inr ⟨b, bs, rfl, h, hb, hf⟩⟩ : OwnS H0 H e sz (some ⟨b, 0, none⟩) n R).slc
def La : List En := [(1, 1, 1, 1, 0), (2, 2, 1, 1, 0)]
def Lb : List En := [(2, 1, 1, 1, 0), (1, 2, 1, 1, 0)]
def Tw (a b : Option Addr) : List Tb := [(a, 2, La), (b, 2, Lb)]
theorem rnd_w (a b : Option Addr) : rndE 2 (Tw a b) = 0 := by kernel_rfl
theorem get_w1 (a b : Option Addr) : getW (outP (hdP [Xa, Xb] (Tw a b) [true, true] []) Xa 0 (a, 2, La) true).1 1 1 = some (9, 8, 0, 0) := by kernel_rfl
theorem get_w2 (a b : Option Addr) : getW (outP (hdP [Xa, Xb] (Tw a b) [true, true] []) Xb 0 (b, 2, Lb) true).1 1 1 = some (7, 10, 0, 0) := by kernel_rfl
theorem awake_c (H : AH) (hE : ErrT H.w0) : ACalls Tryz.prog 24 #[] H (fun v H' => v = .bool true ∧ H = H') := by
  refine ACalls.enter2 Tryz.func24 rfl Tryz.ntmps24 Tryz.results24 (by simp) ?_; simp (dsimp := false) (maxSteps := 4000000) only [enc_len, enc_scal, lput_enc, take_enc, go_sem]
  refine (New_c H).mono ?_
  rintro _ A0 ⟨ba, fta, rfl, hsa, hK0, hf0⟩
  simp (dsimp := false) (maxSteps := 4000000) only [enc_len, enc_scal, lput_enc, take_enc, go_sem]
  refine (New_c A0).mono ?_
  rintro _ A1 ⟨bb, ftb, rfl, hsb, hK1, hf1⟩
  simp (dsimp := false) (maxSteps := 4000000) only [enc_len, enc_scal, lput_enc, take_enc, go_sem]
  refine (RefNew_c 3 1 (by unfold okNew; decide) _).mono ?_
  rintro _ A2 ⟨fb, fc, rfl, hO2, hK2⟩
  unfold fv
  simp (dsimp := false) (maxSteps := 4000000) only [enc_len, enc_scal, lput_enc, take_enc, go_sem]
  refine AllB.mk fun b3 h_b3 => ?_; have hn_b3 := h_b3; (try simp only [fresh_add, fresh_set, ne_eq] at hn_b3); have hr_b3 := hn_b3; (try simp only [@eq_comm Nat b3] at hr_b3); simp (dsimp := false) (maxSteps := 4000000) only [enc_len, enc_scal, lput_enc, take_enc, hn_b3, hr_b3, go_sem]
  rcases hO2.at_ with ⟨rfl, h, _⟩ | ⟨q, bs, rfl, hq, hbs, hqf⟩
  · simp [newR] at h
  have n3 : ¬ b3 = q := h_b3.ne_find hq
  obtain ⟨A3, hA3⟩ : ∃ A3, A2.add b3 (.cells [.int .i64 3, .slice (some ⟨q, 0, none⟩) 2 fc] 72 2) = A3 := ⟨_, rfl⟩
  have k23 : Keep A2 A3 fun _ => False := hA3 ▸ Keep.add h_b3
  have hO3 := hO2.keep k23 fun _ _ h => h
  have f3 : A3.find b3 = some (.cells [.int .i64 3, .slice (some ⟨q, 0, none⟩) 2 fc] 72 2) := by rw [← hA3, find_add_self]
  have fq3 : A3.find q = some (.cells ((newR 3 1).map enc).flatten 26 bs) := k23.find (fun h => h) hq
  have hb8 : 8 ≤ bs := by have := hO2.le; simp [newR] at this; omega
  obtain ⟨A4, hA4⟩ : ∃ A4, A3.set q (.cells (Fa.2.map enc).flatten 26 bs) = A4 := ⟨_, rfl⟩
  have hw : A3.wrs q 4 [.int .u8 7, .int .u8 8, .int .u8 0, .int .u8 0] = some A4 := by
    rw [← hA4]
    simp [AH.wrs, fq3, enc, newR, Fa, lput, scal, hb8]
  have k34 : Keep A3 A4 (· = q) := hA4 ▸ Keep.set
  have fq4 : A4.find q = some (.cells (Fa.2.map enc).flatten 26 bs) := by rw [← hA4, find_set, if_pos rfl]
  have hO4 : OwnS A1 A4 26 4 (some ⟨q, 0, none⟩) fc (Fa.2.map enc) := ⟨fun r hr => by
    obtain ⟨w, _, rfl⟩ := List.mem_map.1 hr
    rfl, by have := hO2.le; simpa [newR, Fa] using this, by simp [newR, Fa], .inr ⟨q, bs, rfl, fq4, hbs, hqf⟩⟩
  have f4 := k34.find n3 f3
  have hqf1 : Fresh A1 q := hqf
  have hsa1 := hsa.keep hK1 fun _ _ h => h
  have hsa2 := hsa1.keep hK2 fun _ _ h => h
  have hsb2 := hsb.keep hK2 fun _ _ h => h
  have hsa3 := hsa2.keep k23 fun _ _ h => h
  have hsb3 := hsb2.keep k23 fun _ _ h => h
  have hsa4 := hsa3.keep k34 fun x hx e => hsa1.fresh hqf1 (e ▸ hx)
  have hsb4 := hsb3.keep k34 fun x hx e => hsb.fresh hqf1 (e ▸ hx)
  have kH1 := hK0.trans hK1
  have kH4 : Keep H A4 fun _ => False := ((kH1.trans hK2).trans k23).ow k34 fun x e => e ▸ kH1.fr hqf1
  have ga : ∀ x, fta x → Fresh H x := hf0
  have gb : ∀ x, ftb x → Fresh H x := fun x hx => hK0.fr (hf1 x hx)
  have hfb3 : Fresh A2 b3 := h_b3
  have kH2 := kH1.trans hK2
  have nb3 : ¬ fta b3 := hsa2.fresh h_b3
  have nbb3 : ¬ ftb b3 := hsb2.fresh h_b3
  have nq : ¬ fta q := fun hx => hsa1.fresh hqf1 hx
  have nbq : ¬ ftb q := fun hx => hsb.fresh hqf1 hx
  have hab : ∀ x, ftb x → ¬ fta x := fun x hx => hsa.fresh (hf1 x hx)
  rw [hA3]
  simp (dsimp := false) (maxSteps := 4000000) only [hw, enc_len, enc_scal, lput_enc, take_enc, hn_b3, hr_b3, go_sem]
  clear hA3 hA4 hw fq3 hsa hsb hsa1 hsa2 hsb2 hsa3 hsb3 hK0 hK1 hK2 k23 k34 hO2 hO3 h_b3 hn_b3 hr_b3
  
  have w4 : A4.row b3 0 2 = some [.int .i64 3, .slice (some ⟨q, 0, none⟩) 2 fc] := row_find f4 (by simp)
  simp (dsimp := false) (maxSteps := 4000000) only [w4, enc_len, enc_scal, lput_enc, take_enc, go_sem]
  refine (Add_c hsa4 1 3 Fa.2 (some ⟨q, 0, none⟩) fc hO4.slc).mono ?_
  rintro _ A5 ⟨ft5, rfl, hsa5, hK5, hf5⟩
  rw [show addE [] 1 (3, Fa.2) = 0 by decide +kernel]
  have k5 : Keep H A5 fun _ => False := kH4.ow hK5 ga
  have ga5 : ∀ x, ft5 x → Fresh H x := fun x hx => (hf5 x hx).elim (ga x) fun h => kH4.fr h
  have f5 := hK5.find nb3 f4
  have fq5 := hK5.find nq fq4
  have hsb5 := hsb4.keep hK5 hab
  have d5 : ∀ x, ftb x → ¬ ft5 x := fun x hx h => (hf5 x h).elim (hab x hx) fun h => hsb4.fresh h hx
  have nb5 : ¬ ft5 b3 := fun h => (hf5 _ h).elim nb3 fun h => h.ne_find f4 rfl
  have w5 : A5.row q 0 4 = some (enc (hd 3 1)) := row_find fq5 (by simp [Fa, newR, enc])
  have r5 : A5.rd ⟨b3, 1, none⟩ = some (.slice (some ⟨q, 0, none⟩) 2 fc) := by rw [rd_find f5]; rfl
  simp (dsimp := false) (maxSteps := 4000000) only [w5, r5, enc_len, enc_scal, lput_enc, take_enc, go_sem]
  refine AllB.mk fun b32 h_b32 => ?_; have hn_b32 := h_b32; (try simp only [fresh_add, fresh_set, ne_eq] at hn_b32); have hr_b32 := hn_b32; (try simp only [@eq_comm Nat b32] at hr_b32); simp (dsimp := false) (maxSteps := 4000000) only [enc_len, enc_scal, lput_enc, take_enc, hn_b32, hr_b32, go_sem]
  obtain ⟨A6, hA6⟩ : ∃ A6, A5.add b32 (.cells (enc (hd 3 1) ++ [.int .u8 9, .int .u8 10, .int .u8 0, .int .u8 0]) 26 (enc (hd 3 1) ++ [Value.int .u8 9, .int .u8 10, .int .u8 0, .int .u8 0]).length) = A6 := ⟨_, rfl⟩
  have k56 : Keep A5 A6 fun _ => False := hA6 ▸ Keep.add h_b32
  have fb6 : A6.find b32 = some (.cells (Fb.2.map enc).flatten 26 8) := by rw [← hA6, find_add_self]; rfl
  have f6 := k56.find (fun h => h) f5
  have n32 : ¬ b32 = b3 := h_b32.ne_find f5
  have hb32 : Fresh A5 b32 := h_b32
  obtain ⟨A7, hA7⟩ : ∃ A7, A6.set b3 (.cells [.int .i64 3, .slice (some ⟨b32, 0, none⟩) 2 2] 72 2) = A7 := ⟨_, rfl⟩
  have hw7 : A6.wrs b3 1 [.slice (some ⟨b32, 0, none⟩) 2 2] = some A7 := by
    rw [← hA7]
    simp [AH.wrs, f6, lput, scal]
  have k67 : Keep A6 A7 (· = b3) := hA7 ▸ Keep.set
  have f7 : A7.find b3 = some (.cells [.int .i64 3, .slice (some ⟨b32, 0, none⟩) 2 2] 72 2) := by rw [← hA7, find_set, if_pos rfl]
  have fb7 := k67.find n32 fb6
  have hO7 : OwnS A5 A7 26 4 (some ⟨b32, 0, none⟩) 2 (Fb.2.map enc) := ⟨fun r hr => by
    obtain ⟨w, _, rfl⟩ := List.mem_map.1 hr
    rfl, by simp [Fb], by simp [Fb], .inr ⟨b32, 8, rfl, fb7, by decide, hb32⟩⟩
  have hsa7 := (hsa5.keep k56 fun _ _ h => h).keep k67 fun x hx e => nb5 (e ▸ hx)
  have hsb7 := (hsb5.keep k56 fun _ _ h => h).keep k67 fun x hx e => nbb3 (e ▸ hx)
  have fr3 : Fresh H b3 := kH2.fr hfb3
  have kH7 : Keep H A7 fun _ => False := (k5.trans k56).ow k67 fun x e => e ▸ fr3
  have w7 : A7.row b3 0 2 = some [.int .i64 3, .slice (some ⟨b32, 0, none⟩) 2 2] := row_find f7 (by simp)
  rw [hA6]
  simp (dsimp := false) (maxSteps := 4000000) only [hw7, enc_len, enc_scal, lput_enc, take_enc, hn_b32, hr_b32, go_sem]
  clear hA6 hA7 hw7 h_b32 hn_b32 hr_b32 hsa4 hsb4 hsb5 f4 f5 f6 fb6 fb7 fq4 fq5 hK5 hO4 w4 w5 r5 k56 k67 hsa5
  
  simp (dsimp := false) (maxSteps := 4000000) only [w7, enc_len, enc_scal, lput_enc, take_enc, go_sem]
  refine (Add_c hsb7 1 3 Fb.2 (some ⟨b32, 0, none⟩) 2 hO7.slc).mono ?_
  rintro _ A8 ⟨ft8, rfl, hsb8, hK8, hf8⟩
  rw [show addE [] 1 (3, Fb.2) = 0 by decide +kernel]
  have k8 : Keep H A8 fun _ => False := kH7.ow hK8 gb
  have gb8 : ∀ x, ft8 x → Fresh H x := fun x hx => (hf8 x hx).elim (gb x) fun h => kH7.fr h
  have hsa8 := hsa7.keep hK8 fun x hx h => d5 x h hx
  change StAt A8 bb Xb 0 ft8 at hsb8
  change StAt A8 ba Xa 0 ft5 at hsa8
  clear hsa7 hsb7 hK8 hf8 f7 w7 hO7
  simp (dsimp := false) (maxSteps := 4000000) only [enc_len, enc_scal, lput_enc, take_enc, go_sem]
  refine AllB.mk fun y1 h_y1 => ?_; have hn_y1 := h_y1; (try simp only [fresh_add, fresh_set, ne_eq] at hn_y1); have hr_y1 := hn_y1; (try simp only [@eq_comm Nat y1] at hr_y1); simp (dsimp := false) (maxSteps := 4000000) only [enc_len, enc_scal, lput_enc, take_enc, hn_y1, hr_y1, go_sem]
  refine (entry_c 1 1 _).mono ?_; rintro _ _ ⟨rfl, rfl⟩
  simp (dsimp := false) (maxSteps := 4000000) only [enc_len, enc_scal, lput_enc, take_enc, hn_y1, hr_y1, go_sem]
  refine (entry_c 2 2 _).mono ?_; rintro _ _ ⟨rfl, rfl⟩
  simp (dsimp := false) (maxSteps := 4000000) only [enc_len, enc_scal, lput_enc, take_enc, hn_y1, hr_y1, go_sem]
  refine AllB.mk fun y2 h_y2 => ?_; have hn_y2 := h_y2; (try simp only [fresh_add, fresh_set, ne_eq] at hn_y2); have hr_y2 := hn_y2; (try simp only [@eq_comm Nat y2] at hr_y2); simp (dsimp := false) (maxSteps := 4000000) only [enc_len, enc_scal, lput_enc, take_enc, hn_y1, hr_y1, hn_y2, hr_y2, go_sem]
  refine (entry_c 2 1 _).mono ?_; rintro _ _ ⟨rfl, rfl⟩
  simp (dsimp := false) (maxSteps := 4000000) only [enc_len, enc_scal, lput_enc, take_enc, hn_y1, hr_y1, hn_y2, hr_y2, go_sem]
  refine (entry_c 1 2 _).mono ?_; rintro _ _ ⟨rfl, rfl⟩
  simp (dsimp := false) (maxSteps := 4000000) only [enc_len, enc_scal, lput_enc, take_enc, hn_y1, hr_y1, hn_y2, hr_y2, go_sem]
  refine AllB.mk fun y3 h_y3 => ?_; have hn_y3 := h_y3; (try simp only [fresh_add, fresh_set, ne_eq] at hn_y3); have hr_y3 := hn_y3; (try simp only [@eq_comm Nat y3] at hr_y3); simp (dsimp := false) (maxSteps := 4000000) only [enc_len, enc_scal, lput_enc, take_enc, hn_y1, hr_y1, hn_y2, hr_y2, hn_y3, hr_y3, go_sem]
  refine AllB.mk fun y4 h_y4 => ?_; have hn_y4 := h_y4; (try simp only [fresh_add, fresh_set, ne_eq] at hn_y4); have hr_y4 := hn_y4; (try simp only [@eq_comm Nat y4] at hr_y4); simp (dsimp := false) (maxSteps := 4000000) only [enc_len, enc_scal, lput_enc, take_enc, hn_y1, hr_y1, hn_y2, hr_y2, hn_y3, hr_y3, hn_y4, hr_y4, go_sem]
  refine AllB.mk fun y5 h_y5 => ?_; have hn_y5 := h_y5; (try simp only [fresh_add, fresh_set, ne_eq] at hn_y5); have hr_y5 := hn_y5; (try simp only [@eq_comm Nat y5] at hr_y5); simp (dsimp := false) (maxSteps := 4000000) only [enc_len, enc_scal, lput_enc, take_enc, hn_y1, hr_y1, hn_y2, hr_y2, hn_y3, hr_y3, hn_y4, hr_y4, hn_y5, hr_y5, go_sem]
  obtain ⟨A9, hA9⟩ : ∃ A9, (((((A8.add y1 (.cells [.pointer (some ⟨ba, 0, none⟩), .pointer (some ⟨bb, 0, none⟩)] 37 2)).add y2 (.cells [.int .i64 1, .int .i64 1, .int .i64 1, .int .i64 1, .int .i64 0, .int .i64 2, .int .i64 2, .int .i64 1, .int .i64 1, .int .i64 0] 79 10)).add y3 (.cells [.int .i64 2, .int .i64 1, .int .i64 1, .int .i64 1, .int .i64 0, .int .i64 1, .int .i64 2, .int .i64 1, .int .i64 1, .int .i64 0] 79 10)).add y4 (.cells [.slice (some ⟨y2, 0, none⟩) 2 2, .slice (some ⟨y3, 0, none⟩) 2 2] 77 2)).add y5 (.cells [.bool true, .bool true] 4 2)) = A9 := ⟨_, rfl⟩
  have kA : Keep A8 A9 fun _ => False := hA9 ▸ ((((Keep.add h_y1).nw h_y2).nw h_y3).nw h_y4).nw h_y5
  have g5 : A9.find y5 = some (.cells [.bool true, .bool true] 4 2) := by rw [← hA9, find_add_self]
  have g4 : A9.find y4 = some (.cells [.slice (some ⟨y2, 0, none⟩) 2 2, .slice (some ⟨y3, 0, none⟩) 2 2] 77 2) := by rw [← hA9, find_add_ne _ hn_y5.1, find_add_self]
  have g3 : A9.find y3 = some (.cells [.int .i64 2, .int .i64 1, .int .i64 1, .int .i64 1, .int .i64 0, .int .i64 1, .int .i64 2, .int .i64 1, .int .i64 1, .int .i64 0] 79 10) := by rw [← hA9, find_add_ne _ hn_y5.2.1, find_add_ne _ hn_y4.1, find_add_self]
  have g2 : A9.find y2 = some (.cells [.int .i64 1, .int .i64 1, .int .i64 1, .int .i64 1, .int .i64 0, .int .i64 2, .int .i64 2, .int .i64 1, .int .i64 1, .int .i64 0] 79 10) := by rw [← hA9, find_add_ne _ hn_y5.2.2.1, find_add_ne _ hn_y4.2.1, find_add_ne _ hn_y3.1, find_add_self]
  have g1 : A9.find y1 = some (.cells [.pointer (some ⟨ba, 0, none⟩), .pointer (some ⟨bb, 0, none⟩)] 37 2) := by rw [← hA9, find_add_ne _ hn_y5.2.2.2.1, find_add_ne _ hn_y4.2.2.1, find_add_ne _ hn_y3.2.1, find_add_ne _ hn_y2.1, find_add_self]
  have hS : StsIn A9 (some ⟨y1, 0, none⟩) 2 [⟨ba, Xa, 0, ft5⟩, ⟨bb, Xb, 0, ft8⟩] := by
    refine ⟨slcF (e := 37) (bs := 2) h_y1 g1 rfl (rowS _) (by decide) (by simp), fun s hs => ?_⟩
    rcases List.mem_cons.1 hs with rfl | hs
    · exact ⟨hsa8.keep kA fun _ _ h => h, okXa⟩
    · obtain rfl := List.mem_singleton.1 hs
      exact ⟨hsb8.keep kA fun _ _ h => h, okXb⟩
  have hT : TabIn A9 (some ⟨y4, 0, none⟩) 2 (Tw (some ⟨y2, 0, none⟩) (some ⟨y3, 0, none⟩)) := by
    refine ⟨slcF (e := 77) (bs := 2) hn_y4.2.2.2 g4 rfl (by simp [Tw, encT]) (by decide) (by simp [Tw]), fun x hx => ?_⟩
    rcases List.mem_cons.1 hx with rfl | hx
    · exact slcF (e := 79) (bs := 10) hn_y2.2 g2 rfl (by simp [La, encE]) (by show 10 ≤ 10; omega) (by simp [La])
    · obtain rfl := List.mem_singleton.1 hx
      exact slcF (e := 79) (bs := 10) hn_y3.2.2 g3 rfl (by simp [Lb, encE]) (by show 10 ≤ 10; omega) (by simp [Lb])
  have hB : SlcIn A9 1 (some ⟨y5, 0, none⟩) 2 ([true, true].map encB1) := slcF (e := 4) (bs := 2) hn_y5.2.2.2.2 g5 rfl (by simp [encB1]) (by decide) (by simp)
  have k9 := k8.trans kA
  rw [hA9]
  clear hA9 g1 g2 g3 g4 g5 kA h_y1 h_y2 h_y3 h_y4 h_y5 hn_y1 hn_y2 hn_y3 hn_y4 hn_y5 hr_y1 hr_y2 hr_y3 hr_y4 hr_y5
  
  refine (Round_c _ _ _ [] _ _ _ none 2 2 2 0 _ (by rw [k9.w0]; exact hE) hS hT hB SlcIn.nil rfl rfl (by show 2 ≤ 32; omega)).mono ?_
  rintro _ AA ⟨zb, zc, SO, rfl, _, hv, hso, hKA, _⟩
  obtain ⟨hlen, hv⟩ := hv (rnd_w _ _)
  obtain ⟨o1, o2, rfl⟩ : ∃ o1 o2, SO = [o1, o2] := by
    match SO, hlen with
    | [o1, o2], _ => exact ⟨o1, o2, rfl⟩
  have v1 := hv 0 _ _ _ _ rfl rfl rfl rfl
  have v2 := hv 1 _ _ _ _ rfl rfl rfl rfl
  have kAA := k9.trans hKA
  have i1 := hso.inn o1 (List.mem_cons_self ..)
  have i2 := hso.inn o2 (List.mem_cons_of_mem _ (List.mem_cons_self ..))
  have w1 : getW o1.X 1 1 = some (9, 8, 0, 0) := by rw [getW_p v1.1 i1.2.kd]; exact get_w1 _ _
  have w2 : getW o2.X 1 1 = some (7, 10, 0, 0) := by rw [getW_p v2.1 i2.2.kd]; exact get_w2 _ _
  rw [show rndE (List.length [SR.mk ba Xa 0 ft5, SR.mk bb Xb 0 ft8]) (Tw (some ⟨y2, 0, none⟩) (some ⟨y3, 0, none⟩)) = 0 from rnd_w _ _]
  obtain ⟨q1, j1, rfl, _, hr1⟩ := hso.out.get (i := 0) rfl
  obtain ⟨_, _, e, _, hr2⟩ := hso.out.get (i := 1) rfl; cases e
  have hr1 := hr1 0 _ rfl
  have hr2 := hr2 0 _ rfl
  simp only [Nat.add_zero, Nat.zero_mul, Nat.one_mul] at hr1 hr2
  have hGa := fun H1 (h : StAt H1 o1.b o1.X o1.den o1.ft) => Get_c h i1.2 1 1
  have hGb := fun H1 (h : StAt H1 o2.b o2.X o2.den o2.ft) => Get_c h i2.2 1 1
  rw [w1] at hGa
  rw [w2] at hGb
  unfold getV at hGa hGb
  clear v1 v2 hv hS hT hB
  simp (dsimp := false) (maxSteps := 4000000) only [hr1, enc_len, enc_scal, lput_enc, take_enc, go_sem]
  refine (hGa _ i1.1).mono ?_; rintro _ _ ⟨rfl, rfl⟩
  simp (dsimp := false) (maxSteps := 4000000) only [enc_len, enc_scal, lput_enc, take_enc, go_sem]
  refine AllB.mk fun p8 h_p8 => ?_; have hn_p8 := h_p8; (try simp only [fresh_add, fresh_set, ne_eq] at hn_p8); have hr_p8 := hn_p8; (try simp only [@eq_comm Nat p8] at hr_p8); simp (dsimp := false) (maxSteps := 4000000) only [enc_len, enc_scal, lput_enc, take_enc, hn_p8, hr_p8, go_sem]
  obtain ⟨AB, hAB⟩ : ∃ AB, AA.add p8 (.cells (enc (9, 8, 0, 0)) 26 4) = AB := ⟨_, rfl⟩
  have kAB : Keep AA AB fun _ => False := hAB ▸ Keep.add h_p8
  have f8 : AB.find p8 = some (.cells (enc (9, 8, 0, 0)) 26 4) := by rw [← hAB, find_add_self]
  rw [hAB]
  clear hAB h_p8 hn_p8 hr_p8
  
  obtain ⟨_, _, e, _, hr2⟩ := (hso.keep kAB).out.get (i := 1) rfl; cases e
  have hr2 := hr2 0 _ rfl
  simp only [Nat.add_zero, Nat.one_mul] at hr2
  have i2b := i2.keep kAB
  simp (dsimp := false) (maxSteps := 4000000) only [hr2, enc_len, enc_scal, lput_enc, take_enc, go_sem]
  refine (hGb _ i2b.1).mono ?_; rintro _ _ ⟨rfl, rfl⟩
  simp (dsimp := false) (maxSteps := 4000000) only [enc_len, enc_scal, lput_enc, take_enc, go_sem]
  refine AllB.mk fun p10 h_p10 => ?_; have hn_p10 := h_p10; (try simp only [fresh_add, fresh_set, ne_eq] at hn_p10); have hr_p10 := hn_p10; (try simp only [@eq_comm Nat p10] at hr_p10); simp (dsimp := false) (maxSteps := 4000000) only [enc_len, enc_scal, lput_enc, take_enc, hn_p10, hr_p10, go_sem]
  obtain ⟨AC, hAC⟩ : ∃ AC, AB.add p10 (.cells (enc (7, 10, 0, 0)) 26 4) = AC := ⟨_, rfl⟩
  have kAC : Keep AB AC fun _ => False := hAC ▸ Keep.add h_p10
  have f10 : AC.find p10 = some (.cells (enc (7, 10, 0, 0)) 26 4) := by rw [← hAC, find_add_self]
  have f8 := kAC.find (fun h => h) f8
  rw [hAC]
  clear hAC h_p10 hn_p10 hr_p10
  
  refine AllB.mk fun p79 h_p79 => ?_; have hn_p79 := h_p79; (try simp only [fresh_add, fresh_set, ne_eq] at hn_p79); have hr_p79 := hn_p79; (try simp only [@eq_comm Nat p79] at hr_p79); simp (dsimp := false) (maxSteps := 4000000) only [enc_len, enc_scal, lput_enc, take_enc, hn_p79, hr_p79, go_sem]
  obtain ⟨AD, hAD⟩ : ∃ AD, AC.add p79 (.cells [.pointer (some ⟨ba, 0, none⟩), .pointer none] 37 2) = AD := ⟨_, rfl⟩
  have kAD : Keep AC AD fun _ => False := hAD ▸ Keep.add h_p79
  have f79 : AD.find p79 = some (.cells [.pointer (some ⟨ba, 0, none⟩), .pointer none] 37 2) := by rw [← hAD, find_add_self]
  have f8 := kAD.find (fun h => h) f8
  have f10 := kAD.find (fun h => h) f10
  rw [hAD]
  clear hAD h_p79 hn_p79 hr_p79
  
  refine (RoundNil_c ba p79 _ f79).mono ?_; rintro _ _ ⟨rfl, rfl⟩
  have kD := ((kAA.trans kAB).trans kAC).trans kAD
  have w8 : AD.row p8 0 4 = some (enc (9, 8, 0, 0)) := row_find f8 (by simp [enc])
  have w10 : AD.row p10 0 4 = some (enc (7, 10, 0, 0)) := row_find f10 (by simp [enc])
  have e1 : enc (9, 8, 0, 0) = [.int .u8 9, .int .u8 8, .int .u8 0, .int .u8 0] := Eq.trans rfl rfl
  have e2 : enc (7, 10, 0, 0) = [.int .u8 7, .int .u8 10, .int .u8 0, .int .u8 0] := Eq.trans rfl rfl
  simp (dsimp := false) (maxSteps := 4000000) only [w8, w10, e1, e2, enc_len, enc_scal, lput_enc, take_enc, go_sem]
  exact ⟨H, kD.all, rfl⟩
end Go.Proofs.YtamlipffhimfmaaGreatDoor.Prt

/- part: what is sorted stays so; a slot that is none. -/
namespace Go.Proofs.YtamlipffhimfmaaGreatDoor.Prt
set_option linter.unusedSimpArgs false
set_option linter.unusedVariables false
open Go Go.AX Go.Proofs Ty Go.Proofs.YtamlipffhimfmaaGreatDoor.File Go.Proofs.YtamlipffhimfmaaGreatDoor.Ifs Go.Proofs.YtamlipffhimfmaaGreatDoor.Err
open Go.Proofs.YtamlipffhimfmaaGreatDoor.Chk (Tb TabIn encT encE En tabs sndO snd)
set_option maxHeartbeats 4000000
set_option maxRecDepth 10000

theorem setX_s {Y : List Nf} (h : Srt Y) (n rec : Int) (v : Rc) : Srt (setX Y n rec v) := by
  unfold setX
  repeat' split
  all_goals first | exact rp_srt h | exact h
theorem doX_s {Y : List Nf} (h : Srt Y) (op fl rec : Int) (v : Rc) : Srt (doX Y op fl rec v) := by
  unfold doX
  repeat' split
  all_goals first | exact setX_s h _ _ _ | exact rp_srt h | exact h
theorem stepP_s (T : List En) (hd : Hd) (p : Pl) {X : List Nf} (h : Srt X) : Srt (stepP T hd X p) := by
  unfold stepP
  repeat' split
  all_goals first | exact setX_s h _ _ _ | exact h
theorem foldP_s (T : List En) (hd : Hd) : ∀ (l : List Pl) {X : List Nf}, Srt X → Srt (l.foldl (stepP T hd) X)
  | [], _, h => h
  | p :: l, _, h => foldP_s T hd l (stepP_s T hd p h)
theorem app2_s : ∀ (l : List En) (S : List Nf × Int), Srt S.1 → Srt (app2 l S).1
  | [], _, h => h
  | x :: l, S, h => app2_s l (exE S x) (by
    unfold exE
    split
    · exact doX_s h _ _ _ _
    · exact h)
theorem app_s (T : List En) (hd : Hd) (X : List Nf) (den : Int) (h : Srt X) : Srt (app T hd X den).1 := app2_s T _ (foldP_s T hd _ h)
theorem outP_s (hd : Hd) (X : List Nf) (den : Int) (t : Tb) (l : Bool) (h : Srt X) : Srt (outP hd X den t l).1 := by
  unfold outP
  split
  · exact app_s _ _ _ _ h
  · exact h
theorem heard_none (XS : List (List Nf)) {T : List Tb} (B : List Bool) (P : List Sp) (ht : TOk T) {slot : Int} (h : ¬ (1 ≤ slot ∧ slot ≤ 16)) : heardO XS T B P slot = none := by
  have hs : sndO slot 0 T = none := by
    cases hc : sndO slot 0 T with
    | none => rfl
    | some nx =>
      obtain ⟨n, x⟩ := nx
      obtain ⟨t, _, ht2, hx, hsn⟩ := snd_at hc
      obtain ⟨h1, h2⟩ := mayB_good (ht t (List.mem_of_getElem? ht2)) hx
      have := good_slot h1 h2
      simp only [snd, Bool.and_eq_true, decide_eq_true_eq] at hsn
      exact absurd (hsn.2 ▸ this) h
  unfold heardO
  rw [if_neg]
  rw [show (frameP XS T B P slot).2.2 = false by unfold frameP; rw [hs]]
  simp
theorem xs_eq {C : List Ce} {n : Nat} {w : Bd} (h : Bof C n w) : w.S.map (·.X) = w.R.map fun r => r.Z.map RF.nf := by
  apply List.ext_getElem?
  intro i
  rw [List.getElem?_map, List.getElem?_map]
  by_cases hi : i < n
  · obtain ⟨s, hs⟩ := get_some (l := w.S) (i := i) (by rw [h.s]; exact hi)
    obtain ⟨r, hr⟩ := get_some (l := w.R) (i := i) (by rw [h.r]; exact hi)
    rw [hs, hr]
    exact congrArg some (h.x i s r hs hr).1
  · rw [List.getElem?_eq_none (by rw [h.s]; omega), List.getElem?_eq_none (by rw [h.r]; omega)]
    rfl
theorem rowH_val (hd : Hd) {i : Nat} (h : i < 17) : (rowH hd 17)[i]? = some (.int .u8 ((hd i).getD 0)) := by
  rw [rowH, List.getElem?_append_left (by simpa using h), List.getElem?_map, List.getElem?_range h]
  simp [h]
theorem rowH_ok (hd : Hd) {i : Nat} (h : i < 17) : (rowH hd 17)[17 + i]? = some (.bool (hd i).isSome) := by
  rw [rowH, List.getElem?_append_right (by simp), List.getElem?_map]
  simp [h]
end Go.Proofs.YtamlipffhimfmaaGreatDoor.Prt
