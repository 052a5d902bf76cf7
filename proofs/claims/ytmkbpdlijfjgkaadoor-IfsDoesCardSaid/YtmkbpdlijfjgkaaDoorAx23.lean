/- A region that draws its order, walked in an order of our choosing. -/
import Derived.Test.YtmkbpdlijfjgkaaDoorAx16
namespace Go.AX
set_option linter.unusedSimpArgs false
set_option linter.unusedVariables false
open Go Go.RowKit
section
variable {P : Program} {ops : Array Oper}
/-- What is asked of i ahead of j in the order that is walked. -/
def prB (ops : Array Oper) (cls : List Cl) (anc : List Nat) (i j : Nat) : Bool :=
  !waitsB ops i j && (isAnc anc j i || match ops[i]?, ops[j]? with | some oi, some oj => oi.apart ops oj | _, _ => true) &&
  (decide (cls[j]? ≠ some .ch) || decide (cls[i]? ≠ some .ch ∧ cls[i]? ≠ some .al) || isAnc anc j i)
def pairB (f : Nat → Nat → Bool) : List Nat → Bool
  | [] => true
  | x :: l => l.all (f x) && pairB f l
theorem pairB_spec {f : Nat → Nat → Bool} : ∀ {l : List Nat}, pairB f l = true → l.Pairwise fun x y => f x y = true
  | [], _ => .nil
  | x :: l, h => by
    simp only [pairB, Bool.and_eq_true, List.all_eq_true] at h
    exact .cons h.1 (pairB_spec h.2)
def genPB (ops : Array Oper) (cls : List Cl) (anc : List Nat) (ord : List Nat) : Bool :=
  Region.noSelect ops && decide (cls.length = ops.size) && ancB ops anc &&
  ((List.range ops.size).all fun i => match ops[i]? with | some o => o.after.all fun e => !Region.binds .any e || decide (e.on < i) | none => true) &&
  pairB (prB ops cls anc) ord && decide (ord.Nodup ∧ ord.length = ops.size ∧ ∀ i ∈ ord, i < ops.size)
end
theorem nodup_range_le {n : Nat} : ∀ {l : List Nat}, l.Nodup → (∀ x ∈ l, x < n) → l.length ≤ n := by
  induction n with
  | zero =>
    intro l _ h
    cases l with
    | nil => exact Nat.le_refl _
    | cons x l => exact absurd (h x (by simp)) (by omega)
  | succ n ih =>
    intro l hd h
    have h1 := ih (l := l.erase n) (hd.erase n) fun x hx => by
      have hx1 := List.mem_of_mem_erase hx
      have hx2 : x ≠ n := fun e => by subst e; exact (hd.not_mem_erase) hx
      have := h x hx1
      omega
    rw [List.length_erase] at h1
    split at h1 <;> omega
section
variable {P : Program} {ops : Array Oper} {Hc : AH} {R : Act → AH → Prop}
structure GInvP (ord : List Nat) (ops : Array Oper) (cls : List Cl) (ls : Array Bool) (es : List En) : Prop where
  size : ls.size = ops.size
  mem : ∀ i, i ∈ ids es ↔ i < ops.size ∧ ls.getD i true = false
  pw : (ids es).Sublist ord
  nd : ord.Nodup
  kind : ∀ c i, En.op c i ∈ es → cls[i]? = some c
  clo : ∀ x y, ls.getD x false = true → waitsB ops x y = true → ls.getD y false = true

theorem GInvP.step {ord : List Nat} {ops : Array Oper} {cls : List Cl} {ls : Array Bool} {pre post mid : List En} {c : Cl} {i : Nat} (inv : GInvP ord ops cls ls (pre ++ .op c i :: post))
    (hw : ∀ y, waitsB ops i y = true → ls.getD y false = true) (hm : ids mid = []) (hk : ∀ c i, En.op c i ∉ mid) : GInvP ord ops cls (ls.setIfInBounds i true) (pre ++ (mid ++ post)) := by
  have hids : ids (pre ++ .op c i :: post) = ids pre ++ i :: ids post := by rw [ids_app, ids_op]
  have hids' : ids (pre ++ (mid ++ post)) = ids pre ++ ids post := by rw [ids_app, ids_app, hm, List.nil_append]
  have hpw := inv.pw
  rw [hids] at hpw
  have hi : i < ops.size := ((inv.mem i).1 (by rw [hids]; simp)).1
  refine ⟨by simp [inv.size], fun j => ?_, ?_, inv.nd, fun c' j hj => ?_, fun x y hx hxy => ?_⟩
  · rw [hids']
    have h1 := inv.mem j
    rw [hids] at h1
    by_cases e : j = i
    · subst e
      have hd := List.nodup_append.1 (inv.nd.sublist hpw)
      have n1 : j ∉ ids pre := fun h => hd.2.2 j h j (by simp) rfl
      have n2 : j ∉ ids post := (List.nodup_cons.1 hd.2.1).1
      rw [getD_set_self (by rw [inv.size]; exact hi)]
      simp [n1, n2]
    · rw [getD_set_ne true (Ne.symm e), ← h1]
      simp [e]
  · rw [hids']
    exact (List.Sublist.append_left (List.sublist_cons_self _ _) _).trans hpw
  · refine inv.kind c' j ?_
    rcases List.mem_append.1 hj with h | h
    · exact List.mem_append_left _ h
    · rcases List.mem_append.1 h with h | h
      · exact absurd h (hk _ _)
      · exact List.mem_append_right _ (List.mem_cons_of_mem _ h)
  · by_cases e : x = i
    · subst e; exact getD_set_true (hw y hxy)
    · rw [getD_set_ne false (Ne.symm e)] at hx
      exact getD_set_true (inv.clo x y hx hxy)

theorem gen_anyP {ord : List Nat} {cls : List Cl} {anc : List Nat} {Hc : AH} {E : Nat → Option Obj} {R : Act → AH → Prop} {Q : Exit → Act → World → Prop} (hB : genPB ops cls anc ord = true) (hR : ∀ a H w, R a H → Sat E H w → Q .normal a w) :
    ∀ (f : Nat) (ls : Array Bool) (es : List En) (a : Act) (H : AH) (w : World), f = (ids es).length → GInvP ord ops cls ls es → Sat E (phy es H) w → frs es H →
      ((∃ i, En.op .rd i ∈ es) → Hc.le H) → GG P ops Hc ops.size R es a H → wpAny P .any ops Q f ls a w := by
  simp only [genPB, Bool.and_eq_true, decide_eq_true_eq, List.all_eq_true, List.mem_range] at hB
  obtain ⟨⟨⟨⟨⟨hns, hlen⟩, hanc⟩, hback⟩, hpair⟩, hnd⟩ := hB
  have hP := pairB_spec hpair
  have hsel : ∀ (j : Nat) (o : Oper) cs b, ops[j]? = some o → o.op ≠ .select cs b := Region.noSelect_spec hns
  have back : ∀ i y, waitsB ops i y = true → y < i := fun i y h => by
    obtain ⟨o, ho, e, he, hb, heq⟩ := Region.waitsFor_spec h
    have hlt := (Array.getElem?_eq_some_iff.1 ho).1
    have h1 := hback i hlt
    rw [ho] at h1
    have h2 := Array.all_eq_true'.1 h1 e he
    rw [← heq]; simpa [hb] using h2
  have waits_of : ∀ i o e, ops[i]? = some o → e ∈ o.after → Region.binds .any e = true → waitsB ops i e.on = true := fun i o e ho he hb => by
    unfold waitsB Region.waitsFor
    rw [ho]
    exact Array.any_eq_true'.2 ⟨e, he, by simp [hb]⟩
  intro f
  induction f with
  | zero =>
    intro ls es a H w hf inv hs hfr hrd hG
    have h1 : ids es = [] := List.eq_nil_of_length_eq_zero hf.symm
    refine ⟨?_, hR _ _ _ (GG_end es a H h1 hfr hG) hs⟩
    cases hr : Region.ready .any ops ls with
    | nil => rfl
    | cons i l =>
      obtain ⟨hun, o, ho, _⟩ := mem_ready.1 (show i ∈ Region.ready .any ops ls by rw [hr]; simp)
      have hlt := (Array.getElem?_eq_some_iff.1 ho).1
      exact absurd ((inv.mem i).2 ⟨hlt, hun⟩) (by rw [h1]; simp)
  | succ f ih =>
    intro ls es a H w hf inv hs hfr hrd hG
    refine ⟨fun h0 => ?_, fun i hi => ?_⟩
    · exfalso
      cases hq : ids es with
      | nil => rw [hq] at hf; cases hf
      | cons h tl =>
        have hh := (inv.mem h).1 (by rw [hq]; simp)
        have : h ∈ Region.ready .any ops ls := mem_ready.2 ⟨hh.2, ops[h]'hh.1, Array.getElem?_eq_getElem hh.1, fun e he hb => by
          have hw := waits_of h _ e (Array.getElem?_eq_getElem hh.1) he hb
          have hlt := back h _ hw
          refine getD_done (by rw [inv.size]; omega) fun hun => ?_
          have hm := (inv.mem e.on).2 ⟨by omega, hun⟩
          have hpw := hP.sublist inv.pw
          rw [hq] at hm hpw
          rcases List.mem_cons.1 hm with h7 | h7
          · omega
          · have := (List.pairwise_cons.1 hpw).1 _ h7
            simp only [prB, Bool.and_eq_true] at this
            rw [hw] at this; simp at this⟩
        rw [h0] at this; cases this
    · obtain ⟨hun, oi, hoi, hall⟩ := mem_ready.1 hi
      have hlt := (Array.getElem?_eq_some_iff.1 hoi).1
      have hwd : ∀ y, waitsB ops i y = true → ls.getD y false = true := fun y h => by
        obtain ⟨o, ho, e, he, hb, heq⟩ := Region.waitsFor_spec h
        rw [hoi] at ho; cases ho
        rw [← heq]; exact hall e he hb
      have hmem := (inv.mem i).2 ⟨hlt, hun⟩
      obtain ⟨pre, c, post, rfl⟩ := split_of hmem
      have hidl : (ids (pre ++ .op c i :: post)).length = (ids pre).length + (ids post).length + 1 := by rw [ids_app, ids_op]; simp; omega
      have noanc : ∀ h, h ∈ ids (pre ++ .op c i :: post) → isAnc anc i h = false := fun h hh => by
        cases ha : isAnc anc i h with
        | false => rfl
        | true =>
          have hd := anc_done hanc (D := fun x => ls.getD x false = true) inv.clo i hlt hwd h ha
          have hu := (inv.mem h).1 hh
          have hls : h < ls.size := by rw [inv.size]; exact hu.1
          have e1 : ls[h]? = some ls[h] := Array.getElem?_eq_getElem hls
          have hu2 := hu.2
          simp only [Array.getD_eq_getD_getElem?, e1, Option.getD_some] at hd hu2
          rw [hd] at hu2; cases hu2
      have hpw := hP.sublist inv.pw
      rw [ids_app, ids_op] at hpw
      have hbefore : ∀ h, h ∈ ids pre → prB ops cls anc h i = true := fun h hh => (List.pairwise_append.1 hpw).2.2 h hh i (by simp)
      have haps : Aps ops oi pre := fun h oh hh ho => by
        have h1 := hbefore h hh
        simp only [prB, Bool.and_eq_true] at h1
        replace h1 := h1.1.2
        rw [noanc h (by rw [ids_app]; exact List.mem_append_left _ hh), ho, hoi] at h1
        exact Oper.apart_spec (by simpa using h1)
      have hkc : cls[i]? = some c := inv.kind c i (by simp)
      have hfp := (frs_append _ _ _).1 hfr
      have hwo : ∀ {K : Act → World → Prop}, wpOp P ops Q0 i K a w → wpOp P ops Q i K a w := fun h => wpOp_of_Q0 (fun ⟨_, _, h⟩ => h) h
      rw [phy_append] at hs
      have rdcase : ∀ (hc : c = .rd ∨ c = .pu), wpOp P ops Q i (wpAny P .any ops Q f (ls.setIfInBounds i true)) a w := fun hc => by
        have hCC : CX Hc c w := by
          have h2 : H.le (phy post (phy pre H)) := AH.le_trans (phy_le pre hfp.1) (phy_le post hfp.2)
          rcases hc with rfl | rfl
          · exact ⟨E, hs.mono (AH.le_trans (hrd ⟨i, by simp⟩) h2)⟩
          · trivial
        obtain ⟨v, hy⟩ := GG_ext (e := .op c i) (post := post) (oi := oi) (Φ := fun a => ∃ v, RY P ops (CX Hc c) oi v a) (fun a H hg => by
            have : ∃ o v, ops[i]? = some o ∧ RY P ops (CX Hc c) o v a ∧ GG P ops Hc ops.size R post (a.put o.dst v) H := by
              rcases hc with rfl | rfl <;> exact hg
            obtain ⟨o, v, h1, h2, _⟩ := this
            rw [hoi] at h1; cases h1
            exact ⟨v, h2⟩) (fun oh u a hap ⟨v, hv⟩ => ⟨v, hv.back' hap (fun cs b => hsel i oi cs b hoi) u⟩) pre a H _ w haps hfp.1 (hs.mono (phy_le post hfp.2)) hG
        have hG' := GG_rd hsel hc hoi ⟨w, hCC⟩ pre a H haps hG hy
        refine hy.wpOp hoi hCC (ih _ (pre ++ post) _ H w (by rw [hidl] at hf; rw [ids_app, List.length_append]; omega) ?_ (by rw [phy_append]; exact hs) ((frs_append _ _ _).2 hfp) (fun ⟨j, hj⟩ => hrd ⟨j, by
          rcases List.mem_append.1 hj with h | h
          · exact List.mem_append_left _ h
          · exact List.mem_append_right _ (List.mem_cons_of_mem _ h)⟩) hG')
        exact inv.step hwd (mid := []) rfl (fun _ _ h => by cases h)
      cases c with
      | rd => exact rdcase (.inl rfl)
      | pu => exact rdcase (.inr rfl)
      | al =>
        obtain ⟨p, hg, hp⟩ := GG_ext (e := .op .al i) (post := post) (oi := oi) (Φ := fun a => ∃ p, oi.guard = none ∧ alc P oi.op a.eval = some p) (fun a H hg => by
            obtain ⟨o, p, h1, h2, h3, _⟩ := hg
            rw [hoi] at h1; cases h1
            exact ⟨p, h2, h3⟩) (fun oh u a hap ⟨p, h1, h2⟩ => ⟨p, h1, by rw [← alc_put hap u]; exact h2⟩) pre a H _ w haps hfp.1 (hs.mono (phy_le post hfp.2)) hG
        unfold wpOp
        simp only [hoi]
        have hwant : Region.wanted oi (yielded ops a.tmps) = true := by unfold Region.wanted; rw [hg]
        simp only [hwant, if_true]
        refine .inl ?_
        obtain ⟨nx, w', H', q1, q2, q3⟩ := alc_sound (o := oi) hp (phy post (phy pre H)) E w hs
        have fin : ∀ b w'', Fresh (phy post (phy pre H)) b → Sat E ((phy post (phy pre H)).add b p.2) w'' → wpAny P .any ops Q f (ls.setIfInBounds i true) (a.put oi.dst (p.1 b)) w'' := fun b w'' hb hsb => by
          have hG' := GG_al hsel (b := b) hoi pre a H haps hG hp
          obtain ⟨r1, r2⟩ := phy_add post (k := p.2) hfp.2 hb
          refine ih _ (pre ++ .ea b p.2 :: post) _ H w'' (by rw [hidl] at hf; rw [ids_app, ids_ea, List.length_append]; omega) ?_ ?_ ((frs_append _ _ _).2 ⟨hfp.1, Fresh.of_le (phy_le post hfp.2) hb, r1⟩) (fun ⟨j, hj⟩ => hrd ⟨j, by
            rcases List.mem_append.1 hj with h | h
            · exact List.mem_append_left _ h
            · rcases List.mem_cons.1 h with h | h
              · cases h
              · exact List.mem_append_right _ (List.mem_cons_of_mem _ h)⟩) hG'
          · exact inv.step hwd (mid := [.ea b p.2]) rfl (fun _ _ h => by simp at h)
          · rw [phy_append]; exact hsb.mono r2.le
        unfold Oper.wp
        rw [q1]
        cases nx <;> simp only [anext] at q3 <;> simp only [Oper.upon]
        case value v => obtain ⟨b, hb, rfl, rfl⟩ := q3; exact fin b w' hb q2
        case skip => obtain ⟨b, hb, hv, rfl⟩ := q3; rw [hv]; exact fin b w' hb q2
        case enter fn args =>
          refine (q3 E w' q2).mono ?_
          rintro e w'' ⟨v, H2, rfl, h2, b, hb, rfl, rfl⟩
          exact fin b w'' hb h2
      | ch =>
        have hsoft : soft pre := by
          have key : ∀ l : List En, (∀ c j, En.op c j ∈ l → c = .rd ∨ c = .pu) → soft l := fun l => by
            induction l with
            | nil => intro _; trivial
            | cons e l ihl =>
              intro h
              cases e with
              | op c j => exact ⟨h c j (by simp), ihl fun c j hj => h c j (List.mem_cons_of_mem _ hj)⟩
              | ea b k => exact ihl fun c j hj => h c j (List.mem_cons_of_mem _ hj)
          refine key pre fun c j hj => ?_
          have hjm : j ∈ ids pre := List.mem_filterMap.2 ⟨_, hj, rfl⟩
          have h1 := hbefore j hjm
          simp only [prB, Bool.and_eq_true] at h1
          replace h1 := h1.2
          simp only [Bool.or_eq_true, decide_eq_true_eq] at h1
          rcases h1 with (h1 | h2) | h2
          · exact absurd hkc h1
          · have hkj := inv.kind c j (List.mem_append_left _ hj)
            rw [hkj] at h2
            cases c <;> simp at h2 ⊢
          · have hkj := inv.kind c j (List.mem_append_left _ hj)
            rw [noanc j (by rw [ids_app]; exact List.mem_append_left _ hjm)] at h2
            cases h2
        obtain ⟨N, q1, q2⟩ := GG_ch hsel hoi pre a H haps hsoft hfp.1 hG
        obtain ⟨E1, q3, q4⟩ := Sat.under' post (H := phy pre H) hfp.2 hs
        refine hwo (wpOp_mono' ?_ (q1 E1 w q3))
        rintro a' w' ⟨v, H', rfl, h1, h2⟩
        obtain ⟨r1, r2⟩ := q4 _ _ h1
        obtain ⟨r3, r4⟩ := q2 v H' h2
        have hrd' : (∃ k, En.op .rd k ∈ strip pre ++ post) → Hc.le H' := fun ⟨k, hk⟩ => by
          exact r3 hlt
        refine ih _ (strip pre ++ post) _ H' w' (by rw [hidl] at hf; rw [ids_app, ids_strip, List.length_append]; omega) ?_ (by rw [phy_soft]; exact r1) ((frs_soft _ _ _).2 r2) hrd' r4
        · have h6 := inv.step hwd (mid := []) rfl (fun _ _ h => by cases h)
          refine ⟨h6.size, fun j => ?_, ?_, h6.nd, fun c j hj => h6.kind c j ?_, h6.clo⟩
          · rw [← h6.mem j, ids_app, ids_app, ids_strip]; rfl
          · have := h6.pw
            rw [ids_app] at this
            rw [ids_app, ids_strip]; exact this
          · rcases List.mem_append.1 hj with h | h
            · exact List.mem_append_left _ ((mem_strip _ _ _).1 h)
            · exact List.mem_append_right _ h


end
def sel (ops : Array Oper) : List Nat → List Oper → Prop
  | [], [] => True
  | x :: o, y :: l => ops[x]? = some y ∧ sel ops o l
  | _, _ => False
def entp : List Nat → List Cl → List En
  | x :: o, c :: cs => .op c x :: entp o cs
  | _, _ => []
def prm {α : Type} (l : List α) : List Nat → List α
  | [] => []
  | i :: o => match l[i]? with
    | some x => x :: prm l o
    | none => prm l o
theorem prm_nil {α : Type} {l : List α} : prm l [] = [] := Eq.trans rfl rfl
def pm {α : Type} : Option α → List α → List α
  | some x, l => x :: l
  | none, l => l
theorem pm_some {α : Type} {x : α} {l : List α} : pm (some x) l = x :: l := Eq.trans rfl rfl
theorem prm_eq {α : Type} {l : List α} {i : Nat} {o : List Nat} : prm l (i :: o) = pm l[i]? (prm l o) := by rw [prm]; cases l[i]? <;> rfl
theorem prm_cons {α : Type} {l : List α} {i : Nat} {o : List Nat} {x : α} (h : l[i]? = some x) : prm l (i :: o) = x :: prm l o := by rw [prm, h]
section
variable {P : Program} {ops : Array Oper} {Hc : AH} {n : Nat} {ds : List (Option Tmp)}
theorem gw_GGp {Q : Exit → Fr → AH → Prop} {M : Nat} (hds : ds = ops.toList.map (·.dst)) : ∀ (ord : List Nat) (cs : List Cl) (l : List Oper) (k : Nat) (fr : Fr) (H : AH) (a : Act), clsB cs l = true → sel ops ord l → k + l.length ≤ M →
    gw P n ds Hc M k cs l fr H (Q .normal) → FrOk n fr a → GG P ops Hc ops.size (RR n Q) (entp ord cs) a H
  | [], [], [], k, fr, H, a, _, _, _, h, hf => ⟨fr, H, hf, AH.le_refl _, h⟩
  | _, [], _ :: _, _, _, _, _, hc, _, _, _, _ => by simp [clsB] at hc
  | _, _ :: _, [], _, _, _, _, hc, _, _, _, _ => by simp [clsB] at hc
  | _ :: _, [], [], _, _, _, _, _, hl, _, _, _ => hl.elim
  | [], _ :: _, _ :: _, _, _, _, _, _, hl, _, _, _ => hl.elim
  | x :: ord, c :: cs, o :: l, k, fr, H, a, hc, hl, hM, h, hf => by
    obtain ⟨ho, hl'⟩ := hl
    simp only [List.length_cons] at hM
    have hM' : k + 1 + l.length ≤ M := by omega
    have hkM : k < M := by omega
    simp only [clsB, Bool.and_eq_true] at hc
    cases c with
    | rd =>
      obtain ⟨v, h1, fr', h2, h3⟩ := vops1_rd hds hc.1 h hf
      refine ⟨o, v, ho, ?_, gw_GGp hds ord cs l (k + 1) fr' H _ hc.2 hl' hM' h3 h2⟩
      rcases h1 with ⟨h1, h4⟩ | h1
      · exact .inl ⟨h1, fun w ⟨E, hw⟩ => qrun_sound P _ Hc _ w h4 hw⟩
      · exact .inr h1
    | pu =>
      obtain ⟨v, h1, fr', h2, h3⟩ := vops1_rd hds hc.1 h hf
      refine ⟨o, v, ho, ?_, gw_GGp hds ord cs l (k + 1) fr' H _ hc.2 hl' hM' h3 h2⟩
      rcases h1 with ⟨h1, h4⟩ | h1
      · exact .inl ⟨h1, fun w _ => qrun_bare P _ Hc.w0 _ w h4⟩
      · exact .inr h1
    | al =>
      simp only [Bool.and_eq_true] at hc
      obtain ⟨⟨hg, hal⟩, hc2⟩ := hc
      obtain ⟨d, op, ty, pos, af, g⟩ := o
      cases g with
      | some g => cases hg
      | none =>
        obtain ⟨h1, h2⟩ := h
        obtain ⟨a1, a2, a3⟩ := vop_sound h2
        obtain ⟨p, hp, hk⟩ := alc_vop (o := ⟨d, op, ty, pos, af, none⟩) hal h2
        refine ⟨_, p, ho, rfl, ?_, fun b hb => gw_GGp hds ord cs l (k + 1) _ _ _ hc2 hl' hM' (hk b hb) (hf.put h1 _)⟩
        rw [← hp]
        refine alc_congr fun x hx => hf.eval ?_
        have := List.all_eq_true.1 a1 x (by simpa using hx)
        exact this
    | ch =>
      have h2 := vops_sound _ _ _ h
      simp only [aops] at h2
      split at h2
      · exact h2.elim
      · rename_i g hg
        rw [hds] at hg
        have hw := aguard_sound hf hg
        rw [← hds] at hg
        cases g with
        | true =>
          obtain ⟨hok, h1⟩ := h2.1 rfl
          have hd : dok n o.dst = true := by simp only [okOp, Bool.and_eq_true] at hok; exact hok.2
          refine ⟨o, fun v H' => (k < M → Hc.le H') ∧ gw P n ds Hc M (k + 1) cs l (putf o.dst v (gov ds fr o true)) H' (Q .normal), ho, fun E w hs => ?_, fun v H' hN => ⟨fun _ => hN.1 hkM, gw_GGp hds ord cs l (k + 1) _ H' _ hc.2 hl' hM' hN.2 ((hf.gov hg).put hd v)⟩⟩
          unfold wpOp
          simp only [ho, hw, if_true]
          exact .inl ((aop_sem h1).wp (hf.gov hg) hok hs fun v H' w' hk hs' => ⟨v, H', rfl, hs', hk⟩)
        | false =>
          obtain ⟨hd, h1⟩ := h2.2 rfl
          refine ⟨o, fun v H' => v = undef ∧ H' = H, ho, fun E w hs => ?_, fun v H' hN => ?_⟩
          · unfold wpOp
            simp only [ho, hw, Bool.false_eq_true, if_false]
            exact ⟨undef, H, rfl, hs, rfl, rfl⟩
          · obtain ⟨rfl, rfl⟩ := hN
            exact ⟨fun _ => h1.1 hkM, gw_GGp hds ord cs l (k + 1) _ _ _ hc.2 hl' hM' h1.2 ((hf.gov hg).put hd _)⟩


theorem sel_prm {l : List Oper} : ∀ {ord : List Nat}, (∀ i ∈ ord, i < l.length) → sel l.toArray ord (prm l ord)
  | [], _ => trivial
  | i :: o, h => by
    have hi := h i (by simp)
    have e : l[i]? = some l[i] := List.getElem?_eq_getElem hi
    rw [prm_cons e]
    exact ⟨by simp [hi], sel_prm fun j hj => h j (by simp [hj])⟩
theorem prm_len {α : Type} {l : List α} : ∀ {ord : List Nat}, (∀ i ∈ ord, i < l.length) → (prm l ord).length = ord.length
  | [], _ => rfl
  | i :: o, h => by
    have hi := h i (by simp)
    rw [prm_cons (List.getElem?_eq_getElem hi), List.length_cons, List.length_cons, prm_len fun j hj => h j (by simp [hj])]
theorem ids_entp {cs : List Cl} : ∀ {ord : List Nat}, (∀ i ∈ ord, i < cs.length) → ids (entp ord (prm cs ord)) = ord
  | [], _ => rfl
  | i :: o, h => by
    have hi := h i (by simp)
    rw [prm_cons (List.getElem?_eq_getElem hi), entp, ids_op, ids_entp fun j hj => h j (by simp [hj])]
theorem kind_entp {cs : List Cl} {c : Cl} {j : Nat} : ∀ {ord : List Nat}, (∀ i ∈ ord, i < cs.length) → En.op c j ∈ entp ord (prm cs ord) → cs[j]? = some c
  | [], _, hm => by cases hm
  | i :: o, h, hm => by
    have hi := h i (by simp)
    rw [prm_cons (List.getElem?_eq_getElem hi), entp] at hm
    rcases List.mem_cons.1 hm with hm | hm
    · cases hm; exact List.getElem?_eq_getElem hi
    · exact kind_entp (fun j hj => h j (by simp [hj])) hm
theorem phy_entp : ∀ (ord : List Nat) (cs : List Cl) (H : AH), phy (entp ord cs) H = H ∧ frs (entp ord cs) H
  | [], _, _ => ⟨rfl, trivial⟩
  | _ :: _, [], _ => ⟨rfl, trivial⟩
  | _ :: o, _ :: cs, H => phy_entp o cs H
theorem AWp.genp {id : Nat} {l : List Oper} {Q : Exit → Fr → AH → Prop} {fr : Fr} {H : AH} (cs : List Cl) (anc ord : List Nat) (M : Nat) (Hc : AH) (hm : P.follows .mixedOrders = true) (hB : (genPB l.toArray cs anc ord && clsB (prm cs ord) (prm l ord) && decide (l.length ≤ M)) = true) (hc : Hc.le H)
    (h : nd (l.map (·.dst)) fun ds => gw P n ds Hc M 0 (prm cs ord) (prm l ord) fr H (Q .normal)) : AWp P n (.region id l.toArray true) Q fr H := by
  intro E a w hf hs
  rw [Bool.and_eq_true, Bool.and_eq_true, decide_eq_true_eq] at hB
  obtain ⟨⟨hB1, hB2⟩, hM⟩ := hB
  have h' : gw P n (l.toArray.toList.map (·.dst)) Hc M 0 (prm cs ord) (prm l ord) fr H (Q .normal) := h
  have hB0 := hB1
  simp only [genPB, Bool.and_eq_true, decide_eq_true_eq] at hB0
  obtain ⟨⟨⟨⟨⟨_, hcl⟩, _⟩, _⟩, _⟩, hnd, hol, hrg⟩ := hB0
  have hrg' : ∀ i ∈ ord, i < l.length := fun i hi => by simpa using hrg i hi
  have hrc : ∀ i ∈ ord, i < cs.length := fun i hi => by rw [hcl]; exact hrg i hi
  refine wp_region_any hm ?_
  have hs' : Sat E H { w with drawn := w.drawn + 1 } := hs.drew
  have hG := gw_GGp (ops := l.toArray) (Hc := Hc) (M := M) (P := P) (n := n) (Q := Q) rfl ord (prm cs ord) (prm l ord) 0 fr H a hB2 (sel_prm hrg') (by rw [prm_len hrg', hol]; simpa using hM) h' hf
  have hmem : ∀ i, i < l.length → i ∈ ord := fun i hi => by
    have hp : ord.Perm (List.range l.length) := by
      refine (List.perm_ext_iff_of_nodup hnd List.nodup_range).2 fun x => ⟨fun hx => List.mem_range.2 (hrg' x hx), fun hx => ?_⟩
      rcases Classical.em (x ∈ ord) with h | h
      · exact h
      · exfalso
        have h1 : (x :: ord).Nodup := List.nodup_cons.2 ⟨h, hnd⟩
        have h2 := nodup_range_le (n := l.length) h1 (fun y hy => by
          rcases List.mem_cons.1 hy with rfl | hy
          · exact List.mem_range.1 hx
          · exact hrg' y hy)
        rw [List.length_cons, hol] at h2
        simp at h2
        omega
    exact hp.mem_iff.2 (List.mem_range.2 hi)
  refine gen_anyP (ord := ord) (E := E) (cls := cs) (anc := anc) (Q := AQ E n Q) hB1 (fun a H w ⟨fr, H0, h1, h2, h3⟩ hs => ⟨fr, H0, h1, hs.mono h2, h3⟩) _ _ (entp ord (prm cs ord)) a H _ ?_ ?_ (by rw [(phy_entp _ _ H).1]; exact hs') (phy_entp _ _ H).2 (fun _ => hc) hG
  · rw [ids_entp hrc, hol]
  · refine ⟨by simp, fun i => ?_, by rw [ids_entp hrc]; exact List.Sublist.refl _, hnd, fun c i hci => kind_entp hrc hci, fun x y hx => ?_⟩
    · rw [ids_entp hrc]
      constructor
      · intro hh; exact ⟨hrg i hh, by rw [getD_in (by simpa using hrg i hh) (getD_replicate_false _ _)]⟩
      · intro hh; exact hmem i (by simpa using hh.1)
    · rw [getD_replicate_false] at hx; cases hx
end
end Go.AX
