/- Texts of mine, one behind another. -/
import Derived.Test.YtbhamhhjicehaaaGreatDoorMBusApart3
import Derived.Shelf.SlIterI.Nil
import Derived.Shelf.SortM.Plain
import Derived.Shelf.SortM.SortNone
import Derived.Ground.GgzProg
import Derived.Ground.SlgmProg
/- A region that draws its order, walked in an order of our choosing. -/
namespace Go.AX
set_option linter.unusedSimpArgs false
set_option linter.unusedVariables false
open Go Go.RowKit
section
variable {P : Program} {ops : Array Oper}
def prB (ops : Array Oper) (cls : List Cl) (anc : List Nat) (i j : Nat) : Bool :=
  !waitsB ops i j && (isAnc anc j i || match ops[i]?, ops[j]? with | some oi, some oj => oi.apart ops oj | _, _ => true) &&
  (decide (cls[j]? ≠ some .ch) || decide (cls[i]? ≠ some .ch ∧ cls[i]? ≠ some .al) || isAnc anc j i)
def pairB (f : Nat → Nat → Bool) : List Nat → Bool
  | [] => true
  | x :: l => l.all (f x) && pairB f l
theorem pairB_spec {f : Nat → Nat → Bool} : ∀ {l : List Nat}, pairB f l = true → l.Pairwise fun x y => f x y = true
  | [], _ => .nil
  | x :: l, h => by
    simp only [pairB, Bool.and_eq_true, List.all_eq_true] at h
    exact .cons h.1 (pairB_spec h.2)
def genPB (ops : Array Oper) (cls : List Cl) (anc : List Nat) (ord : List Nat) : Bool :=
  Region.noSelect ops && decide (cls.length = ops.size) && ancB ops anc &&
  ((List.range ops.size).all fun i => match ops[i]? with | some o => o.after.all fun e => !Region.binds .any e || decide (e.on < i) | none => true) &&
  pairB (prB ops cls anc) ord && decide (ord.Nodup ∧ ord.length = ops.size ∧ ∀ i ∈ ord, i < ops.size)
end
theorem nodup_range_le {n : Nat} : ∀ {l : List Nat}, l.Nodup → (∀ x ∈ l, x < n) → l.length ≤ n := by
  induction n with
  | zero =>
    intro l _ h
    cases l with
    | nil => exact Nat.le_refl _
    | cons x l => exact absurd (h x (by simp)) (by omega)
  | succ n ih =>
    intro l hd h
    have h1 := ih (l := l.erase n) (hd.erase n) fun x hx => by
      have hx1 := List.mem_of_mem_erase hx
      have hx2 : x ≠ n := fun e => by subst e; exact (hd.not_mem_erase) hx
      have := h x hx1
      omega
    rw [List.length_erase] at h1
    split at h1 <;> omega
section
variable {P : Program} {ops : Array Oper} {Hc : AH} {R : Act → AH → Prop}
structure GInvP (ord : List Nat) (ops : Array Oper) (cls : List Cl) (ls : Array Bool) (es : List En) : Prop where
  size : ls.size = ops.size
  mem : ∀ i, i ∈ ids es ↔ i < ops.size ∧ ls.getD i true = false
  pw : (ids es).Sublist ord
  nd : ord.Nodup
  kind : ∀ c i, En.op c i ∈ es → cls[i]? = some c
  clo : ∀ x y, ls.getD x false = true → waitsB ops x y = true → ls.getD y false = true

theorem GInvP.step {ord : List Nat} {ops : Array Oper} {cls : List Cl} {ls : Array Bool} {pre post mid : List En} {c : Cl} {i : Nat} (inv : GInvP ord ops cls ls (pre ++ .op c i :: post))
    (hw : ∀ y, waitsB ops i y = true → ls.getD y false = true) (hm : ids mid = []) (hk : ∀ c i, En.op c i ∉ mid) : GInvP ord ops cls (ls.setIfInBounds i true) (pre ++ (mid ++ post)) := by
  have hids : ids (pre ++ .op c i :: post) = ids pre ++ i :: ids post := by rw [ids_app, ids_op]
  have hids' : ids (pre ++ (mid ++ post)) = ids pre ++ ids post := by rw [ids_app, ids_app, hm, List.nil_append]
  have hpw := inv.pw
  rw [hids] at hpw
  have hi : i < ops.size := ((inv.mem i).1 (by rw [hids]; simp)).1
  refine ⟨by simp [inv.size], fun j => ?_, ?_, inv.nd, fun c' j hj => ?_, fun x y hx hxy => ?_⟩
  · rw [hids']
    have h1 := inv.mem j
    rw [hids] at h1
    by_cases e : j = i
    · subst e
      have hd := List.nodup_append.1 (inv.nd.sublist hpw)
      have n1 : j ∉ ids pre := fun h => hd.2.2 j h j (by simp) rfl
      have n2 : j ∉ ids post := (List.nodup_cons.1 hd.2.1).1
      rw [getD_set_self (by rw [inv.size]; exact hi)]
      simp [n1, n2]
    · rw [getD_set_ne true (Ne.symm e), ← h1]
      simp [e]
  · rw [hids']
    exact (List.Sublist.append_left (List.sublist_cons_self _ _) _).trans hpw
  · refine inv.kind c' j ?_
    rcases List.mem_append.1 hj with h | h
    · exact List.mem_append_left _ h
    · rcases List.mem_append.1 h with h | h
      · exact absurd h (hk _ _)
      · exact List.mem_append_right _ (List.mem_cons_of_mem _ h)
  · by_cases e : x = i
    · subst e; exact getD_set_true (hw y hxy)
    · rw [getD_set_ne false (Ne.symm e)] at hx
      exact getD_set_true (inv.clo x y hx hxy)

theorem gen_anyP {ord : List Nat} {cls : List Cl} {anc : List Nat} {Hc : AH} {E : Nat → Option Obj} {R : Act → AH → Prop} {Q : Exit → Act → World → Prop} (hB : genPB ops cls anc ord = true) (hR : ∀ a H w, R a H → Sat E H w → Q .normal a w) :
    ∀ (f : Nat) (ls : Array Bool) (es : List En) (a : Act) (H : AH) (w : World), f = (ids es).length → GInvP ord ops cls ls es → Sat E (phy es H) w → frs es H →
      ((∃ i, En.op .rd i ∈ es) → Hc.le H) → GG P ops Hc ops.size R es a H → wpAny P .any ops Q f ls a w := by
  simp only [genPB, Bool.and_eq_true, decide_eq_true_eq, List.all_eq_true, List.mem_range] at hB
  obtain ⟨⟨⟨⟨⟨hns, hlen⟩, hanc⟩, hback⟩, hpair⟩, hnd⟩ := hB
  have hP := pairB_spec hpair
  have hsel : ∀ (j : Nat) (o : Oper) cs b, ops[j]? = some o → o.op ≠ .select cs b := Region.noSelect_spec hns
  have back : ∀ i y, waitsB ops i y = true → y < i := fun i y h => by
    obtain ⟨o, ho, e, he, hb, heq⟩ := Region.waitsFor_spec h
    have hlt := (Array.getElem?_eq_some_iff.1 ho).1
    have h1 := hback i hlt
    rw [ho] at h1
    have h2 := Array.all_eq_true'.1 h1 e he
    rw [← heq]; simpa [hb] using h2
  have waits_of : ∀ i o e, ops[i]? = some o → e ∈ o.after → Region.binds .any e = true → waitsB ops i e.on = true := fun i o e ho he hb => by
    unfold waitsB Region.waitsFor
    rw [ho]
    exact Array.any_eq_true'.2 ⟨e, he, by simp [hb]⟩
  intro f
  induction f with
  | zero =>
    intro ls es a H w hf inv hs hfr hrd hG
    have h1 : ids es = [] := List.eq_nil_of_length_eq_zero hf.symm
    refine ⟨?_, hR _ _ _ (GG_end es a H h1 hfr hG) hs⟩
    cases hr : Region.ready .any ops ls with
    | nil => rfl
    | cons i l =>
      obtain ⟨hun, o, ho, _⟩ := mem_ready.1 (show i ∈ Region.ready .any ops ls by rw [hr]; simp)
      have hlt := (Array.getElem?_eq_some_iff.1 ho).1
      exact absurd ((inv.mem i).2 ⟨hlt, hun⟩) (by rw [h1]; simp)
  | succ f ih =>
    intro ls es a H w hf inv hs hfr hrd hG
    refine ⟨fun h0 => ?_, fun i hi => ?_⟩
    · exfalso
      cases hq : ids es with
      | nil => rw [hq] at hf; cases hf
      | cons h tl =>
        have hh := (inv.mem h).1 (by rw [hq]; simp)
        have : h ∈ Region.ready .any ops ls := mem_ready.2 ⟨hh.2, ops[h]'hh.1, Array.getElem?_eq_getElem hh.1, fun e he hb => by
          have hw := waits_of h _ e (Array.getElem?_eq_getElem hh.1) he hb
          have hlt := back h _ hw
          refine getD_done (by rw [inv.size]; omega) fun hun => ?_
          have hm := (inv.mem e.on).2 ⟨by omega, hun⟩
          have hpw := hP.sublist inv.pw
          rw [hq] at hm hpw
          rcases List.mem_cons.1 hm with h7 | h7
          · omega
          · have := (List.pairwise_cons.1 hpw).1 _ h7
            simp only [prB, Bool.and_eq_true] at this
            rw [hw] at this; simp at this⟩
        rw [h0] at this; cases this
    · obtain ⟨hun, oi, hoi, hall⟩ := mem_ready.1 hi
      have hlt := (Array.getElem?_eq_some_iff.1 hoi).1
      have hwd : ∀ y, waitsB ops i y = true → ls.getD y false = true := fun y h => by
        obtain ⟨o, ho, e, he, hb, heq⟩ := Region.waitsFor_spec h
        rw [hoi] at ho; cases ho
        rw [← heq]; exact hall e he hb
      have hmem := (inv.mem i).2 ⟨hlt, hun⟩
      obtain ⟨pre, c, post, rfl⟩ := split_of hmem
      have hidl : (ids (pre ++ .op c i :: post)).length = (ids pre).length + (ids post).length + 1 := by rw [ids_app, ids_op]; simp; omega
      have noanc : ∀ h, h ∈ ids (pre ++ .op c i :: post) → isAnc anc i h = false := fun h hh => by
        cases ha : isAnc anc i h with
        | false => rfl
        | true =>
          have hd := anc_done hanc (D := fun x => ls.getD x false = true) inv.clo i hlt hwd h ha
          have hu := (inv.mem h).1 hh
          have hls : h < ls.size := by rw [inv.size]; exact hu.1
          have e1 : ls[h]? = some ls[h] := Array.getElem?_eq_getElem hls
          have hu2 := hu.2
          simp only [Array.getD_eq_getD_getElem?, e1, Option.getD_some] at hd hu2
          rw [hd] at hu2; cases hu2
      have hpw := hP.sublist inv.pw
      rw [ids_app, ids_op] at hpw
      have hbefore : ∀ h, h ∈ ids pre → prB ops cls anc h i = true := fun h hh => (List.pairwise_append.1 hpw).2.2 h hh i (by simp)
      have haps : Aps ops oi pre := fun h oh hh ho => by
        have h1 := hbefore h hh
        simp only [prB, Bool.and_eq_true] at h1
        replace h1 := h1.1.2
        rw [noanc h (by rw [ids_app]; exact List.mem_append_left _ hh), ho, hoi] at h1
        exact Oper.apart_spec (by simpa using h1)
      have hkc : cls[i]? = some c := inv.kind c i (by simp)
      have hfp := (frs_append _ _ _).1 hfr
      have hwo : ∀ {K : Act → World → Prop}, wpOp P ops Q0 i K a w → wpOp P ops Q i K a w := fun h => wpOp_of_Q0 (fun ⟨_, _, h⟩ => h) h
      rw [phy_append] at hs
      have rdcase : ∀ (hc : c = .rd ∨ c = .pu), wpOp P ops Q i (wpAny P .any ops Q f (ls.setIfInBounds i true)) a w := fun hc => by
        have hCC : CX Hc c w := by
          have h2 : H.le (phy post (phy pre H)) := AH.le_trans (phy_le pre hfp.1) (phy_le post hfp.2)
          rcases hc with rfl | rfl
          · exact ⟨E, hs.mono (AH.le_trans (hrd ⟨i, by simp⟩) h2)⟩
          · trivial
        obtain ⟨v, hy⟩ := GG_ext (e := .op c i) (post := post) (oi := oi) (Φ := fun a => ∃ v, RY P ops (CX Hc c) oi v a) (fun a H hg => by
            have : ∃ o v, ops[i]? = some o ∧ RY P ops (CX Hc c) o v a ∧ GG P ops Hc ops.size R post (a.put o.dst v) H := by
              rcases hc with rfl | rfl <;> exact hg
            obtain ⟨o, v, h1, h2, _⟩ := this
            rw [hoi] at h1; cases h1
            exact ⟨v, h2⟩) (fun oh u a hap ⟨v, hv⟩ => ⟨v, hv.back' hap (fun cs b => hsel i oi cs b hoi) u⟩) pre a H _ w haps hfp.1 (hs.mono (phy_le post hfp.2)) hG
        have hG' := GG_rd hsel hc hoi ⟨w, hCC⟩ pre a H haps hG hy
        refine hy.wpOp hoi hCC (ih _ (pre ++ post) _ H w (by rw [hidl] at hf; rw [ids_app, List.length_append]; omega) ?_ (by rw [phy_append]; exact hs) ((frs_append _ _ _).2 hfp) (fun ⟨j, hj⟩ => hrd ⟨j, by
          rcases List.mem_append.1 hj with h | h
          · exact List.mem_append_left _ h
          · exact List.mem_append_right _ (List.mem_cons_of_mem _ h)⟩) hG')
        exact inv.step hwd (mid := []) rfl (fun _ _ h => by cases h)
      cases c with
      | rd => exact rdcase (.inl rfl)
      | pu => exact rdcase (.inr rfl)
      | al =>
        obtain ⟨p, hg, hp⟩ := GG_ext (e := .op .al i) (post := post) (oi := oi) (Φ := fun a => ∃ p, oi.guard = none ∧ alc P oi.op a.eval = some p) (fun a H hg => by
            obtain ⟨o, p, h1, h2, h3, _⟩ := hg
            rw [hoi] at h1; cases h1
            exact ⟨p, h2, h3⟩) (fun oh u a hap ⟨p, h1, h2⟩ => ⟨p, h1, by rw [← alc_put hap u]; exact h2⟩) pre a H _ w haps hfp.1 (hs.mono (phy_le post hfp.2)) hG
        unfold wpOp
        simp only [hoi]
        have hwant : Region.wanted oi (yielded ops a.tmps) = true := by unfold Region.wanted; rw [hg]
        simp only [hwant, if_true]
        refine .inl ?_
        obtain ⟨nx, w', H', q1, q2, q3⟩ := alc_sound (o := oi) hp (phy post (phy pre H)) E w hs
        have fin : ∀ b w'', Fresh (phy post (phy pre H)) b → Sat E ((phy post (phy pre H)).add b p.2) w'' → wpAny P .any ops Q f (ls.setIfInBounds i true) (a.put oi.dst (p.1 b)) w'' := fun b w'' hb hsb => by
          have hG' := GG_al hsel (b := b) hoi pre a H haps hG hp
          obtain ⟨r1, r2⟩ := phy_add post (k := p.2) hfp.2 hb
          refine ih _ (pre ++ .ea b p.2 :: post) _ H w'' (by rw [hidl] at hf; rw [ids_app, ids_ea, List.length_append]; omega) ?_ ?_ ((frs_append _ _ _).2 ⟨hfp.1, Fresh.of_le (phy_le post hfp.2) hb, r1⟩) (fun ⟨j, hj⟩ => hrd ⟨j, by
            rcases List.mem_append.1 hj with h | h
            · exact List.mem_append_left _ h
            · rcases List.mem_cons.1 h with h | h
              · cases h
              · exact List.mem_append_right _ (List.mem_cons_of_mem _ h)⟩) hG'
          · exact inv.step hwd (mid := [.ea b p.2]) rfl (fun _ _ h => by simp at h)
          · rw [phy_append]; exact hsb.mono r2.le
        unfold Oper.wp
        rw [q1]
        cases nx <;> simp only [anext] at q3 <;> simp only [Oper.upon]
        case value v => obtain ⟨b, hb, rfl, rfl⟩ := q3; exact fin b w' hb q2
        case skip => obtain ⟨b, hb, hv, rfl⟩ := q3; rw [hv]; exact fin b w' hb q2
        case enter fn args =>
          refine (q3 E w' q2).mono ?_
          rintro e w'' ⟨v, H2, rfl, h2, b, hb, rfl, rfl⟩
          exact fin b w'' hb h2
      | ch =>
        have hsoft : soft pre := by
          have key : ∀ l : List En, (∀ c j, En.op c j ∈ l → c = .rd ∨ c = .pu) → soft l := fun l => by
            induction l with
            | nil => intro _; trivial
            | cons e l ihl =>
              intro h
              cases e with
              | op c j => exact ⟨h c j (by simp), ihl fun c j hj => h c j (List.mem_cons_of_mem _ hj)⟩
              | ea b k => exact ihl fun c j hj => h c j (List.mem_cons_of_mem _ hj)
          refine key pre fun c j hj => ?_
          have hjm : j ∈ ids pre := List.mem_filterMap.2 ⟨_, hj, rfl⟩
          have h1 := hbefore j hjm
          simp only [prB, Bool.and_eq_true] at h1
          replace h1 := h1.2
          simp only [Bool.or_eq_true, decide_eq_true_eq] at h1
          rcases h1 with (h1 | h2) | h2
          · exact absurd hkc h1
          · have hkj := inv.kind c j (List.mem_append_left _ hj)
            rw [hkj] at h2
            cases c <;> simp at h2 ⊢
          · have hkj := inv.kind c j (List.mem_append_left _ hj)
            rw [noanc j (by rw [ids_app]; exact List.mem_append_left _ hjm)] at h2
            cases h2
        obtain ⟨N, q1, q2⟩ := GG_ch hsel hoi pre a H haps hsoft hfp.1 hG
        obtain ⟨E1, q3, q4⟩ := Sat.under' post (H := phy pre H) hfp.2 hs
        refine hwo (wpOp_mono' ?_ (q1 E1 w q3))
        rintro a' w' ⟨v, H', rfl, h1, h2⟩
        obtain ⟨r1, r2⟩ := q4 _ _ h1
        obtain ⟨r3, r4⟩ := q2 v H' h2
        have hrd' : (∃ k, En.op .rd k ∈ strip pre ++ post) → Hc.le H' := fun ⟨k, hk⟩ => by
          exact r3 hlt
        refine ih _ (strip pre ++ post) _ H' w' (by rw [hidl] at hf; rw [ids_app, ids_strip, List.length_append]; omega) ?_ (by rw [phy_soft]; exact r1) ((frs_soft _ _ _).2 r2) hrd' r4
        · have h6 := inv.step hwd (mid := []) rfl (fun _ _ h => by cases h)
          refine ⟨h6.size, fun j => ?_, ?_, h6.nd, fun c j hj => h6.kind c j ?_, h6.clo⟩
          · rw [← h6.mem j, ids_app, ids_app, ids_strip]; rfl
          · have := h6.pw
            rw [ids_app] at this
            rw [ids_app, ids_strip]; exact this
          · rcases List.mem_append.1 hj with h | h
            · exact List.mem_append_left _ ((mem_strip _ _ _).1 h)
            · exact List.mem_append_right _ h


end
def sel (ops : Array Oper) : List Nat → List Oper → Prop
  | [], [] => True
  | x :: o, y :: l => ops[x]? = some y ∧ sel ops o l
  | _, _ => False
def entp : List Nat → List Cl → List En
  | x :: o, c :: cs => .op c x :: entp o cs
  | _, _ => []
def prm {α : Type} (l : List α) : List Nat → List α
  | [] => []
  | i :: o => match l[i]? with
    | some x => x :: prm l o
    | none => prm l o
theorem prm_nil {α : Type} {l : List α} : prm l [] = [] := Eq.trans rfl rfl
def pm {α : Type} : Option α → List α → List α
  | some x, l => x :: l
  | none, l => l
theorem pm_some {α : Type} {x : α} {l : List α} : pm (some x) l = x :: l := Eq.trans rfl rfl
theorem prm_eq {α : Type} {l : List α} {i : Nat} {o : List Nat} : prm l (i :: o) = pm l[i]? (prm l o) := by rw [prm]; cases l[i]? <;> rfl
theorem prm_cons {α : Type} {l : List α} {i : Nat} {o : List Nat} {x : α} (h : l[i]? = some x) : prm l (i :: o) = x :: prm l o := by rw [prm, h]
section
variable {P : Program} {ops : Array Oper} {Hc : AH} {n : Nat} {ds : List (Option Tmp)}
theorem gw_GGp {Q : Exit → Fr → AH → Prop} {M : Nat} (hds : ds = ops.toList.map (·.dst)) : ∀ (ord : List Nat) (cs : List Cl) (l : List Oper) (k : Nat) (fr : Fr) (H : AH) (a : Act), clsB cs l = true → sel ops ord l → k + l.length ≤ M →
    gw P n ds Hc M k cs l fr H (Q .normal) → FrOk n fr a → GG P ops Hc ops.size (RR n Q) (entp ord cs) a H
  | [], [], [], k, fr, H, a, _, _, _, h, hf => ⟨fr, H, hf, AH.le_refl _, h⟩
  | _, [], _ :: _, _, _, _, _, hc, _, _, _, _ => by simp [clsB] at hc
  | _, _ :: _, [], _, _, _, _, hc, _, _, _, _ => by simp [clsB] at hc
  | _ :: _, [], [], _, _, _, _, _, hl, _, _, _ => hl.elim
  | [], _ :: _, _ :: _, _, _, _, _, _, hl, _, _, _ => hl.elim
  | x :: ord, c :: cs, o :: l, k, fr, H, a, hc, hl, hM, h, hf => by
    obtain ⟨ho, hl'⟩ := hl
    simp only [List.length_cons] at hM
    have hM' : k + 1 + l.length ≤ M := by omega
    have hkM : k < M := by omega
    simp only [clsB, Bool.and_eq_true] at hc
    cases c with
    | rd =>
      obtain ⟨v, h1, fr', h2, h3⟩ := vops1_rd hds hc.1 h hf
      refine ⟨o, v, ho, ?_, gw_GGp hds ord cs l (k + 1) fr' H _ hc.2 hl' hM' h3 h2⟩
      rcases h1 with ⟨h1, h4⟩ | h1
      · exact .inl ⟨h1, fun w ⟨E, hw⟩ => qrun_sound P _ Hc _ w h4 hw⟩
      · exact .inr h1
    | pu =>
      obtain ⟨v, h1, fr', h2, h3⟩ := vops1_rd hds hc.1 h hf
      refine ⟨o, v, ho, ?_, gw_GGp hds ord cs l (k + 1) fr' H _ hc.2 hl' hM' h3 h2⟩
      rcases h1 with ⟨h1, h4⟩ | h1
      · exact .inl ⟨h1, fun w _ => qrun_bare P _ Hc.w0 _ w h4⟩
      · exact .inr h1
    | al =>
      simp only [Bool.and_eq_true] at hc
      obtain ⟨⟨hg, hal⟩, hc2⟩ := hc
      obtain ⟨d, op, ty, pos, af, g⟩ := o
      cases g with
      | some g => cases hg
      | none =>
        obtain ⟨h1, h2⟩ := h
        obtain ⟨a1, a2, a3⟩ := vop_sound h2
        obtain ⟨p, hp, hk⟩ := alc_vop (o := ⟨d, op, ty, pos, af, none⟩) hal h2
        refine ⟨_, p, ho, rfl, ?_, fun b hb => gw_GGp hds ord cs l (k + 1) _ _ _ hc2 hl' hM' (hk b hb) (hf.put h1 _)⟩
        rw [← hp]
        refine alc_congr fun x hx => hf.eval ?_
        have := List.all_eq_true.1 a1 x (by simpa using hx)
        exact this
    | ch =>
      have h2 := vops_sound _ _ _ h
      simp only [aops] at h2
      split at h2
      · exact h2.elim
      · rename_i g hg
        rw [hds] at hg
        have hw := aguard_sound hf hg
        rw [← hds] at hg
        cases g with
        | true =>
          obtain ⟨hok, h1⟩ := h2.1 rfl
          have hd : dok n o.dst = true := by simp only [okOp, Bool.and_eq_true] at hok; exact hok.2
          refine ⟨o, fun v H' => (k < M → Hc.le H') ∧ gw P n ds Hc M (k + 1) cs l (putf o.dst v (gov ds fr o true)) H' (Q .normal), ho, fun E w hs => ?_, fun v H' hN => ⟨fun _ => hN.1 hkM, gw_GGp hds ord cs l (k + 1) _ H' _ hc.2 hl' hM' hN.2 ((hf.gov hg).put hd v)⟩⟩
          unfold wpOp
          simp only [ho, hw, if_true]
          exact .inl ((aop_sem h1).wp (hf.gov hg) hok hs fun v H' w' hk hs' => ⟨v, H', rfl, hs', hk⟩)
        | false =>
          obtain ⟨hd, h1⟩ := h2.2 rfl
          refine ⟨o, fun v H' => v = undef ∧ H' = H, ho, fun E w hs => ?_, fun v H' hN => ?_⟩
          · unfold wpOp
            simp only [ho, hw, Bool.false_eq_true, if_false]
            exact ⟨undef, H, rfl, hs, rfl, rfl⟩
          · obtain ⟨rfl, rfl⟩ := hN
            exact ⟨fun _ => h1.1 hkM, gw_GGp hds ord cs l (k + 1) _ _ _ hc.2 hl' hM' h1.2 ((hf.gov hg).put hd _)⟩


theorem sel_prm {l : List Oper} : ∀ {ord : List Nat}, (∀ i ∈ ord, i < l.length) → sel l.toArray ord (prm l ord)
  | [], _ => trivial
  | i :: o, h => by
    have hi := h i (by simp)
    have e : l[i]? = some l[i] := List.getElem?_eq_getElem hi
    rw [prm_cons e]
    exact ⟨by simp [hi], sel_prm fun j hj => h j (by simp [hj])⟩
theorem prm_len {α : Type} {l : List α} : ∀ {ord : List Nat}, (∀ i ∈ ord, i < l.length) → (prm l ord).length = ord.length
  | [], _ => rfl
  | i :: o, h => by
    have hi := h i (by simp)
    rw [prm_cons (List.getElem?_eq_getElem hi), List.length_cons, List.length_cons, prm_len fun j hj => h j (by simp [hj])]
theorem ids_entp {cs : List Cl} : ∀ {ord : List Nat}, (∀ i ∈ ord, i < cs.length) → ids (entp ord (prm cs ord)) = ord
  | [], _ => rfl
  | i :: o, h => by
    have hi := h i (by simp)
    rw [prm_cons (List.getElem?_eq_getElem hi), entp, ids_op, ids_entp fun j hj => h j (by simp [hj])]
theorem kind_entp {cs : List Cl} {c : Cl} {j : Nat} : ∀ {ord : List Nat}, (∀ i ∈ ord, i < cs.length) → En.op c j ∈ entp ord (prm cs ord) → cs[j]? = some c
  | [], _, hm => by cases hm
  | i :: o, h, hm => by
    have hi := h i (by simp)
    rw [prm_cons (List.getElem?_eq_getElem hi), entp] at hm
    rcases List.mem_cons.1 hm with hm | hm
    · cases hm; exact List.getElem?_eq_getElem hi
    · exact kind_entp (fun j hj => h j (by simp [hj])) hm
theorem phy_entp : ∀ (ord : List Nat) (cs : List Cl) (H : AH), phy (entp ord cs) H = H ∧ frs (entp ord cs) H
  | [], _, _ => ⟨rfl, trivial⟩
  | _ :: _, [], _ => ⟨rfl, trivial⟩
  | _ :: o, _ :: cs, H => phy_entp o cs H
theorem AWp.genp {id : Nat} {l : List Oper} {Q : Exit → Fr → AH → Prop} {fr : Fr} {H : AH} (cs : List Cl) (anc ord : List Nat) (M : Nat) (Hc : AH) (hm : P.follows .mixedOrders = true) (hB : (genPB l.toArray cs anc ord && clsB (prm cs ord) (prm l ord) && decide (l.length ≤ M)) = true) (hc : Hc.le H)
    (h : nd (l.map (·.dst)) fun ds => gw P n ds Hc M 0 (prm cs ord) (prm l ord) fr H (Q .normal)) : AWp P n (.region id l.toArray true) Q fr H := by
  intro E a w hf hs
  rw [Bool.and_eq_true, Bool.and_eq_true, decide_eq_true_eq] at hB
  obtain ⟨⟨hB1, hB2⟩, hM⟩ := hB
  have h' : gw P n (l.toArray.toList.map (·.dst)) Hc M 0 (prm cs ord) (prm l ord) fr H (Q .normal) := h
  have hB0 := hB1
  simp only [genPB, Bool.and_eq_true, decide_eq_true_eq] at hB0
  obtain ⟨⟨⟨⟨⟨_, hcl⟩, _⟩, _⟩, _⟩, hnd, hol, hrg⟩ := hB0
  have hrg' : ∀ i ∈ ord, i < l.length := fun i hi => by simpa using hrg i hi
  have hrc : ∀ i ∈ ord, i < cs.length := fun i hi => by rw [hcl]; exact hrg i hi
  refine wp_region_any hm ?_
  have hs' : Sat E H { w with drawn := w.drawn + 1 } := hs.drew
  have hG := gw_GGp (ops := l.toArray) (Hc := Hc) (M := M) (P := P) (n := n) (Q := Q) rfl ord (prm cs ord) (prm l ord) 0 fr H a hB2 (sel_prm hrg') (by rw [prm_len hrg', hol]; simpa using hM) h' hf
  have hmem : ∀ i, i < l.length → i ∈ ord := fun i hi => by
    have hp : ord.Perm (List.range l.length) := by
      refine (List.perm_ext_iff_of_nodup hnd List.nodup_range).2 fun x => ⟨fun hx => List.mem_range.2 (hrg' x hx), fun hx => ?_⟩
      rcases Classical.em (x ∈ ord) with h | h
      · exact h
      · exfalso
        have h1 : (x :: ord).Nodup := List.nodup_cons.2 ⟨h, hnd⟩
        have h2 := nodup_range_le (n := l.length) h1 (fun y hy => by
          rcases List.mem_cons.1 hy with rfl | hy
          · exact List.mem_range.1 hx
          · exact hrg' y hy)
        rw [List.length_cons, hol] at h2
        simp at h2
        omega
    exact hp.mem_iff.2 (List.mem_range.2 hi)
  refine gen_anyP (ord := ord) (E := E) (cls := cs) (anc := anc) (Q := AQ E n Q) hB1 (fun a H w ⟨fr, H0, h1, h2, h3⟩ hs => ⟨fr, H0, h1, hs.mono h2, h3⟩) _ _ (entp ord (prm cs ord)) a H _ ?_ ?_ (by rw [(phy_entp _ _ H).1]; exact hs') (phy_entp _ _ H).2 (fun _ => hc) hG
  · rw [ids_entp hrc, hol]
  · refine ⟨by simp, fun i => ?_, by rw [ids_entp hrc]; exact List.Sublist.refl _, hnd, fun c i hci => kind_entp hrc hci, fun x y hx => ?_⟩
    · rw [ids_entp hrc]
      constructor
      · intro hh; exact ⟨hrg i hh, by rw [getD_in (by simpa using hrg i hh) (getD_replicate_false _ _)]⟩
      · intro hh; exact hmem i (by simpa using hh.1)
    · rw [getD_replicate_false] at hx; cases hx
end
end Go.AX

/- ifs: do, Do. -/
namespace Go.Proofs.YtbhamhhjicehaaaGreatDoor.Ifs
set_option linter.unusedSimpArgs false
set_option linter.unusedVariables false
open Go Go.AX Go.Proofs Ty Go.Proofs.YtbhamhhjicehaaaGreatDoor.File Go.Proofs.YtbhamhhjicehaaaGreatDoor.Err
set_option maxHeartbeats 4000000
set_option maxRecDepth 10000

theorem StIn.rep {H : AH} {b bm k : Nat} {ms : List MF} {den : Int} {m m' : MF} {T : AH} (h : StIn H b bm ms den) (hk : ms[k]? = some m) (hn : m'.n = m.n) (hf : Fresh H m'.blk) (hb : m'.R.length * 4 ≤ m'.bs)
    (hT : T = (H.set bm (.amap ((ms.map MF.ent).set k m'.ent))).add m'.blk (.cells (m'.R.map enc).flatten 76 m'.bs)) : StIn T b bm (ms.set k m') den := by
  subst hT
  have e1 : b ≠ m'.blk := fun e => by have := hf.2; rw [← e, h.top] at this; cases this
  have e2 : bm ≠ m'.blk := fun e => by have := hf.2; rw [← e, h.map] at this; cases this
  have e4 : ∀ x ∈ ms, x.blk ≠ m'.blk := fun x hx e => by have h2 := hf.2; rw [← e, (h.rows x hx).1] at h2; cases h2
  refine ⟨?_, ?_, fun x hx => ?_, ?_, ?_⟩
  · rw [find_add, if_neg e1, find_set, if_neg h.ne1]; exact h.top
  · rw [find_add, if_neg e2, find_set, if_pos rfl, List.map_set]
  · rcases List.mem_or_eq_of_mem_set hx with hx | rfl
    · have := h.rows x hx
      exact ⟨by rw [find_add, if_neg (e4 x hx), find_set, if_neg (h.ne3 hx)]; exact this.1, this.2⟩
    · exact ⟨by rw [find_add, if_pos rfl], hb⟩
  · rw [List.map_set, List.Nodup, List.pairwise_iff_getElem]
    intro i j hi hj hij
    have hnd := h.nd
    rw [List.Nodup, List.pairwise_iff_getElem] at hnd
    simp only [List.length_set, List.length_map] at hi hj
    rw [List.getElem_set, List.getElem_set]
    split
    · rw [if_neg (by omega)]
      have := e4 ms[j] (List.getElem_mem _)
      simpa using fun e => this e.symm
    · split
      · have := e4 ms[i] (List.getElem_mem _)
        simpa using this
      · exact hnd i j (by simpa using hi) (by simpa using hj) hij
  · rw [setMs hk hn h.kd]; exact rp_kd h.kd
theorem StIn.ftR {b bm k : Nat} {ms : List MF} {m' : MF} {ft : Nat → Prop} (h : ∀ x, ftOf b bm ms x → ft x) {x : Nat} (hx : ftOf b bm (ms.set k m') x) : ft x ∨ x = m'.blk := by
  rcases hx with hx | hx | ⟨y, hy, rfl⟩
  · exact .inl (h x (.inl hx))
  · exact .inl (h x (.inr (.inl hx)))
  · rcases List.mem_or_eq_of_mem_set hy with hy | rfl
    · exact .inl (h _ (.inr (.inr ⟨y, hy, rfl⟩)))
    · exact .inr rfl
theorem agood_in {a b c : Int} (h : agood a b c = true) : 0 ≤ a ∧ a ≤ 2 ∧ 0 ≤ b ∧ b < 64 ∧ 0 ≤ c ∧ c < 256 := by simpa [agood] using h
theorem doR_len (R : List Rc) (op : Int) (i : Nat) (v : Rc) : (doR R op i v).length = R.length := by
  unfold doR; split
  · simp
  · split <;> simp
theorem do_c {H : AH} {b : Nat} {X : List Nf} {den : Int} {ft : Nat → Prop} (h : StAt H b X den ft) (hX : OkX X) (op fl rec : Int) (v : Rc) :
    ACalls Tryz.prog 102 #[.pointer (some ⟨b, 0, none⟩), .agg #[.int .i64 op, .int .i64 fl, .int .i64 rec], .agg (enc v).toArray] H
      (fun u H' => ∃ ev ft', u = .tuple #[.agg (enc (doW X op fl rec v)).toArray, ev] ∧ ErrV H' ev (doE X op fl rec) ∧ StAt H' b (doX X op fl rec v) den ft' ∧ Keep H H' ft ∧ ∀ x, ft' x → ft x ∨ Fresh H x) := by
  have bad : ∀ {e : Int} {T H' : AH} {ev : Value}, doE X op fl rec = e → e ≠ 0 → H'.le T → Keep H H' (fun _ => False) → ErrV H' ev e → ∃ H', H'.le T ∧ ∃ ev' ft', Value.tuple #[.agg (enc zr).toArray, ev] = .tuple #[.agg (enc (doW X op fl rec v)).toArray, ev'] ∧ ErrV H' ev' (doE X op fl rec) ∧ StAt H' b (doX X op fl rec v) den ft' ∧ Keep H H' ft ∧ ∀ x, ft' x → ft x ∨ Fresh H x := fun {e T H' ev} he h0 hl hK hv => by
    have hx : doX X op fl rec v = X := by rw [doX, he, if_neg h0]
    have hw : doW X op fl rec v = zr := by rw [doW, he, if_neg h0]
    exact ⟨H', hl, ev, ft, by rw [hw], he ▸ hv, by rw [hx]; exact h.keep hK fun _ _ h => h, hK.mono fun _ h => h.elim, fun x h => .inl h⟩
  refine ACalls.enter2 Tryz.func102 rfl Tryz.ntmps102 Tryz.results102 (by simp) ?_; simp (dsimp := false) (maxSteps := 4000000) only [enc_len, enc_scal, lput_enc, take_enc, go_sem]
  refine AllB.mk fun b4 h_b4 => ?_; have hn_b4 := h_b4; (try simp only [fresh_add, fresh_set, ne_eq] at hn_b4); have hr_b4 := hn_b4; (try simp only [@eq_comm Nat b4] at hr_b4); simp (dsimp := false) (maxSteps := 4000000) only [enc_len, enc_scal, lput_enc, take_enc, hn_b4, hr_b4, go_sem]
  refine AllB.mk fun b5 h_b5 => ?_; have hn_b5 := h_b5; (try simp only [fresh_add, fresh_set, ne_eq] at hn_b5); have hr_b5 := hn_b5; (try simp only [@eq_comm Nat b5] at hr_b5); simp (dsimp := false) (maxSteps := 4000000) only [enc_len, enc_scal, lput_enc, take_enc, hn_b4, hr_b4, hn_b5, hr_b5, go_sem]
  refine AllB.mk fun b6 h_b6 => ?_; have hn_b6 := h_b6; (try simp only [fresh_add, fresh_set, ne_eq] at hn_b6); have hr_b6 := hn_b6; (try simp only [@eq_comm Nat b6] at hr_b6); simp (dsimp := false) (maxSteps := 4000000) only [enc_len, enc_scal, lput_enc, take_enc, hn_b4, hr_b4, hn_b5, hr_b5, hn_b6, hr_b6, go_sem]
  refine (Go.Proofs.YtbhamhhjicehaaaGreatDoor.Good_c op fl rec _).mono ?_; rintro _ _ ⟨rfl, rfl⟩
  cases hg : agood op fl rec with
  | false =>
    simp (dsimp := false) (maxSteps := 4000000) only [enc_len, enc_scal, lput_enc, take_enc, hn_b4, hr_b4, hn_b5, hr_b5, hn_b6, hr_b6, go_sem]
    exact bad (e := 1) (H' := H) (by simp [doE, hg]) (by decide) (AH.le_add (AH.le_add (AH.le_add (AH.le_refl _) ((by simp only [enc_len, enc_scal, lput_enc, take_enc, fresh_add, fresh_set, ne_eq, hn_b4, not_false_eq_true, and_self] : Fresh _ b4).2)) ((by simp only [enc_len, enc_scal, lput_enc, take_enc, fresh_add, fresh_set, ne_eq, hn_b5, not_false_eq_true, and_self] : Fresh _ b5).2)) ((by simp only [enc_len, enc_scal, lput_enc, take_enc, fresh_add, fresh_set, ne_eq, hn_b6, not_false_eq_true, and_self] : Fresh _ b6).2)) Keep.refl (.inr (.inl rfl))
  | true =>
    obtain ⟨hop0, hop1, hfl0, hfl1, hrec0, hrec1⟩ := agood_in hg
    obtain ⟨bm, ms, h1, rfl, hft⟩ := h
    have r0 : H.rd ⟨b, 0, none⟩ = some (.map (some bm)) := by rw [rd_find h1.top]; rfl
    have hmp : H.mp bm = some (ms.map MF.ent) := by rw [AH.mp, h1.map]
    have hms : ∀ es, H.mset bm es = some (H.set bm (.amap es)) := fun es => by rw [AH.mset, h1.map]
    have n1 : ¬ b4 = b := h_b4.ne_find h1.top
    have n2 : ¬ b4 = bm := h_b4.ne_find h1.map
    have n3 : ¬ b5 = b := hn_b5.2.ne_find h1.top
    have n4 : ¬ b5 = bm := hn_b5.2.ne_find h1.map
    have n5 : ¬ b6 = b := hn_b6.2.2.ne_find h1.top
    have n6 : ¬ b6 = bm := hn_b6.2.2.ne_find h1.map
    simp (dsimp := false) (maxSteps := 4000000) only [enc_len, enc_scal, lput_enc, take_enc, hn_b4, hr_b4, hn_b5, hr_b5, hn_b6, hr_b6, go_sem]
    refine AWp.gen [.pu, .pu, .pu, .rd, .pu, .rd, .ch, .pu, .pu, .pu, .al, .ch, .pu] [0, 1, 3, 7, 0, 16, 63, 127, 255, 255, 0, 1535, 4095] 0 (_) mixed (by kernel_rfl) (AH.le_refl _) ?_
    rcases h1.at_ fl with ⟨hm, hl⟩ | ⟨k, m, hm, hk, hn, hl⟩
    · have he : doE (ms.map MF.nf) op fl rec = 3 := by simp [doE, hg, hl]
      
      simp (dsimp := false) (maxSteps := 4000000) only [r0, n1, n2, n3, n4, n5, n6, hmp, hm, enc_len, enc_scal, lput_enc, take_enc, hn_b4, hr_b4, hn_b5, hr_b5, hn_b6, hr_b6, go_sem]
      refine AllB.mk fun b8 h_b8 => ?_; have hn_b8 := h_b8; (try simp only [fresh_add, fresh_set, ne_eq] at hn_b8); have hr_b8 := hn_b8; (try simp only [@eq_comm Nat b8] at hr_b8); simp (dsimp := false) (maxSteps := 4000000) only [enc_len, enc_scal, lput_enc, take_enc, hn_b4, hr_b4, hn_b5, hr_b5, hn_b6, hr_b6, hn_b8, hr_b8, go_sem]
      refine AWp.genp [.pu, .pu, .rd, .pu, .pu, .al, .pu, .ch, .pu] [0, 0, 2, 0, 14, 30, 62, 1, 255] [0, 1, 2, 3, 4, 7, 5, 6, 8] 10 (_) mixed (by kernel_rfl) (AH.le_refl _) ?_; rw [nd_eq]; simp (dsimp := false) only [prm_nil, prm_eq, pm_some, List.getElem?_cons_zero, List.getElem?_cons_succ, ↓reduceIte, Nat.reduceEqDiff, Nat.reduceLT, Nat.reduceLeDiff, Nat.reduceAdd, Nat.reduceMul, Nat.reduceSub, reduceCtorEq, Int.reduceToNat, Int.reduceLT, Int.reduceLE, Int.reduceEq, Int.reduceNe, Int.reduceBEq, Nat.reduceBEq, Int.reduceBNe, Nat.reduceBNe, Int.reduceAdd, Int.reduceSub, Int.reduceMul, Int.reduceNeg]
      simp (dsimp := false) (maxSteps := 4000000) only [enc_len, enc_scal, lput_enc, take_enc, hn_b4, hr_b4, hn_b5, hr_b5, hn_b6, hr_b6, hn_b8, hr_b8, go_sem]
      refine AllB.mk fun bf h_bf => ?_; have hn_bf := h_bf; (try simp only [fresh_add, fresh_set, ne_eq] at hn_bf); have hr_bf := hn_bf; (try simp only [@eq_comm Nat bf] at hr_bf); simp (dsimp := false) (maxSteps := 4000000) only [enc_len, enc_scal, lput_enc, take_enc, hn_b4, hr_b4, hn_b5, hr_b5, hn_b6, hr_b6, hn_b8, hr_b8, hn_bf, hr_bf, go_sem]
      exact bad (e := 3) (H' := H.add bf (.cells [.int .i64 fl, .iface 32 (.int .i64 3)] 199 2)) he (by decide) (AH.le_cons (find_add_self _ _ _) (AH.le_add (AH.le_add (AH.le_add (AH.le_add (AH.le_add (AH.le_refl _) ((by simp only [enc_len, enc_scal, lput_enc, take_enc, fresh_add, fresh_set, ne_eq, hn_b4, not_false_eq_true, and_self] : Fresh _ b4).2)) ((by simp only [enc_len, enc_scal, lput_enc, take_enc, fresh_add, fresh_set, ne_eq, hn_b5, not_false_eq_true, and_self] : Fresh _ b5).2)) ((by simp only [enc_len, enc_scal, lput_enc, take_enc, fresh_add, fresh_set, ne_eq, hn_b6, not_false_eq_true, and_self] : Fresh _ b6).2)) ((by simp only [enc_len, enc_scal, lput_enc, take_enc, fresh_add, fresh_set, ne_eq, hn_b8, not_false_eq_true, and_self] : Fresh _ b8).2)) ((by simp only [enc_len, enc_scal, lput_enc, take_enc, fresh_add, fresh_set, ne_eq, hn_bf, not_false_eq_true, and_self] : Fresh _ bf).2))) (Keep.add hn_bf.2.2.2.2) (.inr (.inr ⟨bf, 0, rfl, by rw [rd_add_self]; rfl⟩))
      
    · obtain ⟨i, rfl⟩ : ∃ i : Nat, rec = i := ⟨rec.toNat, by omega⟩
      obtain ⟨_, hgd, _⟩ := hX.lk hl
      obtain ⟨hl1, hl2⟩ := goodF_len hgd
      dsimp only at hl1 hl2
      have hmem := List.mem_of_getElem? hk
      have hs := h1.slc hmem (by omega)
      have he : doE (ms.map MF.nf) op fl i = mayF m.p m.R op i := by simp [doE, hg, hl]
      unfold MF.val fv at hm
      
      simp (dsimp := false) (maxSteps := 4000000) only [r0, n1, n2, n3, n4, n5, n6, hmp, hm, enc_len, enc_scal, lput_enc, take_enc, hn_b4, hr_b4, hn_b5, hr_b5, hn_b6, hr_b6, go_sem]
      refine AllB.mk fun b8 h_b8 => ?_; have hn_b8 := h_b8; (try simp only [fresh_add, fresh_set, ne_eq] at hn_b8); have hr_b8 := hn_b8; (try simp only [@eq_comm Nat b8] at hr_b8); simp (dsimp := false) (maxSteps := 4000000) only [enc_len, enc_scal, lput_enc, take_enc, hn_b4, hr_b4, hn_b5, hr_b5, hn_b6, hr_b6, hn_b8, hr_b8, go_sem]
      by_cases hmay : mayF m.p m.R op i = 0
      · have hc := fun H1 (h1 : SlcIn H1 4 (some ⟨m.blk, 0, none⟩) m.R.length (m.R.map enc)) => Do_ok m.p op i m.R v _ _ H1 h1 hmay
        unfold fv at hc
        
        refine (hc _ ((((hs.add (by simp only [fresh_add, ne_eq, hn_b4, not_false_eq_true, and_self] : Fresh _ b4)).add (by simp only [fresh_add, ne_eq, hn_b5, not_false_eq_true, and_self] : Fresh _ b5)).add (by simp only [fresh_add, ne_eq, hn_b6, not_false_eq_true, and_self] : Fresh _ b6)).add (by simp only [fresh_add, ne_eq, hn_b8, not_false_eq_true, and_self] : Fresh _ b8))).mono ?_; rintro _ _ ⟨b9, bs, h_b9, rfl, hbs, rfl⟩
        have hn_b9 := h_b9; (try simp only [fresh_add, fresh_set, ne_eq] at hn_b9); have hr_b9 := hn_b9; (try simp only [@eq_comm Nat b9] at hr_b9)
        simp (dsimp := false) (maxSteps := 4000000) only [enc_len, enc_scal, lput_enc, take_enc, hn_b4, hr_b4, hn_b5, hr_b5, hn_b6, hr_b6, hn_b8, hr_b8, hn_b9, hr_b9, go_sem]
        refine AllB.mk fun b10 h_b10 => ?_; have hn_b10 := h_b10; (try simp only [fresh_add, fresh_set, ne_eq] at hn_b10); have hr_b10 := hn_b10; (try simp only [@eq_comm Nat b10] at hr_b10); simp (dsimp := false) (maxSteps := 4000000) only [enc_len, enc_scal, lput_enc, take_enc, hn_b4, hr_b4, hn_b5, hr_b5, hn_b6, hr_b6, hn_b8, hr_b8, hn_b9, hr_b9, hn_b10, hr_b10, go_sem]
        refine AllB.mk fun b11 h_b11 => ?_; have hn_b11 := h_b11; (try simp only [fresh_add, fresh_set, ne_eq] at hn_b11); have hr_b11 := hn_b11; (try simp only [@eq_comm Nat b11] at hr_b11); simp (dsimp := false) (maxSteps := 4000000) only [enc_len, enc_scal, lput_enc, take_enc, hn_b4, hr_b4, hn_b5, hr_b5, hn_b6, hr_b6, hn_b8, hr_b8, hn_b9, hr_b9, hn_b10, hr_b10, hn_b11, hr_b11, go_sem]
        refine AWp.gen [.pu, .pu, .pu, .rd, .pu, .rd, .rd, .ch] [0, 1, 3, 7, 0, 16, 0, 127] 0 (_) mixed (by kernel_rfl) (AH.le_refl _) ?_
        have n7 : ¬ b8 = b := hn_b8.2.2.2.ne_find h1.top
        have n8 : ¬ b8 = bm := hn_b8.2.2.2.ne_find h1.map
        have n9 : ¬ b9 = b := hn_b9.2.2.2.2.ne_find h1.top
        have n10 : ¬ b9 = bm := hn_b9.2.2.2.2.ne_find h1.map
        have n11 : ¬ b10 = b := hn_b10.2.2.2.2.2.ne_find h1.top
        have n12 : ¬ b10 = bm := hn_b10.2.2.2.2.2.ne_find h1.map
        have n13 : ¬ b11 = b := hn_b11.2.2.2.2.2.2.ne_find h1.top
        have n14 : ¬ b11 = bm := hn_b11.2.2.2.2.2.2.ne_find h1.map
        simp (dsimp := false) (maxSteps := 4000000) only [r0, n1, n2, n3, n4, n5, n6, n7, n8, n9, n10, n11, n12, n13, n14, hmp, hms, hm, enc_len, enc_scal, lput_enc, take_enc, hn_b4, hr_b4, hn_b5, hr_b5, hn_b6, hr_b6, hn_b8, hr_b8, hn_b9, hr_b9, hn_b10, hr_b10, hn_b11, hr_b11, go_sem]
        subst hn
        have hdl := doR_len m.R op i v
        have hx : doX (ms.map MF.nf) op m.n i v = rp m.n (m.p, doR m.R op i v) (ms.map MF.nf) := by
          rw [doX, if_pos (by rw [he]; exact hmay), hl]; rfl
        have hw : doW (ms.map MF.nf) op m.n i v = (doR m.R op i v).getD i zr := by
          rw [doW, if_pos (by rw [he]; exact hmay), hl]; rfl
        have hent : (MF.mk m.n m.p b9 bs (doR m.R op i v)).ent = (.int .i64 m.n, .agg #[.int .i64 m.p, .slice (some ⟨b9, 0, none⟩) m.R.length m.R.length]) := by rw [MF.ent, MF.val, hdl]; rfl
        
        refine ⟨(H.set bm (.amap ((ms.map MF.ent).set k (MF.mk m.n m.p b9 bs (doR m.R op i v)).ent))).add b9 (.cells ((doR m.R op i v).map enc).flatten 76 bs), ?_, .nilIface, ftOf b bm (ms.set k (MF.mk m.n m.p b9 bs (doR m.R op i v))), ?_, .inl ⟨rfl, by rw [he]; exact hmay⟩, ?_, ?_, ?_⟩
        · rw [hent]
          exact (by refine AH.le_cons ?_ ?_; (show AH.find _ _ = _; simp only [find_add_self, find_add_ne, find_fresh, fresh_add, fresh_set, ne_eq, not_false_eq_true, true_and, and_true, and_self, enc_len, n2, n4, n6, n8, n10, n12, n14, hn_b4, hr_b4, hn_b5, hr_b5, hn_b6, hr_b6, hn_b8, hr_b8, hn_b9, hr_b9, hn_b10, hr_b10, hn_b11, hr_b11]); (repeat (first | exact AH.le_refl _ | refine AH.le_add ?_ ?_)); all_goals (first | exact AH.le_refl _ | (show AH.find _ _ = _; simp only [find_add_self, find_add_ne, find_fresh, fresh_add, fresh_set, ne_eq, not_false_eq_true, true_and, and_true, and_self, enc_len, n2, n4, n6, n8, n10, n12, n14, hn_b4, hr_b4, hn_b5, hr_b5, hn_b6, hr_b6, hn_b8, hr_b8, hn_b9, hr_b9, hn_b10, hr_b10, hn_b11, hr_b11])))
        · rw [hw]
        · rw [hx]
          exact ⟨bm, _, h1.rep (m' := MF.mk m.n m.p b9 bs (doR m.R op i v)) hk rfl hn_b9.2.2.2.2 (by dsimp only; rw [hdl]; exact hbs) rfl, setMs (m' := MF.mk m.n m.p b9 bs (doR m.R op i v)) hk rfl h1.kd, fun x => Iff.rfl⟩
        · exact (Keep.set.mono fun x hx => (hft x).2 (.inr (.inl hx))).trans (Keep.add (Fresh.mk' hn_b9.2.2.2.2 n10))
        · intro x hx
          rcases StIn.ftR (m' := MF.mk m.n m.p b9 bs (doR m.R op i v)) (fun x => (hft x).2) hx with hx | rfl
          · exact .inl hx
          · exact .inr hn_b9.2.2.2.2
        
        
      · have hc := fun H1 (h1 : SlcIn H1 4 (some ⟨m.blk, 0, none⟩) m.R.length (m.R.map enc)) => Do_bad m.p op i m.R v _ _ H1 h1 hmay
        unfold fv at hc
        
        refine (hc _ ((((hs.add (by simp only [fresh_add, ne_eq, hn_b4, not_false_eq_true, and_self] : Fresh _ b4)).add (by simp only [fresh_add, ne_eq, hn_b5, not_false_eq_true, and_self] : Fresh _ b5)).add (by simp only [fresh_add, ne_eq, hn_b6, not_false_eq_true, and_self] : Fresh _ b6)).add (by simp only [fresh_add, ne_eq, hn_b8, not_false_eq_true, and_self] : Fresh _ b8))).mono ?_; rintro _ _ ⟨rfl, rfl⟩
        simp (dsimp := false) (maxSteps := 4000000) only [dbad, enc_len, enc_scal, lput_enc, take_enc, hn_b4, hr_b4, hn_b5, hr_b5, hn_b6, hr_b6, hn_b8, hr_b8, go_sem]
        refine AllB.mk fun b10 h_b10 => ?_; have hn_b10 := h_b10; (try simp only [fresh_add, fresh_set, ne_eq] at hn_b10); have hr_b10 := hn_b10; (try simp only [@eq_comm Nat b10] at hr_b10); simp (dsimp := false) (maxSteps := 4000000) only [enc_len, enc_scal, lput_enc, take_enc, hn_b4, hr_b4, hn_b5, hr_b5, hn_b6, hr_b6, hn_b8, hr_b8, hn_b10, hr_b10, go_sem]
        refine AllB.mk fun b11 h_b11 => ?_; have hn_b11 := h_b11; (try simp only [fresh_add, fresh_set, ne_eq] at hn_b11); have hr_b11 := hn_b11; (try simp only [@eq_comm Nat b11] at hr_b11); simp (dsimp := false) (maxSteps := 4000000) only [enc_len, enc_scal, lput_enc, take_enc, hn_b4, hr_b4, hn_b5, hr_b5, hn_b6, hr_b6, hn_b8, hr_b8, hn_b10, hr_b10, hn_b11, hr_b11, go_sem]
        simp (dsimp := false) (maxSteps := 4000000) only [hmay, enc_len, enc_scal, lput_enc, take_enc, hn_b4, hr_b4, hn_b5, hr_b5, hn_b6, hr_b6, hn_b8, hr_b8, hn_b10, hr_b10, hn_b11, hr_b11, go_sem]
        refine AWp.genp [.pu, .pu, .rd, .pu, .pu, .pu, .al, .pu, .ch, .pu] [0, 0, 2, 0, 8, 30, 62, 126, 1, 511] [0, 1, 2, 3, 4, 5, 8, 6, 7, 9] 11 (_) mixed (by kernel_rfl) (AH.le_refl _) ?_; rw [nd_eq]; simp (dsimp := false) only [prm_nil, prm_eq, pm_some, List.getElem?_cons_zero, List.getElem?_cons_succ, ↓reduceIte, Nat.reduceEqDiff, Nat.reduceLT, Nat.reduceLeDiff, Nat.reduceAdd, Nat.reduceMul, Nat.reduceSub, reduceCtorEq, Int.reduceToNat, Int.reduceLT, Int.reduceLE, Int.reduceEq, Int.reduceNe, Int.reduceBEq, Nat.reduceBEq, Int.reduceBNe, Nat.reduceBNe, Int.reduceAdd, Int.reduceSub, Int.reduceMul, Int.reduceNeg]
        simp (dsimp := false) (maxSteps := 4000000) only [enc_len, enc_scal, lput_enc, take_enc, hn_b4, hr_b4, hn_b5, hr_b5, hn_b6, hr_b6, hn_b8, hr_b8, hn_b10, hr_b10, hn_b11, hr_b11, go_sem]
        refine AllB.mk fun bf h_bf => ?_; have hn_bf := h_bf; (try simp only [fresh_add, fresh_set, ne_eq] at hn_bf); have hr_bf := hn_bf; (try simp only [@eq_comm Nat bf] at hr_bf); simp (dsimp := false) (maxSteps := 4000000) only [enc_len, enc_scal, lput_enc, take_enc, hn_b4, hr_b4, hn_b5, hr_b5, hn_b6, hr_b6, hn_b8, hr_b8, hn_b10, hr_b10, hn_b11, hr_b11, hn_bf, hr_bf, go_sem]
        exact bad (e := mayF m.p m.R op i) (H' := H.add bf (.cells [.int .i64 fl, .iface 32 (.int .i64 (mayF m.p m.R op i))] 199 2)) he hmay (AH.le_cons (find_add_self _ _ _) (AH.le_add (AH.le_add (AH.le_add (AH.le_add (AH.le_add (AH.le_add (AH.le_add (AH.le_refl _) ((by simp only [enc_len, enc_scal, lput_enc, take_enc, fresh_add, fresh_set, ne_eq, hn_b4, not_false_eq_true, and_self] : Fresh _ b4).2)) ((by simp only [enc_len, enc_scal, lput_enc, take_enc, fresh_add, fresh_set, ne_eq, hn_b5, not_false_eq_true, and_self] : Fresh _ b5).2)) ((by simp only [enc_len, enc_scal, lput_enc, take_enc, fresh_add, fresh_set, ne_eq, hn_b6, not_false_eq_true, and_self] : Fresh _ b6).2)) ((by simp only [enc_len, enc_scal, lput_enc, take_enc, fresh_add, fresh_set, ne_eq, hn_b8, not_false_eq_true, and_self] : Fresh _ b8).2)) ((by simp only [enc_len, enc_scal, lput_enc, take_enc, fresh_add, fresh_set, ne_eq, hn_b10, not_false_eq_true, and_self] : Fresh _ b10).2)) ((by simp only [enc_len, enc_scal, lput_enc, take_enc, fresh_add, fresh_set, ne_eq, hn_b11, not_false_eq_true, and_self] : Fresh _ b11).2)) ((by simp only [enc_len, enc_scal, lput_enc, take_enc, fresh_add, fresh_set, ne_eq, hn_bf, not_false_eq_true, and_self] : Fresh _ bf).2))) (Keep.add hn_bf.2.2.2.2.2.2) (.inr (.inr ⟨bf, 0, rfl, by rw [rd_add_self]; rfl⟩))
        
      
end Go.Proofs.YtbhamhhjicehaaaGreatDoor.Ifs

/- ifs: Do. -/
namespace Go.Proofs.YtbhamhhjicehaaaGreatDoor.Ifs
set_option linter.unusedSimpArgs false
set_option linter.unusedVariables false
open Go Go.AX Go.Proofs Ty Go.Proofs.YtbhamhhjicehaaaGreatDoor.File Go.Proofs.YtbhamhhjicehaaaGreatDoor.Err
set_option maxHeartbeats 4000000
set_option maxRecDepth 10000

theorem _root_.Go.AX.Keep.of_find {A T : AH} {ex : Nat → Prop} (h0 : T.w0 = A.w0) (h : ∀ x, ¬ ex x → T.find x = A.find x) : Keep A T ex := ⟨h0, fun x hx _ => h x hx⟩
theorem _root_.Go.AX.Keep.rd {A T : AH} (h : Keep A T fun _ => False) {a : Addr} {v : Value} (hr : A.rd a = some v) : T.rd a = some v := by
  unfold AH.rd at hr ⊢
  have hk : (A.find a.block).isSome ∨ a.block < A.w0.heap.size := by
    cases hf : A.find a.block with
    | some k => exact .inl rfl
    | none =>
      rw [hf] at hr
      simp only at hr
      split at hr
      · rename_i h; exact .inr h
      · cases hr
  rw [h.at_ _ (fun h => h) hk, h.w0]; exact hr
theorem ErrV.keep {A T : AH} {v : Value} {e : Int} (h : ErrV A v e) (hk : Keep A T fun _ => False) : ErrV T v e := by
  rcases h with h | h | ⟨b, o, h, hr⟩
  · exact .inl h
  · exact .inr (.inl h)
  · exact .inr (.inr ⟨b, o, h, hk.rd hr⟩)
theorem ErrV.over {S : AH} {b bm t : Nat} {den den' e : Int} {v : Value} (h : ErrV (S.add b (.cells [.map (some bm), .int .i64 den] t 2)) v e) : ErrV (S.add b (.cells [.map (some bm), .int .i64 den'] t 2)) v e := by
  rcases h with h | h | ⟨c, o, h, hr⟩
  · exact .inl h
  · exact .inr (.inl h)
  · refine .inr (.inr ⟨c, o, h, ?_⟩)
    by_cases e : c = b
    · subst e
      rw [rd_add_self] at hr
      match o, hr with
      | 0, hr => cases hr
      | o + 1, hr => cases hr
    · rw [rd_add_ne _ (fun h => e h.symm)] at hr ⊢
      exact hr
theorem StAt.den {A T : AH} {b bm c : Nat} {X : List Nf} {den den' : Int} {ft : Nat → Prop} (h : StAt A b X den ft) (hb : A.find b = some (.cells [.map (some bm), .int .i64 den] 113 2)) (hc : ¬ ft c)
    (h0 : T.find b = some (.cells [.map (some bm), .int .i64 den'] 113 2)) (hT : ∀ x, x ≠ b → x ≠ c → T.find x = A.find x) : StAt T b X den' ft := by
  obtain ⟨bm', ms, h1, h2, h3⟩ := h
  have e := h1.top
  rw [hb] at e
  obtain rfl : bm = bm' := by simpa using e
  have hne : ∀ x, ftOf b bm ms x → x ≠ c := fun x hx e => hc (e ▸ (h3 x).2 hx)
  refine ⟨bm, ms, ⟨h0, ?_, fun m hm => ?_, h1.nd, h1.kd⟩, h2, h3⟩
  · rw [hT bm (fun e => h1.ne1 e.symm) (hne _ (.inr (.inl rfl)))]; exact h1.map
  · have := h1.rows m hm
    exact ⟨by rw [hT _ (h1.ne2 hm) (hne _ (.inr (.inr ⟨m, hm, rfl⟩)))]; exact this.1, this.2⟩
def doV (X : List Nf) (op fl rec : Int) (v : Rc) : Value := .tuple #[.agg (enc (doW X op fl rec v)).toArray, .int .i64 (doE X op fl rec)]
theorem Do_c {H : AH} {b : Nat} {X : List Nf} {den : Int} {ft : Nat → Prop} (hE : ErrT H.w0) (h : StAt H b X den ft) (hX : OkX X) (op fl rec : Int) (v : Rc) :
    ACalls Tryz.prog 62 #[.pointer (some ⟨b, 0, none⟩), .agg #[.int .i64 op, .int .i64 fl, .int .i64 rec], .agg (enc v).toArray] H
      (fun u H' => ∃ ft', u = doV X op fl rec v ∧ StAt H' b (doX X op fl rec v) (doD X op fl rec den) ft' ∧ Keep H H' ft ∧ ∀ x, ft' x → ft x ∨ Fresh H x) := by
  have hd := fun H1 (h1 : StAt H1 b X den ft) => do_c h1 hX op fl rec v
  refine ACalls.enter2 Tryz.func62 rfl Tryz.ntmps62 Tryz.results62 (by simp) ?_; simp (dsimp := false) (maxSteps := 4000000) only [enc_len, enc_scal, lput_enc, take_enc, go_sem]
  refine AllB.mk fun b4 h_b4 => ?_; have hn_b4 := h_b4; (try simp only [fresh_add, fresh_set, ne_eq] at hn_b4); have hr_b4 := hn_b4; (try simp only [@eq_comm Nat b4] at hr_b4); simp (dsimp := false) (maxSteps := 4000000) only [enc_len, enc_scal, lput_enc, take_enc, hn_b4, hr_b4, go_sem]
  refine AllB.mk fun b5 h_b5 => ?_; have hn_b5 := h_b5; (try simp only [fresh_add, fresh_set, ne_eq] at hn_b5); have hr_b5 := hn_b5; (try simp only [@eq_comm Nat b5] at hr_b5); simp (dsimp := false) (maxSteps := 4000000) only [enc_len, enc_scal, lput_enc, take_enc, hn_b4, hr_b4, hn_b5, hr_b5, go_sem]
  refine AllB.mk fun b6 h_b6 => ?_; have hn_b6 := h_b6; (try simp only [fresh_add, fresh_set, ne_eq] at hn_b6); have hr_b6 := hn_b6; (try simp only [@eq_comm Nat b6] at hr_b6); simp (dsimp := false) (maxSteps := 4000000) only [enc_len, enc_scal, lput_enc, take_enc, hn_b4, hr_b4, hn_b5, hr_b5, hn_b6, hr_b6, go_sem]
  have hK0 : Keep H (((H.add b4 (.cells [.int .i64 op, .int .i64 fl, .int .i64 rec] 138 3)).add b5 (.cells (enc v) 76 4)).add b6 (.cells [.int .u8 0, .int .u8 0, .int .u8 0, .int .u8 0] 76 4)) fun _ => False := ((Keep.refl.nw h_b4).nw h_b5).nw h_b6
  refine (hd _ (h.keep hK0 fun _ _ h => h)).monoW ?_
  rintro _ A ⟨ev, ft', rfl, hev, hst, hK, hft'⟩
  obtain ⟨bm, ht⟩ := hst.find
  have hnft : ∀ {x}, Fresh H x → ¬ ft x := fun hf => h.fresh hf
  have h6 := hK.find (hnft hn_b6.2.2) (find_add_self _ _ _)
  have n6 : b6 ≠ b := fun e => by rw [e, ht] at h6; simp at h6
  have f6 : ¬ ft' b6 := fun hx => by
    rcases hft' _ hx with hx | hx
    · exact hnft hn_b6.2.2 hx
    · have := hx.2
      rw [find_add, if_pos rfl] at this; cases this
  have hKA := (hK0.mono fun _ h => h.elim).trans hK
  have hKT : Keep A ((((A.del b6).del b).add b6 (.cells [.int .u8 0, .int .u8 0, .int .u8 0, .int .u8 0] 76 4)).add b (.cells [.map (some bm), .int .i64 den] 113 2)) fun _ => False := Keep.top2 h6 ht n6.symm
  have hwA : A.w0 = H.w0 := hKA.w0
  have fin : ∀ {D T : AH} {w : List Value} {den' : Int}, D = (A.del b6).del b → T = (D.add b6 (.cells w 76 4)).add b (.cells [.map (some bm), .int .i64 den'] 113 2) → StAt T b (doX X op fl rec v) den' ft' ∧ Keep H T ft ∧ ∀ x, ft' x → ft x ∨ Fresh H x := fun {D T w den'} hD hT => by
    have hx : ∀ x, x ≠ b → x ≠ b6 → T.find x = A.find x := fun x h1 h2 => by rw [hT, find_add, if_neg h1, find_add, if_neg h2, hD, find_del, if_neg h1, find_del, if_neg h2]
    refine ⟨hst.den ht f6 (by rw [hT, find_add_self]) hx, hKA.then (Keep.of_find (ex := fun x => x = b ∨ x = b6) (by rw [hT, hD]; rfl) fun x hx' => hx x (fun e => hx' (.inl e)) fun e => hx' (.inr e)) ?_, fun x hx => (hft' x hx).imp id fun h => hK0.fr h⟩
    rintro x (rfl | rfl)
    · exact .inl h.self
    · exact .inr hn_b6.2.2
  refine ⟨_, top2 h6 ht, ?_⟩
  generalize hD : (A.del b6).del b = D at hKT fin ⊢
  have hDw : D.w0 = H.w0 := by rw [← hD]; exact hwA
  
  simp (dsimp := false) (maxSteps := 4000000) only [enc_len, enc_scal, lput_enc, take_enc, n6, n6.symm, hn_b4, hr_b4, hn_b5, hr_b5, hn_b6, hr_b6, go_sem]
  refine AllB.mk fun b8 h_b8 => ?_
  have hn_b8 : ¬ b8 = b ∧ ¬ b8 = b6 ∧ Fresh D b8 := by simpa only [fresh_add, ne_eq] using h_b8
  simp (dsimp := false) (maxSteps := 4000000) only [hn_b8.1, hn_b8.2.1, Ne.symm hn_b8.1, Ne.symm hn_b8.2.1, enc_len, enc_scal, lput_enc, take_enc, n6, n6.symm, hn_b4, hr_b4, hn_b5, hr_b5, hn_b6, hr_b6, go_sem]
  have hev8 := ErrV.keep (ErrV.keep hev hKT) (Keep.add (k := .cells (enc (doW X op fl rec v)) 76 4) h_b8)
  refine (Is_c hev8 (by decide)).mono ?_; rintro _ _ ⟨rfl, rfl⟩
  by_cases e5 : doE X op fl rec = 5
  · have hd5 : doD X op fl rec den = IntKind.i64.wrap (den + 1) := by rw [doD, if_pos e5]
    rw [hd5]
    simp (dsimp := false) (maxSteps := 4000000) only [e5, hn_b8.1, hn_b8.2.1, Ne.symm hn_b8.1, Ne.symm hn_b8.2.1, enc_len, enc_scal, lput_enc, take_enc, n6, n6.symm, hn_b4, hr_b4, hn_b5, hr_b5, hn_b6, hr_b6, go_sem]
    refine AWp.gen [.rd, .pu, .ch, .ch, .pu] [0, 0, 2, 7, 15] 3 (_) mixed (by kernel_rfl) (AH.le_refl _) ?_
    simp (dsimp := false) (maxSteps := 4000000) only [hn_b8.1, hn_b8.2.1, Ne.symm hn_b8.1, Ne.symm hn_b8.2.1, enc_len, enc_scal, lput_enc, take_enc, n6, n6.symm, hn_b4, hr_b4, hn_b5, hr_b5, hn_b6, hr_b6, go_sem]
    have h_b8' : Fresh ((D.add b6 (.cells [.int .u8 0, .int .u8 0, .int .u8 0, .int .u8 0] 76 4)).add b (.cells [.map (some bm), .int .i64 (IntKind.i64.wrap (den + 1))] 113 2)) b8 := by simp only [fresh_add, ne_eq, hn_b8.1, hn_b8.2.1, hn_b8.2.2, not_false_eq_true, and_self]
    refine (number_c (by simp only [w0_add, hDw]; exact hE) (ErrV.keep (ErrV.over (ErrV.keep hev hKT)) (Keep.add h_b8'))).mono ?_; rintro _ _ ⟨rfl, rfl⟩
    simp (dsimp := false) (maxSteps := 4000000) only [hn_b8.1, hn_b8.2.1, Ne.symm hn_b8.1, Ne.symm hn_b8.2.1, enc_len, enc_scal, lput_enc, take_enc, n6, n6.symm, hn_b4, hr_b4, hn_b5, hr_b5, hn_b6, hr_b6, go_sem]
    obtain ⟨f1, f2, f3⟩ := fin (D := D) (T := (D.add b6 (.cells (enc (doW X op fl rec v)) 76 4)).add b (.cells [.map (some bm), .int .i64 (IntKind.i64.wrap (den + 1))] 113 2)) rfl rfl
    exact ⟨_, AH.le_add (AH.le_refl _) (by rw [find_add, if_neg hn_b8.1, find_add, if_neg hn_b8.2.1]; exact hn_b8.2.2.2), ft', rfl, f1, f2, f3⟩
  · have hd5 : doD X op fl rec den = den := by rw [doD, if_neg e5]
    rw [hd5]
    simp (dsimp := false) (maxSteps := 4000000) only [e5, hn_b8.1, hn_b8.2.1, Ne.symm hn_b8.1, Ne.symm hn_b8.2.1, enc_len, enc_scal, lput_enc, take_enc, n6, n6.symm, hn_b4, hr_b4, hn_b5, hr_b5, hn_b6, hr_b6, go_sem]
    refine AWp.gen [.rd, .pu, .ch, .ch, .pu] [0, 0, 2, 7, 15] 3 (_) mixed (by kernel_rfl) (AH.le_refl _) ?_
    simp (dsimp := false) (maxSteps := 4000000) only [hn_b8.1, hn_b8.2.1, Ne.symm hn_b8.1, Ne.symm hn_b8.2.1, enc_len, enc_scal, lput_enc, take_enc, n6, n6.symm, hn_b4, hr_b4, hn_b5, hr_b5, hn_b6, hr_b6, go_sem]
    refine (number_c (by simp only [w0_add, hDw]; exact hE) hev8).mono ?_; rintro _ _ ⟨rfl, rfl⟩
    simp (dsimp := false) (maxSteps := 4000000) only [hn_b8.1, hn_b8.2.1, Ne.symm hn_b8.1, Ne.symm hn_b8.2.1, enc_len, enc_scal, lput_enc, take_enc, n6, n6.symm, hn_b4, hr_b4, hn_b5, hr_b5, hn_b6, hr_b6, go_sem]
    obtain ⟨f1, f2, f3⟩ := fin (D := D) (T := (D.add b6 (.cells (enc (doW X op fl rec v)) 76 4)).add b (.cells [.map (some bm), .int .i64 den] 113 2)) rfl rfl
    exact ⟨_, AH.le_add (AH.le_refl _) (by rw [find_add, if_neg hn_b8.1, find_add, if_neg hn_b8.2.1]; exact hn_b8.2.2.2), ft', rfl, f1, f2, f3⟩
end Go.Proofs.YtbhamhhjicehaaaGreatDoor.Ifs

/- ifs: Copy. -/
namespace Go.Proofs.YtbhamhhjicehaaaGreatDoor.Ifs
set_option linter.unusedSimpArgs false
set_option linter.unusedVariables false
open Go Go.AX Go.Proofs Ty Go.Proofs.YtbhamhhjicehaaaGreatDoor.File Go.Proofs.YtbhamhhjicehaaaGreatDoor.Err
set_option maxHeartbeats 4000000
set_option maxRecDepth 10000

theorem pick_g : ∀ {l : List MapEntry} {ms : List MF}, (l.map (·.born)).Nodup → l.map (fun x => (x.key, x.val)) = ms.map MF.ent → ∃ g : MapEntry → MF, l.map g = ms ∧ ∀ e ∈ l, (e.key, e.val) = (g e).ent
  | [], [], _, _ => ⟨fun _ => ⟨0, 0, 0, 0, []⟩, rfl, by simp⟩
  | [], _ :: _, _, h => by simp at h
  | _ :: _, [], _, h => by simp at h
  | e0 :: l, m0 :: ms, hd, h => by
    simp only [List.map_cons, List.nodup_cons, List.mem_map, not_exists, not_and, List.cons.injEq] at hd h
    obtain ⟨g, h1, h2⟩ := pick_g hd.2 h.2
    refine ⟨fun e => if e.born = e0.born then m0 else g e, ?_, fun e he => ?_⟩
    · simp only [List.map_cons, if_true, List.cons.injEq, true_and]
      rw [← h1]
      exact List.map_congr_left fun e he => if_neg fun hb => hd.1 e he hb
    · rcases List.mem_cons.1 he with rfl | he
      · simp [h.1]
      · simp only [if_neg fun hb => hd.1 e he hb]
        exact h2 e he
theorem mem_idx {α β : Type} {f : α → β} {l : List α} (h : (l.map f).Nodup) {a b : α} (ha : a ∈ l) (hb : b ∈ l) (e : f a = f b) : a = b := by
  obtain ⟨i, hi⟩ := List.mem_iff_getElem?.1 ha
  obtain ⟨j, hj⟩ := List.mem_iff_getElem?.1 hb
  have h1 : (l.map f)[i]? = some (f a) := by simp [hi]
  have h2 : (l.map f)[j]? = some (f a) := by simp [hj, e]
  have := (List.getElem?_inj (by simpa using Go.AX.lt_of_get hi) h).1 (h1.trans h2.symm)
  subst this
  rw [hi] at hj; cases hj; rfl
theorem Copy_c {H : AH} {b : Nat} {X : List Nf} {den : Int} {ft : Nat → Prop} (h : StAt H b X den ft) (hX : OkX X) :
    ACalls Tryz.prog 27 #[.pointer (some ⟨b, 0, none⟩)] H (fun u H' => ∃ b' X' ft', u = .pointer (some ⟨b', 0, none⟩) ∧ X'.Perm X ∧ StAt H' b' X' den ft' ∧ Keep H H' (fun _ => False) ∧ ∀ x, ft' x → Fresh H x) := by
  obtain ⟨bm, ms, h1, rfl, hft⟩ := h
  have r0 : H.rd ⟨b, 0, none⟩ = some (.map (some bm)) := by rw [rd_find h1.top]; rfl
  have r1 : H.rd ⟨b, 1, none⟩ = some (.int .i64 den) := by rw [rd_find h1.top]; rfl
  refine ACalls.enter2 Tryz.func27 rfl Tryz.ntmps27 Tryz.results27 (by simp) ?_; simp (dsimp := false) (maxSteps := 4000000) only [go_sem]
  refine AllB.mk fun bn h_bn => ?_; have hn_bn := h_bn; (try simp only [fresh_add, fresh_set, ne_eq] at hn_bn); have hr_bn := hn_bn; (try simp only [@eq_comm Nat bn] at hr_bn); simp (dsimp := false) (maxSteps := 4000000) only [hn_bn, hr_bn, go_sem]
  have n1 : ¬ bn = b := h_bn.ne_find h1.top
  have n2 : ¬ bn = bm := h_bn.ne_find h1.map
  simp (dsimp := false) (maxSteps := 4000000) only [r1, n1, hn_bn, hr_bn, go_sem]
  refine AllB.mk fun bc h_bc => ?_; have hn_bc := h_bc; (try simp only [fresh_add, fresh_set, ne_eq] at hn_bc); have hr_bc := hn_bc; (try simp only [@eq_comm Nat bc] at hr_bc); simp (dsimp := false) (maxSteps := 4000000) only [hn_bn, hr_bn, hn_bc, hr_bc, go_sem]
  have n3 : ¬ bc = b := hn_bc.2.ne_find h1.top
  have n4 : ¬ bc = bm := hn_bc.2.ne_find h1.map
  simp (dsimp := false) (maxSteps := 4000000) only [r0, n1, n3, hn_bn, hr_bn, hn_bc, hr_bc, go_sem]
  refine RNG.map (es := ms.map MF.ent) Tryz.underlying111 (by rw [find_add, if_neg (Ne.symm n4), find_add, if_neg (Ne.symm n2)]; exact h1.map) fun en cl hm => AllB.mk fun bi h_bi => ?_
  simp (dsimp := false) (maxSteps := 4000000) only [hn_bn, hr_bn, hn_bc, hr_bc, go_sem]
  refine AWp.imp ?_
  obtain ⟨g, hg1, hg2⟩ := pick_g hm.2.2 hm.1
  have hkd : (en.toList.map fun e => (g e).n).Nodup := by
    have := h1.kd
    rw [Kd, ← hg1, List.map_map, List.map_map] at this
    exact this
  have hf0 : (H.set bm (.obj (.map en cl))).find bm = some (.obj (.map en cl)) := by rw [find_set, if_pos rfl]
  have hfr : ∀ {x}, Fresh H x → ¬ x = bm → Fresh (H.set bm (.obj (.map en cl))) x := fun h hn => Fresh.mk' h hn
  have h_bi2 : ¬ bi = bm ∧ ¬ bi = bc ∧ ¬ bi = bn ∧ Fresh H bi := by simpa only [fresh_add, fresh_set, ne_eq] using h_bi
  have hae : AEq ((((H.set bm (.obj (.map en cl))).add bn (.amap [])).add bc (.cells [.map (some bn), .int .i64 den] 113 2)).add bi (.obj (.mapIter (some bm) cl #[] cl)))
      ((((H.add bn (.amap [])).add bc (.cells [.map (some bn), .int .i64 den] 113 2)).set bm (.obj (.map en cl))).add bi (.obj (.mapIter (some bm) cl #[] cl))) := ⟨rfl, fun x => by
    simp only [find_add, find_set]
    by_cases e1 : x = bi
    · simp [e1]
    by_cases e2 : x = bm
    · subst e2; simp [e1, Ne.symm n2, Ne.symm n4]
    · simp [e1, e2]⟩
  have hK0 : Keep (H.set bm (.obj (.map en cl))) ((((H.add bn (.amap [])).add bc (.cells [.map (some bn), .int .i64 den] 113 2)).set bm (.obj (.map en cl))).add bi (.obj (.mapIter (some bm) cl #[] cl))) fun _ => False :=
    (((Keep.refl.nw (hfr h_bn n2)).nw (by simp only [fresh_add, ne_eq, hn_bc.1, not_false_eq_true, true_and]; exact hfr hn_bc.2 n4)).nw (by simp only [fresh_add, ne_eq, h_bi2.2.1, h_bi2.2.2.1, not_false_eq_true, true_and]; exact hfr h_bi2.2.2.2 h_bi2.1)).trans (Keep.eq hae)
  refine AWp.loopr (ι := List MapEntry) (fun D A => Rnd en cl D ∧ A.find bi = some (.obj (.mapIter (some bm) cl (D.map (·.born)).toArray cl)) ∧ A.find bm = some (.obj (.map en cl)) ∧ Keep (H.set bm (.obj (.map en cl))) A (fun _ => False) ∧ ∃ ms', StIn A bc bn ms' den ∧ ms'.map MF.nf = (D.map g).map MF.nf ∧ ∀ x, ftOf bc bn ms' x → Fresh (H.set bm (.obj (.map en cl))) x)
    (fun D => [(19, .pointer (some ⟨bi, 0, none⟩)), (3, .pointer (some ⟨bc, 0, none⟩))]) (fun D => (left en D).length) [] _
    ⟨Rnd.nil hm.2, find_add_self _ _ _, by rw [find_add, if_neg (Ne.symm h_bi2.1), find_set, if_pos rfl], hK0, [], ⟨?_, ?_, by simp, by simp, by simp [Kd]⟩, rfl, ?_⟩ (FrLe.of_lks ?_) (AH.le_refl _) fun D A hV Q again out => ?_
  · rw [find_add, if_neg (Ne.symm h_bi2.2.1), find_set, if_neg n4, find_add_self]
  · rw [find_add, if_neg (Ne.symm h_bi2.2.2.1), find_set, if_neg n2, find_add, if_neg (Ne.symm hn_bc.1), find_add_self]; rfl
  · rintro x (rfl | rfl | ⟨_, hx, _⟩)
    · exact hfr hn_bc.2 n4
    · exact hfr h_bn n2
    · cases hx
  · simp (dsimp := false) (maxSteps := 4000000) only [hn_bn, hr_bn, hn_bc, hr_bc, go_sem]
  obtain ⟨hR, hi, hmb, hK, ms', hS, hnf, hft'⟩ := hV
  
  simp (dsimp := false) (maxSteps := 4000000) only [go_sem]
  refine NXT.map hi hmb hR.ok (fun hl => ?_) (fun e he => ?_)
  · simp (dsimp := false) (maxSteps := 4000000) only [go_sem]
    refine out _ _ _ (by simp) ?_
    refine ⟨A.set bm (.amap (ms.map MF.ent)), Imp.amap hmb hm rfl (fun x k hx hne => by rw [find_set, if_neg hne] at hx; exact hx) (fun k hk => by rw [find_set, if_pos rfl] at hk; exact (Option.some.inj hk).symm), ?_⟩
    simp (dsimp := false) (maxSteps := 4000000) only [go_sem]
    refine ⟨_, AH.le_refl _, bc, (ms'.map MF.nf), ftOf bc bn ms', rfl, ?_, ⟨bn, ms', ?_, rfl, fun _ => Iff.rfl⟩, ?_, fun x hx => ?_⟩
    · rw [hnf, ← hg1]
      exact ((hR.done hl).map g).map MF.nf
    · exact hS.keep Keep.set fun x hx e => by
        subst e
        have := (hft' _ hx).2
        rw [find_set, if_pos rfl] at this; cases this
    · refine ⟨hK.w0, fun x _ hx => ?_⟩
      by_cases e : x = bm
      · subst e; rw [find_set, if_pos rfl, h1.map]
      · rw [find_set, if_neg e, hK.at_ x (fun h => h) (by rw [find_set, if_neg e]; exact hx), find_set, if_neg e]
    · have := hft' x hx
      refine ⟨this.1, ?_⟩
      have h2 := this.2
      rw [find_set] at h2
      split at h2
      · cases h2
      · exact h2
  · obtain ⟨hmem, hnb⟩ := Rnd.of_left (cl := cl) he
    have hge := hg2 e hmem
    have hgm : g e ∈ ms := by rw [← hg1]; exact List.mem_map_of_mem hmem
    simp (dsimp := false) (maxSteps := 4000000) only [go_sem]
    refine ENT.map (by rw [find_set, if_pos rfl]) (by rw [find_set, if_neg (Ne.symm h_bi2.1)]; exact hmb) hR.ok hmem ?_
    have hek : e.key = .int .i64 (g e).n := (Prod.mk.inj hge).1
    have hev : e.val = .agg #[.int .i64 (g e).p, .slice (some ⟨(g e).blk, 0, none⟩) (g e).R.length (g e).R.length] := (Prod.mk.inj hge).2
    rw [hek, hev]
    simp (dsimp := false) (maxSteps := 4000000) only [go_sem]
    have hbi0 : Fresh (H.set bm (.obj (.map en cl))) bi := hfr h_bi2.2.2.2 h_bi2.1
    have hS1 : StIn (A.set bi (.obj (.mapIter (some bm) cl ((D ++ [e]).map (·.born)).toArray cl))) bc bn ms' den := hS.keep Keep.set fun x hx e => by
      subst e
      rcases hx with rfl | rfl | ⟨m, hm', rfl⟩
      · rw [hS.top] at hi; cases hi
      · rw [hS.map] at hi; cases hi
      · rw [(hS.rows m hm').1] at hi; cases hi
    have hK1 : Keep (H.set bm (.obj (.map en cl))) (A.set bi (.obj (.mapIter (some bm) cl ((D ++ [e]).map (·.born)).toArray cl))) fun _ => False := hK.ow Keep.set fun x hx => hx ▸ hbi0
    have hi1 : (A.set bi (.obj (.mapIter (some bm) cl ((D ++ [e]).map (·.born)).toArray cl))).find bi = some (.obj (.mapIter (some bm) cl ((D ++ [e]).map (·.born)).toArray cl)) := by rw [find_set, if_pos rfl]
    have hm1 : (A.set bi (.obj (.mapIter (some bm) cl ((D ++ [e]).map (·.born)).toArray cl))).find bm = some (.obj (.map en cl)) := by rw [find_set, if_neg (Ne.symm h_bi2.1)]; exact hmb
    generalize A.set bi (.obj (.mapIter (some bm) cl ((D ++ [e]).map (·.born)).toArray cl)) = A1 at hS1 hK1 hi1 hm1 ⊢
    obtain ⟨hgr, hgb⟩ := h1.rows (g e) hgm
    have hrow1 : A1.find (g e).blk = some (.cells ((g e).R.map enc).flatten 76 (g e).bs) := hK1.find (fun h => h) (by rw [find_set, if_neg (h1.ne3 hgm)]; exact hgr)
    obtain ⟨_, hgd, _⟩ := hX.ok (g e).nf (List.mem_map_of_mem hgm)
    obtain ⟨hl1, hl2⟩ := goodF_len hgd
    have hl1' : 1 ≤ (g e).R.length := hl1
    have hl2' : (g e).R.length ≤ 256 := hl2
    have hs1 : SlcIn A1 4 (some ⟨(g e).blk, 0, none⟩) (g e).R.length ((g e).R.map enc) := SlcIn.of_find hrow1 (rows4 _) (by simp) (by simp; omega)
    have hlk : lk (g e).n (ms'.map MF.nf) = none := by
      rw [hnf, lk_none]
      intro x hx
      obtain ⟨y, hy, rfl⟩ := List.mem_map.1 hx
      obtain ⟨d, hd, rfl⟩ := List.mem_map.1 hy
      intro hne
      have := mem_idx hkd (hR.sub d hd) hmem hne
      subst this
      exact hnb (List.mem_map_of_mem hd)
    have r0' : A1.rd ⟨bc, 0, none⟩ = some (.map (some bn)) := by rw [rd_find hS1.top]; rfl
    have hmp' : A1.mp bn = some (ms'.map MF.ent) := by rw [AH.mp, hS1.map]
    have hms' : ∀ es, A1.mset bn es = some (A1.set bn (.amap es)) := fun es => by rw [AH.mset, hS1.map]
    have hmk : mlk (.int .i64) (.int .i64 (g e).n) (ms'.map MF.ent) 0 = some none := by
      rcases hS1.at_ (g e).n with ⟨h, _⟩ | ⟨_, _, _, _, _, h⟩
      · exact h
      · rw [hlk] at h; cases h
    have hown := fun H1 (hs : SlcIn H1 4 (some ⟨(g e).blk, 0, none⟩) (g e).R.length ((g e).R.map enc)) => own_c (g e).p (g e).R _ _ H1 hs (by omega) (by omega)
    unfold fv at hown
    refine AllB.mk fun b5 h_b5 => ?_; have hn_b5 := h_b5; (try simp only [fresh_add, fresh_set, ne_eq] at hn_b5); have hr_b5 := hn_b5; (try simp only [@eq_comm Nat b5] at hr_b5); simp (dsimp := false) (maxSteps := 4000000) only [hn_b5, hr_b5, go_sem]
    have m1 : ¬ b5 = bc := h_b5.ne_find hS1.top
    have m2 : ¬ b5 = bn := h_b5.ne_find hS1.map
    refine AWp.gen [.pu, .pu, .pu, .rd, .pu, .rd, .ch, .ch] [0, 1, 3, 7, 0, 0, 32, 127] 7 (_) mixed (by kernel_rfl) (AH.le_refl _) ?_
    simp (dsimp := false) (maxSteps := 4000000) only [r0', m1, m2, hn_b5, hr_b5, go_sem]
    refine (hown _ (hs1.add h_b5)).mono ?_; rintro _ _ ⟨b9, bs, h_b9, rfl, hbs, rfl⟩
    have hn_b9 := h_b9; (try simp only [fresh_add, fresh_set, ne_eq] at hn_b9); have hr_b9 := hn_b9; (try simp only [@eq_comm Nat b9] at hr_b9)
    have m3 : ¬ b9 = bc := hn_b9.2.ne_find hS1.top
    have m4 : ¬ b9 = bn := hn_b9.2.ne_find hS1.map
    simp (dsimp := false) (maxSteps := 4000000) only [r0', m1, m2, m3, m4, hmp', hms', hmk, hn_b5, hr_b5, hn_b9, hr_b9, go_sem]
    have hent : (MF.mk (g e).n (g e).p b9 bs (g e).R).ent = (.int .i64 (g e).n, .agg #[.int .i64 (g e).p, .slice (some ⟨b9, 0, none⟩) (g e).R.length (g e).R.length]) := rfl
    have f9 : Fresh (A1.set bn (.amap (ms'.map MF.ent ++ [(MF.mk (g e).n (g e).p b9 bs (g e).R).ent]))) b9 := Fresh.mk' hn_b9.2 m4
    refine ⟨AH.le_add (AH.le_refl _) h_b9.2, again (D ++ [e]) _ ((A1.set bn (.amap (ms'.map MF.ent ++ [(MF.mk (g e).n (g e).p b9 bs (g e).R).ent]))).add b9 (.cells ((g e).R.map enc).flatten 76 bs)) _ ⟨hR.step he, ?_, ?_, ?_, ms' ++ [MF.mk (g e).n (g e).p b9 bs (g e).R], hS1.app hn_b9.2 hlk hbs rfl, ?_, ?_⟩ (FrLe.of_lks (by simp (dsimp := false) (maxSteps := 4000000) only [hn_b5, hr_b5, hn_b9, hr_b9, go_sem])) ?_ (Rnd.less he)⟩
    · rw [find_add, if_neg (Ne.symm (hn_b9.2.ne_find hi1)), find_set, if_neg h_bi2.2.2.1]; exact hi1
    · rw [find_add, if_neg (Ne.symm (hn_b9.2.ne_find hm1)), find_set, if_neg (Ne.symm n2)]; exact hm1
    · exact (hK1.ow Keep.set fun x hx => hx ▸ hft' bn (.inr (.inl rfl))).nw f9
    · rw [List.map_append, hnf, List.map_append, List.map_append]; rfl
    · intro x hx
      rcases StIn.ftA (ft := ftOf bc bn ms') (fun _ h => h) hx with hx | rfl
      · exact hft' x hx
      · exact hK1.fr hn_b9.2
    · refine AH.le_cons (find_add_self _ _ _) (AH.le_add (AH.le_add (AH.le_refl _) ?_) ?_)
      · rw [find_set, if_neg m2]; exact h_b5.2
      · rw [find_add, if_neg hn_b9.1, find_set, if_neg m4]; exact hn_b9.2.2
end Go.Proofs.YtbhamhhjicehaaaGreatDoor.Ifs

/- slices.Sorted over maps.Keys, by the library's contracts. -/
namespace Go.Proofs
set_option linter.unusedSimpArgs false
set_option linter.unusedVariables false
open Go.RowKit Go.Maps Go.Sort Go.Shelf

shelf_lay_g SlLaysZI.n7 Ggz 7 at Tryz 45 as Tryz.keysA
shelf_lay_g SlLaysZI.n6 Ggz 6 at Tryz 44 as Tryz.sortedA
shelf_lay_g SlLaysM.n5 Slgm 5 at Tryz 88 as Tryz.sortA

end Go.Proofs

/- ifs: the sorted numbers of a store's files. -/
namespace Go.Proofs.YtbhamhhjicehaaaGreatDoor.Ifs
set_option linter.unusedSimpArgs false
set_option linter.unusedVariables false
open Go Go.AX Go.RowKit Go.Proofs Ty Go.Proofs.YtbhamhhjicehaaaGreatDoor.File
set_option maxHeartbeats 4000000
set_option maxRecDepth 10000

end Go.Proofs.YtbhamhhjicehaaaGreatDoor.Ifs

/- ifs: Files. -/
namespace Go.Proofs.YtbhamhhjicehaaaGreatDoor.Ifs
set_option linter.unusedSimpArgs false
set_option linter.unusedVariables false
open Go Go.AX Go.Proofs Ty Go.Proofs.YtbhamhhjicehaaaGreatDoor.File
set_option maxHeartbeats 4000000
set_option maxRecDepth 10000

theorem OkX.len {X : List Nf} (h : OkX X) : X.length ≤ 64 := by
  have h1 : (X.map fun x => x.1.toNat).Nodup := by
    have : (X.map fun x => x.1.toNat) = (X.map (·.1)).map Int.toNat := by rw [List.map_map]; rfl
    rw [this, List.Nodup, List.pairwise_map]
    refine List.Pairwise.imp_of_mem ?_ h.kd
    intro a b ha hb hab e
    obtain ⟨x, hx, rfl⟩ := List.mem_map.1 ha
    obtain ⟨y, hy, rfl⟩ := List.mem_map.1 hb
    have := (h.ok x hx).1; have := (h.ok y hy).1
    exact hab (by omega)
  have := nodup_range_le (n := 64) h1 (fun k hk => by
    obtain ⟨x, hx, rfl⟩ := List.mem_map.1 hk
    have := (h.ok x hx).1; omega)
  simpa using this
end Go.Proofs.YtbhamhhjicehaaaGreatDoor.Ifs

/- ifs: what a deed keeps; Set of nobody; few. -/
namespace Go.Proofs.YtbhamhhjicehaaaGreatDoor.Ifs
set_option linter.unusedSimpArgs false
set_option linter.unusedVariables false
open Go Go.AX Go.Proofs Ty Go.Proofs.YtbhamhhjicehaaaGreatDoor.File Go.Proofs.YtbhamhhjicehaaaGreatDoor.Err
set_option maxHeartbeats 4000000
set_option maxRecDepth 10000

theorem next_ok {r : Rc} (h : RcOk r) : RcOk (Nxt.nextR r) := by
  have e := next4 h
  obtain ⟨x0, x1, x2, x3⟩ := r
  obtain ⟨⟨a0, a1⟩, ⟨b0, b1⟩, ⟨c0, c1⟩, ⟨d0, d1⟩⟩ := h
  dsimp only at a0 a1 b0 b1 c0 c1 d0 d1 e
  generalize Nxt.nextR (x0, x1, x2, x3) = y at e ⊢
  obtain ⟨y0, y1, y2, y3⟩ := y
  simp only [enc, List.cons.injEq, Value.int.injEq, true_and, and_true] at e
  obtain ⟨rfl, rfl, rfl, rfl⟩ := e
  refine ⟨?_, ?_, ?_, ?_⟩ <;> dsimp only <;> omega
theorem OkX.do {X : List Nf} (h : OkX X) (op fl rec : Int) {v : Rc} (hv : RcOk v) : OkX (doX X op fl rec v) := by
  unfold doX
  split
  · rename_i e
    cases hl : Ifs.lk fl X with
    | none => exact h
    | some f =>
      obtain ⟨_, h2, h3⟩ := h.lk hl
      have hm : mayF f.1 f.2 op rec = 0 := by
        unfold doE at e
        split at e
        · cases e
        · rw [hl] at e; exact e
      dsimp only [doF]
      unfold doR
      have hne : (op = 1 ∨ op = 2) → rec.toNat ≠ 0 := fun ho hr => by
        obtain ⟨g, o0, o1, r0, r1, _⟩ := mayF_ok hm
        have : rec = 0 := by omega
        subst this
        rw [mayF_head g (by omega) (by omega) (by omega), if_neg (by omega)] at hm
        cases hm
      split
      · rename_i ho
        refine h.rp hl (goodF_set h2 (hne (.inl ho))) fun r hr => ?_
        rcases List.mem_or_eq_of_mem_set hr with hr | hr
        · exact h3 r hr
        · subst hr; exact hv
      split
      · rename_i ho
        refine h.rp hl (goodF_set h2 (hne (.inr ho))) fun r hr => ?_
        rcases List.mem_or_eq_of_mem_set hr with hr | hr
        · exact h3 r hr
        · subst hr
          refine next_ok ?_
          rw [List.getD_eq_getElem?_getD]
          cases hx : f.2[rec.toNat]? with
          | none => exact ⟨by decide, by decide, by decide, by decide⟩
          | some r => exact h3 r (List.mem_of_getElem? hx)
      · exact h.rp hl h2 h3
  · exact h
end Go.Proofs.YtbhamhhjicehaaaGreatDoor.Ifs

/- Declarations cut out of other texts of mine. -/
namespace Go.Proofs.YtbhamhhjicehaaaGreatDoor.Chk
set_option linter.unusedSimpArgs false
set_option linter.unusedVariables false
open Go Go.AX Go.Proofs Ty
set_option maxHeartbeats 4000000
set_option maxRecDepth 10000

abbrev Rc := Int × Int × Int × Int
def enc (r : Rc) : List Value := [.int .u8 r.1, .int .u8 r.2.1, .int .u8 r.2.2.1, .int .u8 r.2.2.2]
def zr : Rc := (0, 0, 0, 0)
theorem enc_len (r : Rc) : (enc r).length = 4 := rfl
theorem enc_scal (r : Rc) : (enc r).all scal = true := rfl
theorem rows4 (R : List Rc) : ∀ r ∈ R.map enc, r.length = 4 := fun r hr => by
  obtain ⟨w, _, rfl⟩ := List.mem_map.1 hr
  rfl
theorem map_get {α : Type} {f : α → List Value} {L : List α} {i : Nat} {s : α} (h : L[i]? = some s) : (L.map f)[i]? = some (f s) := by rw [List.getElem?_map, h]; rfl
def hd (perm n : Int) : Rc := (IntKind.u8.wrap n, IntKind.u8.wrap perm, 165, ibits .xor .u8 (ibits .xor .u8 (IntKind.u8.wrap n) (IntKind.u8.wrap perm)) 165)
theorem header_c (perm n : Int) (H : AH) : ACalls Tryz.prog 99 #[.int .i64 perm, .int .i64 n] H (fun v H' => v = .agg (enc (hd perm n)).toArray ∧ H = H') := by
  refine ACalls.enter2 Tryz.func99 rfl Tryz.ntmps99 Tryz.results99 (by simp) ?_; simp (dsimp := false) (maxSteps := 4000000) only [go_sem]
  refine AllB.mk fun b1 h_b1 => ?_; have hn_b1 := h_b1; (try simp only [fresh_add, fresh_set, ne_eq] at hn_b1); have hr_b1 := hn_b1; (try simp only [@eq_comm Nat b1] at hr_b1); simp (dsimp := false) (maxSteps := 4000000) only [hn_b1, hr_b1, go_sem]
  exact ⟨H, (AH.le_add (AH.le_refl _) ((by simp only [fresh_add, fresh_set, ne_eq, hn_b1, not_false_eq_true, and_self] : Fresh _ b1).2)), (by first | exact ⟨rfl, rfl⟩ | rfl)⟩
def fv (p : Int) (base : Option Addr) (n cap : Nat) : Value := .agg #[.int .i64 p, .slice base n cap]
def fbad (p : Int) : Value := .tuple #[.agg #[.int .i64 0, .slice none 0 0], .int .i64 p]
def okNew (perm n : Int) : Prop := 0 ≤ perm ∧ perm ≤ 7 ∧ 0 ≤ n ∧ n < 256
def newR (perm : Int) (n : Nat) : List Rc := hd perm n :: List.replicate n zr
theorem New_c (perm : Int) (n : Nat) (h : okNew perm n) (H : AH) : ACalls Tryz.prog 157 #[.int .i64 perm, .int .i64 n] H (fun v H' => ∃ b, Fresh H b ∧ v = .tuple #[fv perm (some ⟨b, 0, none⟩) (n + 1) (n + 1), .int .i64 0] ∧ H' = H.add b (.cells ((newR perm n).map enc).flatten 76 ((n + 1) * 4))) := by
  obtain ⟨h0, h1, h2, h3⟩ := h
  have a : ¬ perm < 0 := by omega
  have b : ¬ 7 < perm := by omega
  have c : ¬ (n : Int) < 0 := by omega
  have d : ¬ (256 : Int) ≤ n := by omega
  have e : IntKind.i64.wrap (1 + (n : Int)) = ((n + 1 : Nat) : Int) := by rw [i64_eq (by omega) (by omega)]; omega
  refine ACalls.enter2 Tryz.func157 rfl Tryz.ntmps157 Tryz.results157 (by simp) ?_; simp (dsimp := false) (maxSteps := 4000000) only [a, b, c, d, e, go_sem]
  refine AllB.mk fun b1 h_b1 => ?_; have hn_b1 := h_b1; (try simp only [fresh_add, fresh_set, ne_eq] at hn_b1); have hr_b1 := hn_b1; (try simp only [@eq_comm Nat b1] at hr_b1); simp (dsimp := false) (maxSteps := 4000000) only [a, b, c, d, e, hn_b1, hr_b1, go_sem]
  have hz : zf [Value.int .u8 0, .int .u8 0, .int .u8 0, .int .u8 0] ((n + 1) * 4) = ((List.replicate (n + 1) zr).map enc).flatten := by
    rw [zf_rows (zs := [Value.int .u8 0, .int .u8 0, .int .u8 0, .int .u8 0]) (n := n + 1) (m := (n + 1) * 4) rfl, List.map_replicate]; rfl
  refine ⟨by omega, by omega, by omega, ?_⟩
  rw [hz]
  refine AllB.mk fun bl h_bl => ?_; have hn_bl := h_bl; (try simp only [fresh_add, fresh_set, ne_eq] at hn_bl); have hr_bl := hn_bl; (try simp only [@eq_comm Nat bl] at hr_bl); simp (dsimp := false) (maxSteps := 4000000) only [a, b, c, d, e, hn_b1, hr_b1, hn_bl, hr_bl, go_sem]
  refine AllB.mk fun b6 h_b6 => ?_; have hn_b6 := h_b6; (try simp only [fresh_add, fresh_set, ne_eq] at hn_b6); have hr_b6 := hn_b6; (try simp only [@eq_comm Nat b6] at hr_b6); simp (dsimp := false) (maxSteps := 4000000) only [a, b, c, d, e, hn_b1, hr_b1, hn_bl, hr_bl, hn_b6, hr_b6, go_sem]
  refine AWp.gen [.pu, .rd, .pu, .pu, .ch, .pu, .ch] [0, 1, 0, 0, 12, 31, 63] 5 (_) mixed (by kernel_rfl) (AH.le_refl _) ?_
  simp (dsimp := false) (maxSteps := 4000000) only [a, b, c, d, e, hn_b1, hr_b1, hn_bl, hr_bl, hn_b6, hr_b6, go_sem]
  refine (header_c perm n _).mono ?_; rintro _ _ ⟨rfl, rfl⟩
  have hl : ((List.replicate (n + 1) zr).map enc).flatten.length = (n + 1) * 4 := by rw [flat_len (rows4 _)]; simp
  have hp : lput ((List.replicate (n + 1) zr).map enc).flatten 0 (enc (hd perm n)) = ((newR perm n).map enc).flatten := by
    have := flat_lput (rows4 (List.replicate (n + 1) zr)) 0 (enc (hd perm n)) (by simp) rfl
    rw [Nat.zero_mul] at this
    rw [this, List.replicate_succ]
    rfl
  have c0 : (0 : Int) < ((n + 1 : Nat) : Int) := by omega
  have c1 : 0 + 4 ≤ (n + 1) * 4 := by omega
  have c2 : (n + 1) * 4 ≤ (n + 1) * 4 := Nat.le_refl _
  simp (dsimp := false) (maxSteps := 4000000) only [AH.le_refl, hl, hp, c0, c1, c2, enc_len, enc_scal, a, b, c, d, e, hn_b1, hr_b1, hn_bl, hr_bl, hn_b6, hr_b6, go_sem]
  exact ⟨_, (by refine AH.le_cons ?_ ?_; (show AH.find _ _ = _; simp only [find_add_self, find_add_ne, find_fresh, fresh_add, fresh_set, ne_eq, not_false_eq_true, true_and, and_true, and_self, a, b, c, d, e, hn_b1, hr_b1, hn_bl, hr_bl, hn_b6, hr_b6]); (repeat (first | exact AH.le_refl _ | refine AH.le_add ?_ ?_)); all_goals (first | exact AH.le_refl _ | (show AH.find _ _ = _; simp only [find_add_self, find_add_ne, find_fresh, fresh_add, fresh_set, ne_eq, not_false_eq_true, true_and, and_true, and_self, a, b, c, d, e, hn_b1, hr_b1, hn_bl, hr_bl, hn_b6, hr_b6]))), bl, hn_bl.2, rfl, rfl⟩
theorem lt_of_get {α : Type} {l : List α} {i : Nat} {s : α} (h : l[i]? = some s) : i < l.length := by
  rcases Nat.lt_or_ge i l.length with h' | h'
  · exact h'
  · rw [List.getElem?_eq_none h'] at h; cases h
theorem enc_take (r : Rc) : (enc r).take 4 = enc r := rfl
theorem enc_z4 (r : Rc) : lput [.int .u8 0, .int .u8 0, .int .u8 0, .int .u8 0] 0 (enc r) = enc r := rfl
theorem flat4 (L : List Rc) : (L.map enc).flatten.length = L.length * 4 := by rw [flat_len (rows4 L), List.length_map]
theorem put4 {L : List Rc} {i : Nat} (r : Rc) (h : i < L.length) : lput (L.map enc).flatten (i * 4) (enc r) = ((L.set i r).map enc).flatten := by
  rw [flat_lput (rows4 L) i (enc r) (by rw [List.length_map]; exact h) rfl, List.map_set]
theorem u8w (x : Int) : IntKind.u8.wrap x = x % 256 := rfl
structure Got (H H' : AH) (sz : Nat) (base : Option Addr) (cap : Nat) (R : List (List Value)) : Prop where
  slc : SlcIn H' sz base cap R
  new : ∀ a, base = some a → Fresh H a.block
  keep : Keep H H' fun _ => False
theorem Got.nil {H : AH} {sz : Nat} : Got H H sz none 0 [] := ⟨SlcIn.nil, (fun a h => by cases h), Keep.refl⟩
theorem Got.own {H H' : AH} {e sz cap : Nat} {base : Option Addr} {R : List (List Value)} (h : OwnS H H' e sz base cap R) (k : Keep H H' fun _ => False) : Got H H' sz base cap R := ⟨h.slc, h.fresh, k⟩
theorem Got.add {H : AH} {e sz cap m b : Nat} {R : List (List Value)} (hf : Fresh H b) (hR : ∀ r ∈ R, r.length = sz) (hl : R.length ≤ cap) (hb : R.length < 9223372036854775808) : Got H (H.add b (.cells R.flatten e m)) sz (some ⟨b, 0, none⟩) cap R :=
  ⟨SlcIn.own hR hl hb, fun a h => by cases h; exact hf, Keep.add hf⟩
abbrev En := Int × Int × Int × Int × Int
def encE (x : En) : List Value := [.int .i64 x.1, .int .i64 x.2.1, .int .i64 x.2.2.1, .int .i64 x.2.2.2.1, .int .i64 x.2.2.2.2]
def placeB (s f r : Int) : Bool := decide (1 ≤ s ∧ s ≤ 16 ∧ 0 ≤ f ∧ f < 64 ∧ 1 ≤ r ∧ r < 256)
def goodE : En → Bool
  | (k, s, f, r, b) => if k = 4 then decide (s = 0 ∧ f = 0 ∧ r = 0 ∧ b = 0) else decide (1 ≤ k ∧ k ≤ 3 ∧ (k = 3 → b = 0)) && placeB s f r && decide (0 ≤ b ∧ b ≤ 3)
theorem place_c (k s f r b : Int) (H : AH) : ACalls Tryz.prog 180 #[.agg #[.int .i64 k, .int .i64 s, .int .i64 f, .int .i64 r, .int .i64 b]] H (fun v H' => v = .bool (placeB s f r) ∧ H = H') := by
  refine ACalls.enter2 Tryz.func180 rfl Tryz.ntmps180 Tryz.results180 (by simp) ?_; simp (dsimp := false) (maxSteps := 4000000) only [go_sem]
  refine AllB.mk fun b1 h_b1 => ?_; have hn_b1 := h_b1; (try simp only [fresh_add, fresh_set, ne_eq] at hn_b1); have hr_b1 := hn_b1; (try simp only [@eq_comm Nat b1] at hr_b1); simp (dsimp := false) (maxSteps := 4000000) only [hn_b1, hr_b1, go_sem]
  by_cases c2_0 : 1 ≤ s
  case neg =>
    
    simp (dsimp := false) (maxSteps := 4000000) only [c2_0, hn_b1, hr_b1, go_sem]
    exact ⟨H, (AH.le_add (AH.le_refl _) ((by simp only [fresh_add, fresh_set, ne_eq, hn_b1, not_false_eq_true, and_self] : Fresh _ b1).2)), (by first | exact ⟨by rw [placeB, decide_eq_false (fun h => c2_0 (by omega))], rfl⟩ | rfl)⟩
    
  by_cases c2_1 : s ≤ 16
  case neg =>
    
    simp (dsimp := false) (maxSteps := 4000000) only [c2_0, c2_1, hn_b1, hr_b1, go_sem]
    exact ⟨H, (AH.le_add (AH.le_refl _) ((by simp only [fresh_add, fresh_set, ne_eq, hn_b1, not_false_eq_true, and_self] : Fresh _ b1).2)), (by first | exact ⟨by rw [placeB, decide_eq_false (fun h => c2_1 (by omega))], rfl⟩ | rfl)⟩
    
  by_cases c2_2 : 0 ≤ f
  case neg =>
    
    simp (dsimp := false) (maxSteps := 4000000) only [c2_0, c2_1, c2_2, hn_b1, hr_b1, go_sem]
    exact ⟨H, (AH.le_add (AH.le_refl _) ((by simp only [fresh_add, fresh_set, ne_eq, hn_b1, not_false_eq_true, and_self] : Fresh _ b1).2)), (by first | exact ⟨by rw [placeB, decide_eq_false (fun h => c2_2 (by omega))], rfl⟩ | rfl)⟩
    
  by_cases c2_3 : f < 64
  case neg =>
    
    simp (dsimp := false) (maxSteps := 4000000) only [c2_0, c2_1, c2_2, c2_3, hn_b1, hr_b1, go_sem]
    exact ⟨H, (AH.le_add (AH.le_refl _) ((by simp only [fresh_add, fresh_set, ne_eq, hn_b1, not_false_eq_true, and_self] : Fresh _ b1).2)), (by first | exact ⟨by rw [placeB, decide_eq_false (fun h => c2_3 (by omega))], rfl⟩ | rfl)⟩
    
  by_cases c2_4 : 1 ≤ r
  case neg =>
    
    simp (dsimp := false) (maxSteps := 4000000) only [c2_0, c2_1, c2_2, c2_3, c2_4, hn_b1, hr_b1, go_sem]
    exact ⟨H, (AH.le_add (AH.le_refl _) ((by simp only [fresh_add, fresh_set, ne_eq, hn_b1, not_false_eq_true, and_self] : Fresh _ b1).2)), (by first | exact ⟨by rw [placeB, decide_eq_false (fun h => c2_4 (by omega))], rfl⟩ | rfl)⟩
    
  by_cases c2_5 : r < 256
  case neg =>
    
    simp (dsimp := false) (maxSteps := 4000000) only [c2_0, c2_1, c2_2, c2_3, c2_4, c2_5, hn_b1, hr_b1, go_sem]
    exact ⟨H, (AH.le_add (AH.le_refl _) ((by simp only [fresh_add, fresh_set, ne_eq, hn_b1, not_false_eq_true, and_self] : Fresh _ b1).2)), (by first | exact ⟨by rw [placeB, decide_eq_false (fun h => c2_5 (by omega))], rfl⟩ | rfl)⟩
    
  simp (dsimp := false) (maxSteps := 4000000) only [c2_0, c2_1, c2_2, c2_3, c2_4, c2_5, hn_b1, hr_b1, go_sem]
  exact ⟨H, (AH.le_add (AH.le_refl _) ((by simp only [fresh_add, fresh_set, ne_eq, hn_b1, not_false_eq_true, and_self] : Fresh _ b1).2)), (by first | exact ⟨by rw [placeB, decide_eq_true (by omega)], rfl⟩ | rfl)⟩
theorem Good_c (k s f r b : Int) (H : AH) : ACalls Tryz.prog 173 #[.agg #[.int .i64 k, .int .i64 s, .int .i64 f, .int .i64 r, .int .i64 b]] H (fun v H' => v = .bool (goodE (k, s, f, r, b)) ∧ H = H') := by
  refine ACalls.enter2 Tryz.func173 rfl Tryz.ntmps173 Tryz.results173 (by simp) ?_; simp (dsimp := false) (maxSteps := 4000000) only [go_sem]
  refine AllB.mk fun b1 h_b1 => ?_; have hn_b1 := h_b1; (try simp only [fresh_add, fresh_set, ne_eq] at hn_b1); have hr_b1 := hn_b1; (try simp only [@eq_comm Nat b1] at hr_b1); simp (dsimp := false) (maxSteps := 4000000) only [hn_b1, hr_b1, go_sem]
  by_cases k4 : k = 4
  · subst k4
    simp (dsimp := false) (maxSteps := 4000000) only [hn_b1, hr_b1, go_sem]
    exact ⟨H, (AH.le_add (AH.le_refl _) ((by simp only [fresh_add, fresh_set, ne_eq, hn_b1, not_false_eq_true, and_self] : Fresh _ b1).2)), (by first | exact ⟨congrArg Value.bool (by rw [Bool.eq_iff_iff]; simp [goodE]), rfl⟩ | rfl)⟩
  by_cases k3 : k = 3
  · subst k3
    by_cases b0 : b = 0
    · subst b0
      simp (dsimp := false) (maxSteps := 4000000) only [hn_b1, hr_b1, go_sem]
      refine (place_c 3 s f r 0 _).mono ?_; rintro _ _ ⟨rfl, rfl⟩
      cases hp : placeB s f r with
      | true =>
        simp (dsimp := false) (maxSteps := 4000000) only [hn_b1, hr_b1, go_sem]
        exact ⟨H, (AH.le_add (AH.le_refl _) ((by simp only [fresh_add, fresh_set, ne_eq, hn_b1, not_false_eq_true, and_self] : Fresh _ b1).2)), (by first | exact ⟨by simp [goodE, hp], rfl⟩ | rfl)⟩
      | false =>
        simp (dsimp := false) (maxSteps := 4000000) only [hn_b1, hr_b1, go_sem]
        exact ⟨H, (AH.le_add (AH.le_refl _) ((by simp only [fresh_add, fresh_set, ne_eq, hn_b1, not_false_eq_true, and_self] : Fresh _ b1).2)), (by first | exact ⟨by simp [goodE, hp], rfl⟩ | rfl)⟩
    · simp (dsimp := false) (maxSteps := 4000000) only [b0, hn_b1, hr_b1, go_sem]
      exact ⟨H, (AH.le_add (AH.le_refl _) ((by simp only [fresh_add, fresh_set, ne_eq, hn_b1, not_false_eq_true, and_self] : Fresh _ b1).2)), (by first | exact ⟨by simp [goodE, b0], rfl⟩ | rfl)⟩
  by_cases k1 : k = 1 ∨ k = 2
  · have kk : goodE (k, s, f, r, b) = (placeB s f r && decide (0 ≤ b ∧ b ≤ 3)) := by
      simp only [goodE]; rw [if_neg k4, decide_eq_true (by omega), Bool.true_and]
    rcases k1 with rfl | rfl
    · 
      simp (dsimp := false) (maxSteps := 4000000) only [hn_b1, hr_b1, go_sem]
      refine (place_c 1 s f r b _).mono ?_; rintro _ _ ⟨rfl, rfl⟩
      cases hp : placeB s f r with
      | true =>
        by_cases c1 : 0 ≤ b
        · by_cases c2 : b ≤ 3
          · simp (dsimp := false) (maxSteps := 4000000) only [c1, c2, hn_b1, hr_b1, go_sem]
            exact ⟨H, (AH.le_add (AH.le_refl _) ((by simp only [fresh_add, fresh_set, ne_eq, hn_b1, not_false_eq_true, and_self] : Fresh _ b1).2)), (by first | exact ⟨by rw [kk, hp, decide_eq_true ⟨c1, c2⟩]; rfl, rfl⟩ | rfl)⟩
          · simp (dsimp := false) (maxSteps := 4000000) only [c1, c2, hn_b1, hr_b1, go_sem]
            exact ⟨H, (AH.le_add (AH.le_refl _) ((by simp only [fresh_add, fresh_set, ne_eq, hn_b1, not_false_eq_true, and_self] : Fresh _ b1).2)), (by first | exact ⟨by rw [kk, hp, decide_eq_false (fun h => c2 h.2)]; rfl, rfl⟩ | rfl)⟩
        · simp (dsimp := false) (maxSteps := 4000000) only [c1, hn_b1, hr_b1, go_sem]
          exact ⟨H, (AH.le_add (AH.le_refl _) ((by simp only [fresh_add, fresh_set, ne_eq, hn_b1, not_false_eq_true, and_self] : Fresh _ b1).2)), (by first | exact ⟨by rw [kk, hp, decide_eq_false (fun h => c1 h.1)]; rfl, rfl⟩ | rfl)⟩
      | false =>
        simp (dsimp := false) (maxSteps := 4000000) only [hn_b1, hr_b1, go_sem]
        exact ⟨H, (AH.le_add (AH.le_refl _) ((by simp only [fresh_add, fresh_set, ne_eq, hn_b1, not_false_eq_true, and_self] : Fresh _ b1).2)), (by first | exact ⟨by rw [kk, hp]; rfl, rfl⟩ | rfl)⟩
      
    · 
      simp (dsimp := false) (maxSteps := 4000000) only [hn_b1, hr_b1, go_sem]
      refine (place_c 2 s f r b _).mono ?_; rintro _ _ ⟨rfl, rfl⟩
      cases hp : placeB s f r with
      | true =>
        by_cases c1 : 0 ≤ b
        · by_cases c2 : b ≤ 3
          · simp (dsimp := false) (maxSteps := 4000000) only [c1, c2, hn_b1, hr_b1, go_sem]
            exact ⟨H, (AH.le_add (AH.le_refl _) ((by simp only [fresh_add, fresh_set, ne_eq, hn_b1, not_false_eq_true, and_self] : Fresh _ b1).2)), (by first | exact ⟨by rw [kk, hp, decide_eq_true ⟨c1, c2⟩]; rfl, rfl⟩ | rfl)⟩
          · simp (dsimp := false) (maxSteps := 4000000) only [c1, c2, hn_b1, hr_b1, go_sem]
            exact ⟨H, (AH.le_add (AH.le_refl _) ((by simp only [fresh_add, fresh_set, ne_eq, hn_b1, not_false_eq_true, and_self] : Fresh _ b1).2)), (by first | exact ⟨by rw [kk, hp, decide_eq_false (fun h => c2 h.2)]; rfl, rfl⟩ | rfl)⟩
        · simp (dsimp := false) (maxSteps := 4000000) only [c1, hn_b1, hr_b1, go_sem]
          exact ⟨H, (AH.le_add (AH.le_refl _) ((by simp only [fresh_add, fresh_set, ne_eq, hn_b1, not_false_eq_true, and_self] : Fresh _ b1).2)), (by first | exact ⟨by rw [kk, hp, decide_eq_false (fun h => c1 h.1)]; rfl, rfl⟩ | rfl)⟩
      | false =>
        simp (dsimp := false) (maxSteps := 4000000) only [hn_b1, hr_b1, go_sem]
        exact ⟨H, (AH.le_add (AH.le_refl _) ((by simp only [fresh_add, fresh_set, ne_eq, hn_b1, not_false_eq_true, and_self] : Fresh _ b1).2)), (by first | exact ⟨by rw [kk, hp]; rfl, rfl⟩ | rfl)⟩
      
  have k1' : ¬ k = 1 := fun h => k1 (.inl h)
  have k2' : ¬ k = 2 := fun h => k1 (.inr h)
  simp (dsimp := false) (maxSteps := 4000000) only [k4, k3, k1', k2', hn_b1, hr_b1, go_sem]
  exact ⟨H, (AH.le_add (AH.le_refl _) ((by simp only [fresh_add, fresh_set, ne_eq, hn_b1, not_false_eq_true, and_self] : Fresh _ b1).2)), (by first | exact ⟨by simp only [goodE]; rw [if_neg k4, decide_eq_false (by omega)]; rfl, rfl⟩ | rfl)⟩
def putR : En → Rc
  | (k, s, f, r, b) => (64 * b + k, s, f, r)
def ze : En := (0, 0, 0, 0, 0)
def pR (x : En) : Rc := if goodE x = true then putR x else zr
def pE (x : En) : Int := if goodE x = true then 0 else 1
theorem goodE_range {k s f r b : Int} (h : goodE (k, s, f, r, b) = true) : (0 ≤ b ∧ b ≤ 3) ∧ (1 ≤ k ∧ k ≤ 4) ∧ (0 ≤ s ∧ s ≤ 16) ∧ (0 ≤ f ∧ f ≤ 63) ∧ (0 ≤ r ∧ r ≤ 255) := by
  simp only [goodE] at h
  split at h
  · have := of_decide_eq_true h
    omega
  · simp only [placeB, Bool.and_eq_true, decide_eq_true_eq] at h
    omega
theorem or_put : ∀ (x : Fin 4) (y : Fin 64), IntKind.u8.wrap (ibits .or .i64 (IntKind.i64.wrap ((x.val : Int) * 64)) (y.val : Int)) = 64 * (x.val : Int) + y.val := by decide +kernel
theorem or_eq {a c : Int} (a0 : 0 ≤ a) (a1 : a ≤ 3) (c0 : 0 ≤ c) (c1 : c < 64) : IntKind.u8.wrap (ibits .or .i64 (IntKind.i64.wrap (a * 64)) c) = 64 * a + c := by
  have := or_put ⟨a.toNat, by omega⟩ ⟨c.toNat, by omega⟩
  simpa [Int.toNat_of_nonneg a0, Int.toNat_of_nonneg c0] using this
theorem Put_u (k s f r b : Int) (H : AH) : ACalls Tryz.prog 158 #[.agg #[.int .i64 k, .int .i64 s, .int .i64 f, .int .i64 r, .int .i64 b]] H (fun v H' => v = .tuple #[.agg (enc (pR (k, s, f, r, b))).toArray, .int .i64 (pE (k, s, f, r, b))] ∧ H = H') := by
  refine ACalls.enter2 Tryz.func158 rfl Tryz.ntmps158 Tryz.results158 (by simp) ?_; simp (dsimp := false) (maxSteps := 4000000) only [go_sem]
  refine AllB.mk fun b1 h_b1 => ?_; have hn_b1 := h_b1; (try simp only [fresh_add, fresh_set, ne_eq] at hn_b1); have hr_b1 := hn_b1; (try simp only [@eq_comm Nat b1] at hr_b1); simp (dsimp := false) (maxSteps := 4000000) only [hn_b1, hr_b1, go_sem]
  refine AllB.mk fun b2 h_b2 => ?_; have hn_b2 := h_b2; (try simp only [fresh_add, fresh_set, ne_eq] at hn_b2); have hr_b2 := hn_b2; (try simp only [@eq_comm Nat b2] at hr_b2); simp (dsimp := false) (maxSteps := 4000000) only [hn_b1, hr_b1, hn_b2, hr_b2, go_sem]
  refine (Good_c k s f r b _).mono ?_; rintro _ _ ⟨rfl, rfl⟩
  cases g : goodE (k, s, f, r, b) with
  | true =>
    obtain ⟨⟨h1, h2⟩, ⟨h3, h4⟩, ⟨h5, h6⟩, ⟨h7, h8⟩, ⟨h9, h10⟩⟩ := goodE_range g
    have e1 := or_eq h1 h2 (by omega : 0 ≤ k) (by omega)
    have e2 := u8_eq h5 (by omega)
    have e3 := u8_eq h7 (by omega)
    have e4 := u8_eq h9 (by omega)
    simp (dsimp := false) (maxSteps := 4000000) only [e1, e2, e3, e4, hn_b1, hr_b1, hn_b2, hr_b2, go_sem]
    exact ⟨H, (AH.le_add (AH.le_add (AH.le_refl _) ((by simp only [fresh_add, fresh_set, ne_eq, hn_b1, not_false_eq_true, and_self] : Fresh _ b1).2)) ((by simp only [fresh_add, fresh_set, ne_eq, hn_b2, not_false_eq_true, and_self] : Fresh _ b2).2)), (by first | exact ⟨by simp [pR, pE, g, putR, enc, e1], rfl⟩ | rfl)⟩
  | false =>
    simp (dsimp := false) (maxSteps := 4000000) only [hn_b1, hr_b1, hn_b2, hr_b2, go_sem]
    exact ⟨H, (AH.le_add (AH.le_add (AH.le_refl _) ((by simp only [fresh_add, fresh_set, ne_eq, hn_b1, not_false_eq_true, and_self] : Fresh _ b1).2)) ((by simp only [fresh_add, fresh_set, ne_eq, hn_b2, not_false_eq_true, and_self] : Fresh _ b2).2)), (by first | exact ⟨by simp [pR, pE, g, zr, enc], rfl⟩ | rfl)⟩
theorem encE_len (x : En) : (encE x).length = 5 := rfl
theorem encE_scal (x : En) : (encE x).all scal = true := rfl
theorem encE_mk (k s f r b : Int) : encE (k, s, f, r, b) = [.int .i64 k, .int .i64 s, .int .i64 f, .int .i64 r, .int .i64 b] := rfl
def prv (L : List En) (i : Nat) : Int := if i = 0 then 0 else (L.getD (i - 1) ze).2.1
def chk (L : List En) (i : Nat) : Bool := match L[i]? with
  | none => true
  | some x => goodE x && !(decide (x.1 = 4)) && decide (prv L i < x.2.1)
def mayB (L : List En) : Bool := (List.range L.length).all (chk L) && decide (L.length ≤ 64)
theorem mayB_no {L : List En} {i : Nat} (hi : i < L.length) (h : chk L i = false) : mayB L = false := by
  have : (List.range L.length).all (chk L) = false := by
    rw [List.all_eq_false]
    exact ⟨i, List.mem_range.2 hi, by rw [h]; simp⟩
  rw [mayB, this]; rfl
theorem mayB_yes {L : List En} {i : Nat} (hi : L.length ≤ i) (h : ∀ j, j < i → chk L j = true) : mayB L = decide (L.length ≤ 64) := by
  have : (List.range L.length).all (chk L) = true := by
    rw [List.all_eq_true]
    exact fun j hj => h j (by have := List.mem_range.1 hj; omega)
  rw [mayB, this, Bool.true_and]
theorem prv_succ {L : List En} {i : Nat} {x : En} (h : L[i]? = some x) : prv L (i + 1) = x.2.1 := by
  rw [prv, if_neg (by omega), Nat.add_sub_cancel, List.getD_eq_getElem?_getD, h]; rfl
theorem table_c (L : List En) (base : Option Addr) (cap : Nat) (H : AH) (hs : SlcIn H 5 base cap (L.map encE)) :
    ACalls Tryz.prog 156 #[.slice base L.length cap] H (fun v H' => v = .bool (mayB L) ∧ H = H') := by
  have hbig := hs.big
  simp only [List.length_map] at hbig
  refine ACalls.enter2 Tryz.func156 rfl Tryz.ntmps156 Tryz.results156 (by simp) ?_; simp (dsimp := false) (maxSteps := 4000000) only [encE_len, encE_scal, go_sem]
  refine AWp.loopo (ι := Nat) (fun i => i ≤ L.length ∧ ∀ j, j < i → chk L j = true) (fun i => [(8, .int .i64 i), (7, .int .i64 L.length), (6, .slice base L.length cap), (0, .slice base L.length cap), (3, .int .i64 (prv L i))])
    (fun _ => H) (fun i => L.length - i) 0 ⟨by omega, fun j hj => by omega⟩ (FrLe.of_lks ?_) (AH.le_refl _) fun i hi Q again out => ?_
  · simp (dsimp := false) (maxSteps := 4000000) only [show prv L 0 = 0 from rfl, encE_len, encE_scal, go_sem]
  · obtain ⟨hi, hall⟩ := hi
    by_cases h : (i : Int) < L.length
    · obtain ⟨⟨k, s, f, r, y⟩, hn⟩ := get_some (l := L) (i := i) (by omega)
      obtain ⟨b, o, rfl, hrow, _⟩ := hs.get (map_get (f := encE) hn)
      rw [encE_mk] at hrow
      have ee := i64_succ (i := i) (by omega)
      have hps := prv_succ hn
      have hc : chk L i = (goodE (k, s, f, r, y) && !(decide (k = 4)) && decide (prv L i < s)) := by rw [chk, hn]
      
      simp (dsimp := false) (maxSteps := 4000000) only [h, hrow, encE_len, encE_scal, go_sem]
      refine AllB.mk fun b5 h_b5 => ?_; have hn_b5 := h_b5; (try simp only [fresh_add, fresh_set, ne_eq] at hn_b5); have hr_b5 := hn_b5; (try simp only [@eq_comm Nat b5] at hr_b5); simp (dsimp := false) (maxSteps := 4000000) only [encE_len, encE_scal, hn_b5, hr_b5, go_sem]
      refine (Good_c k s f r y _).mono ?_; rintro _ _ ⟨rfl, rfl⟩
      cases g : goodE (k, s, f, r, y) with
      | false =>
        simp (dsimp := false) (maxSteps := 4000000) only [encE_len, encE_scal, hn_b5, hr_b5, go_sem]
        refine out _ _ _ (by simp) ?_
        simp (dsimp := false) (maxSteps := 4000000) only [encE_len, encE_scal, hn_b5, hr_b5, go_sem]
        exact ⟨H, (AH.le_add (AH.le_refl _) ((by simp only [encE_len, encE_scal, fresh_add, fresh_set, ne_eq, hn_b5, not_false_eq_true, and_self] : Fresh _ b5).2)), (by first | exact ⟨by rw [mayB_no (i := i) (by omega) (by rw [hc, g]; rfl)], rfl⟩ | rfl)⟩
      | true =>
        by_cases k4 : k = 4
        · simp (dsimp := false) (maxSteps := 4000000) only [k4, encE_len, encE_scal, hn_b5, hr_b5, go_sem]
          refine out _ _ _ (by simp) ?_
          simp (dsimp := false) (maxSteps := 4000000) only [encE_len, encE_scal, hn_b5, hr_b5, go_sem]
          exact ⟨H, (AH.le_add (AH.le_refl _) ((by simp only [encE_len, encE_scal, fresh_add, fresh_set, ne_eq, hn_b5, not_false_eq_true, and_self] : Fresh _ b5).2)), (by first | exact ⟨by rw [mayB_no (i := i) (by omega) (by rw [hc, decide_eq_true k4]; simp)], rfl⟩ | rfl)⟩
        by_cases c : s ≤ prv L i
        · simp (dsimp := false) (maxSteps := 4000000) only [k4, c, encE_len, encE_scal, hn_b5, hr_b5, go_sem]
          refine out _ _ _ (by simp) ?_
          simp (dsimp := false) (maxSteps := 4000000) only [encE_len, encE_scal, hn_b5, hr_b5, go_sem]
          exact ⟨H, (AH.le_add (AH.le_refl _) ((by simp only [encE_len, encE_scal, fresh_add, fresh_set, ne_eq, hn_b5, not_false_eq_true, and_self] : Fresh _ b5).2)), (by first | exact ⟨by rw [mayB_no (i := i) (by omega) (by rw [hc, decide_eq_false (p := prv L i < s) (by omega)]; simp)], rfl⟩ | rfl)⟩
        simp (dsimp := false) (maxSteps := 4000000) only [k4, c, ee, encE_len, encE_scal, hn_b5, hr_b5, go_sem]
        refine again (i + 1) _ _ ⟨by omega, fun j hj => ?_⟩ (FrLe.of_lks (by simp (dsimp := false) (maxSteps := 4000000) only [hps, encE_len, encE_scal, hn_b5, hr_b5, go_sem])) (by (repeat (first | exact AH.le_refl _ | refine AH.le_add ?_ ?_)); all_goals (first | exact AH.le_refl _ | (show AH.find _ _ = _; simp only [find_add_self, find_add_ne, find_fresh, fresh_add, fresh_set, ne_eq, not_false_eq_true, true_and, and_true, and_self, encE_len, encE_scal, hn_b5, hr_b5]))) (by omega)
        by_cases hji : j = i
        · subst hji; rw [hc, g, decide_eq_false k4, decide_eq_true (by omega)]; rfl
        · exact hall j (by omega)
      
    · have hy := mayB_yes (by omega) hall
      simp (dsimp := false) (maxSteps := 4000000) only [h, encE_len, encE_scal, go_sem]
      refine out _ _ _ (by simp) ?_
      by_cases c : (L.length : Int) ≤ 64
      · simp (dsimp := false) (maxSteps := 4000000) only [c, encE_len, encE_scal, go_sem]
        exact ⟨H, (AH.le_refl _), (by first | exact ⟨by rw [hy, decide_eq_true (by omega)], rfl⟩ | rfl)⟩
      · simp (dsimp := false) (maxSteps := 4000000) only [c, encE_len, encE_scal, go_sem]
        exact ⟨H, (AH.le_refl _), (by first | exact ⟨by rw [hy, decide_eq_false (by omega)], rfl⟩ | rfl)⟩
theorem encE_z5 (x : En) : lput [.int .i64 0, .int .i64 0, .int .i64 0, .int .i64 0, .int .i64 0] 0 (encE x) = encE x := rfl
theorem encE_take (x : En) : (encE x).take 5 = encE x := rfl
theorem Put_v (x : En) (H : AH) : ACalls Tryz.prog 158 #[.agg (encE x).toArray] H (fun v H' => v = .tuple #[.agg (enc (pR x)).toArray, .int .i64 (pE x)] ∧ H = H') := Put_u x.1 x.2.1 x.2.2.1 x.2.2.2.1 x.2.2.2.2 H
def er : Rc := (4, 0, 0, 0)
def fileS (L : List En) (i : Nat) : List Rc := hd 3 ((L.length + 1 : Nat) : Int) :: ((L.take i).map pR ++ List.replicate (L.length + 1 - i) zr)
def fileE (L : List En) : List Rc := hd 3 ((L.length + 1 : Nat) : Int) :: (L.map pR ++ [er])
theorem fileS_zero (L : List En) : fileS L 0 = newR 3 (L.length + 1) := rfl
theorem fileS_all (L : List En) : (fileS L L.length).set (L.length + 1) er = fileE L := by
  simp only [fileS, fileE, List.take_length, show L.length + 1 - L.length = 1 from by omega, List.replicate_one, List.set_cons_succ]
  rw [List.set_append_right _ _ (by simp)]
  simp
theorem fileS_len {L : List En} {i : Nat} (h : i ≤ L.length) : (fileS L i).length = L.length + 2 := by simp [fileS]; omega
theorem fileE_len (L : List En) : (fileE L).length = L.length + 2 := by simp [fileE]
theorem fileS_set {L : List En} {i : Nat} {x : En} (h : L[i]? = some x) : (fileS L i).set (i + 1) (pR x) = fileS L (i + 1) := by
  have hi := lt_of_get h
  simp only [fileS, List.set_cons_succ]
  rw [List.set_append_right _ _ (by simp; omega), show L.length + 1 - i = (L.length + 1 - (i + 1)) + 1 from by omega, List.replicate_succ]
  have : i - ((L.take i).map pR).length = 0 := by simp; omega
  rw [this, List.set_cons_zero, List.take_add_one, h]
  simp
theorem mayB_len {L : List En} (h : mayB L = true) : L.length ≤ 64 := by
  simp only [mayB, Bool.and_eq_true, decide_eq_true_eq] at h
  exact h.2
theorem pR_er : pR (4, 0, 0, 0, 0) = er := by decide
theorem File_bad {L : List En} {base : Option Addr} {cap : Nat} {H : AH} (hs : SlcIn H 5 base cap (L.map encE)) (g : mayB L = false) :
    ACalls Tryz.prog 125 #[.slice base L.length cap] H (fun v H' => v = fbad 1 ∧ H = H') := by
  refine ACalls.enter2 Tryz.func125 rfl Tryz.ntmps125 Tryz.results125 (by simp) ?_; simp (dsimp := false) (maxSteps := 4000000) only [go_sem]
  refine AllB.mk fun b2 h_b2 => ?_; have hn_b2 := h_b2; (try simp only [fresh_add, fresh_set, ne_eq] at hn_b2); have hr_b2 := hn_b2; (try simp only [@eq_comm Nat b2] at hr_b2); simp (dsimp := false) (maxSteps := 4000000) only [hn_b2, hr_b2, go_sem]
  refine (table_c L base cap _ (hs.add (by simp only [fresh_add, ne_eq, hn_b2, not_false_eq_true, and_self] : Fresh _ b2))).mono ?_; rintro _ _ ⟨rfl, rfl⟩
  simp (dsimp := false) (maxSteps := 4000000) only [g, hn_b2, hr_b2, go_sem]
  exact ⟨H, (AH.le_add (AH.le_refl _) ((by simp only [fresh_add, fresh_set, ne_eq, hn_b2, not_false_eq_true, and_self] : Fresh _ b2).2)), (by first | exact ⟨rfl, rfl⟩ | rfl)⟩
theorem File_ok {L : List En} {base : Option Addr} {cap : Nat} {H : AH} (hs : SlcIn H 5 base cap (L.map encE)) (g : mayB L = true) :
    ACalls Tryz.prog 125 #[.slice base L.length cap] H (fun v H' => ∃ b, Fresh H b ∧ v = .tuple #[.agg #[.int .i64 3, .slice (some ⟨b, 0, none⟩) (L.length + 2) (L.length + 2)], .int .i64 0] ∧ H' = H.add b (.cells ((fileE L).map enc).flatten 76 ((L.length + 2) * 4))) := by
  have hl := mayB_len g
  have e0 := i64_succ (i := L.length) (by omega)
  refine ACalls.enter2 Tryz.func125 rfl Tryz.ntmps125 Tryz.results125 (by simp) ?_; simp (dsimp := false) (maxSteps := 4000000) only [e0, enc_len, enc_scal, enc_take, encE_len, encE_scal, encE_z5, encE_take, go_sem]
  refine AllB.mk fun b2 h_b2 => ?_; have hn_b2 := h_b2; (try simp only [fresh_add, fresh_set, ne_eq] at hn_b2); have hr_b2 := hn_b2; (try simp only [@eq_comm Nat b2] at hr_b2); simp (dsimp := false) (maxSteps := 4000000) only [e0, enc_len, enc_scal, enc_take, encE_len, encE_scal, encE_z5, encE_take, hn_b2, hr_b2, go_sem]
  refine (table_c L base cap _ (hs.add (by simp only [fresh_add, ne_eq, hn_b2, not_false_eq_true, and_self] : Fresh _ b2))).mono ?_; rintro _ _ ⟨rfl, rfl⟩
  simp (dsimp := false) (maxSteps := 4000000) only [g, e0, enc_len, enc_scal, enc_take, encE_len, encE_scal, encE_z5, encE_take, hn_b2, hr_b2, go_sem]
  refine (New_c 3 (L.length + 1) ⟨by decide, by decide, by omega, by omega⟩ _).mono ?_; rintro _ _ ⟨bn, h_bn, rfl, rfl⟩
  have hn_bn := h_bn; (try simp only [fresh_add, fresh_set, ne_eq] at hn_bn); have hr_bn := hn_bn; (try simp only [@eq_comm Nat bn] at hr_bn)
  unfold fv
  simp (dsimp := false) (maxSteps := 4000000) only [e0, enc_len, enc_scal, enc_take, encE_len, encE_scal, encE_z5, encE_take, hn_b2, hr_b2, hn_bn, hr_bn, go_sem]
  refine AllB.mk fun b4 h_b4 => ?_; have hn_b4 := h_b4; (try simp only [fresh_add, fresh_set, ne_eq] at hn_b4); have hr_b4 := hn_b4; (try simp only [@eq_comm Nat b4] at hr_b4); simp (dsimp := false) (maxSteps := 4000000) only [e0, enc_len, enc_scal, enc_take, encE_len, encE_scal, encE_z5, encE_take, hn_b2, hr_b2, hn_bn, hr_bn, hn_b4, hr_b4, go_sem]
  rw [← fileS_zero]
  refine AWp.loopo (ι := Nat) (fun i => i ≤ L.length) (fun i => [(21, .int .i64 i), (20, .int .i64 L.length), (19, .slice base L.length cap), (0, .slice base L.length cap), (2, .pointer (some ⟨b2, 0, none⟩)), (4, .pointer (some ⟨b4, 0, none⟩)), (5, .int .i64 0)])
    (fun i => ((H.add b2 (.cells [.int .i64 0, .slice none 0 0] 65 2)).add bn (.cells ((fileS L i).map enc).flatten 76 ((L.length + 1 + 1) * 4))).add b4 (.cells [.int .i64 3, .slice (some ⟨bn, 0, none⟩) (L.length + 1 + 1) (L.length + 1 + 1)] 65 2)) (fun i => L.length - i) 0 (by omega) (FrLe.of_lks ?_) (AH.le_refl _) fun i hi Q again out => ?_
  · simp (dsimp := false) (maxSteps := 4000000) only [e0, enc_len, enc_scal, enc_take, encE_len, encE_scal, encE_z5, encE_take, hn_b2, hr_b2, hn_bn, hr_bn, hn_b4, hr_b4, go_sem]
  · by_cases h : (i : Int) < L.length
    · obtain ⟨x, hn⟩ := get_some (l := L) (i := i) (by omega)
      obtain ⟨b, o, rfl, hrow, _⟩ := hs.get (map_get (f := encE) hn)
      have ee := i64_succ (i := i) (by omega)
      have e2 : IntKind.i64.wrap (1 + (i : Int)) = ((i + 1 : Nat) : Int) := by rw [i64_eq (by omega) (by omega)]; omega
      have c1 : ((i + 1 : Nat) : Int) < ((L.length + 1 + 1 : Nat) : Int) := by omega
      have nr_hrow := (And.intro (Fresh.ne_row (by simp only [hn_b2] : Fresh H b2) hrow) (And.intro (Fresh.ne_row (by simp only [hn_bn] : Fresh H bn) hrow) (Fresh.ne_row (by simp only [hn_b4] : Fresh H b4) hrow)))
      have hst := put4 (pR x) (L := fileS L i) (i := i + 1) (by rw [fileS_len hi]; omega)
      rw [fileS_set hn] at hst
      have hl4 := flat4 (fileS L i)
      rw [fileS_len hi] at hl4
      have c2 : (i + 1) * 4 + 4 ≤ (L.length + 2) * 4 := by omega
      have c3 : (L.length + 2) * 4 ≤ (L.length + 1 + 1) * 4 := by omega
      
      simp (dsimp := false) (maxSteps := 4000000) only [h, hrow, nr_hrow, e0, enc_len, enc_scal, enc_take, encE_len, encE_scal, encE_z5, encE_take, hn_b2, hr_b2, hn_bn, hr_bn, hn_b4, hr_b4, go_sem]
      refine AllB.mk fun b7 h_b7 => ?_; have hn_b7 := h_b7; (try simp only [fresh_add, fresh_set, ne_eq] at hn_b7); have hr_b7 := hn_b7; (try simp only [@eq_comm Nat b7] at hr_b7); simp (dsimp := false) (maxSteps := 4000000) only [e0, enc_len, enc_scal, enc_take, encE_len, encE_scal, encE_z5, encE_take, hn_b2, hr_b2, hn_bn, hr_bn, hn_b4, hr_b4, hn_b7, hr_b7, go_sem]
      refine AWp.gen [.pu, .rd, .pu, .pu, .rd, .ch, .pu, .pu, .pu, .pu, .ch] [0, 1, 0, 4, 0, 16, 48, 112, 112, 255, 767] 6 (_) mixed (by kernel_rfl) (AH.le_refl _) ?_
      simp (dsimp := false) (maxSteps := 4000000) only [AH.le_refl, e0, enc_len, enc_scal, enc_take, encE_len, encE_scal, encE_z5, encE_take, hn_b2, hr_b2, hn_bn, hr_bn, hn_b4, hr_b4, hn_b7, hr_b7, go_sem]
      refine (Put_v x _).mono ?_; rintro _ _ ⟨rfl, rfl⟩
      simp (dsimp := false) (maxSteps := 4000000) only [AH.le_refl, e2, c1, hst, hl4, c2, c3, ee, e0, enc_len, enc_scal, enc_take, encE_len, encE_scal, encE_z5, encE_take, hn_b2, hr_b2, hn_bn, hr_bn, hn_b4, hr_b4, hn_b7, hr_b7, go_sem]
      exact again (i + 1) _ _ (by omega) (FrLe.of_lks (by simp (dsimp := false) (maxSteps := 4000000) only [ee, e0, enc_len, enc_scal, enc_take, encE_len, encE_scal, encE_z5, encE_take, hn_b2, hr_b2, hn_bn, hr_bn, hn_b4, hr_b4, hn_b7, hr_b7, go_sem])) (by refine AH.le_cons ?_ ?_; (show AH.find _ _ = _; simp only [find_add_self, find_add_ne, find_fresh, fresh_add, fresh_set, ne_eq, not_false_eq_true, true_and, and_true, and_self, e0, enc_len, enc_scal, enc_take, encE_len, encE_scal, encE_z5, encE_take, hn_b2, hr_b2, hn_bn, hr_bn, hn_b4, hr_b4, hn_b7, hr_b7]); refine AH.le_cons ?_ ?_; (show AH.find _ _ = _; simp only [find_add_self, find_add_ne, find_fresh, fresh_add, fresh_set, ne_eq, not_false_eq_true, true_and, and_true, and_self, e0, enc_len, enc_scal, enc_take, encE_len, encE_scal, encE_z5, encE_take, hn_b2, hr_b2, hn_bn, hr_bn, hn_b4, hr_b4, hn_b7, hr_b7]); refine AH.le_cons ?_ ?_; (show AH.find _ _ = _; simp only [find_add_self, find_add_ne, find_fresh, fresh_add, fresh_set, ne_eq, not_false_eq_true, true_and, and_true, and_self, e0, enc_len, enc_scal, enc_take, encE_len, encE_scal, encE_z5, encE_take, hn_b2, hr_b2, hn_bn, hr_bn, hn_b4, hr_b4, hn_b7, hr_b7]); (repeat (first | exact AH.le_refl _ | refine AH.le_add ?_ ?_)); all_goals (first | exact AH.le_refl _ | (show AH.find _ _ = _; simp only [find_add_self, find_add_ne, find_fresh, fresh_add, fresh_set, ne_eq, not_false_eq_true, true_and, and_true, and_self, e0, enc_len, enc_scal, enc_take, encE_len, encE_scal, encE_z5, encE_take, hn_b2, hr_b2, hn_bn, hr_bn, hn_b4, hr_b4, hn_b7, hr_b7]))) (by omega)
      
    · obtain rfl : i = L.length := by omega
      simp (dsimp := false) (maxSteps := 4000000) only [h, e0, enc_len, enc_scal, enc_take, encE_len, encE_scal, encE_z5, encE_take, hn_b2, hr_b2, hn_bn, hr_bn, hn_b4, hr_b4, go_sem]
      refine out _ _ _ (by simp) ?_
      simp (dsimp := false) (maxSteps := 4000000) only [e0, enc_len, enc_scal, enc_take, encE_len, encE_scal, encE_z5, encE_take, hn_b2, hr_b2, hn_bn, hr_bn, hn_b4, hr_b4, go_sem]
      have e2 : IntKind.i64.wrap (1 + (L.length : Int)) = ((L.length + 1 : Nat) : Int) := by rw [i64_eq (by omega) (by omega)]; omega
      have c1 : ((L.length + 1 : Nat) : Int) < ((L.length + 1 + 1 : Nat) : Int) := by omega
      have hst := put4 er (L := fileS L L.length) (i := L.length + 1) (by rw [fileS_len hi]; omega)
      rw [fileS_all] at hst
      have hl4 := flat4 (fileS L L.length)
      rw [fileS_len hi] at hl4
      have c2 : (L.length + 1) * 4 + 4 ≤ (L.length + 2) * 4 := by omega
      have c3 : (L.length + 2) * 4 ≤ (L.length + 1 + 1) * 4 := by omega
      refine AWp.gen [.pu, .rd, .pu, .pu, .pu, .pu, .ch, .pu, .pu, .pu, .pu, .ch] [0, 1, 0, 4, 12, 0, 32, 96, 224, 224, 511, 1535] 7 (_) mixed (by kernel_rfl) (AH.le_refl _) ?_
      simp (dsimp := false) (maxSteps := 4000000) only [e0, enc_len, enc_scal, enc_take, encE_len, encE_scal, encE_z5, encE_take, hn_b2, hr_b2, hn_bn, hr_bn, hn_b4, hr_b4, go_sem]
      refine (Put_u 4 0 0 0 0 _).mono ?_; rintro _ _ ⟨rfl, rfl⟩
      rw [pR_er]
      simp (dsimp := false) (maxSteps := 4000000) only [AH.le_refl, e2, c1, hst, hl4, c2, c3, e0, enc_len, enc_scal, enc_take, encE_len, encE_scal, encE_z5, encE_take, hn_b2, hr_b2, hn_bn, hr_bn, hn_b4, hr_b4, go_sem]
      exact ⟨_, (by refine AH.le_cons ?_ ?_; (show AH.find _ _ = _; simp only [find_add_self, find_add_ne, find_fresh, fresh_add, fresh_set, ne_eq, not_false_eq_true, true_and, and_true, and_self, e0, enc_len, enc_scal, enc_take, encE_len, encE_scal, encE_z5, encE_take, hn_b2, hr_b2, hn_bn, hr_bn, hn_b4, hr_b4]); (repeat (first | exact AH.le_refl _ | refine AH.le_add ?_ ?_)); all_goals (first | exact AH.le_refl _ | (show AH.find _ _ = _; simp only [find_add_self, find_add_ne, find_fresh, fresh_add, fresh_set, ne_eq, not_false_eq_true, true_and, and_true, and_self, e0, enc_len, enc_scal, enc_take, encE_len, encE_scal, encE_z5, encE_take, hn_b2, hr_b2, hn_bn, hr_bn, hn_b4, hr_b4]))), bn, hn_bn.2, rfl, rfl⟩
def fP (L : List En) : Int := if mayB L = true then 3 else 0
def fR (L : List En) : List Rc := if mayB L = true then fileE L else []
def fE (L : List En) : Int := if mayB L = true then 0 else 1
theorem File_u {L : List En} {n : Nat} {base : Option Addr} {cap : Nat} {H : AH} (hs : SlcIn H 5 base cap (L.map encE)) (hn : n = L.length) :
    ACalls Tryz.prog 125 #[.slice base n cap] H (fun v H' => ∃ b c, v = .tuple #[.agg #[.int .i64 (fP L), .slice b (fR L).length c], .int .i64 (fE L)] ∧ Got H H' 4 b c ((fR L).map enc)) := by
  subst hn
  cases g : mayB L with
  | true =>
    have h1 : fR L = fileE L := by simp [fR, g]
    have hl := mayB_len g
    refine (File_ok hs g).mono fun v H' ⟨b, h2, h3, h4⟩ => ⟨some ⟨b, 0, none⟩, L.length + 2, ?_, ?_⟩
    · rw [h1, fileE_len, h3]; simp [fP, fE, g]
    · rw [h1, h4]; exact Got.add h2 (rows4 _) (by rw [List.length_map, fileE_len]; omega) (by rw [List.length_map, fileE_len]; omega)
  | false =>
    have h1 : fR L = [] := by simp [fR, g]
    refine (File_bad hs g).mono fun v H' ⟨h3, h4⟩ => ⟨none, 0, ?_, ?_⟩
    · rw [h1, h3]; simp [fP, fE, g, fbad]
    · rw [h1, ← h4]; exact Got.nil
end Go.Proofs.YtbhamhhjicehaaaGreatDoor.Chk

/- check: Sender of both sides. -/
namespace Go.Proofs.YtbhamhhjicehaaaGreatDoor.Chk
set_option linter.unusedSimpArgs false
set_option linter.unusedVariables false
open Go Go.AX Go.Proofs Ty
set_option maxHeartbeats 4000000
set_option maxRecDepth 10000

abbrev Tb := Option Addr × Nat × List En
def encT (x : Tb) : List Value := [.slice x.1 x.2.2.length x.2.1]
structure TabIn (H : AH) (base : Option Addr) (cap : Nat) (T : List Tb) : Prop where
  out : SlcIn H 1 base cap (T.map encT)
  inn : ∀ x ∈ T, SlcIn H 5 x.1 x.2.1 (x.2.2.map encE)
def snd (slot : Int) (x : En) : Bool := decide (x.1 = 1) && decide (x.2.1 = slot)
theorem sends1_c (x : En) (slot : Int) (bs : Nat) (H : AH) (h : H.rd ⟨bs, 0, none⟩ = some (.int .i64 slot)) :
    ACalls Tryz.prog 135 #[.agg (encE x).toArray, .pointer (some ⟨bs, 0, none⟩)] H (fun v H' => v = .bool (snd slot x) ∧ H = H') := by
  obtain ⟨k, s, f, r, b⟩ := x
  refine ACalls.enter2 Tryz.func135 rfl Tryz.ntmps135 Tryz.results135 (by simp) ?_; simp (dsimp := false) (maxSteps := 4000000) only [encE_mk, go_sem]
  refine AllB.mk fun b2 h_b2 => ?_; have hn_b2 := h_b2; (try simp only [fresh_add, fresh_set, ne_eq] at hn_b2); have hr_b2 := hn_b2; (try simp only [@eq_comm Nat b2] at hr_b2); simp (dsimp := false) (maxSteps := 4000000) only [encE_mk, hn_b2, hr_b2, go_sem]
  have nr_h := (Fresh.ne_rd (by simp only [hn_b2] : Fresh H b2) h)
  by_cases a : k = 1
  · simp (dsimp := false) (maxSteps := 4000000) only [a, h, nr_h, encE_mk, hn_b2, hr_b2, go_sem]
    exact ⟨H, (AH.le_add (AH.le_refl _) ((by simp only [encE_mk, fresh_add, fresh_set, ne_eq, hn_b2, not_false_eq_true, and_self] : Fresh _ b2).2)), (by first | exact ⟨congrArg Value.bool (by rw [Bool.eq_iff_iff]; simp [snd, a]), rfl⟩ | rfl)⟩
  · simp (dsimp := false) (maxSteps := 4000000) only [a, encE_mk, hn_b2, hr_b2, go_sem]
    exact ⟨H, (AH.le_add (AH.le_refl _) ((by simp only [encE_mk, fresh_add, fresh_set, ne_eq, hn_b2, not_false_eq_true, and_self] : Fresh _ b2).2)), (by first | exact ⟨by simp [snd, a], rfl⟩ | rfl)⟩
def Ix (g : En → Bool) (L : List En) (r : Int) : Prop := (r = -1 ∧ ∀ x ∈ L, g x = false) ∨ ∃ (i : Nat) (x : En), L[i]? = some x ∧ g x = true ∧ r = i ∧ ∀ j, j < i → ∀ y, L[j]? = some y → g y = false
theorem Index_g {g : En → Bool} {fid : Nat} {caps : List Value} {L : List En} {n : Nat} {base : Option Addr} {cap : Nat} {H : AH} (hs : SlcIn H 5 base cap (L.map encE)) (hn : n = L.length) (hok : fnOk Tryz.prog fid = true)
    (hf : ∀ x ∈ L, ACalls Tryz.prog fid ([] ++ [Value.agg (encE x).toArray] ++ caps).toArray H (fun v H' => v = .bool (g x) ∧ H = H')) :
    ACalls Tryz.prog 110 #[.slice base n cap, .func (.func fid) #[] caps.toArray] H (fun v H' => ∃ r : Int, v = .int .i64 r ∧ Ix g L r ∧ H = H') := by
  subst hn
  have hbig := hs.big
  simp only [List.length_map] at hbig
  refine ACalls.enter2 Tryz.func110 rfl Tryz.ntmps110 Tryz.results110 (by simp) ?_; simp (dsimp := false) (maxSteps := 4000000) only [go_sem]
  refine AWp.loopo (ι := Nat) (fun i => i ≤ L.length ∧ ∀ j, j < i → ∀ y, L[j]? = some y → g y = false) (fun i => [(8, .int .i64 i), (7, .int .i64 L.length), (0, .slice base L.length cap), (1, .func (.func fid) #[] caps.toArray)])
    (fun _ => H) (fun i => L.length - i) 0 ⟨by omega, fun j hj => by omega⟩ (FrLe.of_lks ?_) (AH.le_refl _) fun i hi Q again out => ?_
  · simp (dsimp := false) (maxSteps := 4000000) only [go_sem]
  · obtain ⟨hi, hall⟩ := hi
    by_cases h : (i : Int) < L.length
    · obtain ⟨x, hx⟩ := get_some (l := L) (i := i) (by omega)
      obtain ⟨b, o, rfl, hrow, _⟩ := hs.get (map_get (f := encE) hx)
      have ee := i64_succ (i := i) (by omega)
      simp (dsimp := false) (maxSteps := 4000000) only [h, hrow, hok, go_sem]
      refine (hf x (List.mem_of_getElem? hx)).mono ?_; rintro _ _ ⟨rfl, rfl⟩
      cases hb : g x with
      | true =>
        simp (dsimp := false) (maxSteps := 4000000) only [go_sem]
        refine out _ _ _ (by simp) ?_
        simp (dsimp := false) (maxSteps := 4000000) only [go_sem]
        exact ⟨H, (by (repeat (first | exact AH.le_refl _ | refine AH.le_add ?_ ?_)); all_goals (first | exact AH.le_refl _ | (show AH.find _ _ = _; simp only [find_add_self, find_add_ne, find_fresh, fresh_add, fresh_set, ne_eq, not_false_eq_true, true_and, and_true, and_self]))), _, rfl, .inr ⟨i, x, hx, hb, rfl, hall⟩, rfl⟩
      | false =>
        simp (dsimp := false) (maxSteps := 4000000) only [ee, go_sem]
        refine again (i + 1) _ _ ⟨by omega, fun j hj m hm => ?_⟩ (FrLe.of_lks (by simp (dsimp := false) (maxSteps := 4000000) only [go_sem])) (AH.le_refl _) (by omega)
        by_cases hji : j = i
        · subst hji; rw [hx] at hm; cases hm; exact hb
        · exact hall j (by omega) m hm
    · simp (dsimp := false) (maxSteps := 4000000) only [h, go_sem]
      refine out _ _ _ (by simp) ?_
      simp (dsimp := false) (maxSteps := 4000000) only [go_sem]
      exact ⟨H, (by (repeat (first | exact AH.le_refl _ | refine AH.le_add ?_ ?_)); all_goals (first | exact AH.le_refl _ | (show AH.find _ _ = _; simp only [find_add_self, find_add_ne, find_fresh, fresh_add, fresh_set, ne_eq, not_false_eq_true, true_and, and_true, and_self]))), _, rfl, .inl ⟨rfl, fun y hy => by
        obtain ⟨j, hj⟩ := List.mem_iff_getElem?.1 hy
        exact hall j (by have := lt_of_get hj; omega) y hj⟩, rfl⟩
end Go.Proofs.YtbhamhhjicehaaaGreatDoor.Chk

/- part: what a store comes to behind a round, in any order. -/
namespace Go.Proofs.YtbhamhhjicehaaaGreatDoor.Prt
set_option linter.unusedSimpArgs false
set_option linter.unusedVariables false
open Go Go.AX Go.Proofs Go.Proofs.YtbhamhhjicehaaaGreatDoor.File Go.Proofs.YtbhamhhjicehaaaGreatDoor.Ifs

abbrev En := Int × Int × Int × Int × Int
abbrev Pl := Int × Int
abbrev Hd := Int → Option Int
def pl (x : En) : Pl := (x.2.2.1, x.2.2.2.1)
def isP (p : Pl) (x : En) : Bool := decide (x.1 = 2) && decide (pl x = p)
def got (T : List En) (p : Pl) : List En := T.filter (isP p)
def okP (hd : Hd) (l : List En) : Bool := l.all fun y => (hd y.2.1).isSome
def putB (v : Rc) (i b : Int) : Rc := if i = 0 then (b, v.2) else if i = 1 then (v.1, b, v.2.2) else if i = 2 then (v.1, v.2.1, b, v.2.2.2) else (v.1, v.2.1, v.2.2.1, b)
def putE (hd : Hd) (v : Rc) (y : En) : Rc := putB v y.2.2.2.2 ((hd y.2.1).getD 0)
def stepP (T : List En) (hd : Hd) (X : List Nf) (p : Pl) : List Nf := match getW X p.1 p.2 with
  | none => X
  | some v => if okP hd (got T p) = true then setX X p.1 p.2 ((got T p).foldl (putE hd) v) else X
def recvs (T : List En) : List Pl := (T.filter fun x => decide (x.1 = 2)).map pl
def app1 (T : List En) (hd : Hd) (X : List Nf) : List Nf := (recvs T).foldl (stepP T hd) X
def exE (S : List Nf × Int) (x : En) : List Nf × Int := if x.1 = 3 then (doX S.1 2 x.2.2.1 x.2.2.2.1 zr, doD S.1 2 x.2.2.1 x.2.2.2.1 S.2) else S
def app2 (T : List En) (S : List Nf × Int) : List Nf × Int := T.foldl exE S
def app (T : List En) (hd : Hd) (X : List Nf) (den : Int) : List Nf × Int := app2 T (app1 T hd X, den)

section fold
variable {α β : Type} {f : α → β → α}
open Classical in
theorem fold_absorb (hc : ∀ X a b, f (f X a) b = f (f X b) a) (hi : ∀ X a, f (f X a) a = f X a) {a : β} : ∀ {l : List β} {X : α}, a ∈ l → l.foldl f (f X a) = l.foldl f X
  | b :: l, X, h => by
    rw [List.foldl_cons, List.foldl_cons]
    by_cases e : a = b
    · subst e; rw [hi]
    · rw [hc, fold_absorb hc hi ((List.mem_cons.1 h).resolve_left e)]
theorem fold_absorbs (hc : ∀ X a b, f (f X a) b = f (f X b) a) (hi : ∀ X a, f (f X a) a = f X a) {l : List β} : ∀ {K : List β} {X : α}, (∀ a ∈ K, a ∈ l) → l.foldl f (K.foldl f X) = l.foldl f X
  | [], _, _ => rfl
  | a :: K, X, h => by
    rw [List.foldl_cons, fold_absorbs hc hi (fun b hb => h b (List.mem_cons_of_mem _ hb)), fold_absorb hc hi (h a (List.mem_cons_self ..))]
theorem fold_one (hc : ∀ X a b, f (f X a) b = f (f X b) a) {a : β} : ∀ {l : List β} {X : α}, f (l.foldl f X) a = l.foldl f (f X a)
  | [], _ => rfl
  | b :: l, X => by rw [List.foldl_cons, List.foldl_cons, fold_one hc, hc]
theorem fold_swap (hc : ∀ X a b, f (f X a) b = f (f X b) a) {l : List β} : ∀ {K : List β} {X : α}, K.foldl f (l.foldl f X) = l.foldl f (K.foldl f X)
  | [], _ => rfl
  | a :: K, X => by rw [List.foldl_cons, List.foldl_cons, fold_one hc, fold_swap hc]
theorem fold_same (hc : ∀ X a b, f (f X a) b = f (f X b) a) (hi : ∀ X a, f (f X a) a = f X a) {K l : List β} {X : α} (h1 : ∀ a ∈ K, a ∈ l) (h2 : ∀ a ∈ l, a ∈ K) : K.foldl f X = l.foldl f X := by
  rw [← fold_absorbs hc hi (K := K) h1, ← fold_swap hc, fold_absorbs hc hi h2]
end fold

theorem getW_some {X : List Nf} {n rec : Int} {v : Rc} (h : getW X n rec = some v) : ∃ f, lk n X = some f ∧ 0 ≤ rec ∧ f.2[rec.toNat]? = some v := by
  unfold getW at h
  cases hl : lk n X with
  | none => rw [hl] at h; cases h
  | some f =>
    rw [hl, Option.bind_some] at h
    split at h
    · cases h
    · exact ⟨f, rfl, by omega, h⟩
theorem setX_some {X : List Nf} {n rec : Int} {v w : Rc} {f : Fl} (hl : lk n X = some f) (h0 : 0 ≤ rec) (hv : f.2[rec.toNat]? = some w) (hr : rec ≠ 0) : setX X n rec v = rp n (f.1, f.2.set rec.toNat v) X := by
  have hg : getW X n rec = some w := by rw [getW, hl, Option.bind_some, if_neg (by omega)]; exact hv
  rw [setX, setOk, hg, hl]
  simp [hr]
theorem setX_zero {X : List Nf} {n : Int} {v : Rc} : setX X n 0 v = X := by rw [setX, setOk]; simp
theorem setX_none {X : List Nf} {n rec : Int} {v : Rc} (h : getW X n rec = none) : setX X n rec v = X := by rw [setX, setOk, h]; simp
theorem rp_rp (n : Int) (f g : Fl) (X : List Nf) : rp n f (rp n g X) = rp n f X := by
  rw [rp, rp, rp, List.map_map]
  apply List.map_congr_left
  intro x _
  simp only [Function.comp]
  by_cases h : x.1 = n <;> simp [h]
theorem rp_comm {n m : Int} (h : n ≠ m) (f g : Fl) (X : List Nf) : rp n f (rp m g X) = rp m g (rp n f X) := by
  rw [rp, rp, rp, rp, List.map_map, List.map_map]
  apply List.map_congr_left
  intro x _
  simp only [Function.comp]
  by_cases h1 : x.1 = n
  · have h2 : ¬ x.1 = m := fun e => h (h1.symm.trans e)
    simp [h1, h]
  · by_cases h2 : x.1 = m
    · simp [h2, Ne.symm h]
    · simp [h1, h2]
theorem lk_rp_self {n : Int} {f g : Fl} {X : List Nf} (h : lk n X = some g) : lk n (rp n f X) = some f := by rw [lk_rp, if_pos rfl, h]; rfl
theorem lk_rp_ne {n m : Int} {f : Fl} {X : List Nf} (h : m ≠ n) : lk m (rp n f X) = lk m X := by rw [lk_rp, if_neg h]
theorem getW_set (X : List Nf) (n rec n' rec' : Int) (v : Rc) : getW (setX X n rec v) n' rec' = if n' = n ∧ rec' = rec ∧ rec ≠ 0 then (getW X n rec).map (fun _ => v) else getW X n' rec' := by
  cases hg : getW X n rec with
  | none =>
    rw [setX_none hg]
    split
    · rename_i h; rw [h.1, h.2.1, hg]; rfl
    · rfl
  | some w =>
    obtain ⟨f, hl, h0, hv⟩ := getW_some hg
    by_cases hr : rec = 0
    · subst hr; rw [setX_zero, if_neg (by simp)]
    rw [setX_some hl h0 hv hr]
    by_cases hn : n' = n
    · subst hn
      rw [getW, lk_rp_self hl, Option.bind_some]
      by_cases h1 : rec' < 0
      · rw [if_pos h1, if_neg (by omega), getW, hl, Option.bind_some, if_pos h1]
      rw [if_neg h1]
      by_cases h2 : rec' = rec
      · subst h2
        rw [if_pos ⟨rfl, rfl, hr⟩, Option.map_some]
        exact List.getElem?_set_self (List.getElem?_eq_some_iff.1 hv).1
      · rw [if_neg (fun h => h2 h.2.1), getW, hl, Option.bind_some, if_neg h1]
        exact List.getElem?_set_ne (by omega)
    · rw [if_neg (fun h => hn h.1), getW, lk_rp_ne hn, getW]
theorem setX_comm (X : List Nf) (n rec n' rec' : Int) (v w : Rc) (h : ¬ (n = n' ∧ rec = rec')) : setX (setX X n rec v) n' rec' w = setX (setX X n' rec' w) n rec v := by
  cases hg : getW X n rec with
  | none =>
    rw [setX_none hg, setX_none (X := setX X n' rec' w)]
    rw [getW_set]
    split
    · rename_i h'; exact absurd ⟨h'.1, h'.2.1⟩ h
    · exact hg
  | some v0 =>
    cases hg' : getW X n' rec' with
    | none =>
      rw [setX_none hg', setX_none (X := setX X n rec v)]
      rw [getW_set]
      split
      · rename_i h'; exact absurd ⟨h'.1.symm, h'.2.1.symm⟩ h
      · exact hg'
    | some w0 =>
      by_cases r0 : rec = 0
      · subst r0; simp only [setX_zero]
      by_cases r0' : rec' = 0
      · subst r0'; simp only [setX_zero]
      obtain ⟨f, hl, h0, hv⟩ := getW_some hg
      obtain ⟨f', hl', h0', hv'⟩ := getW_some hg'
      rw [setX_some hl h0 hv r0, setX_some hl' h0' hv' r0']
      by_cases hn : n = n'
      · subst hn
        obtain rfl : f = f' := Option.some.inj (hl.symm.trans hl')
        have hne : rec.toNat ≠ rec'.toNat := fun e => h ⟨rfl, by omega⟩
        rw [setX_some (lk_rp_self hl) h0' (w := w0) (by rw [List.getElem?_set_ne hne]; exact hv') r0', setX_some (lk_rp_self hl) h0 (w := v0) (by rw [List.getElem?_set_ne (Ne.symm hne)]; exact hv) r0, rp_rp, rp_rp, List.set_comm _ _ hne]
      · rw [setX_some ((lk_rp_ne (Ne.symm hn)).trans hl') h0' hv' r0', setX_some ((lk_rp_ne hn).trans hl) h0 hv r0, rp_comm (Ne.symm hn)]
theorem setX_setX (X : List Nf) (n rec : Int) (v w : Rc) : setX (setX X n rec v) n rec w = setX X n rec w := by
  cases hg : getW X n rec with
  | none => rw [setX_none hg]
  | some v0 =>
    by_cases r0 : rec = 0
    · subst r0; simp only [setX_zero]
    obtain ⟨f, hl, h0, hv⟩ := getW_some hg
    rw [setX_some hl h0 hv r0, setX_some (lk_rp_self hl) h0 (w := v) (List.getElem?_set_self (List.getElem?_eq_some_iff.1 hv).1) r0, setX_some hl h0 hv r0, rp_rp, List.set_set]

def byt (v : Rc) (i : Int) : Int := if i = 0 then v.1 else if i = 1 then v.2.1 else if i = 2 then v.2.2.1 else v.2.2.2
def cls (i : Int) : Int := if i = 0 then 0 else if i = 1 then 1 else if i = 2 then 2 else 3
theorem byt_putB (v : Rc) (i j b : Int) : byt (putB v i b) j = if cls j = cls i then b else byt v j := by
  unfold byt putB cls
  by_cases h0 : i = 0 <;> by_cases h1 : i = 1 <;> by_cases h2 : i = 2 <;> by_cases g0 : j = 0 <;> by_cases g1 : j = 1 <;> by_cases g2 : j = 2 <;> simp_all
theorem byt_ext {v w : Rc} (h : ∀ j, 0 ≤ j → j < 4 → byt v j = byt w j) : v = w := by
  obtain ⟨a, b, c, d⟩ := v
  obtain ⟨a', b', c', d'⟩ := w
  have h0 := h 0 (by decide) (by decide)
  have h1 := h 1 (by decide) (by decide)
  have h2 := h 2 (by decide) (by decide)
  have h3 := h 3 (by decide) (by decide)
  simp [byt] at h0 h1 h2 h3
  simp [h0, h1, h2, h3]
theorem byt_fold (hd : Hd) (j : Int) : ∀ (l : List En), (∃ b, ∀ v, byt (l.foldl (putE hd) v) j = b) ∨ ∀ v, byt (l.foldl (putE hd) v) j = byt v j
  | [] => .inr fun _ => rfl
  | y :: l => by
    rcases byt_fold hd j l with ⟨b, h⟩ | h
    · exact .inl ⟨b, fun v => h _⟩
    · by_cases e : cls j = cls y.2.2.2.2
      · exact .inl ⟨(hd y.2.1).getD 0, fun v => by rw [List.foldl_cons, h, putE, byt_putB, if_pos e]⟩
      · exact .inr fun v => by rw [List.foldl_cons, h, putE, byt_putB, if_neg e]
theorem fold_idem (hd : Hd) (l : List En) (v : Rc) : l.foldl (putE hd) (l.foldl (putE hd) v) = l.foldl (putE hd) v := by
  refine byt_ext fun j _ _ => ?_
  rcases byt_fold hd j l with ⟨b, h⟩ | h
  · rw [h, h]
  · rw [h]
theorem stepP_comm (T : List En) (hd : Hd) (X : List Nf) (a b : Pl) : stepP T hd (stepP T hd X a) b = stepP T hd (stepP T hd X b) a := by
  by_cases e : a = b
  · rw [e]
  have hne : ¬ (a.1 = b.1 ∧ a.2 = b.2) := fun h => e (Prod.ext h.1 h.2)
  have hne' : ¬ (b.1 = a.1 ∧ b.2 = a.2) := fun h => hne ⟨h.1.symm, h.2.symm⟩
  have gw : ∀ v, getW (setX X a.1 a.2 v) b.1 b.2 = getW X b.1 b.2 := fun v => by rw [getW_set, if_neg fun h => hne' ⟨h.1, h.2.1⟩]
  have gw' : ∀ v, getW (setX X b.1 b.2 v) a.1 a.2 = getW X a.1 a.2 := fun v => by rw [getW_set, if_neg fun h => hne ⟨h.1, h.2.1⟩]
  cases ha : getW X a.1 a.2 with
  | none =>
    have h1 : ∀ Y, getW Y a.1 a.2 = none → stepP T hd Y a = Y := fun Y h => by rw [stepP, h]
    rw [h1 X ha]
    cases hb : getW X b.1 b.2 with
    | none =>
      have h2 : stepP T hd X b = X := by rw [stepP, hb]
      rw [h2, h1 X ha]
    | some w =>
      rw [h1]
      have h2 : stepP T hd X b = if okP hd (got T b) = true then setX X b.1 b.2 ((got T b).foldl (putE hd) w) else X := by rw [stepP, hb]
      rw [h2]
      split
      · rw [gw', ha]
      · exact ha
  | some v =>
    have h1 : ∀ Y, getW Y a.1 a.2 = some v → stepP T hd Y a = if okP hd (got T a) = true then setX Y a.1 a.2 ((got T a).foldl (putE hd) v) else Y := fun Y h => by rw [stepP, h]
    cases hb : getW X b.1 b.2 with
    | none =>
      have h2 : ∀ Y, getW Y b.1 b.2 = none → stepP T hd Y b = Y := fun Y h => by rw [stepP, h]
      rw [h2 X hb, h1 X ha, h2]
      split
      · rw [gw, hb]
      · exact hb
    | some w =>
      have h2 : ∀ Y, getW Y b.1 b.2 = some w → stepP T hd Y b = if okP hd (got T b) = true then setX Y b.1 b.2 ((got T b).foldl (putE hd) w) else Y := fun Y h => by rw [stepP, h]
      rw [h1 X ha, h2 X hb]
      by_cases oa : okP hd (got T a) = true <;> by_cases ob : okP hd (got T b) = true
      · rw [if_pos oa, if_pos ob, h2 _ (by rw [gw, hb]), h1 _ (by rw [gw', ha]), if_pos oa, if_pos ob, setX_comm _ _ _ _ _ _ _ hne]
      · rw [if_pos oa, if_neg ob, h2 _ (by rw [gw, hb]), h1 _ ha, if_pos oa, if_neg ob]
      · rw [if_neg oa, if_pos ob, h2 _ hb, h1 _ (by rw [gw', ha]), if_neg oa, if_pos ob]
      · rw [if_neg oa, if_neg ob, h2 _ hb, h1 _ ha, if_neg oa, if_neg ob]
theorem stepP_idem (T : List En) (hd : Hd) (X : List Nf) (a : Pl) : stepP T hd (stepP T hd X a) a = stepP T hd X a := by
  cases ha : getW X a.1 a.2 with
  | none =>
    have h1 : stepP T hd X a = X := by rw [stepP, ha]
    rw [h1, h1]
  | some v =>
    have h1 : ∀ Y w, getW Y a.1 a.2 = some w → stepP T hd Y a = if okP hd (got T a) = true then setX Y a.1 a.2 ((got T a).foldl (putE hd) w) else Y := fun Y w h => by rw [stepP, h]
    rw [h1 X v ha]
    split
    · rename_i o
      by_cases r0 : a.2 = 0
      · simp only [r0, setX_zero]
        rw [h1 X v ha, if_pos o]
        simp only [r0, setX_zero]
      · rw [h1 _ ((got T a).foldl (putE hd) v) (by rw [getW_set, if_pos ⟨rfl, rfl, r0⟩, ha]; rfl), if_pos o, setX_setX, fold_idem]
    · rename_i o
      rw [h1 X v ha, if_neg o]
theorem app1_any (T : List En) (hd : Hd) (X : List Nf) (K : List Pl) (h1 : ∀ p ∈ K, p ∈ recvs T) (h2 : ∀ p ∈ recvs T, p ∈ K) : K.foldl (stepP T hd) X = app1 T hd X :=
  fold_same (stepP_comm T hd) (stepP_idem T hd) h1 h2
end Go.Proofs.YtbhamhhjicehaaaGreatDoor.Prt

/- check: Sender. -/
namespace Go.Proofs.YtbhamhhjicehaaaGreatDoor.Chk
set_option linter.unusedSimpArgs false
set_option linter.unusedVariables false
open Go Go.AX Go.Proofs Ty
set_option maxHeartbeats 4000000
set_option maxRecDepth 10000

def sndO (slot : Int) : Nat → List Tb → Option (Nat × En)
  | _, [] => none
  | n, t :: T => match t.2.2.find? (snd slot) with
    | some x => some (n, x)
    | none => sndO slot (n + 1) T
theorem sndO_hit {slot : Int} : ∀ {T : List Tb} {i m : Nat} {t : Tb} {x : En}, T[i]? = some t → (∀ j, j < i → ∀ t, T[j]? = some t → t.2.2.find? (snd slot) = none) → t.2.2.find? (snd slot) = some x → sndO slot m T = some (m + i, x)
  | [], _, _, _, _, h, _, _ => by simp at h
  | t0 :: T, 0, m, t, x, h, _, hx => by
    simp at h; subst h
    rw [sndO, hx]; rfl
  | t0 :: T, i + 1, m, t, x, h, hp, hx => by
    have h0 := hp 0 (by omega) t0 rfl
    rw [sndO, h0]
    simp only [List.getElem?_cons_succ] at h
    show sndO slot (m + 1) T = _
    rw [sndO_hit h (fun j hj t ht => hp (j + 1) (by omega) t ht) hx, show m + 1 + i = m + (i + 1) from by omega]
theorem sndO_none {slot : Int} : ∀ {T : List Tb} {m : Nat}, (∀ t ∈ T, t.2.2.find? (snd slot) = none) → sndO slot m T = none
  | [], _, _ => rfl
  | t0 :: T, m, h => by
    rw [sndO, h t0 (List.mem_cons_self ..)]
    exact sndO_none fun t ht => h t (List.mem_cons_of_mem _ ht)
theorem find_none {g : En → Bool} {L : List En} (h : ∀ x ∈ L, g x = false) : L.find? g = none := List.find?_eq_none.2 fun x hx => by rw [h x hx]; simp
theorem find_some {g : En → Bool} : ∀ {L : List En} {i : Nat} {x : En}, L[i]? = some x → g x = true → (∀ j, j < i → ∀ y, L[j]? = some y → g y = false) → L.find? g = some x
  | [], _, _, h, _, _ => by simp at h
  | y :: L, 0, x, h, hg, _ => by simp at h; subst h; simp [hg]
  | y :: L, i + 1, x, h, hg, hp => by
    have h0 := hp 0 (by omega) y rfl
    simp only [List.getElem?_cons_succ] at h
    rw [List.find?_cons, h0]
    exact find_some h hg fun j hj z hz => hp (j + 1) (by omega) z hz
theorem sends_c (slot : Int) (H : AH) : ACalls Tryz.prog 111 #[.int .i64 slot] H (fun v H' => ∃ b, Fresh H b ∧ v = .func (.func 135) #[] [.pointer (some ⟨b, 0, none⟩)].toArray ∧ H' = H.add b (.cells [.int .i64 slot] 3 1)) := by
  refine ACalls.enter2 Tryz.func111 rfl Tryz.ntmps111 Tryz.results111 (by simp) ?_; simp (dsimp := false) (maxSteps := 4000000) only [go_sem]
  refine AllB.mk fun b1 h_b1 => ?_; have hn_b1 := h_b1; (try simp only [fresh_add, fresh_set, ne_eq] at hn_b1); have hr_b1 := hn_b1; (try simp only [@eq_comm Nat b1] at hr_b1); simp (dsimp := false) (maxSteps := 4000000) only [hn_b1, hr_b1, go_sem]
  exact ⟨_, AH.le_refl _, b1, h_b1, rfl, rfl⟩
def sN (slot : Int) (T : List Tb) : Int := match sndO slot 0 T with | some x => x.1 | none => -1
def sX (slot : Int) (T : List Tb) : En := match sndO slot 0 T with | some x => x.2 | none => ze
theorem Sender_c (T : List Tb) (base : Option Addr) (cap : Nat) (slot : Int) (H : AH) (hT : TabIn H base cap T) :
    ACalls Tryz.prog 66 #[.slice base T.length cap, .int .i64 slot] H (fun v H' => v = .tuple #[.int .i64 (sN slot T), .agg (encE (sX slot T)).toArray] ∧ H = H') := by
  have hbig := hT.out.big
  simp only [List.length_map] at hbig
  refine ACalls.enter2 Tryz.func66 rfl Tryz.ntmps66 Tryz.results66 (by simp) ?_; simp (dsimp := false) (maxSteps := 4000000) only [encE_len, encE_scal, encE_z5, encE_take, go_sem]
  refine AllB.mk fun b5 h_b5 => ?_; have hn_b5 := h_b5; (try simp only [fresh_add, fresh_set, ne_eq] at hn_b5); have hr_b5 := hn_b5; (try simp only [@eq_comm Nat b5] at hr_b5); simp (dsimp := false) (maxSteps := 4000000) only [encE_len, encE_scal, encE_z5, encE_take, hn_b5, hr_b5, go_sem]
  have f5 : Fresh H b5 := h_b5
  refine AWp.loopo (ι := Nat) (fun i => i ≤ T.length ∧ ∀ j, j < i → ∀ t, T[j]? = some t → t.2.2.find? (snd slot) = none) (fun i => [(11, .int .i64 i), (10, .int .i64 T.length), (9, .slice base T.length cap), (0, .slice base T.length cap), (1, .int .i64 slot), (5, .pointer (some ⟨b5, 0, none⟩))])
    (fun _ => H.add b5 (.cells [.int .i64 0, .int .i64 0, .int .i64 0, .int .i64 0, .int .i64 0] 78 5)) (fun i => T.length - i) 0 ⟨by omega, fun j hj => by omega⟩ (FrLe.of_lks ?_) (AH.le_refl _) fun i hi Q again out => ?_
  · simp (dsimp := false) (maxSteps := 4000000) only [encE_len, encE_scal, encE_z5, encE_take, hn_b5, hr_b5, go_sem]
  · obtain ⟨hi, hall⟩ := hi
    by_cases h : (i : Int) < T.length
    · obtain ⟨⟨tb, tc, L⟩, ht⟩ := get_some (l := T) (i := i) (by omega)
      have hin := hT.inn _ (List.mem_of_getElem? ht)
      obtain ⟨b, o, rfl, _, hrd⟩ := hT.out.get (map_get (f := encT) ht)
      have hrd := hrd 0 _ rfl
      simp only [Nat.mul_one, Nat.add_zero] at hrd
      have ee := i64_succ (i := i) (by omega)
      have nr_hrd := (Fresh.ne_rd (by simp only [hn_b5] : Fresh H b5) hrd)
      
      simp (dsimp := false) (maxSteps := 4000000) only [h, hrd, nr_hrd, encE_len, encE_scal, encE_z5, encE_take, hn_b5, hr_b5, go_sem]
      refine (sends_c slot _).mono ?_; rintro _ _ ⟨bs, h_bs, rfl, rfl⟩
      have hn_bs := h_bs; (try simp only [fresh_add, fresh_set, ne_eq] at hn_bs); have hr_bs := hn_bs; (try simp only [@eq_comm Nat bs] at hr_bs)
      simp (dsimp := false) (maxSteps := 4000000) only [encE_len, encE_scal, encE_z5, encE_take, hn_b5, hr_b5, hn_bs, hr_bs, go_sem]
      refine (Index_g (g := snd slot) (fid := 135) (L := L) ((hin.add f5).add h_bs) rfl (by kernel_rfl) fun x hx => sends1_c x slot bs _ (by rw [rd_add_self]; rfl)).mono ?_; rintro _ _ ⟨r, rfl, hr, rfl⟩
      rcases hr with ⟨rfl, hno⟩ | ⟨q, x, hq, hg, rfl, hpre⟩
      · have hf := find_none hno
        simp (dsimp := false) (maxSteps := 4000000) only [ee, encE_len, encE_scal, encE_z5, encE_take, hn_b5, hr_b5, hn_bs, hr_bs, go_sem]
        refine again (i + 1) _ _ ⟨by omega, fun j hj t' ht' => ?_⟩ (FrLe.of_lks (by simp (dsimp := false) (maxSteps := 4000000) only [encE_len, encE_scal, encE_z5, encE_take, hn_b5, hr_b5, hn_bs, hr_bs, go_sem])) (by refine AH.le_cons ?_ ?_; (show AH.find _ _ = _; simp only [find_add_self, find_add_ne, find_fresh, fresh_add, fresh_set, ne_eq, not_false_eq_true, true_and, and_true, and_self, encE_len, encE_scal, encE_z5, encE_take, hn_b5, hr_b5, hn_bs, hr_bs]); (repeat (first | exact AH.le_refl _ | refine AH.le_add ?_ ?_)); all_goals (first | exact AH.le_refl _ | (show AH.find _ _ = _; simp only [find_add_self, find_add_ne, find_fresh, fresh_add, fresh_set, ne_eq, not_false_eq_true, true_and, and_true, and_self, encE_len, encE_scal, encE_z5, encE_take, hn_b5, hr_b5, hn_bs, hr_bs]))) (by omega)
        by_cases hji : j = i
        · subst hji; rw [ht] at ht'; cases ht'; exact hf
        · exact hall j (by omega) t' ht'
      · have hf := find_some hq hg hpre
        have hs0 := sndO_hit (m := 0) ht hall hf
        rw [Nat.zero_add] at hs0
        obtain ⟨b', o', rfl, hrow, _⟩ := hin.get (map_get (f := encE) hq)
        have q0 : (0 : Int) ≤ (q : Int) := by omega
        have q1 : (q : Int) < L.length := by have := lt_of_get hq; omega
        have nr_hrow := (And.intro (Fresh.ne_row (by simp only [hn_b5] : Fresh H b5) hrow) (Fresh.ne_row (by simp only [hn_bs] : Fresh H bs) hrow))
        simp (dsimp := false) (maxSteps := 4000000) only [q0, encE_len, encE_scal, encE_z5, encE_take, hn_b5, hr_b5, hn_bs, hr_bs, go_sem]
        refine AWp.gen [.pu, .pu, .pu, .pu, .rd, .pu, .ch] [0, 0, 0, 6, 14, 1, 63] 0 (_) mixed (by kernel_rfl) (AH.le_refl _) ?_
        simp (dsimp := false) (maxSteps := 4000000) only [q1, hrow, nr_hrow, AH.le_refl, encE_len, encE_scal, encE_z5, encE_take, hn_b5, hr_b5, hn_bs, hr_bs, go_sem]
        refine out _ _ _ (by simp) ?_
        simp (dsimp := false) (maxSteps := 4000000) only [encE_len, encE_scal, encE_z5, encE_take, hn_b5, hr_b5, hn_bs, hr_bs, go_sem]
        exact ⟨H, (AH.le_add (AH.le_add (AH.le_refl _) ((by simp only [encE_len, encE_scal, encE_z5, encE_take, fresh_add, fresh_set, ne_eq, hn_b5, not_false_eq_true, and_self] : Fresh _ b5).2)) ((by simp only [encE_len, encE_scal, encE_z5, encE_take, fresh_add, fresh_set, ne_eq, hn_bs, not_false_eq_true, and_self] : Fresh _ bs).2)), (by first | exact ⟨by simp [sN, sX, hs0], rfl⟩ | rfl)⟩
      
    · simp (dsimp := false) (maxSteps := 4000000) only [h, encE_len, encE_scal, encE_z5, encE_take, hn_b5, hr_b5, go_sem]
      refine out _ _ _ (by simp) ?_
      have hz := sndO_none (slot := slot) (T := T) (m := 0) fun t ht => by
        obtain ⟨j, hj⟩ := List.mem_iff_getElem?.1 ht
        exact hall j (by have := lt_of_get hj; omega) t hj
      simp (dsimp := false) (maxSteps := 4000000) only [encE_len, encE_scal, encE_z5, encE_take, hn_b5, hr_b5, go_sem]
      exact ⟨H, (AH.le_add (AH.le_refl _) ((by simp only [encE_len, encE_scal, encE_z5, encE_take, fresh_add, fresh_set, ne_eq, hn_b5, not_false_eq_true, and_self] : Fresh _ b5).2)), (by first | exact ⟨by simp [sN, sX, hz, encE, ze], rfl⟩ | rfl)⟩
end Go.Proofs.YtbhamhhjicehaaaGreatDoor.Chk

/- check's reference: Sender. -/
namespace Go.Proofs.YtbhamhhjicehaaaGreatDoor.Chk
set_option linter.unusedSimpArgs false
set_option linter.unusedVariables false
open Go Go.AX Go.Proofs Ty
set_option maxHeartbeats 4000000
set_option maxRecDepth 10000

end Go.Proofs.YtbhamhhjicehaaaGreatDoor.Chk

/- check: fits. -/
namespace Go.Proofs.YtbhamhhjicehaaaGreatDoor.Chk
set_option linter.unusedSimpArgs false
set_option linter.unusedVariables false
open Go Go.AX Go.Proofs Ty
set_option maxHeartbeats 4000000
set_option maxRecDepth 10000

theorem Contains_g {g : En → Bool} {fid : Nat} {caps : List Value} {L : List En} {n : Nat} {base : Option Addr} {cap : Nat} {H : AH} (hs : SlcIn H 5 base cap (L.map encE)) (hn : n = L.length) (hok : fnOk Tryz.prog fid = true)
    (hf : ∀ x ∈ L, ACalls Tryz.prog fid ([] ++ [Value.agg (encE x).toArray] ++ caps).toArray H (fun v H' => v = .bool (g x) ∧ H = H')) :
    ACalls Tryz.prog 126 #[.slice base n cap, .func (.func fid) #[] caps.toArray] H (fun v H' => v = .bool (L.any g) ∧ H = H') := by
  refine ACalls.enter2 Tryz.func126 rfl Tryz.ntmps126 Tryz.results126 (by simp) ?_; simp (dsimp := false) (maxSteps := 4000000) only [go_sem]
  refine (Index_g hs hn hok hf).mono ?_; rintro _ _ ⟨r, rfl, hr, rfl⟩
  rcases hr with ⟨rfl, hno⟩ | ⟨q, x, hq, hg, rfl, hpre⟩
  · have e : L.any g = false := by rw [List.any_eq_false]; intro x hx; rw [hno x hx]; simp
    simp (dsimp := false) (maxSteps := 4000000) only [go_sem]
    exact ⟨H, (AH.le_refl _), (by first | exact ⟨by rw [e], rfl⟩ | rfl)⟩
  · have e : L.any g = true := List.any_eq_true.2 ⟨x, List.mem_of_getElem? hq, hg⟩
    have q0 : (0 : Int) ≤ (q : Int) := by omega
    simp (dsimp := false) (maxSteps := 4000000) only [go_sem]
    exact ⟨H, (AH.le_refl _), (by first | exact ⟨by rw [e], rfl⟩ | rfl)⟩
theorem TabIn.add {H : AH} {base : Option Addr} {cap b : Nat} {T : List Tb} {k : ABlk} (h : TabIn H base cap T) (hf : Fresh H b) : TabIn (H.add b k) base cap T := ⟨h.out.add hf, fun x hx => (h.inn x hx).add hf⟩
theorem TabIn.keep {H A : AH} {base : Option Addr} {cap : Nat} {T : List Tb} (h : TabIn H base cap T) (hk : Keep H A fun _ => False) : TabIn A base cap T := ⟨h.out.keep hk fun _ _ h => h, fun x hx => (h.inn x hx).keep hk fun _ _ h => h⟩
def clash (T : List Tb) (n : Nat) (x : En) : Bool := decide (x.1 = 1) && decide (sN x.2.1 T < n)
def gap (T : List Tb) (x : En) : Bool := decide (x.1 = 2) && decide (sN x.2.1 T < 0)
theorem fits1_c (x : En) (T : List Tb) (base : Option Addr) (cap n bl bn : Nat) (H : AH) (hT : TabIn H base cap T) (hl : H.rd ⟨bl, 0, none⟩ = some (.slice base T.length cap)) (hn : H.rd ⟨bn, 0, none⟩ = some (.int .i64 n)) :
    ACalls Tryz.prog 127 #[.agg (encE x).toArray, .pointer (some ⟨bl, 0, none⟩), .pointer (some ⟨bn, 0, none⟩)] H (fun v H' => v = .bool (clash T n x) ∧ H = H') := by
  obtain ⟨k, s, f, r, b⟩ := x
  refine ACalls.enter2 Tryz.func127 rfl Tryz.ntmps127 Tryz.results127 (by simp) ?_; simp (dsimp := false) (maxSteps := 4000000) only [encE_mk, encE_len, encE_scal, encE_z5, go_sem]
  refine AllB.mk fun b3 h_b3 => ?_; have hn_b3 := h_b3; (try simp only [fresh_add, fresh_set, ne_eq] at hn_b3); have hr_b3 := hn_b3; (try simp only [@eq_comm Nat b3] at hr_b3); simp (dsimp := false) (maxSteps := 4000000) only [encE_mk, encE_len, encE_scal, encE_z5, hn_b3, hr_b3, go_sem]
  have nr_hl := (Fresh.ne_rd (by simp only [hn_b3] : Fresh H b3) hl)
  have nr_hn := (Fresh.ne_rd (by simp only [hn_b3] : Fresh H b3) hn)
  simp (dsimp := false) (maxSteps := 4000000) only [hl, nr_hl, encE_mk, encE_len, encE_scal, encE_z5, hn_b3, hr_b3, go_sem]
  refine (Sender_c T base cap s _ (hT.add h_b3)).mono ?_; rintro _ _ ⟨rfl, rfl⟩
  simp (dsimp := false) (maxSteps := 4000000) only [encE_mk, encE_len, encE_scal, encE_z5, hn_b3, hr_b3, go_sem]
  refine AllB.mk fun b6 h_b6 => ?_; have hn_b6 := h_b6; (try simp only [fresh_add, fresh_set, ne_eq] at hn_b6); have hr_b6 := hn_b6; (try simp only [@eq_comm Nat b6] at hr_b6); simp (dsimp := false) (maxSteps := 4000000) only [encE_mk, encE_len, encE_scal, encE_z5, hn_b3, hr_b3, hn_b6, hr_b6, go_sem]
  by_cases a : k = 1
  · subst a
    have nr_hn := (And.intro (Fresh.ne_rd (by simp only [hn_b3] : Fresh H b3) hn) (Fresh.ne_rd (by simp only [hn_b6] : Fresh H b6) hn))
    simp (dsimp := false) (maxSteps := 4000000) only [hn, nr_hn, encE_mk, encE_len, encE_scal, encE_z5, hn_b3, hr_b3, hn_b6, hr_b6, go_sem]
    exact ⟨H, (AH.le_add (AH.le_add (AH.le_refl _) ((by simp only [encE_mk, encE_len, encE_scal, encE_z5, fresh_add, fresh_set, ne_eq, hn_b3, not_false_eq_true, and_self] : Fresh _ b3).2)) ((by simp only [encE_mk, encE_len, encE_scal, encE_z5, fresh_add, fresh_set, ne_eq, hn_b6, not_false_eq_true, and_self] : Fresh _ b6).2)), (by first | exact ⟨congrArg Value.bool (by simp [clash]), rfl⟩ | rfl)⟩
  · simp (dsimp := false) (maxSteps := 4000000) only [a, encE_mk, encE_len, encE_scal, encE_z5, hn_b3, hr_b3, hn_b6, hr_b6, go_sem]
    exact ⟨H, (AH.le_add (AH.le_add (AH.le_refl _) ((by simp only [encE_mk, encE_len, encE_scal, encE_z5, fresh_add, fresh_set, ne_eq, hn_b3, not_false_eq_true, and_self] : Fresh _ b3).2)) ((by simp only [encE_mk, encE_len, encE_scal, encE_z5, fresh_add, fresh_set, ne_eq, hn_b6, not_false_eq_true, and_self] : Fresh _ b6).2)), (by first | exact ⟨by simp [clash, a], rfl⟩ | rfl)⟩
theorem fits2_c (x : En) (T : List Tb) (base : Option Addr) (cap bl : Nat) (H : AH) (hT : TabIn H base cap T) (hl : H.rd ⟨bl, 0, none⟩ = some (.slice base T.length cap)) :
    ACalls Tryz.prog 128 #[.agg (encE x).toArray, .pointer (some ⟨bl, 0, none⟩)] H (fun v H' => v = .bool (gap T x) ∧ H = H') := by
  obtain ⟨k, s, f, r, b⟩ := x
  refine ACalls.enter2 Tryz.func128 rfl Tryz.ntmps128 Tryz.results128 (by simp) ?_; simp (dsimp := false) (maxSteps := 4000000) only [encE_mk, encE_len, encE_scal, encE_z5, go_sem]
  refine AllB.mk fun b3 h_b3 => ?_; have hn_b3 := h_b3; (try simp only [fresh_add, fresh_set, ne_eq] at hn_b3); have hr_b3 := hn_b3; (try simp only [@eq_comm Nat b3] at hr_b3); simp (dsimp := false) (maxSteps := 4000000) only [encE_mk, encE_len, encE_scal, encE_z5, hn_b3, hr_b3, go_sem]
  have nr_hl := (Fresh.ne_rd (by simp only [hn_b3] : Fresh H b3) hl)
  simp (dsimp := false) (maxSteps := 4000000) only [hl, nr_hl, encE_mk, encE_len, encE_scal, encE_z5, hn_b3, hr_b3, go_sem]
  refine (Sender_c T base cap s _ (hT.add h_b3)).mono ?_; rintro _ _ ⟨rfl, rfl⟩
  simp (dsimp := false) (maxSteps := 4000000) only [encE_mk, encE_len, encE_scal, encE_z5, hn_b3, hr_b3, go_sem]
  refine AllB.mk fun b6 h_b6 => ?_; have hn_b6 := h_b6; (try simp only [fresh_add, fresh_set, ne_eq] at hn_b6); have hr_b6 := hn_b6; (try simp only [@eq_comm Nat b6] at hr_b6); simp (dsimp := false) (maxSteps := 4000000) only [encE_mk, encE_len, encE_scal, encE_z5, hn_b3, hr_b3, hn_b6, hr_b6, go_sem]
  by_cases a : k = 2
  · subst a
    simp (dsimp := false) (maxSteps := 4000000) only [encE_mk, encE_len, encE_scal, encE_z5, hn_b3, hr_b3, hn_b6, hr_b6, go_sem]
    exact ⟨H, (AH.le_add (AH.le_add (AH.le_refl _) ((by simp only [encE_mk, encE_len, encE_scal, encE_z5, fresh_add, fresh_set, ne_eq, hn_b3, not_false_eq_true, and_self] : Fresh _ b3).2)) ((by simp only [encE_mk, encE_len, encE_scal, encE_z5, fresh_add, fresh_set, ne_eq, hn_b6, not_false_eq_true, and_self] : Fresh _ b6).2)), (by first | exact ⟨congrArg Value.bool (by simp [gap]), rfl⟩ | rfl)⟩
  · simp (dsimp := false) (maxSteps := 4000000) only [a, encE_mk, encE_len, encE_scal, encE_z5, hn_b3, hr_b3, hn_b6, hr_b6, go_sem]
    exact ⟨H, (AH.le_add (AH.le_add (AH.le_refl _) ((by simp only [encE_mk, encE_len, encE_scal, encE_z5, fresh_add, fresh_set, ne_eq, hn_b3, not_false_eq_true, and_self] : Fresh _ b3).2)) ((by simp only [encE_mk, encE_len, encE_scal, encE_z5, fresh_add, fresh_set, ne_eq, hn_b6, not_false_eq_true, and_self] : Fresh _ b6).2)), (by first | exact ⟨by simp [gap, a], rfl⟩ | rfl)⟩
def rowT (T : List Tb) (n : Nat) : List En := match T[n]? with | some t => t.2.2 | none => []
def fitB (T : List Tb) (n : Nat) (s : Int) : Bool := if s = 2 then mayB (rowT T n) else if s = 8 then !(rowT T n).any (clash T n) else !(rowT T n).any (gap T)
theorem fits_c (T : List Tb) (base : Option Addr) (cap n : Nat) (s : Int) (H : AH) (hT : TabIn H base cap T) (hn : n < T.length) :
    ACalls Tryz.prog 96 #[.slice base T.length cap, .int .i64 n, .int .i64 s] H (fun v H' => v = .bool (fitB T n s) ∧ H = H') := by
  obtain ⟨⟨tb, tc, L⟩, ht⟩ := get_some hn
  have hin := hT.inn _ (List.mem_of_getElem? ht)
  obtain ⟨b, o, rfl, _, hrd⟩ := hT.out.get (map_get (f := encT) ht)
  have hrd := hrd 0 _ rfl
  simp only [Nat.mul_one, Nat.add_zero] at hrd
  have er : rowT T n = L := by simp [rowT, ht]
  have hlt : (n : Int) < T.length := by omega
  refine ACalls.enter2 Tryz.func96 rfl Tryz.ntmps96 Tryz.results96 (by simp) ?_; simp (dsimp := false) (maxSteps := 4000000) only [go_sem]
  refine AllB.mk fun b3 h_b3 => ?_; have hn_b3 := h_b3; (try simp only [fresh_add, fresh_set, ne_eq] at hn_b3); have hr_b3 := hn_b3; (try simp only [@eq_comm Nat b3] at hr_b3); simp (dsimp := false) (maxSteps := 4000000) only [hn_b3, hr_b3, go_sem]
  refine AllB.mk fun b4 h_b4 => ?_; have hn_b4 := h_b4; (try simp only [fresh_add, fresh_set, ne_eq] at hn_b4); have hr_b4 := hn_b4; (try simp only [@eq_comm Nat b4] at hr_b4); simp (dsimp := false) (maxSteps := 4000000) only [hn_b3, hr_b3, hn_b4, hr_b4, go_sem]
  have nr_hrd := (And.intro (Fresh.ne_rd (by simp only [hn_b3] : Fresh H b3) hrd) (Fresh.ne_rd (by simp only [hn_b4] : Fresh H b4) hrd))
  by_cases c2 : s = 2
  · subst c2
    simp (dsimp := false) (maxSteps := 4000000) only [hrd, nr_hrd, hlt, hn_b3, hr_b3, hn_b4, hr_b4, go_sem]
    refine (File_u ((hin.add h_b3).add h_b4) rfl).mono ?_; rintro _ A ⟨bf, cf, rfl, hg⟩
    simp (dsimp := false) (maxSteps := 4000000) only [hn_b3, hr_b3, hn_b4, hr_b4, go_sem]
    refine AllB.mk fun b7 h_b7 => ?_
    have hl : H.le A := AH.le_trans (AH.le_add (AH.le_add (AH.le_refl _) h_b3.2) h_b4.2) hg.keep.all
    simp (dsimp := false) (maxSteps := 4000000) only [hn_b3, hr_b3, hn_b4, hr_b4, go_sem]
    refine ⟨H, AH.le_add hl h_b7.2, ?_, rfl⟩
    simp only [fitB, er, fE, if_true]
    cases mayB L <;> rfl
  · by_cases c8 : s = 8
    · subst c8
      simp (dsimp := false) (maxSteps := 4000000) only [hrd, nr_hrd, hlt, hn_b3, hr_b3, hn_b4, hr_b4, go_sem]
      refine (Contains_g (g := clash T n) (fid := 127) (caps := [.pointer (some ⟨b3, 0, none⟩), .pointer (some ⟨b4, 0, none⟩)]) (L := L) ((hin.add h_b3).add h_b4) rfl (by kernel_rfl) fun x hx => fits1_c x T (some ⟨b, o, none⟩) cap n b3 b4 _ ((hT.add h_b3).add h_b4) (by rw [rd_add_ne _ hn_b4.1, rd_add_self]; rfl) (by rw [rd_add_self]; rfl)).mono ?_; rintro _ _ ⟨rfl, rfl⟩
      simp (dsimp := false) (maxSteps := 4000000) only [hn_b3, hr_b3, hn_b4, hr_b4, go_sem]
      exact ⟨H, (AH.le_add (AH.le_add (AH.le_refl _) ((by simp only [fresh_add, fresh_set, ne_eq, hn_b3, not_false_eq_true, and_self] : Fresh _ b3).2)) ((by simp only [fresh_add, fresh_set, ne_eq, hn_b4, not_false_eq_true, and_self] : Fresh _ b4).2)), (by first | exact ⟨by simp [fitB, er], rfl⟩ | rfl)⟩
    · simp (dsimp := false) (maxSteps := 4000000) only [hrd, nr_hrd, hlt, c2, c8, hn_b3, hr_b3, hn_b4, hr_b4, go_sem]
      refine (Contains_g (g := gap T) (fid := 128) (caps := [.pointer (some ⟨b3, 0, none⟩)]) (L := L) ((hin.add h_b3).add h_b4) rfl (by kernel_rfl) fun x hx => fits2_c x T (some ⟨b, o, none⟩) cap b3 _ ((hT.add h_b3).add h_b4) (by rw [rd_add_ne _ hn_b4.1, rd_add_self]; rfl)).mono ?_; rintro _ _ ⟨rfl, rfl⟩
      simp (dsimp := false) (maxSteps := 4000000) only [hn_b3, hr_b3, hn_b4, hr_b4, go_sem]
      exact ⟨H, (AH.le_add (AH.le_add (AH.le_refl _) ((by simp only [fresh_add, fresh_set, ne_eq, hn_b3, not_false_eq_true, and_self] : Fresh _ b3).2)) ((by simp only [fresh_add, fresh_set, ne_eq, hn_b4, not_false_eq_true, and_self] : Fresh _ b4).2)), (by first | exact ⟨by simp [fitB, er, c2, c8], rfl⟩ | rfl)⟩
end Go.Proofs.YtbhamhhjicehaaaGreatDoor.Chk

/- check: Tables of both sides. -/
namespace Go.Proofs.YtbhamhhjicehaaaGreatDoor.Chk
set_option linter.unusedSimpArgs false
set_option linter.unusedVariables false
open Go Go.AX Go.Proofs Ty
set_option maxHeartbeats 4000000
set_option maxRecDepth 10000

def bad (T : List Tb) (s : Int) : Option Nat := (List.range T.length).find? fun n => !fitB T n s
theorem bad_some {T : List Tb} {s : Int} {n : Nat} (hn : n < T.length) (h : fitB T n s = false) (hp : ∀ m, m < n → fitB T m s = true) : bad T s = some n := by
  rw [bad, List.find?_range_eq_some]
  exact ⟨by rw [h]; rfl, List.mem_range.2 hn, fun j hj => by rw [hp j hj]; rfl⟩
theorem bad_none {T : List Tb} {s : Int} {n : Nat} (hn : T.length ≤ n) (h : ∀ m, m < n → fitB T m s = true) : bad T s = none := by
  rw [bad, List.find?_range_eq_none]
  intro i hi
  rw [h i (by omega)]; rfl
def tabs (T : List Tb) : Int × Int := match bad T 2 with
  | some n => (n, 2)
  | none => match bad T 8 with
    | some n => (n, 8)
    | none => match bad T 9 with
      | some n => (n, 9)
      | none => (-1, 0)
def ss : List Int := [2, 8, 9]
theorem tabs_at {T : List Tb} {i n : Nat} {s : Int} (hi : ss[i]? = some s) (hp : ∀ j, j < i → ∀ s, ss[j]? = some s → bad T s = none) (h : bad T s = some n) : tabs T = ((n : Int), s) := by
  match i, hi with
  | 0, hi => cases hi; simp [tabs, h]
  | 1, hi => cases hi; simp [tabs, h, hp 0 (by omega) _ rfl]
  | 2, hi => cases hi; simp [tabs, h, hp 0 (by omega) _ rfl, hp 1 (by omega) _ rfl]
theorem tabs_no {T : List Tb} (hp : ∀ j, j < 3 → ∀ s, ss[j]? = some s → bad T s = none) : tabs T = (-1, 0) := by
  simp [tabs, hp 0 (by omega) _ rfl, hp 1 (by omega) _ rfl, hp 2 (by omega) _ rfl]
theorem Tables_c (T : List Tb) (base : Option Addr) (cap : Nat) (H : AH) (hT : TabIn H base cap T) :
    ACalls Tryz.prog 51 #[.slice base T.length cap] H (fun v H' => v = .tuple #[.int .i64 (tabs T).1, .int .i64 (tabs T).2] ∧ H = H') := by
  have hbig := hT.out.big
  simp only [List.length_map] at hbig
  refine ACalls.enter2 Tryz.func51 rfl Tryz.ntmps51 Tryz.results51 (by simp) ?_; simp (dsimp := false) (maxSteps := 4000000) only [go_sem]
  refine AllB.mk fun b7 h_b7 => ?_; have hn_b7 := h_b7; (try simp only [fresh_add, fresh_set, ne_eq] at hn_b7); have hr_b7 := hn_b7; (try simp only [@eq_comm Nat b7] at hr_b7); simp (dsimp := false) (maxSteps := 4000000) only [hn_b7, hr_b7, go_sem]
  refine AWp.loopo (ι := Nat) (fun i => i ≤ 3 ∧ ∀ j, j < i → ∀ s, ss[j]? = some s → bad T s = none) (fun i => [(9, .int .i64 i), (8, .int .i64 3), (7, .slice (some ⟨b7, 0, none⟩) 3 3), (0, .slice base T.length cap)])
    (fun _ => H.add b7 (.cells [.int .i64 2, .int .i64 8, .int .i64 9] 32 3)) (fun i => 3 - i) 0 ⟨by omega, fun j hj => by omega⟩ (FrLe.of_lks ?_) (AH.le_refl _) fun i hi Q again out => ?_
  · simp (dsimp := false) (maxSteps := 4000000) only [hn_b7, hr_b7, go_sem]
  · obtain ⟨hi, hall⟩ := hi
    by_cases h : (i : Int) < 3
    · obtain ⟨s, hs⟩ := get_some (l := ss) (i := i) (by simp [ss]; omega)
      have hq : ([.int .i64 2, .int .i64 8, .int .i64 9] : List Value)[i]? = some (.int .i64 s) := by
        have : (ss.map (Value.int .i64))[i]? = some (.int .i64 s) := by rw [List.getElem?_map, hs]; rfl
        exact this
      have ee := i64_succ (i := i) (by omega)
      simp (dsimp := false) (maxSteps := 4000000) only [h, hq, hn_b7, hr_b7, go_sem]
      refine AWp.loopo (ι := Nat) (fun n => n ≤ T.length ∧ ∀ m, m < n → fitB T m s = true) (fun n => [(15, .int .i64 n), (14, .int .i64 T.length), (5, .int .i64 s), (9, .int .i64 i), (8, .int .i64 3), (7, .slice (some ⟨b7, 0, none⟩) 3 3), (0, .slice base T.length cap)])
        (fun _ => H.add b7 (.cells [.int .i64 2, .int .i64 8, .int .i64 9] 32 3)) (fun i => T.length - i) 0 ⟨by omega, fun j hj => by omega⟩ (FrLe.of_lks ?_) (AH.le_refl _) fun n hn Q2 again2 out2 => ?_
      · simp (dsimp := false) (maxSteps := 4000000) only [hn_b7, hr_b7, go_sem]
      · obtain ⟨hn, hpre⟩ := hn
        by_cases h2 : (n : Int) < T.length
        · have e2 := i64_succ (i := n) (by omega)
          simp (dsimp := false) (maxSteps := 4000000) only [h2, hn_b7, hr_b7, go_sem]
          refine (fits_c T base cap n s _ (hT.add h_b7) (by omega)).mono ?_; rintro _ _ ⟨rfl, rfl⟩
          cases hf : fitB T n s with
          | true =>
            simp (dsimp := false) (maxSteps := 4000000) only [e2, hn_b7, hr_b7, go_sem]
            refine again2 (n + 1) _ _ ⟨by omega, fun m hm => ?_⟩ (FrLe.of_lks (by simp (dsimp := false) (maxSteps := 4000000) only [hn_b7, hr_b7, go_sem])) (AH.le_refl _) (by omega)
            by_cases e : m = n
            · rw [e]; exact hf
            · exact hpre m (by omega)
          | false =>
            have ht := tabs_at hs hall (bad_some (by omega) hf hpre)
            simp (dsimp := false) (maxSteps := 4000000) only [hn_b7, hr_b7, go_sem]
            refine out2 _ _ _ (by simp) ?_
            simp (dsimp := false) (maxSteps := 4000000) only [hn_b7, hr_b7, go_sem]
            refine out _ _ _ (by simp) ?_
            simp (dsimp := false) (maxSteps := 4000000) only [hn_b7, hr_b7, go_sem]
            exact ⟨H, (AH.le_add (AH.le_refl _) ((by simp only [fresh_add, fresh_set, ne_eq, hn_b7, not_false_eq_true, and_self] : Fresh _ b7).2)), (by first | exact ⟨by rw [ht], rfl⟩ | rfl)⟩
        · simp (dsimp := false) (maxSteps := 4000000) only [h2, hn_b7, hr_b7, go_sem]
          refine out2 _ _ _ (by simp) ?_
          simp (dsimp := false) (maxSteps := 4000000) only [ee, hn_b7, hr_b7, go_sem]
          refine again (i + 1) _ _ ⟨by omega, fun j hj s' hs' => ?_⟩ (FrLe.of_lks (by simp (dsimp := false) (maxSteps := 4000000) only [hn_b7, hr_b7, go_sem])) (AH.le_refl _) (by omega)
          by_cases e : j = i
          · subst e; rw [hs] at hs'; cases hs'; exact bad_none (by omega) hpre
          · exact hall j (by omega) s' hs'
    · have ht := tabs_no (T := T) fun j hj => hall j (by omega)
      simp (dsimp := false) (maxSteps := 4000000) only [h, hn_b7, hr_b7, go_sem]
      refine out _ _ _ (by simp) ?_
      simp (dsimp := false) (maxSteps := 4000000) only [hn_b7, hr_b7, go_sem]
      exact ⟨H, (AH.le_add (AH.le_refl _) ((by simp only [fresh_add, fresh_set, ne_eq, hn_b7, not_false_eq_true, and_self] : Fresh _ b7).2)), (by first | exact ⟨by rw [ht], rfl⟩ | rfl)⟩

theorem TabIn.take {H : AH} {base : Option Addr} {cap : Nat} {T : List Tb} (h : TabIn H base cap T) (n : Nat) : TabIn H base cap (T.take n) :=
  ⟨by rw [List.map_take]; exact h.out.take, fun x hx => h.inn x (List.mem_of_mem_take hx)⟩
end Go.Proofs.YtbhamhhjicehaaaGreatDoor.Chk

/- uart.Turn and its reference: what each comes to. -/
namespace Go.Proofs.YtbhamhhjicehaaaGreatDoor.Uart
set_option linter.unusedSimpArgs false
set_option linter.unusedVariables false
open Go Go.AX Go.Proofs Ty
set_option maxHeartbeats 2000000
set_option maxRecDepth 10000

def bitI (m : Int) (i : Nat) : Bool := m / 2 ^ i % 2 == 1
def turnl (l : List Bool) (m : Int) : List Bool := l.mapIdx fun j x => x != bitI m j

theorem bitI_eq (m : Int) (i : Nat) (h : i < 64) : (ibits .and .i64 (m.fdiv (2 ^ min i IntKind.i64.bits)) 1 == 1) = bitI m i := by
  rw [show min i IntKind.i64.bits = i from Nat.min_eq_left (by simp [IntKind.bits]; omega), and1_i64, fdiv_pow]; rfl

theorem bitU_eq (m : Int) (i : Nat) (h : i < 64) : (m % 18446744073709551616 / 2 ^ i % 2 == 1) = bitI m i := by
  unfold bitI
  have : m % 18446744073709551616 / 2 ^ i % 2 = m / 2 ^ i % 2 := by
    have e : (18446744073709551616 : Int) = 2 ^ i * 2 ^ (64 - i) := by rw [← Int.pow_add, show i + (64 - i) = 64 from by omega]; rfl
    have e2 : (2 : Int) ^ (64 - i) = 2 * 2 ^ (63 - i) := by rw [show 64 - i = (63 - i) + 1 from by omega, Int.pow_succ]; omega
    have hp : (0 : Int) < 2 ^ i := Int.pow_pos (by decide)
    have h1 := Int.mul_ediv_add_emod m 18446744073709551616
    generalize hq : m / 18446744073709551616 = q at h1
    generalize hr : m % 18446744073709551616 = r at *
    have h2 : m = r + 2 ^ i * (2 * (2 ^ (63 - i) * q)) := by
      rw [← h1, e, e2]; simp only [Int.mul_assoc]; omega
    rw [h2, Int.add_mul_ediv_left _ _ (by omega)]
    omega
  rw [this]

theorem Turn_c (l : List Bool) (hl : l.length = 11) (m : Int) (H : AH) : ACalls Tryz.prog 68 #[.agg (l.map Value.bool).toArray, .int .i64 m] H
    (fun v H' => v = .agg ((turnl l m).map Value.bool).toArray ∧ H = H') := by
  let row := rowIf l (fun j x => x != bitI m j) (fun _ x => x)
  have hlen : ∀ i, (row i).length = 11 := fun i => rowIf_len.trans hl
  refine ACalls.enter2 Tryz.func68 rfl Tryz.ntmps68 Tryz.results68 (by simp) ?_; simp (dsimp := false) (maxSteps := 4000000) only [go_sem]
  
  refine AllB.mk fun b1 h_b1 => ?_; have hn_b1 := h_b1; (try simp only [fresh_add, fresh_set, ne_eq] at hn_b1); have hr_b1 := hn_b1; (try simp only [@eq_comm Nat b1] at hr_b1); simp (dsimp := false) (maxSteps := 4000000) only [hl, hlen, hn_b1, hr_b1, go_sem]
  refine AllB.mk fun b2 h_b2 => ?_; have hn_b2 := h_b2; (try simp only [fresh_add, fresh_set, ne_eq] at hn_b2); have hr_b2 := hn_b2; (try simp only [@eq_comm Nat b2] at hr_b2); simp (dsimp := false) (maxSteps := 4000000) only [hl, hlen, hn_b1, hr_b1, hn_b2, hr_b2, go_sem]
  refine AWp.loopg (ι := Nat) (fun i => i ≤ 11) (fun i => [(6, .int .i64 i), (1, .int .i64 m), (2, .pointer (some ⟨b1, 0, none⟩)), (4, .pointer (some ⟨b2, 0, none⟩))])
    (fun i => (H.add b1 (.cells ((row i).map Value.bool) 87 11)).add b2 (.cells [.bool false, .bool false, .bool false, .bool false, .bool false, .bool false, .bool false, .bool false, .bool false, .bool false, .bool false] 87 11)) (fun i => 11 - i) 0 (by omega) (FrLe.of_lks ?_) ?_ fun i hi => ?_
  · simp (dsimp := false) (maxSteps := 4000000) only [hl, hlen, hn_b1, hr_b1, hn_b2, hr_b2, go_sem]
  · rw [show row 0 = l from rowIf_zero_id, hl]; exact AH.le_refl _
  · simp (dsimp := false) (maxSteps := 4000000) only [hl, hlen, hn_b1, hr_b1, hn_b2, hr_b2, go_sem]
    refine ⟨fun h => ?_, fun h => ?_⟩
    · have hi' : i < 11 := by omega
      obtain ⟨x, hx⟩ := get_some (l := l) (i := i) (by omega)
      have hr : ((row i).map Value.bool)[i]? = some (.bool x) := by
        rw [List.getElem?_map, rowIf_get, hx]; rfl
      have e1 := i64_succ (i := i) (by omega)
      simp (dsimp := false) (maxSteps := 4000000) only [hl, hlen, hn_b1, hr_b1, hn_b2, hr_b2, go_sem]
      refine AWp.tail 11 mixed (by kernel_rfl) ?_
      have hb : (ibits .and .i64 (m.fdiv (2 ^ min i 64)) 1 == 1) = bitI m i := bitI_eq m i (by omega)
      simp (dsimp := false) (maxSteps := 4000000) only [hr, h, (by omega : i ≤ 10), hb, hl, hlen, hn_b1, hr_b1, hn_b2, hr_b2, go_sem]
      rw [e1, show (!x == bitI m i) = (x != bitI m i) from by cases x <;> simp [bne], ← List.map_set, rowIf_set hx]
      refine around_end (i + 1) (by omega) (FrLe.of_lks ?_) (AH.le_refl _) (by omega)
      simp (dsimp := false) (maxSteps := 4000000) only [hl, hlen, hn_b1, hr_b1, hn_b2, hr_b2, go_sem]
    · obtain rfl : i = 11 := by omega
      simp (dsimp := false) (maxSteps := 4000000) only [hl, hlen, hn_b1, hr_b1, hn_b2, hr_b2, go_sem]
      exact ⟨H, (AH.le_add (AH.le_add (AH.le_refl _) ((by simp only [hl, hlen, fresh_add, fresh_set, ne_eq, hn_b1, not_false_eq_true, and_self] : Fresh _ b1).2)) ((by simp only [hl, hlen, fresh_add, fresh_set, ne_eq, hn_b2, not_false_eq_true, and_self] : Fresh _ b2).2)), (by first | exact ⟨by rw [show row 11 = turnl l m from rowIf_full (by omega)], rfl⟩ | rfl)⟩

end Go.Proofs.YtbhamhhjicehaaaGreatDoor.Uart

/- bits.OnesCount8, uart.Put and its reference: what each comes to. -/
namespace Go.Proofs.YtbhamhhjicehaaaGreatDoor.Uart
set_option linter.unusedSimpArgs false
set_option linter.unusedVariables false
open Go Go.AX Go.Proofs Ty
set_option maxHeartbeats 2000000
set_option maxRecDepth 10000

def ones (b : Int) : Nat → Int
  | 0 => 0
  | i + 1 => ones b i + b / 2 ^ i % 2

theorem ones_nonneg (b : Int) : ∀ i, 0 ≤ ones b i
  | 0 => by simp [ones]
  | i + 1 => by have := ones_nonneg b i; simp only [ones]; omega
def popTab : ByteArray := ⟨#[0, 1, 1, 2, 1, 2, 2, 3, 1, 2, 2, 3, 2, 3, 3, 4, 1, 2, 2, 3, 2, 3, 3, 4, 2, 3, 3, 4, 3, 4, 4, 5, 1, 2, 2, 3, 2, 3, 3, 4, 2, 3, 3, 4, 3, 4, 4, 5, 2, 3, 3, 4, 3, 4, 4, 5, 3, 4, 4, 5, 4, 5, 5, 6, 1, 2, 2, 3, 2, 3, 3, 4, 2, 3, 3, 4, 3, 4, 4, 5, 2, 3, 3, 4, 3, 4, 4, 5, 3, 4, 4, 5, 4, 5, 5, 6, 2, 3, 3, 4, 3, 4, 4, 5, 3, 4, 4, 5, 4, 5, 5, 6, 3, 4, 4, 5, 4, 5, 5, 6, 4, 5, 5, 6, 5, 6, 6, 7, 1, 2, 2, 3, 2, 3, 3, 4, 2, 3, 3, 4, 3, 4, 4, 5, 2, 3, 3, 4, 3, 4, 4, 5, 3, 4, 4, 5, 4, 5, 5, 6, 2, 3, 3, 4, 3, 4, 4, 5, 3, 4, 4, 5, 4, 5, 5, 6, 3, 4, 4, 5, 4, 5, 5, 6, 4, 5, 5, 6, 5, 6, 6, 7, 2, 3, 3, 4, 3, 4, 4, 5, 3, 4, 4, 5, 4, 5, 5, 6, 3, 4, 4, 5, 4, 5, 5, 6, 4, 5, 5, 6, 5, 6, 6, 7, 3, 4, 4, 5, 4, 5, 5, 6, 4, 5, 5, 6, 5, 6, 6, 7, 4, 5, 5, 6, 5, 6, 6, 7, 5, 6, 6, 7, 6, 7, 7, 8]⟩
theorem pop_all : ∀ x : Fin 256, popTab[x.val]? = some (UInt8.ofNat (ones x.val 8).toNat) ∧ IntKind.i64.wrap (UInt8.ofNat (ones x.val 8).toNat).toNat = ones x.val 8 := by decide +kernel

theorem OnesCount8_c (b : Int) (hb : 0 ≤ b ∧ b < 256) (H : AH) : ACalls Tryz.prog 112 #[.int .u8 b] H (fun v H' => v = .int .i64 (ones b 8) ∧ H = H') := by
  obtain ⟨n, rfl⟩ := Int.eq_ofNat_of_zero_le hb.1
  have hp := pop_all ⟨n, by omega⟩
  refine ACalls.enter2 Tryz.func112 rfl Tryz.ntmps112 Tryz.results112 (by simp) ?_; simp (dsimp := false) (maxSteps := 4000000) only [go_sem]
  refine wo_tab (T := popTab) (by kernel_rfl) ?_
  rw [hp.1]
  simp (dsimp := false) (maxSteps := 4000000) only [hp.2, go_sem]
  exact ⟨H, (AH.le_refl _), (by first | exact ⟨rfl, rfl⟩ | rfl)⟩

def putl (b : Int) (odd : Bool) : List Bool := [false, bitI b 0, bitI b 1, bitI b 2, bitI b 3, bitI b 4, bitI b 5, bitI b 6, bitI b 7, (ones b 8 % 2 == 1) != odd, true]

theorem bitB_eq (b : Int) (i : Nat) (h : i ≤ 8) : (ibits .and .u8 (b.fdiv (2 ^ min i IntKind.u8.bits)) 1 == 1) = bitI b i := by
  rw [show min i IntKind.u8.bits = i from Nat.min_eq_left (by simp [IntKind.bits]; omega), and1_u8, fdiv_pow]; rfl

theorem putRows (b : Int) : ∃ row : Nat → List Bool, (∀ i, (row i).length = 11) ∧ row 0 = [false, false, false, false, false, false, false, false, false, false, false] ∧ row 8 = [false, bitI b 0, bitI b 1, bitI b 2, bitI b 3, bitI b 4, bitI b 5, bitI b 6, bitI b 7, false, false] ∧
      ∀ i, i < 8 → (row i).set (i + 1) (bitI b i) = row (i + 1) :=
    ⟨fun i => rowIf (List.range 11) (fun j _ => if j = 0 then false else bitI b (j - 1)) (fun _ _ => false) (i + 1), fun i => (rowIf_len (l := List.range 11)).trans List.length_range, by kernel_rfl, by kernel_rfl,
      fun i hi => (rowIf_set (l := List.range 11) (f := fun j _ => if j = 0 then false else bitI b (j - 1)) (x := i + 1) (i := i + 1) (List.getElem?_range (by omega)))⟩

theorem Put_c (b : Int) (odd : Bool) (hb : 0 ≤ b ∧ b < 256) (H : AH) : ACalls Tryz.prog 67 #[.int .u8 b, .bool odd] H (fun v H' => v = .agg ((putl b odd).map Value.bool).toArray ∧ H = H') := by
  obtain ⟨row, hlen, hr0, hr8, hset⟩ := putRows b
  refine ACalls.enter2 Tryz.func67 rfl Tryz.ntmps67 Tryz.results67 (by simp) ?_; simp (dsimp := false) (maxSteps := 4000000) only [go_sem]
  
  refine AllB.mk fun b1 h_b1 => ?_; have hn_b1 := h_b1; (try simp only [fresh_add, fresh_set, ne_eq] at hn_b1); have hr_b1 := hn_b1; (try simp only [@eq_comm Nat b1] at hr_b1); simp (dsimp := false) (maxSteps := 4000000) only [hlen, hn_b1, hr_b1, go_sem]
  refine AllB.mk fun b2 h_b2 => ?_; have hn_b2 := h_b2; (try simp only [fresh_add, fresh_set, ne_eq] at hn_b2); have hr_b2 := hn_b2; (try simp only [@eq_comm Nat b2] at hr_b2); simp (dsimp := false) (maxSteps := 4000000) only [hlen, hn_b1, hr_b1, hn_b2, hr_b2, go_sem]
  refine AWp.loopo (ι := Nat) (fun i => i ≤ 8) (fun i => [(7, .int .i64 i), (0, .int .u8 b), (1, .bool odd), (5, .pointer (some ⟨b2, 0, none⟩)), (4, .pointer (some ⟨b1, 0, none⟩))])
    (fun i => (H.add b1 (.cells [.bool false, .bool false, .bool false, .bool false, .bool false, .bool false, .bool false, .bool false, .bool false, .bool false, .bool false] 87 11)).add b2 (.cells ((row i).map Value.bool) 87 11)) (fun i => 8 - i) 0 (by omega) (FrLe.of_lks ?_) ?_ fun i hi Q again out => ?_
  · simp (dsimp := false) (maxSteps := 4000000) only [hlen, hn_b1, hr_b1, hn_b2, hr_b2, go_sem]
  · rw [hr0]; exact AH.le_refl _
  · simp (dsimp := false) (maxSteps := 4000000) only [hlen, hn_b1, hr_b1, hn_b2, hr_b2, go_sem]
    refine ⟨fun h => ?_, fun h => ?_⟩
    · have e1 := i64_succ (i := i) (by omega)
      have e2 : IntKind.i64.wrap (1 + (i : Int)) = ((i + 1 : Nat) : Int) := by rw [Int.add_comm]; exact e1
      have h10 : (i : Int) + 1 < 11 := by omega
      have hge : (0 : Int) ≤ ((i + 1 : Nat) : Int) := by omega
      have hlt : ((i + 1 : Nat) : Int) < 11 := by omega
      have hb' : (ibits .and .u8 (b.fdiv (2 ^ min i 8)) 1 == 1) = bitI b i := bitB_eq b i (by omega)
      simp (dsimp := false) (maxSteps := 4000000) only [e1, e2, hb', hge, hlt, (by omega : i ≤ 9), hlen, hn_b1, hr_b1, hn_b2, hr_b2, go_sem]
      exact again (i + 1) _ _ (by omega) (FrLe.of_lks (by simp (dsimp := false) (maxSteps := 4000000) only [hlen, hn_b1, hr_b1, hn_b2, hr_b2, go_sem])) (by rw [← List.map_set, hset i (by omega)]; exact AH.le_refl _) (by omega)
    · obtain rfl : i = 8 := by omega
      rw [hr8]
      simp (dsimp := false) (maxSteps := 4000000) only [hlen, hn_b1, hr_b1, hn_b2, hr_b2, go_sem]
      refine out _ _ _ (by simp) ?_
      have e1 : (ones b 8).tmod 2 = ones b 8 % 2 := Int.tmod_eq_emod_of_nonneg (ones_nonneg b 8)
      simp (dsimp := false) (maxSteps := 4000000) only [hlen, hn_b1, hr_b1, hn_b2, hr_b2, go_sem]
      refine (OnesCount8_c b hb _).mono ?_; rintro _ _ ⟨rfl, rfl⟩
      simp (dsimp := false) (maxSteps := 4000000) only [e1, hlen, hn_b1, hr_b1, hn_b2, hr_b2, go_sem]
      exact ⟨H, (AH.le_add (AH.le_add (AH.le_refl _) ((by simp only [hlen, fresh_add, fresh_set, ne_eq, hn_b1, not_false_eq_true, and_self] : Fresh _ b1).2)) ((by simp only [hlen, fresh_add, fresh_set, ne_eq, hn_b2, not_false_eq_true, and_self] : Fresh _ b2).2)), (by first | exact ⟨by simp [putl, bne], rfl⟩ | rfl)⟩

end Go.Proofs.YtbhamhhjicehaaaGreatDoor.Uart

/- uart.Take and its reference: what each comes to. -/
namespace Go.Proofs.YtbhamhhjicehaaaGreatDoor.Uart
set_option linter.unusedSimpArgs false
set_option linter.unusedVariables false
open Go Go.AX Go.Proofs Ty
set_option maxHeartbeats 2000000
set_option maxRecDepth 10000

def valu (l : List Bool) : Nat → Int
  | 0 => 0
  | i + 1 => valu l i + if l.getD (i + 1) false then 2 ^ i else 0
def cnt (l : List Bool) : Nat → Int
  | 0 => 0
  | i + 1 => cnt l i + if l.getD (i + 1) false then 1 else 0
def par (l : List Bool) (i : Nat) : Bool := cnt l i % 2 == 1

theorem valu_nonneg (l : List Bool) : ∀ i, 0 ≤ valu l i
  | 0 => by simp [valu]
  | i + 1 => by
    have := valu_nonneg l i
    have : (0 : Int) ≤ 2 ^ i := Int.le_of_lt (Int.pow_pos (by decide))
    simp only [valu]; split <;> omega
theorem valu_lt (l : List Bool) : ∀ i, valu l i < 2 ^ i
  | 0 => by simp [valu]
  | i + 1 => by
    have := valu_lt l i
    have e : (2 : Int) ^ (i + 1) = 2 ^ i * 2 := Int.pow_succ _ _
    have : (0 : Int) ≤ 2 ^ i := Int.le_of_lt (Int.pow_pos (by decide))
    simp only [valu]; split <;> omega
theorem cnt_nonneg (l : List Bool) : ∀ i, 0 ≤ cnt l i
  | 0 => by simp [cnt]
  | i + 1 => by have := cnt_nonneg l i; simp only [cnt]; split <;> omega
theorem par_set {l : List Bool} {i : Nat} (h : l.getD (i + 1) false = true) : par l (i + 1) = !par l i := by
  have := cnt_nonneg l i
  simp only [par, cnt, h, if_true]
  rcases Int.emod_two_eq (cnt l i) with h1 | h1 <;> simp [h1, show (cnt l i + 1) % 2 = 1 - cnt l i % 2 from by omega]
theorem par_clear {l : List Bool} {i : Nat} (h : l.getD (i + 1) false = false) : par l (i + 1) = par l i := by simp only [par, cnt, h, Bool.false_eq_true, if_false, Int.add_zero]

theorem or_all : ∀ (v : Fin 256) (i : Fin 9), (v.val : Int) < 2 ^ i.val → ibits .or .u8 v.val (IntKind.u8.wrap (1 * 2 ^ min i.val IntKind.u8.bits)) = if i.val = 8 then (v.val : Int) else v.val + 2 ^ i.val := by decide +kernel

def val8 (l : List Bool) (i : Nat) : Int := valu l (min i 8)

theorem or_eq {l : List Bool} {i : Nat} (hi : i < 9) (h : l.getD (i + 1) false = true) : ibits .or .u8 (val8 l i) (IntKind.u8.wrap (1 * 2 ^ min i IntKind.u8.bits)) = val8 l (i + 1) := by
  have h0 := valu_nonneg l i
  have h1 := valu_lt l i
  rw [show val8 l i = valu l i from by unfold val8; rw [Nat.min_eq_left (by omega)]]
  obtain ⟨n, hn⟩ := Int.eq_ofNat_of_zero_le h0
  have hp : (2 : Int) ^ i ≤ 256 := (by decide : ∀ i : Fin 9, (2 : Int) ^ i.val ≤ 256) ⟨i, hi⟩
  have := or_all ⟨n, by omega⟩ ⟨i, hi⟩ (by simp only; omega)
  rw [hn]; simp only at this; rw [this]
  by_cases h8 : i = 8
  · subst h8; simp [val8, ← hn]
  · rw [if_neg h8, ← hn]
    simp only [val8, Nat.min_eq_left (show i + 1 ≤ 8 by omega), valu, h, if_true]
theorem keep_eq {l : List Bool} {i : Nat} (h : l.getD (i + 1) false = false) : val8 l i = val8 l (i + 1) := by
  unfold val8
  by_cases h8 : i < 8
  · rw [Nat.min_eq_left (by omega), Nat.min_eq_left (by omega)]; simp only [valu, h, Bool.false_eq_true, if_false, Int.add_zero]
  · rw [Nat.min_eq_right (by omega), Nat.min_eq_right (by omega)]

def takev (l : List Bool) : Value := if l.getD 0 false = true ∨ l.getD 10 false = false then .tuple #[.int .u8 0, .bool false, .int .i64 2] else .tuple #[.int .u8 (valu l 8), .bool (par l 9), .int .i64 0]

theorem takev_bad {l : List Bool} (h : l.getD 0 false = true ∨ l.getD 10 false = false) : takev l = .tuple #[.int .u8 0, .bool false, .int .i64 2] := if_pos h
theorem takev_ok {l : List Bool} (h0 : l.getD 0 false = false) (h1 : l.getD 10 false = true) : takev l = .tuple #[.int .u8 (val8 l 9), .bool (par l 9), .int .i64 0] := if_neg (by simp only [h0, h1]; simp)
theorem getD_of {l : List Bool} {i : Nat} {x : Bool} (h : l[i]? = some x) : l.getD i false = x := by simp [List.getD_eq_getElem?_getD, h]

theorem Take_c (l : List Bool) (hl : l.length = 11) (H : AH) : ACalls Tryz.prog 97 #[.agg (l.map Value.bool).toArray] H (fun v H' => v = takev l ∧ H = H') := by
  obtain ⟨x0, hx0⟩ := get_some (l := l) (i := 0) (by omega)
  obtain ⟨x10, hx10⟩ := get_some (l := l) (i := 10) (by omega)
  have hr0 : (l.map Value.bool)[0]? = some (.bool x0) := by rw [List.getElem?_map, hx0]; rfl
  have hr10 : (l.map Value.bool)[10]? = some (.bool x10) := by rw [List.getElem?_map, hx10]; rfl
  have g0 := getD_of hx0
  have g10 := getD_of hx10
  refine ACalls.enter2 Tryz.func97 rfl Tryz.ntmps97 Tryz.results97 (by simp) ?_; simp (dsimp := false) (maxSteps := 4000000) only [go_sem]
  
  refine AllB.mk fun b1 h_b1 => ?_; have hn_b1 := h_b1; (try simp only [fresh_add, fresh_set, ne_eq] at hn_b1); have hr_b1 := hn_b1; (try simp only [@eq_comm Nat b1] at hr_b1); simp (dsimp := false) (maxSteps := 4000000) only [hl, hr0, hr10, hn_b1, hr_b1, go_sem]
  cases x0
  · cases x10
    · simp (dsimp := false) (maxSteps := 4000000) only [hl, hr0, hr10, hn_b1, hr_b1, go_sem]
      exact ⟨H, (AH.le_add (AH.le_refl _) ((by simp only [hl, hr0, hr10, fresh_add, fresh_set, ne_eq, hn_b1, not_false_eq_true, and_self] : Fresh _ b1).2)), (by first | exact ⟨(takev_bad (.inr g10)).symm, rfl⟩ | rfl)⟩
    · simp (dsimp := false) (maxSteps := 4000000) only [hl, hr0, hr10, hn_b1, hr_b1, go_sem]
      refine AWp.loopo (ι := Nat) (fun i => i ≤ 9) (fun i => [(16, .int .i64 i), (15, .int .i64 9), (14, .slice (some ⟨b1, 1, none⟩) 9 10), (3, .bool (par l i)), (2, .int .u8 (val8 l i))])
        (fun i => H.add b1 (.cells (l.map Value.bool) 87 11)) (fun i => 9 - i) 0 (by omega) (FrLe.of_lks ?_) ?_ fun i hi Q again out => ?_
      · simp (dsimp := false) (maxSteps := 4000000) only [hl, hr0, hr10, hn_b1, hr_b1, go_sem]
        exact ⟨rfl, rfl⟩
      · rw [hl]; exact AH.le_refl _
      · simp (dsimp := false) (maxSteps := 4000000) only [hl, hr0, hr10, hn_b1, hr_b1, go_sem]
        refine ⟨fun h => ?_, fun h => ?_⟩
        · obtain ⟨x, hx⟩ := get_some (l := l) (i := i + 1) (by omega)
          have hr : (l.map Value.bool)[i + 1]? = some (.bool x) := by rw [List.getElem?_map, hx]; rfl
          have e1 := i64_succ (i := i) (by omega)
          simp (dsimp := false) (maxSteps := 4000000) only [h, e1, Nat.add_comm 1 i, hr, hl, hr0, hr10, hn_b1, hr_b1, go_sem]
          have gx := getD_of hx
          cases x
          · simp (dsimp := false) (maxSteps := 4000000) only [hl, hr0, hr10, hn_b1, hr_b1, go_sem]
            exact again (i + 1) _ _ (by omega) (FrLe.of_lks (by rw [← keep_eq gx, par_clear gx]; simp (dsimp := false) (maxSteps := 4000000) only [e1, hl, hr0, hr10, hn_b1, hr_b1, go_sem])) (AH.le_refl _) (by omega)
          · have e2 : ibits .or .u8 (val8 l i) (IntKind.u8.wrap (1 * 2 ^ min i 8)) = val8 l (i + 1) := or_eq (l := l) (i := i) (by omega) gx
            simp (dsimp := false) (maxSteps := 4000000) only [e2, e1, hl, hr0, hr10, hn_b1, hr_b1, go_sem]
            exact again (i + 1) _ _ (by omega) (FrLe.of_lks (by rw [par_set gx]; simp (dsimp := false) (maxSteps := 4000000) only [hl, hr0, hr10, hn_b1, hr_b1, go_sem])) (AH.le_refl _) (by omega)
        · obtain rfl : i = 9 := by omega
          simp (dsimp := false) (maxSteps := 4000000) only [hl, hr0, hr10, hn_b1, hr_b1, go_sem]
          refine out _ _ _ (by simp) ?_
          simp (dsimp := false) (maxSteps := 4000000) only [hl, hr0, hr10, hn_b1, hr_b1, go_sem]
          exact ⟨H, (AH.le_add (AH.le_refl _) ((by simp only [hl, hr0, hr10, fresh_add, fresh_set, ne_eq, hn_b1, not_false_eq_true, and_self] : Fresh _ b1).2)), (by first | exact ⟨(takev_ok g0 g10).symm, rfl⟩ | rfl)⟩
  · simp (dsimp := false) (maxSteps := 4000000) only [hl, hr0, hr10, hn_b1, hr_b1, go_sem]
    exact ⟨H, (AH.le_add (AH.le_refl _) ((by simp only [hl, hr0, hr10, fresh_add, fresh_set, ne_eq, hn_b1, not_false_eq_true, and_self] : Fresh _ b1).2)), (by first | exact ⟨(takev_bad (.inl g0)).symm, rfl⟩ | rfl)⟩

end Go.Proofs.YtbhamhhjicehaaaGreatDoor.Uart

/- the reference's Take: what it comes to. -/
namespace Go.Proofs.YtbhamhhjicehaaaGreatDoor.Uart
set_option linter.unusedSimpArgs false
set_option linter.unusedVariables false
open Go Go.AX Go.Proofs Ty
set_option maxHeartbeats 2000000
set_option maxRecDepth 10000

end Go.Proofs.YtbhamhhjicehaaaGreatDoor.Uart

/- the reference's store: Add. -/
namespace Go.Proofs.YtbhamhhjicehaaaGreatDoor.Ifs
set_option linter.unusedSimpArgs false
set_option linter.unusedVariables false
open Go Go.AX Go.Proofs Ty Go.Proofs.YtbhamhhjicehaaaGreatDoor.File
set_option maxHeartbeats 4000000
set_option maxRecDepth 10000

theorem SlcIn.drop {H : AH} {sz b o cap : Nat} {R : List (List Value)} (h : SlcIn H sz (some ⟨b, o, none⟩) cap R) (k : Nat) (hk : k ≤ R.length) : SlcIn H sz (some ⟨b, if cap = k then o else o + k * sz, none⟩) (cap - k) (R.drop k) := by
  have hle := h.le
  have hbig := h.big
  by_cases hc : cap = k
  · have hR : R.drop k = [] := List.drop_eq_nil_of_le (by omega)
    rw [hR]; exact SlcIn.empty
  · rw [if_neg hc]
    refine ⟨by rw [List.length_drop]; omega, by rw [List.length_drop]; omega, fun i hi => ⟨b, o + k * sz, rfl⟩, fun b' o' hb i j r' c h1 h2 => ?_, fun b' o' hb i r' h1 => ?_⟩
    · cases hb
      have := h.rd b o rfl (k + i) j r' c (by rw [List.getElem?_drop] at h1; exact h1) h2
      rw [show o + ((k + i) * sz + j) = o + k * sz + (i * sz + j) from by rw [Nat.add_mul]; omega] at this
      exact this
    · cases hb
      have := h.row b o rfl (k + i) r' (by rw [List.getElem?_drop] at h1; exact h1)
      rw [show o + (k + i) * sz = o + k * sz + i * sz from by rw [Nat.add_mul]; omega] at this
      exact this
theorem ins_at {n : Int} {f : Fl} : ∀ {X : List Nf} {k : Nat}, (∀ x ∈ X.take k, x.1 < n) → (∀ x, X[k]? = some x → ¬ x.1 < n) → ins n f X = X.take k ++ (n, f) :: X.drop k
  | [], k, _, _ => by simp [ins]
  | x :: l, 0, _, h => by
    rw [ins, if_neg (h x rfl)]; rfl
  | x :: l, k + 1, h1, h2 => by
    rw [ins, if_pos (h1 x (by simp))]
    rw [ins_at (k := k) (fun y hy => h1 y (by simp [hy])) (fun y hy => h2 y (by simpa using hy))]
    rfl
def RefK (H : AH) (rd : Nat → Prop) : Prop := ∀ x, rd x → ¬ Fresh H x
theorem RefK.keep {H H' : AH} {rd ex : Nat → Prop} (h : RefK H rd) (hK : Keep H H' ex) (hd : ∀ x, rd x → ¬ ex x) : RefK H' rd := fun x hx hf => h x hx (hK.fresh hf (hd x hx))
def RefS (H : AH) (b : Nat) (Z : List RF) (den : Int) (rd : Nat → Prop) : Prop := ∃ base cap, H.find b = some (.cells [.slice base Z.length cap, .int .i64 den] 50 2) ∧ NmIn H base cap Z rd ∧ ¬ rd b ∧ ((base = none ∧ Z = [] ∧ cap = 0) ∨ ∃ q o, base = some ⟨q, o, none⟩) ∧ RefK H rd
theorem RefS.at {H : AH} {b : Nat} {Z : List RF} {den : Int} {rd : Nat → Prop} (h : RefS H b Z den rd) : RefAt H b Z den rd := by
  obtain ⟨base, cap, h1, h2, h3, _⟩ := h
  exact ⟨base, cap, h1, h2, h3⟩
theorem RefS.keep {H H' : AH} {b : Nat} {Z : List RF} {den : Int} {rd ex : Nat → Prop} (h : RefS H b Z den rd) (hK : Keep H H' ex) (hd : ∀ x, rd x → ¬ ex x) (hb : ¬ ex b) : RefS H' b Z den rd := by
  obtain ⟨base, cap, h1, h2, h3, h4, h5⟩ := h
  exact ⟨base, cap, hK.find hb h1, h2.keep hK hd, h3, h4, h5.keep hK hd⟩
theorem rowsN (Z : List RF) : ∀ r ∈ Z.map encN, r.length = 3 := fun r hr => by
  obtain ⟨z, _, rfl⟩ := List.mem_map.1 hr
  rfl
theorem scalN (Z : List RF) : ((Z.map encN).flatten).all scal = true := by
  rw [List.all_flatten, List.all_map, List.all_eq_true]
  intro r _; rfl
theorem RefAdd_c {H : AH} {b : Nat} {Z : List RF} {den : Int} {rd : Nat → Prop} (h : RefS H b Z den rd) (hX : OkX (Z.map RF.nf)) (hS : Srt (Z.map RF.nf)) (n p : Int) (R : List Rc) (base : Option Addr) (cap : Nat) (hs : SlcIn H 4 base cap (R.map enc)) (hb : R = [] ∨ ∀ a, base = some a → a.block ≠ b ∧ ¬ Fresh H a.block) :
    ACalls Tryz.prog 54 #[.pointer (some ⟨b, 0, none⟩), .int .i64 n, fv p base R.length cap] H (fun u H' => ∃ Z' rd', u = .int .i64 (addE (Z.map RF.nf) n (p, R)) ∧ Z'.map RF.nf = (if addE (Z.map RF.nf) n (p, R) = 0 then ins n (p, R) (Z.map RF.nf) else Z.map RF.nf) ∧ RefS H' b Z' den rd' ∧ Keep H H' (· = b) ∧ ∀ x, rd' x → rd x ∨ Fresh H x ∨ (R ≠ [] ∧ ∃ a, base = some a ∧ x = a.block)) := by
  have hat := fun H1 (h1 : RefAt H1 b Z den rd) => at_c h1 n
  have hgood := fun H1 (h1 : SlcIn H1 4 base cap (R.map enc)) => File.RefGood_c p R base cap H1 h1
  have hZl : Z.length ≤ 64 := by have := hX.len; simpa using this
  have bad : ∀ {e : Int} {T : AH}, addE (Z.map RF.nf) n (p, R) = e → e ≠ 0 → H.le T → ∃ H', H'.le T ∧ ∃ Z' rd', Value.int .i64 e = .int .i64 (addE (Z.map RF.nf) n (p, R)) ∧ Z'.map RF.nf = (if addE (Z.map RF.nf) n (p, R) = 0 then ins n (p, R) (Z.map RF.nf) else Z.map RF.nf) ∧ RefS H' b Z' den rd' ∧ Keep H H' (· = b) ∧ ∀ x, rd' x → rd x ∨ Fresh H x ∨ (R ≠ [] ∧ ∃ a, base = some a ∧ x = a.block) := fun {e T} he h0 hl =>
    ⟨H, hl, Z, rd, by rw [he], by rw [he, if_neg h0], h, Keep.refl, fun x h => .inl h⟩
  unfold fv at hgood ⊢
  refine ACalls.enter2 Tryz.func54 rfl Tryz.ntmps54 Tryz.results54 (by simp) ?_; simp (dsimp := false) (maxSteps := 4000000) only [go_sem]
  refine AllB.mk fun b5 h_b5 => ?_; have hn_b5 := h_b5; (try simp only [fresh_add, fresh_set, ne_eq] at hn_b5); have hr_b5 := hn_b5; (try simp only [@eq_comm Nat b5] at hr_b5); simp (dsimp := false) (maxSteps := 4000000) only [hn_b5, hr_b5, go_sem]
  by_cases a1 : n < 0
  · simp (dsimp := false) (maxSteps := 4000000) only [a1, hn_b5, hr_b5, go_sem]
    exact bad (by simp [addE, a1]) (by decide) (AH.le_add (AH.le_refl _) ((by simp only [fresh_add, fresh_set, ne_eq, hn_b5, not_false_eq_true, and_self] : Fresh _ b5).2))
  by_cases a2 : 63 < n
  · simp (dsimp := false) (maxSteps := 4000000) only [a1, a2, hn_b5, hr_b5, go_sem]
    exact bad (by have : 64 ≤ n := by omega
                  simp [addE, this]) (by decide) (AH.le_add (AH.le_refl _) ((by simp only [fresh_add, fresh_set, ne_eq, hn_b5, not_false_eq_true, and_self] : Fresh _ b5).2))
  have a3 : ¬ 64 ≤ n := by omega
  simp (dsimp := false) (maxSteps := 4000000) only [a1, a2, hn_b5, hr_b5, go_sem]
  refine (hgood _ (hs.add (by simp only [fresh_add, ne_eq, hn_b5, not_false_eq_true, and_self] : Fresh _ b5))).mono ?_; rintro _ _ ⟨rfl, rfl⟩
  cases hg : goodF p R with
  | false =>
    simp (dsimp := false) (maxSteps := 4000000) only [hn_b5, hr_b5, go_sem]
    exact bad (by simp [addE, a1, a3, hg]) (by decide) (AH.le_add (AH.le_refl _) ((by simp only [fresh_add, fresh_set, ne_eq, hn_b5, not_false_eq_true, and_self] : Fresh _ b5).2))
  | true =>
    
    simp (dsimp := false) (maxSteps := 4000000) only [hn_b5, hr_b5, go_sem]
    refine (hat _ (h.at.keep (Keep.add h_b5 (ex := fun _ => False)) (fun _ _ h => h) fun h => h)).mono ?_
    rintro _ _ ⟨r, rfl, ho, rfl⟩
    rcases ho with ⟨rfl, hl⟩ | ⟨i, z, rfl, hz, hn, hl⟩
    case' inr =>
      have hi0 : (0 : Int) ≤ (i : Int) := by omega
      simp (dsimp := false) (maxSteps := 4000000) only [hi0, hn_b5, hr_b5, go_sem]
      exact bad (by simp [addE, a1, a3, hg, hl]) (by decide) (AH.le_add (AH.le_refl _) ((by simp only [fresh_add, fresh_set, ne_eq, hn_b5, not_false_eq_true, and_self] : Fresh _ b5).2))
    obtain ⟨zb, zc, ht, hZ, hnb, hzb, hk⟩ := h
    have he : addE (Z.map RF.nf) n (p, R) = 0 := by simp [addE, a1, a3, hg, hl]
    rw [he]
    simp (dsimp := false) (maxSteps := 4000000) only [hn_b5, hr_b5, go_sem]
    refine AllB.mk fun bl h_bl => ?_
    have hn_bl : ¬ bl = b5 ∧ Fresh H bl := by simpa only [fresh_add, ne_eq] using h_bl
    simp (dsimp := false) (maxSteps := 4000000) only [hn_b5, hr_b5, go_sem]
    obtain ⟨H1, hH1⟩ : ∃ H1, H.add b5 (.cells [.int .i64 p, .slice base R.length cap] 65 2) = H1 := ⟨_, rfl⟩
    have k1 : Keep H H1 fun _ => False := hH1 ▸ Keep.add h_b5
    have f5 : H1.find b5 = some (.cells [.int .i64 p, .slice base R.length cap] 65 2) := by rw [← hH1, find_add_self]
    rw [hH1] at h_bl ⊢
    have ht1 := k1.find (fun h => h) ht
    have hZ1 := hZ.keep k1 fun _ _ h => h
    have hs1 := hs.keep k1 fun _ _ h => h
    refine AWp.loopr (ι := Nat × Option Addr × Nat) (fun s A => s.1 ≤ Z.length ∧ (∀ x ∈ (Z.map RF.nf).take s.1, x.1 < n) ∧ OwnS H1 A 67 3 s.2.1 s.2.2 ((Z.take s.1).map encN) ∧ Keep H1 A fun _ => False)
      (fun s => [(8, .int .i64 s.1), (7, .slice s.2.1 s.1 s.2.2), (0, .pointer (some ⟨b, 0, none⟩)), (1, .int .i64 n), (5, .pointer (some ⟨b5, 0, none⟩))]) (fun s => Z.length - s.1) (0, some ⟨bl, 0, none⟩, 0) (H1.add bl (.cells [] 67 0))
      ⟨by simp, by simp, OwnS.new h_bl (AH.le_refl _) rfl rfl rfl (by simp) (by simp), Keep.add h_bl⟩ (FrLe.of_lks ?_) (AH.le_refl _) fun s A hV Q again out => ?_
    · simp (dsimp := false) (maxSteps := 4000000) only [hn_b5, hr_b5, go_sem]
    clear hn_bl h_bl
    
    obtain ⟨i, ob, oc⟩ := s
    obtain ⟨hi, hlt, hO, hK⟩ := hV
    dsimp only at hi hlt hO hK ⊢
    have htA := hK.find (fun h => h) ht1
    have hZA := hZ1.keep hK fun _ _ h => h
    have r0 : A.rd ⟨b, 0, none⟩ = some (.slice zb Z.length zc) := by rw [rd_find htA]; rfl
    have hi0 : (0 : Int) ≤ (i : Int) := by omega
    have ee := i64_succ (i := i) (by omega)
    have hti : (Z.take i).length = i := by rw [List.length_take]; omega
    have hro : ((i : Int) < Z.length ∧ ∃ z, Z[i]? = some z ∧ ∃ b_ o, zb = some ⟨b_, o, none⟩ ∧ A.row b_ (o + i * 3) 3 = some (encN z) ∧ A.rd ⟨b_, o + i * 3, none⟩ = some (.int .i64 z.n)) ∨ ¬ (i : Int) < Z.length := by
      by_cases hin : (i : Int) < Z.length
      · obtain ⟨z, hz⟩ := get_some (l := Z) (i := i) (by omega)
        obtain ⟨b_, o, he, hrow, hrd⟩ := hZA.out.get (Go.AX.map_get (f := encN) hz)
        exact .inl ⟨hin, z, hz, b_, o, he, hrow, hrd 0 _ rfl⟩
      · exact .inr hin
    rcases hro with ⟨hin, z, hz, b_, o, he, hrow, rz⟩ | hin
    case' inl => by_cases hzn : z.n < n
    case' pos =>
      subst he
      
      simp (dsimp := false) (maxSteps := 4000000) only [r0, hin, rz, hi0, hzn, go_sem]
      unfold encN at hrow
      simp (dsimp := false) (maxSteps := 4000000) only [r0, hin, hi0, hrow, go_sem]
      refine AllB.mk fun bx h_bx => ?_; have hn_bx := h_bx; (try simp only [fresh_add, fresh_set, ne_eq] at hn_bx); have hr_bx := hn_bx; (try simp only [@eq_comm Nat bx] at hr_bx); simp (dsimp := false) (maxSteps := 4000000) only [hn_bx, hr_bx, go_sem]
      have hO2 : OwnS H1 (A.add bx (.cells (encN z) 67 3)) 67 3 ob oc ((Z.take i).map encN) := hO.added h_bx
      have hK2 : Keep H1 (A.add bx (.cells (encN z) 67 3)) fun _ => False := hK.nw h_bx
      refine APD.growW (x := .slice (some ⟨bx, 0, none⟩) 1 1) (R' := [encN z]) (m := 1) hO2 hK2.all se_46 rfl (by decide) (by rw [Tryz.underlying46]; rfl) (by rw [List.length_map, hti]) rfl rfl (by rw [srow_some, row_add_self]; rfl) (by simp [encN]) (by simp [encN, scal]) (by omega) fun base' cap' A' hO' hK' hN' => ?_
      refine ⟨A', AH.le_refl _, ?_⟩
      simp (dsimp := false) (maxSteps := 4000000) only [ee, hn_bx, hr_bx, go_sem]
      refine again (i + 1, base', cap') _ A' _ ⟨by dsimp only; omega, fun x hx => ?_, ?_, hK2.ow hK' fun b ⟨a, ha, e⟩ => e ▸ hO.fresh a ha⟩ (FrLe.of_lks (by simp (dsimp := false) (maxSteps := 4000000) only [hn_bx, hr_bx, go_sem])) (AH.le_refl _) (by dsimp only; omega)
      · dsimp only at hx
        rw [List.take_add_one, List.mem_append] at hx
        rcases hx with hx | hx
        · exact hlt x hx
        · rw [List.getElem?_map, hz] at hx
          simp at hx; subst hx; exact hzn
      · dsimp only
        rw [List.take_add_one, List.map_append, hz]
        exact hO'
      
    case' neg =>
      have hge : ∀ x, (Z.map RF.nf)[i]? = some x → ¬ x.1 < n := fun x hx => by
        rw [List.getElem?_map, hz] at hx; cases hx; exact hzn
      
      simp (dsimp := false) (maxSteps := 4000000) only [r0, hin, he, rz, hi0, hzn, go_sem]
      refine out _ _ _ (by simp) ?_
      clear hz hrow rz hzn he
      
    case' inr =>
      have hge : ∀ x, (Z.map RF.nf)[i]? = some x → ¬ x.1 < n := fun x hx => by
        rw [List.getElem?_eq_none (by rw [List.length_map]; omega)] at hx; cases hx
      
      simp (dsimp := false) (maxSteps := 4000000) only [r0, hin, go_sem]
      refine out _ _ _ (by simp) ?_
      
    all_goals
      clear out again
      have hins := ins_at (f := (p, R)) hlt hge
      have w5 : A.row b5 0 2 = some [.int .i64 p, .slice base R.length cap] := row_find (hK.find (fun h => h) f5) (by simp)
      
      simp (dsimp := false) (maxSteps := 4000000) only [go_sem]
      have w51 : H1.row b5 0 2 = some [.int .i64 p, .slice base R.length cap] := row_find f5 (by simp)
      refine AWp.gen [.pu, .pu, .pu, .rd, .pu, .al, .ch, .pu, .pu, .pu, .rd, .pu, .pu, .ch, .pu, .pu, .ch] [0, 0, 0, 0, 12, 28, 62, 0, 128, 384, 896, 0, 3968, 8190, 16383, 32767, 65535] 7 (H1) mixed (by kernel_rfl) (hK.all) ?_
      simp (dsimp := false) (maxSteps := 4000000) only [w5, w51, hK.all, go_sem]
      refine AllB.mk fun bx h_bx => ?_; have hn_bx := h_bx; (try simp only [fresh_add, fresh_set, ne_eq] at hn_bx); have hr_bx := hn_bx; (try simp only [@eq_comm Nat bx] at hr_bx); simp (dsimp := false) (maxSteps := 4000000) only [hn_bx, hr_bx, go_sem]
      have hO2 : OwnS H1 (A.add bx (.cells (encN ⟨n, p, base, cap, R⟩) 67 3)) 67 3 ob oc ((Z.take i).map encN) := hO.added h_bx
      have hK2 : Keep H1 (A.add bx (.cells (encN ⟨n, p, base, cap, R⟩) 67 3)) fun _ => False := hK.nw h_bx
      refine APD.growW (x := .slice (some ⟨bx, 0, none⟩) 1 1) (R' := [encN ⟨n, p, base, cap, R⟩]) (m := 1) hO2 hK2.all se_46 rfl (by decide) (by rw [Tryz.underlying46]; rfl) (by rw [List.length_map, hti]) rfl rfl (by rw [srow_some, row_add_self]; rfl) (by simp [encN]) (by simp [encN, scal]) (by omega) fun base2 cap2 A2 hO3 hK3 hN3 => ?_
      refine ⟨A2, AH.le_refl _, ?_⟩
      have k2 : Keep H1 A2 fun _ => False := hK2.ow hK3 fun b ⟨a, ha, e⟩ => e ▸ hO.fresh a ha
      have r2 : H1.rd ⟨b, 0, none⟩ = some (.slice zb Z.length zc) := by rw [rd_find ht1]; rfl
      have hi' : (i : Int) ≤ Z.length := by omega
      have hzc : Z.length ≤ zc := by have := hZ.out.le; simpa using this
      have hzc' : (Z.length : Int) ≤ zc := by omega
      
      have hR0 : R ≠ [] := fun e => by subst e; simp [goodF] at hg
      have hb' := hb.resolve_left hR0
      have hbk : ∀ {x}, Fresh H1 x → x ≠ b := fun hf e => hf.ne_find ht1 e
      have fin : ∀ base3 cap3 (A3 : AH), OwnS H1 A3 67 3 base3 cap3 (((Z.take i).map encN ++ [encN ⟨n, p, base, cap, R⟩]) ++ (Z.map encN).drop i) → (Keep H1 A3 fun _ => False) → ∃ H', H'.le (A3.set b (.cells [.slice base3 (Z.length + 1) cap3, .int .i64 den] 50 2)) ∧ ∃ Z' rd', Z'.map RF.nf = ins n (p, R) (Z.map RF.nf) ∧ RefS H' b Z' den rd' ∧ Keep H H' (· = b) ∧ ∀ x, rd' x → rd x ∨ Fresh H x ∨ (R ≠ [] ∧ ∃ a, base = some a ∧ x = a.block) := fun base3 cap3 A3 hO4 k3 => by
        have hZe : (Z.take i ++ (⟨n, p, base, cap, R⟩ : RF) :: Z.drop i).map encN = ((Z.take i).map encN ++ [encN ⟨n, p, base, cap, R⟩]) ++ (Z.map encN).drop i := by simp [List.map_drop]
        have hZl' : (Z.take i ++ (⟨n, p, base, cap, R⟩ : RF) :: Z.drop i).length = Z.length + 1 := by simp; omega
        rw [← hZe] at hO4
        have hne3 : ∀ a, base3 = some a → a.block ≠ b := fun a ha => hbk (hO4.fresh a ha)
        have hset : Keep A3 (A3.set b (.cells [.slice base3 (Z.length + 1) cap3, .int .i64 den] 50 2)) (· = b) := Keep.set
        have hKH : Keep H (A3.set b (.cells [.slice base3 (Z.length + 1) cap3, .int .i64 den] 50 2)) (· = b) := (((k1.trans k3).mono fun _ h => h.elim)).trans hset
        have hN := (hZ1.keep k3 fun _ _ h => h).keep hset fun x hx e => hnb (e ▸ hx)
        have hsz' := (hs1.keep k3 fun _ _ h => h).keep hset fun a ha => (hb' a ha).1
        refine ⟨_, AH.le_refl _, Z.take i ++ ⟨n, p, base, cap, R⟩ :: Z.drop i, fun x => rd x ∨ (∃ a, base3 = some a ∧ x = a.block) ∨ ∃ a, base = some a ∧ x = a.block, ?_, ⟨base3, cap3, ?_, ⟨?_, fun z hz => ?_, .inr fun a ha => .inr (.inl ⟨a, ha, rfl⟩), fun z hz => ?_⟩, ?_, ?_, ?_⟩, hKH, ?_⟩
        · rw [hins]; simp [RF.nf, List.map_take, List.map_drop]
        · rw [find_set, if_pos rfl, hZl']
        · exact hO4.slc.keep hset hne3
        · rcases List.mem_append.1 hz with hz | hz
          · exact hN.inn z (List.mem_of_mem_take hz)
          · rcases List.mem_cons.1 hz with rfl | hz
            · exact hsz'
            · exact hN.inn z (List.mem_of_mem_drop hz)
        · rcases List.mem_append.1 hz with hz | hz
          · exact (hZ.r2 z (List.mem_of_mem_take hz)).imp id fun h a ha => .inl (h a ha)
          · rcases List.mem_cons.1 hz with rfl | hz
            · exact .inr fun a ha => .inr (.inr ⟨a, ha, rfl⟩)
            · exact (hZ.r2 z (List.mem_of_mem_drop hz)).imp id fun h a ha => .inl (h a ha)
        · rintro (h | ⟨a, ha, e⟩ | ⟨a, ha, e⟩)
          · exact hnb h
          · exact hne3 a ha e.symm
          · exact (hb' a ha).1 e.symm
        · rcases hO4.at_ with ⟨_, h, _⟩ | ⟨b', bs, h, _⟩
          · simp at h
          · exact .inr ⟨b', 0, h⟩
        · rintro x (h | ⟨a, ha, e⟩ | ⟨a, ha, e⟩) hf
          · exact hk x h (hKH.fresh hf fun e => hnb (e ▸ h))
          · subst e
            rcases hO4.at_ with ⟨h, _⟩ | ⟨b', bs, h, hfd, _⟩
            · rw [ha] at h; cases h
            · rw [ha] at h; cases h
              have := hf.2
              rw [find_set, if_neg (hne3 _ ha), hfd] at this; cases this
          · subst e
            exact (hb' a ha).2 (hKH.fresh hf (hb' a ha).1)
        · rintro x (h | ⟨a, ha, e⟩ | ⟨a, ha, e⟩)
          · exact .inl h
          · subst e; exact .inr (.inl (k1.fr (hO4.fresh a ha)))
          · exact .inr (.inr ⟨hR0, a, ha, e⟩)
      rcases hzb with ⟨rfl, rfl, rfl⟩ | ⟨q, o, rfl⟩
      · obtain rfl : i = 0 := by simpa using hi
        simp (dsimp := false) (maxSteps := 4000000) only [r2, k2.all, go_sem]
        refine APD.growS (m := 0) (R' := ([] : List RF).map encN) hO3 k2.all se_46 rfl (by decide) (by decide) (by rw [Tryz.underlying46]; rfl) (by simp) rfl SlcIn.empty (rowsN []) (scalN []) (by omega) fun base3 cap3 A3 hO4 hK4 hN4 => ?_
        refine ⟨A3, AH.le_refl _, ?_⟩
        have k3 : Keep H1 A3 fun _ => False := k2.ow hK4 fun b ⟨a, ha, e⟩ => e ▸ hO3.fresh a ha
        have hw : A3.wrs b 0 [.slice base3 1 cap3] = some (A3.set b (.cells [.slice base3 1 cap3, .int .i64 den] 50 2)) := by
          simp [AH.wrs, k3.find (fun h => h) ht1, lput, scal]
        simp (dsimp := false) (maxSteps := 4000000) only [hw, go_sem]
        exact fin base3 cap3 A3 hO4 k3
      · simp (dsimp := false) (maxSteps := 4000000) only [r2, k2.all, hi', hzc', hi0, go_sem]
        refine APD.growS (m := Z.length - i) (R' := (Z.map encN).drop i) hO3 k2.all se_46 rfl (by decide) (by decide) (by rw [Tryz.underlying46]; rfl) (by rw [List.length_append, List.length_map, hti]; rfl) (by simp) (SlcIn.drop (hZ1.keep k2 fun _ _ h => h).out i (by simpa using hi)) (fun r hr => rowsN Z r (List.mem_of_mem_drop hr)) (by rw [← List.map_drop]; exact scalN _) (by omega) fun base3 cap3 A3 hO4 hK4 hN4 => ?_
        refine ⟨A3, AH.le_refl _, ?_⟩
        have k3 : Keep H1 A3 fun _ => False := k2.ow hK4 fun b ⟨a, ha, e⟩ => e ▸ hO3.fresh a ha
        rw [show i + 1 + (Z.length - i) = Z.length + 1 from by omega]
        have hw : A3.wrs b 0 [.slice base3 (Z.length + 1) cap3] = some (A3.set b (.cells [.slice base3 (Z.length + 1) cap3, .int .i64 den] 50 2)) := by
          simp [AH.wrs, k3.find (fun h => h) ht1, lput, scal]
        simp (dsimp := false) (maxSteps := 4000000) only [hw, go_sem]
        exact fin base3 cap3 A3 hO4 k3
      
    
end Go.Proofs.YtbhamhhjicehaaaGreatDoor.Ifs

/- the reference's store: Do. -/
namespace Go.Proofs.YtbhamhhjicehaaaGreatDoor.Ifs
set_option linter.unusedSimpArgs false
set_option linter.unusedVariables false
open Go Go.AX Go.Proofs Ty Go.Proofs.YtbhamhhjicehaaaGreatDoor.File
set_option maxHeartbeats 4000000
set_option maxRecDepth 10000

end Go.Proofs.YtbhamhhjicehaaaGreatDoor.Ifs

/- the reference's store: Set. -/
namespace Go.Proofs.YtbhamhhjicehaaaGreatDoor.Ifs
set_option linter.unusedSimpArgs false
set_option linter.unusedVariables false
open Go Go.AX Go.Proofs Ty Go.Proofs.YtbhamhhjicehaaaGreatDoor.File
set_option maxHeartbeats 4000000
set_option maxRecDepth 10000

end Go.Proofs.YtbhamhhjicehaaaGreatDoor.Ifs
