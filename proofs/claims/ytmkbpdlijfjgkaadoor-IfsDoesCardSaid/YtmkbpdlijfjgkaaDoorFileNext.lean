/- file.next: what it comes to: a loop over slices.Backward. -/
import Derived.RangeFuncNested
import Derived.RangeFuncBound
import Derived.RangeFuncCalls
import Derived.RangeFuncLeaves
import Derived.RangeFuncFrom
import Derived.Shelf.Abstract
import Derived.Shelf.RegionOpen
import Derived.WalkKit
import Derived.OwnWalkIn
import Derived.TacticsInMore
import Derived.LoopNIn
import Derived.LoopIn
import Derived.Test.YtmkbpdlijfjgkaaDoorProg
namespace Go.Proofs.YtmkbpdlijfjgkaaDoor.Nxt
set_option linter.unusedSimpArgs false
set_option linter.unusedVariables false
open Go Go.Proofs Go.RowKit Go.Shelf
attribute [local go_sem] Oper.semAt_some

abbrev Al := { i : Nat // i < 4 } × Int
def encs (x : Al) : Array Value := #[.int .i64 (x.1.1 : Int), .int .u8 x.2]
/-- What a round keeps: the box of the slice, and bytes stay bytes. -/
def Kp (b Bs : Nat) (W W' : World) : Prop := W'.cell? ⟨Bs, 0, none⟩ = W.cell? ⟨Bs, 0, none⟩ ∧ ∀ j, j < 4 → (∃ x, W.cell? ⟨b, j, none⟩ = some (.int .u8 x)) → ∃ x, W'.cell? ⟨b, j, none⟩ = some (.int .u8 x)
def idxs (k : Nat) : List Nat := (List.range k).map (3 - ·)
theorem idxs_succ (k : Nat) : idxs (k + 1) = idxs k ++ [3 - k] := by simp [idxs, List.range_succ]

set_option maxRecDepth 100000 in
set_option maxHeartbeats 2000000 in
theorem back1_in (F : Fence) (n : Nat) (h7 : F.fn 85) (hro : F.round = none) (hn : 1 ≤ n) (l Bs b : Nat) (J Jx : List Al → World → Prop)
    (hY : ∀ pre x W, J pre W → pre.length < 4 → YieldAt F (n - 1) Tryd.prog l (encs x) W fun e W' =>
      (e = .returned (.bool true) ∧ J (pre ++ [x]) W' ∧ Kp b Bs W W') ∨ (e = .returned (.bool false) ∧ Jx (pre ++ [x]) W'))
    (W : World) (hBs : W.cell? ⟨Bs, 0, none⟩ = some (.slice (some ⟨b, 0, none⟩) 4 4)) (hc : ∀ j, j < 4 → ∃ x, W.cell? ⟨b, j, none⟩ = some (.int .u8 x)) (h0 : J [] W) :
    CallsIn F n Tryd.prog 85 #[.func (.yield l) #[] #[], .pointer (some ⟨Bs, 0, none⟩)] W fun e W' => (∃ v, e = .returned v) ∧
      ((∃ ys, ys.map (·.1.1) = idxs 4 ∧ J ys W') ∨ (∃ pre, (∃ k, k ≤ 4 ∧ pre.map (·.1.1) = idxs k) ∧ Jx pre W')) := by
  refine callsIn_of_wp Tryd.func85 rfl h7 ?_ hro
  simp only [Tryd.ntmps85, List.size_toArray, List.length_cons, List.length_nil, Nat.reduceAdd, Nat.reduceSub, Array.replicate_succ, Array.replicate_zero, List.push_toArray, List.append_toArray, List.nil_append, List.cons_append]
  gi_wp2
  gi_loopw [3] (fun i wr => ∃ (k : Nat) (pre : List Al), k ≤ 4 ∧ i = .int .i64 (3 - (k : Int)) ∧ pre.map (·.1.1) = idxs k ∧ J pre wr ∧ Kp b Bs W wr)
    (fun i _ => (intOf i + 1).toNat)
  case atStart => exact ⟨0, [], Nat.zero_le _, rfl, rfl, h0, rfl, fun j hj h => h⟩
  case round =>
    obtain ⟨k, pre, hk, rfl, hp, hJs, hK1, hK2⟩ := hrel
    have hBs' := hK1.trans hBs
    by_cases hlt : k < 4
    · obtain ⟨x, hx⟩ := hK2 (3 - k) (by omega) (hc (3 - k) (by omega))
      have hi : ((3 - k : Nat) : Int) = 3 - (k : Int) := by omega
      obtain ⟨fn, tmps, assign, body, hy, hR⟩ := hY pre (⟨3 - k, by omega⟩, x) wr hJs (by have := congrArg List.length hp; simp [idxs] at this; omega)
      dsimp only [encs] at hy
      rw [hi] at hy
      have hoff : (3 - (k : Int)).toNat = 3 - k := by omega
      have hge : 0 ≤ 3 - (k : Int) := by omega
      have hlt4 : 3 - (k : Int) < 4 := by omega
      gi_wp2
      refine hR.mono ?_
      rintro e W3 (⟨rfl, hJ3, hk3⟩ | ⟨rfl, hJx3⟩)
      · gi_wp2
        go_roundw
        case rel =>
          refine ⟨k + 1, pre ++ [(⟨3 - k, by omega⟩, x)], by omega, by simp; omega, by rw [idxs_succ, List.map_append, hp]; rfl, hJ3, hk3.1.trans hK1, fun j hj h => hk3.2 j hj (hK2 j hj h)⟩
        case measure => simp [intOf]; omega
      · gi_wp2
        refine bodyPost_ret (results_none rfl _ _ _) rfl ?_
        exact ⟨⟨_, rfl⟩, .inr ⟨_, ⟨k + 1, by omega, by rw [idxs_succ, List.map_append, hp]; rfl⟩, hJx3⟩⟩
    · obtain rfl : k = 4 := by omega
      gi_wp2
      go_end0
      exact ⟨⟨_, rfl⟩, .inl ⟨pre, hp, hJs⟩⟩

set_option maxRecDepth 100000 in
set_option maxHeartbeats 2000000 in
theorem Backward_in (F : Fence) (n : Nat) (h5 : F.fn 71) (hro : F.round = none) (a : Option Addr) (len cap : Nat) (w : World) :
    CallsIn F n Tryd.prog 71 #[.slice a len cap] w fun e w' => e = .returned (.func (.func 85) #[] #[.pointer (some ⟨w.heap.size, 0, none⟩)]) ∧ w' = w.alloc (.cells #[.slice a len cap] 115) := by
  refine callsIn_of_wp Tryd.func71 rfl h5 ?_ hro
  simp only [Tryd.ntmps71, List.size_toArray, List.length_cons, List.length_nil, Nat.reduceAdd, Nat.reduceSub, Array.replicate_succ, Array.replicate_zero, List.push_toArray, List.append_toArray, List.nil_append, List.cons_append]
  gi_wp2
  go_ret
  exact ⟨rfl, rfl⟩

theorem back_stops (F : Fence) (n : Nat) (h7 : F.fn 85) (hro : F.round = none) (hn : 1 ≤ n) (Bs b : Nat) (w : World) (hBs : Bs < w.heap.size) (hb : b < w.heap.size)
    (hc : w.cell? ⟨Bs, 0, none⟩ = some (.slice (some ⟨b, 0, none⟩) 4 4)) (hcs : ∀ j, j < 4 → ∃ x, w.cell? ⟨b, j, none⟩ = some (.int .u8 x)) :
    SeqStopsK F n Tryd.prog 85 #[.pointer (some ⟨Bs, 0, none⟩)] encs (Kp b Bs) (fun ys => ys.map (·.1.1) = idxs 4) (fun pre => ∃ k, k ≤ 4 ∧ pre.map (·.1.1) = idxs k) 4 w := fun l J Jx W hW _ _ hY h0 => by
  have hc' := (hW.cell (p := ⟨Bs, 0, none⟩) hBs).trans hc
  have hcs' : ∀ j, j < 4 → ∃ x, W.cell? ⟨b, j, none⟩ = some (.int .u8 x) := fun j hj => by
    obtain ⟨x, hx⟩ := hcs j hj
    exact ⟨x, (hW.cell (p := ⟨b, j, none⟩) hb).trans hx⟩
  refine (back1_in F n h7 hro hn l Bs b J Jx hY W hc' hcs' h0).mono ?_
  rintro e W' ⟨he, ⟨ys, h1, hj⟩ | ⟨pre, h1, hj⟩⟩
  · exact ⟨he, .inl ⟨_, h1, hj⟩⟩
  · exact ⟨he, .inr ⟨_, h1, hj⟩⟩

/-! ### The number, one more -/
abbrev Rc := Int × Int × Int × Int
def at_ (r : Rc) (i : Nat) : Int := match i with | 0 => r.1 | 1 => r.2.1 | 2 => r.2.2.1 | _ => r.2.2.2
def inc (r : Rc) (i : Nat) : Rc := match i with
  | 0 => (IntKind.u8.wrap (r.1 + 1), r.2)
  | 1 => (r.1, IntKind.u8.wrap (r.2.1 + 1), r.2.2)
  | 2 => (r.1, r.2.1, IntKind.u8.wrap (r.2.2.1 + 1), r.2.2.2)
  | _ => (r.1, r.2.1, r.2.2.1, IntKind.u8.wrap (r.2.2.2 + 1))
/-- All of these have come to 0. -/
def gone (r : Rc) : List Nat → Option Rc
  | [] => some r
  | i :: l => if at_ (inc r i) i = 0 then gone (inc r i) l else none
theorem gone_snoc (r : Rc) : ∀ (l : List Nat) (i : Nat), gone r (l ++ [i]) = (gone r l).bind fun s => if at_ (inc s i) i = 0 then some (inc s i) else none
  | [], i => by simp [gone]
  | j :: l, i => by
    simp only [List.cons_append, gone]
    split
    · exact gone_snoc _ l i
    · rfl
def nextR (r : Rc) : Rc :=
  if at_ (inc r 3) 3 ≠ 0 then inc r 3 else
  if at_ (inc (inc r 3) 2) 2 ≠ 0 then inc (inc r 3) 2 else
  if at_ (inc (inc (inc r 3) 2) 1) 1 ≠ 0 then inc (inc (inc r 3) 2) 1 else inc (inc (inc (inc r 3) 2) 1) 0
def bytes (r : Rc) : Array Value := #[.int .u8 r.1, .int .u8 r.2.1, .int .u8 r.2.2.1, .int .u8 r.2.2.2]

/-- The four bytes lie in block b. -/
def Lies (W : World) (b : Nat) (r : Rc) : Prop := ∀ j, j < 4 → W.cell? ⟨b, j, none⟩ = some (.int .u8 (at_ r j)) ∧ W.frozen? ⟨b, j, none⟩ = false

theorem stop_at {r : Rc} {k : Nat} {l : List Nat} {i : Nat} {s : Rc} (h : l ++ [i] = idxs k) (hk : k ≤ 4) (hg : gone r l = some s) (hn : at_ (inc s i) i ≠ 0) : inc s i = nextR r := by
  have hk' : k = 0 ∨ k = 1 ∨ k = 2 ∨ k = 3 ∨ k = 4 := by omega
  rcases hk' with rfl | rfl | rfl | rfl | rfl
  · have := congrArg List.length h; simp [idxs] at this
  all_goals
    have h1 := congrArg List.dropLast h
    have h2 := congrArg List.getLast? h
    simp [idxs, List.range_succ] at h1 h2
    subst h1; subst h2
    simp only [gone] at hg
    (repeat' split at hg) <;> first | (cases hg; done) | (cases hg; simp [nextR, *])
theorem all_gone {r s : Rc} (hg : gone r (idxs 4) = some s) : s = nextR r := by
  simp only [idxs, List.range_succ, List.range_zero, List.nil_append, List.cons_append, List.map_cons, List.map_nil, gone, Nat.reduceSub] at hg
  (repeat' split at hg) <;> first | (cases hg; done) | (cases hg; simp [nextR, *])

/-- The answer's block, as it was made. -/
def Zed (W : World) (b : Nat) : Prop := Lies W b (0, 0, 0, 0)
def II (w : World) (r : Rc) (pre : List Al) (W : World) : Prop := ∃ s, gone r (pre.map (·.1.1)) = some s ∧ Lies W w.heap.size s ∧ Zed W (w.heap.size + 1)
def IX (w : World) (r : Rc) (c : Code) (pre : List Al) (W : World) : Prop := c = .exit 0 ∧ ∃ l i s, pre.map (·.1.1) = l ++ [i] ∧ gone r l = some s ∧ at_ (inc s i) i ≠ 0 ∧ Lies W w.heap.size (inc s i) ∧ Zed W (w.heap.size + 1)
theorem at_inc_ne {r : Rc} {i j : Nat} (hi : i < 4) (hj : j < 4) (h : i ≠ j) : at_ (inc r i) j = at_ r j := by
  have hi' : i = 0 ∨ i = 1 ∨ i = 2 ∨ i = 3 := by omega
  have hj' : j = 0 ∨ j = 1 ∨ j = 2 ∨ j = 3 := by omega
  rcases hi' with rfl | rfl | rfl | rfl <;> rcases hj' with rfl | rfl | rfl | rfl <;> first | rfl | exact absurd rfl h
theorem at_inc_self {r : Rc} {i : Nat} (hi : i < 4) : at_ (inc r i) i = IntKind.u8.wrap (at_ r i + 1) := by
  have hi' : i = 0 ∨ i = 1 ∨ i = 2 ∨ i = 3 := by omega
  rcases hi' with rfl | rfl | rfl | rfl <;> rfl
theorem Lies.set {W : World} {b i : Nat} {r : Rc} (h : Lies W b r) (hi : i < 4) : Lies (W.setCell ⟨b, i, none⟩ (.int .u8 (IntKind.u8.wrap (at_ r i + 1)))) b (inc r i) := fun j hj => by
  rw [World.frozen?_setCell]
  refine ⟨?_, (h j hj).2⟩
  by_cases e : i = j
  · subst e
    rw [at_inc_self hi]
    exact World.cell?_setCell_same' _ _ _ (by rw [(h i hi).1]; rfl)
  · rw [at_inc_ne hi hj e]
    exact (World.cell?_setCell_other W ⟨b, i, none⟩ ⟨b, j, none⟩ _ (by simp only [ne_eq, Addr.mk.injEq]; omega)).trans (h j hj).1
theorem Lies.far {W : World} {b b' i : Nat} {r : Rc} {v : Value} (h : Lies W b r) (hb : b' ≠ b) : Lies (W.setCell ⟨b', i, none⟩ v) b r := fun j hj => by
  rw [World.frozen?_setCell]
  exact ⟨(World.cell?_setCell_other W ⟨b', i, none⟩ ⟨b, j, none⟩ _ (by simp only [ne_eq, Addr.mk.injEq]; omega)).trans (h j hj).1, (h j hj).2⟩
theorem lies_new (w : World) (r : Rc) (t : TypeId) : Lies (w.alloc (.cells (bytes r) t)) w.heap.size r := fun j hj => by
  have hj' : j = 0 ∨ j = 1 ∨ j = 2 ∨ j = 3 := by omega
  have hh := World.alloc_heap_new w (.cells (bytes r) t)
  rcases hj' with rfl | rfl | rfl | rfl <;> simp only [World.cell?, World.frozen?, hh] <;> simp [bytes, at_]
theorem one_new (w : World) (v : Value) (t : TypeId) : (w.alloc (.cells #[v] t)).cell? ⟨w.heap.size, 0, none⟩ = some v ∧ True := by
  have hh := World.alloc_heap_new w (.cells #[v] t)
  simp only [World.cell?, hh]; simp
theorem Lies.kept {A B : World} {b : Nat} {r : Rc} {row : Option Nat} (h : Lies A b r) (hg : A.grownBy B row) (hr : ∀ r, row = some r → ∃ o : Obj, A.heap[r]? = some o ∧ o.isCells = false) : Lies B b r := fun j hj => by
  obtain ⟨h1, h2⟩ := h j hj
  exact ⟨cell_kept h1 hg hr, (frozen_kept h1 hg hr).trans h2⟩
theorem Lies.alloc {W : World} {b : Nat} {r : Rc} (h : Lies W b r) (o : Obj) : Lies (W.alloc o) b r := h.kept (World.grownBy_alloc W o none) (fun r e => by cases e)
theorem Lies.hs {W : World} {b : Nat} {r : Rc} (h : Lies W b r) : (W.cell? ⟨b, 0, none⟩ = some (.int .u8 r.1) ∧ W.frozen? ⟨b, 0, none⟩ = false) ∧ (W.cell? ⟨b, 1, none⟩ = some (.int .u8 r.2.1) ∧ W.frozen? ⟨b, 1, none⟩ = false) ∧ (W.cell? ⟨b, 2, none⟩ = some (.int .u8 r.2.2.1) ∧ W.frozen? ⟨b, 2, none⟩ = false) ∧ (W.cell? ⟨b, 3, none⟩ = some (.int .u8 r.2.2.2) ∧ W.frozen? ⟨b, 3, none⟩ = false) :=
  ⟨h 0 (by omega), h 1 (by omega), h 2 (by omega), h 3 (by omega)⟩
theorem kp_b {b Bs : Nat} {w : World} (hBs : Bs < w.heap.size) (W : World) (l : Nat) (o o' : Obj) (hl : w.heap.size ≤ l) (h : W.heap[l]? = some o) (hc : o.isCells = false) (hw : o.isWalk = false) : Kp b Bs W (W.putObj l o') := by
  have hg := grownBy_putObj' W l o'
  have hr : ∀ r, some l = some r → ∃ o : Obj, W.heap[r]? = some o ∧ o.isCells = false := fun r e => by cases e; exact ⟨o, h, hc⟩
  exact ⟨(belowK_b (w := w) (Nat.le_refl _) W l o o' hl h hc hw).cell (p := ⟨Bs, 0, none⟩) hBs, fun j hj ⟨x, hx⟩ => ⟨x, cell_kept hx hg hr⟩⟩

def sets (W : World) (b : Nat) (r : Rc) : World := (((W.setCell ⟨b, 0, none⟩ (.int .u8 r.1)).setCell ⟨b, 1, none⟩ (.int .u8 r.2.1)).setCell ⟨b, 2, none⟩ (.int .u8 r.2.2.1)).setCell ⟨b, 3, none⟩ (.int .u8 r.2.2.2)
theorem oth (W : World) (b i j : Nat) (v : Value) (h : i ≠ j) : (W.setCell ⟨b, i, none⟩ v).cell? ⟨b, j, none⟩ = W.cell? ⟨b, j, none⟩ :=
  World.cell?_setCell_other W ⟨b, i, none⟩ ⟨b, j, none⟩ _ (by simp only [ne_eq, Addr.mk.injEq]; omega)
theorem sets_lies {W : World} {b : Nat} {s r : Rc} (h : Lies W b s) : Lies (sets W b r) b r := by
  obtain ⟨⟨c0, f0⟩, ⟨c1, f1⟩, ⟨c2, f2⟩, ⟨c3, f3⟩⟩ := h.hs
  have fr : ∀ j, (sets W b r).frozen? ⟨b, j, none⟩ = W.frozen? ⟨b, j, none⟩ := fun j => by
    unfold sets
    rw [World.frozen?_setCell, World.frozen?_setCell, World.frozen?_setCell, World.frozen?_setCell]
  have d0 : (sets W b r).cell? ⟨b, 0, none⟩ = some (.int .u8 r.1) := by
    unfold sets
    rw [oth _ b 3 0 _ (by omega), oth _ b 2 0 _ (by omega), oth _ b 1 0 _ (by omega)]
    exact World.cell?_setCell_same' _ _ _ (by rw [c0]; rfl)
  have d1 : (sets W b r).cell? ⟨b, 1, none⟩ = some (.int .u8 r.2.1) := by
    unfold sets
    rw [oth _ b 3 1 _ (by omega), oth _ b 2 1 _ (by omega)]
    exact World.cell?_setCell_same' _ _ _ (by rw [oth _ b 0 1 _ (by omega), c1]; rfl)
  have d2 : (sets W b r).cell? ⟨b, 2, none⟩ = some (.int .u8 r.2.2.1) := by
    unfold sets
    rw [oth _ b 3 2 _ (by omega)]
    exact World.cell?_setCell_same' _ _ _ (by rw [oth _ b 1 2 _ (by omega), oth _ b 0 2 _ (by omega), c2]; rfl)
  have d3 : (sets W b r).cell? ⟨b, 3, none⟩ = some (.int .u8 r.2.2.2) := by
    unfold sets
    exact World.cell?_setCell_same' _ _ _ (by rw [oth _ b 2 3 _ (by omega), oth _ b 1 3 _ (by omega), oth _ b 0 3 _ (by omega), c3]; rfl)
  intro j hj
  rw [fr]
  have hj' : j = 0 ∨ j = 1 ∨ j = 2 ∨ j = 3 := by omega
  rcases hj' with rfl | rfl | rfl | rfl
  · exact ⟨d0, f0⟩
  · exact ⟨d1, f1⟩
  · exact ⟨d2, f2⟩
  · exact ⟨d3, f3⟩
theorem sets_below {n : Nat} {w W : World} {b : Nat} (r : Rc) (h : Below n w W) (hb : n ≤ b) : Below n w (sets W b r) := (((h.setCell (p := ⟨b, 0, none⟩) hb _).setCell (p := ⟨b, 1, none⟩) hb _).setCell (p := ⟨b, 2, none⟩) hb _).setCell (p := ⟨b, 3, none⟩) hb _
theorem sets_keeps (W : World) (b : Nat) (r : Rc) {D : Nat} {o : Obj} (hK : W.heap[D]? = some o) (ho : o.isCells = false) : (sets W b r).heap[D]? = some o :=
  (KeepsOthers.setCell _ _ _).same D _ ((KeepsOthers.setCell _ _ _).same D _ ((KeepsOthers.setCell _ _ _).same D _ ((KeepsOthers.setCell _ _ _).same D _ hK ho) ho) ho) ho

set_option maxRecDepth 100000 in
set_option maxHeartbeats 4000000 in
theorem next_in (F : Fence) (n : Nat) (h3 : F.fn 60) (h5 : F.fn 71) (h6 : F.fn 85) (hro : F.round = none) (hn : 3 ≤ n) (r : Rc) (w : World) :
    CallsIn F n Tryd.prog 60 #[.agg (bytes r)] w fun e W' => e = .returned (.agg (bytes (nextR r))) ∧ Below w.heap.size w W' := by
  have h1 : 1 ≤ n := by omega
  refine callsIn_of_wp_marks Tryd.func60 rfl h3 ?_ hro
  unfold bytes
  simp only [Tryd.ntmps60, List.size_toArray, List.length_cons, List.length_nil, Nat.reduceAdd, Nat.reduceSub, Array.replicate_succ, Array.replicate_zero, List.push_toArray, List.append_toArray, List.nil_append, List.cons_append]
  gi_wp2_with (gi_at_call 71; refine (Backward_in F (n - 1) h5 hro _ _ _ _).mono ?_; rintro e w' ⟨rfl, rfl⟩)
  have hB0 : Below w.heap.size w (((w.alloc (.cells (bytes r) 32)).alloc (.cells (bytes (0, 0, 0, 0)) 32)).alloc (.cells #[.slice (some ⟨w.heap.size, 0, none⟩) 4 4] 115)) := (((Below.refl _ w).alloc (Nat.le_refl _) _).alloc (by simp) _).alloc (by simp; omega) _
  obtain ⟨W0, hW0⟩ : ∃ W0, (((w.alloc (.cells (bytes r) 32)).alloc (.cells (bytes (0, 0, 0, 0)) 32)).alloc (.cells #[.slice (some ⟨w.heap.size, 0, none⟩) 4 4] 115)) = W0 := ⟨_, rfl⟩
  have hsz : W0.heap.size = w.heap.size + 1 + 1 + 1 := by rw [← hW0]; simp
  have hL : Lies W0 w.heap.size r := by rw [← hW0]; exact ((lies_new w r _).alloc _).alloc _
  have hZ : Zed W0 (w.heap.size + 1) := by
    rw [← hW0]
    have := lies_new (w.alloc (.cells (bytes r) 32)) (0, 0, 0, 0) 32
    rw [World.size_alloc] at this
    exact this.alloc _
  have hS : W0.cell? ⟨w.heap.size + 1 + 1, 0, none⟩ = some (.slice (some ⟨w.heap.size, 0, none⟩) 4 4) := by
    rw [← hW0]
    have := (one_new ((w.alloc (.cells (bytes r) 32)).alloc (.cells (bytes (0, 0, 0, 0)) 32)) (.slice (some ⟨w.heap.size, 0, none⟩) 4 4) 115).1
    rw [World.size_alloc, World.size_alloc] at this
    exact this
  rw [hW0] at hB0
  unfold bytes at hW0
  simp only at hW0
  rw [hW0]
  refine wpIn_rangeFunc_ownF hro h1 (gf := 85) (lb := #[.pointer (some ⟨w.heap.size + 1 + 1, 0, none⟩)]) rfl h6 (enters_of Tryd.func85 (by kernel_rfl) rfl)
    (back_stops F (n - 1) h6 hro (by omega) (w.heap.size + 1 + 1) w.heap.size W0 (by omega) (by omega) hS (fun j hj => ⟨_, (hL j hj).1⟩))
    (fun h k => ⟨k.1.trans h.1, fun j hj hx => k.2 j hj (h.2 j hj hx)⟩) (kp_b (by omega)) (Below.refl _ _) (fun _ => rfl)
    (fun pre W => II w r pre W ∧ Below w.heap.size w W) (fun c pre W => IX w r c pre W ∧ Below w.heap.size w W) 
    (OwnFrom.and (Own.from (fun s A B row ⟨x, h1, h2, h3⟩ hg hr => ⟨x, h1, h2.kept hg (fun r e => (hr r e)), h3.kept hg (fun r e => (hr r e))⟩) _) (ownFrom_below (Nat.le_refl _) (by omega)))
    (fun c => OwnFrom.and (Own.from (fun s A B row ⟨e, l, i, x, h0, h1, h4, h2, h3⟩ hg hr => ⟨e, l, i, x, h0, h1, h4, h2.kept hg (fun r e => (hr r e)), h3.kept hg (fun r e => (hr r e))⟩) _) (ownFrom_below (Nat.le_refl _) (by omega)))
    ⟨⟨r, rfl, hL, hZ⟩, hB0⟩
    (fun x => { tmps := #[.agg #[.int .u8 r.1, .int .u8 r.2.1, .int .u8 r.2.2.1, .int .u8 r.2.2.2], .pointer (some ⟨w.heap.size, 0, none⟩), .pointer (some ⟨w.heap.size + 1, 0, none⟩), .int .i64 (x.1.1 : Int), .slice (some ⟨w.heap.size, 0, none⟩) 4 4, .func (.func 85) #[] #[.pointer (some ⟨w.heap.size + 1 + 1, 0, none⟩)], .int .i64 (x.1.1 : Int), .int .u8 x.2, undef, undef, undef, undef, undef, undef, undef, undef, undef, undef], defers := [] }) ?assign ?body ?done ?stop
  case assign =>
    intro l x W K hK
    unfold encs
    gi_wp2
    exact hK
  case body =>
    rintro l pre ⟨⟨i, hi⟩, y⟩ W ⟨⟨s, hg, hLs, hZs⟩, hB⟩ _
    have hi' : i = 0 ∨ i = 1 ∨ i = 2 ∨ i = 3 := by omega
    obtain ⟨⟨c0, f0⟩, ⟨c1, f1⟩, ⟨c2, f2⟩, ⟨c3, f3⟩⟩ := hLs.hs
    rcases hi' with rfl | rfl | rfl | rfl
    all_goals
      gi_wp2
      · rename_i hne
        have hset := hLs.set hi
        rw [IntKind.wrap_u8] at hset
        refine ⟨KeepsOthers.setCell _ _ _, ⟨rfl, pre.map (·.1.1), _, s, by rw [List.map_append]; rfl, hg, ?_, hset, hZs.far (b' := w.heap.size) (by omega)⟩, hB.setCell (Nat.le_refl _) _⟩
        rw [at_inc_self hi, IntKind.wrap_u8]
        simpa [at_] using hne
      · rename_i hne
        have hset := hLs.set hi
        rw [IntKind.wrap_u8] at hset
        refine ⟨KeepsOthers.setCell _ _ _, ⟨World.cell?_setCell_other _ _ _ _ (by simp only [ne_eq, Addr.mk.injEq]; omega), fun j hj _ => ⟨_, (hset j hj).1⟩⟩, ⟨_, ?_, hset, hZs.far (b' := w.heap.size) (by omega)⟩, hB.setCell (Nat.le_refl _) _⟩
        rw [List.map_append, List.map_cons, List.map_nil, gone_snoc, hg]
        simp only [Option.bind_some]
        rw [if_pos]
        rw [at_inc_self hi, IntKind.wrap_u8]
        simpa [at_] using hne
  case done =>
    rintro D ys W hD hys ⟨⟨s, hg, hLs, hZs⟩, hB⟩ hK
    rw [hys] at hg
    have hs := all_gone hg
    subst hs
    obtain ⟨⟨c0, f0⟩, ⟨c1, f1⟩, ⟨c2, f2⟩, ⟨c3, f3⟩⟩ := hLs.hs
    obtain ⟨⟨d0, g0⟩, ⟨d1, g1⟩, ⟨d2, g2⟩, ⟨d3, g3⟩⟩ := hZs.hs
    gi_wp2
    show bodyPostM _ _ _ _ _ _ _ (sets W (w.heap.size + 1) (nextR r))
    have hK' := sets_keeps W (w.heap.size + 1) (nextR r) hK rfl
    have hB' := sets_below (nextR r) hB (show w.heap.size ≤ w.heap.size + 1 by omega)
    refine ⟨by simp, .inl ⟨_, _, rfl, run_takeDeferred hK', ?_⟩⟩
    have hfin := (sets_lies (r := nextR r) hZs).kept (grownBy_putObj' _ D (.deferred none)) (fun r e => by cases e; exact ⟨_, hK', rfl⟩)
    obtain ⟨⟨e0, _⟩, ⟨e1, _⟩, ⟨e2, _⟩, ⟨e3, _⟩⟩ := hfin.hs
    refine ⟨.agg (bytes (nextR r)), ?_, rfl, hB'.trans (belowK_b (w := w) (Nat.le_refl _) _ D _ _ (by omega) hK' rfl rfl)⟩
    simp [results, Tryd.f60, go_sem, e0, e1, e2, e3, bytes]
  case stop =>
    rintro D c pre W hD ⟨k, hk, hp⟩ ⟨⟨rfl, l, i, s, h0, hg, hne, hLs, hZs⟩, hB⟩ hK
    rw [h0] at hp
    have hs := stop_at hp hk hg hne
    rw [hs] at hLs
    obtain ⟨⟨c0, f0⟩, ⟨c1, f1⟩, ⟨c2, f2⟩, ⟨c3, f3⟩⟩ := hLs.hs
    obtain ⟨⟨d0, g0⟩, ⟨d1, g1⟩, ⟨d2, g2⟩, ⟨d3, g3⟩⟩ := hZs.hs
    gi_wp2
    show bodyPostM _ _ _ _ _ _ _ (sets W (w.heap.size + 1) (nextR r))
    have hK' := sets_keeps W (w.heap.size + 1) (nextR r) hK rfl
    have hB' := sets_below (nextR r) hB (show w.heap.size ≤ w.heap.size + 1 by omega)
    refine ⟨by simp, .inl ⟨_, _, rfl, run_takeDeferred hK', ?_⟩⟩
    have hfin := (sets_lies (r := nextR r) hZs).kept (grownBy_putObj' _ D (.deferred none)) (fun r e => by cases e; exact ⟨_, hK', rfl⟩)
    obtain ⟨⟨e0, _⟩, ⟨e1, _⟩, ⟨e2, _⟩, ⟨e3, _⟩⟩ := hfin.hs
    refine ⟨.agg (bytes (nextR r)), ?_, rfl, hB'.trans (belowK_b (w := w) (Nat.le_refl _) _ D _ _ (by omega) hK' rfl rfl)⟩
    simp [results, Tryd.f60, go_sem, e0, e1, e2, e3, bytes]

theorem next_calls (r : Rc) (w : World) : Calls Tryd.prog 60 #[.agg (bytes r)] w fun e W' => e = .returned (.agg (bytes (nextR r))) ∧ Below w.heap.size w W' :=
  (callsIn_wide (n := 3)).1 (next_in Fence.wide 3 trivial trivial trivial rfl (by omega) r w)
end Go.Proofs.YtmkbpdlijfjgkaaDoor.Nxt
