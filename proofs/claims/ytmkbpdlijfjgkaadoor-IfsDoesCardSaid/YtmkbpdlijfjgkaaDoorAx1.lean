/- An abstract heap beside the model's world: what is known of the blocks of our own and of the world at the beginning; the model's operations run over it; it is sound. -/
import Derived.WalkKit
import Derived.Deep.Quiet
namespace Go.AX
set_option linter.unusedSimpArgs false
set_option linter.unusedVariables false
open Go Go.RowKit

/-! ### Lists of pairs -/
def alk {α : Type} : Nat → List (Nat × α) → Option α
  | _, [] => none
  | t, (k, v) :: r => if t = k then some v else alk t r

def aset {α : Type} (t : Nat) (x : α) : List (Nat × α) → List (Nat × α)
  | [] => [(t, x)]
  | (k, v) :: r => if t = k then (k, x) :: r else (k, v) :: aset t x r

def adel {α : Type} (t : Nat) : List (Nat × α) → List (Nat × α)
  | [] => []
  | (k, v) :: r => if t = k then adel t r else (k, v) :: adel t r

theorem alk_cons {α : Type} (t k : Nat) (v : α) (r) : alk t ((k, v) :: r) = if t = k then some v else alk t r := Eq.trans rfl rfl

theorem alk_aset {α : Type} (t : Nat) (x : α) (b : Nat) : ∀ l, alk b (aset t x l) = if b = t then some x else alk b l
  | [] => by simp [aset, alk]
  | (k, v) :: r => by
    by_cases h : t = k
    · subst h; by_cases hb : b = t <;> simp [aset, alk, hb]
    · by_cases hb : b = k
      · subst hb; simp [aset, alk, h, Ne.symm h]
      · simp [aset, alk, h, hb, alk_aset t x b r]

theorem alk_adel {α : Type} (t : Nat) (b : Nat) : ∀ l : List (Nat × α), alk b (adel t l) = if b = t then none else alk b l
  | [] => by simp [adel, alk]
  | (k, v) :: r => by
    by_cases h : t = k
    · subst h
      simp only [adel, if_true, alk_adel t b r, alk]
      by_cases hb : b = t <;> simp [hb]
    · by_cases hb : b = k
      · subst hb; simp [adel, alk, h, Ne.symm h]
      · simp [adel, alk, h, hb, alk_adel t b r]

/-! ### The abstract heap -/
inductive ABlk where
  | cells (cs : List Value) (elem : TypeId) (size : Nat)
  | amap (es : List (Value × Value))
  | obj (o : Obj)

/-- A block that is no row of cells. -/
def isC : Obj → Bool
  | .cells _ _ _ => true
  | _ => false
/-- When each entry of a map was born. -/
def BornOk (en : Array MapEntry) (cl : Nat) : Prop := (∀ e ∈ en.toList, e.born < cl) ∧ (en.toList.map (·.born)).Nodup

structure AH where
  w0 : World
  own : List (Nat × ABlk)

def AH.find (H : AH) (b : Nat) : Option ABlk := alk b H.own
def AH.add (H : AH) (b : Nat) (k : ABlk) : AH := { H with own := (b, k) :: H.own }
def AH.set (H : AH) (b : Nat) (k : ABlk) : AH := { H with own := aset b k H.own }
def AH.del (H : AH) (b : Nat) : AH := { H with own := adel b H.own }
def Fresh (H : AH) (b : Nat) : Prop := H.w0.heap.size ≤ b ∧ H.find b = none
def AH.base (H : AH) : Nat := H.w0.heap.size

def ABlk.ok (w : World) (b : Nat) : ABlk → Prop
  | .cells cs e sz => ∃ arr : Array Value, w.heap[b]? = some (.cells arr e (0, 0)) ∧ arr.size = sz ∧ cs <+: arr.toList
  | .amap es => ∃ (en : Array MapEntry) (cl : Nat), w.heap[b]? = some (.map en cl) ∧ en.toList.map (fun x => (x.key, x.val)) = es ∧ BornOk en cl
  | .obj o => w.heap[b]? = some o ∧ isC o = false

/-- E: other blocks, of which nothing is said but that they stay as they are. -/
structure Sat (E : Nat → Option Obj) (H : AH) (w : World) : Prop where
  below : Below H.w0.heap.size H.w0 w
  known : ∀ b k, H.find b = some k → H.w0.heap.size ≤ b ∧ b < w.heap.size ∧ k.ok w b
  far : ∀ b o, E b = some o → H.w0.heap.size ≤ b ∧ H.find b = none ∧ w.heap[b]? = some o
variable {E : Nat → Option Obj}

/-- What a cell holds, as far as it is known. -/
def AH.rd (H : AH) (a : Addr) : Option Value :=
  match H.find a.block with
  | some (.cells cs _ _) => if a.spot.isSome then none else cs[a.off]?
  | some (.amap _) => none
  | some (.obj _) => none
  | none => if a.block < H.w0.heap.size then H.w0.cell? a else none

def AH.shp (H : AH) (r : Nat) : Option (Option (TypeId × Nat)) :=
  match H.find r with
  | some (.cells _ e sz) => some (some (e, sz))
  | some (.amap _) => some none
  | some (.obj _) => none
  | none => if r < H.w0.heap.size then some (H.w0.shape? r) else none

def AH.frz (H : AH) (a : Addr) : Option Bool :=
  match H.find a.block with
  | some (.obj _) => none
  | some _ => some false
  | none => if a.block < H.w0.heap.size then some (H.w0.frozen? a) else none

def AH.le (H' H : AH) : Prop := H'.w0 = H.w0 ∧ ∀ b k, H'.find b = some k → H.find b = some k

theorem AH.le_refl (H : AH) : H.le H := ⟨rfl, fun _ _ h => h⟩
theorem AH.le_trans {A B C : AH} (h : A.le B) (k : B.le C) : A.le C := ⟨h.1.trans k.1, fun _ _ x => k.2 _ _ (h.2 _ _ x)⟩
theorem AH.le_add {A H : AH} {b : Nat} {k : ABlk} (h : A.le H) (hf : H.find b = none) : A.le (H.add b k) :=
  ⟨h.1, fun b' k' x => by
    have := h.2 _ _ x
    simp only [AH.find, AH.add, alk_cons]
    by_cases e : b' = b
    · subst e; rw [hf] at this; cases this
    · simp [e]; exact this⟩
theorem AH.le_del {H : AH} {b : Nat} : (H.del b).le H :=
  ⟨rfl, fun b' k' x => by
    simp only [AH.find, AH.del, alk_adel] at x
    by_cases e : b' = b
    · simp [e] at x
    · rw [if_neg e] at x; exact x⟩

theorem Sat.mono {H H' : AH} {w : World} (h : Sat E H w) (hl : H'.le H) : Sat E H' w :=
  ⟨hl.1 ▸ h.below, fun b k x => hl.1 ▸ h.known b k (hl.2 _ _ x), fun b o x => by
    obtain ⟨h1, h2, h3⟩ := h.far b o x
    refine ⟨hl.1 ▸ h1, ?_, h3⟩
    cases hf : H'.find b with
    | none => rfl
    | some k => rw [hl.2 _ _ hf] at h2; cases h2⟩

theorem find_add (H : AH) (b b' : Nat) (k : ABlk) : (H.add b k).find b' = if b' = b then some k else H.find b' := rfl
theorem find_set (H : AH) (b b' : Nat) (k : ABlk) : (H.set b k).find b' = if b' = b then some k else H.find b' := alk_aset _ _ _ _
theorem find_del (H : AH) (b b' : Nat) : (H.del b).find b' = if b' = b then none else H.find b' := alk_adel _ _ _
@[simp] theorem w0_add (H : AH) (b : Nat) (k : ABlk) : (H.add b k).w0 = H.w0 := rfl
@[simp] theorem w0_set (H : AH) (b : Nat) (k : ABlk) : (H.set b k).w0 = H.w0 := rfl
@[simp] theorem w0_del (H : AH) (b : Nat) : (H.del b).w0 = H.w0 := rfl

theorem Sat.start (w : World) : Sat (fun _ => none) ⟨w, []⟩ w := ⟨Below.refl _ _, fun b k h => (by cases h), fun b o h => (by cases h)⟩

/-! ### Reading -/
theorem Sat.rd {H : AH} {w : World} (h : Sat E H w) {a : Addr} {v : Value} (hr : H.rd a = some v) : w.cell? a = some v := by
  unfold AH.rd at hr
  split at hr
  · rename_i cs e sz hf
    obtain ⟨_, _, arr, ha, _, hp⟩ := h.known _ _ hf
    split at hr
    · cases hr
    · rename_i hs
      simp only [World.cell?, ha, hs]
      obtain ⟨t, ht⟩ := hp
      have h1 : arr.toList[a.off]? = some v := by
        rw [← ht, List.getElem?_append]
        have : a.off < cs.length := by
          rcases Nat.lt_or_ge a.off cs.length with h | h
          · exact h
          · rw [List.getElem?_eq_none h] at hr; cases hr
        simp [this]; simpa [this] using hr
      simpa using h1
  · cases hr
  · cases hr
  · split at hr
    · rename_i hlt; rw [h.below.cell hlt]; exact hr
    · cases hr

theorem Sat.shp {H : AH} {w : World} (h : Sat E H w) {r : Nat} {s : Option (TypeId × Nat)} (hr : H.shp r = some s) : w.shape? r = s := by
  unfold AH.shp at hr
  split at hr
  · rename_i cs e sz hf
    obtain ⟨_, _, arr, ha, hs, hp⟩ := h.known _ _ hf
    simp only [Option.some.injEq] at hr
    rw [← hr]; simp [World.shape?, ha, hs]
  · rename_i es hf
    obtain ⟨_, _, en, cl, ha, _⟩ := h.known _ _ hf
    simp only [Option.some.injEq] at hr
    rw [← hr]; simp [World.shape?, ha]
  · cases hr
  · split at hr
    · rename_i hlt
      have := h.below.block r hlt
      simp only [Option.some.injEq] at hr
      rw [← hr]; simp [World.shape?, this]
    · cases hr

theorem Sat.frz {H : AH} {w : World} (h : Sat E H w) {a : Addr} {s : Bool} (hr : H.frz a = some s) : w.frozen? a = s := by
  unfold AH.frz at hr
  split at hr
  · cases hr
  · rename_i k hno hf
    simp only [Option.some.injEq] at hr
    subst hr
    obtain ⟨_, _, hk⟩ := h.known _ _ hf
    cases k with
    | obj o => exact absurd rfl (hno o)
    | cells cs e sz =>
      obtain ⟨arr, ha, hs, hp⟩ := hk
      simp [World.frozen?, ha]
    | amap es =>
      obtain ⟨en, cl, ha, _⟩ := hk
      simp [World.frozen?, ha]
  · split at hr
    · rename_i hlt
      simp only [Option.some.injEq] at hr
      rw [← hr]; exact h.below.frozen hlt
    · cases hr

/-- One cell written: within what is known, or right behind it. -/
def wr (cs : List Value) (off : Nat) (v : Value) : List Value := if off < cs.length then cs.set off v else cs ++ [v]

theorem wr_lt {cs : List Value} {off : Nat} {v : Value} (h : off < cs.length) : wr cs off v = cs.set off v := by simp [wr, h]

theorem prefix_set {cs l : List Value} {off : Nat} {v : Value} (h : cs <+: l) (h1 : off ≤ cs.length) (h2 : off < l.length) : wr cs off v <+: l.set off v := by
  obtain ⟨t, rfl⟩ := h
  unfold wr
  split
  · rename_i hlt
    exact ⟨t, by rw [List.set_append]; simp [hlt]⟩
  · rename_i hge
    have e : off = cs.length := by omega
    subst e
    cases t with
    | nil => simp at h2
    | cons x t => exact ⟨t, by rw [List.set_append]; simp⟩

/-! ### The model's operations over the abstract heap -/
def scal : Value → Bool
  | .agg _ | .tuple _ => false
  | _ => true

/-- The entries of a map block, in the model's own form. -/
def MapIs (es : List (Value × Value)) (en : Array MapEntry) (cl : Nat) : Prop := en.toList.map (fun x => (x.key, x.val)) = es ∧ BornOk en cl

def arun (P : Program) {α : Type} : Sem α → AH → (α → AH → Prop) → Prop
  | .pure a, H, K => K a H
  | .load _ a k, H, K => match H.rd a with
    | some v => arun P (k v) H K
    | none => False
  | .store _ a v k, H, K => scal v = true ∧ a.spot = none ∧ match H.find a.block with
    | some (.cells cs e sz) => a.off < sz ∧ a.off ≤ cs.length ∧ arun P k (H.set a.block (.cells (wr cs a.off v) e sz)) K
    | _ => False
  | .new (.cells c e fr) k, H, K => fr = (0, 0) ∧ ∀ b, Fresh H b → arun P (k b) (H.add b (.cells c.toList e c.size)) K
  | .new (.map en cl) k, H, K => en = #[] ∧ ∀ b, Fresh H b → arun P (k b) (H.add b (.amap [])) K
  | .new (.mapIter m s n l) k, H, K => ∀ b, Fresh H b → arun P (k b) (H.add b (.obj (.mapIter m s n l))) K
  | .new _ _, _, _ => False
  | .shape r k, H, K => match H.shp r with
    | some s => arun P (k s) H K
    | none => False
  | .freeze _ _ _, _, _ => False
  | .frozen a k, H, K => match H.frz a with
    | some s => arun P (k s) H K
    | none => False
  | .getObj r k, H, K =>
    match H.find r with
    | some (.amap es) => ∀ en cl, MapIs es en cl → arun P (k (.map en cl)) H K
    | some (.obj o) => arun P (k o) H K
    | some (.cells _ _ _) => False
    | none => if r < H.w0.heap.size then match H.w0.heap[r]? with
        | some (.map en cl) => arun P (k (.map en cl)) H K
        | _ => False
      else False
  | .setObj r o k, H, K => match H.find r, o with
    | some (.amap _), .map en cl => BornOk en cl ∧ arun P k (H.set r (.amap (en.toList.map fun x => (x.key, x.val)))) K
    | some (.obj _), o => isC o = false ∧ arun P k (H.set r (.obj o)) K
    | _, _ => False
  | .choose q k, H, K => if q.forced then arun P (k 0) H K else ∀ t, arun P (k (q.cut t)) H K
  | .sys _ _, _, _ => False
  | .program k, H, K => arun P (k P) H K
  | .mark _ k, H, K => arun P k H K
  | .halt _, _, _ => False

theorem Sat.setCells {H : AH} {w : World} (h : Sat E H w) {a : Addr} {v : Value} {cs : List Value} {e : TypeId} {sz : Nat} (hf : H.find a.block = some (.cells cs e sz))
    (hs : a.spot = none) (h1 : a.off < sz) (h2 : a.off ≤ cs.length) : Sat E (H.set a.block (.cells (wr cs a.off v) e sz)) (w.setCell a v) ∧ (w.cell? a).isSome ∧ w.frozen? a = false := by
  obtain ⟨hb, hlt, arr, ha, hsz, hp⟩ := h.known _ _ hf
  refine ⟨⟨h.below.setCell hb v, fun b k hk => ?_, fun b o ho => ?_⟩, ?_, ?_⟩
  case refine_2 =>
    obtain ⟨q1, q2, q3⟩ := h.far b o ho
    have hne : b ≠ a.block := fun e => by subst e; rw [hf] at q2; cases q2
    exact ⟨q1, by rw [find_set, if_neg hne]; exact q2, by rw [Below.heap_setCell _ _ _ _ hne]; exact q3⟩
  · rw [find_set] at hk
    split at hk
    · rename_i e1
      subst e1
      cases hk
      refine ⟨hb, by simpa using hlt, arr.set a.off v (by omega), ?_, by simp [hsz], ?_⟩
      · simp [World.setCell, Array.getElem?_modify, ha, hs, Array.setIfInBounds, hsz, h1]
      · simpa using prefix_set (v := v) hp h2 (by simp; omega)
    · rename_i hne
      obtain ⟨q1, q2, q3⟩ := h.known _ _ hk
      refine ⟨q1, by simpa using q2, ?_⟩
      have hbk : (w.setCell a v).heap[b]? = w.heap[b]? := Below.heap_setCell _ _ _ _ hne
      cases k <;> simp only [ABlk.ok, hbk] at q3 ⊢ <;> exact q3
  · simp [World.cell?, ha, hs, hsz, h1]
  · simp [World.frozen?, ha]

theorem Sat.alloc {H : AH} {w : World} (h : Sat E H w) {o : Obj} {k : ABlk} (hk : ∀ w' : World, w'.heap[w.heap.size]? = some o → k.ok w' w.heap.size) : Fresh H w.heap.size ∧ Sat E (H.add w.heap.size k) (w.alloc o) := by
  have hfn : H.find w.heap.size = none := by
    cases hf : H.find w.heap.size with
    | none => rfl
    | some k => have := (h.known _ _ hf).2.1; omega
  refine ⟨⟨h.below.size, hfn⟩, ⟨h.below.alloc h.below.size o, fun b k' hk' => ?_, fun b o' ho => ?_⟩⟩
  case refine_2 =>
    obtain ⟨q1, q2, q3⟩ := h.far b o' ho
    have hlt : b < w.heap.size := (Array.getElem?_eq_some_iff.1 q3).1
    exact ⟨q1, by rw [find_add, if_neg (by omega)]; exact q2, by rw [Below.heap_alloc _ _ _ hlt]; exact q3⟩
  rw [find_add] at hk'
  split at hk'
  · rename_i e1; subst e1; cases hk'
    exact ⟨h.below.size, by simp, hk _ (by show (w.heap.push o)[w.heap.size]? = some o; simp)⟩
  · rename_i hne
    obtain ⟨q1, q2, q3⟩ := h.known _ _ hk'
    refine ⟨q1, by simp; omega, ?_⟩
    have hbk : (w.alloc o).heap[b]? = w.heap[b]? := Below.heap_alloc _ _ _ q2
    cases k' <;> simp only [ABlk.ok, hbk] at q3 ⊢ <;> exact q3

theorem Sat.setMap {H : AH} {w : World} (h : Sat E H w) {r : Nat} {en : Array MapEntry} {cl : Nat} {es : List (Value × Value)} (hf : H.find r = some (.amap es)) (hb : BornOk en cl) :
    Sat E (H.set r (.amap (en.toList.map fun x => (x.key, x.val)))) { w with heap := w.heap.setIfInBounds r (.map en cl) } := by
  obtain ⟨hr, hlt, en0, cl0, ha, _⟩ := h.known _ _ hf
  refine ⟨⟨h.below.os, h.below.tape, h.below.output, by simpa using h.below.size, fun k hk => ?_⟩, fun b k hk => ?_, fun b o ho => ?_⟩
  case refine_3 =>
    obtain ⟨q1, q2, q3⟩ := h.far b o ho
    have hne : b ≠ r := fun e => by subst e; rw [hf] at q2; cases q2
    exact ⟨q1, by rw [find_set, if_neg hne]; exact q2, by
      show (w.heap.setIfInBounds r _)[b]? = _
      rw [Array.getElem?_setIfInBounds_ne (Ne.symm hne)]; exact q3⟩
  · have hne : r ≠ k := by have : k < H.w0.heap.size := hk; omega
    show (w.heap.setIfInBounds r _)[k]? = _
    rw [Array.getElem?_setIfInBounds_ne hne]
    exact h.below.block k hk
  · rw [find_set] at hk
    split at hk
    · rename_i e1; subst e1; cases hk
      exact ⟨hr, by simpa using hlt, en, cl, by simp [hlt], rfl, hb⟩
    · rename_i hne
      obtain ⟨q1, q2, q3⟩ := h.known _ _ hk
      refine ⟨q1, by simpa using q2, ?_⟩
      have hbk : ({ w with heap := w.heap.setIfInBounds r (.map en cl) } : World).heap[b]? = w.heap[b]? := Array.getElem?_setIfInBounds_ne (Ne.symm hne)
      cases k <;> simp only [ABlk.ok, hbk] at q3 ⊢ <;> exact q3

theorem Sat.setO {H : AH} {w : World} (h : Sat E H w) {r : Nat} {o o' : Obj} (hf : H.find r = some (.obj o)) (hb : isC o' = false) :
    Sat E (H.set r (.obj o')) { w with heap := w.heap.setIfInBounds r o' } := by
  obtain ⟨hr, hlt, ha, _⟩ := h.known _ _ hf
  refine ⟨⟨h.below.os, h.below.tape, h.below.output, by simpa using h.below.size, fun k hk => ?_⟩, fun b k hk => ?_, fun b o ho => ?_⟩
  case refine_3 =>
    obtain ⟨q1, q2, q3⟩ := h.far b o ho
    have hne : b ≠ r := fun e => by subst e; rw [hf] at q2; cases q2
    exact ⟨q1, by rw [find_set, if_neg hne]; exact q2, by
      show (w.heap.setIfInBounds r _)[b]? = _
      rw [Array.getElem?_setIfInBounds_ne (Ne.symm hne)]; exact q3⟩
  · have hne : r ≠ k := by have : k < H.w0.heap.size := hk; omega
    show (w.heap.setIfInBounds r _)[k]? = _
    rw [Array.getElem?_setIfInBounds_ne hne]
    exact h.below.block k hk
  · rw [find_set] at hk
    split at hk
    · rename_i e1; subst e1; cases hk
      exact ⟨hr, by simpa using hlt, by simp [hlt], hb⟩
    · rename_i hne
      obtain ⟨q1, q2, q3⟩ := h.known _ _ hk
      refine ⟨q1, by simpa using q2, ?_⟩
      have hbk : ({ w with heap := w.heap.setIfInBounds r o' } : World).heap[b]? = w.heap[b]? := Array.getElem?_setIfInBounds_ne (Ne.symm hne)
      cases k <;> simp only [ABlk.ok, hbk] at q3 ⊢ <;> exact q3

theorem Sat.drew {H : AH} {w : World} (h : Sat E H w) : Sat E H { w with drawn := w.drawn + 1 } :=
  ⟨h.below.drew, fun b k hk => (by obtain ⟨a, b, c⟩ := h.known _ _ hk; exact ⟨a, b, by cases k <;> exact c⟩), fun b o ho => h.far b o ho⟩

theorem arun_sound (P : Program) {α : Type} (s : Sem α) : ∀ (H : AH) (K : α → AH → Prop) (w : World), arun P s H K → Sat E H w → ∃ a w' H', s.run P w = .ok a w' ∧ Sat E H' w' ∧ K a H' := by
  induction s with
  | pure a => intro H K w h hs; exact ⟨a, w, H, rfl, hs, h⟩
  | load m a k ih =>
    intro H K w h hs
    simp only [arun] at h
    split at h
    · rename_i v hv
      obtain ⟨x, w', H', h1, h2⟩ := ih v H K w h hs
      exact ⟨x, w', H', by simp only [Sem.run, hs.rd hv]; exact h1, h2⟩
    · exact h.elim
  | store m a v k ih =>
    intro H K w h hs
    simp only [arun] at h
    obtain ⟨hv, hsp, h⟩ := h
    split at h
    · rename_i cs e sz hf
      obtain ⟨h1, h2, h3⟩ := h
      obtain ⟨q1, q2, q3⟩ := hs.setCells (v := v) hf hsp h1 h2
      obtain ⟨x, w', H', h4, h5⟩ := ih _ K _ h3 q1
      obtain ⟨u, hu⟩ := Option.isSome_iff_exists.1 q2
      refine ⟨x, w', H', ?_, h5⟩
      cases v <;> first | (simp [scal] at hv; done) | (simp only [Sem.run, hu, q3]; exact h4)
    · exact h.elim
  | new o k ih =>
    intro H K w h hs
    cases o with
    | cells c e fr =>
      simp only [arun] at h
      obtain ⟨rfl, h⟩ := h
      obtain ⟨q1, q2⟩ := hs.alloc (o := .cells c e (0, 0)) (k := .cells c.toList e c.size) (fun w' hw' => ⟨c, hw', rfl, List.prefix_refl _⟩)
      obtain ⟨x, w', H', h4, h5⟩ := ih _ _ K _ (h _ q1) q2
      exact ⟨x, w', H', by simp only [Sem.run]; exact h4, h5⟩
    | map en cl =>
      simp only [arun] at h
      obtain ⟨rfl, h⟩ := h
      obtain ⟨q1, q2⟩ := hs.alloc (o := .map #[] cl) (k := .amap []) (fun w' hw' => ⟨#[], cl, hw', rfl, by simp [BornOk]⟩)
      obtain ⟨x, w', H', h4, h5⟩ := ih _ _ K _ (h _ q1) q2
      exact ⟨x, w', H', by simp only [Sem.run]; exact h4, h5⟩
    | mapIter m s n l =>
      simp only [arun] at h
      obtain ⟨q1, q2⟩ := hs.alloc (o := .mapIter m s n l) (k := .obj (.mapIter m s n l)) (fun w' hw' => ⟨hw', rfl⟩)
      obtain ⟨x, w', H', h4, h5⟩ := ih _ _ K _ (h _ q1) q2
      exact ⟨x, w', H', by simp only [Sem.run]; exact h4, h5⟩
    | _ => simp only [arun] at h
  | shape r k ih =>
    intro H K w h hs
    simp only [arun] at h
    split at h
    · rename_i s he
      obtain ⟨x, w', H', h4, h5⟩ := ih _ _ K _ h hs
      exact ⟨x, w', H', by simp only [Sem.run, hs.shp he]; exact h4, h5⟩
    · exact h.elim
  | freeze a n k ih => intro H K w h hs; simp only [arun] at h
  | frozen a k ih =>
    intro H K w h hs
    simp only [arun] at h
    split at h
    · rename_i s he
      obtain ⟨x, w', H', h4, h5⟩ := ih _ _ K _ h hs
      exact ⟨x, w', H', by simp only [Sem.run, hs.frz he]; exact h4, h5⟩
    · exact h.elim
  | getObj r k ih =>
    intro H K w h hs
    simp only [arun] at h
    split at h
    · rename_i es he
      obtain ⟨_, _, en, cl, ha, h1, h2⟩ := hs.known _ _ he
      obtain ⟨x, w', H', h4, h5⟩ := ih _ _ K _ (h en cl ⟨h1, h2⟩) hs
      exact ⟨x, w', H', by simp only [Sem.run, ha]; exact h4, h5⟩
    · rename_i o he
      obtain ⟨_, _, ha, hc⟩ := hs.known _ _ he
      obtain ⟨x, w', H', h4, h5⟩ := ih _ _ K _ h hs
      exact ⟨x, w', H', by simp only [Sem.run, ha]; cases o <;> first | (simp [isC] at hc; done) | exact h4, h5⟩
    · exact h.elim
    · split at h
      · rename_i hlt
        split at h
        · rename_i en cl he
          obtain ⟨x, w', H', h4, h5⟩ := ih _ _ K _ h hs
          exact ⟨x, w', H', by simp only [Sem.run, hs.below.block r hlt, he]; exact h4, h5⟩
        · exact h.elim
      · exact h.elim
  | setObj r o k ih =>
    intro H K w h hs
    simp only [arun] at h
    split at h
    · rename_i es en cl hf
      obtain ⟨_, _, en0, cl0, ha, _⟩ := hs.known _ _ hf
      obtain ⟨x, w', H', h4, h5⟩ := ih _ K _ h.2 (hs.setMap hf h.1)
      exact ⟨x, w', H', by simp only [Sem.run, ha]; exact h4, h5⟩
    · rename_i o1 hf
      obtain ⟨_, _, ha, hc⟩ := hs.known _ _ hf
      obtain ⟨x, w', H', h4, h5⟩ := ih _ K _ h.2 (hs.setO hf h.1)
      exact ⟨x, w', H', by simp only [Sem.run, ha]; cases o1 <;> first | (simp [isC] at hc; done) | exact h4, h5⟩
    · exact h.elim
  | choose q k ih =>
    intro H K w h hs
    simp only [arun] at h
    split at h
    · rename_i hq
      obtain ⟨x, w', H', h4, h5⟩ := ih _ _ K _ h hs
      exact ⟨x, w', H', by simp only [Sem.run, hq, if_true]; exact h4, h5⟩
    · rename_i hq
      obtain ⟨x, w', H', h4, h5⟩ := ih _ _ K _ (h (w.tape w.drawn q)) hs.drew
      exact ⟨x, w', H', by simp only [Sem.run, hq]; exact h4, h5⟩
  | sys c k ih => intro H K w h hs; simp only [arun] at h
  | program k ih =>
    intro H K w h hs
    simp only [arun] at h
    obtain ⟨x, w', H', h4, h5⟩ := ih _ _ K _ h hs
    exact ⟨x, w', H', by simp only [Sem.run]; exact h4, h5⟩
  | mark m k ih =>
    intro H K w h hs
    simp only [arun] at h
    obtain ⟨x, w', H', h4, h5⟩ := ih _ K _ h hs
    exact ⟨x, w', H', by simp only [Sem.run]; exact h4, h5⟩
  | halt x => intro H K w h hs; simp only [arun] at h

theorem arun_bind (P : Program) {α β : Type} (x : Sem α) (f : α → Sem β) : ∀ (H : AH) (K : β → AH → Prop), arun P (x >>= f) H K = arun P x H (fun a H' => arun P (f a) H' K) := by
  show ∀ (H : AH) (K : β → AH → Prop), arun P (x.bind f) H K = _
  induction x with
  | pure a => intro H K; rfl
  | load m a k ih => intro H K; simp only [Sem.bind, arun, ih]
  | store m a v k ih => intro H K; simp only [Sem.bind, arun, ih]
  | new o k ih => intro H K; cases o <;> simp only [Sem.bind, arun, ih]
  | shape r k ih => intro H K; simp only [Sem.bind, arun, ih]
  | freeze a n k ih => intro H K; simp only [Sem.bind, arun]
  | frozen a k ih => intro H K; simp only [Sem.bind, arun, ih]
  | getObj r k ih => intro H K; simp only [Sem.bind, arun, ih]
  | setObj r o k ih => intro H K; simp only [Sem.bind, arun, ih]
  | choose q k ih => intro H K; simp only [Sem.bind, arun, ih]
  | sys c k ih => intro H K; simp only [Sem.bind, arun]
  | program k ih => intro H K; simp only [Sem.bind, arun, ih]
  | mark m k ih => intro H K; simp only [Sem.bind, arun, ih]
  | halt h => intro H K; simp only [Sem.bind, arun]

theorem arun_mono (P : Program) {α : Type} (s : Sem α) : ∀ (H : AH) (K K' : α → AH → Prop), (∀ a H, K a H → K' a H) → arun P s H K → arun P s H K' := by
  induction s with
  | pure a => intro H K K' hk h; exact hk _ _ h
  | load m a k ih => intro H K K' hk h; simp only [arun] at h ⊢; split <;> simp_all only; exact ih _ _ _ _ hk h
  | store m a v k ih =>
    intro H K K' hk h; simp only [arun] at h ⊢
    obtain ⟨a1, a2, h⟩ := h
    refine ⟨a1, a2, ?_⟩
    split at h
    · rename_i cs e sz hf; exact ⟨h.1, h.2.1, ih _ _ _ hk h.2.2⟩
    · exact h.elim
  | new o k ih =>
    intro H K K' hk h
    cases o <;> simp only [arun] at h ⊢
    · exact ⟨h.1, fun b hb => ih _ _ _ _ hk (h.2 b hb)⟩
    · exact ⟨h.1, fun b hb => ih _ _ _ _ hk (h.2 b hb)⟩
    · exact fun b hb => ih _ _ _ _ hk (h b hb)
  | shape r k ih => intro H K K' hk h; simp only [arun] at h ⊢; split <;> simp_all only; exact ih _ _ _ _ hk h
  | freeze a n k ih => intro H K K' hk h; exact h
  | frozen a k ih => intro H K K' hk h; simp only [arun] at h ⊢; split <;> simp_all only; exact ih _ _ _ _ hk h
  | getObj r k ih =>
    intro H K K' hk h; simp only [arun] at h ⊢
    split at h
    · rename_i es he; exact fun en cl hm => ih _ _ _ _ hk (h en cl hm)
    · exact ih _ _ _ _ hk h
    · exact h.elim
    · split at h
      · rename_i hlt
        simp only [hlt, if_true]
        split at h
        · exact ih _ _ _ _ hk h
        · exact h.elim
      · exact h.elim
  | setObj r o k ih =>
    intro H K K' hk h; simp only [arun] at h ⊢
    split at h
    · rename_i es en cl hf; exact ⟨h.1, ih _ _ _ hk h.2⟩
    · exact ⟨h.1, ih _ _ _ hk h.2⟩
    · exact h.elim
  | choose q k ih =>
    intro H K K' hk h; simp only [arun] at h ⊢
    split at h
    · rename_i hq; simp only [hq, if_true]; exact ih _ _ _ _ hk h
    · rename_i hq; simp only [hq]; exact fun t => ih _ _ _ _ hk (h t)
  | sys c k ih => intro H K K' hk h; exact h
  | program k ih => intro H K K' hk h; exact ih _ _ _ _ hk h
  | mark m k ih => intro H K K' hk h; exact ih _ _ _ hk h
  | halt x => intro H K K' hk h; exact h

/-! ### Reading alone: one answer, the world stays -/
def qrun (P : Program) {α : Type} : Sem α → AH → Option α
  | .pure a, _ => some a
  | .load _ a k, H => match H.rd a with
    | some v => qrun P (k v) H
    | none => none
  | .shape r k, H => match H.shp r with
    | some s => qrun P (k s) H
    | none => none
  | .frozen a k, H => match H.frz a with
    | some s => qrun P (k s) H
    | none => none
  | .program k, H => qrun P (k P) H
  | .mark _ k, H => qrun P k H
  | _, _ => none

theorem qrun_sound (P : Program) {α : Type} (s : Sem α) : ∀ (H : AH) (a : α) (w : World), qrun P s H = some a → Sat E H w → s.run P w = .ok a w := by
  induction s with
  | pure a => intro H x w h hs; simp only [qrun, Option.some.injEq] at h; subst h; rfl
  | load m a k ih =>
    intro H x w h hs
    simp only [qrun] at h
    split at h
    · rename_i v hv; simp only [Sem.run, hs.rd hv]; exact ih _ _ _ _ h hs
    · cases h
  | shape r k ih =>
    intro H x w h hs
    simp only [qrun] at h
    split at h
    · rename_i v hv; simp only [Sem.run, hs.shp hv]; exact ih _ _ _ _ h hs
    · cases h
  | frozen r k ih =>
    intro H x w h hs
    simp only [qrun] at h
    split at h
    · rename_i v hv; simp only [Sem.run, hs.frz hv]; exact ih _ _ _ _ h hs
    · cases h
  | program k ih => intro H x w h hs; simp only [qrun] at h; simp only [Sem.run]; exact ih _ _ _ _ h hs
  | mark m k ih => intro H x w h hs; simp only [qrun] at h; simp only [Sem.run]; exact ih _ _ _ h hs
  | _ => intro H x w h hs; simp only [qrun] at h; cases h

theorem qrun_bind (P : Program) {α β : Type} (x : Sem α) (f : α → Sem β) : ∀ (H : AH), qrun P (x >>= f) H = (qrun P x H).bind fun a => qrun P (f a) H := by
  show ∀ (H : AH), qrun P (x.bind f) H = _
  induction x with
  | pure a => intro H; rfl
  | load m a k ih => intro H; simp only [Sem.bind, qrun]; split <;> simp [ih]
  | shape m k ih => intro H; simp only [Sem.bind, qrun]; split <;> simp [ih]
  | frozen m k ih => intro H; simp only [Sem.bind, qrun]; split <;> simp [ih]
  | program k ih => intro H; simp only [Sem.bind, qrun, ih]
  | mark m k ih => intro H; simp only [Sem.bind, qrun, ih]
  | _ => intro H; simp [Sem.bind, qrun]

end Go.AX
