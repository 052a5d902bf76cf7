/- Texts of mine, one behind another. -/
import Derived.WalkKit
import Derived.Deep.Quiet
/- An abstract heap beside the model's world: what is known of the blocks of our own and of the world at the beginning; the model's operations run over it; it is sound. -/
namespace Go.AX
set_option linter.unusedSimpArgs false
set_option linter.unusedVariables false
open Go Go.RowKit

def alk {α : Type} : Nat → List (Nat × α) → Option α
  | _, [] => none
  | t, (k, v) :: r => if t = k then some v else alk t r

def aset {α : Type} (t : Nat) (x : α) : List (Nat × α) → List (Nat × α)
  | [] => [(t, x)]
  | (k, v) :: r => if t = k then (k, x) :: r else (k, v) :: aset t x r

def adel {α : Type} (t : Nat) : List (Nat × α) → List (Nat × α)
  | [] => []
  | (k, v) :: r => if t = k then adel t r else (k, v) :: adel t r

theorem alk_cons {α : Type} (t k : Nat) (v : α) (r) : alk t ((k, v) :: r) = if t = k then some v else alk t r := Eq.trans rfl rfl

theorem alk_aset {α : Type} (t : Nat) (x : α) (b : Nat) : ∀ l, alk b (aset t x l) = if b = t then some x else alk b l
  | [] => by simp [aset, alk]
  | (k, v) :: r => by
    by_cases h : t = k
    · subst h; by_cases hb : b = t <;> simp [aset, alk, hb]
    · by_cases hb : b = k
      · subst hb; simp [aset, alk, h, Ne.symm h]
      · simp [aset, alk, h, hb, alk_aset t x b r]

theorem alk_adel {α : Type} (t : Nat) (b : Nat) : ∀ l : List (Nat × α), alk b (adel t l) = if b = t then none else alk b l
  | [] => by simp [adel, alk]
  | (k, v) :: r => by
    by_cases h : t = k
    · subst h
      simp only [adel, if_true, alk_adel t b r, alk]
      by_cases hb : b = t <;> simp [hb]
    · by_cases hb : b = k
      · subst hb; simp [adel, alk, h, Ne.symm h]
      · simp [adel, alk, h, hb, alk_adel t b r]

inductive ABlk where
  | cells (cs : List Value) (elem : TypeId) (size : Nat)
  | amap (es : List (Value × Value))
  | obj (o : Obj)

def isC : Obj → Bool
  | .cells _ _ _ => true
  | _ => false
def BornOk (en : Array MapEntry) (cl : Nat) : Prop := (∀ e ∈ en.toList, e.born < cl) ∧ (en.toList.map (·.born)).Nodup

structure AH where
  w0 : World
  own : List (Nat × ABlk)

def AH.find (H : AH) (b : Nat) : Option ABlk := alk b H.own
def AH.add (H : AH) (b : Nat) (k : ABlk) : AH := { H with own := (b, k) :: H.own }
def AH.set (H : AH) (b : Nat) (k : ABlk) : AH := { H with own := aset b k H.own }
def AH.del (H : AH) (b : Nat) : AH := { H with own := adel b H.own }
def Fresh (H : AH) (b : Nat) : Prop := H.w0.heap.size ≤ b ∧ H.find b = none
def AH.base (H : AH) : Nat := H.w0.heap.size

def ABlk.ok (w : World) (b : Nat) : ABlk → Prop
  | .cells cs e sz => ∃ arr : Array Value, w.heap[b]? = some (.cells arr e (0, 0)) ∧ arr.size = sz ∧ cs <+: arr.toList
  | .amap es => ∃ (en : Array MapEntry) (cl : Nat), w.heap[b]? = some (.map en cl) ∧ en.toList.map (fun x => (x.key, x.val)) = es ∧ BornOk en cl
  | .obj o => w.heap[b]? = some o ∧ isC o = false

structure Sat (E : Nat → Option Obj) (H : AH) (w : World) : Prop where
  below : Below H.w0.heap.size H.w0 w
  known : ∀ b k, H.find b = some k → H.w0.heap.size ≤ b ∧ b < w.heap.size ∧ k.ok w b
  far : ∀ b o, E b = some o → H.w0.heap.size ≤ b ∧ H.find b = none ∧ w.heap[b]? = some o
variable {E : Nat → Option Obj}

def AH.rd (H : AH) (a : Addr) : Option Value :=
  match H.find a.block with
  | some (.cells cs _ _) => if a.spot.isSome then none else cs[a.off]?
  | some (.amap _) => none
  | some (.obj _) => none
  | none => if a.block < H.w0.heap.size then H.w0.cell? a else none

def AH.shp (H : AH) (r : Nat) : Option (Option (TypeId × Nat)) :=
  match H.find r with
  | some (.cells _ e sz) => some (some (e, sz))
  | some (.amap _) => some none
  | some (.obj _) => none
  | none => if r < H.w0.heap.size then some (H.w0.shape? r) else none

def AH.frz (H : AH) (a : Addr) : Option Bool :=
  match H.find a.block with
  | some (.obj _) => none
  | some _ => some false
  | none => if a.block < H.w0.heap.size then some (H.w0.frozen? a) else none

def AH.le (H' H : AH) : Prop := H'.w0 = H.w0 ∧ ∀ b k, H'.find b = some k → H.find b = some k

theorem AH.le_refl (H : AH) : H.le H := ⟨rfl, fun _ _ h => h⟩
theorem AH.le_trans {A B C : AH} (h : A.le B) (k : B.le C) : A.le C := ⟨h.1.trans k.1, fun _ _ x => k.2 _ _ (h.2 _ _ x)⟩
theorem AH.le_add {A H : AH} {b : Nat} {k : ABlk} (h : A.le H) (hf : H.find b = none) : A.le (H.add b k) :=
  ⟨h.1, fun b' k' x => by
    have := h.2 _ _ x
    simp only [AH.find, AH.add, alk_cons]
    by_cases e : b' = b
    · subst e; rw [hf] at this; cases this
    · simp [e]; exact this⟩
theorem AH.le_del {H : AH} {b : Nat} : (H.del b).le H :=
  ⟨rfl, fun b' k' x => by
    simp only [AH.find, AH.del, alk_adel] at x
    by_cases e : b' = b
    · simp [e] at x
    · rw [if_neg e] at x; exact x⟩

theorem Sat.mono {H H' : AH} {w : World} (h : Sat E H w) (hl : H'.le H) : Sat E H' w :=
  ⟨hl.1 ▸ h.below, fun b k x => hl.1 ▸ h.known b k (hl.2 _ _ x), fun b o x => by
    obtain ⟨h1, h2, h3⟩ := h.far b o x
    refine ⟨hl.1 ▸ h1, ?_, h3⟩
    cases hf : H'.find b with
    | none => rfl
    | some k => rw [hl.2 _ _ hf] at h2; cases h2⟩

theorem find_add (H : AH) (b b' : Nat) (k : ABlk) : (H.add b k).find b' = if b' = b then some k else H.find b' := rfl
theorem find_set (H : AH) (b b' : Nat) (k : ABlk) : (H.set b k).find b' = if b' = b then some k else H.find b' := alk_aset _ _ _ _
theorem find_del (H : AH) (b b' : Nat) : (H.del b).find b' = if b' = b then none else H.find b' := alk_adel _ _ _
@[simp] theorem w0_add (H : AH) (b : Nat) (k : ABlk) : (H.add b k).w0 = H.w0 := rfl
@[simp] theorem w0_set (H : AH) (b : Nat) (k : ABlk) : (H.set b k).w0 = H.w0 := rfl
@[simp] theorem w0_del (H : AH) (b : Nat) : (H.del b).w0 = H.w0 := rfl

theorem Sat.start (w : World) : Sat (fun _ => none) ⟨w, []⟩ w := ⟨Below.refl _ _, fun b k h => (by cases h), fun b o h => (by cases h)⟩

theorem Sat.rd {H : AH} {w : World} (h : Sat E H w) {a : Addr} {v : Value} (hr : H.rd a = some v) : w.cell? a = some v := by
  unfold AH.rd at hr
  split at hr
  · rename_i cs e sz hf
    obtain ⟨_, _, arr, ha, _, hp⟩ := h.known _ _ hf
    split at hr
    · cases hr
    · rename_i hs
      simp only [World.cell?, ha, hs]
      obtain ⟨t, ht⟩ := hp
      have h1 : arr.toList[a.off]? = some v := by
        rw [← ht, List.getElem?_append]
        have : a.off < cs.length := by
          rcases Nat.lt_or_ge a.off cs.length with h | h
          · exact h
          · rw [List.getElem?_eq_none h] at hr; cases hr
        simp [this]; simpa [this] using hr
      simpa using h1
  · cases hr
  · cases hr
  · split at hr
    · rename_i hlt; rw [h.below.cell hlt]; exact hr
    · cases hr

theorem Sat.shp {H : AH} {w : World} (h : Sat E H w) {r : Nat} {s : Option (TypeId × Nat)} (hr : H.shp r = some s) : w.shape? r = s := by
  unfold AH.shp at hr
  split at hr
  · rename_i cs e sz hf
    obtain ⟨_, _, arr, ha, hs, hp⟩ := h.known _ _ hf
    simp only [Option.some.injEq] at hr
    rw [← hr]; simp [World.shape?, ha, hs]
  · rename_i es hf
    obtain ⟨_, _, en, cl, ha, _⟩ := h.known _ _ hf
    simp only [Option.some.injEq] at hr
    rw [← hr]; simp [World.shape?, ha]
  · cases hr
  · split at hr
    · rename_i hlt
      have := h.below.block r hlt
      simp only [Option.some.injEq] at hr
      rw [← hr]; simp [World.shape?, this]
    · cases hr

theorem Sat.frz {H : AH} {w : World} (h : Sat E H w) {a : Addr} {s : Bool} (hr : H.frz a = some s) : w.frozen? a = s := by
  unfold AH.frz at hr
  split at hr
  · cases hr
  · rename_i k hno hf
    simp only [Option.some.injEq] at hr
    subst hr
    obtain ⟨_, _, hk⟩ := h.known _ _ hf
    cases k with
    | obj o => exact absurd rfl (hno o)
    | cells cs e sz =>
      obtain ⟨arr, ha, hs, hp⟩ := hk
      simp [World.frozen?, ha]
    | amap es =>
      obtain ⟨en, cl, ha, _⟩ := hk
      simp [World.frozen?, ha]
  · split at hr
    · rename_i hlt
      simp only [Option.some.injEq] at hr
      rw [← hr]; exact h.below.frozen hlt
    · cases hr

def wr (cs : List Value) (off : Nat) (v : Value) : List Value := if off < cs.length then cs.set off v else cs ++ [v]

theorem wr_lt {cs : List Value} {off : Nat} {v : Value} (h : off < cs.length) : wr cs off v = cs.set off v := by simp [wr, h]

theorem prefix_set {cs l : List Value} {off : Nat} {v : Value} (h : cs <+: l) (h1 : off ≤ cs.length) (h2 : off < l.length) : wr cs off v <+: l.set off v := by
  obtain ⟨t, rfl⟩ := h
  unfold wr
  split
  · rename_i hlt
    exact ⟨t, by rw [List.set_append]; simp [hlt]⟩
  · rename_i hge
    have e : off = cs.length := by omega
    subst e
    cases t with
    | nil => simp at h2
    | cons x t => exact ⟨t, by rw [List.set_append]; simp⟩

def scal : Value → Bool
  | .agg _ | .tuple _ => false
  | _ => true

def MapIs (es : List (Value × Value)) (en : Array MapEntry) (cl : Nat) : Prop := en.toList.map (fun x => (x.key, x.val)) = es ∧ BornOk en cl

def arun (P : Program) {α : Type} : Sem α → AH → (α → AH → Prop) → Prop
  | .pure a, H, K => K a H
  | .load _ a k, H, K => match H.rd a with
    | some v => arun P (k v) H K
    | none => False
  | .store _ a v k, H, K => scal v = true ∧ a.spot = none ∧ match H.find a.block with
    | some (.cells cs e sz) => a.off < sz ∧ a.off ≤ cs.length ∧ arun P k (H.set a.block (.cells (wr cs a.off v) e sz)) K
    | _ => False
  | .new (.cells c e fr) k, H, K => fr = (0, 0) ∧ ∀ b, Fresh H b → arun P (k b) (H.add b (.cells c.toList e c.size)) K
  | .new (.map en cl) k, H, K => en = #[] ∧ ∀ b, Fresh H b → arun P (k b) (H.add b (.amap [])) K
  | .new (.mapIter m s n l) k, H, K => ∀ b, Fresh H b → arun P (k b) (H.add b (.obj (.mapIter m s n l))) K
  | .new _ _, _, _ => False
  | .shape r k, H, K => match H.shp r with
    | some s => arun P (k s) H K
    | none => False
  | .freeze _ _ _, _, _ => False
  | .frozen a k, H, K => match H.frz a with
    | some s => arun P (k s) H K
    | none => False
  | .getObj r k, H, K =>
    match H.find r with
    | some (.amap es) => ∀ en cl, MapIs es en cl → arun P (k (.map en cl)) H K
    | some (.obj o) => arun P (k o) H K
    | some (.cells _ _ _) => False
    | none => if r < H.w0.heap.size then match H.w0.heap[r]? with
        | some (.map en cl) => arun P (k (.map en cl)) H K
        | _ => False
      else False
  | .setObj r o k, H, K => match H.find r, o with
    | some (.amap _), .map en cl => BornOk en cl ∧ arun P k (H.set r (.amap (en.toList.map fun x => (x.key, x.val)))) K
    | some (.obj _), o => isC o = false ∧ arun P k (H.set r (.obj o)) K
    | _, _ => False
  | .choose q k, H, K => if q.forced then arun P (k 0) H K else ∀ t, arun P (k (q.cut t)) H K
  | .sys _ _, _, _ => False
  | .program k, H, K => arun P (k P) H K
  | .mark _ k, H, K => arun P k H K
  | .halt _, _, _ => False

theorem Sat.setCells {H : AH} {w : World} (h : Sat E H w) {a : Addr} {v : Value} {cs : List Value} {e : TypeId} {sz : Nat} (hf : H.find a.block = some (.cells cs e sz))
    (hs : a.spot = none) (h1 : a.off < sz) (h2 : a.off ≤ cs.length) : Sat E (H.set a.block (.cells (wr cs a.off v) e sz)) (w.setCell a v) ∧ (w.cell? a).isSome ∧ w.frozen? a = false := by
  obtain ⟨hb, hlt, arr, ha, hsz, hp⟩ := h.known _ _ hf
  refine ⟨⟨h.below.setCell hb v, fun b k hk => ?_, fun b o ho => ?_⟩, ?_, ?_⟩
  case refine_2 =>
    obtain ⟨q1, q2, q3⟩ := h.far b o ho
    have hne : b ≠ a.block := fun e => by subst e; rw [hf] at q2; cases q2
    exact ⟨q1, by rw [find_set, if_neg hne]; exact q2, by rw [Below.heap_setCell _ _ _ _ hne]; exact q3⟩
  · rw [find_set] at hk
    split at hk
    · rename_i e1
      subst e1
      cases hk
      refine ⟨hb, by simpa using hlt, arr.set a.off v (by omega), ?_, by simp [hsz], ?_⟩
      · simp [World.setCell, Array.getElem?_modify, ha, hs, Array.setIfInBounds, hsz, h1]
      · simpa using prefix_set (v := v) hp h2 (by simp; omega)
    · rename_i hne
      obtain ⟨q1, q2, q3⟩ := h.known _ _ hk
      refine ⟨q1, by simpa using q2, ?_⟩
      have hbk : (w.setCell a v).heap[b]? = w.heap[b]? := Below.heap_setCell _ _ _ _ hne
      cases k <;> simp only [ABlk.ok, hbk] at q3 ⊢ <;> exact q3
  · simp [World.cell?, ha, hs, hsz, h1]
  · simp [World.frozen?, ha]

theorem Sat.alloc {H : AH} {w : World} (h : Sat E H w) {o : Obj} {k : ABlk} (hk : ∀ w' : World, w'.heap[w.heap.size]? = some o → k.ok w' w.heap.size) : Fresh H w.heap.size ∧ Sat E (H.add w.heap.size k) (w.alloc o) := by
  have hfn : H.find w.heap.size = none := by
    cases hf : H.find w.heap.size with
    | none => rfl
    | some k => have := (h.known _ _ hf).2.1; omega
  refine ⟨⟨h.below.size, hfn⟩, ⟨h.below.alloc h.below.size o, fun b k' hk' => ?_, fun b o' ho => ?_⟩⟩
  case refine_2 =>
    obtain ⟨q1, q2, q3⟩ := h.far b o' ho
    have hlt : b < w.heap.size := (Array.getElem?_eq_some_iff.1 q3).1
    exact ⟨q1, by rw [find_add, if_neg (by omega)]; exact q2, by rw [Below.heap_alloc _ _ _ hlt]; exact q3⟩
  rw [find_add] at hk'
  split at hk'
  · rename_i e1; subst e1; cases hk'
    exact ⟨h.below.size, by simp, hk _ (by show (w.heap.push o)[w.heap.size]? = some o; simp)⟩
  · rename_i hne
    obtain ⟨q1, q2, q3⟩ := h.known _ _ hk'
    refine ⟨q1, by simp; omega, ?_⟩
    have hbk : (w.alloc o).heap[b]? = w.heap[b]? := Below.heap_alloc _ _ _ q2
    cases k' <;> simp only [ABlk.ok, hbk] at q3 ⊢ <;> exact q3

theorem Sat.setMap {H : AH} {w : World} (h : Sat E H w) {r : Nat} {en : Array MapEntry} {cl : Nat} {es : List (Value × Value)} (hf : H.find r = some (.amap es)) (hb : BornOk en cl) :
    Sat E (H.set r (.amap (en.toList.map fun x => (x.key, x.val)))) { w with heap := w.heap.setIfInBounds r (.map en cl) } := by
  obtain ⟨hr, hlt, en0, cl0, ha, _⟩ := h.known _ _ hf
  refine ⟨⟨h.below.os, h.below.tape, h.below.output, by simpa using h.below.size, fun k hk => ?_⟩, fun b k hk => ?_, fun b o ho => ?_⟩
  case refine_3 =>
    obtain ⟨q1, q2, q3⟩ := h.far b o ho
    have hne : b ≠ r := fun e => by subst e; rw [hf] at q2; cases q2
    exact ⟨q1, by rw [find_set, if_neg hne]; exact q2, by
      show (w.heap.setIfInBounds r _)[b]? = _
      rw [Array.getElem?_setIfInBounds_ne (Ne.symm hne)]; exact q3⟩
  · have hne : r ≠ k := by have : k < H.w0.heap.size := hk; omega
    show (w.heap.setIfInBounds r _)[k]? = _
    rw [Array.getElem?_setIfInBounds_ne hne]
    exact h.below.block k hk
  · rw [find_set] at hk
    split at hk
    · rename_i e1; subst e1; cases hk
      exact ⟨hr, by simpa using hlt, en, cl, by simp [hlt], rfl, hb⟩
    · rename_i hne
      obtain ⟨q1, q2, q3⟩ := h.known _ _ hk
      refine ⟨q1, by simpa using q2, ?_⟩
      have hbk : ({ w with heap := w.heap.setIfInBounds r (.map en cl) } : World).heap[b]? = w.heap[b]? := Array.getElem?_setIfInBounds_ne (Ne.symm hne)
      cases k <;> simp only [ABlk.ok, hbk] at q3 ⊢ <;> exact q3

theorem Sat.setO {H : AH} {w : World} (h : Sat E H w) {r : Nat} {o o' : Obj} (hf : H.find r = some (.obj o)) (hb : isC o' = false) :
    Sat E (H.set r (.obj o')) { w with heap := w.heap.setIfInBounds r o' } := by
  obtain ⟨hr, hlt, ha, _⟩ := h.known _ _ hf
  refine ⟨⟨h.below.os, h.below.tape, h.below.output, by simpa using h.below.size, fun k hk => ?_⟩, fun b k hk => ?_, fun b o ho => ?_⟩
  case refine_3 =>
    obtain ⟨q1, q2, q3⟩ := h.far b o ho
    have hne : b ≠ r := fun e => by subst e; rw [hf] at q2; cases q2
    exact ⟨q1, by rw [find_set, if_neg hne]; exact q2, by
      show (w.heap.setIfInBounds r _)[b]? = _
      rw [Array.getElem?_setIfInBounds_ne (Ne.symm hne)]; exact q3⟩
  · have hne : r ≠ k := by have : k < H.w0.heap.size := hk; omega
    show (w.heap.setIfInBounds r _)[k]? = _
    rw [Array.getElem?_setIfInBounds_ne hne]
    exact h.below.block k hk
  · rw [find_set] at hk
    split at hk
    · rename_i e1; subst e1; cases hk
      exact ⟨hr, by simpa using hlt, by simp [hlt], hb⟩
    · rename_i hne
      obtain ⟨q1, q2, q3⟩ := h.known _ _ hk
      refine ⟨q1, by simpa using q2, ?_⟩
      have hbk : ({ w with heap := w.heap.setIfInBounds r o' } : World).heap[b]? = w.heap[b]? := Array.getElem?_setIfInBounds_ne (Ne.symm hne)
      cases k <;> simp only [ABlk.ok, hbk] at q3 ⊢ <;> exact q3

theorem Sat.drew {H : AH} {w : World} (h : Sat E H w) : Sat E H { w with drawn := w.drawn + 1 } :=
  ⟨h.below.drew, fun b k hk => (by obtain ⟨a, b, c⟩ := h.known _ _ hk; exact ⟨a, b, by cases k <;> exact c⟩), fun b o ho => h.far b o ho⟩

theorem arun_sound (P : Program) {α : Type} (s : Sem α) : ∀ (H : AH) (K : α → AH → Prop) (w : World), arun P s H K → Sat E H w → ∃ a w' H', s.run P w = .ok a w' ∧ Sat E H' w' ∧ K a H' := by
  induction s with
  | pure a => intro H K w h hs; exact ⟨a, w, H, rfl, hs, h⟩
  | load m a k ih =>
    intro H K w h hs
    simp only [arun] at h
    split at h
    · rename_i v hv
      obtain ⟨x, w', H', h1, h2⟩ := ih v H K w h hs
      exact ⟨x, w', H', by simp only [Sem.run, hs.rd hv]; exact h1, h2⟩
    · exact h.elim
  | store m a v k ih =>
    intro H K w h hs
    simp only [arun] at h
    obtain ⟨hv, hsp, h⟩ := h
    split at h
    · rename_i cs e sz hf
      obtain ⟨h1, h2, h3⟩ := h
      obtain ⟨q1, q2, q3⟩ := hs.setCells (v := v) hf hsp h1 h2
      obtain ⟨x, w', H', h4, h5⟩ := ih _ K _ h3 q1
      obtain ⟨u, hu⟩ := Option.isSome_iff_exists.1 q2
      refine ⟨x, w', H', ?_, h5⟩
      cases v <;> first | (simp [scal] at hv; done) | (simp only [Sem.run, hu, q3]; exact h4)
    · exact h.elim
  | new o k ih =>
    intro H K w h hs
    cases o with
    | cells c e fr =>
      simp only [arun] at h
      obtain ⟨rfl, h⟩ := h
      obtain ⟨q1, q2⟩ := hs.alloc (o := .cells c e (0, 0)) (k := .cells c.toList e c.size) (fun w' hw' => ⟨c, hw', rfl, List.prefix_refl _⟩)
      obtain ⟨x, w', H', h4, h5⟩ := ih _ _ K _ (h _ q1) q2
      exact ⟨x, w', H', by simp only [Sem.run]; exact h4, h5⟩
    | map en cl =>
      simp only [arun] at h
      obtain ⟨rfl, h⟩ := h
      obtain ⟨q1, q2⟩ := hs.alloc (o := .map #[] cl) (k := .amap []) (fun w' hw' => ⟨#[], cl, hw', rfl, by simp [BornOk]⟩)
      obtain ⟨x, w', H', h4, h5⟩ := ih _ _ K _ (h _ q1) q2
      exact ⟨x, w', H', by simp only [Sem.run]; exact h4, h5⟩
    | mapIter m s n l =>
      simp only [arun] at h
      obtain ⟨q1, q2⟩ := hs.alloc (o := .mapIter m s n l) (k := .obj (.mapIter m s n l)) (fun w' hw' => ⟨hw', rfl⟩)
      obtain ⟨x, w', H', h4, h5⟩ := ih _ _ K _ (h _ q1) q2
      exact ⟨x, w', H', by simp only [Sem.run]; exact h4, h5⟩
    | _ => simp only [arun] at h
  | shape r k ih =>
    intro H K w h hs
    simp only [arun] at h
    split at h
    · rename_i s he
      obtain ⟨x, w', H', h4, h5⟩ := ih _ _ K _ h hs
      exact ⟨x, w', H', by simp only [Sem.run, hs.shp he]; exact h4, h5⟩
    · exact h.elim
  | freeze a n k ih => intro H K w h hs; simp only [arun] at h
  | frozen a k ih =>
    intro H K w h hs
    simp only [arun] at h
    split at h
    · rename_i s he
      obtain ⟨x, w', H', h4, h5⟩ := ih _ _ K _ h hs
      exact ⟨x, w', H', by simp only [Sem.run, hs.frz he]; exact h4, h5⟩
    · exact h.elim
  | getObj r k ih =>
    intro H K w h hs
    simp only [arun] at h
    split at h
    · rename_i es he
      obtain ⟨_, _, en, cl, ha, h1, h2⟩ := hs.known _ _ he
      obtain ⟨x, w', H', h4, h5⟩ := ih _ _ K _ (h en cl ⟨h1, h2⟩) hs
      exact ⟨x, w', H', by simp only [Sem.run, ha]; exact h4, h5⟩
    · rename_i o he
      obtain ⟨_, _, ha, hc⟩ := hs.known _ _ he
      obtain ⟨x, w', H', h4, h5⟩ := ih _ _ K _ h hs
      exact ⟨x, w', H', by simp only [Sem.run, ha]; cases o <;> first | (simp [isC] at hc; done) | exact h4, h5⟩
    · exact h.elim
    · split at h
      · rename_i hlt
        split at h
        · rename_i en cl he
          obtain ⟨x, w', H', h4, h5⟩ := ih _ _ K _ h hs
          exact ⟨x, w', H', by simp only [Sem.run, hs.below.block r hlt, he]; exact h4, h5⟩
        · exact h.elim
      · exact h.elim
  | setObj r o k ih =>
    intro H K w h hs
    simp only [arun] at h
    split at h
    · rename_i es en cl hf
      obtain ⟨_, _, en0, cl0, ha, _⟩ := hs.known _ _ hf
      obtain ⟨x, w', H', h4, h5⟩ := ih _ K _ h.2 (hs.setMap hf h.1)
      exact ⟨x, w', H', by simp only [Sem.run, ha]; exact h4, h5⟩
    · rename_i o1 hf
      obtain ⟨_, _, ha, hc⟩ := hs.known _ _ hf
      obtain ⟨x, w', H', h4, h5⟩ := ih _ K _ h.2 (hs.setO hf h.1)
      exact ⟨x, w', H', by simp only [Sem.run, ha]; cases o1 <;> first | (simp [isC] at hc; done) | exact h4, h5⟩
    · exact h.elim
  | choose q k ih =>
    intro H K w h hs
    simp only [arun] at h
    split at h
    · rename_i hq
      obtain ⟨x, w', H', h4, h5⟩ := ih _ _ K _ h hs
      exact ⟨x, w', H', by simp only [Sem.run, hq, if_true]; exact h4, h5⟩
    · rename_i hq
      obtain ⟨x, w', H', h4, h5⟩ := ih _ _ K _ (h (w.tape w.drawn q)) hs.drew
      exact ⟨x, w', H', by simp only [Sem.run, hq]; exact h4, h5⟩
  | sys c k ih => intro H K w h hs; simp only [arun] at h
  | program k ih =>
    intro H K w h hs
    simp only [arun] at h
    obtain ⟨x, w', H', h4, h5⟩ := ih _ _ K _ h hs
    exact ⟨x, w', H', by simp only [Sem.run]; exact h4, h5⟩
  | mark m k ih =>
    intro H K w h hs
    simp only [arun] at h
    obtain ⟨x, w', H', h4, h5⟩ := ih _ K _ h hs
    exact ⟨x, w', H', by simp only [Sem.run]; exact h4, h5⟩
  | halt x => intro H K w h hs; simp only [arun] at h

theorem arun_bind (P : Program) {α β : Type} (x : Sem α) (f : α → Sem β) : ∀ (H : AH) (K : β → AH → Prop), arun P (x >>= f) H K = arun P x H (fun a H' => arun P (f a) H' K) := by
  show ∀ (H : AH) (K : β → AH → Prop), arun P (x.bind f) H K = _
  induction x with
  | pure a => intro H K; rfl
  | load m a k ih => intro H K; simp only [Sem.bind, arun, ih]
  | store m a v k ih => intro H K; simp only [Sem.bind, arun, ih]
  | new o k ih => intro H K; cases o <;> simp only [Sem.bind, arun, ih]
  | shape r k ih => intro H K; simp only [Sem.bind, arun, ih]
  | freeze a n k ih => intro H K; simp only [Sem.bind, arun]
  | frozen a k ih => intro H K; simp only [Sem.bind, arun, ih]
  | getObj r k ih => intro H K; simp only [Sem.bind, arun, ih]
  | setObj r o k ih => intro H K; simp only [Sem.bind, arun, ih]
  | choose q k ih => intro H K; simp only [Sem.bind, arun, ih]
  | sys c k ih => intro H K; simp only [Sem.bind, arun]
  | program k ih => intro H K; simp only [Sem.bind, arun, ih]
  | mark m k ih => intro H K; simp only [Sem.bind, arun, ih]
  | halt h => intro H K; simp only [Sem.bind, arun]

theorem arun_mono (P : Program) {α : Type} (s : Sem α) : ∀ (H : AH) (K K' : α → AH → Prop), (∀ a H, K a H → K' a H) → arun P s H K → arun P s H K' := by
  induction s with
  | pure a => intro H K K' hk h; exact hk _ _ h
  | load m a k ih => intro H K K' hk h; simp only [arun] at h ⊢; split <;> simp_all only; exact ih _ _ _ _ hk h
  | store m a v k ih =>
    intro H K K' hk h; simp only [arun] at h ⊢
    obtain ⟨a1, a2, h⟩ := h
    refine ⟨a1, a2, ?_⟩
    split at h
    · rename_i cs e sz hf; exact ⟨h.1, h.2.1, ih _ _ _ hk h.2.2⟩
    · exact h.elim
  | new o k ih =>
    intro H K K' hk h
    cases o <;> simp only [arun] at h ⊢
    · exact ⟨h.1, fun b hb => ih _ _ _ _ hk (h.2 b hb)⟩
    · exact ⟨h.1, fun b hb => ih _ _ _ _ hk (h.2 b hb)⟩
    · exact fun b hb => ih _ _ _ _ hk (h b hb)
  | shape r k ih => intro H K K' hk h; simp only [arun] at h ⊢; split <;> simp_all only; exact ih _ _ _ _ hk h
  | freeze a n k ih => intro H K K' hk h; exact h
  | frozen a k ih => intro H K K' hk h; simp only [arun] at h ⊢; split <;> simp_all only; exact ih _ _ _ _ hk h
  | getObj r k ih =>
    intro H K K' hk h; simp only [arun] at h ⊢
    split at h
    · rename_i es he; exact fun en cl hm => ih _ _ _ _ hk (h en cl hm)
    · exact ih _ _ _ _ hk h
    · exact h.elim
    · split at h
      · rename_i hlt
        simp only [hlt, if_true]
        split at h
        · exact ih _ _ _ _ hk h
        · exact h.elim
      · exact h.elim
  | setObj r o k ih =>
    intro H K K' hk h; simp only [arun] at h ⊢
    split at h
    · rename_i es en cl hf; exact ⟨h.1, ih _ _ _ hk h.2⟩
    · exact ⟨h.1, ih _ _ _ hk h.2⟩
    · exact h.elim
  | choose q k ih =>
    intro H K K' hk h; simp only [arun] at h ⊢
    split at h
    · rename_i hq; simp only [hq, if_true]; exact ih _ _ _ _ hk h
    · rename_i hq; simp only [hq]; exact fun t => ih _ _ _ _ hk (h t)
  | sys c k ih => intro H K K' hk h; exact h
  | program k ih => intro H K K' hk h; exact ih _ _ _ _ hk h
  | mark m k ih => intro H K K' hk h; exact ih _ _ _ hk h
  | halt x => intro H K K' hk h; exact h

def qrun (P : Program) {α : Type} : Sem α → AH → Option α
  | .pure a, _ => some a
  | .load _ a k, H => match H.rd a with
    | some v => qrun P (k v) H
    | none => none
  | .shape r k, H => match H.shp r with
    | some s => qrun P (k s) H
    | none => none
  | .frozen a k, H => match H.frz a with
    | some s => qrun P (k s) H
    | none => none
  | .program k, H => qrun P (k P) H
  | .mark _ k, H => qrun P k H
  | _, _ => none

theorem qrun_sound (P : Program) {α : Type} (s : Sem α) : ∀ (H : AH) (a : α) (w : World), qrun P s H = some a → Sat E H w → s.run P w = .ok a w := by
  induction s with
  | pure a => intro H x w h hs; simp only [qrun, Option.some.injEq] at h; subst h; rfl
  | load m a k ih =>
    intro H x w h hs
    simp only [qrun] at h
    split at h
    · rename_i v hv; simp only [Sem.run, hs.rd hv]; exact ih _ _ _ _ h hs
    · cases h
  | shape r k ih =>
    intro H x w h hs
    simp only [qrun] at h
    split at h
    · rename_i v hv; simp only [Sem.run, hs.shp hv]; exact ih _ _ _ _ h hs
    · cases h
  | frozen r k ih =>
    intro H x w h hs
    simp only [qrun] at h
    split at h
    · rename_i v hv; simp only [Sem.run, hs.frz hv]; exact ih _ _ _ _ h hs
    · cases h
  | program k ih => intro H x w h hs; simp only [qrun] at h; simp only [Sem.run]; exact ih _ _ _ _ h hs
  | mark m k ih => intro H x w h hs; simp only [qrun] at h; simp only [Sem.run]; exact ih _ _ _ h hs
  | _ => intro H x w h hs; simp only [qrun] at h; cases h

theorem qrun_bind (P : Program) {α β : Type} (x : Sem α) (f : α → Sem β) : ∀ (H : AH), qrun P (x >>= f) H = (qrun P x H).bind fun a => qrun P (f a) H := by
  show ∀ (H : AH), qrun P (x.bind f) H = _
  induction x with
  | pure a => intro H; rfl
  | load m a k ih => intro H; simp only [Sem.bind, qrun]; split <;> simp [ih]
  | shape m k ih => intro H; simp only [Sem.bind, qrun]; split <;> simp [ih]
  | frozen m k ih => intro H; simp only [Sem.bind, qrun]; split <;> simp [ih]
  | program k ih => intro H; simp only [Sem.bind, qrun, ih]
  | mark m k ih => intro H; simp only [Sem.bind, qrun, ih]
  | _ => intro H; simp [Sem.bind, qrun]

end Go.AX

/- Frames, regions, code and calls over the abstract heap: a condition that is computed from the code, and is sound. -/
namespace Go.AX
set_option linter.unusedSimpArgs false
set_option linter.unusedVariables false
open Go Go.RowKit

structure Lk {α : Type} (k : α) : Type where
  mk ::

abbrev Fr := List (Nat × Value)

structure FrOk (n : Nat) (fr : Fr) (a : Act) : Prop where
  defers : a.defers = []
  size : a.tmps.size = n
  vals : ∀ t v, alk t fr = some v → a.tmps[t]? = some v

def evd (fr : Fr) : Operand → Value
  | .tmp t => (alk t fr).getD undef
  | .const v => v
  | .global g => .pointer (some ⟨g, 0, none⟩)
  | .func f => .func (.func f) #[] #[]

def putf (dst : Option Tmp) (v : Value) (fr : Fr) : Fr :=
  match dst with
  | some d => (d, v) :: fr
  | none => fr

def kn1 (fr : Fr) : Operand → Bool
  | .tmp t => (alk t fr).isSome
  | _ => true

def isSel : Op → Bool
  | .select _ _ => true
  | _ => false

def dok (n : Nat) : Option Tmp → Bool
  | some d => decide (d < n)
  | none => true

def okOp (n : Nat) (fr : Fr) (o : Oper) : Bool := o.op.operands.toList.all (kn1 fr) && !isSel o.op && dok n o.dst

theorem FrOk.put {n : Nat} {fr : Fr} {a : Act} (h : FrOk n fr a) {dst : Option Tmp} (hd : dok n dst = true) (v : Value) : FrOk n (putf dst v fr) (a.put dst v) := by
  cases dst with
  | none => exact h
  | some d =>
    have hd' : d < n := by simpa [dok] using hd
    refine ⟨h.defers, by simp [Act.put, h.size], fun t u hu => ?_⟩
    simp only [putf, alk_cons] at hu
    split at hu
    · rename_i e; subst e; cases hu
      simp [Act.put, h.size, hd']
    · rename_i hne
      simp only [Act.put]
      rw [Array.getElem?_setIfInBounds_ne (Ne.symm hne)]
      exact h.vals t u hu

theorem FrOk.eval {n : Nat} {fr : Fr} {a : Act} (h : FrOk n fr a) {x : Operand} (hx : kn1 fr x = true) : a.eval x = evd fr x := by
  cases x with
  | tmp t =>
    simp only [kn1] at hx
    obtain ⟨v, hv⟩ := Option.isSome_iff_exists.1 hx
    simp only [Act.eval, evd, hv, Option.getD_some]
    have := h.vals t v hv
    simp [Array.getD_eq_getD_getElem?, this]
  | _ => rfl

theorem FrOk.exec {n : Nat} {fr : Fr} {a : Act} (h : FrOk n fr a) {o : Oper} (ho : okOp n fr o = true) : execOp a.eval o = execOp (evd fr) o := by
  simp only [okOp, Bool.and_eq_true, List.all_eq_true] at ho
  refine execOp_congr o (fun cs b e => ?_) (fun x hx => h.eval (ho.1.1 x (by simpa using hx)))
  have := ho.1.2
  simp [e, isSel] at this

def ACalls (P : Program) (f : FuncId) (args : Array Value) (H : AH) (K : Value → AH → Prop) (_t : Lk (K, H, f) := .mk) : Prop :=
  ∀ E w, Sat E H w → Calls P f args w (fun e w' => ∃ v H', e = .returned v ∧ Sat E H' w' ∧ K v H')

def QCalls (P : Program) (f : FuncId) (args : Array Value) (H : AH) (K : Value → Prop) (_t : Lk (K, H, f) := .mk) : Prop := ∃ v, ACalls P f args H (fun v' H' => v' = v ∧ H.le H') ∧ K v

def AC (q : Bool) (P : Program) (f : FuncId) (args : Array Value) (H : AH) (K : Value → AH → Prop) (_t : Lk (K, H, f) := .mk) : Prop :=
  match q with
  | true => QCalls P f args H (fun v => K v H)
  | false => ACalls P f args H K

def anext (q : Bool) (P : Program) (K : Value → AH → Prop) : Next → AH → Prop
  | .value v, H => K v H
  | .skip, H => K undef H
  | .enter f args, H => AC q P f args H K
  | _, _ => False

def ASem (P : Program) (s : Sem Next) (H : AH) (K : Value → AH → Prop) (_t : Lk (K, H) := .mk) : Prop :=
  ∀ E w, Sat E H w → ∃ nx w' H', s.run P w = .ok nx w' ∧ Sat E H' w' ∧ anext false P K nx H'

theorem ASem.of_arun {P : Program} {s : Sem Next} {H : AH} {K : Value → AH → Prop} (h : arun P s H (anext false P K)) : ASem P s H K :=
  fun _ w hs => arun_sound P s H _ w h hs

theorem ACalls.mono {P : Program} {f : FuncId} {args : Array Value} {H : AH} {K K' : Value → AH → Prop} (h : ACalls P f args H K) (hk : ∀ v H', K v H' → K' v H') : ACalls P f args H K' :=
  fun E w hs => (h E w hs).mono fun e w' ⟨v, H', h1, h2, h3⟩ => ⟨v, H', h1, h2, hk _ _ h3⟩

theorem ACalls.weak {P : Program} {f : FuncId} {args : Array Value} {H H1 : AH} {K : Value → AH → Prop} (hl : H1.le H) (h : ACalls P f args H1 K) : ACalls P f args H K :=
  fun E w hs => h E w (hs.mono hl)

inductive Cls where
  | read | write | other
  deriving DecidableEq

def bcls : Builtin → Cls
  | .len | .cap | .min | .max => .read
  | _ => .other

def cls : Op → Cls
  | .alloc _ | .box .. | .buildSlice .. | .store .. | .makeSlice .. | .makeMap .. => .write
  | .call { callee := .builtin b, .. } => bcls b
  | .lookup .. | .mapUpdate .. | .mapEntry .. | .entryStore .. | .insert .. | .range .. | .next .. | .entry _ => .other
  | _ => .read

def aop (q : Bool) (P : Program) (fr : Fr) (H : AH) (o : Oper) (K : Value → AH → Prop) : Prop :=
  match cls o.op with
  | .read => match qrun P (execOp (evd fr) o) H with
    | some nx => anext q P K nx H
    | none => False
  | .write => q = false ∧ arun P (execOp (evd fr) o) H (anext false P K)
  | .other => q = false ∧ ASem P (execOp (evd fr) o) H K

theorem aop_sem {P : Program} {fr : Fr} {H : AH} {o : Oper} {K : Value → AH → Prop} (h : aop false P fr H o K) : ASem P (execOp (evd fr) o) H K := by
  unfold aop at h
  split at h
  · split at h
    · rename_i nx hn; exact fun _ w hs => ⟨nx, w, H, qrun_sound P _ H nx w hn hs, hs, h⟩
    · exact h.elim
  · exact .of_arun h.2
  · exact h.2

theorem ASem.wp {P : Program} {n : Nat} {fr : Fr} {H : AH} {o : Oper} {K : Value → AH → Prop} {a : Act} {w : World} {next : Act → World → Prop} {Q : Exit → Act → World → Prop} {E : Nat → Option Obj}
    (h : ASem P (execOp (evd fr) o) H K) (hf : FrOk n fr a) (ho : okOp n fr o = true) (hs : Sat E H w)
    (hk : ∀ v H' w', K v H' → Sat E H' w' → next (a.put o.dst v) w') : o.wp P a w next Q := by
  obtain ⟨nx, w', H', hr, hs', hn⟩ := h E w hs
  unfold Oper.wp
  rw [hf.exec ho, hr]
  cases nx <;> simp only [anext] at hn <;> try exact hn.elim
  · exact hk _ _ _ hn hs'
  · exact hk _ _ _ hn hs'
  · refine (hn E w' hs').mono ?_
    rintro e w'' ⟨v, H2, rfl, h2, h3⟩
    exact hk _ _ _ h3 h2

def aguard (ds : List (Option Tmp)) (fr : Fr) (o : Oper) : Option Bool :=
  match o.guard with
  | none => some true
  | some (j, want) => match ds[j]?.bind id with
    | none => some false
    | some d => match alk d fr with
      | none => none
      | some (.bool b) => some (b == want)
      | some _ => some false

theorem aguard_sound {n : Nat} {fr : Fr} {a : Act} {ops : Array Oper} {o : Oper} {g : Bool} (hf : FrOk n fr a) (h : aguard (ops.toList.map (·.dst)) fr o = some g) : Region.wanted o (yielded ops a.tmps) = g := by
  unfold aguard at h
  unfold Region.wanted
  split at h
  · rename_i hg; rw [hg]; simpa using h
  · rename_i j want hg
    rw [hg]
    simp only [List.getElem?_map] at h
    have e : ((ops[j]?).bind (·.dst)) = ((ops.toList[j]?.map (·.dst)).bind id) := by
      cases hj : ops[j]? <;> simp [hj]
    simp only [yielded, e]
    split at h
    · rename_i hd; rw [hd]; simpa using h
    · rename_i d hd
      rw [hd]
      split at h
      · cases h
      · rename_i b hb
        have := hf.vals _ _ hb
        simp only [Option.bind_some, this, Option.some.injEq] at h ⊢
        rw [← h]; cases b <;> cases want <;> rfl
      · rename_i v hv hb
        have := hf.vals _ _ hb
        simp only [Option.bind_some, this]
        simp only [Option.some.injEq] at h
        subst h
        cases v <;> first | rfl | (rename_i b; exact absurd rfl (hv b))

def gov (ds : List (Option Tmp)) (fr : Fr) (o : Oper) (g : Bool) : Fr :=
  match o.guard with
  | none => fr
  | some (j, want) => match ds[j]?.bind id with
    | none => fr
    | some d => match alk d fr with
      | some (.bool _) => (d, .bool (if g = true then want else !want)) :: fr
      | _ => fr

theorem gov_same {ds : List (Option Tmp)} {fr : Fr} {o : Oper} {g : Bool} (h : aguard ds fr o = some g) (t : Nat) : alk t (gov ds fr o g) = alk t fr := by
  unfold aguard at h
  unfold gov
  cases hg : o.guard with
  | none => rfl
  | some jw =>
    obtain ⟨j, want⟩ := jw
    simp only [hg] at h ⊢
    cases hd : ds[j]?.bind id with
    | none => rfl
    | some d =>
      simp only [hd] at h ⊢
      cases hb : alk d fr with
      | none => rfl
      | some b =>
        simp only [hb] at h ⊢
        cases b <;> try rfl
        rename_i b
        simp only [Option.some.injEq] at h
        simp only [alk_cons]
        split
        · rename_i e; subst e
          rw [hb]
          subst h
          cases b <;> cases want <;> rfl
        · rfl

def aops (q : Bool) (P : Program) (n : Nat) (ds : List (Option Tmp)) : List Oper → Fr → AH → (Fr → AH → Prop) → Prop
  | [], fr, H, K => K fr H
  | o :: rest, fr, H, K =>
    match aguard ds fr o with
    | none => False
    | some g => (g = true → okOp n (gov ds fr o true) o = true ∧ aop q P (gov ds fr o true) H o (fun v H' => aops q P n ds rest (putf o.dst v (gov ds fr o true)) H' K)) ∧
      (g = false → dok n o.dst = true ∧ aops q P n ds rest (putf o.dst undef (gov ds fr o false)) H K)

theorem FrOk.gov {n : Nat} {fr : Fr} {a : Act} {ds : List (Option Tmp)} {o : Oper} {g : Bool} (hf : FrOk n fr a) (h : aguard ds fr o = some g) : FrOk n (gov ds fr o g) a :=
  ⟨hf.defers, hf.size, fun t v hv => hf.vals t v (by rw [gov_same h] at hv; exact hv)⟩

theorem aops_sound {E : Nat → Option Obj} {P : Program} {n : Nat} {ops : Array Oper} {Q : Exit → Act → World → Prop} {K : Fr → AH → Prop}
    (hQ : ∀ fr H a w, FrOk n fr a → Sat E H w → K fr H → Q .normal a w) : ∀ (l : List Oper) (fr : Fr) (H : AH) (a : Act) (w : World), aops false P n (ops.toList.map (·.dst)) l fr H K → FrOk n fr a → Sat E H w → wpList P ops Q l a w
  | [], fr, H, a, w, h, hf, hs => hQ _ _ _ _ hf hs h
  | o :: rest, fr, H, a, w, h, hf, hs => by
    simp only [aops] at h
    split at h
    · exact h.elim
    · rename_i g hg
      have hw := aguard_sound hf hg
      simp only [wpList, hw]
      cases g with
      | true =>
        obtain ⟨ho, h1⟩ := h.1 rfl
        have hd : dok n o.dst = true := by simp only [okOp, Bool.and_eq_true] at ho; exact ho.2
        simp only [if_true]
        exact .inl ((aop_sem h1).wp (hf.gov hg) ho hs fun v H' w' hk hs' => aops_sound hQ rest _ _ _ _ hk ((hf.gov hg).put hd v) hs')
      | false =>
        obtain ⟨hd, h1⟩ := h.2 rfl
        simp only [Bool.false_eq_true, if_false]
        exact aops_sound hQ rest _ _ _ _ h1 ((hf.gov hg).put hd _) hs

end Go.AX

/- The engine: equations by which 'simp only' computes what the code of a function comes to over the abstract heap. -/
namespace Go.AX
set_option linter.unusedSimpArgs false
set_option linter.unusedVariables false
open Go Go.RowKit

def wo {α : Type} (o : Option α) (k : α → Prop) (_t : Lk k := .mk) : Prop :=
  match o with
  | some v => k v
  | none => False

theorem wo_some {α : Type} (v : α) (k : α → Prop) : wo (some v) k = k v := Eq.trans rfl rfl
theorem wo_none {α : Type} (k : α → Prop) : wo none k = False := Eq.trans rfl rfl

def wv (fr : Fr) (x : Operand) (k : Value → Prop) (_t : Lk (k, fr) := .mk) : Prop := kn1 fr x = true ∧ k (evd fr x)

theorem wv_tmp (fr : Fr) (t : Nat) (k : Value → Prop) : wv fr (.tmp t) k = wo (alk t fr) k := by
  cases h : alk t fr <;> simp [wv, kn1, evd, h, wo]
theorem wv_const (fr : Fr) (v : Value) (k : Value → Prop) : wv fr (.const v) k = k v := by simp [wv, kn1, evd]
theorem wv_func (fr : Fr) (f : Nat) (k : Value → Prop) : wv fr (.func f) k = k (.func (.func f) #[] #[]) := by simp [wv, kn1, evd]
def wvs (fr : Fr) (xs : List Operand) (k : List Value → Prop) (_t : Lk (k, fr) := .mk) : Prop := xs.all (kn1 fr) = true ∧ k (xs.map (evd fr))

theorem wvs_nil (fr : Fr) (k : List Value → Prop) : wvs fr [] k = k [] := by simp [wvs]
theorem wvs_cons (fr : Fr) (x : Operand) (xs : List Operand) (k : List Value → Prop) : wvs fr (x :: xs) k = wv fr x fun v => wvs fr xs fun vs => k (v :: vs) := by
  simp [wvs, wv, and_assoc]

def nv (v : Value) (k : Value → Prop) (_t : Lk k := .mk) : Prop := k v
theorem nv_eq (v : Value) (k : Value → Prop) : nv v k = k v := Eq.trans rfl rfl

def imp (p : Prop) (A : Prop) (_t : Lk A := .mk) : Prop := p → A
theorem impl_t (A : Prop) : imp True A = A := by simp [imp]
theorem impl_f (A : Prop) : imp False A = True := by simp [imp]
theorem imp.mk {p A : Prop} (h : p → A) : imp p A := h

def AllB (H : AH) (k : Nat → Prop) (_t : Lk (k, H) := .mk) : Prop := ∀ b, Fresh H b → k b
theorem AllB.mk {H : AH} {k : Nat → Prop} (h : ∀ b, Fresh H b → k b) : AllB H k := h


def baseRow (w : World) (b : Nat) (off : Nat) : Nat → Option (List Value)
  | 0 => some []
  | n + 1 => (w.cell? ⟨b, off, none⟩).bind fun v => (baseRow w b (off + 1) n).map (v :: ·)

def AH.row (H : AH) (b off n : Nat) : Option (List Value) :=
  match H.find b with
  | some (.cells cs _ _) => if off + n ≤ cs.length then some ((cs.drop off).take n) else none
  | some (.amap _) => none
  | some (.obj _) => none
  | none => if b < H.w0.heap.size then baseRow H.w0 b off n else none

def lput (cs : List Value) (off : Nat) : List Value → List Value
  | [] => cs
  | v :: vs => lput (cs.set off v) (off + 1) vs

def AH.wrs (H : AH) (b off : Nat) (vs : List Value) : Option AH :=
  match H.find b with
  | some (.cells cs e sz) => if off + vs.length ≤ cs.length ∧ cs.length ≤ sz ∧ vs.all scal = true then some (H.set b (.cells (lput cs off vs) e sz)) else none
  | _ => none


theorem rd_add_self (H : AH) (b off : Nat) (cs : List Value) (e sz : Nat) : (H.add b (.cells cs e sz)).rd ⟨b, off, none⟩ = cs[off]? := by
  simp [AH.rd, find_add]
theorem rd_add_ne (H : AH) {b b' : Nat} (h : b ≠ b') (off : Nat) (k : ABlk) : (H.add b k).rd ⟨b', off, none⟩ = H.rd ⟨b', off, none⟩ := by
  unfold AH.rd; rw [find_add, if_neg (Ne.symm h)]; rfl
theorem row_add_self (H : AH) (b off n : Nat) (cs : List Value) (e sz : Nat) : (H.add b (.cells cs e sz)).row b off n = if off + n ≤ cs.length then some ((cs.drop off).take n) else none := by
  simp [AH.row, find_add]
theorem row_add_ne (H : AH) {b b' : Nat} (h : b ≠ b') (off n : Nat) (k : ABlk) : (H.add b k).row b' off n = H.row b' off n := by
  unfold AH.row; rw [find_add, if_neg (Ne.symm h)]; rfl
theorem wrs_add_self (H : AH) (b off : Nat) (vs cs : List Value) (e sz : Nat) : (H.add b (.cells cs e sz)).wrs b off vs = if off + vs.length ≤ cs.length ∧ cs.length ≤ sz ∧ vs.all scal = true then some (H.add b (.cells (lput cs off vs) e sz)) else none := by
  unfold AH.wrs; rw [find_add, if_pos rfl]; simp [AH.set, AH.add, aset]
theorem wrs_add_ne (H : AH) {b b' : Nat} (h : b ≠ b') (off : Nat) (vs : List Value) (k : ABlk) : (H.add b k).wrs b' off vs = (H.wrs b' off vs).map (·.add b k) := by
  unfold AH.wrs
  rw [find_add, if_neg (Ne.symm h)]
  split
  · split
    · simp [AH.set, AH.add, aset, Ne.symm h]
    · rfl
  · rfl
theorem fresh_add (H : AH) (b b' : Nat) (k : ABlk) : Fresh (H.add b' k) b = (b ≠ b' ∧ Fresh H b) := by
  unfold Fresh
  rw [find_add]
  by_cases h : b = b' <;> simp [h]
theorem fresh_set (H : AH) (b b' : Nat) (k : ABlk) : Fresh (H.set b' k) b = (b ≠ b' ∧ Fresh H b) := by
  unfold Fresh
  rw [find_set]
  by_cases h : b = b' <;> simp [h]
theorem find_add_self (H : AH) (b : Nat) (k : ABlk) : (H.add b k).find b = some k := by simp [find_add]
theorem find_add_ne (H : AH) {b b' : Nat} (h : b ≠ b') (k : ABlk) : (H.add b k).find b' = H.find b' := by simp [find_add, Ne.symm h]
theorem Fresh.ne_find {H : AH} {b a : Nat} {k : ABlk} (h : Fresh H b) (ha : H.find a = some k) : b ≠ a := by
  rintro rfl; rw [h.2] at ha; cases ha
theorem Fresh.ne_rd {H : AH} {b : Nat} {a : Addr} {v : Value} (h : Fresh H b) (ha : H.rd a = some v) : b ≠ a.block := by
  rintro rfl
  unfold AH.rd at ha
  rw [h.2] at ha
  simp only at ha
  rw [if_neg (Nat.not_lt.2 h.1)] at ha
  cases ha

theorem qrun_pure (P : Program) {α : Type} (a : α) (H : AH) : qrun P (pure a : Sem α) H = some a := rfl
theorem qrun_map (P : Program) {α β : Type} (x : Sem α) (f : α → β) (H : AH) : qrun P (f <$> x) H = (qrun P x H).map f := by
  show qrun P (x >>= fun a => pure (f a)) H = _
  rw [qrun_bind]; cases qrun P x H <;> rfl

theorem qrun_load (P : Program) (H : AH) (a : Addr) (m : Mode) : qrun P (load a m) H = H.rd a := by
  simp only [load, qrun]; cases H.rd a <;> rfl

theorem add_plain (b off i : Nat) : (⟨b, off, none⟩ : Addr).add i = ⟨b, off + i, none⟩ := by
  unfold Addr.add; split
  · rename_i h; subst h; rfl
  · rfl

theorem qrun_loadCellsFrom (P : Program) (H : AH) (b off : Nat) : ∀ (n i : Nat) (acc : Array Value), n ≠ 0 → qrun P (loadCellsFrom ⟨b, off, none⟩ i n acc) H = (H.row b (off + i) n).map (fun l => acc ++ l.toArray)
  | 0, i, acc, h => absurd rfl h
  | n + 1, i, acc, _ => by
    simp only [loadCellsFrom, qrun_bind, add_plain, qrun_load]
    have ih := fun v => qrun_loadCellsFrom P H b off n (i + 1) (acc.push v)
    cases hf : H.find b with
    | none =>
      simp only [AH.rd, AH.row, hf] at ih ⊢
      by_cases hlt : b < H.w0.heap.size
      · simp only [hlt, if_true] at ih ⊢
        cases hc : H.w0.cell? ⟨b, off + i, none⟩ with
        | none => simp [baseRow, hc]
        | some v =>
          simp only [Option.bind_some, baseRow, hc]
          cases n with
          | zero => simp [loadCellsFrom, qrun_pure, baseRow]
          | succ n =>
            rw [ih v (by simp), show off + (i + 1) = off + i + 1 from by omega]
            cases baseRow H.w0 b (off + i + 1) (n + 1) <;> simp
      · simp [hlt]
    | some k =>
      cases k with
      | amap es => simp [AH.rd, AH.row, hf]
      | obj o => simp [AH.rd, AH.row, hf]
      | cells cs e sz =>
        simp only [AH.rd, AH.row, hf] at ih ⊢
        simp only [Option.isSome_none, Bool.false_eq_true, if_false]
        by_cases hlt : off + i < cs.length
        · have h1 : cs[off + i]? = some cs[off + i] := List.getElem?_eq_getElem hlt
          have h3 : cs.drop (off + i) = cs[off + i] :: cs.drop (off + i + 1) := List.drop_eq_getElem_cons hlt
          rw [h1, h3]
          simp only [Option.bind_some]
          cases n with
          | zero =>
            rw [if_pos (by omega)]
            simp only [loadCellsFrom, qrun_pure, Option.map_some, Nat.zero_add, List.take_succ_cons, List.take_zero, Option.some.injEq]
            generalize cs[off + i] = x
            simp
          | succ n =>
            rw [ih _ (by simp)]
            by_cases hle : off + (i + 1) + (n + 1) ≤ cs.length
            · rw [if_pos hle, if_pos (by omega), show off + (i + 1) = off + i + 1 from by omega]
              generalize cs[off + i] = x
              generalize List.drop (off + i + 1) cs = l
              simp [List.take_succ_cons]
            · rw [if_neg hle, if_neg (by omega)]; rfl
        · have h1 : cs[off + i]? = none := List.getElem?_eq_none (by omega)
          rw [h1, if_neg (by omega)]; rfl

theorem qrun_loadCells (P : Program) (H : AH) (b off n : Nat) (hn : n ≠ 0) : qrun P (loadCells ⟨b, off, none⟩ n) H = (H.row b off n).map List.toArray := by
  unfold loadCells
  rw [qrun_loadCellsFrom P H b off n 0 #[] hn]
  cases H.row b (off + 0) n <;> simp

theorem arun_storeCells (P : Program) (b : Nat) (K : Unit → AH → Prop) : ∀ (vs : List Value) (off i : Nat) (H : AH) (cs : List Value) (e sz : Nat), H.find b = some (.cells cs e sz) → off + i + vs.length ≤ cs.length → cs.length ≤ sz → vs.all scal = true →
    K () (if vs = [] then H else H.set b (.cells (lput cs (off + i) vs) e sz)) → arun P (storeCells ⟨b, off, none⟩ vs i) H K
  | [], off, i, H, cs, e, sz, hf, h1, h2, h3, hk => by simp only [if_true] at hk; exact hk
  | v :: vs, off, i, H, cs, e, sz, hf, h1, h2, h3, hk => by
    have ea := add_plain b off i
    simp only [List.length_cons] at h1
    simp only [List.all_cons, Bool.and_eq_true] at h3
    simp only [storeCells, arun_bind, store, arun, ea, hf, h3.1, true_and]
    refine ⟨by omega, by omega, ?_⟩
    rw [wr_lt (by omega)]
    have hf' : (H.set b (.cells (cs.set (off + i) v) e sz)).find b = some (.cells (cs.set (off + i) v) e sz) := by simp [find_set]
    refine arun_storeCells P b K vs off (i + 1) _ _ e sz hf' (by simp; omega) (by simpa using h2) h3.2 ?_
    simp only [List.cons_ne_nil, if_false, lput] at hk
    split
    · rename_i hv; subst hv; simpa [lput] using hk
    · have e3 : (H.set b (.cells (cs.set (off + i) v) e sz)).set b (.cells (lput (cs.set (off + i) v) (off + (i + 1)) vs) e sz) = H.set b (.cells (lput (cs.set (off + i) v) (off + (i + 1)) vs) e sz) := by
        have : ∀ l : List (Nat × ABlk), ∀ x y, aset b y (aset b x l) = aset b y l := by
          intro l x y
          induction l with
          | nil => simp [aset]
          | cons p l ih => obtain ⟨k, v⟩ := p; by_cases hb : b = k <;> simp [aset, hb, ih]
        simp only [AH.set, this]
      rw [e3]; exact hk


end Go.AX

/- The engine, continued: an equation for each kind of operation. -/
namespace Go.AX
set_option linter.unusedSimpArgs false
set_option linter.unusedVariables false
open Go Go.RowKit

def zrOf (P : Program) (t : TypeId) : Option (List Value) := ((P.info? t).bind (·.zero)).map (·.cells.toList)
def foOf (P : Program) (s : TypeId) (i : Nat) : Option Nat :=
  match P.underlying s with
  | some (.struct fs) => (fs[i]?).bind fun f => if P.cellsOf f.type = 0 then none else some f.offset
  | _ => none
def isAggU : Option TypeDesc → Option Bool
  | some (.struct _) | some (.array _ _) => some true
  | some _ => some false
  | none => none
def elSz (P : Program) (t : TypeId) : Nat :=
  match P.underlying t with
  | some (.array _ e) | some (.slice e) => P.cellsOf e
  | _ => 0
def fnOk (P : Program) (f : FuncId) : Bool :=
  match P.funcs[f]? with
  | some fn => fn.name != "runtime.NumGoroutine" && fn.body.isSome
  | none => false
def plOf (P : Program) (t : TypeId) (i : Nat) : Option (Nat × Nat) :=
  match P.underlying t with
  | some (.struct fs) => (fs[i]?).map fun f => (f.offset, P.cellsOf f.type)
  | some (.array _ e) => some (i * P.cellsOf e, P.cellsOf e)
  | _ => none
def fdOf (P : Program) (t : TypeId) (i : Nat) : Option (Nat × Nat × Bool) :=
  match P.underlying t with
  | some (.struct fs) => (fs[i]?).bind fun f => (isAggU (P.underlying f.type)).map fun a => (f.offset, P.cellsOf f.type, a)
  | _ => none

section
variable {q : Bool} {P : Program} {n : Nat} {ds : List (Option Tmp)} {rest : List Oper} {fr : Fr} {H : AH} {K : Fr → AH → Prop} {d : Option Tmp} {ty : TypeId} {pos : String} {af : Array Edge}

theorem qrun_underlying (t : TypeId) : qrun P (underlying t) H = P.underlying t := by
  simp only [underlying, program, qrun_bind, qrun, Option.bind_some]
  cases P.underlying t <;> rfl
theorem qrun_sizeOf (t : TypeId) : qrun P (sizeOf t) H = (P.info? t).map (·.size) := by
  simp only [sizeOf, typeInfo, program, qrun_bind, qrun, Option.bind_some]
  cases P.info? t <;> rfl
theorem qrun_program : qrun P program H = some P := rfl

theorem dok_some {d : Nat} : (dok n (some d) = true) = (d < n) := by simp [dok]
theorem dok_none : (dok n none = true) = True := by simp [dok]
def ag (b : Value) (want : Bool) (A B C : Prop) (_t : Lk (A, B, C) := .mk) : Prop :=
  match b with
  | .bool b => (b = want → A) ∧ (b ≠ want → B)
  | _ => C

theorem ag_t {b : Bool} {A B C : Prop} : ag (.bool b) true A B C = (imp (b = true) A ∧ imp (b = false) B) := by cases b <;> simp [ag, imp]
theorem ag_f {b : Bool} {A B C : Prop} : ag (.bool b) false A B C = (imp (b = false) A ∧ imp (b = true) B) := by cases b <;> simp [ag, imp]

def pck (c a b : Value) (k : Value → Prop) (_t : Lk k := .mk) : Prop :=
  match c with
  | .bool t => nv (if t = true then a else b) k
  | _ => False
theorem pck_bool {t : Bool} {a b : Value} {k : Value → Prop} : pck (.bool t) a b k = nv (if t = true then a else b) k := Eq.trans rfl rfl

def bin (u : Option TypeDesc) (P : Program) (H : AH) (op : BinOp) (t : TypeId) (x y : Operand) (a b : Value) (k : Value → Prop) (_t : Lk (k, H) := .mk) : Prop := u = P.underlying t ∧ wo (qrun P (do eqGuard op t x y a b; binOp op t a b) H) (fun v => nv v k)
section ints
variable {u : TypeDesc} {t : TypeId} {x y : Operand} {k : IntKind} {a b : Int} {kk : Value → Prop}
theorem bin_add : bin (some u) P H .add t x y (.int k a) (.int k b) kk = (some u = P.underlying t ∧ nv (.int k (k.wrap (a + b))) kk) := by simp [bin, eqGuard, binOp, Op.intArith, qrun_bind, qrun_pure, wo]
theorem bin_sub : bin (some u) P H .sub t x y (.int k a) (.int k b) kk = (some u = P.underlying t ∧ nv (.int k (k.wrap (a - b))) kk) := by simp [bin, eqGuard, binOp, Op.intArith, qrun_bind, qrun_pure, wo]
theorem bin_mul : bin (some u) P H .mul t x y (.int k a) (.int k b) kk = (some u = P.underlying t ∧ nv (.int k (k.wrap (a * b))) kk) := by simp [bin, eqGuard, binOp, Op.intArith, qrun_bind, qrun_pure, wo]
theorem bin_eql : bin (some u) P H .eql t x y (.int k a) (.int k b) kk = (some u = P.underlying t ∧ nv (.bool (a == b)) kk) := by simp [bin, eqGuard, binOp, Op.intCmp, qrun_bind, qrun_pure, wo]
theorem bin_neq : bin (some u) P H .neq t x y (.int k a) (.int k b) kk = (some u = P.underlying t ∧ nv (.bool (a != b)) kk) := by simp [bin, eqGuard, binOp, Op.intCmp, qrun_bind, qrun_pure, wo]
theorem bin_lss : bin (some u) P H .lss t x y (.int k a) (.int k b) kk = (some u = P.underlying t ∧ nv (.bool (decide (a < b))) kk) := by simp [bin, eqGuard, binOp, Op.intCmp, qrun_bind, qrun_pure, wo]
theorem bin_leq : bin (some u) P H .leq t x y (.int k a) (.int k b) kk = (some u = P.underlying t ∧ nv (.bool (decide (a ≤ b))) kk) := by simp [bin, eqGuard, binOp, Op.intCmp, qrun_bind, qrun_pure, wo]
theorem bin_gtr : bin (some u) P H .gtr t x y (.int k a) (.int k b) kk = (some u = P.underlying t ∧ nv (.bool (decide (b < a))) kk) := by simp [bin, eqGuard, binOp, Op.intCmp, qrun_bind, qrun_pure, wo]
theorem bin_geq : bin (some u) P H .geq t x y (.int k a) (.int k b) kk = (some u = P.underlying t ∧ nv (.bool (decide (b ≤ a))) kk) := by simp [bin, eqGuard, binOp, Op.intCmp, qrun_bind, qrun_pure, wo]
theorem bin_quo : bin (some u) P H .quo t x y (.int k a) (.int k b) kk = (some u = P.underlying t ∧ b ≠ 0 ∧ nv (.int k (k.wrap (a.tdiv b))) kk) := by
  by_cases h : b = 0 <;> simp [bin, eqGuard, binOp, Op.intDiv, qrun_bind, qrun_pure, wo, h, runtimePanic, program, qrun, goPanic]
theorem bin_rem : bin (some u) P H .rem t x y (.int k a) (.int k b) kk = (some u = P.underlying t ∧ b ≠ 0 ∧ nv (.int k (a.tmod b)) kk) := by
  by_cases h : b = 0 <;> simp [bin, eqGuard, binOp, Op.intDiv, qrun_bind, qrun_pure, wo, h, runtimePanic, program, qrun, goPanic]
theorem bin_shl {k' : IntKind} : bin (some u) P H .shl t x y (.int k a) (.int k' b) kk = (some u = P.underlying t ∧ 0 ≤ b ∧ nv (.int k (k.wrap (a * 2 ^ (min b.toNat k.bits)))) kk) := by
  by_cases h : b < 0 <;> simp [bin, eqGuard, binOp, Op.shift, qrun_bind, qrun_pure, wo, h, runtimePanic, program, qrun, goPanic] <;> omega
theorem bin_shr {k' : IntKind} : bin (some u) P H .shr t x y (.int k a) (.int k' b) kk = (some u = P.underlying t ∧ 0 ≤ b ∧ nv (.int k (a.fdiv (2 ^ (min b.toNat k.bits)))) kk) := by
  by_cases h : b < 0 <;> simp [bin, eqGuard, binOp, Op.shift, qrun_bind, qrun_pure, wo, h, runtimePanic, program, qrun, goPanic] <;> omega
def ibits (op : BinOp) (k : IntKind) (x y : Int) : Int :=
  let a := BitVec.ofInt k.bits x
  let b := BitVec.ofInt k.bits y
  match op with
  | .and => k.wrap (a &&& b).toNat
  | .or => k.wrap (a ||| b).toNat
  | .xor => k.wrap (a ^^^ b).toNat
  | _ => k.wrap (a &&& ~~~b).toNat
theorem bin_and : bin (some u) P H .and t x y (.int k a) (.int k b) kk = (some u = P.underlying t ∧ nv (.int k (ibits .and k a b)) kk) := by simp [bin, eqGuard, binOp, Op.intBits, qrun_bind, qrun_pure, wo, ibits]
theorem bin_or : bin (some u) P H .or t x y (.int k a) (.int k b) kk = (some u = P.underlying t ∧ nv (.int k (ibits .or k a b)) kk) := by simp [bin, eqGuard, binOp, Op.intBits, qrun_bind, qrun_pure, wo, ibits]
theorem bin_xor : bin (some u) P H .xor t x y (.int k a) (.int k b) kk = (some u = P.underlying t ∧ nv (.int k (ibits .xor k a b)) kk) := by simp [bin, eqGuard, binOp, Op.intBits, qrun_bind, qrun_pure, wo, ibits]
end ints

theorem eqIn_bool {t : TypeId} {m : Nat} {a b : Bool} (h : P.underlying t = some .bool) : qrun P (Op.equalIn (m + 1) t (.bool a) (.bool b)) H = some (a == b) := by
  simp only [Op.equalIn, qrun_bind, qrun_underlying, h, Option.bind_some, qrun_pure]
theorem eqIn_int {t : TypeId} {m : Nat} {k k' : IntKind} {a b : Int} (h : P.underlying t = some (.int k')) : qrun P (Op.equalIn (m + 1) t (.int k a) (.int k b)) H = some (a == b) := by
  simp only [Op.equalIn, qrun_bind, qrun_underlying, h, Option.bind_some, if_true, qrun_pure]
theorem eqIn_ptr_nil {t e : TypeId} {m : Nat} {a : Option Addr} (h : P.underlying t = some (.pointer e)) : qrun P (Op.equalIn (m + 1) t (.pointer a) (.pointer none)) H = some a.isNone := by
  cases a <;> simp only [Op.equalIn, qrun_bind, qrun_underlying, h, Option.bind_some, qrun_pure] <;> rfl
theorem eqIn_slice_nil {t e : TypeId} {m : Nat} {a : Option Addr} {l c : Nat} (h : P.underlying t = some (.slice e)) : qrun P (Op.equalIn (m + 1) t (.slice a l c) (.slice none 0 0)) H = some a.isNone := by
  cases a <;> simp only [Op.equalIn, qrun_bind, qrun_underlying, h, Option.bind_some, qrun_pure] <;> rfl
theorem bin_eql_of {u : Option TypeDesc} {t : TypeId} {x y : Operand} {a b : Value} {r : Bool} {kk : Value → Prop} (hg : qrun P (eqGuard .eql t x y a b) H = some ()) (hb : binOp .eql t a b = (do pure (.bool (← Op.equal t a b))))
    (h : u = P.underlying t → qrun P (Op.equalIn (9999 + 1) t a b) H = some r) : bin u P H .eql t x y a b kk = (u = P.underlying t ∧ nv (.bool r) kk) := by
  unfold bin
  by_cases hu : u = P.underlying t
  · have h' : qrun P (Op.equal t a b) H = some r := h hu
    simp only [qrun_bind, hg, hb, Option.bind_some, h', qrun_pure, wo_some]
  · simp [hu]
theorem bin_neq_of {u : Option TypeDesc} {t : TypeId} {x y : Operand} {a b : Value} {r : Bool} {kk : Value → Prop} (hg : qrun P (eqGuard .neq t x y a b) H = some ()) (hb : binOp .neq t a b = (do pure (.bool (!(← Op.equal t a b)))))
    (h : u = P.underlying t → qrun P (Op.equalIn (9999 + 1) t a b) H = some r) : bin u P H .neq t x y a b kk = (u = P.underlying t ∧ nv (.bool !r) kk) := by
  unfold bin
  by_cases hu : u = P.underlying t
  · have h' : qrun P (Op.equal t a b) H = some r := h hu
    simp only [qrun_bind, hg, hb, Option.bind_some, h', qrun_pure, wo_some]
  · simp [hu]
section
variable {t e : TypeId} {x y : Operand} {kk : Value → Prop}
theorem bin_eql_bool {a b : Bool} : bin (some .bool) P H .eql t x y (.bool a) (.bool b) kk = (some .bool = P.underlying t ∧ nv (.bool (a == b)) kk) := bin_eql_of rfl rfl fun h => eqIn_bool h.symm
theorem bin_neq_bool {a b : Bool} : bin (some .bool) P H .neq t x y (.bool a) (.bool b) kk = (some .bool = P.underlying t ∧ nv (.bool (!(a == b))) kk) := bin_neq_of rfl rfl fun h => eqIn_bool h.symm
theorem bin_eql_ptr_nil {a : Option Addr} : bin (some (.pointer e)) P H .eql t x y (.pointer a) (.pointer none) kk = (some (.pointer e) = P.underlying t ∧ nv (.bool a.isNone) kk) := bin_eql_of rfl rfl fun h => eqIn_ptr_nil h.symm
theorem bin_eql_slice_nil {a : Option Addr} {l c : Nat} : bin (some (.slice e)) P H .eql t x y (.slice a l c) (.slice none 0 0) kk = (some (.slice e) = P.underlying t ∧ nv (.bool a.isNone) kk) := bin_eql_of rfl rfl fun h => eqIn_slice_nil h.symm
end

def unv (P : Program) (H : AH) (op : UnOp) (v : Value) (k : Value → Prop) (_t : Lk (k, H) := .mk) : Prop := wo (qrun P (Op.unary op v) H) fun v => nv v k
theorem unv_not {b : Bool} {k : Value → Prop} : unv P H .not (.bool b) k = nv (.bool !b) k := Eq.trans rfl rfl
theorem unv_neg {kd : IntKind} {a : Int} {k : Value → Prop} : unv P H .neg (.int kd a) k = nv (.int kd (kd.wrap (0 - a))) k := Eq.trans rfl rfl
def extr (P : Program) (H : AH) (v : Value) (i : Nat) (k : Value → Prop) (_t : Lk (k, H) := .mk) : Prop := wo (qrun P (Instr.extract v i) H) k
theorem extr_tuple {vs : Array Value} {i : Nat} {k : Value → Prop} : extr P H (.tuple vs) i k = wo (vs[i]?) k := by
  simp only [extr, Instr.extract]
  cases vs[i]? <;> rfl

def cnv (us ud : Option TypeDesc) (P : Program) (H : AH) (s t : TypeId) (v : Value) (k : Value → Prop) (_t : Lk (k, H) := .mk) : Prop :=
  us = P.underlying s ∧ ud = P.underlying t ∧ wo (qrun P (convert s t v) H) fun v => nv v k
theorem cnv_int {s t : TypeId} {k0 kd : IntKind} {a : Int} {us : TypeDesc} {k : Value → Prop} : cnv (some us) (some (.int kd)) P H s t (.int k0 a) k = (some us = P.underlying s ∧ some (.int kd) = P.underlying t ∧ nv (.int kd (kd.wrap a)) k) := by
  unfold cnv
  by_cases hs : some us = P.underlying s
  · by_cases ht : some (.int kd) = P.underlying t
    · have : qrun P (convert s t (.int k0 a)) H = some (.int kd (kd.wrap a)) := by
        simp only [convert, qrun_bind, qrun_underlying, ← hs, ← ht, Option.bind_some]
        cases us <;> rfl
      simp only [this, wo_some]
    · simp [ht]
  · simp [hs]

theorem qrun_isAgg {t : TypeId} : qrun P (isAgg t) H = isAggU (P.underlying t) := by
  simp only [isAgg, qrun_bind, qrun_underlying]
  cases P.underlying t with
  | none => rfl
  | some u => cases u <;> rfl

def ldv (g : Option Bool) (sz : Nat) (v : Value) (H : AH) (k : Value → Prop) (_t : Lk (k, H) := .mk) : Prop :=
  match g, v with
  | some false, .pointer (some ⟨b, off, none⟩) => wo (H.rd ⟨b, off, none⟩) fun v => nv v k
  | some true, .pointer (some ⟨b, off, none⟩) => sz ≠ 0 ∧ wo (H.row b off sz) fun l => nv (.agg l.toArray) k
  | _, _ => False
theorem ldv_cell {sz b off : Nat} {k : Value → Prop} : ldv (some false) sz (.pointer (some ⟨b, off, none⟩)) H k = wo (H.rd ⟨b, off, none⟩) fun v => nv v k := Eq.trans rfl rfl
theorem ldv_agg {sz b off : Nat} {k : Value → Prop} : ldv (some true) sz (.pointer (some ⟨b, off, none⟩)) H k = (sz ≠ 0 ∧ wo (H.row b off sz) fun l => nv (.agg l.toArray) k) := Eq.trans rfl rfl
theorem info_size {t : TypeId} (h : P.cellsOf t ≠ 0) : (P.info? t).map (·.size) = some (P.cellsOf t) := by
  unfold Program.cellsOf at h ⊢
  cases hi : P.info? t with
  | none => rw [hi] at h; simp at h
  | some i => rfl
theorem qrun_loadVar {t : TypeId} {b off : Nat} {v : Value} (h : ldv (isAggU (P.underlying t)) (P.cellsOf t) (.pointer (some ⟨b, off, none⟩)) H (fun u => u = v)) : qrun P (loadVar t ⟨b, off, none⟩) H = some v := by
  simp only [loadVar, qrun_bind, qrun_isAgg]
  cases hg : isAggU (P.underlying t) with
  | none => rw [hg] at h; exact h.elim
  | some g =>
    rw [hg] at h
    cases g with
    | false =>
      simp only [ldv_cell] at h
      cases hr : H.rd ⟨b, off, none⟩ with
      | none => rw [hr] at h; exact h.elim
      | some u => rw [hr] at h; have : u = v := h; subst this; simp [qrun_load, hr]
    | true =>
      simp only [ldv_agg] at h
      obtain ⟨hz, h⟩ := h
      cases hr : H.row b off (P.cellsOf t) with
      | none => rw [hr] at h; exact h.elim
      | some l =>
        rw [hr] at h; have : (Value.agg l.toArray) = v := h; subst this
        simp [qrun_bind, qrun_map, qrun_sizeOf, info_size hz, qrun_loadCells P H b off _ hz, hr, qrun_pure]
theorem ldv_run {t : TypeId} {v : Value} {k : Value → Prop} (h : ldv (isAggU (P.underlying t)) (P.cellsOf t) v H k) : wo (qrun P (Instr.loadAt t v) H) k := by
  have hv : ∃ b off, v = .pointer (some ⟨b, off, none⟩) := by
    unfold ldv at h
    split at h
    · exact ⟨_, _, rfl⟩
    · exact ⟨_, _, rfl⟩
    · exact h.elim
  obtain ⟨b, off, rfl⟩ := hv
  have : ∃ u, ldv (isAggU (P.underlying t)) (P.cellsOf t) (.pointer (some ⟨b, off, none⟩)) H (fun x => x = u) ∧ k u := by
    cases hg : isAggU (P.underlying t) with
    | none => rw [hg] at h; exact h.elim
    | some g =>
      rw [hg] at h
      cases g with
      | false =>
        simp only [ldv_cell] at h ⊢
        cases hr : H.rd ⟨b, off, none⟩ with
        | none => rw [hr] at h; exact h.elim
        | some u => rw [hr] at h; exact ⟨u, rfl, h⟩
      | true =>
        simp only [ldv_agg] at h ⊢
        cases hr : H.row b off (P.cellsOf t) with
        | none => rw [hr] at h; exact h.2.elim
        | some l => rw [hr] at h; exact ⟨_, ⟨h.1, rfl⟩, h.2⟩
  obtain ⟨u, h1, h2⟩ := this
  simp only [Instr.loadAt, Instr.sureAddr, qrun_bind, qrun_pure, Option.bind_some, qrun_loadVar h1]
  exact h2

def vcells (v : Value) : List Value := v.cells.toList
theorem vcells_agg {cs : List Value} : vcells (.agg cs.toArray) = cs := by simp [vcells, Value.cells]
def stv (P : Program) (t : TypeId) (p v : Value) (H : AH) (k : AH → Prop) (_t : Lk (k, H) := .mk) : Prop :=
  match p with
  | .pointer (some ⟨b, off, none⟩) => (vcells v).length = P.cellsOf t ∧ wo (H.wrs b off (vcells v)) k
  | _ => False

theorem stv_run {t : TypeId} {p v : Value} {k : Value → AH → Prop} (h : stv P t p v H (k undef)) (hz : P.cellsOf t ≠ 0) : arun P (Instr.storeAt t p v) H (fun _ H' => k undef H') := by
  unfold stv at h
  split at h
  · rename_i b off
    obtain ⟨h1, h2⟩ := h
    unfold AH.wrs at h2
    split at h2
    · rename_i cs e sz hf
      split at h2
      · rename_i hc
        have hi : ∃ i, P.info? t = some i ∧ i.size = P.cellsOf t := by
          unfold Program.cellsOf at hz ⊢
          cases hi : P.info? t with
          | none => simp [hi] at hz
          | some i => exact ⟨i, rfl, by simp⟩
        obtain ⟨i, hi, hs⟩ := hi
        simp only [Instr.storeAt, Instr.sureAddr, arun_bind, arun, storeVar, sizeOf, typeInfo, program, hi]
        show arun P (if v.cells.size ≠ i.size then _ else _) H _
        have h3 : v.cells.size = i.size := by rw [hs, ← h1]; simp [vcells]
        simp only [h3, ne_eq, not_true_eq_false, if_false]
        refine arun_storeCells P b _ (vcells v) off 0 H cs e sz hf (by simpa using hc.1) hc.2.1 hc.2.2 ?_
        have hne : vcells v ≠ [] := by intro h; rw [h] at h1; simp at h1; exact hz h1.symm
        simp only [hne, if_false, Nat.add_zero]
        exact h2
      · exact h2.elim
    · exact h2.elim
  · exact h.elim


theorem zeroValue_run {t : TypeId} {cs : List Value} (h : zrOf P t = some cs) : ∃ z, qrun P (zeroValue t) H = some z ∧ z.cells.toList = cs := by
  unfold zrOf at h
  obtain ⟨z, hz, hc⟩ := Option.map_eq_some_iff.1 h
  obtain ⟨i, hi, hz2⟩ := Option.bind_eq_some_iff.1 hz
  exact ⟨z, by simp only [zeroValue, typeInfo, program, qrun_bind, qrun, Option.bind_some, hi, qrun_pure, hz2], hc⟩

theorem arun_of_qrun {α : Type} (s : Sem α) : ∀ (a : α) (K : α → AH → Prop), qrun P s H = some a → K a H → arun P s H K := by
  induction s with
  | pure x => intro a K h hk; simp only [qrun, Option.some.injEq] at h; subst h; exact hk
  | load m ad k ih =>
    intro a K h hk
    simp only [qrun] at h
    simp only [arun]
    split at h
    · rename_i v hv; exact ih _ _ _ h hk
    · cases h
  | shape r k ih =>
    intro a K h hk
    simp only [qrun] at h
    simp only [arun]
    split at h
    · rename_i v hv; exact ih _ _ _ h hk
    · cases h
  | frozen r k ih =>
    intro a K h hk
    simp only [qrun] at h
    simp only [arun]
    split at h
    · rename_i v hv; exact ih _ _ _ h hk
    · cases h
  | program k ih => intro a K h hk; simp only [qrun] at h; exact ih _ _ _ h hk
  | mark m k ih => intro a K h hk; simp only [qrun] at h; exact ih _ _ h hk
  | _ => intro a K h hk; simp only [qrun] at h; cases h

def newb (t : TypeId) (cs : List Value) (H : AH) (k : Value → AH → Prop) (_t : Lk (k, H) := .mk) : Prop := AllB H fun b => k (.pointer (some ⟨b, 0, none⟩)) (H.add b (.cells cs t cs.length))

theorem arun_newVar {t : TypeId} {v : Value} {k : Addr → AH → Prop} (h : AllB H fun b => k ⟨b, 0, none⟩ (H.add b (.cells (vcells v) t (vcells v).length))) : arun P (newVar t v) H k := by
  simp only [newVar, newRow, newObj, arun_bind, arun, true_and]
  intro b hb
  have := h b hb
  simp only [vcells, Array.length_toList] at this
  exact this

def fap (P : Program) (s : TypeId) (i : Nat) (v : Value) (k : Value → Prop) (_t : Lk k := .mk) : Prop :=
  match v with
  | .pointer (some ⟨b, o, none⟩) => wo (foOf P s i) fun off => nv (.pointer (some ⟨b, o + off, none⟩)) k
  | _ => False
theorem fap_ptr {s : TypeId} {i : Nat} {b o : Nat} {k : Value → Prop} : fap P s i (.pointer (some ⟨b, o, none⟩)) k = wo (foOf P s i) fun off => nv (.pointer (some ⟨b, o + off, none⟩)) k := Eq.trans rfl rfl
theorem fap_run {s : TypeId} {i : Nat} {v : Value} {k : Value → Prop} (h : fap P s i v k) : wo (qrun P (Instr.fieldAt s v i) H) k := by
  unfold fap at h
  split at h
  · rename_i b o
    unfold foOf at h
    split at h
    · rename_i fs hu
      cases hf : fs[i]? with
      | none => rw [hf] at h; exact h.elim
      | some f =>
        rw [hf] at h
        simp only [Option.bind_some] at h
        split at h
        · exact h.elim
        · rename_i hz
          have hi : (P.info? f.type).map (·.size) = some (P.cellsOf f.type) := by
            unfold Program.cellsOf at hz ⊢
            cases hi : P.info? f.type with
            | none => rw [hi] at hz; simp at hz
            | some i => rfl
          simp only [Instr.fieldAt, qrun_bind, qrun_underlying, hu, Option.bind_some, hf, Instr.sureAddr, qrun_pure, fieldPlace, qrun_sizeOf, hi]
          simp only [hz, if_false, qrun_pure, Option.bind_some, add_plain]
          exact h
    · exact h.elim
  · exact h.elim

def ixp (u : Option TypeDesc) (sz : Nat) (v i : Value) (k : Value → Prop) (_t : Lk k := .mk) : Prop :=
  match u, v, i with
  | some (.array len _), .pointer (some ⟨b, o, none⟩), .int _ i => 0 ≤ i ∧ i < len ∧ nv (.pointer (some ⟨b, o + i.toNat * sz, none⟩)) k
  | some (.slice _), .slice (some ⟨b, o, none⟩) len _, .int _ i => 0 ≤ i ∧ i < len ∧ nv (.pointer (some ⟨b, o + i.toNat * sz, none⟩)) k
  | _, _, _ => False
theorem ixp_array {len e sz b o : Nat} {kd : IntKind} {i : Int} {k : Value → Prop} : ixp (some (.array len e)) sz (.pointer (some ⟨b, o, none⟩)) (.int kd i) k = (0 ≤ i ∧ i < len ∧ nv (.pointer (some ⟨b, o + i.toNat * sz, none⟩)) k) := Eq.trans rfl rfl
theorem ixp_slice {len e sz b o c : Nat} {kd : IntKind} {i : Int} {k : Value → Prop} : ixp (some (.slice e)) sz (.slice (some ⟨b, o, none⟩) len c) (.int kd i) k = (0 ≤ i ∧ i < len ∧ nv (.pointer (some ⟨b, o + i.toNat * sz, none⟩)) k) := Eq.trans rfl rfl
theorem ixp_run {t : TypeId} {v i : Value} {k : Value → Prop} (hz : elSz P t ≠ 0) (h : ixp (P.underlying t) (elSz P t) v i k) : wo (qrun P (Instr.indexAt t v i) H) k := by
  unfold ixp at h
  have hsz : ∀ e, (P.underlying t = some (.slice e) ∨ ∃ l, P.underlying t = some (.array l e)) → (P.info? e).map (·.size) = some (elSz P t) := fun e he => by
    have : elSz P t = P.cellsOf e := by
      unfold elSz
      rcases he with he | ⟨l, he⟩ <;> rw [he]
    rw [this] at hz ⊢
    unfold Program.cellsOf at hz ⊢
    cases hi : P.info? e with
    | none => rw [hi] at hz; simp at hz
    | some i => rfl
  split at h
  · rename_i len e b o kd i hu
    obtain ⟨h1, h2, h3⟩ := h
    have hs := hsz e (.inr ⟨len, hu⟩)
    simp only [Instr.indexAt, qrun_bind, asIntOf, qrun_pure, Option.bind_some, qrun_underlying, hu, Instr.sureAddr]
    simp only [h1, h2, and_self, if_true, qrun_bind, qrun_sizeOf, hs, Option.bind_some, qrun_pure, add_plain]
    exact h3
  · rename_i e b o len c kd i hu
    obtain ⟨h1, h2, h3⟩ := h
    have hs := hsz e (.inl hu)
    simp only [Instr.indexAt, qrun_bind, asIntOf, qrun_pure, Option.bind_some, qrun_underlying, hu]
    simp only [h1, h2, and_self, if_true, qrun_bind, qrun_sizeOf, hs, Option.bind_some, qrun_pure, add_plain]
    exact h3
  · exact h.elim

def plOf1 (P : Program) (t : TypeId) : Bool :=
  match P.underlying t with
  | some (.struct fs) => fs.toList.all fun f => (P.info? f.type).isSome
  | some (.array _ e) => (P.info? e).isSome
  | _ => false

def bldL (pl : Nat → Option (Nat × Nat)) (cs : List Value) : List (Nat × Value) → Option (List Value)
  | [] => some cs
  | (i, v) :: r => match pl i with
    | some (off, sz) => if (vcells v).length = sz ∧ off + sz ≤ cs.length then bldL pl (lput cs off (vcells v)) r else none
    | none => none

theorem lput_length : ∀ (vs cs : List Value) (off : Nat), (lput cs off vs).length = cs.length
  | [], _, _ => rfl
  | v :: vs, cs, off => by simp [lput, lput_length vs]

theorem fold_lput : ∀ (vs : List Value) (cells : Array Value) (off k : Nat), ((vs.zipIdx k).foldl (fun (cs : Array Value) (x : Value × Nat) => cs.setIfInBounds (off + x.2) x.1) cells).toList = lput cells.toList (off + k) vs
  | [], _, _, _ => rfl
  | v :: vs, cells, off, k => by
    simp only [List.zipIdx_cons, List.foldl_cons, lput]
    rw [fold_lput vs _ off (k + 1)]
    simp [Nat.add_assoc]

theorem fill_of_bldL (pl : Nat → Option (Nat × Nat)) : ∀ (ps : List (Nat × Value)) (cells : Array Value) (cs : List Value), bldL pl cells.toList ps = some cs → Instr.fill pl cells ps = some cs.toArray
  | [], cells, cs, h => by simp only [bldL, Option.some.injEq] at h; subst h; simp [Instr.fill]
  | (i, v) :: r, cells, cs, h => by
    simp only [bldL] at h
    simp only [Instr.fill]
    split at h
    · rename_i off sz hp
      split at h
      · rename_i hc
        simp only [hp]
        have h1 : v.cells.size = sz := by rw [← hc.1]; simp [vcells]
        have h2 : ¬ (v.cells.size ≠ sz ∨ off + v.cells.size > cells.size) := by
          have := hc.2; simp at this; omega
        simp only [ne_eq, gt_iff_lt, not_or, Decidable.not_not, Nat.not_lt] at h2
        simp only [ne_eq, h2.1, not_true_eq_false, gt_iff_lt, Bool.or_eq_true, decide_eq_true_eq, false_or]
        rw [if_neg (by rw [h1] at h2; omega)]
        refine fill_of_bldL pl r _ cs ?_
        rw [← h]
        congr 1
        rw [← Array.foldl_toList, Array.toList_zipIdx]
        have := fold_lput v.cells.toList cells off 0
        simpa [vcells] using this
      · cases h
    · cases h

theorem qrun_mapM_fields (P : Program) (H : AH) : ∀ (fs : List Field), (fs.all fun f => (P.info? f.type).isSome) = true → qrun P (fs.mapM fun f => (do pure (f.offset, ← sizeOf f.type) : Sem (Nat × Nat))) H = some (fs.map fun f => (f.offset, P.cellsOf f.type))
  | [], _ => rfl
  | f :: fs, h => by
    simp only [List.all_cons, Bool.and_eq_true] at h
    obtain ⟨i, hi⟩ := Option.isSome_iff_exists.1 h.1
    simp only [List.mapM_cons, qrun_bind, qrun_sizeOf, hi, Option.map_some, Option.bind_some, qrun_pure, qrun_mapM_fields P H fs h.2, List.map_cons, Program.cellsOf, Option.getD_some]

def bld (P : Program) (t : TypeId) (ps : List (Nat × Value)) (k : Value → Prop) (_t : Lk k := .mk) : Prop := plOf1 P t = true ∧ wo (zrOf P t) fun z => wo (bldL (plOf P t) z ps) fun cs => nv (.agg cs.toArray) k

theorem bld_run {t : TypeId} {ps : List (Nat × Value)} {k : Value → Prop} (h : bld P t ps k) : wo (qrun P (Instr.build t ps.toArray) H) k := by
  obtain ⟨h1, h⟩ := h
  unfold wo at h
  split at h
  · rename_i z hz
    split at h
    · rename_i cs hcs
      obtain ⟨zv, hz1, hz2⟩ := zeroValue_run (H := H) hz
      have key : ∀ pl : Nat → Option (Nat × Nat), pl = plOf P t → Instr.fill pl zv.cells ps = some cs.toArray := fun pl hp => by
        subst hp
        exact fill_of_bldL _ _ _ _ (by rw [hz2]; exact hcs)
      unfold plOf1 at h1
      simp only [Instr.build, qrun_bind, hz1, Option.bind_some, qrun_underlying]
      split at h1
      · rename_i fs hu
        have hm : qrun P (fs.mapM fun f => (do pure (f.offset, ← sizeOf f.type) : Sem (Nat × Nat))) H = some (fs.toList.map fun f => (f.offset, P.cellsOf f.type)).toArray := by
          have e2 : fs.mapM (fun f => (do pure (f.offset, ← sizeOf f.type) : Sem (Nat × Nat))) = List.toArray <$> fs.toList.mapM (fun f => (do pure (f.offset, ← sizeOf f.type) : Sem (Nat × Nat))) := by
            rw [← List.mapM_toArray]
          rw [e2, qrun_map, qrun_mapM_fields P H _ h1]; rfl
        simp only [hu, Option.bind_some, qrun_bind, hm]
        rw [key _ (by
          funext i
          simp [plOf, hu])]
        exact h
      · rename_i l e hu
        obtain ⟨i, hi⟩ := Option.isSome_iff_exists.1 h1
        simp only [hu, Option.bind_some, qrun_bind, qrun_sizeOf, hi, Option.map_some]
        rw [key _ (by funext j; simp [plOf, hu, Program.cellsOf, hi])]
        exact h
      · cases h1
    · exact h.elim
  · exact h.elim

def acl (q : Bool) (P : Program) (H : AH) (f : Value) (as_ : List Value) (K : Value → AH → Prop) (_t : Lk (K, H) := .mk) : Prop :=
  match f with
  | .func (.func g) first cap => fnOk P g = true ∧ AC q P g (first.toList ++ as_ ++ cap.toList).toArray H K
  | _ => False
theorem acl_func {g : Nat} {first cap : List Value} {as_ : List Value} {K : Value → AH → Prop} : acl q P H (.func (.func g) first.toArray cap.toArray) as_ K = (fnOk P g = true ∧ AC q P g (first ++ as_ ++ cap).toArray H K) := by simp [acl]
theorem AC_false {f : FuncId} {as_ : Array Value} {K : Value → AH → Prop} : AC false P f as_ H K = ACalls P f as_ H K := Eq.trans rfl rfl
theorem AC_true {f : FuncId} {as_ : Array Value} {K : Value → AH → Prop} : AC true P f as_ H K = QCalls P f as_ H (fun v => K v H) := Eq.trans rfl rfl

theorem acl_run {f : Value} {as_ : List Value} {K : Value → AH → Prop} {tys : Array TypeId} (o : Oper) {xs : Array Operand} {y : Operand} {fr : Fr}
    (ho : o.op = .call { callee := .value y, args := xs, argTypes := tys }) (hf : evd fr y = f) (has : xs.toList.map (evd fr) = as_) (h : acl q P H f as_ K) : aop q P fr H o K := by
  unfold acl at h
  split at h
  · rename_i g first cap
    obtain ⟨h1, h2⟩ := h
    unfold fnOk at h1
    split at h1
    · rename_i fn hfn
      simp only [Bool.and_eq_true, bne_iff_ne, ne_eq] at h1
      have hbody : fn.body.isNone = false := by cases hb : fn.body with
        | none => rw [hb] at h1; simp at h1
        | some c => rfl
      have hname : (fn.name == "runtime.NumGoroutine") = false := by simpa using h1.1
      have hq : qrun P (execOp (evd fr) o) H = some (.enter g (first.toList ++ as_ ++ cap.toList).toArray) := by
        simp only [execOp, ho, resolve, hf, Deferred.ofValue, qrun_bind, qrun_pure, Option.bind_some, invoke, callFunc, qrun_program, hfn]
        simp only [hname, hbody, Bool.false_eq_true, if_false, qrun_pure]
        simp [← has]
      simp only [aop, ho, cls, hq, anext]
      exact h2
    · cases h1
  · exact h.elim

def nck (v : Value) (k : Value → Prop) (_t : Lk k := .mk) : Prop :=
  match v with
  | .pointer (some _) => k v
  | .func (.func _) _ _ => k v
  | .iface _ _ => k v
  | _ => False
theorem nck_ptr {a : Addr} {k : Value → Prop} : nck (.pointer (some a)) k = k (.pointer (some a)) := Eq.trans rfl rfl
def rdop (P : Program) (H : AH) (s : Sem Value) (k : Value → Prop) (_t : Lk (k, H) := .mk) : Prop := wo (qrun P s H) fun v => nv v k

def osome (fr : Fr) (o : Option Operand) (k : Option Value → Prop) (_t : Lk (k, fr) := .mk) : Prop :=
  match o with
  | some x => wv fr x fun v => k (some v)
  | none => k none
theorem osome_some {x : Operand} {k : Option Value → Prop} : osome fr (some x) k = wv fr x fun v => k (some v) := Eq.trans rfl rfl
theorem osome_none {k : Option Value → Prop} : osome fr none k = k none := Eq.trans rfl rfl

def rdv (u : Option TypeDesc) : Builtin → List Value → Option Value
  | .len, [.string s] => match u with | some .string => some (.int .i64 s.size) | _ => none
  | .len, [.slice _ n _] => match u with | some (.slice _) => some (.int .i64 n) | _ => none
  | .cap, [.slice _ _ n] => match u with | some (.slice _) => some (.int .i64 n) | _ => none
  | .min, [.int k a, .int _ b] => some (.int k (if b < a then b else a))
  | .max, [.int k a, .int _ b] => some (.int k (if b > a then b else a))
  | _, _ => none
def rdb (u : Option TypeDesc) (b : Builtin) (as_ : List Value) (k : Value → Prop) (_t : Lk k := .mk) : Prop := wo (rdv u b as_) fun v => nv v k
theorem rdb_len_slice {e : TypeId} {a : Option Addr} {n c : Nat} {k : Value → Prop} : rdb (some (.slice e)) .len [.slice a n c] k = nv (.int .i64 n) k := Eq.trans rfl rfl
theorem rdb_cap_slice {e : TypeId} {a : Option Addr} {n c : Nat} {k : Value → Prop} : rdb (some (.slice e)) .cap [.slice a n c] k = nv (.int .i64 c) k := Eq.trans rfl rfl
theorem rdb_min {u : Option TypeDesc} {kd : IntKind} {a b : Int} {k : Value → Prop} : rdb u .min [.int kd a, .int kd b] k = nv (.int kd (if b < a then b else a)) k := Eq.trans rfl rfl
theorem rdb_max {u : Option TypeDesc} {kd : IntKind} {a b : Int} {k : Value → Prop} : rdb u .max [.int kd a, .int kd b] k = nv (.int kd (if b > a then b else a)) k := Eq.trans rfl rfl
theorem rdv_run {b : Builtin} {ts : Array TypeId} {as_ : List Value} {v : Value} {cs : Array Bool} (h : rdv (ts[0]?.bind P.underlying) b as_ = some v) : qrun P (builtin b ts ty cs as_.toArray) H = some (.value v) := by
  cases ht : ts[0]? with
  | none =>
    rw [ht] at h
    unfold rdv at h
    split at h <;> simp at h
    · subst h; simp [builtin, Builtin.min_, Builtin.min2, qrun_pure, qrun_map]
    · subst h; simp [builtin, Builtin.max_, Builtin.max2, qrun_pure, qrun_map]
  | some t =>
    rw [ht] at h
    simp only [Option.bind_some] at h
    unfold rdv at h
    split at h
    · split at h
      · rename_i hu; cases h; simp [builtin, Builtin.len_, qrun_bind, qrun_map, qrun_underlying, ht, hu, qrun_pure, goInt]
      · cases h
    · split at h
      · rename_i hu; cases h; simp [builtin, Builtin.len_, qrun_bind, qrun_map, qrun_underlying, ht, hu, qrun_pure, goInt]
      · cases h
    · split at h
      · rename_i hu; cases h; simp [builtin, Builtin.cap_, qrun_bind, qrun_map, qrun_underlying, ht, hu, qrun_pure, goInt]
      · cases h
    · cases h; simp [builtin, Builtin.min_, Builtin.min2, qrun_pure, qrun_map]
    · cases h; simp [builtin, Builtin.max_, Builtin.max2, qrun_pure, qrun_map]
    · cases h

def slE (P : Program) (t : TypeId) : Option (TypeId × Nat × List Value × Nat) :=
  match P.underlying t with
  | some (.slice e) => (P.info? e).bind fun i => i.zero.map fun z => (e, i.size, z.cells.toList, i.bytes)
  | _ => none
theorem slE_some {t e sz bt : Nat} {zs : List Value} (h : slE P t = some (e, sz, zs, bt)) : P.underlying t = some (.slice e) ∧ ∃ i z, P.info? e = some i ∧ i.zero = some z ∧ i.size = sz ∧ z.cells.toList = zs ∧ i.bytes = bt := by
  unfold slE at h
  split at h
  · rename_i e' hu
    obtain ⟨i, hi, h⟩ := Option.bind_eq_some_iff.1 h
    obtain ⟨z, hz, h⟩ := Option.map_eq_some_iff.1 h
    simp only [Prod.mk.injEq] at h
    obtain ⟨rfl, h1, h2, h3⟩ := h
    exact ⟨hu, i, z, hi, hz, h1, h2, h3⟩
  · cases h

def AllN (n : Nat) (k : Nat → Prop) (_t : Lk k := .mk) : Prop := ∀ c, n ≤ c → k c
theorem AllN.mk {n : Nat} {k : Nat → Prop} (h : ∀ c, n ≤ c → k c) : AllN n k := h

def newr (e : TypeId) (cs : List Value) (len : Nat) (H : AH) (k : Value → AH → Prop) (_t : Lk (k, H) := .mk) : Prop :=
  AllB H fun b => k (.slice (some ⟨b, 0, none⟩) len len) (H.add b (.cells cs e cs.length))
theorem arun_newRow {e : TypeId} {cs : Array Value} {k : Addr → AH → Prop} (h : AllB H fun b => k ⟨b, 0, none⟩ (H.add b (.cells cs.toList e cs.size))) : arun P (newRow e cs) H k := by
  simp only [newRow, newObj, arun_bind, arun, true_and]
  exact h

theorem lput_eq : ∀ (vs cs : List Value) (off : Nat), off + vs.length ≤ cs.length → lput cs off vs = cs.take off ++ vs ++ cs.drop (off + vs.length)
  | [], cs, off, _ => by simp [lput]
  | v :: vs, cs, off, h => by
    simp only [List.length_cons] at h
    rw [lput, lput_eq vs _ _ (by simp; omega), List.take_add_one, List.drop_set]
    have e : (List.take off cs).set off v = List.take off cs := List.set_eq_of_length_le (by simp; omega)
    simp [List.getElem?_set, show off < cs.length from by omega, List.take_set, e, show off < off + 1 + vs.length from by omega, show off + 1 + vs.length = off + (vs.length + 1) from by omega]

theorem arun_qbind {α β : Type} {x : Sem α} {f : α → Sem β} {a : α} {K : β → AH → Prop} (h : qrun P x H = some a) (hk : arun P (f a) H K) : arun P (x >>= f) H K := by
  rw [arun_bind]; exact arun_of_qrun _ _ _ h hk

def bskL (sz : Nat) : Nat → List (Nat × Value) → Option (List Value)
  | _, [] => some []
  | i, (j, v) :: r => if j = i ∧ (vcells v).length = sz then (bskL sz (i + 1) r).map (vcells v ++ ·) else none
theorem bldL_bskL (sz : Nat) : ∀ (ps : List (Nat × Value)) (i : Nat) (cs r : List Value), bskL sz i ps = some r → cs.length = (i + ps.length) * sz → bldL (fun j => some (j * sz, sz)) cs ps = some (cs.take (i * sz) ++ r)
  | [], i, cs, r, h, hl => by
    simp only [bskL, Option.some.injEq] at h; subst h
    simp only [bldL, List.append_nil, Option.some.injEq]
    rw [List.take_of_length_le]; simp at hl; omega
  | (j, v) :: ps, i, cs, r, h, hl => by
    simp only [bskL] at h
    split at h
    · rename_i hc
      obtain ⟨rfl, hv⟩ := hc
      obtain ⟨r', hr, rfl⟩ := Option.map_eq_some_iff.1 h
      have e1 : (j + (ps.length + 1)) * sz = j * sz + sz + ps.length * sz := by rw [Nat.add_mul, Nat.succ_mul]; omega
      have hle : j * sz + sz ≤ cs.length := by simp only [List.length_cons] at hl; rw [hl, e1]; omega
      simp only [bldL]
      rw [if_pos ⟨hv, hle⟩, bldL_bskL sz ps (j + 1) _ r' hr (by rw [lput_length, hl]; simp only [List.length_cons]; rw [show j + 1 + ps.length = j + (ps.length + 1) from by omega])]
      rw [lput_eq _ _ _ (by omega), show (j + 1) * sz = j * sz + sz from Nat.succ_mul _ _]
      congr 1
      rw [← List.append_assoc]
      congr 1
      have hL : (List.take (j * sz) cs ++ vcells v).length = j * sz + sz := by simp [hv]; omega
      rw [List.take_append_of_le_length (by omega), List.take_of_length_le (by omega)]
    · cases h
def bsl (P : Program) (t : TypeId) (len : Nat) (ps : List (Nat × Value)) (H : AH) (k : Value → AH → Prop) (_t : Lk (k, H) := .mk) : Prop :=
  wo (slE P t) fun s => len = ps.length ∧ len * s.2.1 ≤ 16777216 ∧ wo (bskL s.2.1 0 ps) fun cs => newr s.1 cs len H k
theorem qrun_zeroValue {e : TypeId} {i : TypeInfo} {z : Value} (hi : P.info? e = some i) (hz : i.zero = some z) : qrun P (zeroValue e) H = some z := by
  simp only [zeroValue, typeInfo, program, qrun_bind, qrun, Option.bind_some, hi, qrun_pure, hz]
theorem bsl_run {t : TypeId} {len : Nat} {ps : List (Nat × Value)} {k : Value → AH → Prop} (h : bsl P t len ps H k) : arun P (Instr.buildSlice t len ps.toArray) H k := by
  unfold bsl wo at h
  split at h
  · rename_i s hs
    obtain ⟨e, sz, zs, bt⟩ := s
    obtain ⟨hu, i, z, hi, hz, h1, h2, h3⟩ := slE_some hs
    obtain ⟨hl, hle, h⟩ := h
    simp only at hl hle h
    split at h
    · rename_i cs hcs
      simp only [Instr.buildSlice, arun_bind]
      refine arun_of_qrun _ _ _ (qrun_underlying t |>.trans hu) ?_
      simp only
      have hs1 : qrun P (sizeOf e) H = some sz := by rw [qrun_sizeOf, hi, Option.map_some, h1]
      rw [arun_bind]
      refine arun_of_qrun _ _ _ hs1 ?_
      rw [if_neg (by omega)]
      have key : ∀ zc : Array Value, Instr.fill (fun j => some (j * sz, sz)) ((Array.range (len * sz)).map (zc[· % zc.size]!)) ps = some cs.toArray := fun zc =>
        fill_of_bldL _ _ _ cs (by rw [bldL_bskL sz ps 0 _ cs hcs (by simp [hl])]; simp)
      have fin : arun P (do pure (.slice (some (← newRow e cs.toArray)) len len) : Sem Value) H k := by
        rw [arun_bind]
        refine arun_newRow fun b hb => ?_
        have h1 := h b hb
        show k _ (H.add b (.cells cs.toArray.toList e cs.toArray.size))
        simpa using h1
      by_cases h0 : len * sz = 0
      · simp only [h0, if_true]
        refine arun_qbind (a := #[]) rfl ?_
        have := key #[]
        rw [h0] at this
        rw [this]
        exact fin
      · simp only [h0, if_false]
        refine arun_qbind (qrun_zeroValue hi hz) ?_
        refine arun_qbind (a := z.cells) rfl ?_
        rw [key]
        exact fin
    · exact h.elim
  · exact h.elim

def nInt : Option TypeDesc → Bool
  | some (.int _) => false
  | some _ => true
  | none => false
def srow (H : AH) (sz : Nat) : Value → Option (List Value)
  | .slice (some ⟨b, o, none⟩) n _ => H.row b o (n * sz)
  | .slice none n _ => if n = 0 then some [] else none
  | .string s => if sz = 1 then some (s.data.toList.map fun b => .int .u8 b.toNat) else none
  | _ => none
def slen : Value → Option Nat
  | .slice _ n _ => some n
  | .string s => some s.size
  | _ => none
def AH.app (H : AH) (b off : Nat) (vs : List Value) : Option AH :=
  match H.find b with
  | some (.cells cs e sz) => if off ≤ cs.length ∧ off + vs.length ≤ sz ∧ vs.all scal = true then some (H.set b (.cells (cs.take off ++ vs ++ cs.drop (off + vs.length)) e sz)) else none
  | _ => none
theorem row_length {b o n : Nat} {l : List Value} (h : H.row b o n = some l) : l.length = n := by
  unfold AH.row at h
  split at h
  · split at h
    · cases h; simp; omega
    · cases h
  · cases h
  · cases h
  · split at h
    · have : ∀ (n o : Nat) (l : List Value), baseRow H.w0 b o n = some l → l.length = n := by
        intro n
        induction n with
        | zero => intro o l h; cases h; rfl
        | succ n ih =>
          intro o l h
          simp only [baseRow] at h
          obtain ⟨v, _, h⟩ := Option.bind_eq_some_iff.1 h
          obtain ⟨l', h', rfl⟩ := Option.map_eq_some_iff.1 h
          simp [ih _ _ h']
      exact this _ _ _ h
    · cases h
theorem qrun_firstCells {sz n : Nat} {x : Value} {l : List Value} (h : srow H sz x = some l) (hn : slen x = some n) : qrun P (Builtin.firstCells sz n x) H = some l.toArray ∧ l.length = n * sz := by
  unfold srow at h
  split at h
  · rename_i b o m c
    simp only [slen, Option.some.injEq] at hn
    subst hn
    refine ⟨?_, row_length h⟩
    simp only [Builtin.firstCells]
    by_cases h0 : m * sz = 0
    · rw [h0] at h ⊢
      have := row_length h
      rw [List.eq_nil_of_length_eq_zero this]
      rfl
    · rw [qrun_loadCells P H b o _ h0, h]; rfl
  · rename_i m c
    simp only [slen, Option.some.injEq] at hn
    subst hn
    split at h
    · rename_i h0; cases h; subst h0; simp [Builtin.firstCells, qrun_pure]
    · cases h
  · rename_i s
    simp only [slen, Option.some.injEq] at hn
    subst hn
    split at h
    · rename_i h0; cases h; subst h0
      refine ⟨?_, by simp⟩
      simp only [Builtin.firstCells, qrun_pure, Option.some.injEq]
      have : s.extract 0 s.size = s := by
        apply ByteArray.ext
        rw [ByteArray.data_extract]
        exact Array.extract_size
      rw [this]
      apply Array.ext'
      simp
    · cases h
  · cases h

def apd (P : Program) (t t2 : Option TypeId) (s x : Value) (H : AH) (k : Value → AH → Prop) (_t : Lk (k, H) := .mk) : Prop :=
  match s with
  | .slice base n cap => wo t fun t => wo t2 fun t2 => nInt (P.underlying t2) = true ∧ wo (slE P t) fun E => E.2.2.1.length = E.2.1 ∧ E.2.2.2 ≠ 0 ∧
    wo (slen x) fun m => wo (srow H E.2.1 (.slice base n cap)) fun old => wo (srow H E.2.1 x) fun new =>
      imp (m = 0 ∧ n ≤ cap) (k (.slice base n cap) H) ∧
      imp (m ≠ 0 ∧ n + m ≤ cap) (match base with
        | some ⟨b, o, none⟩ => wo (H.app b (o + n * E.2.1) new) fun H' => k (.slice base (n + m) cap) H'
        | _ => False) ∧
      imp (cap < n + m) ((2 * (n + m) + 192) * E.2.2.2 ≤ 281474976710656 ∧ AllB H fun b => AllN (n + m) fun c => k (.slice (some ⟨b, 0, none⟩) (n + m) c) (H.add b (.cells (old ++ new) E.1 (c * E.2.1))))
  | _ => False
theorem growBy_le (need : Nat) : ∀ (r c : Nat), c ≤ 2 * need + 192 → Builtin.growBy need r c ≤ 2 * need + 192
  | 0, c, h => h
  | r + 1, c, h => by
    simp only [Builtin.growBy]
    split
    · exact h
    · exact growBy_le need r _ (by omega)
theorem nextcap_le {need old : Nat} (h : old < need) : Builtin.nextslicecap need old ≤ 2 * need + 192 := by
  unfold Builtin.nextslicecap
  split
  · omega
  · split
    · omega
    · exact growBy_le _ _ _ (by omega)
theorem qrun_lenOf {x : Value} {n : Nat} (h : slen x = some n) : qrun P (Builtin.lenOf x) H = some n := by
  cases x <;> simp only [slen] at h <;> first | (cases h; done) | (cases h; rfl)

theorem arun_store_app (b : Nat) (K : Unit → AH → Prop) : ∀ (vs : List Value) (off i : Nat) (H : AH) (cs : List Value) (e sz : Nat), H.find b = some (.cells cs e sz) → off + i ≤ cs.length → off + i + vs.length ≤ sz → vs.all scal = true →
    (∀ H', H'.w0 = H.w0 → (∀ b', H'.find b' = if b' = b then some (.cells (cs.take (off + i) ++ vs ++ cs.drop (off + i + vs.length)) e sz) else H.find b') → K () H') → arun P (storeCells ⟨b, off, none⟩ vs i) H K
  | [], off, i, H, cs, e, sz, hf, h1, h2, h3, hk => by
    refine hk H rfl fun b' => ?_
    by_cases hb : b' = b
    · subst hb; simp [hf]
    · simp [hb]
  | v :: vs, off, i, H, cs, e, sz, hf, h1, h2, h3, hk => by
    have ea := add_plain b off i
    simp only [List.length_cons] at h2
    simp only [List.all_cons, Bool.and_eq_true] at h3
    have es : storeCells ⟨b, off, none⟩ (v :: vs) i = (store ((⟨b, off, none⟩ : Addr).add i) v >>= fun _ => storeCells ⟨b, off, none⟩ vs (i + 1)) := rfl
    rw [es, arun_bind]
    rw [ea]
    unfold store arun
    rw [hf]
    refine ⟨h3.1, rfl, by simp only; omega, by simp only; omega, ?_⟩
    show arun P (storeCells ⟨b, off, none⟩ vs (i + 1)) _ K
    have hw : wr cs (off + i) v = cs.take (off + i) ++ [v] ++ cs.drop (off + i + 1) := by
      unfold wr
      split
      · rename_i hlt; rw [List.set_eq_take_append_cons_drop]; simp [hlt]
      · rw [List.take_of_length_le (by omega), List.drop_eq_nil_of_le (by omega)]; simp
    have hf' : (H.set b (.cells (wr cs (off + i) v) e sz)).find b = some (.cells (wr cs (off + i) v) e sz) := by simp [find_set]
    have hlen : off + i + 1 ≤ (wr cs (off + i) v).length := by rw [hw]; simp; omega
    refine arun_store_app b K vs off (i + 1) _ _ e sz hf' (by omega) (by omega) h3.2 fun H' hw0 hH' => hk H' (by rw [hw0]; rfl) fun b' => ?_
    rw [hH' b']
    by_cases hb : b' = b
    · subst hb
      simp only [if_true]
      rw [hw]
      have t1 : (List.take (off + i) cs).length = off + i := by simp; omega
      congr 2
      rw [show off + (i + 1) = off + i + 1 from by omega]
      have e1 : List.take (off + i + 1) (List.take (off + i) cs ++ [v] ++ List.drop (off + i + 1) cs) = List.take (off + i) cs ++ [v] := by
        rw [List.take_append_of_le_length (by simp; omega), List.take_of_length_le (by simp; omega)]
      have e2 : List.drop (off + i + 1 + vs.length) (List.take (off + i) cs ++ [v] ++ List.drop (off + i + 1) cs) = List.drop (off + i + (vs.length + 1)) cs := by
        rw [List.drop_append, List.drop_eq_nil_of_le (by simp; omega)]
        simp only [List.nil_append, List.length_append, t1, List.length_singleton, List.drop_drop]
        congr 1; omega
      rw [e1, e2]; simp
    · simp only [hb, if_false, find_set]

theorem Sat.pre {E : Nat → Option Obj} {H : AH} {w : World} {b e sz : Nat} {cs rest : List Value} (h : Sat E (H.add b (.cells (cs ++ rest) e sz)) w) : Sat E (H.add b (.cells cs e sz)) w :=
  ⟨h.below, fun b' k hk => by
    rw [find_add] at hk
    split at hk
    · rename_i hb
      subst hb; cases hk
      obtain ⟨h1, h2, arr, h3, h4, h5⟩ := h.known b' _ (find_add_self _ _ _)
      exact ⟨h1, h2, arr, h3, h4, (List.prefix_append cs rest).trans h5⟩
    · rename_i hb
      exact h.known b' k (by rw [find_add, if_neg hb]; exact hk), fun b' o ho => by
    obtain ⟨h1, h2, h3⟩ := h.far b' o ho
    refine ⟨h1, ?_, h3⟩
    rw [find_add] at h2 ⊢
    split at h2
    · cases h2
    · rename_i hb; rw [if_neg hb]; exact h2⟩
theorem Sat.of_find {E : Nat → Option Obj} {H H' : AH} {w : World} (h : Sat E H w) (h0 : H'.w0 = H.w0) (hf : ∀ b, H'.find b = H.find b) : Sat E H' w := h.mono ⟨h0, fun b k x => by rw [← hf]; exact x⟩

theorem apd_run {ts : Array TypeId} {ty : TypeId} {s x : Value} {k : Value → AH → Prop} (h : apd P ts[0]? ts[1]? s x H k) : ASem P (do pure (.value (← Builtin.append_ ts ty #[s, x]))) H k := by
  unfold apd at h
  split at h
  · rename_i base n cap
    unfold wo at h
    split at h
    · rename_i t ht
      split at h
      · rename_i t2 ht2
        obtain ⟨hni, h⟩ := h
        split at h
        · rename_i E hE
          obtain ⟨e, sz, zs, bt⟩ := E
          obtain ⟨hu, i, z, hi, hz, h1, h2, h3⟩ := slE_some hE
          obtain ⟨hzl, hbt, h⟩ := h
          simp only at hzl hbt h
          split at h
          · rename_i m hm
            split at h
            · rename_i old hold
              split at h
              · rename_i new hnew
                obtain ⟨c1, c2, c3⟩ := h
                obtain ⟨q1, l1⟩ := qrun_firstCells (P := P) hold (n := n) rfl
                obtain ⟨q2, l2⟩ := qrun_firstCells (P := P) hnew hm
                have hbytes : qrun P (typeInfo e) H = some i := by simp only [typeInfo, program, qrun_bind, qrun, Option.bind_some, hi, qrun_pure]
                obtain ⟨u2, hu2⟩ : ∃ u, P.underlying t2 = some u := by cases hh : P.underlying t2 with
                  | none => rw [hh] at hni; cases hni
                  | some u => exact ⟨u, rfl⟩
                have hz0 : ∀ {α : Type} (A B : α), (match u2 with | .int _ => A | _ => B) = B := fun A B => by
                  rw [hu2] at hni; cases u2 <;> first | rfl | cases hni
                suffices hm : arun P (Builtin.append_ ts ty #[.slice base n cap, x]) H (fun v H' => ∃ H1, (∀ E w, Sat E H' w → Sat E H1 w) ∧ k v H1) by
                  intro E w hs
                  obtain ⟨v, w', H', r1, r2, H1, r3, r5⟩ := arun_sound P _ _ _ w hm hs
                  refine ⟨.value v, w', H1, ?_, r3 _ _ r2, r5⟩
                  show (Builtin.append_ ts ty #[.slice base n cap, x] >>= fun v => pure (Next.value v)).run P w = _
                  simp only [Sem.run_bind, r1, Result.andThen_ok, Sem.run_pure]
                have same : ∀ v H1, k v H1 → ∃ H2 : AH, (∀ E w, Sat E H1 w → Sat E H2 w) ∧ k v H2 := fun v H1 h => ⟨H1, fun _ _ h => h, h⟩
                unfold Builtin.append_
                simp only [ht, ht2]
                refine arun_qbind ((qrun_underlying t).trans hu) ?_
                refine arun_qbind (a := sz) (by rw [qrun_sizeOf, hi, Option.map_some, h1]) ?_
                refine arun_qbind ((qrun_underlying t2).trans hu2) ?_
                refine arun_qbind (a := false) (by cases u2 <;> first | rfl | (rw [hu2] at hni; cases hni)) ?_
                simp only [Bool.false_eq_true, if_false, Bool.not_false, if_true]
                refine arun_qbind (qrun_lenOf hm) ?_
                by_cases hc : n + m ≤ cap
                · rw [if_pos hc]
                  refine arun_qbind q2 ?_
                  by_cases hm0 : m = 0
                  · have hn0 : new = [] := List.eq_nil_of_length_eq_zero (by rw [l2, hm0, Nat.zero_mul])
                    subst hm0; subst hn0
                    have hk := c1 ⟨rfl, by omega⟩
                    cases base with
                    | none => exact same _ _ hk
                    | some a => exact same _ _ hk
                  · have hk := c2 ⟨hm0, hc⟩
                    cases base with
                    | none => exact hk.elim
                    | some a =>
                      obtain ⟨b, o, spot⟩ := a
                      cases spot with
                      | some v => exact hk.elim
                      | none =>
                        simp only at hk
                        rw [arun_bind]
                        simp only [add_plain]
                        unfold AH.app at hk
                        cases hf : H.find b with
                        | none => rw [hf] at hk; exact hk.elim
                        | some kb =>
                          cases kb with
                          | amap es => rw [hf] at hk; exact hk.elim
                          | obj o => rw [hf] at hk; exact hk.elim
                          | cells cs e' bs =>
                            rw [hf] at hk
                            simp only at hk
                            split at hk
                            · rename_i v hv
                              split at hv
                              · rename_i hcond
                                cases hv
                                refine arun_store_app b _ _ _ 0 H cs e' bs hf (by omega) (by simpa using hcond.2.1) (by simpa using hcond.2.2) fun H' h0 hH' => ?_
                                refine ⟨_, fun _ w hs => hs.of_find ?_ ?_, hk⟩
                                · rw [h0]; rfl
                                · intro b'; rw [hH' b', find_set]; simp
                              · cases hv
                            · exact hk.elim
                · rw [if_neg hc]
                  obtain ⟨hroom, hk⟩ := c3 (by omega)
                  have hnx := nextcap_le (need := n + m) (old := cap) (by omega)
                  refine arun_qbind hbytes ?_
                  rw [if_neg (by rw [h3]; simp [hbt])]
                  refine arun_qbind hbytes ?_
                  rw [if_neg (by
                    rw [h3]
                    have := Nat.mul_le_mul_right bt hnx
                    omega)]
                  rw [arun_bind]
                  simp only [choose, arun, Question.forced, Bool.false_eq_true, if_false]
                  intro tt
                  have hcut : n + m ≤ (Question.appendCap (n + m) cap e).cut tt := by simp [Question.cut]
                  generalize (Question.appendCap (n + m) cap e).cut tt = c at hcut
                  refine arun_qbind hbytes ?_
                  have hroom2 : ∀ (x : Nat) (s2 : Sem Value) (K : Value → AH → Prop), arun P s2 H K → arun P (askRoom x >>= fun _ => s2) H K := fun x s2 K h => by
                    unfold askRoom
                    split
                    · exact h
                    · exact h
                  refine hroom2 _ _ _ ?_
                  refine arun_qbind q1 ?_
                  refine arun_qbind q2 ?_
                  refine arun_qbind (qrun_zeroValue hi hz) ?_
                  rw [arun_bind]
                  refine arun_newRow fun b hb => ?_
                  have hk := hk b hb c hcut
                  have hsize : (old.toArray ++ new.toArray ++ Builtin.zeroCells z.cells (c - (n + m))).size = c * sz := by
                    simp only [Builtin.zeroCells, Array.size_append, List.size_toArray, Array.size_map, Array.size_range, l1, l2]
                    have : z.cells.size = sz := by rw [← hzl, ← h2]; simp
                    rw [this, ← Nat.add_mul, ← Nat.add_mul, show n + m + (c - (n + m)) = c from by omega]
                  refine ⟨_, fun _ w hs => Sat.pre (rest := (Builtin.zeroCells z.cells (c - (n + m))).toList) ?_, hk⟩
                  rw [← hsize]
                  simpa using hs
              · exact h.elim
            · exact h.elim
          · exact h.elim
        · exact h.elim
      · exact h.elim
    · exact h.elim
  · exact h.elim

def zf (zs : List Value) (m : Nat) : List Value := (List.range m).map fun i => zs[i % zs.length]!
def mks (P : Program) (t : TypeId) (l c : Value) (H : AH) (k : Value → AH → Prop) (_t : Lk (k, H) := .mk) : Prop :=
  match l, c with
  | .int _ a, .int _ b => wo (slE P t) fun E => E.2.1 ≠ 0 ∧ 0 ≤ a ∧ a ≤ b ∧ E.2.2.2 * b ≤ 281474976710656 ∧ b < 9223372036854775808 ∧
      AllB H fun bl => k (.slice (some ⟨bl, 0, none⟩) a.toNat b.toNat) (H.add bl (.cells (zf E.2.2.1 (b.toNat * E.2.1)) E.1 (b.toNat * E.2.1)))
  | _, _ => False
theorem mks_run {t : TypeId} {l c : Value} {k : Value → AH → Prop} (h : mks P t l c H k) : arun P (Instr.makeSlice t l c) H k := by
  unfold mks at h
  split at h
  · rename_i k1 a k2 b
    unfold wo at h
    split at h
    · rename_i E hE
      obtain ⟨e, sz, zs, bt⟩ := E
      obtain ⟨hu, i, z, hi, hz, h1, h2, h3⟩ := slE_some hE
      obtain ⟨hsz, ha, hab, hbb, hb, h⟩ := h
      simp only at hsz hbb h
      have hbytes : qrun P (typeInfo e) H = some i := by simp only [typeInfo, program, qrun_bind, qrun, Option.bind_some, hi, qrun_pure]
      have wa : IntKind.i64.wrap a = a := by rw [IntKind.wrap_i64]; omega
      have wb : IntKind.i64.wrap b = b := by rw [IntKind.wrap_i64]; omega
      have room : ∀ (x : Nat) (s2 : Sem Value) (K : Value → AH → Prop), arun P s2 H K → arun P (askRoom x >>= fun _ => s2) H K := fun x s2 K h => by
        unfold askRoom
        split <;> exact h
      unfold Instr.makeSlice
      refine arun_qbind ((qrun_underlying t).trans hu) ?_
      refine arun_qbind (a := a) rfl ?_
      refine arun_qbind (a := b) rfl ?_
      refine arun_qbind hbytes ?_
      simp only [wa, wb, h3]
      have hnot : ¬ ((decide (b < 0) || decide ((bt : Int) * b > 2 ^ 48) || decide (a < 0) || decide (a > b)) = true) := by
        simp only [Bool.or_eq_true, decide_eq_true_eq, not_or]
        refine ⟨⟨⟨by omega, ?_⟩, by omega⟩, by omega⟩
        have : (2 : Int) ^ 48 = 281474976710656 := by decide
        omega
      rw [if_neg (by simpa using hnot)]
      refine room _ _ _ ?_
      refine arun_qbind (a := sz) (by rw [qrun_sizeOf, hi, Option.map_some, h1]) ?_
      have fin : ∀ zc : Array Value, (b.toNat * sz ≠ 0 → zc = z.cells) → arun P (do pure (.slice (some (← newRow e ((Array.range (b.toNat * sz)).map (zc[· % zc.size]!)))) a.toNat b.toNat) : Sem Value) H k := fun zc hzc => by
        rw [arun_bind]
        refine arun_newRow fun bl hbl => ?_
        have h' := h bl hbl
        have e1 : ((Array.range (b.toNat * sz)).map (zc[· % zc.size]!)).toList = zf zs (b.toNat * sz) := by
          by_cases h0 : b.toNat * sz = 0
          · rw [h0]; simp [zf]
          · rw [hzc h0, ← h2]
            simp [zf]
            intro j _
            rw [getElem!_def]
            cases z.cells[j % z.cells.size]? <;> rfl
        show k _ (H.add bl (.cells ((Array.range (b.toNat * sz)).map (zc[· % zc.size]!)).toList e ((Array.range (b.toNat * sz)).map (zc[· % zc.size]!)).size))
        rw [e1]
        simpa using h'
      by_cases h0 : b.toNat * sz = 0
      · rw [if_pos h0]
        refine arun_qbind (a := #[]) rfl ?_
        exact fin #[] (fun h => absurd h0 h)
      · rw [if_neg h0]
        refine arun_qbind (qrun_zeroValue hi hz) ?_
        refine arun_qbind (a := z.cells) rfl ?_
        exact fin _ (fun _ => rfl)
    · exact h.elim
  · exact h.elim

def plainKey : TypeDesc → Bool
  | .int _ | .string | .bool => true
  | _ => false
def mpE (P : Program) (t : TypeId) : Option (TypeDesc × Value) :=
  match P.underlying t with
  | some (.map kt e) => (P.underlying kt).bind fun d => if plainKey d then (P.info? e).bind fun i => i.zero.map fun z => (d, z) else none
  | _ => none
theorem mpE_some {t : TypeId} {d : TypeDesc} {z : Value} (h : mpE P t = some (d, z)) : ∃ kt e i, P.underlying t = some (.map kt e) ∧ P.underlying kt = some d ∧ plainKey d = true ∧ P.info? e = some i ∧ i.zero = some z := by
  unfold mpE at h
  split at h
  · rename_i kt e hu
    obtain ⟨d', hd, h⟩ := Option.bind_eq_some_iff.1 h
    split at h
    · rename_i hp
      obtain ⟨i, hi, h⟩ := Option.bind_eq_some_iff.1 h
      obtain ⟨z', hz, h⟩ := Option.map_eq_some_iff.1 h
      simp only [Prod.mk.injEq] at h
      obtain ⟨rfl, rfl⟩ := h
      exact ⟨kt, e, i, hu, hd, hp, hi, hz⟩
    · cases h
  · cases h
def mlk (d : TypeDesc) (key : Value) : List (Value × Value) → Nat → Option (Option (Nat × Value))
  | [], _ => some none
  | (k, v) :: es, i => match Instr.sameNow d key k with
    | some true => some (some (i, v))
    | some false => mlk d key es (i + 1)
    | none => none
theorem findNow_mlk (d : TypeDesc) (key : Value) : ∀ (es : List MapEntry) (i : Nat), Instr.findNow d key es i = mlk d key (es.map fun x => (x.key, x.val)) i
  | [], _ => rfl
  | e :: es, i => by
    simp only [Instr.findNow, List.map_cons, mlk, findNow_mlk d key es]
    rfl
theorem mlk_same {d : TypeDesc} {key v : Value} : ∀ {es : List (Value × Value)} {i j : Nat}, mlk d key es i = some (some (j, v)) → ∃ m k, j = i + m ∧ es[m]? = some (k, v) ∧ Instr.sameNow d key k = some true
  | [], i, j, h => by cases h
  | (k, v') :: es, i, j, h => by
    simp only [mlk] at h
    split at h
    · rename_i hs; cases h; exact ⟨0, k, rfl, rfl, hs⟩
    · obtain ⟨m, k', h1, h2, h3⟩ := mlk_same h
      exact ⟨m + 1, k', by omega, by simpa using h2, h3⟩
    · cases h
theorem sameNow_eq {d : TypeDesc} {a b : Value} (h : Instr.sameNow d a b = some true) : b = a ∧ Instr.sameBits 10000 b a = true := by
  unfold Instr.sameNow at h
  split at h
  · split at h
    · rename_i hk
      subst hk
      simp only [Option.some.injEq, beq_iff_eq] at h
      subst h; exact ⟨rfl, by simp [Instr.sameBits]⟩
    · cases h
  · simp only [Option.some.injEq] at h
    have h' := h
    rename_i x y
    have e : x = y := by
      cases x; cases y
      exact congrArg ByteArray.mk (eq_of_beq h)
    subst e; exact ⟨rfl, by simp only [Instr.sameBits]; exact h'⟩
  · simp only [Option.some.injEq, beq_iff_eq] at h
    subst h; exact ⟨rfl, by simp [Instr.sameBits]⟩
  · cases h

def AH.mp (H : AH) (r : Nat) : Option (List (Value × Value)) :=
  match H.find r with
  | some (.amap es) => some es
  | _ => none
def AH.mset (H : AH) (r : Nat) (es : List (Value × Value)) : Option AH :=
  match H.find r with
  | some (.amap _) => some (H.set r (.amap es))
  | _ => none
theorem mp_add_self (H : AH) (b : Nat) (es : List (Value × Value)) : (H.add b (.amap es)).mp b = some es := by simp [AH.mp, find_add]
theorem mp_add_ne (H : AH) {b b' : Nat} (h : b ≠ b') (k : ABlk) : (H.add b k).mp b' = H.mp b' := by
  unfold AH.mp; rw [find_add, if_neg (Ne.symm h)]
theorem mset_add_self (H : AH) (b : Nat) (es es' : List (Value × Value)) : (H.add b (.amap es)).mset b es' = some (H.add b (.amap es')) := by
  unfold AH.mset; rw [find_add, if_pos rfl]; simp [AH.set, AH.add, aset]
theorem mset_add_ne (H : AH) {b b' : Nat} (h : b ≠ b') (k : ABlk) (es : List (Value × Value)) : (H.add b k).mset b' es = (H.mset b' es).map (·.add b k) := by
  unfold AH.mset
  rw [find_add, if_neg (Ne.symm h)]
  split <;> simp [AH.set, AH.add, aset, Ne.symm h]

def mres (ok : Bool) (z : Value) : Option (Nat × Value) → Value
  | some (_, v) => if ok = true then .tuple #[v, .bool true] else v
  | none => if ok = true then .tuple #[z, .bool false] else z
def lkp (P : Program) (t : TypeId) (m key : Value) (ok : Bool) (H : AH) (k : Value → AH → Prop) (_t : Lk (k, H) := .mk) : Prop :=
  match m with
  | .map (some r) => wo (mpE P t) fun E => wo (H.mp r) fun es => wo (mlk E.1 key es 0) fun o => nv (mres ok E.2 o) fun v => k v H
  | .map none => wo (mpE P t) fun E => wo (mlk E.1 key [] 0) fun o => nv (mres ok E.2 o) fun v => k v H
  | _ => False
theorem qrun_checkKey_succ {kt : TypeId} {d : TypeDesc} {key : Value} {em : Bool} {m : Nat} (hd : P.underlying kt = some d) (hp : plainKey d = true) : qrun P (Instr.checkKey em (m + 1) kt key) H = some () := by
  simp only [Instr.checkKey, qrun_bind, qrun_underlying, hd, Option.bind_some]
  cases d <;> first | rfl | cases hp
theorem qrun_checkKey {kt : TypeId} {d : TypeDesc} {key : Value} {em : Bool} (hd : P.underlying kt = some d) (hp : plainKey d = true) : qrun P (Instr.checkKey em 10000 kt key) H = some () := qrun_checkKey_succ (m := 9999) hd hp
theorem qrun_findKey {kt : TypeId} {d : TypeDesc} {key : Value} {es : List MapEntry} {o : Option (Nat × Value)} (hd : P.underlying kt = some d) (h : mlk d key (es.map fun x => (x.key, x.val)) 0 = some o) : qrun P (Instr.findKey kt key es) H = some o := by
  simp only [Instr.findKey, qrun_bind, qrun_underlying, hd, Option.bind_some, findNow_mlk, h, qrun_pure]
theorem lkp_run {t : TypeId} {m key : Value} {ok : Bool} {k : Value → AH → Prop} (h : lkp P t m key ok H k) : arun P (Instr.lookup t m key ok) H k := by
  have tail : ∀ (d : TypeDesc) (z : Value) (kt e : TypeId) (i : TypeInfo) (es : Array MapEntry) (o : Option (Nat × Value)), P.underlying kt = some d → plainKey d = true → P.info? e = some i → i.zero = some z →
      mlk d key (es.toList.map fun x => (x.key, x.val)) 0 = some o → k (mres ok z o) H →
      arun P (do
        Instr.checkKey es.isEmpty 10000 kt key
        let (v, ok') ← match ← Instr.findKey kt key es.toList with
          | some (_, v) => pure (v, true)
          | none => pure (← zeroValue e, false)
        pure (if ok then .tuple #[v, .bool ok'] else v) : Sem Value) H k := fun d z kt e i es o hd hp hi hz ho hk => by
    refine arun_qbind (qrun_checkKey hd hp) ?_
    refine arun_qbind (qrun_findKey hd ho) ?_
    cases o with
    | some p =>
      obtain ⟨j, v⟩ := p
      refine arun_qbind (a := (v, true)) rfl ?_
      exact hk
    | none =>
      refine arun_qbind (qrun_zeroValue hi hz) ?_
      refine arun_qbind (a := (z, false)) rfl ?_
      exact hk
  unfold lkp at h
  split at h
  · rename_i r
    unfold wo at h
    split at h
    · rename_i E hE
      obtain ⟨d, z⟩ := E
      obtain ⟨kt, e, i, hu, hd, hp, hi, hz⟩ := mpE_some hE
      split at h
      · rename_i es hes
        split at h
        · rename_i o ho
          unfold Instr.lookup
          refine arun_qbind ((qrun_underlying t).trans hu) ?_
          rw [arun_bind]
          unfold AH.mp at hes
          split at hes
          · rename_i es' hf
            cases hes
            simp only [getObj, arun, hf]
            intro en cl hm
            have hm1 := hm.1
            refine arun_qbind (a := en) rfl ?_
            exact tail d z kt e i en o hd hp hi hz (by rw [hm1]; exact ho) h
          · cases hes
        · exact h.elim
      · exact h.elim
    · exact h.elim
  · unfold wo at h
    split at h
    · rename_i E hE
      obtain ⟨d, z⟩ := E
      obtain ⟨kt, e, i, hu, hd, hp, hi, hz⟩ := mpE_some hE
      split at h
      · rename_i o ho
        unfold Instr.lookup
        refine arun_qbind ((qrun_underlying t).trans hu) ?_
        refine arun_qbind (a := #[]) rfl ?_
        exact tail d z kt e i #[] o hd hp hi hz ho h
      · exact h.elim
    · exact h.elim
  · exact h.elim

def mput (es : List (Value × Value)) (key v : Value) : Option (Nat × Value) → List (Value × Value)
  | some (i, _) => es.set i (key, v)
  | none => es ++ [(key, v)]
def mup (P : Program) (t : TypeId) (m key v : Value) (H : AH) (k : AH → Prop) (_t : Lk (k, H) := .mk) : Prop :=
  match m with
  | .map (some r) => wo (mpE P t) fun E => wo (H.mp r) fun es => wo (mlk E.1 key es 0) fun o => wo (H.mset r (mput es key v o)) k
  | _ => False
theorem mup_run {t : TypeId} {m key v : Value} {k : AH → Prop} (h : mup P t m key v H k) : arun P (Instr.mapUpdate t m key v) H (fun _ H' => k H') := by
  unfold mup at h
  split at h
  · rename_i r
    unfold wo at h
    split at h
    · rename_i E hE
      obtain ⟨d, z⟩ := E
      obtain ⟨kt, e, i, hu, hd, hp, hi, hz⟩ := mpE_some hE
      split at h
      · rename_i es hes
        split at h
        · rename_i o ho
          split at h
          · rename_i H' hH'
            unfold AH.mp at hes
            split at hes
            · rename_i es' hf
              cases hes
              unfold AH.mset at hH'
              rw [hf] at hH'
              cases hH'
              unfold Instr.mapUpdate
              refine arun_qbind ((qrun_underlying t).trans hu) ?_
              rw [arun_bind]
              simp only [getObj, arun, hf]
              intro en cl hm
              have hm1 := hm.1
              refine arun_qbind (qrun_checkKey hd hp) ?_
              refine arun_qbind (qrun_findKey hd (by rw [hm1]; exact ho)) ?_
              cases o with
              | none =>
                simp only [setObj, arun, hf]
                refine ⟨⟨fun x hx => ?_, ?_⟩, ?_⟩
                rotate_left
                · rw [Array.toList_push, List.map_append, List.nodup_append]
                  refine ⟨hm.2.2, by simp, fun a ha b hb => ?_⟩
                  obtain ⟨x, hx, rfl⟩ := List.mem_map.1 ha
                  have := hm.2.1 x hx
                  simp at hb; omega
                rotate_right
                · simp only [Array.toList_push, List.mem_append, List.mem_singleton] at hx
                  rcases hx with hx | hx
                  · have := hm.2.1 x hx; omega
                  · subst hx; simp
                · have e1 : (en.push { key := key, val := v, born := cl }).toList.map (fun x => (x.key, x.val)) = mput es key v none := by
                    simp [mput, ← hm1]
                  rw [e1]; exact h
              | some p =>
                obtain ⟨j, v0⟩ := p
                obtain ⟨m', k', hj, hget, hs⟩ := mlk_same ho
                obtain ⟨hk', hbits⟩ := sameNow_eq hs
                subst hk'
                have hj' : j = m' := by omega
                subst hj'
                have hen : ∃ x, en[j]? = some x ∧ x.key = k' := by
                  rw [← hm1, List.getElem?_map] at hget
                  obtain ⟨x, hx, hx2⟩ := Option.map_eq_some_iff.1 hget
                  simp only [Prod.mk.injEq] at hx2
                  exact ⟨x, by simpa using hx, hx2.1⟩
                obtain ⟨x, hx, hxk⟩ := hen
                have hkey : ((en[j]?).map (·.key)).getD k' = k' := by rw [hx]; exact hxk
                refine arun_qbind (a := k') (by simp only [hkey, Instr.keyThatStays, hbits, if_true, qrun_pure]) ?_
                simp only [setObj, arun, hf]
                have hmb : (en.modify j fun e => { e with key := k', val := v }).toList.map (·.born) = en.toList.map (·.born) := by
                  apply List.ext_getElem?
                  intro q
                  simp only [List.getElem?_map, Array.getElem?_toList, Array.getElem?_modify]
                  split
                  · rename_i e; subst e; cases en[j]? <;> rfl
                  · rfl
                have hmod : ∀ y ∈ (en.modify j fun e => { e with key := k', val := v }).toList, y.born < cl := fun y hy => by
                  obtain ⟨q, hq⟩ := List.mem_iff_getElem?.1 hy
                  rw [Array.getElem?_toList, Array.getElem?_modify] at hq
                  split at hq
                  · obtain ⟨y0, hy0, rfl⟩ := Option.map_eq_some_iff.1 hq
                    have := hm.2.1 y0 (List.mem_iff_getElem?.2 ⟨q, by simpa using hy0⟩)
                    exact this
                  · exact hm.2.1 y (List.mem_iff_getElem?.2 ⟨q, by simpa using hq⟩)
                refine ⟨⟨hmod, hmb ▸ hm.2.2⟩, ?_⟩
                have e1 : (en.modify j fun e => { e with key := k', val := v }).toList.map (fun x => (x.key, x.val)) = mput es k' v (some (j, v0)) := by
                  apply List.ext_getElem?
                  intro q
                  simp only [mput, List.getElem?_map, Array.getElem?_toList, Array.getElem?_modify, List.getElem?_set, ← hm1]
                  by_cases hq : j = q
                  · subst hq
                    have hlt : j < en.size := by
                      rcases Nat.lt_or_ge j en.size with h | h
                      · exact h
                      · rw [Array.getElem?_eq_none h] at hx; cases hx
                    simp [hx, hlt]
                  · simp [hq]
                rw [e1]; exact h
            · cases hes
          · exact h.elim
        · exact h.elim
      · exact h.elim
    · exact h.elim
  · exact h.elim
def LKS (P : Program) (t : TypeId) (m key : Value) (ok : Bool) (H : AH) (k : Value → AH → Prop) (_t : Lk (k, H) := .mk) : Prop := arun P (Instr.lookup t m key ok) H k
def MUS (P : Program) (t : TypeId) (m key v : Value) (H : AH) (k : AH → Prop) (_t : Lk (k, H) := .mk) : Prop := arun P (Instr.mapUpdate t m key v) H (fun _ H' => k H')
theorem arun_makeMap {t : TypeId} {k : Value → AH → Prop} (h : AllB H fun b => k (.map (some b)) (H.add b (.amap []))) : arun P (Instr.makeMap t none) H k := by
  simp only [Instr.makeMap, newObj, arun_bind, arun, true_and]
  exact h

def APD (P : Program) (t t2 : Option TypeId) (as_ : List Value) (H : AH) (k : Value → AH → Prop) (_t : Lk (k, H) := .mk) : Prop :=
  ∀ (ts : Array TypeId) (ty : TypeId), ts[0]? = t → ts[1]? = t2 → ASem P (do pure (.value (← Builtin.append_ ts ty as_.toArray))) H k
theorem APD.std {t t2 : Option TypeId} {s x : Value} {k : Value → AH → Prop} (h : apd P t t2 s x H k) : APD P t t2 [s, x] H k := fun ts ty h0 h1 => by
  subst h0; subst h1
  exact apd_run h
theorem ASem.post {s : Sem Next} {H : AH} {k k' : Value → AH → Prop} (h : ASem P s H k) (hk : ∀ v H', k v H' → ∃ H2, (∀ E w, Sat E H' w → Sat E H2 w) ∧ k' v H2) (hv : ∀ w nx w', s.run P w = .ok nx w' → ∃ v, nx = .value v) : ASem P s H k' := fun E w hs => by
  obtain ⟨nx, w', H', h1, h2, h3⟩ := h E w hs
  obtain ⟨v, rfl⟩ := hv w nx w' h1
  obtain ⟨H2, h4, h5⟩ := hk v H' h3
  exact ⟨_, w', H2, h1, h4 _ _ h2, h5⟩
theorem value_only {α : Type} {s : Sem Value} {w : World} {nx : Next} {w' : World} (h : (do pure (Next.value (← s)) : Sem Next).run P w = .ok nx w') : ∃ v, nx = .value v := by
  have e : (do pure (Next.value (← s)) : Sem Next) = (s >>= fun v => pure (Next.value v)) := rfl
  rw [e, Sem.run_bind] at h
  cases hr : s.run P w with
  | ok v w2 => rw [hr] at h; simp only [Result.andThen_ok, Sem.run_pure, Result.ok.injEq] at h; exact ⟨v, h.1.symm⟩
  | halt x w2 => rw [hr] at h; cases h
theorem APD.own {t t2 e sz bt b n cap m bs : Nat} {zs cs new : List Value} {x : Value} {k : Value → AH → Prop} (hE : slE P t = some (e, sz, zs, bt)) (hz : zs.length = sz) (hbt : bt ≠ 0) (hni : nInt (P.underlying t2) = true)
    (hb : H.find b = some (.cells cs e bs)) (hcs : cs.length = n * sz) (hbs : bs = cap * sz) (hx : slen x = some m) (hnew : srow H sz x = some new) (hnc : n ≤ cap) (hsc : new.all scal = true) (hroom : (2 * (n + m) + 192) * bt ≤ 281474976710656)
    (hk : ∀ b' c' HH, (b' = b ∨ Fresh H b') → n + m ≤ c' → (H.del b).add b' (.cells (cs ++ new) e (c' * sz)) = HH → k (.slice (some ⟨b', 0, none⟩) (n + m) c') HH) : APD P (some t) (some t2) [.slice (some ⟨b, 0, none⟩) n cap, x] H k := fun ts ty h0 h1 => by
  have hl : new.length = m * sz := (qrun_firstCells (P := P) hnew hx).2
  have hrow : srow H sz (.slice (some ⟨b, 0, none⟩) n cap) = some cs := by
    show H.row b 0 (n * sz) = some cs
    unfold AH.row
    rw [hb]
    simp only
    rw [if_pos (by omega), List.drop_zero, List.take_of_length_le (by omega)]
  have base := apd_run (P := P) (H := H) (ts := ts) (ty := ty) (s := .slice (some ⟨b, 0, none⟩) n cap) (x := x)
    (k := fun v H' => (v = .slice (some ⟨b, 0, none⟩) (n + m) cap ∧ n + m ≤ cap ∧ H' = H.set b (.cells (cs ++ new) e bs)) ∨ (∃ b' c', Fresh H b' ∧ n + m ≤ c' ∧ v = .slice (some ⟨b', 0, none⟩) (n + m) c' ∧ H' = H.add b' (.cells (cs ++ new) e (c' * sz))) ∨ (m = 0 ∧ v = .slice (some ⟨b, 0, none⟩) n cap ∧ H' = H)) (by
    rw [h0, h1]
    refine ⟨hni, ?_⟩
    show wo (slE P t) _
    rw [hE]
    refine ⟨hz, hbt, ?_⟩
    rw [hx]
    show wo (srow H sz (.slice (some ⟨b, 0, none⟩) n cap)) _
    rw [hrow]
    show wo (srow H sz x) _
    rw [hnew]
    refine ⟨fun h => .inr (.inr ⟨h.1, rfl, rfl⟩), fun h => ?_, fun h => ⟨hroom, fun b' hb' c' hc' => .inr (.inl ⟨b', c', hb', hc', rfl, rfl⟩)⟩⟩
    have happ : H.app b (0 + n * sz) new = some (H.set b (.cells (cs ++ new) e bs)) := by
      unfold AH.app
      rw [hb]
      simp only
      rw [if_pos ⟨by omega, by rw [hl, hbs, Nat.zero_add, ← Nat.add_mul]; exact Nat.mul_le_mul_right _ h.2, hsc⟩, Nat.zero_add, List.take_of_length_le (by omega), List.drop_eq_nil_of_le (by omega), List.append_nil]
    show wo (H.app b (0 + n * sz) new) _
    rw [happ]
    exact .inl ⟨rfl, h.2, rfl⟩)
  refine base.post (fun v H' h => ?_) (fun w nx w' h => value_only (α := Unit) h)
  rcases h with ⟨rfl, hle, rfl⟩ | ⟨b', c', hf, hle, rfl, rfl⟩ | ⟨rfl, rfl, rfl⟩
  · refine ⟨_, fun _ w hs => hs.of_find (H' := (H.del b).add b (.cells (cs ++ new) e (cap * sz))) rfl fun b'' => ?_, hk b cap _ (.inl rfl) hle rfl⟩
    rw [find_add, find_set, find_del, hbs]
    by_cases h : b'' = b <;> simp [h]
  · refine ⟨(H.del b).add b' (.cells (cs ++ new) e (c' * sz)), fun _ w hs => hs.mono ⟨rfl, fun b'' k'' h => ?_⟩, hk b' c' _ (.inr hf) hle rfl⟩
    rw [find_add] at h ⊢
    split at h
    · rename_i e; rw [if_pos e]; exact h
    · rename_i e; rw [if_neg e]
      rw [find_del] at h
      split at h
      · cases h
      · exact h
  · have hn0 : new = [] := List.eq_nil_of_length_eq_zero (by rw [hl, Nat.zero_mul])
    refine ⟨_, fun _ w hs => hs.of_find (H' := (H'.del b).add b (.cells (cs ++ new) e (cap * sz))) rfl fun b'' => ?_, hk b cap _ (.inl rfl) (by omega) rfl⟩
    rw [find_add, find_del, hn0, List.append_nil, ← hbs]
    by_cases h : b'' = b <;> simp [h, hb]


def vop (q : Bool) (P : Program) (fr : Fr) (H : AH) (o : Oper) (k : Value → AH → Prop) : Prop :=
  match o.op with
  | .move x | .assign x => wv fr x fun v => nv v fun v => k v H
  | .pick c a b => wv fr c fun c => wv fr a fun a => wv fr b fun b => pck c a b fun v => k v H
  | .binOp op t x y _ => wv fr x fun a => wv fr y fun b => bin (P.underlying t) P H op t x y a b fun v => k v H
  | .unOp op _ x => wv fr x fun a => unv P H op a fun v => k v H
  | .extract x i => wv fr x fun a => extr P H a i fun v => k v H
  | .convert s t x => wv fr x fun a => cnv (P.underlying s) (P.underlying t) P H s t a fun v => k v H
  | .load t x => wv fr x fun a => ldv (isAggU (P.underlying t)) (P.cellsOf t) a H fun v => k v H
  | .fieldAddr s x i => wv fr x fun a => fap P s i a fun v => k v H
  | .indexAddr t x i => elSz P t ≠ 0 ∧ wv fr x fun a => wv fr i fun i => ixp (P.underlying t) (elSz P t) a i fun v => k v H
  | .nilCheck x => wv fr x fun a => nck a fun v => k v H
  | .makeFunc f a b => wvs fr a.toList fun a => wvs fr b.toList fun b => k (.func f a.toArray b.toArray) H
  | .makeInterface t x => wv fr x fun a => rdop P H (Instr.makeInterface t a) fun v => k v H
  | .index t x i => wv fr x fun a => wv fr i fun i => rdop P H (Instr.index t a i) fun v => k v H
  | .field t x i => wv fr x fun a => rdop P H (Instr.field t a i) fun v => k v H
  | .slice t x lo hi mx => wv fr x fun a => osome fr lo fun lo => osome fr hi fun hi => osome fr mx fun mx => rdop P H (Instr.sliceAt t a lo hi mx) fun v => k v H
  | .build t ps => wvs fr (ps.toList.map (·.2)) fun vs => bld P t ((ps.toList.map (·.1)).zip vs) fun v => k v H
  | .sliceToArrayPointer t x => wv fr x fun a => rdop P H (Instr.arrayAt t a) fun v => k v H
  | .typeAssert x t u ok => wv fr x fun a => rdop P H (Instr.typeAssert a t u ok) fun v => k v H
  | .store t x y => q = false ∧ P.cellsOf t ≠ 0 ∧ wv fr x fun a => wv fr y fun b => stv P t a b H (k undef)
  | .alloc t => q = false ∧ wo (zrOf P t) fun cs => newb t cs H k
  | .box t x => q = false ∧ wv fr x fun v => newb t (vcells v) H k
  | .call { callee := .value f, args := xs, .. } => wv fr f fun f => wvs fr xs.toList fun as_ => acl q P H f as_ k
  | .buildSlice t len ps => q = false ∧ wvs fr (ps.toList.map (·.2)) fun vs => bsl P t len ((ps.toList.map (·.1)).zip vs) H k
  | .makeSlice t l c => q = false ∧ wv fr l fun l => wv fr c fun c => mks P t l c H k
  | .makeMap _ none => q = false ∧ AllB H fun b => k (.map (some b)) (H.add b (.amap []))
  | .lookup t x i ok => q = false ∧ wv fr x fun x => wv fr i fun i => (lkp P t x i ok H k ∨ (mpE P t = none ∧ LKS P t x i ok H k))
  | .mapUpdate t m i x => q = false ∧ wv fr m fun m => wv fr i fun i => wv fr x fun x => (mup P t m i x H (k undef) ∨ (mpE P t = none ∧ MUS P t m i x H (k undef)))
  | .insert t m i x => q = false ∧ wv fr m fun m => wv fr i fun i => wv fr x fun x => (mup P t m i x H (k undef) ∨ (mpE P t = none ∧ MUS P t m i x H (k undef)))
  | .call { callee := .builtin b, args := xs, argTypes := ts } =>
    match b with
    | .append => q = false ∧ wvs fr xs.toList fun as_ => APD P ts[0]? ts[1]? as_ H k
    | _ => match bcls b with
      | .read => wvs fr xs.toList fun as_ => rdb (ts[0]?.bind P.underlying) b as_ fun v => k v H
      | _ => o.op.operands.toList.all (kn1 fr) = true ∧ isSel o.op = false ∧ aop q P fr H o k
  | _ => o.op.operands.toList.all (kn1 fr) = true ∧ isSel o.op = false ∧ aop q P fr H o k

theorem rd_value {o : Oper} {s : Sem Value} (hc : cls o.op = .read) (he : execOp (evd fr) o = (do pure (.value (← s)))) {k : Value → AH → Prop} (h : wo (qrun P s H) fun v => k v H) : aop q P fr H o k := by
  simp only [aop, hc, he, qrun_bind]
  cases hs : qrun P s H with
  | none => rw [hs] at h; exact h
  | some v => rw [hs] at h; exact h

theorem zip_parts (g : Operand → Value) : ∀ l : List (Nat × Operand), (l.map fun (p : Nat × Operand) => (p.1, g p.2)) = (l.map (·.1)).zip ((l.map (·.2)).map g)
  | [] => rfl
  | p :: l => by simp only [List.map_cons, List.zip_cons_cons, zip_parts g l]

set_option maxHeartbeats 2000000 in
theorem vop_sound {o : Oper} {k : Value → AH → Prop} (h : vop q P fr H o k) : o.op.operands.toList.all (kn1 fr) = true ∧ isSel o.op = false ∧ aop q P fr H o k := by
  obtain ⟨dst, op, ty, pos, af, g⟩ := o
  unfold vop at h
  cases op <;> simp only at h
  case move x => exact ⟨by simp [Op.operands, h.1], rfl, h.2⟩
  case assign x => exact ⟨by simp [Op.operands, h.1], rfl, h.2⟩
  case pick c a b =>
    obtain ⟨h1, h2, h3, h4⟩ := h
    refine ⟨by simp [Op.operands, h1, h2, h3], rfl, ?_⟩
    simp only [aop, cls, execOp]
    revert h4
    generalize evd fr c = c
    cases c <;> exact id
  case binOp op t x y yt =>
    obtain ⟨h1, h2, h3⟩ := h
    exact ⟨by simp [Op.operands, h1, h2], rfl, rd_value rfl rfl h3.2⟩
  case unOp op t x => exact ⟨by simp [Op.operands, h.1], rfl, rd_value rfl rfl h.2⟩
  case extract x i => exact ⟨by simp [Op.operands, h.1], rfl, rd_value rfl rfl h.2⟩
  case convert s t x => exact ⟨by simp [Op.operands, h.1], rfl, rd_value rfl rfl h.2.2.2⟩
  case load t x => exact ⟨by simp [Op.operands, h.1], rfl, rd_value rfl rfl (ldv_run h.2)⟩
  case fieldAddr s x i => exact ⟨by simp [Op.operands, h.1], rfl, rd_value rfl rfl (fap_run h.2)⟩
  case indexAddr t x i =>
    obtain ⟨hz, h1, h2, h3⟩ := h
    exact ⟨by simp [Op.operands, h1, h2], rfl, rd_value rfl rfl (ixp_run hz h3)⟩
  case nilCheck x =>
    refine ⟨by simp [Op.operands, h.1], rfl, ?_⟩
    have h2 := h.2
    simp only [aop, cls, execOp]
    revert h2
    generalize evd fr x = v
    intro h2
    unfold nck at h2
    split at h2
    · exact h2
    · exact h2
    · exact h2
    · exact h2.elim
  case makeFunc f a b =>
    obtain ⟨h1, h2, h3⟩ := h
    refine ⟨by simp only [Op.operands, Array.toList_append, List.all_append, h1, h2, Bool.and_self], rfl, rd_value (s := Instr.makeFunc f (a.map (evd fr)) (b.map (evd fr))) rfl rfl ?_⟩
    simp only [Instr.makeFunc, qrun_pure, wo_some]
    have ea : a.map (evd fr) = (a.toList.map (evd fr)).toArray := by rw [← Array.toList_map, Array.toArray_toList]
    have eb : b.map (evd fr) = (b.toList.map (evd fr)).toArray := by rw [← Array.toList_map, Array.toArray_toList]
    rw [ea, eb]; exact h3
  case makeInterface t x => exact ⟨by simp [Op.operands, h.1], rfl, rd_value rfl rfl h.2⟩
  case index t x i =>
    obtain ⟨h1, h2, h3⟩ := h
    exact ⟨by simp [Op.operands, h1, h2], rfl, rd_value rfl rfl h3⟩
  case field t x i => exact ⟨by simp [Op.operands, h.1], rfl, rd_value rfl rfl h.2⟩
  case slice t x lo hi mx =>
    obtain ⟨h1, h⟩ := h
    have key : ∀ (o : Option Operand) (k : Option Value → Prop), osome fr o k → o.toArray.toList.all (kn1 fr) = true ∧ k (o.map (evd fr)) := fun o k h => by
      cases o with
      | none => exact ⟨rfl, h⟩
      | some x => exact ⟨by simpa using h.1, h.2⟩
    obtain ⟨h2, h⟩ := key _ _ h
    obtain ⟨h3, h⟩ := key _ _ h
    obtain ⟨h4, h⟩ := key _ _ h
    exact ⟨by simp only [Op.operands, Array.toList_append, List.all_append, h2, h3, h4]; simp [h1], rfl, rd_value rfl rfl h⟩
  case build t ps =>
    obtain ⟨h1, h2⟩ := h
    refine ⟨by simpa [Op.operands] using h1, rfl, rd_value (s := Instr.build t (ps.map fun (i, x) => (i, evd fr x))) rfl rfl ?_⟩
    have e : (ps.map fun (i, x) => (i, evd fr x)) = ((ps.toList.map (·.1)).zip ((ps.toList.map (·.2)).map (evd fr))).toArray := by
      rw [← zip_parts (evd fr) ps.toList, ← Array.toList_map, Array.toArray_toList]
    rw [e]; exact bld_run h2
  case sliceToArrayPointer t x => exact ⟨by simp [Op.operands, h.1], rfl, rd_value rfl rfl h.2⟩
  case typeAssert x t u ok => exact ⟨by simp [Op.operands, h.1], rfl, rd_value rfl rfl h.2⟩
  case store t x y =>
    obtain ⟨hq, hz, h1, h2, h3⟩ := h
    subst hq
    refine ⟨by simp [Op.operands, h1, h2], rfl, ?_⟩
    simp only [aop, cls, true_and]
    show arun P (Instr.storeAt t (evd fr x) (evd fr y) >>= fun _ => pure Next.skip) H _
    rw [arun_bind]
    exact stv_run h3 hz
  case alloc t =>
    obtain ⟨hq, h⟩ := h
    subst hq
    refine ⟨rfl, rfl, ?_⟩
    simp only [aop, cls, true_and]
    show arun P (Instr.alloc t true (.tuple #[]) >>= fun v => pure (Next.value v)) H _
    rw [arun_bind]
    unfold wo at h
    split at h
    · rename_i cs hz
      obtain ⟨z, h1, h2⟩ := zeroValue_run (H := H) hz
      simp only [Instr.alloc, arun_bind]
      refine arun_of_qrun _ _ _ h1 ?_
      refine arun_newVar ?_
      have e : vcells z = cs := h2
      rw [e]
      exact h
    · exact h.elim
  case box t x =>
    obtain ⟨hq, h1, h2⟩ := h
    subst hq
    refine ⟨by simp [Op.operands, h1], rfl, ?_⟩
    simp only [aop, cls, true_and]
    show arun P (Instr.box t (evd fr x) >>= fun v => pure (Next.value v)) H _
    rw [arun_bind]
    simp only [Instr.box, arun_bind]
    exact arun_newVar h2
  case buildSlice t len ps =>
    obtain ⟨hq, h1, h2⟩ := h
    subst hq
    refine ⟨by simpa [Op.operands] using h1, rfl, ?_⟩
    simp only [aop, cls, true_and]
    show arun P (Instr.buildSlice t len (ps.map fun (i, x) => (i, evd fr x)) >>= fun v => pure (Next.value v)) H _
    rw [arun_bind]
    have e : (ps.map fun (i, x) => (i, evd fr x)) = ((ps.toList.map (·.1)).zip ((ps.toList.map (·.2)).map (evd fr))).toArray := by
      rw [← zip_parts (evd fr) ps.toList, ← Array.toList_map, Array.toArray_toList]
    rw [e]; exact bsl_run h2
  case makeSlice t l c =>
    obtain ⟨hq, h1, h2, h3⟩ := h
    subst hq
    refine ⟨by simp [Op.operands, h1, h2], rfl, ?_⟩
    simp only [aop, cls, true_and]
    show arun P (Instr.makeSlice t (evd fr l) (evd fr c) >>= fun v => pure (Next.value v)) H _
    rw [arun_bind]
    exact mks_run h3
  case makeMap t r =>
    cases r with
    | some x => exact h
    | none =>
      obtain ⟨hq, h⟩ := h
      subst hq
      refine ⟨rfl, rfl, ?_⟩
      simp only [aop, cls, true_and]
      show arun P (Instr.makeMap t none >>= fun v => pure (Next.value v)) H _
      rw [arun_bind]
      exact arun_makeMap h
  case lookup t x i ok =>
    obtain ⟨hq, h1, h2, h3⟩ := h
    subst hq
    refine ⟨by simp [Op.operands, h1, h2], rfl, ?_⟩
    simp only [aop, cls, true_and]
    refine ASem.of_arun ?_
    show arun P (Instr.lookup t (evd fr x) (evd fr i) ok >>= fun v => pure (Next.value v)) H _
    rw [arun_bind]
    exact h3.elim lkp_run fun h => h.2
  case mapUpdate t m i x =>
    obtain ⟨hq, h1, h2, h3, h4⟩ := h
    subst hq
    refine ⟨by simp [Op.operands, h1, h2, h3], rfl, ?_⟩
    simp only [aop, cls, true_and]
    refine ASem.of_arun ?_
    show arun P (Instr.mapUpdate t (evd fr m) (evd fr i) (evd fr x) >>= fun _ => pure Next.skip) H _
    rw [arun_bind]
    exact h4.elim mup_run fun h => h.2
  case insert t m i x =>
    obtain ⟨hq, h1, h2, h3, h4⟩ := h
    subst hq
    refine ⟨by simp [Op.operands, h1, h2, h3], rfl, ?_⟩
    simp only [aop, cls, true_and]
    refine ASem.of_arun ?_
    show arun P (Instr.mapUpdate t (evd fr m) (evd fr i) (evd fr x) >>= fun _ => pure Next.skip) H _
    rw [arun_bind]
    exact h4.elim mup_run fun h => h.2
  case call c =>
    obtain ⟨callee, args, tys⟩ := c
    cases callee <;> simp only at h
    case value f =>
      obtain ⟨h1, h2, h3⟩ := h
      refine ⟨by simp only [Op.operands, Call.operands, Array.toList_append, List.all_append, h2]; simp [h1], rfl, ?_⟩
      exact acl_run _ rfl rfl rfl h3
    case builtin b =>
      split at h
      · obtain ⟨hq, h1, h2⟩ := h
        subst hq
        refine ⟨by simp only [Op.operands, Call.operands, Array.toList_append, List.all_append, h1]; rfl, rfl, ?_⟩
        have e : (args.toList.map (evd fr)).toArray = args.map (evd fr) := by rw [← Array.toList_map, Array.toArray_toList]
        simp only [aop, cls, bcls, true_and]
        show ASem P (Builtin.append_ tys ty (args.map (evd fr)) >>= fun v => pure (Next.value v)) H k
        rw [← e]
        exact h2 tys ty rfl rfl
      split at h
      · rename_i hb
        obtain ⟨h1, h2⟩ := h
        refine ⟨by simp only [Op.operands, Call.operands, Array.toList_append, List.all_append, h1]; rfl, rfl, ?_⟩
        have e : (args.toList.map (evd fr)).toArray = args.map (evd fr) := by rw [← Array.toList_map, Array.toArray_toList]
        simp only [aop, cls, hb, execOp, resolve, qrun_bind, qrun_pure, Option.bind_some, invoke]
        unfold rdb wo at h2
        split at h2
        · rename_i v hv
          have hr : ∀ cs, qrun P (builtin b tys ty cs (args.map (evd fr))) H = some (.value v) := fun cs => by
            have := rdv_run (P := P) (H := H) (ty := ty) (cs := cs) hv
            rwa [e] at this
          simp only [hr, anext]
          exact h2
        · exact h2.elim
      · exact h
    case invoke r m => exact h
  all_goals exact h

def vgo (q : Bool) (P : Program) (n : Nat) (_ds : List (Option Tmp)) (d : Option Tmp) (o : Oper) (fr : Fr) (H : AH) (K : Fr → AH → Prop) : Prop := dok n d = true ∧ vop q P fr H o (fun v H' => K (putf d v fr) H')

def vops (q : Bool) (P : Program) (n : Nat) (ds : List (Option Tmp)) : List Oper → Fr → AH → (Fr → AH → Prop) → Prop
  | [], fr, H, K => K fr H
  | ⟨d, op, ty, pos, af, none⟩ :: rest, fr, H, K => vgo q P n ds d ⟨d, op, ty, pos, af, none⟩ fr H fun fr H => vops q P n ds rest fr H K
  | ⟨d, op, ty, pos, af, some (j, want)⟩ :: rest, fr, H, K => wo (ds[j]?) fun t => wo t fun t => wo (alk t fr) fun b =>
      ag b want (vgo q P n ds d ⟨d, op, ty, pos, af, none⟩ ((t, .bool want) :: fr) H fun fr H => vops q P n ds rest fr H K)
        (dok n d = true ∧ vops q P n ds rest (putf d undef ((t, .bool !want) :: fr)) H K) (dok n d = true ∧ vops q P n ds rest (putf d undef fr) H K)

theorem aop_mono {o : Oper} {k k' : Value → AH → Prop} (hk : ∀ v H, k v H → k' v H) (h : aop q P fr H o k) : aop q P fr H o k' := by
  have hn : ∀ q nx H, anext q P k nx H → anext q P k' nx H := fun q nx H h => by
    cases nx <;> simp only [anext] at h ⊢ <;> try first | exact hk _ _ h | exact h
    cases q with
    | true => obtain ⟨v, h1, h2⟩ := h; exact ⟨v, h1, hk _ _ h2⟩
    | false => exact h.mono hk
  unfold aop at h ⊢
  split at h
  · split at h
    · exact hn _ _ _ h
    · exact h.elim
  · exact ⟨h.1, arun_mono P _ _ _ _ (fun a H h => hn _ _ _ h) h.2⟩
  · refine ⟨h.1, fun E w hs => ?_⟩
    obtain ⟨nx, w', H', h1, h2, h3⟩ := h.2 E w hs
    exact ⟨nx, w', H', h1, h2, hn _ _ _ h3⟩

theorem vops_sound : ∀ (l : List Oper) (fr : Fr) (H : AH), vops q P n ds l fr H K → aops q P n ds l fr H K
  | [], fr, H, h => h
  | ⟨d, op, ty, pos, af, none⟩ :: rest, fr, H, h => by
    obtain ⟨h1, h2⟩ := h
    obtain ⟨a1, a2, a3⟩ := vop_sound h2
    simp only [aops, aguard, gov]
    exact ⟨fun _ => ⟨by simp only [okOp, a1, a2, h1]; rfl, aop_mono (fun v H h => vops_sound rest _ _ h) a3⟩, fun e => by cases e⟩
  | ⟨d, op, ty, pos, af, some (j, want)⟩ :: rest, fr, H, h => by
    simp only [vops] at h
    cases hj : ds[j]? with
    | none => rw [hj] at h; exact h.elim
    | some t =>
      rw [hj] at h
      cases t with
      | none => exact h.elim
      | some t =>
        simp only [wo_some] at h
        cases hb : alk t fr with
        | none => rw [hb] at h; exact h.elim
        | some b =>
          rw [hb] at h
          simp only [wo_some] at h
          have yes : ∀ fr', (dok n d = true ∧ vop q P fr' H ⟨d, op, ty, pos, af, none⟩ (fun v H' => vops q P n ds rest (putf d v fr') H' K)) →
              okOp n fr' ⟨d, op, ty, pos, af, some (j, want)⟩ = true ∧ aop q P fr' H ⟨d, op, ty, pos, af, some (j, want)⟩ (fun v H' => aops q P n ds rest (putf d v fr') H' K) := fun fr' ⟨h1, h2⟩ => by
            obtain ⟨a1, a2, a3⟩ := vop_sound h2
            exact ⟨by simp only [okOp, a1, a2, h1]; rfl, aop_mono (fun v H h => vops_sound rest _ _ h) a3⟩
          have no : ∀ fr', (dok n d = true ∧ vops q P n ds rest (putf d undef fr') H K) → dok n d = true ∧ aops q P n ds rest (putf d undef fr') H K := fun fr' ⟨h1, h2⟩ => ⟨h1, vops_sound rest _ _ h2⟩
          cases b with
          | bool b =>
            have e1 : aguard ds fr ⟨d, op, ty, pos, af, some (j, want)⟩ = some (b == want) := by simp only [aguard, hj, Option.bind_some, id, hb]
            have e2 : ∀ g, gov ds fr ⟨d, op, ty, pos, af, some (j, want)⟩ g = (t, .bool (if g = true then want else !want)) :: fr := fun g => by simp only [gov, hj, Option.bind_some, id, hb]
            simp only [ag] at h
            simp only [aops, e1, e2, if_true, Bool.false_eq_true, if_false]
            exact ⟨fun e => yes _ (h.1 (by simpa using e)), fun e => no _ (h.2 (by simpa using e))⟩
          | _ =>
            have e1 : aguard ds fr ⟨d, op, ty, pos, af, some (j, want)⟩ = some false := by simp only [aguard, hj, Option.bind_some, id, hb]
            have e2 : ∀ g, gov ds fr ⟨d, op, ty, pos, af, some (j, want)⟩ g = fr := fun g => by simp only [gov, hj, Option.bind_some, id, hb]
            simp only [ag] at h
            simp only [aops, e1, e2]
            exact ⟨fun e => by simp at e, fun _ => no _ h⟩

end
end Go.AX

/- Code and calls over the abstract heap: a condition that is computed from the code, and is sound. -/
namespace Go.AX
set_option linter.unusedSimpArgs false
set_option linter.unusedVariables false
open Go Go.RowKit

def AQ (E : Nat → Option Obj) (n : Nat) (Q : Exit → Fr → AH → Prop) (e : Exit) (a : Act) (w : World) : Prop := ∃ fr H, FrOk n fr a ∧ Sat E H w ∧ Q e fr H

def AWp (P : Program) (n : Nat) (c : Code) (Q : Exit → Fr → AH → Prop) (fr : Fr) (H : AH) (_t : Lk (c, Q, fr, H) := .mk) : Prop := ∀ E a w, FrOk n fr a → Sat E H w → c.wp P (AQ E n Q) a w

def aseq (K : Fr → AH → Prop) (Q : Exit → Fr → AH → Prop) : Exit → Fr → AH → Prop
  | .normal => K
  | e => Q e

def ablock (id : Nat) (Q : Exit → Fr → AH → Prop) : Exit → Fr → AH → Prop
  | .exit id' => fun fr H => if id' = id then Q .normal fr H else Q (.exit id') fr H
  | e => Q e

def acond (v : Value) (A B : Prop) (_t : Lk (A, B) := .mk) : Prop :=
  match v with
  | .bool t => (t = true → A) ∧ (t = false → B)
  | _ => False

def avc (P : Program) (n : Nat) : Code → (Exit → Fr → AH → Prop) → Fr → AH → Prop
  | .skip, Q, fr, H => Q .normal fr H
  | .label _, Q, fr, H => Q .normal fr H
  | .exit id, Q, fr, H => Q (.exit id) fr H
  | .ret, Q, fr, H => Q .ret fr H
  | .seq a b, Q, fr, H => avc P n a (aseq (avc P n b Q) Q) fr H
  | .cond c x y, Q, fr, H => kn1 fr c = true ∧ acond (evd fr c) (avc P n x Q fr H) (avc P n y Q fr H)
  | .block id c, Q, fr, H => avc P n c (ablock id Q) fr H
  | .region id ops draw, Q, fr, H => if draw then AWp P n (.region id ops true) Q fr H else vops false P n (ops.toList.map (·.dst)) ops.toList fr H (Q .normal)
  | c, Q, fr, H => AWp P n c Q fr H

theorem AWp.mono {P : Program} {n : Nat} {c : Code} {Q Q' : Exit → Fr → AH → Prop} {fr : Fr} {H : AH} (h : AWp P n c Q fr H) (hq : ∀ e fr H, Q e fr H → Q' e fr H) : AWp P n c Q' fr H :=
  fun E a w hf hs => wp_mono (h E a w hf hs) fun _ _ _ ⟨fr, H, h1, h2, h3⟩ => ⟨fr, H, h1, h2, hq _ _ _ h3⟩

theorem avc_sound (P : Program) (n : Nat) (c : Code) : ∀ (Q : Exit → Fr → AH → Prop) (fr : Fr) (H : AH), avc P n c Q fr H → AWp P n c Q fr H := by
  induction c with
  | skip => exact fun Q fr H h E a w hf hs => wp_skip ⟨fr, H, hf, hs, h⟩
  | label l => exact fun Q fr H h E a w hf hs => wp_label ⟨fr, H, hf, hs, h⟩
  | exit id => exact fun Q fr H h E a w hf hs => wp_exit ⟨fr, H, hf, hs, h⟩
  | ret => exact fun Q fr H h E a w hf hs => wp_ret ⟨fr, H, hf, hs, h⟩
  | seq x y ihx ihy =>
    intro Q fr H h E a w hf hs
    refine wp_seq (wp_mono (ihx _ _ _ h E a w hf hs) ?_)
    rintro e a' w' ⟨fr', H', h1, h2, h3⟩
    cases e with
    | normal => exact ihy _ _ _ h3 E a' w' h1 h2
    | _ => exact ⟨fr', H', h1, h2, h3⟩
  | cond c x y ihx ihy =>
    intro Q fr H h E a w hf hs
    obtain ⟨hk, h⟩ := h
    have he := hf.eval hk
    unfold acond at h
    split at h
    · rename_i t ht
      rw [ht] at he
      exact wp_cond_split he (fun e => ihx _ _ _ (h.1 e) E a w hf hs) (fun e => ihy _ _ _ (h.2 e) E a w hf hs)
    · exact h.elim
  | block id c ih =>
    intro Q fr H h E a w hf hs
    refine wp_block (wp_mono (ih _ _ _ h E a w hf hs) ?_)
    rintro e a' w' ⟨fr', H', h1, h2, h3⟩
    cases e with
    | exit id' =>
      simp only [ablock] at h3
      simp only [Exit.inBlock]
      split at h3
      · rename_i e; simp only [e, if_true]; exact ⟨fr', H', h1, h2, h3⟩
      · rename_i e; simp only [e, if_false]; exact ⟨fr', H', h1, h2, h3⟩
    | _ => exact ⟨fr', H', h1, h2, h3⟩
  | region id ops draw =>
    intro Q fr H h
    simp only [avc] at h
    cases draw with
    | true => simpa using h
    | false =>
      simp only [Bool.false_eq_true, if_false] at h
      intro E a w hf hs
      exact wp_region_list (aops_sound (Q := AQ E n Q) (fun fr H a w h1 h2 h3 => ⟨fr, H, h1, h2, h3⟩) _ _ _ _ _ (vops_sound _ _ _ h) hf hs)
  | _ => exact fun Q fr H h => h

def FrLe (f' f : Fr) : Prop := ∀ t v, alk t f' = some v → alk t f = some v

theorem FrLe.refl (f : Fr) : FrLe f f := fun _ _ h => h

theorem FrOk.mono {n : Nat} {fr fr' : Fr} {a : Act} (h : FrOk n fr a) (hl : FrLe fr' fr) : FrOk n fr' a := ⟨h.defers, h.size, fun t v x => h.vals t v (hl t v x)⟩

def around {ι : Type} (I : ι → Fr → AH → Prop) (μ : ι → Nat) (i : ι) (Q : Exit → Fr → AH → Prop) : Exit → Fr → AH → Prop
  | .normal => fun fr H => ∃ i' fr' H', FrLe fr' fr ∧ H'.le H ∧ I i' fr' H' ∧ μ i' < μ i
  | e => Q e

theorem AWp.loop {P : Program} {n : Nat} {c : Code} {Q : Exit → Fr → AH → Prop} {fr : Fr} {H : AH} {ι : Type} (I : ι → Fr → AH → Prop) (μ : ι → Nat) (i0 : ι)
    (h0 : ∃ fr' H', FrLe fr' fr ∧ H'.le H ∧ I i0 fr' H') (round : ∀ i fr H, I i fr H → avc P n c (around I μ i Q) fr H) : AWp P n (.loop c) Q fr H := by
  obtain ⟨fr0, H0, hfl, hhl, hI0⟩ := h0
  intro E a w hf hs
  have key : ∀ m i fr H a w, μ i = m → I i fr H → FrOk n fr a → Sat E H w → ∀ (b : Frame) (k : List Item) (cs : List Frame),
      ∃ e a' w', AQ E n Q e a' w' ∧ Arrives P (lone (b.at a (.code c :: .inLoop c :: k)) cs w) b k cs e a' w' := by
    intro m
    induction m using Nat.strongRecOn with
    | _ m ih =>
      intro i fr H a w hm hI hf hs b k cs
      obtain ⟨e, a₁, w₁, ⟨fr1, H1, hf1, hs1, hq⟩, harr⟩ := avc_sound P n c _ _ _ (round i fr H hI) E a w hf hs b (.inLoop c :: k) cs
      cases e with
      | normal =>
        obtain ⟨i', fr2, H2, hfl, hhl, hI2, hlt⟩ := hq
        obtain ⟨e₂, a₂, w₂, hq₂, harr₂⟩ := ih (μ i') (hm ▸ hlt) i' fr2 H2 a₁ w₁ rfl hI2 (hf1.mono hfl) (hs1.mono hhl) b k cs
        exact ⟨e₂, a₂, w₂, hq₂, .of_steps (Steps.trans harr (.one step_inLoop)) harr₂⟩
      | exit id => exact ⟨_, a₁, w₁, ⟨fr1, H1, hf1, hs1, hq⟩, .pass (x := .inLoop c) rfl (fun _ _ => .inl (by simp)) harr⟩
      | goto l => exact ⟨_, a₁, w₁, ⟨fr1, H1, hf1, hs1, hq⟩, .pass (x := .inLoop c) rfl (fun _ _ => .inl (by simp)) harr⟩
      | ret => exact ⟨_, a₁, w₁, ⟨fr1, H1, hf1, hs1, hq⟩, .pass (x := .inLoop c) rfl (fun _ _ => .inl (by simp)) harr⟩
      | panic ch => exact ⟨_, a₁, w₁, ⟨fr1, H1, hf1, hs1, hq⟩, .pass (x := .inLoop c) rfl (fun _ _ => .inl (by simp)) harr⟩
      | outgrown => exact ⟨_, a₁, w₁, ⟨fr1, H1, hf1, hs1, hq⟩, .pass (x := .inLoop c) rfl (fun _ _ => .inl (by simp)) harr⟩
  intro b k cs
  obtain ⟨e, a', w', hq, harr⟩ := key _ i0 fr0 H0 a w rfl hI0 (hf.mono hfl) (hs.mono hhl) b k cs
  exact ⟨e, a', w', hq, .of_steps (.one step_loop) harr⟩

theorem AWp.loopg {P : Program} {n : Nat} {c : Code} {Q : Exit → Fr → AH → Prop} {fr : Fr} {H : AH} {ι : Type} (V : ι → Prop) (F : ι → Fr) (G : ι → AH) (μ : ι → Nat) (i0 : ι)
    (hv : V i0) (hf : FrLe (F i0) fr) (hh : (G i0).le H)
    (round : ∀ i, V i → avc P n c (around (fun i fr H => V i ∧ fr = F i ∧ H = G i) μ i Q) (F i) (G i)) : AWp P n (.loop c) Q fr H :=
  AWp.loop (fun i fr H => V i ∧ fr = F i ∧ H = G i) μ i0 ⟨_, _, hf, hh, hv, rfl, rfl⟩ fun i fr H ⟨h1, h2, h3⟩ => by subst h2; subst h3; exact round i h1

theorem around_end {ι : Type} {V : ι → Prop} {F : ι → Fr} {G : ι → AH} {μ : ι → Nat} {i : ι} {Q : Exit → Fr → AH → Prop} {fr : Fr} {H : AH} (i' : ι)
    (hv : V i') (hf : FrLe (F i') fr) (hh : (G i').le H) (hm : μ i' < μ i) : around (fun i fr H => V i ∧ fr = F i ∧ H = G i) μ i Q .normal fr H :=
  ⟨i', _, _, hf, hh, ⟨hv, rfl, rfl⟩, hm⟩

theorem AWp.weak {P : Program} {n : Nat} {c : Code} {Q : Exit → Fr → AH → Prop} {fr fr' : Fr} {H H' : AH} (hf : FrLe fr' fr) (hh : H'.le H) (h : AWp P n c Q fr' H') : AWp P n c Q fr H :=
  fun E a w h1 h2 => h E a w (h1.mono hf) (h2.mono hh)

section
variable {P : Program} {H : AH}
def aresc (g : Option Bool) (sz : Nat) (P : Program) (ty : TypeId) (H : AH) (v : Option Value) : Option Value :=
  match g, v with
  | some false, some (.pointer (some ⟨b, off, none⟩)) => H.rd ⟨b, off, none⟩
  | some true, some (.pointer (some ⟨b, off, none⟩)) => if sz = 0 then none else (H.row b off sz).map fun l => .agg l.toArray
  | _, _ => none
theorem aresc_agg {sz ty b off : Nat} : aresc (some true) sz P ty H (some (.pointer (some ⟨b, off, none⟩))) = if sz = 0 then none else (H.row b off sz).map fun l => .agg l.toArray := Eq.trans rfl rfl
theorem aresc_run {ty : TypeId} {v : Option Value} {u : Value} (h : aresc (isAggU (P.underlying ty)) (P.cellsOf ty) P ty H v = some u) : ∃ ad, v = some (.pointer (some ad)) ∧ qrun P (loadVar ty ad) H = some u := by
  unfold aresc at h
  split at h
  · rename_i b off hg
    exact ⟨_, rfl, qrun_loadVar (by rw [hg, ldv_cell, h]; rfl)⟩
  · rename_i b off hg
    split at h
    · cases h
    · rename_i hz
      obtain ⟨l, hl, rfl⟩ := Option.map_eq_some_iff.1 h
      exact ⟨_, rfl, qrun_loadVar (by rw [hg, ldv_agg, hl]; exact ⟨hz, rfl⟩)⟩
  · cases h
end

def ares (P : Program) (fr : Fr) (H : AH) : List ResultVar → Option (List Value)
  | [] => some []
  | .tmp t :: rs => (alk t fr).bind fun v => (ares P fr H rs).map (v :: ·)
  | .cell t ty :: rs => (aresc (isAggU (P.underlying ty)) (P.cellsOf ty) P ty H (alk t fr)).bind fun v => (ares P fr H rs).map (v :: ·)

def retv : List Value → Value
  | [v] => v
  | vs => .tuple vs.toArray

def resOf (tmps : Array Value) (x : ResultVar) : Sem Value :=
  match x with
  | .tmp t => pure (tmps.getD t undef)
  | .cell a t => do loadVar t (← asAddr (tmps.getD a undef))

theorem ares_run {E : Nat → Option Obj} {P : Program} {n : Nat} {fr : Fr} {H : AH} {a : Act} {w : World} (hf : FrOk n fr a) (hs : Sat E H w) : ∀ (rs : List ResultVar) (vs : List Value), ares P fr H rs = some vs →
    (rs.mapM (resOf a.tmps)).run P w = Result.ok vs w
  | [], vs, h => by simp only [ares, Option.some.injEq] at h; subst h; rfl
  | .tmp t :: rs, vs, h => by
    simp only [ares] at h
    obtain ⟨v, hv, h⟩ := Option.bind_eq_some_iff.1 h
    obtain ⟨us, hu, rfl⟩ := Option.map_eq_some_iff.1 h
    have := hf.vals _ _ hv
    have e : (resOf a.tmps (.tmp t)).run P w = .ok v w := by simp [resOf, Array.getD_eq_getD_getElem?, this]
    simp only [List.mapM_cons, Sem.run_bind, e, Result.andThen_ok, ares_run hf hs rs us hu, Sem.run_pure]
  | .cell t ty :: rs, vs, h => by
    simp only [ares] at h
    obtain ⟨v, hv, h⟩ := Option.bind_eq_some_iff.1 h
    obtain ⟨us, hu, rfl⟩ := Option.map_eq_some_iff.1 h
    obtain ⟨ad, ha, hq⟩ := aresc_run hv
    have h1 := hf.vals _ _ ha
    have h2 := qrun_sound P _ H v w hq hs
    have e : (resOf a.tmps (.cell t ty)).run P w = .ok v w := by simp [resOf, Array.getD_eq_getD_getElem?, h1, asAddr, h2]
    simp only [List.mapM_cons, Sem.run_bind, e, Result.andThen_ok, ares_run hf hs rs us hu, Sem.run_pure]

theorem results_run {E : Nat → Option Obj} {P : Program} {n : Nat} {fr : Fr} {H : AH} {a : Act} {w : World} {fn : Func} (hf : FrOk n fr a) (hs : Sat E H w) {vs : List Value} (h : ares P fr H fn.results.toList = some vs) :
    (results fn a.tmps).run P w = .ok (retv vs) w := by
  have h1 := ares_run hf hs fn.results.toList vs h
  have e : results fn a.tmps = (fn.results.mapM (resOf a.tmps) >>= fun vs => pure (if h : vs.size = 1 then vs[0] else .tuple vs)) := rfl
  have e2 : fn.results.mapM (resOf a.tmps) = List.toArray <$> fn.results.toList.mapM (resOf a.tmps) := by
    rw [← List.mapM_toArray]
  rw [e, e2]
  simp only [Sem.run_bind, Sem.run_map, h1, Result.andThen_ok]
  cases vs with
  | nil => rfl
  | cons v vs => cases vs <;> rfl

def argFrom : Nat → List Value → Fr
  | _, [] => []
  | k, v :: vs => (k, v) :: argFrom (k + 1) vs

theorem alk_argFrom : ∀ (vs : List Value) (k t : Nat) (v : Value), alk t (argFrom k vs) = some v → k ≤ t ∧ vs[t - k]? = some v
  | [], _, _, _, h => by cases h
  | x :: vs, k, t, v, h => by
    simp only [argFrom, alk_cons] at h
    split at h
    · rename_i e; subst e; cases h; simp
    · rename_i hne
      obtain ⟨h1, h2⟩ := alk_argFrom vs (k + 1) t v h
      refine ⟨by omega, ?_⟩
      rw [show t - k = (t - (k + 1)) + 1 from by omega]
      simpa using h2

def aend (P : Program) (rs : List ResultVar) (K : Value → AH → Prop) : Exit → Fr → AH → Prop
  | .normal => fun fr H => match ares P fr H rs with
    | some vs => ∃ H', H'.le H ∧ K (retv vs) H'
    | none => False
  | .ret => fun fr H => match ares P fr H rs with
    | some vs => ∃ H', H'.le H ∧ K (retv vs) H'
    | none => False
  | _ => fun _ _ => False

theorem ACalls.enter {P : Program} {f : FuncId} {fn : Func} {c : Code} {args : Array Value} {H : AH} {K : Value → AH → Prop} (hf : P.funcs[f]? = some fn) (hb : fn.body = some c) (hn : args.size ≤ fn.ntmps)
    (h : avc P fn.ntmps c (aend P fn.results.toList K) (argFrom 0 args.toList) H) : ACalls P f args H K := by
  intro E w hs
  refine calls_of_wp hf hb (wp_mono (avc_sound P _ c _ _ _ h E _ w ⟨rfl, by simp; omega, fun t v hv => ?_⟩ hs) ?_)
  · obtain ⟨_, h2⟩ := alk_argFrom _ _ _ _ hv
    have hlt : t < args.size := by
      rcases Nat.lt_or_ge t args.size with h | h
      · exact h
      · simp [Array.getElem?_eq_none h] at h2
    rw [Array.getElem?_append_left hlt]
    simpa using h2
  · rintro e a w ⟨fr, H1, h1, h2, h3⟩
    have fin : (match ares P fr H1 fn.results.toList with
        | some vs => ∃ H', H'.le H1 ∧ K (retv vs) H'
        | none => False) → a.defers = [] ∧ ∃ v, (results fn a.tmps).run P w = .ok v w ∧ ∃ v' H', Ending.returned v = .returned v' ∧ Sat E H' w ∧ K v' H' := fun h3 => by
      split at h3
      · rename_i vs hv
        obtain ⟨H', hl, hk⟩ := h3
        exact ⟨h1.defers, retv vs, results_run h1 h2 hv, retv vs, H', rfl, h2.mono hl, hk⟩
      · exact h3.elim
    cases e with
    | normal => exact fin h3
    | ret => exact fin h3
    | _ => exact h3.elim

theorem QCalls.mk {P : Program} {f : FuncId} {args : Array Value} {H : AH} {K : Value → Prop} {v : Value} (h : ACalls P f args H (fun v' H' => v' = v ∧ H = H')) (hk : K v) : QCalls P f args H K :=
  ⟨v, h.mono fun _ _ ⟨h1, h2⟩ => ⟨h1, h2 ▸ AH.le_refl _⟩, hk⟩

theorem aqops_sound {E : Nat → Option Obj} {P : Program} {n : Nat} {ops : Array Oper} {H : AH} {Q : Act → Prop} {K : Fr → AH → Prop}
    (hQ : ∀ fr a, FrOk n fr a → K fr H → Q a) : ∀ (l : List Oper) (fr : Fr) (a : Act), aops true P n (ops.toList.map (·.dst)) l fr H K → FrOk n fr a → wpQuiet P ops (Sat E H) Q l a
  | [], fr, a, h, hf => hQ _ _ hf h
  | o :: rest, fr, a, h, hf => by
    simp only [aops] at h
    split at h
    · exact h.elim
    · rename_i g hg
      have hw := aguard_sound hf hg
      simp only [wpQuiet, hw]
      cases g with
      | false =>
        obtain ⟨hd, h1⟩ := h.2 rfl
        simp only [Bool.false_eq_true, if_false]
        exact aqops_sound hQ rest _ _ h1 ((hf.gov hg).put hd _)
      | true =>
        obtain ⟨ho, h1⟩ := h.1 rfl
        have hd : dok n o.dst = true := by simp only [okOp, Bool.and_eq_true] at ho; exact ho.2
        simp only [if_true]
        unfold aop at h1
        split at h1
        · split at h1
          · rename_i nx hn
            have hr : ∀ w, Sat E H w → (execOp a.eval o).run P w = .ok nx w := fun w hs => by rw [(hf.gov hg).exec ho]; exact qrun_sound P _ H nx w hn hs
            cases nx <;> simp only [anext] at h1 <;> try exact h1.elim
            · rename_i v
              exact ⟨v, fun w hs => by simp only [Oper.quietAt, hr w hs, Oper.quietUpon, and_self], aqops_sound hQ rest _ _ h1 ((hf.gov hg).put hd v)⟩
            · exact ⟨undef, fun w hs => by simp only [Oper.quietAt, hr w hs, Oper.quietUpon, and_self], aqops_sound hQ rest _ _ h1 ((hf.gov hg).put hd _)⟩
            · rename_i f args
              obtain ⟨v, hc, hk⟩ := h1
              refine ⟨v, fun w hs => ?_, aqops_sound hQ rest _ _ hk ((hf.gov hg).put hd v)⟩
              simp only [Oper.quietAt, hr w hs, Oper.quietUpon, true_and]
              exact (hc E w hs).mono fun e w' ⟨v', H', h1, h2, h3, h4⟩ => ⟨by rw [h1, h3], h2.mono h4⟩
          · exact h1.elim
        · exact absurd h1.1 (by simp)
        · exact absurd h1.1 (by simp)

def nd (ds : List (Option Tmp)) (k : List (Option Tmp) → Prop) (_t : Lk k := .mk) : Prop := k ds
theorem nd_eq (ds : List (Option Tmp)) (k : List (Option Tmp) → Prop) : nd ds k = k ds := Eq.trans rfl rfl

theorem AWp.quiet {P : Program} {n : Nat} {id : Nat} {l : List Oper} {Q : Exit → Fr → AH → Prop} {fr : Fr} {H : AH} (hm : P.follows .mixedOrders = true) (hB : Region.lexB .any l.toArray = true)
    (h : nd (l.map (·.dst)) fun ds => vops true P n ds l fr H (Q .normal)) : AWp P n (.region id l.toArray true) Q fr H :=
  fun E a w hf hs => wp_region_quiet (C := Sat E H) hm hB hs.drew (by
    have h' : vops true P n (l.toArray.toList.map (·.dst)) l.toArray.toList fr H (Q .normal) := h
    exact aqops_sound (K := Q .normal) (fun fr' _ h1 h2 w' hs' => ⟨fr', H, h1, hs', h2⟩) _ _ _ (vops_sound _ _ _ h') hf)


section
variable {P : Program} {n : Nat} {Q : Exit → Fr → AH → Prop} {fr : Fr} {H : AH}
theorem V_skip : avc P n .skip Q fr H = Q .normal fr H := Eq.trans rfl rfl
theorem V_exit {l : Nat} : avc P n (.exit l) Q fr H = Q (.exit l) fr H := Eq.trans rfl rfl
theorem V_ret : avc P n .ret Q fr H = Q .ret fr H := Eq.trans rfl rfl
theorem V_seq {a b : Code} : avc P n (.seq a b) Q fr H = avc P n a (aseq (avc P n b Q) Q) fr H := Eq.trans rfl rfl
theorem V_block {id : Nat} {a : Code} : avc P n (.block id a) Q fr H = avc P n a (ablock id Q) fr H := Eq.trans rfl rfl
theorem V_cond {c : Operand} {x y : Code} : avc P n (.cond c x y) Q fr H = wv fr c fun v => acond v (avc P n x Q fr H) (avc P n y Q fr H) := Eq.trans rfl rfl
theorem V_region {id : Nat} {ops : List Oper} : avc P n (.region id ops.toArray false) Q fr H = nd (ops.map (·.dst)) fun ds => vops false P n ds ops fr H (Q .normal) := by simp [avc, nd]
theorem V_draw {id : Nat} {ops : Array Oper} : avc P n (.region id ops true) Q fr H = AWp P n (.region id ops true) Q fr H := by simp [avc]
theorem V_loop {a : Code} : avc P n (.loop a) Q fr H = AWp P n (.loop a) Q fr H := Eq.trans rfl rfl
theorem acond_bool {b : Bool} {A B : Prop} : acond (.bool b) A B = (imp (b = true) A ∧ imp (b = false) B) := Eq.trans rfl rfl
theorem aseq_normal {K : Fr → AH → Prop} : aseq K Q .normal fr H = K fr H := Eq.trans rfl rfl
theorem aseq_exit {K : Fr → AH → Prop} {i : Nat} : aseq K Q (.exit i) fr H = Q (.exit i) fr H := Eq.trans rfl rfl
theorem aseq_ret {K : Fr → AH → Prop} : aseq K Q .ret fr H = Q .ret fr H := Eq.trans rfl rfl
theorem ablock_normal {id : Nat} : ablock id Q .normal fr H = Q .normal fr H := Eq.trans rfl rfl
theorem ablock_ret {id : Nat} : ablock id Q .ret fr H = Q .ret fr H := Eq.trans rfl rfl
theorem ablock_exit {id i : Nat} : ablock id Q (.exit i) fr H = if i = id then Q .normal fr H else Q (.exit i) fr H := Eq.trans rfl rfl
theorem around_exit {ι : Type} {I : ι → Fr → AH → Prop} {μ : ι → Nat} {i : ι} {l : Nat} : around I μ i Q (.exit l) fr H = Q (.exit l) fr H := Eq.trans rfl rfl
theorem aend_ret {rs : List ResultVar} {K : Value → AH → Prop} : aend P rs K .ret fr H = wo (ares P fr H rs) fun vs => ∃ H', H'.le H ∧ K (retv vs) H' := by
  simp only [aend]; cases ares P fr H rs <;> rfl
theorem ares_nil : ares P fr H [] = some [] := Eq.trans rfl rfl
theorem ares_tmp {t : Nat} {rs : List ResultVar} : ares P fr H (.tmp t :: rs) = (alk t fr).bind fun v => (ares P fr H rs).map (v :: ·) := Eq.trans rfl rfl
theorem ares_cell {t ty : Nat} {rs : List ResultVar} : ares P fr H (.cell t ty :: rs) = (aresc (isAggU (P.underlying ty)) (P.cellsOf ty) P ty H (alk t fr)).bind fun v => (ares P fr H rs).map (v :: ·) := Eq.trans rfl rfl
theorem retv_one {v : Value} : retv [v] = v := Eq.trans rfl rfl
theorem retv_two {v u : Value} {vs : List Value} : retv (v :: u :: vs) = .tuple (v :: u :: vs).toArray := Eq.trans rfl rfl
end

end Go.AX

/- The engine's equations, as_ 'simp only' takes them. -/
namespace Go.AX
set_option linter.unusedSimpArgs false
set_option linter.unusedVariables false
open Go Go.RowKit
section
variable {q : Bool} {P : Program} {n : Nat} {ds : List (Option Tmp)} {rest : List Oper} {fr : Fr} {H : AH} {K : Fr → AH → Prop} {d : Nat} {ty : TypeId} {pos : String} {af : Array Edge}


theorem T_nil : vops q P n ds [] fr H K = K fr H := Eq.trans rfl rfl
theorem T_guard_t {op : Op} {j : Nat} : vops q P n ds (⟨some d, op, ty, pos, af, some (j, true)⟩ :: rest) fr H K = wo (ds[j]?) fun t => wo t fun t => wo (alk t fr) fun b =>
      ag b true (vops q P n ds (⟨some d, op, ty, pos, af, none⟩ :: rest) ((t, .bool true) :: fr) H K) (d < n ∧ vops q P n ds rest ((d, undef) :: (t, .bool false) :: fr) H K) (d < n ∧ vops q P n ds rest ((d, undef) :: fr) H K) := by
  rw [← dok_some]; rfl
theorem T_guard_f {op : Op} {j : Nat} : vops q P n ds (⟨some d, op, ty, pos, af, some (j, false)⟩ :: rest) fr H K = wo (ds[j]?) fun t => wo t fun t => wo (alk t fr) fun b =>
      ag b false (vops q P n ds (⟨some d, op, ty, pos, af, none⟩ :: rest) ((t, .bool false) :: fr) H K) (d < n ∧ vops q P n ds rest ((d, undef) :: (t, .bool true) :: fr) H K) (d < n ∧ vops q P n ds rest ((d, undef) :: fr) H K) := by
  rw [← dok_some]; rfl
theorem T_move {x : Operand} : vops q P n ds (⟨(some d), .move x, ty, pos, af, none⟩ :: rest) fr H K = (d < n ∧ wv fr x fun v => nv v fun v => vops q P n ds rest ((d, v) :: fr) H K) := by rw [← dok_some]; rfl
theorem T_assign {x : Operand} : vops q P n ds (⟨(some d), .assign x, ty, pos, af, none⟩ :: rest) fr H K = (d < n ∧ wv fr x fun v => nv v fun v => vops q P n ds rest ((d, v) :: fr) H K) := by rw [← dok_some]; rfl
theorem T_pick {c a b : Operand} : vops q P n ds (⟨(some d), .pick c a b, ty, pos, af, none⟩ :: rest) fr H K = (d < n ∧ wv fr c fun c => wv fr a fun a => wv fr b fun b => pck c a b fun v => vops q P n ds rest ((d, v) :: fr) H K) := by rw [← dok_some]; rfl
theorem T_binOp {op : BinOp} {t yt : TypeId} {x y : Operand} : vops q P n ds (⟨(some d), .binOp op t x y yt, ty, pos, af, none⟩ :: rest) fr H K = (d < n ∧ wv fr x fun a => wv fr y fun b => bin (P.underlying t) P H op t x y a b fun v => vops q P n ds rest ((d, v) :: fr) H K) := by rw [← dok_some]; rfl
theorem T_unOp {op : UnOp} {t : TypeId} {x : Operand} : vops q P n ds (⟨(some d), .unOp op t x, ty, pos, af, none⟩ :: rest) fr H K = (d < n ∧ wv fr x fun a => unv P H op a fun v => vops q P n ds rest ((d, v) :: fr) H K) := by rw [← dok_some]; rfl
theorem T_extract {x : Operand} {i : Nat} : vops q P n ds (⟨(some d), .extract x i, ty, pos, af, none⟩ :: rest) fr H K = (d < n ∧ wv fr x fun a => extr P H a i fun v => vops q P n ds rest ((d, v) :: fr) H K) := by rw [← dok_some]; rfl
theorem T_convert {s t : TypeId} {x : Operand} : vops q P n ds (⟨(some d), .convert s t x, ty, pos, af, none⟩ :: rest) fr H K = (d < n ∧ wv fr x fun a => cnv (P.underlying s) (P.underlying t) P H s t a fun v => vops q P n ds rest ((d, v) :: fr) H K) := by rw [← dok_some]; rfl
theorem T_load {t : TypeId} {x : Operand} : vops q P n ds (⟨(some d), .load t x, ty, pos, af, none⟩ :: rest) fr H K = (d < n ∧ wv fr x fun a => ldv (isAggU (P.underlying t)) (P.cellsOf t) a H fun v => vops q P n ds rest ((d, v) :: fr) H K) := by rw [← dok_some]; rfl
theorem T_fieldAddr {s : TypeId} {x : Operand} {i : Nat} : vops q P n ds (⟨(some d), .fieldAddr s x i, ty, pos, af, none⟩ :: rest) fr H K = (d < n ∧ wv fr x fun a => fap P s i a fun v => vops q P n ds rest ((d, v) :: fr) H K) := by rw [← dok_some]; rfl
theorem T_indexAddr {t : TypeId} {x i : Operand} : vops q P n ds (⟨(some d), .indexAddr t x i, ty, pos, af, none⟩ :: rest) fr H K = (d < n ∧ elSz P t ≠ 0 ∧ wv fr x fun a => wv fr i fun i => ixp (P.underlying t) (elSz P t) a i fun v => vops q P n ds rest ((d, v) :: fr) H K) := by rw [← dok_some]; rfl
theorem T_nilCheck {x : Operand} : vops q P n ds (⟨(some d), .nilCheck x, ty, pos, af, none⟩ :: rest) fr H K = (d < n ∧ wv fr x fun a => nck a fun v => vops q P n ds rest ((d, v) :: fr) H K) := by rw [← dok_some]; rfl
theorem T_makeFunc {f : Fn} {a b : Array Operand} : vops q P n ds (⟨(some d), .makeFunc f a b, ty, pos, af, none⟩ :: rest) fr H K = (d < n ∧ wvs fr a.toList fun a => wvs fr b.toList fun b => vops q P n ds rest ((d, .func f a.toArray b.toArray) :: fr) H K) := by rw [← dok_some]; rfl
theorem T_makeInterface {t : TypeId} {x : Operand} : vops q P n ds (⟨(some d), .makeInterface t x, ty, pos, af, none⟩ :: rest) fr H K = (d < n ∧ wv fr x fun a => rdop P H (Instr.makeInterface t a) fun v => vops q P n ds rest ((d, v) :: fr) H K) := by rw [← dok_some]; rfl
theorem T_index {t : TypeId} {x i : Operand} : vops q P n ds (⟨(some d), .index t x i, ty, pos, af, none⟩ :: rest) fr H K = (d < n ∧ wv fr x fun a => wv fr i fun i => rdop P H (Instr.index t a i) fun v => vops q P n ds rest ((d, v) :: fr) H K) := by rw [← dok_some]; rfl
theorem T_field {t : TypeId} {x : Operand} {i : Nat} : vops q P n ds (⟨(some d), .field t x i, ty, pos, af, none⟩ :: rest) fr H K = (d < n ∧ wv fr x fun a => rdop P H (Instr.field t a i) fun v => vops q P n ds rest ((d, v) :: fr) H K) := by rw [← dok_some]; rfl
theorem T_slice {t : TypeId} {x : Operand} {lo hi mx : Option Operand} : vops q P n ds (⟨(some d), .slice t x lo hi mx, ty, pos, af, none⟩ :: rest) fr H K = (d < n ∧ wv fr x fun a => osome fr lo fun lo => osome fr hi fun hi => osome fr mx fun mx => rdop P H (Instr.sliceAt t a lo hi mx) fun v => vops q P n ds rest ((d, v) :: fr) H K) := by rw [← dok_some]; rfl
theorem T_build {t : TypeId} {ps : Array (Nat × Operand)} : vops q P n ds (⟨(some d), .build t ps, ty, pos, af, none⟩ :: rest) fr H K = (d < n ∧ wvs fr (ps.toList.map (·.2)) fun vs => bld P t ((ps.toList.map (·.1)).zip vs) fun v => vops q P n ds rest ((d, v) :: fr) H K) := by rw [← dok_some]; rfl
theorem T_store {t : TypeId} {x y : Operand} : vops q P n ds (⟨none, .store t x y, ty, pos, af, none⟩ :: rest) fr H K = (q = false ∧ P.cellsOf t ≠ 0 ∧ wv fr x fun a => wv fr y fun b => stv P t a b H fun H' => vops q P n ds rest fr H' K) := by simp only [vops, vgo, dok_none, true_and]; rfl
theorem T_alloc {t : TypeId} : vops q P n ds (⟨(some d), .alloc t, ty, pos, af, none⟩ :: rest) fr H K = (d < n ∧ q = false ∧ wo (zrOf P t) fun cs => newb t cs H fun v H' => vops q P n ds rest ((d, v) :: fr) H' K) := by rw [← dok_some]; rfl
theorem T_box {t : TypeId} {x : Operand} : vops q P n ds (⟨(some d), .box t x, ty, pos, af, none⟩ :: rest) fr H K = (d < n ∧ q = false ∧ wv fr x fun v => newb t (vcells v) H fun v H' => vops q P n ds rest ((d, v) :: fr) H' K) := by rw [← dok_some]; rfl
theorem T_call {f : Operand} {xs : Array Operand} {ts : Array TypeId} : vops q P n ds (⟨(some d), .call { callee := .value f, args := xs, argTypes := ts }, ty, pos, af, none⟩ :: rest) fr H K = (d < n ∧ wv fr f fun f => wvs fr xs.toList fun as_ => acl q P H f as_ fun v H' => vops q P n ds rest ((d, v) :: fr) H' K) := by rw [← dok_some]; rfl
theorem T_buildSlice {t : TypeId} {len : Nat} {ps : Array (Nat × Operand)} : vops q P n ds (⟨(some d), .buildSlice t len ps, ty, pos, af, none⟩ :: rest) fr H K = (d < n ∧ q = false ∧ wvs fr (ps.toList.map (·.2)) fun vs => bsl P t len ((ps.toList.map (·.1)).zip vs) H fun v H' => vops q P n ds rest ((d, v) :: fr) H' K) := by rw [← dok_some]; rfl
theorem T_makeSlice {t : TypeId} {l c : Operand} : vops q P n ds (⟨(some d), .makeSlice t l c, ty, pos, af, none⟩ :: rest) fr H K = (d < n ∧ q = false ∧ wv fr l fun l => wv fr c fun c => mks P t l c H fun v H' => vops q P n ds rest ((d, v) :: fr) H' K) := by rw [← dok_some]; rfl
theorem T_makeMap {t : TypeId} : vops q P n ds (⟨(some d), .makeMap t none, ty, pos, af, none⟩ :: rest) fr H K = (d < n ∧ q = false ∧ AllB H fun b => vops q P n ds rest ((d, .map (some b)) :: fr) (H.add b (.amap [])) K) := by rw [← dok_some]; rfl
theorem T_lookup {t : TypeId} {x i : Operand} {ok : Bool} : vops q P n ds (⟨(some d), .lookup t x i ok, ty, pos, af, none⟩ :: rest) fr H K = (d < n ∧ q = false ∧ wv fr x fun x => wv fr i fun i => (lkp P t x i ok H (fun v H' => vops q P n ds rest ((d, v) :: fr) H' K) ∨ (mpE P t = none ∧ LKS P t x i ok H fun v H' => vops q P n ds rest ((d, v) :: fr) H' K))) := by rw [← dok_some]; rfl
theorem T_mapUpdate {t : TypeId} {m i x : Operand} : vops q P n ds (⟨none, .mapUpdate t m i x, ty, pos, af, none⟩ :: rest) fr H K = (q = false ∧ wv fr m fun m => wv fr i fun i => wv fr x fun x => (mup P t m i x H (fun H' => vops q P n ds rest fr H' K) ∨ (mpE P t = none ∧ MUS P t m i x H fun H' => vops q P n ds rest fr H' K))) := by simp only [vops, vgo, dok_none, true_and]; rfl
theorem T_append {xs : Array Operand} {ts : Array TypeId} : vops q P n ds (⟨(some d), .call { callee := .builtin .append, args := xs, argTypes := ts }, ty, pos, af, none⟩ :: rest) fr H K = (d < n ∧ q = false ∧ wvs fr xs.toList fun as_ => APD P ts[0]? ts[1]? as_ H fun v H' => vops q P n ds rest ((d, v) :: fr) H' K) := by rw [← dok_some]; rfl
theorem T_len {xs : Array Operand} {ts : Array TypeId} : vops q P n ds (⟨(some d), .call { callee := .builtin .len, args := xs, argTypes := ts }, ty, pos, af, none⟩ :: rest) fr H K = (d < n ∧ wvs fr xs.toList fun as_ => rdb (ts[0]?.bind P.underlying) .len as_ fun v => vops q P n ds rest ((d, v) :: fr) H K) := by rw [← dok_some]; rfl
theorem T_cap {xs : Array Operand} {ts : Array TypeId} : vops q P n ds (⟨(some d), .call { callee := .builtin .cap, args := xs, argTypes := ts }, ty, pos, af, none⟩ :: rest) fr H K = (d < n ∧ wvs fr xs.toList fun as_ => rdb (ts[0]?.bind P.underlying) .cap as_ fun v => vops q P n ds rest ((d, v) :: fr) H K) := by rw [← dok_some]; rfl
theorem T_min {xs : Array Operand} {ts : Array TypeId} : vops q P n ds (⟨(some d), .call { callee := .builtin .min, args := xs, argTypes := ts }, ty, pos, af, none⟩ :: rest) fr H K = (d < n ∧ wvs fr xs.toList fun as_ => rdb (ts[0]?.bind P.underlying) .min as_ fun v => vops q P n ds rest ((d, v) :: fr) H K) := by rw [← dok_some]; rfl
theorem T_max {xs : Array Operand} {ts : Array TypeId} : vops q P n ds (⟨(some d), .call { callee := .builtin .max, args := xs, argTypes := ts }, ty, pos, af, none⟩ :: rest) fr H K = (d < n ∧ wvs fr xs.toList fun as_ => rdb (ts[0]?.bind P.underlying) .max as_ fun v => vops q P n ds rest ((d, v) :: fr) H K) := by rw [← dok_some]; rfl

def nvl (v : List Value) (k : List Value → Prop) (_t : Lk k := .mk) : Prop := k v
theorem nvl_eq (v : List Value) (k : List Value → Prop) : nvl v k = k v := Eq.trans rfl rfl
def nn (v : Nat) (k : Nat → Prop) (_t : Lk k := .mk) : Prop := k v
theorem nn_eq (v : Nat) (k : Nat → Prop) : nn v k = k v := Eq.trans rfl rfl

theorem newb_eq {t : TypeId} {cs : List Value} {k : Value → AH → Prop} : newb t cs H k = nvl cs fun cs => nn cs.length fun m => AllB H fun b => k (.pointer (some ⟨b, 0, none⟩)) (H.add b (.cells cs t m)) := Eq.trans rfl rfl

def bldk (pl : Nat → Option (Nat × Nat)) (cs : List Value) (ps : List (Nat × Value)) (k : List Value → Prop) (_t : Lk k := .mk) : Prop := wo (bldL pl cs ps) k
theorem bldk_nil {pl : Nat → Option (Nat × Nat)} {cs : List Value} {k : List Value → Prop} : bldk pl cs [] k = k cs := Eq.trans rfl rfl
theorem bldk_cons {pl : Nat → Option (Nat × Nat)} {cs : List Value} {i : Nat} {v : Value} {r : List (Nat × Value)} {k : List Value → Prop} : bldk pl cs ((i, v) :: r) k = wo (pl i) fun os => nvl (vcells v) fun vs => vs.length = os.2 ∧ os.1 + os.2 ≤ cs.length ∧ nvl (lput cs os.1 vs) fun cs' => bldk pl cs' r k := by
  unfold bldk
  simp only [bldL]
  cases pl i with
  | none => rfl
  | some os =>
    obtain ⟨off, sz⟩ := os
    simp only [wo_some, nvl]
    by_cases h1 : (vcells v).length = sz
    · by_cases h2 : off + sz ≤ cs.length
      · simp [h1, h2]
      · simp [h1, h2, wo]
    · simp [h1, wo]
theorem bld_eq {t : TypeId} {ps : List (Nat × Value)} {k : Value → Prop} : bld P t ps k = (plOf1 P t = true ∧ wo (zrOf P t) fun z => bldk (plOf P t) z ps fun cs => nv (.agg cs.toArray) k) := Eq.trans rfl rfl

def bsk (sz i : Nat) (acc : List Value) (ps : List (Nat × Value)) (k : List Value → Prop) (_t : Lk k := .mk) : Prop := wo ((bskL sz i ps).map (acc ++ ·)) k
theorem bsk_nil {sz i : Nat} {acc : List Value} {k : List Value → Prop} : bsk sz i acc [] k = k acc := by simp [bsk, bskL, wo]
theorem bsk_cons {sz i j : Nat} {v : Value} {acc : List Value} {r : List (Nat × Value)} {k : List Value → Prop} : bsk sz i acc ((j, v) :: r) k = (j = i ∧ nvl (vcells v) fun vs => vs.length = sz ∧ nvl (acc ++ vs) fun acc' => bsk sz (i + 1) acc' r k) := by
  unfold bsk
  simp only [bskL, nvl]
  by_cases h1 : j = i
  · by_cases h2 : (vcells v).length = sz
    · simp only [h1, h2, and_self, if_true, true_and]
      cases bskL sz (i + 1) r <;> simp [wo]
    · simp [h1, h2, wo]
  · simp [h1, wo]
theorem bsl_eq {t len : Nat} {ps : List (Nat × Value)} {k : Value → AH → Prop} : bsl P t len ps H k = wo (slE P t) fun s => len = ps.length ∧ len * s.2.1 ≤ 16777216 ∧ nn s.1 fun e => bsk s.2.1 0 [] ps fun cs => nn cs.length fun m => AllB H fun b => k (.slice (some ⟨b, 0, none⟩) len len) (H.add b (.cells cs e m)) := by
  unfold bsl
  refine congrArg (fun k => wo (slE P t) k) (funext fun s => ?_)
  have e : (bskL s.2.1 0 ps).map ([] ++ ·) = bskL s.2.1 0 ps := by cases bskL s.2.1 0 ps <;> rfl
  show _ = (len = ps.length ∧ len * s.2.1 ≤ 16777216 ∧ wo ((bskL s.2.1 0 ps).map ([] ++ ·)) fun cs => nn cs.length fun m => AllB H fun b => k (.slice (some ⟨b, 0, none⟩) len len) (H.add b (.cells cs s.1 m)))
  rw [e]
  rfl
theorem mks_int {t : TypeId} {k1 k2 : IntKind} {a b : Int} {k : Value → AH → Prop} : mks P t (.int k1 a) (.int k2 b) H k = wo (slE P t) fun E => E.2.1 ≠ 0 ∧ 0 ≤ a ∧ a ≤ b ∧ E.2.2.2 * b ≤ 281474976710656 ∧ b < 9223372036854775808 ∧
      nn E.1 fun e => nn (b.toNat * E.2.1) fun m => nvl (zf E.2.2.1 m) fun cs => nn a.toNat fun l => nn b.toNat fun c => AllB H fun bl => k (.slice (some ⟨bl, 0, none⟩) l c) (H.add bl (.cells cs e m)) := Eq.trans rfl rfl
theorem lkp_some {t r : Nat} {key : Value} {ok : Bool} {k : Value → AH → Prop} : lkp P t (.map (some r)) key ok H k = wo (mpE P t) fun E => wo (H.mp r) fun es => wo (mlk E.1 key es 0) fun o => nv (mres ok E.2 o) fun v => k v H := Eq.trans rfl rfl
theorem mup_some {t r : Nat} {key v : Value} {k : AH → Prop} : mup P t (.map (some r)) key v H k = wo (mpE P t) fun E => wo (H.mp r) fun es => wo (mlk E.1 key es 0) fun o => wo (H.mset r (mput es key v o)) k := Eq.trans rfl rfl
theorem mres_some {ok : Bool} {z v : Value} {i : Nat} : mres ok z (some (i, v)) = if ok = true then .tuple #[v, .bool true] else v := Eq.trans rfl rfl
theorem mres_none {ok : Bool} {z : Value} : mres ok z none = if ok = true then .tuple #[z, .bool false] else z := Eq.trans rfl rfl
theorem mput_some {es : List (Value × Value)} {key v v0 : Value} {i : Nat} : mput es key v (some (i, v0)) = es.set i (key, v) := Eq.trans rfl rfl
theorem mput_none {es : List (Value × Value)} {key v : Value} : mput es key v none = es ++ [(key, v)] := Eq.trans rfl rfl
theorem srow_some {sz b o n c : Nat} : srow H sz (.slice (some ⟨b, o, none⟩) n c) = H.row b o (n * sz) := Eq.trans rfl rfl
theorem srow_none {sz n c : Nat} : srow H sz (.slice none n c) = if n = 0 then some [] else none := Eq.trans rfl rfl
theorem stv_ptr {t : TypeId} {b off : Nat} {v : Value} {k : AH → Prop} : stv P t (.pointer (some ⟨b, off, none⟩)) v H k = nvl (vcells v) fun vs => vs.length = P.cellsOf t ∧ wo (H.wrs b off vs) k := Eq.trans rfl rfl
theorem vcells_bool {b : Bool} : vcells (.bool b) = [.bool b] := Eq.trans rfl rfl
theorem vcells_int {k : IntKind} {x : Int} : vcells (.int k x) = [.int k x] := Eq.trans rfl rfl
theorem vcells_ptr {a : Option Addr} : vcells (.pointer a) = [.pointer a] := Eq.trans rfl rfl
theorem vcells_slice {a : Option Addr} {l c : Nat} : vcells (.slice a l c) = [.slice a l c] := Eq.trans rfl rfl
theorem vcells_map {r : Option Nat} : vcells (.map r) = [.map r] := Eq.trans rfl rfl
theorem vcells_iface {t : TypeId} {v : Value} : vcells (.iface t v) = [.iface t v] := Eq.trans rfl rfl
theorem lput_nil {cs : List Value} {off : Nat} : lput cs off [] = cs := Eq.trans rfl rfl
theorem lput_cons {cs vs : List Value} {v : Value} {off : Nat} : lput cs off (v :: vs) = lput (cs.set off v) (off + 1) vs := Eq.trans rfl rfl

theorem scal_bool {b : Bool} : scal (.bool b) = true := Eq.trans rfl rfl
theorem scal_int {k : IntKind} {x : Int} : scal (.int k x) = true := Eq.trans rfl rfl
theorem scal_slice {a : Option Addr} {l c : Nat} : scal (.slice a l c) = true := Eq.trans rfl rfl
end
end Go.AX

/- '==' of arrays and structs, over the abstract heap. -/
namespace Go.AX
set_option linter.unusedSimpArgs false
set_option linter.unusedVariables false
open Go Go.RowKit
section
variable {P : Program} {H : AH}

theorem qrun_forIn_all {β : Type} (g : β → (Option Bool × Unit) → Sem (ForInStep (Option Bool × Unit))) (t : β → Bool) : ∀ (l : List β), (∀ x ∈ l, ∀ s, qrun P (g x s) H = some (if t x = true then .yield (none, ()) else .done (some false, ()))) →
    qrun P (forIn l (none, ()) g) H = some (if l.all t = true then (none, ()) else (some false, ()))
  | [], _ => rfl
  | x :: l, hg => by
    simp only [List.forIn_cons, qrun_bind, hg x (by simp), Option.bind_some, List.all_cons, Bool.and_eq_true]
    by_cases hx : t x = true
    · simp only [hx, if_true, true_and]
      exact qrun_forIn_all g t l (fun y hy => hg y (by simp [hy]))
    · simp [hx, qrun_pure]

theorem eqIn_array {t e len m sz : Nat} {xs ys : Array Value} {T : Nat → Bool} (hu : P.underlying t = some (.array len e)) (hs : (P.info? e).map (·.size) = some sz)
    (h : ∀ i, i < len → ∃ x y, qrun P (part e xs (i * sz)) H = some x ∧ qrun P (part e ys (i * sz)) H = some y ∧ qrun P (Op.equalIn m e x y) H = some (T i)) :
    qrun P (Op.equalIn (m + 1) t (.agg xs) (.agg ys)) H = some ((List.range len).all T) := by
  simp only [Op.equalIn, qrun_bind, qrun_underlying, hu, Option.bind_some, qrun_sizeOf, hs]
  rw [Std.Legacy.Range.forIn_eq_forIn_range']
  rw [qrun_forIn_all (t := T)]
  · have e : (List.range' [:len].start [:len].size [:len].step).all T = (List.range len).all T := by simp [Std.Legacy.Range.size, List.range_eq_range']
    simp only [Option.bind_some, e]
    cases (List.range len).all T <;> rfl
  · intro i hi s
    have hi' : i < len := by simpa [Std.Legacy.Range.size] using hi
    obtain ⟨x, y, h1, h2, h3⟩ := h i hi'
    simp only [qrun_bind, h1, h2, h3, Option.bind_some]
    cases T i <;> rfl

theorem eqIn_struct {t m : Nat} {fs : Array Field} {xs ys : Array Value} {T : Field → Bool} (hu : P.underlying t = some (.struct fs)) (hst : P.stoodInHeld t = false)
    (h : ∀ f ∈ fs.toList, f.name ≠ "_" ∧ ∃ x y, qrun P (part f.type xs f.offset) H = some x ∧ qrun P (part f.type ys f.offset) H = some y ∧ qrun P (Op.equalIn m f.type x y) H = some (T f)) :
    qrun P (Op.equalIn (m + 1) t (.agg xs) (.agg ys)) H = some (fs.toList.all T) := by
  simp only [Op.equalIn, qrun_bind, qrun_underlying, hu, Option.bind_some, qrun_program, hst, Bool.false_eq_true, if_false]
  rw [← Array.forIn_toList]
  rw [qrun_forIn_all (t := T)]
  · cases fs.toList.all T <;> rfl
  · intro f hf s
    obtain ⟨hn, x, y, h1, h2, h3⟩ := h f hf
    simp only [hn, if_true, ne_eq, not_false_eq_true, qrun_bind, h1, h2, h3, Option.bind_some]
    cases T f <;> rfl

theorem part_scal {e i : Nat} {cs : List Value} {v : Value} (ha : isAggU (P.underlying e) = some false) (h : cs[i]? = some v) : qrun P (part e cs.toArray i) H = some v := by
  simp only [part, qrun_bind, qrun_isAgg, ha, Option.bind_some, Bool.false_eq_true, if_false, List.getElem?_toArray, h, qrun_pure]
theorem eqg_agg {op : BinOp} {t : TypeId} {x y : Operand} {xs ys : Array Value} (hg : P.eqGuardType P.depth t = false) : qrun P (eqGuard op t x y (.agg xs) (.agg ys)) H = some () := by
  cases op <;> simp [eqGuard, qrun_bind, qrun_pure, qrun_program, hg]

theorem info_sz {e : TypeId} {n : Nat} (h : P.cellsOf e = n) (hn : n ≠ 0) : (P.info? e).map (·.size) = some n := by
  subst h; exact info_size hn

end
end Go.AX

/- The engine: an element, a field, a part of a slice, of an array, of a string; frames and rows at a loop's head. -/
namespace Go.AX
set_option linter.unusedSimpArgs false
set_option linter.unusedVariables false
open Go Go.RowKit
section
variable {P : Program} {H : AH}

theorem qrun_bounds {α : Type} (k : IntKind) (x y : Int) (c : BoundsCode) : qrun P (boundsPanic k x y c : Sem α) H = none := by
  unfold boundsPanic
  split <;> rfl

def bnd (d : Nat) (o : Option Value) (y : Nat) (k : Nat → Prop) (_t : Lk k := .mk) : Prop :=
  match o with
  | none => k d
  | some (.int _ i) => 0 ≤ i ∧ i ≤ y ∧ k i.toNat
  | _ => False
theorem bnd_none {d y : Nat} {k : Nat → Prop} : bnd d none y k = k d := Eq.trans rfl rfl
theorem bnd_int {d y : Nat} {kd : IntKind} {i : Int} {k : Nat → Prop} : bnd d (some (.int kd i)) y k = (0 ≤ i ∧ i ≤ y ∧ k i.toNat) := Eq.trans rfl rfl

theorem qrun_sliceBound {kd : IntKind} {i : Int} {y : Nat} {c : BoundsCode} : qrun P (Instr.sliceBound (.int kd i) y c) H = if 0 ≤ i ∧ i ≤ y then some i.toNat else none := by
  simp only [Instr.sliceBound, asIntOf, qrun_bind, qrun_pure, Option.bind_some]
  split
  · rfl
  · exact qrun_bounds _ _ _ _

theorem wo_sliceBound {v : Value} {y : Nat} {c : BoundsCode} {k : Nat → Prop} {d : Nat} : wo (qrun P (Instr.sliceBound v y c) H) k = bnd d (some v) y k := by
  cases v
  case int kd i =>
    rw [qrun_sliceBound, bnd_int]
    by_cases hh : 0 ≤ i ∧ i ≤ y
    · simp [hh, wo]
    · simp only [hh, if_false, wo]
      simp only [← and_assoc, hh, false_and]
  case pointer a => simp only [Instr.sliceBound, asIntOf, qrun_bind]; cases a <;> rfl
  all_goals rfl

theorem wo_bind {α β : Type} (o : Option α) (f : α → Option β) (k : β → Prop) : wo (o.bind f) k = wo o fun a => wo (f a) k := by cases o <;> rfl

theorem wo_sliceBounds {s : Bool} {len cap : Nat} {lo hi : Option Value} {k : Nat × Nat × Nat → Prop} :
    wo (qrun P (Instr.sliceBounds s len cap lo hi none) H) k = bnd len hi cap fun h => bnd 0 lo h fun l => k (l, h, cap) := by
  have e : ∀ (x : Nat), wo (qrun P (do
      let l ← match lo with
        | some v => Instr.sliceBound v x (if (none : Option Value).isSome then .slice3C else .sliceB)
        | none => pure 0
      pure (l, x, cap)) H) k = bnd 0 lo x fun l => k (l, x, cap) := by
    intro x
    cases lo with
    | none => rfl
    | some v => simp only [qrun_bind, wo_bind]; exact wo_sliceBound
  unfold Instr.sliceBounds
  cases hi with
  | none => exact e len
  | some v =>
    simp only [qrun_bind, qrun_pure, Option.bind_some, wo_bind]
    have e' := fun x => (by have := e x; simp only [qrun_bind, wo_bind] at this; exact this)
    refine Eq.trans ?_ (wo_sliceBound (P := P) (H := H) (c := if s then .sliceAcap else .sliceAlen))
    exact congrArg (fun k => wo (qrun P (Instr.sliceBound v cap (if s then .sliceAcap else .sliceAlen)) H) k) (funext fun x => e' x)

theorem rdop_slice_arr {t n e b o : Nat} {lo hi : Option Value} {K : Value → Prop} (hu : P.underlying t = some (.array n e)) (hz : P.cellsOf e ≠ 0) :
    rdop P H (Instr.sliceAt t (.pointer (some ⟨b, o, none⟩)) lo hi none) K = bnd n hi n fun h => bnd 0 lo h fun l => nv (.slice (some ⟨b, if n = l then o else o + l * P.cellsOf e, none⟩) (h - l) (n - l)) K := by
  unfold rdop
  simp only [Instr.sliceAt, qrun_bind, qrun_underlying, hu, Option.bind_some, Instr.sureAddr, qrun_pure, wo_bind]
  rw [wo_sliceBounds]
  exact congrArg (fun k => bnd n hi n k) (funext fun h => congrArg (fun k => bnd 0 lo h k) (funext fun l => by
    by_cases hh : n = l <;> simp [hh, qrun_sizeOf, info_size hz, wo, add_plain]))

theorem rdop_slice_sl {t e b o len cap : Nat} {lo hi : Option Value} {K : Value → Prop} (hu : P.underlying t = some (.slice e)) (hz : P.cellsOf e ≠ 0) :
    rdop P H (Instr.sliceAt t (.slice (some ⟨b, o, none⟩) len cap) lo hi none) K = bnd len hi cap fun h => bnd 0 lo h fun l => nv (.slice (some ⟨b, if cap = l then o else o + l * P.cellsOf e, none⟩) (h - l) (cap - l)) K := by
  unfold rdop
  simp only [Instr.sliceAt, Instr.slice, qrun_bind, qrun_underlying, hu, Option.bind_some, Instr.sureAddr, qrun_pure, wo_bind]
  rw [wo_sliceBounds]
  exact congrArg (fun k => bnd len hi cap k) (funext fun h => congrArg (fun k => bnd 0 lo h k) (funext fun l => by
    by_cases hh : cap = l <;> simp [hh, qrun_sizeOf, info_size hz, wo, add_plain]))

theorem rdop_clip {t e len cap : Nat} {a : Option Addr} {hi mx : Value} {K : Value → Prop} (hu : P.underlying t = some (.slice e)) (hz : P.cellsOf e ≠ 0) :
    rdop P H (Instr.sliceAt t (.slice a len cap) none (some hi) (some mx)) K = bnd cap (some mx) cap fun m => bnd len (some hi) m fun h => nv (.slice a h m) K := by
  unfold rdop
  simp only [Instr.sliceAt, Instr.slice, qrun_bind, qrun_underlying, hu, Option.bind_some, Instr.sliceBounds, wo_bind, wo_sliceBound]
  rw [wo_sliceBound]
  refine congrArg (fun k => bnd cap (some mx) cap k) (funext fun m => ?_)
  simp only [wo_bind]
  rw [wo_sliceBound]
  refine congrArg (fun k => bnd len (some hi) m k) (funext fun h => ?_)
  have e0 : ∀ a : Addr, a.add 0 = a := fun a => rfl
  by_cases hm : m = 0 <;> simp [hm, qrun_pure, qrun_sizeOf, info_size hz, wo, nv, e0]
theorem rdop_slice_nil {t e len cap : Nat} {lo hi : Option Value} {K : Value → Prop} (hu : P.underlying t = some (.slice e)) (hz : P.cellsOf e ≠ 0) :
    rdop P H (Instr.sliceAt t (.slice none len cap) lo hi none) K = bnd len hi cap fun h => bnd 0 lo h fun l => nv (.slice none (h - l) (cap - l)) K := by
  unfold rdop
  simp only [Instr.sliceAt, Instr.slice, qrun_bind, qrun_underlying, hu, Option.bind_some, Instr.sureAddr, qrun_pure, wo_bind]
  rw [wo_sliceBounds]
  exact congrArg (fun k => bnd len hi cap k) (funext fun h => congrArg (fun k => bnd 0 lo h k) (funext fun l => by
    by_cases hh : cap = l <;> simp [hh, qrun_sizeOf, info_size hz, wo, add_plain]))

theorem rdop_index_str {t : Nat} {s : ByteArray} {k : IntKind} {i : Int} {K : Value → Prop} (hu : P.underlying t = some .string) :
    rdop P H (Instr.index t (.string s) (.int k i)) K = (0 ≤ i ∧ wo s[i.toNat]? fun b => nv (.int .u8 b.toNat) K) := by
  unfold rdop
  simp only [Instr.index, asIntOf, qrun_bind, qrun_pure, Option.bind_some, qrun_underlying, hu]
  by_cases h : 0 ≤ i
  · simp only [h, if_true, true_and]
    cases s[i.toNat]? with
    | none => simp [wo, qrun_bounds]
    | some b => simp [wo, qrun_pure]
  · simp [h, wo, qrun_bounds]

theorem rdop_index_arr {t n e : Nat} {cs : Array Value} {k : IntKind} {i : Int} {K : Value → Prop} (hu : P.underlying t = some (.array n e)) (hz : P.cellsOf e ≠ 0) (ha : isAggU (P.underlying e) = some false) :
    rdop P H (Instr.index t (.agg cs) (.int k i)) K = (0 ≤ i ∧ i < n ∧ wo cs[i.toNat * P.cellsOf e]? fun v => nv v K) := by
  unfold rdop
  simp only [Instr.index, asIntOf, qrun_bind, qrun_pure, Option.bind_some, qrun_underlying, hu]
  by_cases h : 0 ≤ i ∧ i < n
  · simp only [h, and_self, if_true, true_and, qrun_bind, qrun_sizeOf, info_size hz, Option.map_some, Option.bind_some, part, qrun_isAgg, ha, Bool.false_eq_true, if_false]
    cases cs[i.toNat * P.cellsOf e]? <;> rfl
  · simp only [h, if_false, qrun_bounds, wo]
    simp only [← and_assoc, h, false_and]

theorem rdop_field {t i : Nat} {fs : Array Field} {f : Field} {cs : Array Value} {K : Value → Prop} (hu : P.underlying t = some (.struct fs)) (hf : fs[i]? = some f) (ha : isAggU (P.underlying f.type) = some false) :
    rdop P H (Instr.field t (.agg cs) i) K = wo cs[f.offset]? fun v => nv v K := by
  unfold rdop
  simp only [Instr.field, qrun_bind, qrun_pure, Option.bind_some, qrun_underlying, hu, hf, asAgg, part, qrun_isAgg, ha, Bool.false_eq_true, if_false]
  cases cs[f.offset]? <;> rfl
theorem fdOf_some {t i off sz : Nat} {g : Bool} (h : fdOf P t i = some (off, sz, g)) : ∃ fs f, P.underlying t = some (.struct fs) ∧ fs[i]? = some f ∧ isAggU (P.underlying f.type) = some g ∧ f.offset = off ∧ P.cellsOf f.type = sz := by
  unfold fdOf at h
  split at h
  · rename_i fs hu
    obtain ⟨f, hf, h⟩ := Option.bind_eq_some_iff.1 h
    obtain ⟨a, ha, h⟩ := Option.map_eq_some_iff.1 h
    simp only [Prod.mk.injEq] at h
    obtain ⟨h1, h2, rfl⟩ := h
    exact ⟨fs, f, hu, hf, ha, h1, h2⟩
  · cases h
theorem rdop_fieldF {t i off sz : Nat} {cs : Array Value} {K : Value → Prop} (h : fdOf P t i = some (off, sz, false)) : rdop P H (Instr.field t (.agg cs) i) K = wo cs[off]? fun v => nv v K := by
  obtain ⟨fs, f, hu, hf, ha, h1, h2⟩ := fdOf_some h
  rw [rdop_field hu hf ha, h1]
end

theorem lput_get : ∀ (vs cs : List Value) (o j : Nat), o + vs.length ≤ cs.length → (lput cs o vs)[j]? = if o ≤ j ∧ j < o + vs.length then vs[j - o]? else cs[j]?
  | [], cs, o, j, _ => by simp [lput]; intro h1 h2; omega
  | v :: vs, cs, o, j, h => by
    simp only [List.length_cons] at h
    simp only [lput]
    rw [lput_get vs _ _ _ (by simp; omega)]
    by_cases h1 : o + 1 ≤ j ∧ j < o + 1 + vs.length
    · rw [if_pos h1, if_pos (by simp; omega), show j - o = (j - (o + 1)) + 1 from by omega]; rfl
    · rw [if_neg h1]
      by_cases h2 : j = o
      · subst h2
        simp [List.getElem?_set, show j < cs.length from by omega]
      · rw [List.getElem?_set_ne (Ne.symm h2), if_neg (by simp; omega)]
theorem lput_full {vs cs : List Value} (h : vs.length = cs.length) : lput cs 0 vs = vs := by
  apply List.ext_getElem?
  intro j
  rw [lput_get vs cs 0 j (by omega)]
  by_cases h1 : j < vs.length
  · simp [h1]
  · simp only [Nat.zero_le, true_and, Nat.zero_add, h1, if_false]
    rw [List.getElem?_eq_none (by omega), List.getElem?_eq_none (by omega)]
theorem scal_bools (l : List Bool) : (l.map Value.bool).all scal = true := by simp [scal]
theorem FrLe.nil (f : Fr) : FrLe [] f := fun t v h => by cases h
theorem FrLe.cons {t : Nat} {v : Value} {r f : Fr} (h : alk t f = some v) (hr : FrLe r f) : FrLe ((t, v) :: r) f := by
  intro t' v' h'
  rw [alk_cons] at h'
  split at h'
  · rename_i e; subst e; cases h'; exact h
  · exact hr t' v' h'
def lks (f : Fr) : Fr → Prop
  | [] => True
  | (t, v) :: r => alk t f = some v ∧ lks f r
theorem lks_nil {f : Fr} : lks f [] = True := Eq.trans rfl rfl
theorem lks_cons {f r : Fr} {t : Nat} {v : Value} : lks f ((t, v) :: r) = (alk t f = some v ∧ lks f r) := Eq.trans rfl rfl
theorem FrLe.of_lks {f : Fr} : ∀ {r : Fr}, lks f r → FrLe r f
  | [], _ => FrLe.nil f
  | (_, _) :: _, h => FrLe.cons h.1 (FrLe.of_lks h.2)

end Go.AX
