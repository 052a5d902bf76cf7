/- ifs: files by their numbers, what a store comes to. -/
import Derived.Test.YtmkbpdlijfjgkaaDoorFile5
import Derived.Test.YtmkbpdlijfjgkaaDoorAddr1
namespace Go.Proofs.YtmkbpdlijfjgkaaDoor.Ifs
set_option linter.unusedSimpArgs false
set_option linter.unusedVariables false
open Go Go.AX Go.Proofs Go.Proofs.YtmkbpdlijfjgkaaDoor.File

/-! ### Files by their numbers -/
abbrev Fl := Int × List Rc
abbrev Nf := Int × Fl
instance : DecidableEq Nf := fun a b => decidable_of_iff (a.1 = b.1 ∧ a.2.1 = b.2.1 ∧ a.2.2 = b.2.2) ⟨fun h => by
  obtain ⟨x, y, z⟩ := a
  obtain ⟨x', y', z'⟩ := b
  obtain ⟨h1, h2, h3⟩ := h
  dsimp only at h1 h2 h3
  rw [h1, h2, h3], fun h => by subst h; exact ⟨rfl, rfl, rfl⟩⟩
def lk (n : Int) : List Nf → Option Fl
  | [] => none
  | x :: l => if x.1 = n then some x.2 else lk n l
def Kd (X : List Nf) : Prop := (X.map (·.1)).Nodup
theorem lk_some {n : Int} {f : Fl} : ∀ {X : List Nf}, lk n X = some f → (n, f) ∈ X
  | x :: l, h => by
    rw [lk] at h
    split at h
    · rename_i e; cases h; subst e; exact List.mem_cons_self ..
    · exact List.mem_cons_of_mem _ (lk_some h)
theorem lk_none {n : Int} : ∀ {X : List Nf}, lk n X = none ↔ ∀ x ∈ X, x.1 ≠ n
  | [] => by simp [lk]
  | x :: l => by
    rw [lk]
    split
    · rename_i e; simp [e]
    · rename_i e; simp [e, lk_none (X := l)]
theorem Kd.cons {x : Nf} {X : List Nf} (h : Kd (x :: X)) : Kd X ∧ ∀ y ∈ X, y.1 ≠ x.1 := by
  simp only [Kd, List.map_cons, List.nodup_cons, List.mem_map, not_exists, not_and] at h
  exact ⟨h.2, fun y hy e => h.1 y hy e⟩
theorem lk_mem {n : Int} {f : Fl} : ∀ {X : List Nf}, Kd X → (n, f) ∈ X → lk n X = some f
  | x :: l, hk, h => by
    obtain ⟨h1, h2⟩ := hk.cons
    rw [lk]
    rcases List.mem_cons.1 h with h | h
    · subst h; simp
    · rw [if_neg (fun e => h2 _ h e.symm)]; exact lk_mem h1 h
theorem Kd.perm {X Y : List Nf} (h : X.Perm Y) (hk : Kd X) : Kd Y := (h.map _).nodup_iff.1 hk
theorem lk_perm {X Y : List Nf} (h : X.Perm Y) (hk : Kd X) (n : Int) : lk n X = lk n Y := by
  cases hx : lk n X with
  | some f => exact (lk_mem (hk.perm h) (h.mem_iff.1 (lk_some hx))).symm
  | none => exact (lk_none.2 fun y hy => lk_none.1 hx y (h.mem_iff.2 hy)).symm

def rp (n : Int) (f : Fl) (X : List Nf) : List Nf := X.map fun x => if x.1 = n then (n, f) else x
theorem rp_keys (n : Int) (f : Fl) (X : List Nf) : (rp n f X).map (·.1) = X.map (·.1) := by
  rw [rp, List.map_map]
  apply List.map_congr_left
  intro x _
  simp only [Function.comp]
  split
  · rename_i e; exact e.symm
  · rfl
theorem rp_len (n : Int) (f : Fl) (X : List Nf) : (rp n f X).length = X.length := by simp [rp]
theorem rp_kd {n : Int} {f : Fl} {X : List Nf} (h : Kd X) : Kd (rp n f X) := by unfold Kd; rw [rp_keys]; exact h
theorem rp_perm {n : Int} {f : Fl} {X Y : List Nf} (h : X.Perm Y) : (rp n f X).Perm (rp n f Y) := h.map _
theorem lk_rp (m n : Int) (f : Fl) : ∀ X : List Nf, lk m (rp n f X) = if m = n then (lk n X).map (fun _ => f) else lk m X
  | [] => by simp [rp, lk]
  | x :: l => by
    have ih := lk_rp m n f l
    simp only [rp, List.map_cons] at ih ⊢
    by_cases e : x.1 = n
    · rw [if_pos e]
      by_cases hm : m = n
      · subst hm; simp [lk, e]
      · rw [if_neg hm] at ih
        have e1 : ¬ n = m := fun h => hm h.symm
        have e2 : ¬ x.1 = m := fun h => hm (h.symm.trans e)
        simp only [lk, if_neg hm, if_neg e1, if_neg e2, ih]
    · rw [if_neg e]
      by_cases hm : m = n
      · subst hm
        rw [if_pos rfl] at ih ⊢
        rw [lk, if_neg e, ih, lk, if_neg e]
      · rw [if_neg hm] at ih ⊢
        rw [lk, ih, lk]
theorem rp_mem {n : Int} {f : Fl} {X : List Nf} {x : Nf} (h : x ∈ rp n f X) : x = (n, f) ∧ (∃ g, (n, g) ∈ X) ∨ x ∈ X := by
  obtain ⟨y, hy, he⟩ := List.mem_map.1 h
  split at he
  · rename_i e
    exact .inl ⟨he.symm, y.2, by rw [← e]; exact hy⟩
  · exact .inr (he ▸ hy)

def ins (n : Int) (f : Fl) : List Nf → List Nf
  | [] => [(n, f)]
  | x :: l => if x.1 < n then x :: ins n f l else (n, f) :: x :: l
def Srt (X : List Nf) : Prop := X.Pairwise fun a b => a.1 < b.1
theorem ins_perm (n : Int) (f : Fl) : ∀ X : List Nf, (ins n f X).Perm ((n, f) :: X)
  | [] => .refl _
  | x :: l => by
    rw [ins]
    split
    · exact ((ins_perm n f l).cons x).trans (.swap ..)
    · exact .refl _
theorem ins_mem {n : Int} {f : Fl} {X : List Nf} {x : Nf} : x ∈ ins n f X ↔ x = (n, f) ∨ x ∈ X := by
  rw [(ins_perm n f X).mem_iff, List.mem_cons]
theorem ins_srt {n : Int} {f : Fl} : ∀ {X : List Nf}, Srt X → lk n X = none → Srt (ins n f X)
  | [], _, _ => by simp [Srt, ins]
  | x :: l, h, hn => by
    simp only [Srt, List.pairwise_cons] at h
    have hl := lk_none.1 hn
    rw [ins]
    split
    · rename_i hlt
      have := ins_srt (n := n) (f := f) (X := l) h.2 (lk_none.2 fun y hy => hl y (List.mem_cons_of_mem _ hy))
      simp only [Srt, List.pairwise_cons]
      refine ⟨fun y hy => ?_, this⟩
      rcases ins_mem.1 hy with rfl | hy
      · exact hlt
      · exact h.1 y hy
    · rename_i hge
      have hx := hl x (List.mem_cons_self ..)
      simp only [Srt, List.pairwise_cons]
      refine ⟨fun y hy => ?_, h.1, h.2⟩
      rcases List.mem_cons.1 hy with rfl | hy
      · show n < _; omega
      · have := h.1 y hy
        show n < _; omega
theorem Srt.kd {X : List Nf} (h : Srt X) : Kd X := by
  unfold Kd
  rw [List.Nodup, List.pairwise_map]
  exact h.imp fun hab e => by omega
theorem Srt.uniq : ∀ {X Y : List Nf}, X.Perm Y → Srt X → Srt Y → X = Y
  | [], Y, h, _, _ => (List.nil_perm.1 h).symm
  | x :: X, [], h, _, _ => absurd h.symm (by simp)
  | x :: X, y :: Y, h, hx, hy => by
    simp only [Srt, List.pairwise_cons] at hx hy
    have e : x = y := by
      rcases List.mem_cons.1 (h.mem_iff.1 (List.mem_cons_self ..)) with e | e
      · exact e
      · rcases List.mem_cons.1 (h.mem_iff.2 (List.mem_cons_self ..)) with e2 | e2
        · exact e2.symm
        · have := hx.1 _ e2; have := hy.1 _ e; omega
    subst e
    rw [Srt.uniq (List.Perm.cons_inv h) hx.2 hy.2]
theorem rp_srt {n : Int} {f : Fl} {X : List Nf} (h : Srt X) : Srt (rp n f X) := by
  have : ((rp n f X).map (·.1)).Pairwise (· < ·) := by
    rw [rp_keys, List.pairwise_map]; exact h
  rw [List.pairwise_map] at this
  exact this

/-! ### What a store comes to -/
def addE (X : List Nf) (n : Int) (f : Fl) : Int := if n < 0 ∨ 64 ≤ n then 1 else if goodF f.1 f.2 = false then 2 else if (lk n X).isSome then 10 else 0
def addX (X : List Nf) (n : Int) (f : Fl) : List Nf := if addE X n f = 0 then X ++ [(n, f)] else X
def doE (X : List Nf) (op fl rec : Int) : Int := if agood op fl rec = false then 1 else match lk fl X with | none => 3 | some f => mayF f.1 f.2 op rec
def doF (f : Fl) (op rec : Int) (v : Rc) : Fl := (f.1, doR f.2 op rec.toNat v)
def doW (X : List Nf) (op fl rec : Int) (v : Rc) : Rc := if doE X op fl rec = 0 then match lk fl X with | none => zr | some f => (doR f.2 op rec.toNat v).getD rec.toNat zr else zr
def doX (X : List Nf) (op fl rec : Int) (v : Rc) : List Nf := if doE X op fl rec = 0 then match lk fl X with | none => X | some f => rp fl (doF f op rec v) X else X
def doD (X : List Nf) (op fl rec : Int) (d : Int) : Int := if doE X op fl rec = 5 then IntKind.i64.wrap (d + 1) else d
def getW (X : List Nf) (n rec : Int) : Option Rc := (lk n X).bind fun f => if rec < 0 then none else f.2[rec.toNat]?
def setOk (X : List Nf) (n rec : Int) : Bool := (getW X n rec).isSome && decide (rec ≠ 0)
def setX (X : List Nf) (n rec : Int) (v : Rc) : List Nf := if setOk X n rec = true then match lk n X with | none => X | some f => rp n (f.1, f.2.set rec.toNat v) X else X

/-- What holds of each store's files. -/
structure OkX (X : List Nf) : Prop where
  kd : Kd X
  ok : ∀ x ∈ X, (0 ≤ x.1 ∧ x.1 < 64) ∧ goodF x.2.1 x.2.2 = true ∧ ∀ r ∈ x.2.2, RcOk r
theorem OkX.nil : OkX [] := ⟨by simp [Kd], by simp⟩
theorem OkX.perm {X Y : List Nf} (h : OkX X) (hp : X.Perm Y) : OkX Y := ⟨h.kd.perm hp, fun x hx => h.ok x (hp.mem_iff.2 hx)⟩
theorem OkX.lk {X : List Nf} (h : OkX X) {n : Int} {f : Fl} (hf : lk n X = some f) : (0 ≤ n ∧ n < 64) ∧ goodF f.1 f.2 = true ∧ ∀ r ∈ f.2, RcOk r := h.ok _ (lk_some hf)
theorem goodF_len {p : Int} {R : List Rc} (h : goodF p R = true) : 1 ≤ R.length ∧ R.length ≤ 256 := by
  unfold goodF at h
  split at h
  · cases h
  · simp only [Bool.and_eq_true, decide_eq_true_eq] at h
    simp only [List.length_cons]; omega
theorem goodF_set {p : Int} {R : List Rc} {i : Nat} {v : Rc} (h : goodF p R = true) (hi : i ≠ 0) : goodF p (R.set i v) = true := by
  cases R with
  | nil => exact h
  | cons r l =>
    cases i with
    | zero => exact absurd rfl hi
    | succ i => simpa [goodF] using h
theorem OkX.rp {X : List Nf} (h : OkX X) {n : Int} {f g : Fl} (hf : Ifs.lk n X = some g) (hg : goodF f.1 f.2 = true) (hr : ∀ r ∈ f.2, RcOk r) : OkX (rp n f X) :=
  ⟨rp_kd h.kd, fun x hx => by
    rcases rp_mem hx with ⟨rfl, _⟩ | hx
    · exact ⟨(h.lk hf).1, hg, hr⟩
    · exact h.ok x hx⟩
theorem OkX.app {X : List Nf} (h : OkX X) {n : Int} {f : Fl} (hn : 0 ≤ n ∧ n < 64) (hf : Ifs.lk n X = none) (hg : goodF f.1 f.2 = true) (hr : ∀ r ∈ f.2, RcOk r) : OkX (X ++ [(n, f)]) :=
  OkX.perm (X := (n, f) :: X) ⟨by
    have := lk_none.1 hf
    simp only [Kd, List.map_cons, List.nodup_cons, List.mem_map, not_exists, not_and]
    exact ⟨fun x hx e => this x hx e, h.kd⟩, fun x hx => by
    rcases List.mem_cons.1 hx with rfl | hx
    · exact ⟨hn, hg, hr⟩
    · exact h.ok x hx⟩ (List.perm_append_singleton (n, f) X).symm
theorem OkX.add {X : List Nf} (h : OkX X) (n : Int) (f : Fl) (hr : ∀ r ∈ f.2, RcOk r) : OkX (addX X n f) := by
  unfold addX
  split
  · rename_i e
    unfold addE at e
    split at e
    · cases e
    split at e
    · cases e
    split at e
    · cases e
    rename_i h1 h2 h3
    exact h.app (by omega) (by simpa using h3) (by simpa using h2) hr
  · exact h
theorem OkX.set {X : List Nf} (h : OkX X) (n rec : Int) {v : Rc} (hv : RcOk v) : OkX (setX X n rec v) := by
  unfold setX
  split
  · rename_i e
    simp only [setOk, Bool.and_eq_true, decide_eq_true_eq] at e
    cases hl : Ifs.lk n X with
    | none => exact h
    | some f =>
      obtain ⟨_, h2, h3⟩ := h.lk hl
      have hr : rec.toNat ≠ 0 := by
        have := e.1
        simp only [getW, hl, Option.bind_some] at this
        split at this
        · cases this
        · omega
      refine h.rp hl (goodF_set h2 hr) fun r hr => ?_
      rcases List.mem_or_eq_of_mem_set hr with hr | hr
      · exact h3 r hr
      · subst hr; exact hv
  · exact h
end Go.Proofs.YtmkbpdlijfjgkaaDoor.Ifs
