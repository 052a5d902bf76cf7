/- baud, in plain words: the falls of a list that is plain. -/
import Derived.Test.YtapfabjmooagaaaSend1
namespace Go.Proofs.Ytapfabjmooagaaa.Baud
set_option linter.unusedSimpArgs false
set_option linter.unusedVariables false
open Go Go.AX Go.Proofs Ty Go.Proofs.Ytapfabjmooagaaa.Srt Go.Proofs.Ytapfabjmooagaaa.Wire
set_option maxHeartbeats 4000000
set_option maxRecDepth 10000

def ge (a : Int) (s : Sp) : Bool := decide (a ≤ s.1)
def fl (R : List Sp) (f : Int) (k : Nat) : List Int := ((R.filter (ge f)).map (·.1)).take k
theorem fl_len (R : List Sp) (f : Int) (k : Nat) : (fl R f k).length ≤ k := by rw [fl, List.length_take]; omega
theorem fl_step {R : List Sp} {i : Nat} {s : Sp} (h : R[i]? = some s) (f : Int) (k : Nat) : fl (R.take (i + 1)) f k = if f ≤ s.1 ∧ (fl (R.take i) f k).length < k then fl (R.take i) f k ++ [s.1] else fl (R.take i) f k := by
  rw [List.take_add_one, h]
  unfold fl
  rw [List.filter_append, List.map_append, Option.toList_some]
  generalize ((R.take i).filter (ge f)).map (·.1) = M
  by_cases hf : f ≤ s.1
  · have e : ([s].filter (ge f)).map (·.1) = [s.1] := by simp [ge, hf]
    rw [e, List.take_append]
    by_cases hk : (M.take k).length < k
    · rw [if_pos ⟨hf, hk⟩]
      rw [List.length_take] at hk
      rw [List.take_of_length_le (l := [s.1]) (by simp; omega)]
    · rw [if_neg (fun h => hk h.2)]
      rw [List.length_take] at hk
      rw [show k - M.length = 0 by omega, List.take_zero, List.append_nil]
  · have e : ([s].filter (ge f)).map (·.1) = [] := by simp [ge, hf]
    rw [e, List.append_nil, if_neg (fun h => hf h.1)]
theorem plain_lt {R : List Sp} (h : Plain R) : R.Pairwise fun x y => x.1 < y.1 :=
  h.apart.imp_of_mem fun hx _ hxy => by have := h.up _ hx; omega
theorem filter_next {R : List Sp} (hp : R.Pairwise fun x y => x.1 < y.1) {a : Int} {x : Sp} {l : List Sp} (h : R.filter (ge a) = x :: l) : R.filter (ge (x.1 + 1)) = l := by
  have hx : a ≤ x.1 := by
    have : x ∈ R.filter (ge a) := by rw [h]; simp
    simpa [ge] using (List.mem_filter.1 this).2
  have e : R.filter (ge (x.1 + 1)) = (R.filter (ge a)).filter (ge (x.1 + 1)) := by
    rw [List.filter_filter]
    refine List.filter_congr fun s _ => ?_
    by_cases h1 : x.1 + 1 ≤ s.1
    · have : a ≤ s.1 := by omega
      simp [ge, h1, this]
    · simp [ge, h1]
  have hp2 := hp.sublist (List.filter_sublist (p := ge a))
  rw [e, h]
  rw [h] at hp2
  rw [List.filter_cons_of_neg (by simp [ge]; omega)]
  exact List.filter_eq_self.2 fun s hs => by have := (List.pairwise_cons.1 hp2).1 s hs; simp [ge]; omega
theorem find_filter {a T : Int} : ∀ {R : List Sp}, (∀ s ∈ R, s.1 < T) → R.find? (fp a T) = (R.filter (ge a)).head?
  | [], _ => rfl
  | x :: R, hT => by
    have hx := hT x (List.mem_cons_self ..)
    have ih := find_filter (a := a) (R := R) fun s hs => hT s (List.mem_cons_of_mem _ hs)
    by_cases h : a ≤ x.1
    · rw [List.find?_cons, List.filter_cons_of_pos (by simp [ge, h])]
      simp [fp, h, hx]
    · rw [List.find?_cons, List.filter_cons_of_neg (by simp [ge, h]), ← ih]
      simp [fp, h]
theorem filter_found {R : List Sp} (hp : R.Pairwise fun x y => x.1 < y.1) {a z : Int} {s : Sp} (h : R.find? (fp a z) = some s) : R.filter (ge s.1) = R.filter (ge a) := by
  obtain ⟨h1, ps, qs, rfl, h2⟩ := List.find?_eq_some_iff_append.1 h
  simp only [fp, Bool.and_eq_true, decide_eq_true_eq] at h1
  refine List.filter_congr fun x hx => ?_
  have hpp := List.pairwise_append.1 hp
  by_cases hxs : s.1 ≤ x.1
  · have : a ≤ x.1 := by omega
    simp [ge, hxs, this]
  · have : ¬ a ≤ x.1 := fun hax => by
      rcases List.mem_append.1 hx with hm | hm
      · have h3 := h2 x hm
        simp [fp, hax] at h3
        omega
      · rcases List.mem_cons.1 hm with rfl | hm
        · omega
        · have := (List.pairwise_cons.1 hpp.2.1).1 x hm; omega
    simp [ge, hxs, this]
theorem fl_found {R : List Sp} (hp : Plain R) {a z : Int} {s : Sp} (h : R.find? (fp a z) = some s) (k : Nat) : fl R s.1 k = fl R a k := by
  rw [fl, fl, filter_found (plain_lt hp) h]
def encI (x : Int) : List Value := [.int .i64 x]
theorem rowsI (L : List Int) : ∀ r ∈ L.map encI, r.length = 1 := fun r hr => by
  obtain ⟨x, _, rfl⟩ := List.mem_map.1 hr
  rfl
end Go.Proofs.Ytapfabjmooagaaa.Baud
