/- slices.SortFunc of spans by their beginnings: what it comes to. -/
import Derived.Shelf.SlSortCmp.WholeK
import Derived.Shelf.SlSortCmp.NoneTotal
import Derived.Shelf.SlicesG.Cmp
import Derived.Shelf.Small.Bits
import Derived.Shelf.Lay
import Derived.Ground.SlsfProg
import Derived.Ground.SlgcProg
import Derived.Ground.NamesProg
import Derived.Test.YtapfabjmooagaaaTy
import Derived.Test.YtapfabjmooagaaaAx20
namespace Go.Proofs.Ytapfabjmooagaaa.Srt
set_option linter.unusedSimpArgs false
set_option linter.unusedVariables false
open Go Go.AX Go.Proofs Go.Shelf Go.RowKit Go.Lib Go.Sort
shelf_lay_g SlLaysF0.n6 Slsf 6 at Try 42 as sortSpan
shelf_lay_g SlLaysC2.n5 Slgc 5 at Try 44 as cmpInt

abbrev Sp := Int × Int
def encP (x : Sp) : List Value := [.int .i64 x.1, .int .i64 x.2]
set_option maxHeartbeats 1000000 in
theorem closure (x y : Int × Int) (W : World) : Calls Try.prog 43 #[.agg #[.int .i64 x.1, .int .i64 x.2], .agg #[.int .i64 y.1, .int .i64 y.2]] W fun e w' => e = .returned (.int .i64 (Lib.compareInt x.1 y.1)) ∧ ∃ q os', w' = grow (W.drewN q) os' := by
  have hcon := fun W' => AnyG.cmp_Compare_int cmpInt x.1 y.1 W'
  change ∀ W', Calls Try.prog 44 _ _ _ at hcon
  generalize Lib.compareInt x.1 y.1 = r at hcon ⊢
  go_enter Try.func43, Try.ntmps43
  go_wp2_with (go_at_call 44; refine (hcon _).mono ?_; rintro e w' ⟨rfl, rfl⟩)
  go_ret
  exact ⟨rfl, 0, _, by rw [alloc_eq_grow, alloc_eq_grow, grow_grow]; rfl⟩
theorem cmpLays (blk off size : Nat) (w : World) : CmpLays Try.prog 43 #[] encP 2 (fun x y => Lib.compareInt x.1 y.1) blk off size w :=
  fun _ _ _ _ x y => closure x y _
theorem lt_of (x y : Sp) : ltOf (fun x y : Sp => Lib.compareInt x.1 y.1) x y = decide (x.1 < y.1) := by
  unfold ltOf Lib.compareInt
  by_cases h1 : x.1 < y.1
  · simp [h1]
  · by_cases h2 : y.1 < x.1 <;> simp [h1, h2]
theorem swo : SWO (ltOf fun x y : Sp => Lib.compareInt x.1 y.1) where
  irrefl x := by rw [lt_of]; simp
  trans x y z h1 h2 := by rw [lt_of] at *; simp at *; omega
  ntrans x y z h1 h2 := by rw [lt_of] at *; simp at *; omega
theorem cells_changed {E : Nat → Option Obj} {H : AH} {w w' : World} {b e bs : Nat} {cs cs' : List Value} (hs : Sat E H w) (hf : H.find b = some (.cells cs e bs)) (hos : w'.os = w.os) (htape : w'.tape = w.tape) (hout : w'.output = w.output) (hsize : w.heap.size ≤ w'.heap.size)
    (hother : ∀ k, k < w.heap.size → k ≠ b → w'.heap[k]? = w.heap[k]?) (hb : ∃ arr' : Array Value, w'.heap[b]? = some (.cells arr' e (0, 0)) ∧ arr'.size = bs ∧ cs' <+: arr'.toList) : Sat E ((H.del b).add b (.cells cs' e bs)) w' := by
  obtain ⟨h1, h2, _⟩ := hs.known b _ hf
  refine ⟨hs.below.trans ⟨hos, htape, hout, hsize, fun k hk => hother k (Nat.lt_of_lt_of_le hk hs.below.size) (by have : k < H.w0.heap.size := hk; omega)⟩, fun b' k' hk => ?_, fun b' o ho => ?_⟩
  · rw [find_add] at hk
    split at hk
    · rename_i e'; subst e'; cases hk
      exact ⟨h1, Nat.lt_of_lt_of_le h2 hsize, hb⟩
    · rename_i hne
      rw [find_del, if_neg hne] at hk
      obtain ⟨q1, q2, q3⟩ := hs.known b' k' hk
      exact ⟨q1, Nat.lt_of_lt_of_le q2 hsize, ok_congr (hother b' q2 hne) q3⟩
  · obtain ⟨q1, q2, q3⟩ := hs.far b' o ho
    have hne : b' ≠ b := fun e' => by subst e'; rw [hf] at q2; cases q2
    have hlt : b' < w.heap.size := (Array.getElem?_eq_some_iff.1 q3).1
    exact ⟨q1, by rw [find_add, if_neg hne, find_del, if_neg hne]; exact q2, by rw [hother b' hlt hne]; exact q3⟩
theorem rowsP (L : List Sp) : ∀ r ∈ L.map encP, r.length = 2 := fun r hr => by
  obtain ⟨x, _, rfl⟩ := List.mem_map.1 hr
  rfl
theorem scalP (l : List Sp) : ((l.map encP).flatten).all scal = true := by
  rw [List.all_flatten, List.all_map, List.all_eq_true]
  intro r _; rfl
theorem flatP_len (L : List Sp) : (L.map encP).flatten.length = L.length * 2 := by rw [flat_len (rowsP L), List.length_map]
theorem flatK_toList (d : Array Sp) : (flatK encP 2 d).toList = (d.toList.map encP).flatten := by
  apply List.ext_getElem?
  intro t
  by_cases ht : t < d.size * 2
  · have hq : t / 2 < d.size := by omega
    have h1 : (d.toList.map encP)[t / 2]? = some (encP d[t / 2]) := by rw [List.getElem?_map]; simp [hq]
    have h2 : (encP d[t / 2])[t % 2]? = some (encP d[t / 2])[t % 2]! := by
      rcases Nat.mod_two_eq_zero_or_one t with h | h <;> rw [h] <;> rfl
    have h3 := flat_get (rowsP d.toList) (t / 2) (t % 2) _ _ h1 h2
    rw [show t / 2 * 2 + t % 2 = t from by omega] at h3
    rw [h3]
    have h4 := get_flatK encP 2 d t ht
    rw [getElem!_pos d (t / 2) hq] at h4
    rw [← h4, Array.getElem?_toList]
    have h5 : t < (flatK encP 2 d).size := by rw [size_flatK]; exact ht
    rw [Array.getElem?_eq_getElem h5, getElem!_pos (flatK encP 2 d) t h5]
  · rw [List.getElem?_eq_none (by simp; omega), List.getElem?_eq_none (by rw [flatP_len]; simp; omega)]
theorem Sort_c (L : List Sp) (b e bs cap n : Nat) (A : AH) (hf : A.find b = some (.cells (L.map encP).flatten e bs)) (hn : n = L.length) (hlen : L.length < 4611686018427387904) (hb : L.length * 2 ≤ bs) :
    ACalls Try.prog 42 #[.slice (some ⟨b, 0, none⟩) n cap, .func (.func 43) #[] #[]] A (fun v H' => v = .tuple #[] ∧ ∃ L' : List Sp, L'.Perm L ∧ L'.Pairwise (fun x y => x.1 ≤ y.1) ∧ H' = (A.del b).add b (.cells (L'.map encP).flatten e bs)) := by
  subst hn
  intro E w hs
  obtain ⟨h1, h2, arr, ha, hsz, hp⟩ := hs.known b _ hf
  have hF : (flatK encP 2 L.toArray).toList = (L.map encP).flatten := flatK_toList L.toArray
  have hH : HoldsK encP 2 w b 0 L.toArray := by
    intro j hj
    have hj2 : j < (L.map encP).flatten.length := by rw [← hF]; simpa using hj
    refine ⟨?_, by simp [World.frozen?, ha]⟩
    obtain ⟨t, ht⟩ := hp
    have h3 : arr.toList[j]? = some (L.map encP).flatten[j] := by rw [← ht, List.getElem?_append_left hj2, List.getElem?_eq_getElem hj2]
    have h4 : (flatK encP 2 L.toArray)[j]! = (L.map encP).flatten[j] := by
      rw [getElem!_pos _ j hj]
      have h5 : (flatK encP 2 L.toArray).toList[j]? = some (flatK encP 2 L.toArray)[j] := by simp [hj]
      rw [hF, List.getElem?_eq_getElem hj2] at h5
      exact (Option.some.inj h5).symm
    rw [h4, Nat.zero_add]
    simpa [World.cell?, ha] using h3
  have eg : ∀ args w, (callFunc 43 args).run Try.prog w = .ok (.enter 43 args) w := enters_of Try.func43 (by kernel_rfl) rfl
  have hcon := AnyQ.slices_SortFunc sortSpan 2 Try.isAgg53 Try.sizeOf53 encP (fun _ => rfl) (fun x v hv => by simp [encP] at hv; rcases hv with rfl | rfl <;> rfl) (fun x y => Lib.compareInt x.1 y.1) swo 43 #[] b 0 cap L.toArray w eg (cmpLays b 0 _ w) hH h2 (by simpa using hlen)
  change Calls Try.prog 42 _ _ _ at hcon
  refine hcon.mono ?_
  rintro e' w' ⟨rfl, d', n, os, hperm, hsort, rfl⟩
  obtain ⟨q1, q2, q3⟩ := hperm
  have hsz' : d'.size = L.length := by simpa using q1
  refine ⟨.tuple #[], _, rfl, cells_changed (cs' := (d'.toList.map encP).flatten) hs hf rfl rfl rfl ?_ ?_ ?_, rfl, d'.toList, ?_, ?_, rfl⟩
  · show w.heap.size ≤ (grow (putRowK encP 2 (Sort.ahead w n) b 0 d') os).heap.size
    rw [size_grow]
    unfold putRowK
    rw [size_putRow, heap_ahead]; omega
  · intro k hk hne
    show (grow (putRowK encP 2 (Sort.ahead w n) b 0 d') os).heap[k]? = _
    rw [heap_grow_old _ _ (by unfold putRowK; rw [size_putRow, heap_ahead]; exact hk)]
    show ((Sort.ahead w n).heap.modify b _)[k]? = _
    rw [Array.getElem?_modify, if_neg (Ne.symm hne)]; rfl
  · refine ⟨putCells id 0 (flatK encP 2 d') arr, ?_, by simp [putCells, hsz], ?_⟩
    · show (grow (putRowK encP 2 (Sort.ahead w n) b 0 d') os).heap[b]? = _
      rw [heap_grow_old _ _ (by unfold putRowK; rw [size_putRow, heap_ahead]; exact h2)]
      show ((Sort.ahead w n).heap.modify b _)[b]? = _
      rw [Array.getElem?_modify, if_pos rfl, heap_ahead, ha]; rfl
    · rw [← flatK_toList]
      refine ⟨(arr.toList.drop (d'.size * 2)), ?_⟩
      apply List.ext_getElem?
      intro t
      have hle : d'.size * 2 ≤ arr.size := by omega
      by_cases ht : t < d'.size * 2
      · rw [List.getElem?_append_left (by simpa using ht)]
        simp only [putCells, Array.getElem?_toList, Array.getElem?_mapIdx, size_flatK]
        have h5 : t < (flatK encP 2 d').size := by rw [size_flatK]; exact ht
        have h6 : t < arr.size := by omega
        rw [Array.getElem?_eq_getElem h5, Array.getElem?_eq_getElem h6, Option.map_some, if_pos ⟨by omega, by omega⟩, Nat.sub_zero, getElem!_pos _ t h5]; rfl
      · rw [List.getElem?_append_right (by simp; omega)]
        simp only [putCells, Array.getElem?_toList, Array.getElem?_mapIdx, size_flatK, Array.length_toList]
        rw [List.getElem?_drop, show d'.size * 2 + (t - d'.size * 2) = t from by omega, Array.getElem?_toList]
        cases hx : arr[t]? with
        | none => rfl
        | some v => rw [Option.map_some, if_neg (by omega)]
  · have : (d'.extract 0 L.toArray.size).toList.Perm (L.toArray.extract 0 L.toArray.size).toList := q3
    have e1 : d'.extract 0 L.toArray.size = d' := by rw [show L.toArray.size = d'.size from by rw [hsz']; simp]; exact Array.extract_size
    have e2 : L.toArray.extract 0 L.toArray.size = L.toArray := Array.extract_size
    rw [e1, e2] at this
    simpa using this
  · rw [List.pairwise_iff_getElem]
    intro i j hi hj hij
    have := hsort i j (Nat.zero_le _) hij (by simpa [hsz'] using hj)
    rw [lt_of] at this
    rw [getElem!_pos d' j (by simpa using hj), getElem!_pos d' i (by simpa using hi)] at this
    simp only [decide_eq_false_iff_not] at this
    simp only [Array.getElem_toList]
    omega
theorem Sort_o {H A : AH} {base : Option Addr} {cap e n : Nat} {L : List Sp} (hO : OwnS H A e 2 base cap (L.map encP)) (hn : n = L.length) (hlen : L.length < 4611686018427387904) :
    ACalls Try.prog 42 #[.slice base n cap, .func (.func 43) #[] #[]] A (fun v H' => v = .tuple #[] ∧ ∃ L' : List Sp, L'.Perm L ∧ L'.Pairwise (fun x y => x.1 ≤ y.1) ∧ OwnS H H' e 2 base cap (L'.map encP) ∧ Keep A H' (exB base)) := by
  rcases hO.at_ with ⟨rfl, hnil, rfl⟩ | ⟨b, bs, rfl, hf, hbs, hfr⟩
  · have hL : L = [] := by simpa using hnil
    subst hL
    subst hn
    intro E w hs
    have := AnyF.slices_SortFunc_none (P := Try.prog) (ρ := sortSpan_ren) { sortSpan with } none 0 (.func (.func 43) #[] #[]) w
    change Calls Try.prog 42 _ _ _ at this
    exact this.mono fun e' w' ⟨h1, h2⟩ => ⟨_, A, h1, h2 ▸ hs, rfl, [], List.Perm.refl _, List.Pairwise.nil, hO, Keep.refl⟩
  · have hle := hO.le
    rw [List.length_map] at hle
    refine (Sort_c L b e bs cap n A hf hn hlen (by omega)).mono ?_
    rintro v H' ⟨rfl, L', hp, hs, rfl⟩
    refine ⟨rfl, L', hp, hs, ⟨rowsP L', by rw [List.length_map, hp.length_eq]; exact hle, by rw [List.length_map, hp.length_eq]; omega, .inr ⟨b, bs, rfl, find_add_self _ _ _, hbs, hfr⟩⟩, Keep.put.mono fun b' hb' => exB_some.2 hb'⟩
end Go.Proofs.Ytapfabjmooagaaa.Srt
