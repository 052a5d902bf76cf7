/- ifs: the sorted numbers of a store's files. -/
import Derived.Test.YtmkbpdlijfjgkaaDoorIfs7
import Derived.Test.YtmkbpdlijfjgkaaDoorIfsK
namespace Go.Proofs.YtmkbpdlijfjgkaaDoor.Ifs
set_option linter.unusedSimpArgs false
set_option linter.unusedVariables false
open Go Go.AX Go.RowKit Go.Proofs Ty Go.Proofs.YtmkbpdlijfjgkaaDoor.File
set_option maxHeartbeats 4000000
set_option maxRecDepth 10000

theorem Sat.newb {E : Nat → Option Obj} {H : AH} {w w' : World} {g e cap : Nat} {cs : List Value} {cur : Array Value} (h : Sat E H w) (hb : Below w.heap.size w w') (hg : w.heap.size ≤ g) (hc : w'.heap[g]? = some (.cells cur e (0, 0))) (hs : cur.size = cap) (hp : cs <+: cur.toList) :
    Sat E (H.add g (.cells cs e cap)) w' ∧ Fresh H g := by
  have h' := h.belowed hb
  have hfr : Fresh H g := ⟨Nat.le_trans h.below.size hg, by
    cases hf : H.find g with
    | none => rfl
    | some k => have := (h.known _ _ hf).2.1; omega⟩
  refine ⟨⟨h'.below, fun b k hk => ?_, fun b o ho => ?_⟩, hfr⟩
  · rw [find_add] at hk
    split at hk
    · rename_i e1; subst e1; cases hk
      exact ⟨hfr.1, (Array.getElem?_eq_some_iff.1 hc).1, cur, hc, hs, hp⟩
    · exact h'.known _ _ hk
  · obtain ⟨q1, q2, q3⟩ := h.far b o ho
    have hlt : b < w.heap.size := (Array.getElem?_eq_some_iff.1 q3).1
    have := h'.far b o ho
    exact ⟨this.1, by rw [find_add, if_neg (by omega)]; exact this.2.1, this.2.2⟩
theorem Keys_c {H : AH} (bm : Nat) : ACalls Tryd.prog 37 #[.map (some bm)] H (fun v H' => ∃ bk, Fresh H bk ∧ v = .func (.func 55) #[] #[.pointer (some ⟨bk, 0, none⟩)] ∧ H' = H.add bk (.cells [.map (some bm)] 64 1)) := by
  refine ACalls.enter2 Tryd.func37 rfl Tryd.ntmps37 Tryd.results37 (by simp) ?_; simp (dsimp := false) (maxSteps := 4000000) only [go_sem, ↓reduceIte, Nat.reduceEqDiff, Nat.reduceLT, Nat.reduceLeDiff, Nat.reduceAdd, Nat.reduceMul, Nat.reduceSub, reduceCtorEq, Int.reduceToNat, Int.reduceLT, Int.reduceLE, Int.reduceEq, Int.reduceNe, Int.reduceBEq, Nat.reduceBEq, Int.reduceBNe, Nat.reduceBNe, Int.reduceAdd, Int.reduceSub, Int.reduceMul, Int.reduceNeg]
  refine AllB.mk fun bk h_bk => ?_; have hn_bk := h_bk; (try simp only [fresh_add, fresh_set, ne_eq] at hn_bk); have hr_bk := hn_bk; (try simp only [@eq_comm Nat bk] at hr_bk); simp (dsimp := false) (maxSteps := 4000000) only [hn_bk, hr_bk, go_sem, ↓reduceIte, Nat.reduceEqDiff, Nat.reduceLT, Nat.reduceLeDiff, Nat.reduceAdd, Nat.reduceMul, Nat.reduceSub, reduceCtorEq, Int.reduceToNat, Int.reduceLT, Int.reduceLE, Int.reduceEq, Int.reduceNe, Int.reduceBEq, Nat.reduceBEq, Int.reduceBNe, Nat.reduceBNe, Int.reduceAdd, Int.reduceSub, Int.reduceMul, Int.reduceNeg]
  exact ⟨_, AH.le_refl _, bk, h_bk, rfl, rfl⟩
theorem encZ_list (l : List Int) : l.map encZ = (l.map fun k => [Value.int .i64 k]).flatten := by
  induction l with
  | nil => rfl
  | cons x l ih => simp only [List.map_cons, List.flatten_cons, List.singleton_append, ih]
def encI (k : Int) : List Value := [.int .i64 k]
theorem Sorted_c {H : AH} {bk bm t : Nat} {ms : List MF} (hbk : H.find bk = some (.cells [.map (some bm)] t 1)) (hbm : H.find bm = some (.amap (ms.map MF.ent))) (hkd : Kd (ms.map MF.nf)) (hn : ∀ m ∈ ms, 0 ≤ m.n ∧ m.n < 64) (hl : ms.length ≤ 64) :
    ACalls Tryd.prog 36 #[.func (.func 55) #[] #[.pointer (some ⟨bk, 0, none⟩)]] H
      (fun v H' => ∃ b c, ∃ ks : List Int, v = .slice b ks.length c ∧ ks.Perm (ms.map (·.n)) ∧ ks.Pairwise (· ≤ ·) ∧ SlcIn H' 1 b c (ks.map encI) ∧ Keep H H' (fun _ => False) ∧ ∀ a, b = some a → Fresh H a.block) := fun E w hs => by
  have hc : w.cell? ⟨bk, 0, none⟩ = some (.map (some bm)) := hs.rd (by rw [rd_find hbk]; rfl)
  obtain ⟨_, _, en, cl, hen, hm1, hm2⟩ := hs.known _ _ hbm
  have hbkl := (hs.known _ _ hbk).2.1
  have hkeys : en.toList.map (·.key) = ms.map fun m => Value.int .i64 m.n := by
    have : en.toList.map (·.key) = (en.toList.map fun x => (x.key, x.val)).map (·.1) := by rw [List.map_map]; rfl
    rw [this, hm1, List.map_map]; rfl
  have hlen : en.size = ms.length := by
    have := congrArg List.length hkeys
    simpa using this
  have hwf : ∀ m ∈ ms, (Lit.int .i64 m.n).wf = true := fun m hm => by
    have := hn m hm
    simp [Lit.wf, IntKind.min, IntKind.max, IntKind.signed, IntKind.bits]; omega
  have hko : ∀ x ∈ en.toList, ∃ m ∈ ms, x.key = .int .i64 m.n := fun x hx => by
    have : x.key ∈ en.toList.map (·.key) := List.mem_map_of_mem hx
    rw [hkeys] at this
    obtain ⟨m, hm, he⟩ := List.mem_map.1 this
    exact ⟨m, hm, he.symm⟩
  have hrd : ∀ x ∈ en.toList, ∀ n, x.key = .int .i64 n → WideElems.rd (H := Unit) Tryd.prog 3 (fun _ => some (.nil, [])) x = some (.int .i64 n, .nil) := fun x hx n hn' => by
    obtain ⟨m, hm, he⟩ := hko x hx
    rw [he] at hn'; cases hn'
    have := Maps.keyOf_int_mk (P := Tryd.prog) Tryd.underlying3 (hwf m hm)
    simp only [WideElems.rd, he, this, Option.bind_some, Option.map_some]
  have hnd : (ms.map (·.n)).Nodup := by
    have := hkd
    rw [Kd, List.map_map] at this
    exact this
  have hfit : WideElems.Fit (H := Unit) Tryd.prog 3 (fun _ => some (.nil, [])) en cl := ⟨Nat.le_trans (by omega) (show (64 : Nat) ≤ maxLen by decide), ⟨hm2.1, hm2.2, by
    rw [hkeys]
    have : (ms.map fun m => Value.int .i64 m.n) = (ms.map (·.n)).map (Value.int .i64) := by rw [List.map_map]; rfl
    rw [this]
    rw [List.Nodup, List.pairwise_map]
    exact hnd.imp fun h e => h (by cases e; rfl)⟩, fun x hx => by
    obtain ⟨m, hm, he⟩ := hko x hx
    exact ⟨_, hrd x hx m.n he⟩⟩
  have hown : w.ownsMap (H := Unit) Tryd.prog 3 (fun _ => some (.nil, [])) bm en.size (.map ((en.toList.map (WideElems.rg Tryd.prog 3 (fun _ => some (.nil, [])))).foldr DataW.insert [])) := ⟨en, cl, hen, hfit, Nat.le_refl _, rfl⟩
  have hperm := WideShapes.sorted_perm (en.toList.map (WideElems.rg (H := Unit) Tryd.prog 3 (fun _ => some (.nil, []))))
  have hsize : Maps.size (DataW.map ((en.toList.map (WideElems.rg (H := Unit) Tryd.prog 3 (fun _ => some (.nil, [])))).foldr DataW.insert [])) = ms.length := by
    rw [Maps.size_eq, hperm.length_eq, List.length_map, Array.length_toList, hlen]
  have hik : (intKeys (DataW.map ((en.toList.map (WideElems.rg (H := Unit) Tryd.prog 3 (fun _ => some (.nil, [])))).foldr DataW.insert []))).Perm (ms.map (·.n)) := by
    refine (hperm.map _).trans ?_
    rw [List.map_map]
    have : en.toList.map ((fun p : Lit × DataW Unit => _root_.Go.intOf p.1) ∘ WideElems.rg (H := Unit) Tryd.prog 3 (fun _ => some (.nil, []))) = ms.map (·.n) := by
      have h2 : en.toList.map ((fun p : Lit × DataW Unit => _root_.Go.intOf p.1) ∘ WideElems.rg (H := Unit) Tryd.prog 3 (fun _ => some (.nil, []))) = (en.toList.map (·.key)).map fun v => match v with | .int _ n => n | _ => 0 := by
        rw [List.map_map]
        refine List.map_congr_left fun x hx => ?_
        obtain ⟨m, hm, he⟩ := hko x hx
        simp only [Function.comp, WideElems.rg, hrd x hx m.n he, he, Option.getD_some]
        rfl
      rw [h2, hkeys, List.map_map]; rfl
    rw [this]
  refine (Tryd.sortedCalls w bk bm _ _ _ hbkl hc hown (by rw [hsize]; exact Nat.le_trans hl (show (64 : Nat) ≤ maxLen by decide)) (by rw [hsize]; omega)).mono ?_
  rintro ev w' ⟨v, ss, rfl, hss, hrow, hnil, hbel⟩
  have hp1 : (ss.mergeSort fun x y => decide (x ≤ y)).Perm (ms.map (·.n)) := (List.mergeSort_perm _ _).trans (hss.trans hik)
  have hsorted : (ss.mergeSort fun x y => decide (x ≤ y)).Pairwise (· ≤ ·) := by
    have := List.pairwise_mergeSort (le := fun x y : Int => decide (x ≤ y)) (fun a b c h1 h2 => by simp at *; omega) (fun a b => by simp; omega) ss
    exact this.imp fun h => by simpa using h
  have hlen2 : (ss.mergeSort fun x y => decide (x ≤ y)).length = ss.length := List.length_mergeSort _
  obtain ⟨hl1, hrow⟩ := hrow
  rcases hrow with ⟨rfl, h0⟩ | ⟨g, cap, cur, rfl, hg, hcur, hcl, _, hsz, htk⟩
  · have : ss = [] := List.eq_nil_of_length_eq_zero h0
    subst this
    exact ⟨_, H, rfl, hs.belowed hbel, none, 0, [], rfl, by simpa using hp1, .nil, SlcIn.empty, Keep.refl, fun a ha => by cases ha⟩
  · obtain ⟨q1, q2⟩ := Sat.newb (cs := (ss.mergeSort fun x y => decide (x ≤ y)).map encZ) (cap := cap) hs hbel hg hcur (by rw [hsz, Nat.mul_one]) (by rw [← htk]; exact List.take_prefix _ _)
    refine ⟨_, _, rfl, q1, some ⟨g, 0, none⟩, cap, ss.mergeSort fun x y => decide (x ≤ y), by rw [hlen2], hp1, hsorted, ?_, Keep.add q2, fun a ha => by cases ha; exact q2⟩
    refine SlcIn.of_find (e := 3) (m := cap) (by rw [find_add_self, encZ_list]; rfl) (fun r hr => ?_) (by rw [List.length_map, hlen2]; exact hcl) (by rw [List.length_map, hlen2, hss.length_eq, hik.length_eq, List.length_map]; omega)
    obtain ⟨k, _, rfl⟩ := List.mem_map.1 hr
    rfl
end Go.Proofs.YtmkbpdlijfjgkaaDoor.Ifs
