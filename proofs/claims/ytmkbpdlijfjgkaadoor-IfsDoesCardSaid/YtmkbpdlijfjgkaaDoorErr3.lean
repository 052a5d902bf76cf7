/- errors.As and errors.Is over the abstract heap; ifs: number. -/
import Derived.Test.YtmkbpdlijfjgkaaDoorErr2
namespace Go.Proofs.YtmkbpdlijfjgkaaDoor.Err
set_option linter.unusedSimpArgs false
set_option linter.unusedVariables false
open Go Go.AX Go.Proofs Ty
set_option maxHeartbeats 4000000
set_option maxRecDepth 10000

theorem ErrT.of {E : Nat → Option Obj} {H : AH} {w : World} (h : ErrT H.w0) (hs : Sat E H w) : ErrT w := by
  have hlt : 0 < H.w0.heap.size := by
    unfold ErrT at h
    rcases Nat.eq_zero_or_pos H.w0.heap.size with h0 | h'
    · simp [World.cell?, h0] at h
    · exact h'
  have := hs.below.cell (p := ⟨0, 0, none⟩) hlt
  unfold ErrT
  rw [this]; exact h
/-- A call that lays new blocks and writes one cell of a block of our own. -/
theorem ACalls.one {P : Program} {f : FuncId} {args : Array Value} {H : AH} {b t : Nat} {u x y : Value} (hf : Fresh H b) 
    (h : ∀ E w, Sat E (H.add b (.cells [x] t 1)) w → Calls P f args w fun ev w' => ev = .returned u ∧ ∃ w1, Grown w w1 ∧ w' = w1.setCell ⟨b, 0, none⟩ y) :
    ACalls P f args (H.add b (.cells [x] t 1)) (fun v H' => v = u ∧ H' = H.add b (.cells [y] t 1)) := fun E w hs => (h E w hs).mono fun e w' ⟨he, w1, hg, hw⟩ => by
  subst hw
  obtain ⟨q1, _, _⟩ := (hs.belowed hg).setCells (a := ⟨b, 0, none⟩) (v := y) (find_add_self _ _ _) rfl (Nat.zero_lt_one) (by simp)
  refine ⟨u, H.add b (.cells [y] t 1), he, q1.of_find rfl fun c => ?_, rfl, rfl⟩
  rw [find_set, find_add, find_add]
  split <;> rfl

def ErrV (H : AH) (v : Value) (e : Int) : Prop :=
  (v = .nilIface ∧ e = 0) ∨ v = .iface 38 (.int .i64 e) ∨ ∃ b o, v = .iface 97 (.pointer (some ⟨b, o, none⟩)) ∧ H.rd ⟨b, o + 1, none⟩ = some (.iface 38 (.int .i64 e))

theorem As_c {H : AH} {v : Value} {e : Int} {b : Nat} (hE : ErrT H.w0) (hv : ErrV H v e) (hn : v ≠ .nilIface) (hf : Fresh H b) :
    ACalls Tryd.prog 52 #[v, .iface 107 (.pointer (some ⟨b, 0, none⟩))] (H.add b (.cells [.int .i64 0] 38 1)) (fun u H' => u = .bool true ∧ H' = H.add b (.cells [.int .i64 e] 38 1)) :=
  ACalls.one hf fun E w hs => by
    have hg := ErrT.of (H := H.add b (.cells [.int .i64 0] 38 1)) hE hs
    have ht : w.cell? ⟨b, 0, none⟩ = some (.int .i64 0) := hs.rd (by rw [rd_add_self]; rfl)
    have hz : w.frozen? ⟨b, 0, none⟩ = false := hs.frz (by simp [AH.frz, find_add])
    rcases hv with ⟨rfl, _⟩ | rfl | ⟨b1, o1, rfl, hr⟩
    · exact absurd rfl hn
    · exact as_errno e _ _ w hg ht hz
    · exact as_fault b1 o1 e _ _ w hg ((hs.mono (AH.le_add (AH.le_refl _) hf.2)).rd hr) ht hz

theorem number_c {H : AH} {v : Value} {e : Int} (hE : ErrT H.w0) (hv : ErrV H v e) : ACalls Tryd.prog 31 #[v] H (fun u H' => u = .int .i64 e ∧ H = H') := by
  refine ACalls.enter2 Tryd.func31 rfl Tryd.ntmps31 Tryd.results31 (by simp) ?_; simp (dsimp := false) (maxSteps := 4000000) only [go_sem, ↓reduceIte, Nat.reduceEqDiff, Nat.reduceLT, Nat.reduceLeDiff, Nat.reduceAdd, Nat.reduceMul, Nat.reduceSub, reduceCtorEq, Int.reduceToNat, Int.reduceLT, Int.reduceLE, Int.reduceEq, Int.reduceNe, Int.reduceBEq, Nat.reduceBEq, Int.reduceBNe, Nat.reduceBNe, Int.reduceAdd, Int.reduceSub, Int.reduceMul, Int.reduceNeg]
  refine AllB.mk fun b h_b => ?_
  simp (dsimp := false) (maxSteps := 4000000) only [go_sem, ↓reduceIte, Nat.reduceEqDiff, Nat.reduceLT, Nat.reduceLeDiff, Nat.reduceAdd, Nat.reduceMul, Nat.reduceSub, reduceCtorEq, Int.reduceToNat, Int.reduceLT, Int.reduceLE, Int.reduceEq, Int.reduceNe, Int.reduceBEq, Nat.reduceBEq, Int.reduceBNe, Nat.reduceBNe, Int.reduceAdd, Int.reduceSub, Int.reduceMul, Int.reduceNeg]
  by_cases hn : v = .nilIface
  · subst hn
    obtain rfl : e = 0 := by
      rcases hv with ⟨_, h⟩ | h | ⟨_, _, h, _⟩
      · exact h
      · cases h
      · cases h
    refine ACalls.mono (K := fun u H' => u = .bool false ∧ (H.add b (.cells [.int .i64 0] 38 1)) = H') (fun E w hs => (as_nil _ w).mono fun ev w' ⟨h1, h2⟩ => ⟨_, _, h1, h2 ▸ hs, rfl, rfl⟩) ?_
    rintro _ _ ⟨rfl, rfl⟩
    simp (dsimp := false) (maxSteps := 4000000) only [go_sem, ↓reduceIte, Nat.reduceEqDiff, Nat.reduceLT, Nat.reduceLeDiff, Nat.reduceAdd, Nat.reduceMul, Nat.reduceSub, reduceCtorEq, Int.reduceToNat, Int.reduceLT, Int.reduceLE, Int.reduceEq, Int.reduceNe, Int.reduceBEq, Nat.reduceBEq, Int.reduceBNe, Nat.reduceBNe, Int.reduceAdd, Int.reduceSub, Int.reduceMul, Int.reduceNeg]
    exact ⟨H, AH.le_add (AH.le_refl _) h_b.2, rfl⟩
  · refine (As_c hE hv hn h_b).mono ?_
    rintro _ _ ⟨rfl, rfl⟩
    simp (dsimp := false) (maxSteps := 4000000) only [go_sem, ↓reduceIte, Nat.reduceEqDiff, Nat.reduceLT, Nat.reduceLeDiff, Nat.reduceAdd, Nat.reduceMul, Nat.reduceSub, reduceCtorEq, Int.reduceToNat, Int.reduceLT, Int.reduceLE, Int.reduceEq, Int.reduceNe, Int.reduceBEq, Nat.reduceBEq, Int.reduceBNe, Nat.reduceBNe, Int.reduceAdd, Int.reduceSub, Int.reduceMul, Int.reduceNeg]
    exact ⟨H, AH.le_add (AH.le_refl _) h_b.2, rfl⟩
theorem Is_c {H : AH} {v : Value} {e x : Int} (hv : ErrV H v e) (hx : x ≠ 0) : ACalls Tryd.prog 30 #[v, .iface 38 (.int .i64 x)] H (fun u H' => u = .bool (e == x) ∧ H = H') := fun E w hs => by
  have fin : ∀ {u : Value}, u = .bool (e == x) → Calls Tryd.prog 30 #[v, .iface 38 (.int .i64 x)] w (fun ev w' => ev = .returned u ∧ w' = w) → Calls Tryd.prog 30 #[v, .iface 38 (.int .i64 x)] w (fun ev w' => ∃ u H', ev = .returned u ∧ Sat E H' w' ∧ u = .bool (e == x) ∧ H = H') :=
    fun hu h => h.mono fun ev w' ⟨h1, h2⟩ => ⟨_, H, h1, h2 ▸ hs, hu, rfl⟩
  rcases hv with ⟨rfl, rfl⟩ | rfl | ⟨b1, o1, rfl, hr⟩
  · exact fin (by simp [Ne.symm hx]) (is_nil x w)
  · exact fin rfl (is_errno e x w)
  · exact fin rfl (is_fault b1 o1 e x w (hs.rd hr))
end Go.Proofs.YtmkbpdlijfjgkaaDoor.Err
