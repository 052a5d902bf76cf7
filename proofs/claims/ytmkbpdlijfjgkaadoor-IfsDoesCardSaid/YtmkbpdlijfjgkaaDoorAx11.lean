/- Plain facts: whole numbers of a width, rows that a loop fills from left to right. -/
import Derived.Test.YtmkbpdlijfjgkaaDoorAx10
namespace Go.AX
set_option linter.unusedSimpArgs false
set_option linter.unusedVariables false
open Go Go.RowKit

theorem u8_eq {c : Int} (h0 : 0 ≤ c) (h1 : c < 256) : IntKind.u8.wrap c = c := by rw [IntKind.wrap_u8]; omega
theorem u16_eq {c : Int} (h0 : 0 ≤ c) (h1 : c < 65536) : IntKind.u16.wrap c = c := by rw [IntKind.wrap_u16]; omega
theorem u32_eq {c : Int} (h0 : 0 ≤ c) (h1 : c < 4294967296) : IntKind.u32.wrap c = c := by rw [IntKind.wrap_u32]; omega
theorem u64_eq {c : Int} (h0 : 0 ≤ c) (h1 : c < 18446744073709551616) : IntKind.u64.wrap c = c := by rw [IntKind.wrap_u64]; omega
theorem i64_eq {c : Int} (h0 : -9223372036854775808 ≤ c) (h1 : c < 9223372036854775808) : IntKind.i64.wrap c = c := by rw [IntKind.wrap_i64]; omega
theorem i64_succ {i : Nat} (h : i < 9223372036854775807) : IntKind.i64.wrap ((i : Int) + 1) = ((i + 1 : Nat) : Int) := by rw [i64_eq (by omega) (by omega)]; omega

theorem byte_wf {x : Int} (h : (Lit.int .u8 x).wf = true) : 0 ≤ x ∧ x < 256 := by
  simp [Lit.wf, IntKind.min, IntKind.max, IntKind.signed, IntKind.bits] at h
  omega
theorem and1_i64 (x : Int) : ibits .and .i64 x 1 = x % 2 := by
  have h : (BitVec.ofInt 64 x &&& BitVec.ofInt 64 1).toNat = (x % 18446744073709551616).toNat % 2 := by
    rw [BitVec.toNat_and, BitVec.toNat_ofInt, BitVec.toNat_ofInt]
    exact Nat.and_one_is_mod _
  show IntKind.i64.wrap ((BitVec.ofInt 64 x &&& BitVec.ofInt 64 1).toNat : Int) = _
  rw [h, i64_eq (by omega) (by omega)]
  omega
theorem and1_u8 (x : Int) : ibits .and .u8 x 1 = x % 2 := by
  have h : (BitVec.ofInt 8 x &&& BitVec.ofInt 8 1).toNat = (x % 256).toNat % 2 := by
    rw [BitVec.toNat_and, BitVec.toNat_ofInt, BitVec.toNat_ofInt]
    exact Nat.and_one_is_mod _
  show IntKind.u8.wrap ((BitVec.ofInt 8 x &&& BitVec.ofInt 8 1).toNat : Int) = _
  rw [h, u8_eq (by omega) (by omega)]
  omega

/-- A shift to the right by a small number. -/
theorem fdiv_pow (x : Int) (i : Nat) : x.fdiv (2 ^ i) = x / 2 ^ i := Int.fdiv_eq_ediv_of_nonneg _ (by exact Int.le_of_lt (Int.pow_pos (by decide)))

/-! ### A call's beginning, its numbers written out -/
theorem ACalls.enter2 {P : Program} {f : FuncId} {fn : Func} {c : Code} {n : Nat} {rs : List ResultVar} {args : Array Value} {H : AH} {K : Value → AH → Prop} (hf : P.funcs[f]? = some fn) (hb : fn.body = some c) (hnt : fn.ntmps = n) (hr : fn.results = rs.toArray)
    (hn : args.size ≤ n) (h : avc P n c (aend P rs K) (argFrom 0 args.toList) H) : ACalls P f args H K := by
  subst hnt
  exact ACalls.enter hf hb hn (by rw [hr]; exact h)

/-! ### A loop whose state is written out, what follows behind a letter -/
theorem AWp.loopo {P : Program} {n : Nat} {c : Code} {Q : Exit → Fr → AH → Prop} {fr : Fr} {H : AH} {ι : Type} (V : ι → Prop) (F : ι → Fr) (G : ι → AH) (μ : ι → Nat) (i0 : ι)
    (hv : V i0) (hf : FrLe (F i0) fr) (hh : (G i0).le H)
    (round : ∀ i, V i → ∀ Q' : Exit → Fr → AH → Prop, (∀ i' fr H, V i' → FrLe (F i') fr → (G i').le H → μ i' < μ i → Q' .normal fr H) → (∀ e fr H, e ≠ .normal → Q e fr H → Q' e fr H) →
      avc P n c Q' (F i) (G i)) : AWp P n (.loop c) Q fr H :=
  AWp.loopg V F G μ i0 hv hf hh fun i hi => round i hi _ (fun i' _ _ h1 h2 h3 h4 => around_end i' h1 h2 h3 h4) (fun e _ _ he hq => by cases e <;> first | exact absurd rfl he | exact hq)

/-! ### '==' of two arrays that are given as lists -/
section
variable {P : Program} {H : AH} {t e n : Nat} {x y : Operand} {kk : Value → Prop} {u : Option TypeDesc}
theorem eq_boolsl {as bs : List Bool} (hg : P.eqGuardType P.depth t = false) (hu : P.underlying t = some (.array n e)) (he : P.underlying e = some .bool) (hs : P.cellsOf e = 1) (ha : as.length = n) (hb : bs.length = n) :
    bin u P H .eql t x y (.agg (as.map .bool).toArray) (.agg (bs.map .bool).toArray) kk = (u = P.underlying t ∧ nv (.bool (as == bs)) kk) :=
  bin_eql_of (eqg_agg hg) rfl (fun _ => eqIn_bools (ha ▸ hu) he (info_sz hs (by simp)) (ha.trans hb.symm))
theorem neq_boolsl {as bs : List Bool} (hg : P.eqGuardType P.depth t = false) (hu : P.underlying t = some (.array n e)) (he : P.underlying e = some .bool) (hs : P.cellsOf e = 1) (ha : as.length = n) (hb : bs.length = n) :
    bin u P H .neq t x y (.agg (as.map .bool).toArray) (.agg (bs.map .bool).toArray) kk = (u = P.underlying t ∧ nv (.bool !(as == bs)) kk) :=
  bin_neq_of (eqg_agg hg) rfl (fun _ => eqIn_bools (ha ▸ hu) he (info_sz hs (by simp)) (ha.trans hb.symm))
end

theorem wo_tab {s T : ByteArray} {i : Nat} {k : UInt8 → Prop} (h : s = T) (hk : wo T[i]? k) : wo s[i]? k := h ▸ hk

/-! ### Rows -/
section
variable {α β : Type}
/-- Entries below i by f, the others by g. -/
def rowIf (l : List α) (f g : Nat → α → β) (i : Nat) : List β := l.mapIdx fun j x => if j < i then f j x else g j x
variable {l : List α} {f g : Nat → α → β} {i : Nat}
theorem rowIf_len : (rowIf l f g i).length = l.length := by simp [rowIf]
theorem rowIf_get : (rowIf l f g i)[i]? = (l[i]?).map (g i) := by simp [rowIf]
theorem rowIf_set {x : α} (h : l[i]? = some x) : (rowIf l f g i).set i (f i x) = rowIf l f g (i + 1) := by
  apply List.ext_getElem?
  intro j
  by_cases hj : i = j
  · subst hj
    have hl : i < l.length := by
      rcases Nat.lt_or_ge i l.length with h' | h'
      · exact h'
      · rw [List.getElem?_eq_none h'] at h; cases h
    have h' : l[i] = x := by rw [List.getElem?_eq_getElem hl] at h; exact Option.some.inj h
    simp [rowIf, List.getElem?_set, hl, h']
  · simp only [List.getElem?_set_ne hj, rowIf, List.getElem?_mapIdx]
    congr 1; funext x
    by_cases h1 : j < i
    · simp [h1, show j < i + 1 from by omega]
    · simp [h1, show ¬ j < i + 1 from by omega]
theorem rowIf_zero : rowIf l f g 0 = l.mapIdx g := by
  apply List.ext_getElem?; intro j; simp [rowIf]
theorem rowIf_zero_id {f : Nat → α → α} : rowIf l f (fun _ x => x) 0 = l := by
  apply List.ext_getElem?; intro j; simp [rowIf]
theorem rowIf_zero_const {c : β} : rowIf l f (fun _ _ => c) 0 = List.replicate l.length c := by
  apply List.ext_getElem (by simp [rowIf]); intro n h1 h2; simp [rowIf]
theorem rowIf_full (h : l.length ≤ i) : rowIf l f g i = l.mapIdx f := by
  apply List.ext_getElem?
  intro j
  simp only [rowIf, List.getElem?_mapIdx]
  rcases Nat.lt_or_ge j l.length with h1 | h1
  · simp [show j < i from by omega]
  · rw [List.getElem?_eq_none h1]; rfl
theorem get_some {l : List α} {i : Nat} (h : i < l.length) : ∃ x, l[i]? = some x := ⟨l[i], List.getElem?_eq_getElem h⟩
end

end Go.AX
