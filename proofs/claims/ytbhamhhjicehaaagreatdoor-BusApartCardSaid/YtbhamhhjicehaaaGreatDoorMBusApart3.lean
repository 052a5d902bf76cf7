/- Texts of mine, one behind another. -/
import Derived.Test.YtbhamhhjicehaaaGreatDoorMBusApart2
import Derived.RangeFuncNested
import Derived.RangeFuncBound
import Derived.RangeFuncCalls
import Derived.RangeFuncLeaves
import Derived.RangeFuncFrom
import Derived.Shelf.Abstract
import Derived.Shelf.RegionOpen
import Derived.WalkKit
import Derived.OwnWalkIn
import Derived.TacticsInMore
import Derived.LoopNIn
import Derived.LoopIn
import Derived.Test.YtbhamhhjicehaaaGreatDoorProg
import Derived.Deep.Slices
import Derived.ProofKit
import Derived.OpenShut
import Derived.SizedLaws
import Derived.Lib.SmallJoins
import Derived.LaidEql
import Derived.Stop.Asserts
import Derived.RowKitTokens
/- The engine: copy, clear and delete; bytes as_ a string; an append of zeros to nothing. -/
namespace Go.AX
set_option linter.unusedSimpArgs false
set_option linter.unusedVariables false
open Go Go.RowKit

section
variable {P : Program} {H : AH} {n d : Nat} {ds : List (Option Tmp)} {fr : Fr} {K : Fr → AH → Prop} {q : Bool} {ty : TypeId} {pos : String} {af : Array Edge} {rest : List Oper}
def CLR (P : Program) (ts : Array TypeId) (ty : TypeId) (as_ : List Value) (H : AH) (k : Value → AH → Prop) (_t : Lk (k, H) := .mk) : Prop := ASem P (do pure (.value (← Builtin.clear_ ts ty as_.toArray))) H k
theorem maps_toArray (xs : Array Operand) (f : Operand → Value) : (xs.toList.map f).toArray = xs.map f := by rw [← Array.toList_map, Array.toArray_toList]
theorem T_clear0 {xs : Array Operand} {ts : Array TypeId} : vops q P n ds (⟨none, .call { callee := .builtin .clear, args := xs, argTypes := ts }, ty, pos, af, none⟩ :: rest) fr H K = (q = false ∧ wvs fr xs.toList fun as_ => CLR P ts ty as_ H fun _ H' => vops q P n ds rest fr H' K) := by
  apply propext
  constructor
  · rintro ⟨_, h2, _, h3, h4⟩
    refine ⟨h3, by simpa [Op.operands, Call.operands] using h2, ?_⟩
    show CLR P ts ty (xs.toList.map (evd fr)) H _
    unfold CLR
    rw [maps_toArray]; exact h4
  · rintro ⟨h2, h3, h4⟩
    refine ⟨rfl, by simpa [Op.operands, Call.operands] using h3, rfl, h2, ?_⟩
    have h4 : CLR P ts ty (xs.toList.map (evd fr)) H _ := h4
    unfold CLR at h4
    rw [maps_toArray] at h4; exact h4
attribute [go_sem ↓] T_clear0
end

theorem arun_over {P : Program} {H H' : AH} {b o : Nat} {vs : List Value} {K : Unit → AH → Prop} (hw : H.wrs b o vs = some H') (hk : K () H') : arun P (storeCells ⟨b, o, none⟩ vs) H fun u A => ∃ B : AH, (∀ E w, Sat E A w → Sat E B w) ∧ K u B := by
  unfold AH.wrs at hw
  split at hw
  · rename_i cs e sz hf
    split at hw
    · rename_i hc
      cases hw
      refine arun_storeCells P b _ vs o 0 H cs e sz hf hc.1 hc.2.1 hc.2.2 ?_
      by_cases hv : vs = []
      · subst hv
        simp only [if_true]
        refine ⟨_, fun _ w hs => hs.of_find (H' := H.set b (.cells (lput cs o []) e sz)) rfl fun b' => ?_, hk⟩
        rw [find_set]
        split
        · rename_i h; subst h; rw [hf]; rfl
        · rfl
      · simp only [if_neg hv]
        exact ⟨_, fun _ _ h => h, hk⟩
    · cases hw
  · cases hw
theorem CLR.row {P : Program} {H H' : AH} {ts : Array TypeId} {ty t e sz bt b o n c : Nat} {zs : List Value} {k : Value → AH → Prop} (h0 : ts[0]? = some t) (hE : slE P t = some (e, sz, zs, bt)) (hn : n ≠ 0)
    (hw : H.wrs b o (zf zs (n * sz)) = some H') (hzl : zs.length = sz) (hk : k (.tuple #[]) H') : CLR P ts ty [.slice (some ⟨b, o, none⟩) n c] H k := by
  obtain ⟨hu, i, z, hi, hz, h1, h2, h3⟩ := slE_some hE
  suffices hm : arun P (Builtin.clear_ ts ty #[.slice (some ⟨b, o, none⟩) n c]) H (fun v A => ∃ B : AH, (∀ E w, Sat E A w → Sat E B w) ∧ k v B) by
    intro E w hs
    obtain ⟨v, w', A, r1, r2, B, r3, r5⟩ := arun_sound P _ _ _ w hm hs
    refine ⟨.value v, w', B, ?_, r3 _ _ r2, r5⟩
    show (Builtin.clear_ ts ty #[.slice (some ⟨b, o, none⟩) n c] >>= fun v => pure (Next.value v)).run P w = _
    simp only [Sem.run_bind, r1, Result.andThen_ok, Sem.run_pure]
  unfold Builtin.clear_
  simp only [h0]
  refine arun_qbind ((qrun_underlying t).trans hu) ?_
  obtain ⟨n, rfl⟩ : ∃ n', n = n' + 1 := ⟨n - 1, by omega⟩
  have ez : (Builtin.zeroCells z.cells (n + 1)).toList = zf zs ((n + 1) * sz) := by
    rw [← h2] at hzl
    have hs : z.cells.size = sz := by simpa using hzl
    subst hs
    simp only [Builtin.zeroCells, zf, ← h2, Array.toList_map, Array.toList_range, Array.length_toList]
    refine List.map_congr_left fun i hi => ?_
    have hpos : 0 < z.cells.size := by
      rcases Nat.eq_zero_or_pos z.cells.size with h | h
      · rw [h] at hi; simp at hi
      · exact h
    have hlt := Nat.mod_lt i hpos
    rw [getElem!_pos z.cells _ hlt, getElem!_pos z.cells.toList _ (by simpa using hlt)]
    simp
  show arun P (zeroValue e >>= fun z => storeCells ⟨b, o, none⟩ (Builtin.zeroCells z.cells (n + 1)).toList >>= fun _ => pure (Value.tuple #[])) H _
  refine arun_qbind (qrun_zeroValue hi hz) ?_
  rw [arun_bind, ez]
  exact arun_over (K := fun _ A => k (.tuple #[]) A) hw hk
theorem CLR.none {P : Program} {H : AH} {ts : Array TypeId} {ty t e sz bt c : Nat} {a : Option Addr} {zs : List Value} {k : Value → AH → Prop} (h0 : ts[0]? = some t) (hE : slE P t = some (e, sz, zs, bt)) (hk : k (.tuple #[]) H) : CLR P ts ty [.slice a 0 c] H k := by
  obtain ⟨hu, i, z, hi, hz, h1, h2, h3⟩ := slE_some hE
  suffices hm : arun P (Builtin.clear_ ts ty #[.slice a 0 c]) H k by
    intro E w hs
    obtain ⟨v, w', A, r1, r2, r5⟩ := arun_sound P _ _ _ w hm hs
    refine ⟨.value v, w', A, ?_, r2, r5⟩
    show (Builtin.clear_ ts ty #[.slice a 0 c] >>= fun v => pure (Next.value v)).run P w = _
    simp only [Sem.run_bind, r1, Result.andThen_ok, Sem.run_pure]
  unfold Builtin.clear_
  simp only [h0]
  refine arun_qbind ((qrun_underlying t).trans hu) ?_
  cases a <;> exact hk

theorem APD.make {P : Program} {H : AH} {t t2 e sz bt m : Nat} {kd : IntKind} {zs : List Value} {k : Value → AH → Prop} (hE : slE P t = some (e, sz, zs, bt)) (hzl : zs.length = sz) (hsz : sz ≠ 0) (hni : P.underlying t2 = some (.int kd))
    (hm : m ≠ 0) (hroom : (2 * m + 192) * bt ≤ 281474976710656) (hbt : bt ≠ 0)
    (hk : ∀ b c, Fresh H b → m ≤ c → k (.slice (some ⟨b, 0, none⟩) m c) (H.add b (.cells [] e (c * sz)))) : APD P (some t) (some t2) [.slice none 0 0, .int .i64 m] H k := fun ts ty h0 h1 => by
  obtain ⟨hu, i, z, hi, hz, h1', h2, h3⟩ := slE_some hE
  have hbytes : qrun P (typeInfo e) H = some i := by simp only [typeInfo, program, qrun_bind, qrun, Option.bind_some, hi, qrun_pure]
  have hm2 : 2 * m + 192 ≤ 281474976710656 := Nat.le_trans (Nat.le_mul_of_pos_right _ (by omega)) hroom
  have hmb : m * bt ≤ 281474976710656 := Nat.le_trans (Nat.mul_le_mul_right bt (show m ≤ 2 * m + 192 by omega)) hroom
  have hmw : IntKind.i64.wrap (m : Int) = m := i64_eq (by omega) (by omega)
  suffices hm : arun P (Builtin.append_ ts ty #[.slice none 0 0, .int .i64 m]) H (fun v H' => ∃ H1 : AH, (∀ E w, Sat E H' w → Sat E H1 w) ∧ k v H1) by
    intro E w hs
    obtain ⟨v, w', H', r1, r2, H1, r3, r5⟩ := arun_sound P _ _ _ w hm hs
    refine ⟨.value v, w', H1, ?_, r3 _ _ r2, r5⟩
    show (Builtin.append_ ts ty #[.slice none 0 0, .int .i64 m] >>= fun v => pure (Next.value v)).run P w = _
    simp only [Sem.run_bind, r1, Result.andThen_ok, Sem.run_pure]
  unfold Builtin.append_
  simp only [h0, h1]
  refine arun_qbind ((qrun_underlying t).trans hu) ?_
  refine arun_qbind (a := sz) (by rw [qrun_sizeOf, hi, Option.map_some, h1']) ?_
  refine arun_qbind ((qrun_underlying t2).trans hni) ?_
  refine arun_qbind (a := true) rfl ?_
  simp only [if_true, Bool.not_true, Bool.false_eq_true, if_false]
  refine arun_qbind (a := (m : Int)) rfl ?_
  rw [hmw, if_neg (by omega)]
  refine arun_qbind hbytes ?_
  rw [if_neg (by
    have h48 : (2 : Int) ^ 48 = 281474976710656 := by decide
    rw [h48, h3, ← Int.natCast_mul]
    generalize m * bt = x at hmb
    omega)]
  refine arun_qbind (a := m) (by rw [Int.toNat_natCast]; rfl) ?_
  rw [Nat.zero_add, if_neg (by omega)]
  refine arun_qbind hbytes ?_
  rw [if_neg (by
    rintro ⟨h4, _⟩
    have : IntKind.i64.max = 9223372036854775807 := rfl
    omega)]
  refine arun_qbind hbytes ?_
  have hnx := nextcap_le (need := m) (old := 0) (by omega)
  rw [if_neg (by
    rw [h3]
    have := Nat.mul_le_mul_right bt hnx
    omega)]
  rw [arun_bind]
  simp only [choose, arun, Question.forced, Bool.false_eq_true, if_false]
  intro tt
  have hcut : m ≤ (Question.appendCap m 0 e).cut tt := by simp [Question.cut]
  generalize (Question.appendCap m 0 e).cut tt = c at hcut
  refine arun_qbind hbytes ?_
  have hroom2 : ∀ (x : Nat) (s2 : Sem Value) (K : Value → AH → Prop), arun P s2 H K → arun P (askRoom x >>= fun _ => s2) H K := fun x s2 K h => by
    unfold askRoom
    split
    · exact h
    · exact h
  refine hroom2 _ _ _ ?_
  refine arun_qbind (a := #[]) rfl ?_
  rw [if_neg (by rw [Nat.mul_eq_zero]; omega)]
  have hzs : z.cells.size = sz := by rw [← hzl, ← h2]; simp
  rw [arun_bind, arun_bind]
  refine arun_of_qrun _ _ _ (qrun_zeroValue hi hz) ?_
  show arun P (zeroValue e >>= _) H _
  refine arun_qbind (qrun_zeroValue hi hz) ?_
  rw [arun_bind]
  refine arun_newRow fun b hb => ?_
  have hk := hk b c hb hcut
  refine ⟨_, fun _ w hs => Sat.pre (rest := (#[] ++ Builtin.zeroCells z.cells m ++ Builtin.zeroCells z.cells (c - m)).toList) ?_, hk⟩
  have hsize : (#[] ++ Builtin.zeroCells z.cells m ++ Builtin.zeroCells z.cells (c - m)).size = c * sz := by
    simp only [Builtin.zeroCells, Array.size_append, Array.size_map, Array.size_range, hzs, List.size_toArray, List.length_nil, Nat.zero_add]
    rw [← Nat.add_mul, show m + (c - m) = c from by omega]
  rw [← hsize]
  simpa using hs

theorem APD.growS {H0 H : AH} {e sz cap n m c : Nat} {base a : Option Addr} {R : List (List Value)} {P : Program} {t t2 bt : Nat} {zs : List Value} {k : Value → AH → Prop} {R' : List (List Value)} (hO : OwnS H0 H e sz base cap R) (hl : H0.le H) (hE : slE P t = some (e, sz, zs, bt)) (hz : zs.length = sz) (hsz : sz ≠ 0) (hbt : bt ≠ 0) (hni : nInt (P.underlying t2) = true)
    (hn : n = R.length) (hm : m = R'.length) (hs : SlcIn H sz a c R') (hR' : ∀ r ∈ R', r.length = sz) (hsc : R'.flatten.all scal = true) (hroom : (2 * (n + m) + 192) * bt ≤ 281474976710656)
    (hk : ∀ base' cap' H', OwnS H0 H' e sz base' cap' (R ++ R') → Keep H H' (exB base) → (∀ a, base' = some a → (∃ a', base = some a' ∧ a.block = a'.block) ∨ Fresh H a.block) → ∃ H2, H2.le H' ∧ k (.slice base' (n + m) cap') H2) :
    APD P (some t) (some t2) [.slice base n cap, .slice a m c] H k := by
  by_cases h : R' = [] ∧ a ≠ none
  · obtain ⟨rfl, _⟩ := h
    subst hm
    obtain ⟨H2, h2, h3⟩ := hk base cap H (by rw [List.append_nil]; exact hO) Keep.refl (fun a ha => .inl ⟨a, ha, rfl⟩)
    intro ts ty h0 h1
    exact ((APD.zero (k := fun v H' => ∃ H2 : AH, H2.le H' ∧ k v H2) hE hni (hn ▸ hO.le) ⟨H2, h2, h3⟩) ts ty h0 h1).post (fun v H' ⟨H2, h2, h3⟩ => ⟨H2, fun _ _ hs => hs.mono h2, h3⟩) (fun w nx w' h => value_only (α := Unit) h)
  · have h1 : R' ≠ [] ∨ a = none := by
      by_cases h2 : R' = []
      · exact .inr (Classical.byContradiction fun h3 => h ⟨h2, h3⟩)
      · exact .inl h2
    exact APD.growW hO hl hE hz hbt hni hn hm rfl (hs.srow hR' hsz hm h1) hR' hsc hroom hk

theorem SlcIn.empty {H : AH} {sz cap : Nat} {base : Option Addr} : SlcIn H sz base cap [] where
  le := by simp
  big := by simp
  at_ := fun i hi => by simp at hi
  rd := fun b o _ i j r c h => by simp at h
  row := fun b o _ i r h => by simp at h
theorem SlcIn.recap {H : AH} {sz cap cap' : Nat} {base : Option Addr} {R : List (List Value)} (h : SlcIn H sz base cap R) (hc : R.length ≤ cap') : SlcIn H sz base cap' R := ⟨hc, h.big, h.at_, h.rd, h.row⟩
theorem SlcIn.past {A B : AH} {sz cap : Nat} {base : Option Addr} {R : List (List Value)} {ex : Nat → Prop} (h : SlcIn A sz base cap R) (hn : R = [] ∨ ∀ a, base = some a → ¬ ex a.block) (hk : Keep A B ex) : SlcIn B sz base cap R := by
  rcases hn with rfl | hn
  · exact SlcIn.empty
  · exact h.keep hk hn
theorem SlcIn.apart {H : AH} {sz cap bm : Nat} {base : Option Addr} {R : List (List Value)} (h : SlcIn H sz base cap R) (hf : Fresh H bm) : R = [] ∨ ∀ a, base = some a → ¬ a.block = bm := by
  cases R with
  | nil => exact .inl rfl
  | cons r R =>
    refine .inr fun a ha => ?_
    obtain ⟨b, o, hb⟩ := h.at_ 0 (by simp)
    rw [hb] at ha; cases ha
    have := h.row b o hb 0 r rfl
    exact fun e => hf.ne_row this e.symm
theorem lt_of_get {α : Type} {l : List α} {i : Nat} {s : α} (h : l[i]? = some s) : i < l.length := by
  rcases Nat.lt_or_ge i l.length with h' | h'
  · exact h'
  · rw [List.getElem?_eq_none h'] at h; cases h
theorem map_get {α : Type} {f : α → List Value} {L : List α} {i : Nat} {s : α} (h : L[i]? = some s) : (L.map f)[i]? = some (f s) := by rw [List.getElem?_map, h]; rfl
theorem Keep.top2 {A : AH} {b1 b2 : Nat} {k1 k2 : ABlk} (h1 : A.find b1 = some k1) (h2 : A.find b2 = some k2) (hne : b2 ≠ b1) : Keep A ((((A.del b1).del b2).add b1 k1).add b2 k2) fun _ => False := ⟨rfl, fun b _ _ => by
  rw [find_add, find_add, find_del, find_del]
  by_cases e2 : b = b2
  · subst e2; rw [if_pos rfl, h2]
  · rw [if_neg e2]
    by_cases e1 : b = b1
    · subst e1; rw [if_pos rfl, h1]
    · rw [if_neg e1, if_neg e2, if_neg e1]⟩
theorem Keep.top1 {A : AH} {b1 : Nat} {k1 : ABlk} (h1 : A.find b1 = some k1) : Keep A ((A.del b1).add b1 k1) fun _ => False := ⟨rfl, fun b _ _ => by
  rw [find_add, find_del]
  by_cases e1 : b = b1
  · subst e1; rw [if_pos rfl, h1]
  · rw [if_neg e1, if_neg e1]⟩
end Go.AX

/- file: bit, may, Clone, Clip. -/
namespace Go.Proofs.YtbhamhhjicehaaaGreatDoor.File
set_option linter.unusedSimpArgs false
set_option linter.unusedVariables false
open Go Go.AX Go.Proofs Ty
set_option maxHeartbeats 4000000
set_option maxRecDepth 10000

def bitF (op : Int) : Int := if op = 0 then 1 else if op = 1 then 2 else if op = 2 then 4 else 0
theorem bit_c (op : Int) (H : AH) : ACalls Tryz.prog 174 #[.int .i64 op] H (fun v H' => v = .int .i64 (bitF op) ∧ H = H') := by
  refine ACalls.enter2 Tryz.func174 rfl Tryz.ntmps174 Tryz.results174 (by simp) ?_; simp (dsimp := false) (maxSteps := 4000000) only [go_sem]
  by_cases a : op = 0
  · subst a
    simp (dsimp := false) (maxSteps := 4000000) only [go_sem]
    exact ⟨H, (AH.le_refl _), (by first | exact ⟨rfl, rfl⟩ | rfl)⟩
  by_cases b : op = 1
  · subst b
    simp (dsimp := false) (maxSteps := 4000000) only [go_sem]
    exact ⟨H, (AH.le_refl _), (by first | exact ⟨rfl, rfl⟩ | rfl)⟩
  by_cases c : op = 2
  · subst c
    simp (dsimp := false) (maxSteps := 4000000) only [go_sem]
    exact ⟨H, (AH.le_refl _), (by first | exact ⟨rfl, rfl⟩ | rfl)⟩
  simp (dsimp := false) (maxSteps := 4000000) only [a, b, c, go_sem]
  exact ⟨H, (AH.le_refl _), (by first | exact ⟨by simp [bitF, a, b, c], rfl⟩ | rfl)⟩

def mayF (p : Int) (R : List Rc) (op rec : Int) : Int :=
  if goodF p R = false then 2 else if op < 0 ∨ 2 < op then 1 else if rec < 0 ∨ (R.length : Int) ≤ rec then 4 else
  if rec = 0 then (if op = 0 then 0 else 5) else if p / bitF op % 2 = 0 then 5 else 0
theorem goodF_p {p : Int} {R : List Rc} (h : goodF p R = true) : 0 ≤ p ∧ p ≤ 7 ∧ R.length ≠ 0 ∧ R.length ≤ 256 := by
  cases R with
  | nil => simp [goodF] at h
  | cons r l =>
    simp only [goodF, Bool.and_eq_true, decide_eq_true_eq] at h
    simp only [List.length_cons]
    omega
theorem and_bit {p op : Int} (h0 : 0 ≤ p) (h1 : p ≤ 7) (a0 : 0 ≤ op) (a1 : op ≤ 2) : (ibits .and .i64 p (bitF op) = 0) = (p / bitF op % 2 = 0) := by
  have : ∀ p : Fin 8, ∀ o : Fin 3, (ibits .and .i64 ((p.1 : Nat) : Int) (bitF ((o.1 : Nat) : Int)) = 0) = (((p.1 : Nat) : Int) / bitF ((o.1 : Nat) : Int) % 2 = 0) := by
    intro p o
    rw [eq_iff_iff]
    revert p o
    decide
  have := this ⟨p.toNat, by omega⟩ ⟨op.toNat, by omega⟩
  simpa [Int.toNat_of_nonneg h0, Int.toNat_of_nonneg a0] using this
theorem bit_zero {op : Int} (h : op < 0 ∨ 2 < op) : bitF op = 0 := by
  unfold bitF
  rw [if_neg (by omega), if_neg (by omega), if_neg (by omega)]
theorem bit_nz {op : Int} (h : ¬ (op < 0 ∨ 2 < op)) : ¬ bitF op = 0 := by
  unfold bitF
  split
  · decide
  · split
    · decide
    · split
      · decide
      · omega
theorem may_c (p op rec : Int) (R : List Rc) (base : Option Addr) (cap : Nat) (H : AH) (hs : SlcIn H 4 base cap (R.map enc)) :
    ACalls Tryz.prog 159 #[fv p base R.length cap, .int .i64 op, .int .i64 rec] H (fun v H' => v = .int .i64 (mayF p R op rec) ∧ H = H') := by
  unfold fv
  have hg := fun H1 (h1 : SlcIn H1 4 base cap (R.map enc)) => Good_c p R base cap H1 h1
  unfold fv at hg
  by_cases c0 : rec = 0
  · subst c0
    refine ACalls.enter2 Tryz.func159 rfl Tryz.ntmps159 Tryz.results159 (by simp) ?_; simp (dsimp := false) (maxSteps := 4000000) only [go_sem]
    refine AllB.mk fun b1 h_b1 => ?_; have hn_b1 := h_b1; (try simp only [fresh_add, fresh_set, ne_eq] at hn_b1); have hr_b1 := hn_b1; (try simp only [@eq_comm Nat b1] at hr_b1); simp (dsimp := false) (maxSteps := 4000000) only [hn_b1, hr_b1, go_sem]
    refine (hg _ (hs.add h_b1)).mono ?_; rintro _ _ ⟨rfl, rfl⟩
    by_cases g : goodF p R = true
    · obtain ⟨h0, h1, h2, h3⟩ := goodF_p g
      have h4 : ¬ (R.length : Int) ≤ 0 := by omega
      simp (dsimp := false) (maxSteps := 4000000) only [g, hn_b1, hr_b1, go_sem]
      refine (bit_c op _).mono ?_; rintro _ _ ⟨rfl, rfl⟩
      by_cases a : op < 0 ∨ 2 < op
      · simp (dsimp := false) (maxSteps := 4000000) only [bit_zero a, hn_b1, hr_b1, go_sem]
        exact ⟨H, (AH.le_add (AH.le_refl _) ((by simp only [fresh_add, fresh_set, ne_eq, hn_b1, not_false_eq_true, and_self] : Fresh _ b1).2)), (by first | exact ⟨by simp [mayF, g, a], rfl⟩ | rfl)⟩
      · simp (dsimp := false) (maxSteps := 4000000) only [bit_nz a, h4, hn_b1, hr_b1, go_sem]
        by_cases b : op = 0
        · subst b
          simp (dsimp := false) (maxSteps := 4000000) only [hn_b1, hr_b1, go_sem]
          exact ⟨H, (AH.le_add (AH.le_refl _) ((by simp only [fresh_add, fresh_set, ne_eq, hn_b1, not_false_eq_true, and_self] : Fresh _ b1).2)), (by first | exact ⟨by simp [mayF, g, h2], rfl⟩ | rfl)⟩
        · simp (dsimp := false) (maxSteps := 4000000) only [b, hn_b1, hr_b1, go_sem]
          exact ⟨H, (AH.le_add (AH.le_refl _) ((by simp only [fresh_add, fresh_set, ne_eq, hn_b1, not_false_eq_true, and_self] : Fresh _ b1).2)), (by first | exact ⟨by simp only [mayF, g, a, h4]; simp [b], rfl⟩ | rfl)⟩
    · have g' : goodF p R = false := by simpa using g
      simp (dsimp := false) (maxSteps := 4000000) only [g', hn_b1, hr_b1, go_sem]
      exact ⟨H, (AH.le_add (AH.le_refl _) ((by simp only [fresh_add, fresh_set, ne_eq, hn_b1, not_false_eq_true, and_self] : Fresh _ b1).2)), (by first | exact ⟨by simp [mayF, g'], rfl⟩ | rfl)⟩
  · refine ACalls.enter2 Tryz.func159 rfl Tryz.ntmps159 Tryz.results159 (by simp) ?_; simp (dsimp := false) (maxSteps := 4000000) only [c0, go_sem]
    refine AllB.mk fun b1 h_b1 => ?_; have hn_b1 := h_b1; (try simp only [fresh_add, fresh_set, ne_eq] at hn_b1); have hr_b1 := hn_b1; (try simp only [@eq_comm Nat b1] at hr_b1); simp (dsimp := false) (maxSteps := 4000000) only [c0, hn_b1, hr_b1, go_sem]
    refine (hg _ (hs.add h_b1)).mono ?_; rintro _ _ ⟨rfl, rfl⟩
    by_cases g : goodF p R = true
    · obtain ⟨h0, h1, h2, h3⟩ := goodF_p g
      simp (dsimp := false) (maxSteps := 4000000) only [g, c0, hn_b1, hr_b1, go_sem]
      refine (bit_c op _).mono ?_; rintro _ _ ⟨rfl, rfl⟩
      by_cases a : op < 0 ∨ 2 < op
      · simp (dsimp := false) (maxSteps := 4000000) only [bit_zero a, c0, hn_b1, hr_b1, go_sem]
        exact ⟨H, (AH.le_add (AH.le_refl _) ((by simp only [c0, fresh_add, fresh_set, ne_eq, hn_b1, not_false_eq_true, and_self] : Fresh _ b1).2)), (by first | exact ⟨by simp [mayF, g, a], rfl⟩ | rfl)⟩
      · simp (dsimp := false) (maxSteps := 4000000) only [bit_nz a, c0, hn_b1, hr_b1, go_sem]
        by_cases b1_ : rec < 0
        · simp (dsimp := false) (maxSteps := 4000000) only [b1_, c0, hn_b1, hr_b1, go_sem]
          exact ⟨H, (AH.le_add (AH.le_refl _) ((by simp only [c0, fresh_add, fresh_set, ne_eq, hn_b1, not_false_eq_true, and_self] : Fresh _ b1).2)), (by first | exact ⟨by simp [mayF, g, a, b1_], rfl⟩ | rfl)⟩
        by_cases b2_ : (R.length : Int) ≤ rec
        · simp (dsimp := false) (maxSteps := 4000000) only [b1_, b2_, c0, hn_b1, hr_b1, go_sem]
          exact ⟨H, (AH.le_add (AH.le_refl _) ((by simp only [c0, fresh_add, fresh_set, ne_eq, hn_b1, not_false_eq_true, and_self] : Fresh _ b1).2)), (by first | exact ⟨by simp [mayF, g, a, b2_], rfl⟩ | rfl)⟩
        simp (dsimp := false) (maxSteps := 4000000) only [b1_, b2_, c0, hn_b1, hr_b1, go_sem]
        refine AWp.gen [.pu, .rd, .pu, .ch, .pu, .pu, .pu] [0, 1, 0, 4, 15, 31, 63] 4 (_) mixed (by kernel_rfl) (AH.le_refl _) ?_
        simp (dsimp := false) (maxSteps := 4000000) only [c0, hn_b1, hr_b1, go_sem]
        refine (bit_c op _).mono ?_; rintro _ _ ⟨rfl, rfl⟩
        have hab := and_bit (op := op) h0 h1 (by omega) (by omega)
        by_cases d : p / bitF op % 2 = 0
        · have d' : ibits .and .i64 p (bitF op) = 0 := by rw [hab]; exact d
          simp (dsimp := false) (maxSteps := 4000000) only [d', c0, hn_b1, hr_b1, go_sem]
          exact ⟨H, (AH.le_add (AH.le_refl _) ((by simp only [c0, fresh_add, fresh_set, ne_eq, hn_b1, not_false_eq_true, and_self] : Fresh _ b1).2)), (by first | exact ⟨by simp [mayF, g, a, b1_, b2_, c0, d], rfl⟩ | rfl)⟩
        · have d' : ¬ ibits .and .i64 p (bitF op) = 0 := by rw [hab]; exact d
          simp (dsimp := false) (maxSteps := 4000000) only [d', c0, hn_b1, hr_b1, go_sem]
          exact ⟨H, (AH.le_add (AH.le_refl _) ((by simp only [c0, fresh_add, fresh_set, ne_eq, hn_b1, not_false_eq_true, and_self] : Fresh _ b1).2)), (by first | exact ⟨by simp [mayF, g, a, b1_, b2_, c0, d], rfl⟩ | rfl)⟩
    · have g' : goodF p R = false := by simpa using g
      simp (dsimp := false) (maxSteps := 4000000) only [g', c0, hn_b1, hr_b1, go_sem]
      exact ⟨H, (AH.le_add (AH.le_refl _) ((by simp only [c0, fresh_add, fresh_set, ne_eq, hn_b1, not_false_eq_true, and_self] : Fresh _ b1).2)), (by first | exact ⟨by simp [mayF, g'], rfl⟩ | rfl)⟩

theorem Clip_c (base : Option Addr) (n cap : Nat) (H : AH) (h : n ≤ cap) :
    ACalls Tryz.prog 90 #[.slice base n cap] H (fun v H' => v = .slice base n n ∧ H = H') := by
  refine ACalls.enter2 Tryz.func90 rfl Tryz.ntmps90 Tryz.results90 (by simp) ?_; simp (dsimp := false) (maxSteps := 4000000) only [go_sem]
  have h' : (n : Int) ≤ cap := by omega
  simp (dsimp := false) (maxSteps := 4000000) only [h', Int.le_refl, go_sem]
  exact ⟨H, (AH.le_refl _), (by first | exact ⟨rfl, rfl⟩ | rfl)⟩
theorem Clone_c (R : List Rc) (base : Option Addr) (cap : Nat) (H : AH) (hs : SlcIn H 4 base cap (R.map enc)) (hR : R.length ≤ 4096) :
    ACalls Tryz.prog 91 #[.slice base R.length cap] H (fun v H' => ∃ b' c', v = .slice b' R.length c' ∧ OwnS H H' 76 4 b' c' (R.map enc) ∧ Keep H H' fun _ => False) := by
  refine ACalls.enter2 Tryz.func91 rfl Tryz.ntmps91 Tryz.results91 (by simp) ?_; simp (dsimp := false) (maxSteps := 4000000) only [go_sem]
  cases base with
  | none =>
    have hnil : R = [] := by
      cases R with
      | nil => rfl
      | cons r l =>
        obtain ⟨b, o, h, _⟩ := hs.get (r := enc r) (i := 0) rfl
        cases h
    subst hnil
    simp (dsimp := false) (maxSteps := 4000000) only [go_sem]
    exact ⟨H, AH.le_refl _, none, 0, rfl, OwnS.nil, .refl⟩
  | some a =>
    simp (dsimp := false) (maxSteps := 4000000) only [go_sem]
    refine AllB.mk fun bl h_bl => ?_
    simp (dsimp := false) (maxSteps := 4000000) only [go_sem]
    refine APD.growS (H0 := H) (a := some a) (m := R.length) (c := cap) (R := []) (R' := R.map enc) (OwnS.new h_bl (AH.le_refl _) rfl rfl rfl (by simp) (by simp)) (AH.le_add (AH.le_refl _) h_bl.2) se_63 rfl (by decide) (by decide) (by rw [Tryz.underlying63]; rfl) rfl (by simp) (hs.add h_bl) (rows4 R) (scal4 R) (by omega) fun base' cap' A' hO' hK' hN' => ?_
    refine ⟨_, AH.le_refl _, ?_⟩
    simp (dsimp := false) (maxSteps := 4000000) only [go_sem]
    exact ⟨A', AH.le_refl _, base', cap', rfl, hO', (Keep.refl.nw h_bl).ow hK' fun b ⟨a, ha, e⟩ => by cases ha; exact e ▸ h_bl⟩
end Go.Proofs.YtbhamhhjicehaaaGreatDoor.File

/- file.next: what it comes to: a loop over slices.Backward. -/
namespace Go.Proofs.YtbhamhhjicehaaaGreatDoor.Nxt
set_option linter.unusedSimpArgs false
set_option linter.unusedVariables false
open Go Go.Proofs Go.RowKit Go.Shelf
attribute [local go_sem] Oper.semAt_some

abbrev Al := { i : Nat // i < 4 } × Int
def encs (x : Al) : Array Value := #[.int .i64 (x.1.1 : Int), .int .u8 x.2]
def Kp (b Bs : Nat) (W W' : World) : Prop := W'.cell? ⟨Bs, 0, none⟩ = W.cell? ⟨Bs, 0, none⟩ ∧ ∀ j, j < 4 → (∃ x, W.cell? ⟨b, j, none⟩ = some (.int .u8 x)) → ∃ x, W'.cell? ⟨b, j, none⟩ = some (.int .u8 x)
def idxs (k : Nat) : List Nat := (List.range k).map (3 - ·)
theorem idxs_succ (k : Nat) : idxs (k + 1) = idxs k ++ [3 - k] := by simp [idxs, List.range_succ]

set_option maxRecDepth 100000 in
set_option maxHeartbeats 2000000 in
theorem back1_in (F : Fence) (n : Nat) (h7 : F.fn 181) (hro : F.round = none) (hn : 1 ≤ n) (l Bs b : Nat) (J Jx : List Al → World → Prop)
    (hY : ∀ pre x W, J pre W → pre.length < 4 → YieldAt F (n - 1) Tryz.prog l (encs x) W fun e W' =>
      (e = .returned (.bool true) ∧ J (pre ++ [x]) W' ∧ Kp b Bs W W') ∨ (e = .returned (.bool false) ∧ Jx (pre ++ [x]) W'))
    (W : World) (hBs : W.cell? ⟨Bs, 0, none⟩ = some (.slice (some ⟨b, 0, none⟩) 4 4)) (hc : ∀ j, j < 4 → ∃ x, W.cell? ⟨b, j, none⟩ = some (.int .u8 x)) (h0 : J [] W) :
    CallsIn F n Tryz.prog 181 #[.func (.yield l) #[] #[], .pointer (some ⟨Bs, 0, none⟩)] W fun e W' => (∃ v, e = .returned v) ∧
      ((∃ ys, ys.map (·.1.1) = idxs 4 ∧ J ys W') ∨ (∃ pre, (∃ k, k ≤ 4 ∧ pre.map (·.1.1) = idxs k) ∧ Jx pre W')) := by
  refine callsIn_of_wp Tryz.func181 rfl h7 ?_ hro
  simp only [Tryz.ntmps181, List.size_toArray, List.length_cons, List.length_nil, Nat.reduceAdd, Nat.reduceSub, Array.replicate_succ, Array.replicate_zero, List.push_toArray, List.append_toArray, List.nil_append, List.cons_append]
  gi_wp2
  gi_loopw [3] (fun i wr => ∃ (k : Nat) (pre : List Al), k ≤ 4 ∧ i = .int .i64 (3 - (k : Int)) ∧ pre.map (·.1.1) = idxs k ∧ J pre wr ∧ Kp b Bs W wr)
    (fun i _ => (intOf i + 1).toNat)
  case atStart => exact ⟨0, [], Nat.zero_le _, rfl, rfl, h0, rfl, fun j hj h => h⟩
  case round =>
    obtain ⟨k, pre, hk, rfl, hp, hJs, hK1, hK2⟩ := hrel
    have hBs' := hK1.trans hBs
    by_cases hlt : k < 4
    · obtain ⟨x, hx⟩ := hK2 (3 - k) (by omega) (hc (3 - k) (by omega))
      have hi : ((3 - k : Nat) : Int) = 3 - (k : Int) := by omega
      obtain ⟨fn, tmps, assign, body, hy, hR⟩ := hY pre (⟨3 - k, by omega⟩, x) wr hJs (by have := congrArg List.length hp; simp [idxs] at this; omega)
      dsimp only [encs] at hy
      rw [hi] at hy
      have hoff : (3 - (k : Int)).toNat = 3 - k := by omega
      have hge : 0 ≤ 3 - (k : Int) := by omega
      have hlt4 : 3 - (k : Int) < 4 := by omega
      gi_wp2
      refine hR.mono ?_
      rintro e W3 (⟨rfl, hJ3, hk3⟩ | ⟨rfl, hJx3⟩)
      · gi_wp2
        go_roundw
        case rel =>
          refine ⟨k + 1, pre ++ [(⟨3 - k, by omega⟩, x)], by omega, by simp; omega, by rw [idxs_succ, List.map_append, hp]; rfl, hJ3, hk3.1.trans hK1, fun j hj h => hk3.2 j hj (hK2 j hj h)⟩
        case measure => simp [intOf]; omega
      · gi_wp2
        refine bodyPost_ret (results_none rfl _ _ _) rfl ?_
        exact ⟨⟨_, rfl⟩, .inr ⟨_, ⟨k + 1, by omega, by rw [idxs_succ, List.map_append, hp]; rfl⟩, hJx3⟩⟩
    · obtain rfl : k = 4 := by omega
      gi_wp2
      go_end0
      exact ⟨⟨_, rfl⟩, .inl ⟨pre, hp, hJs⟩⟩

set_option maxRecDepth 100000 in
set_option maxHeartbeats 2000000 in
theorem Backward_in (F : Fence) (n : Nat) (h5 : F.fn 175) (hro : F.round = none) (a : Option Addr) (len cap : Nat) (w : World) :
    CallsIn F n Tryz.prog 175 #[.slice a len cap] w fun e w' => e = .returned (.func (.func 181) #[] #[.pointer (some ⟨w.heap.size, 0, none⟩)]) ∧ w' = w.alloc (.cells #[.slice a len cap] 261) := by
  refine callsIn_of_wp Tryz.func175 rfl h5 ?_ hro
  simp only [Tryz.ntmps175, List.size_toArray, List.length_cons, List.length_nil, Nat.reduceAdd, Nat.reduceSub, Array.replicate_succ, Array.replicate_zero, List.push_toArray, List.append_toArray, List.nil_append, List.cons_append]
  gi_wp2
  go_ret
  exact ⟨rfl, rfl⟩

theorem back_stops (F : Fence) (n : Nat) (h7 : F.fn 181) (hro : F.round = none) (hn : 1 ≤ n) (Bs b : Nat) (w : World) (hBs : Bs < w.heap.size) (hb : b < w.heap.size)
    (hc : w.cell? ⟨Bs, 0, none⟩ = some (.slice (some ⟨b, 0, none⟩) 4 4)) (hcs : ∀ j, j < 4 → ∃ x, w.cell? ⟨b, j, none⟩ = some (.int .u8 x)) :
    SeqStopsK F n Tryz.prog 181 #[.pointer (some ⟨Bs, 0, none⟩)] encs (Kp b Bs) (fun ys => ys.map (·.1.1) = idxs 4) (fun pre => ∃ k, k ≤ 4 ∧ pre.map (·.1.1) = idxs k) 4 w := fun l J Jx W hW _ _ hY h0 => by
  have hc' := (hW.cell (p := ⟨Bs, 0, none⟩) hBs).trans hc
  have hcs' : ∀ j, j < 4 → ∃ x, W.cell? ⟨b, j, none⟩ = some (.int .u8 x) := fun j hj => by
    obtain ⟨x, hx⟩ := hcs j hj
    exact ⟨x, (hW.cell (p := ⟨b, j, none⟩) hb).trans hx⟩
  refine (back1_in F n h7 hro hn l Bs b J Jx hY W hc' hcs' h0).mono ?_
  rintro e W' ⟨he, ⟨ys, h1, hj⟩ | ⟨pre, h1, hj⟩⟩
  · exact ⟨he, .inl ⟨_, h1, hj⟩⟩
  · exact ⟨he, .inr ⟨_, h1, hj⟩⟩

abbrev Rc := Int × Int × Int × Int
def at_ (r : Rc) (i : Nat) : Int := match i with | 0 => r.1 | 1 => r.2.1 | 2 => r.2.2.1 | _ => r.2.2.2
def inc (r : Rc) (i : Nat) : Rc := match i with
  | 0 => (IntKind.u8.wrap (r.1 + 1), r.2)
  | 1 => (r.1, IntKind.u8.wrap (r.2.1 + 1), r.2.2)
  | 2 => (r.1, r.2.1, IntKind.u8.wrap (r.2.2.1 + 1), r.2.2.2)
  | _ => (r.1, r.2.1, r.2.2.1, IntKind.u8.wrap (r.2.2.2 + 1))
def gone (r : Rc) : List Nat → Option Rc
  | [] => some r
  | i :: l => if at_ (inc r i) i = 0 then gone (inc r i) l else none
theorem gone_snoc (r : Rc) : ∀ (l : List Nat) (i : Nat), gone r (l ++ [i]) = (gone r l).bind fun s => if at_ (inc s i) i = 0 then some (inc s i) else none
  | [], i => by simp [gone]
  | j :: l, i => by
    simp only [List.cons_append, gone]
    split
    · exact gone_snoc _ l i
    · rfl
def nextR (r : Rc) : Rc :=
  if at_ (inc r 3) 3 ≠ 0 then inc r 3 else
  if at_ (inc (inc r 3) 2) 2 ≠ 0 then inc (inc r 3) 2 else
  if at_ (inc (inc (inc r 3) 2) 1) 1 ≠ 0 then inc (inc (inc r 3) 2) 1 else inc (inc (inc (inc r 3) 2) 1) 0
def bytes (r : Rc) : Array Value := #[.int .u8 r.1, .int .u8 r.2.1, .int .u8 r.2.2.1, .int .u8 r.2.2.2]

def Lies (W : World) (b : Nat) (r : Rc) : Prop := ∀ j, j < 4 → W.cell? ⟨b, j, none⟩ = some (.int .u8 (at_ r j)) ∧ W.frozen? ⟨b, j, none⟩ = false

theorem stop_at {r : Rc} {k : Nat} {l : List Nat} {i : Nat} {s : Rc} (h : l ++ [i] = idxs k) (hk : k ≤ 4) (hg : gone r l = some s) (hn : at_ (inc s i) i ≠ 0) : inc s i = nextR r := by
  have hk' : k = 0 ∨ k = 1 ∨ k = 2 ∨ k = 3 ∨ k = 4 := by omega
  rcases hk' with rfl | rfl | rfl | rfl | rfl
  · have := congrArg List.length h; simp [idxs] at this
  all_goals
    have h1 := congrArg List.dropLast h
    have h2 := congrArg List.getLast? h
    simp [idxs, List.range_succ] at h1 h2
    subst h1; subst h2
    simp only [gone] at hg
    (repeat' split at hg) <;> first | (cases hg; done) | (cases hg; simp [nextR, *])
theorem all_gone {r s : Rc} (hg : gone r (idxs 4) = some s) : s = nextR r := by
  simp only [idxs, List.range_succ, List.range_zero, List.nil_append, List.cons_append, List.map_cons, List.map_nil, gone, Nat.reduceSub] at hg
  (repeat' split at hg) <;> first | (cases hg; done) | (cases hg; simp [nextR, *])

def Zed (W : World) (b : Nat) : Prop := Lies W b (0, 0, 0, 0)
def II (w : World) (r : Rc) (pre : List Al) (W : World) : Prop := ∃ s, gone r (pre.map (·.1.1)) = some s ∧ Lies W w.heap.size s ∧ Zed W (w.heap.size + 1)
def IX (w : World) (r : Rc) (c : Code) (pre : List Al) (W : World) : Prop := c = .exit 0 ∧ ∃ l i s, pre.map (·.1.1) = l ++ [i] ∧ gone r l = some s ∧ at_ (inc s i) i ≠ 0 ∧ Lies W w.heap.size (inc s i) ∧ Zed W (w.heap.size + 1)
theorem at_inc_ne {r : Rc} {i j : Nat} (hi : i < 4) (hj : j < 4) (h : i ≠ j) : at_ (inc r i) j = at_ r j := by
  have hi' : i = 0 ∨ i = 1 ∨ i = 2 ∨ i = 3 := by omega
  have hj' : j = 0 ∨ j = 1 ∨ j = 2 ∨ j = 3 := by omega
  rcases hi' with rfl | rfl | rfl | rfl <;> rcases hj' with rfl | rfl | rfl | rfl <;> first | rfl | exact absurd rfl h
theorem at_inc_self {r : Rc} {i : Nat} (hi : i < 4) : at_ (inc r i) i = IntKind.u8.wrap (at_ r i + 1) := by
  have hi' : i = 0 ∨ i = 1 ∨ i = 2 ∨ i = 3 := by omega
  rcases hi' with rfl | rfl | rfl | rfl <;> rfl
theorem Lies.set {W : World} {b i : Nat} {r : Rc} (h : Lies W b r) (hi : i < 4) : Lies (W.setCell ⟨b, i, none⟩ (.int .u8 (IntKind.u8.wrap (at_ r i + 1)))) b (inc r i) := fun j hj => by
  rw [World.frozen?_setCell]
  refine ⟨?_, (h j hj).2⟩
  by_cases e : i = j
  · subst e
    rw [at_inc_self hi]
    exact World.cell?_setCell_same' _ _ _ (by rw [(h i hi).1]; rfl)
  · rw [at_inc_ne hi hj e]
    exact (World.cell?_setCell_other W ⟨b, i, none⟩ ⟨b, j, none⟩ _ (by simp only [ne_eq, Addr.mk.injEq]; omega)).trans (h j hj).1
theorem Lies.far {W : World} {b b' i : Nat} {r : Rc} {v : Value} (h : Lies W b r) (hb : b' ≠ b) : Lies (W.setCell ⟨b', i, none⟩ v) b r := fun j hj => by
  rw [World.frozen?_setCell]
  exact ⟨(World.cell?_setCell_other W ⟨b', i, none⟩ ⟨b, j, none⟩ _ (by simp only [ne_eq, Addr.mk.injEq]; omega)).trans (h j hj).1, (h j hj).2⟩
theorem lies_new (w : World) (r : Rc) (t : TypeId) : Lies (w.alloc (.cells (bytes r) t)) w.heap.size r := fun j hj => by
  have hj' : j = 0 ∨ j = 1 ∨ j = 2 ∨ j = 3 := by omega
  have hh := World.alloc_heap_new w (.cells (bytes r) t)
  rcases hj' with rfl | rfl | rfl | rfl <;> simp only [World.cell?, World.frozen?, hh] <;> simp [bytes, at_]
theorem one_new (w : World) (v : Value) (t : TypeId) : (w.alloc (.cells #[v] t)).cell? ⟨w.heap.size, 0, none⟩ = some v ∧ True := by
  have hh := World.alloc_heap_new w (.cells #[v] t)
  simp only [World.cell?, hh]; simp
theorem Lies.kept {A B : World} {b : Nat} {r : Rc} {row : Option Nat} (h : Lies A b r) (hg : A.grownBy B row) (hr : ∀ r, row = some r → ∃ o : Obj, A.heap[r]? = some o ∧ o.isCells = false) : Lies B b r := fun j hj => by
  obtain ⟨h1, h2⟩ := h j hj
  exact ⟨cell_kept h1 hg hr, (frozen_kept h1 hg hr).trans h2⟩
theorem Lies.alloc {W : World} {b : Nat} {r : Rc} (h : Lies W b r) (o : Obj) : Lies (W.alloc o) b r := h.kept (World.grownBy_alloc W o none) (fun r e => by cases e)
theorem Lies.hs {W : World} {b : Nat} {r : Rc} (h : Lies W b r) : (W.cell? ⟨b, 0, none⟩ = some (.int .u8 r.1) ∧ W.frozen? ⟨b, 0, none⟩ = false) ∧ (W.cell? ⟨b, 1, none⟩ = some (.int .u8 r.2.1) ∧ W.frozen? ⟨b, 1, none⟩ = false) ∧ (W.cell? ⟨b, 2, none⟩ = some (.int .u8 r.2.2.1) ∧ W.frozen? ⟨b, 2, none⟩ = false) ∧ (W.cell? ⟨b, 3, none⟩ = some (.int .u8 r.2.2.2) ∧ W.frozen? ⟨b, 3, none⟩ = false) :=
  ⟨h 0 (by omega), h 1 (by omega), h 2 (by omega), h 3 (by omega)⟩
theorem kp_b {b Bs : Nat} {w : World} (hBs : Bs < w.heap.size) (W : World) (l : Nat) (o o' : Obj) (hl : w.heap.size ≤ l) (h : W.heap[l]? = some o) (hc : o.isCells = false) (hw : o.isWalk = false) : Kp b Bs W (W.putObj l o') := by
  have hg := grownBy_putObj' W l o'
  have hr : ∀ r, some l = some r → ∃ o : Obj, W.heap[r]? = some o ∧ o.isCells = false := fun r e => by cases e; exact ⟨o, h, hc⟩
  exact ⟨(belowK_b (w := w) (Nat.le_refl _) W l o o' hl h hc hw).cell (p := ⟨Bs, 0, none⟩) hBs, fun j hj ⟨x, hx⟩ => ⟨x, cell_kept hx hg hr⟩⟩

def sets (W : World) (b : Nat) (r : Rc) : World := (((W.setCell ⟨b, 0, none⟩ (.int .u8 r.1)).setCell ⟨b, 1, none⟩ (.int .u8 r.2.1)).setCell ⟨b, 2, none⟩ (.int .u8 r.2.2.1)).setCell ⟨b, 3, none⟩ (.int .u8 r.2.2.2)
theorem oth (W : World) (b i j : Nat) (v : Value) (h : i ≠ j) : (W.setCell ⟨b, i, none⟩ v).cell? ⟨b, j, none⟩ = W.cell? ⟨b, j, none⟩ :=
  World.cell?_setCell_other W ⟨b, i, none⟩ ⟨b, j, none⟩ _ (by simp only [ne_eq, Addr.mk.injEq]; omega)
theorem sets_lies {W : World} {b : Nat} {s r : Rc} (h : Lies W b s) : Lies (sets W b r) b r := by
  obtain ⟨⟨c0, f0⟩, ⟨c1, f1⟩, ⟨c2, f2⟩, ⟨c3, f3⟩⟩ := h.hs
  have fr : ∀ j, (sets W b r).frozen? ⟨b, j, none⟩ = W.frozen? ⟨b, j, none⟩ := fun j => by
    unfold sets
    rw [World.frozen?_setCell, World.frozen?_setCell, World.frozen?_setCell, World.frozen?_setCell]
  have d0 : (sets W b r).cell? ⟨b, 0, none⟩ = some (.int .u8 r.1) := by
    unfold sets
    rw [oth _ b 3 0 _ (by omega), oth _ b 2 0 _ (by omega), oth _ b 1 0 _ (by omega)]
    exact World.cell?_setCell_same' _ _ _ (by rw [c0]; rfl)
  have d1 : (sets W b r).cell? ⟨b, 1, none⟩ = some (.int .u8 r.2.1) := by
    unfold sets
    rw [oth _ b 3 1 _ (by omega), oth _ b 2 1 _ (by omega)]
    exact World.cell?_setCell_same' _ _ _ (by rw [oth _ b 0 1 _ (by omega), c1]; rfl)
  have d2 : (sets W b r).cell? ⟨b, 2, none⟩ = some (.int .u8 r.2.2.1) := by
    unfold sets
    rw [oth _ b 3 2 _ (by omega)]
    exact World.cell?_setCell_same' _ _ _ (by rw [oth _ b 1 2 _ (by omega), oth _ b 0 2 _ (by omega), c2]; rfl)
  have d3 : (sets W b r).cell? ⟨b, 3, none⟩ = some (.int .u8 r.2.2.2) := by
    unfold sets
    exact World.cell?_setCell_same' _ _ _ (by rw [oth _ b 2 3 _ (by omega), oth _ b 1 3 _ (by omega), oth _ b 0 3 _ (by omega), c3]; rfl)
  intro j hj
  rw [fr]
  have hj' : j = 0 ∨ j = 1 ∨ j = 2 ∨ j = 3 := by omega
  rcases hj' with rfl | rfl | rfl | rfl
  · exact ⟨d0, f0⟩
  · exact ⟨d1, f1⟩
  · exact ⟨d2, f2⟩
  · exact ⟨d3, f3⟩
theorem sets_below {n : Nat} {w W : World} {b : Nat} (r : Rc) (h : Below n w W) (hb : n ≤ b) : Below n w (sets W b r) := (((h.setCell (p := ⟨b, 0, none⟩) hb _).setCell (p := ⟨b, 1, none⟩) hb _).setCell (p := ⟨b, 2, none⟩) hb _).setCell (p := ⟨b, 3, none⟩) hb _
theorem sets_keeps (W : World) (b : Nat) (r : Rc) {D : Nat} {o : Obj} (hK : W.heap[D]? = some o) (ho : o.isCells = false) : (sets W b r).heap[D]? = some o :=
  (KeepsOthers.setCell _ _ _).same D _ ((KeepsOthers.setCell _ _ _).same D _ ((KeepsOthers.setCell _ _ _).same D _ ((KeepsOthers.setCell _ _ _).same D _ hK ho) ho) ho) ho

set_option maxRecDepth 100000 in
set_option maxHeartbeats 4000000 in
theorem next_in (F : Fence) (n : Nat) (h3 : F.fn 160) (h5 : F.fn 175) (h6 : F.fn 181) (hro : F.round = none) (hn : 3 ≤ n) (r : Rc) (w : World) :
    CallsIn F n Tryz.prog 160 #[.agg (bytes r)] w fun e W' => e = .returned (.agg (bytes (nextR r))) ∧ Below w.heap.size w W' := by
  have h1 : 1 ≤ n := by omega
  refine callsIn_of_wp_marks Tryz.func160 rfl h3 ?_ hro
  unfold bytes
  simp only [Tryz.ntmps160, List.size_toArray, List.length_cons, List.length_nil, Nat.reduceAdd, Nat.reduceSub, Array.replicate_succ, Array.replicate_zero, List.push_toArray, List.append_toArray, List.nil_append, List.cons_append]
  gi_wp2_with (gi_at_call 175; refine (Backward_in F (n - 1) h5 hro _ _ _ _).mono ?_; rintro e w' ⟨rfl, rfl⟩)
  have hB0 : Below w.heap.size w (((w.alloc (.cells (bytes r) 76)).alloc (.cells (bytes (0, 0, 0, 0)) 76)).alloc (.cells #[.slice (some ⟨w.heap.size, 0, none⟩) 4 4] 261)) := (((Below.refl _ w).alloc (Nat.le_refl _) _).alloc (by simp) _).alloc (by simp; omega) _
  obtain ⟨W0, hW0⟩ : ∃ W0, (((w.alloc (.cells (bytes r) 76)).alloc (.cells (bytes (0, 0, 0, 0)) 76)).alloc (.cells #[.slice (some ⟨w.heap.size, 0, none⟩) 4 4] 261)) = W0 := ⟨_, rfl⟩
  have hsz : W0.heap.size = w.heap.size + 1 + 1 + 1 := by rw [← hW0]; simp
  have hL : Lies W0 w.heap.size r := by rw [← hW0]; exact ((lies_new w r _).alloc _).alloc _
  have hZ : Zed W0 (w.heap.size + 1) := by
    rw [← hW0]
    have := lies_new (w.alloc (.cells (bytes r) 76)) (0, 0, 0, 0) 76
    rw [World.size_alloc] at this
    exact this.alloc _
  have hS : W0.cell? ⟨w.heap.size + 1 + 1, 0, none⟩ = some (.slice (some ⟨w.heap.size, 0, none⟩) 4 4) := by
    rw [← hW0]
    have := (one_new ((w.alloc (.cells (bytes r) 76)).alloc (.cells (bytes (0, 0, 0, 0)) 76)) (.slice (some ⟨w.heap.size, 0, none⟩) 4 4) 261).1
    rw [World.size_alloc, World.size_alloc] at this
    exact this
  rw [hW0] at hB0
  unfold bytes at hW0
  simp only at hW0
  rw [hW0]
  refine wpIn_rangeFunc_ownF hro h1 (gf := 181) (lb := #[.pointer (some ⟨w.heap.size + 1 + 1, 0, none⟩)]) rfl h6 (enters_of Tryz.func181 (by kernel_rfl) rfl)
    (back_stops F (n - 1) h6 hro (by omega) (w.heap.size + 1 + 1) w.heap.size W0 (by omega) (by omega) hS (fun j hj => ⟨_, (hL j hj).1⟩))
    (fun h k => ⟨k.1.trans h.1, fun j hj hx => k.2 j hj (h.2 j hj hx)⟩) (kp_b (by omega)) (Below.refl _ _) (fun _ => rfl)
    (fun pre W => II w r pre W ∧ Below w.heap.size w W) (fun c pre W => IX w r c pre W ∧ Below w.heap.size w W) 
    (OwnFrom.and (Own.from (fun s A B row ⟨x, h1, h2, h3⟩ hg hr => ⟨x, h1, h2.kept hg (fun r e => (hr r e)), h3.kept hg (fun r e => (hr r e))⟩) _) (ownFrom_below (Nat.le_refl _) (by omega)))
    (fun c => OwnFrom.and (Own.from (fun s A B row ⟨e, l, i, x, h0, h1, h4, h2, h3⟩ hg hr => ⟨e, l, i, x, h0, h1, h4, h2.kept hg (fun r e => (hr r e)), h3.kept hg (fun r e => (hr r e))⟩) _) (ownFrom_below (Nat.le_refl _) (by omega)))
    ⟨⟨r, rfl, hL, hZ⟩, hB0⟩
    (fun x => { tmps := #[.agg #[.int .u8 r.1, .int .u8 r.2.1, .int .u8 r.2.2.1, .int .u8 r.2.2.2], .pointer (some ⟨w.heap.size, 0, none⟩), .pointer (some ⟨w.heap.size + 1, 0, none⟩), .int .i64 (x.1.1 : Int), .slice (some ⟨w.heap.size, 0, none⟩) 4 4, .func (.func 181) #[] #[.pointer (some ⟨w.heap.size + 1 + 1, 0, none⟩)], .int .i64 (x.1.1 : Int), .int .u8 x.2, undef, undef, undef, undef, undef, undef, undef, undef, undef, undef], defers := [] }) ?assign ?body ?done ?stop
  case assign =>
    intro l x W K hK
    unfold encs
    gi_wp2
    exact hK
  case body =>
    rintro l pre ⟨⟨i, hi⟩, y⟩ W ⟨⟨s, hg, hLs, hZs⟩, hB⟩ _
    have hi' : i = 0 ∨ i = 1 ∨ i = 2 ∨ i = 3 := by omega
    obtain ⟨⟨c0, f0⟩, ⟨c1, f1⟩, ⟨c2, f2⟩, ⟨c3, f3⟩⟩ := hLs.hs
    rcases hi' with rfl | rfl | rfl | rfl
    all_goals
      gi_wp2
      · rename_i hne
        have hset := hLs.set hi
        rw [IntKind.wrap_u8] at hset
        refine ⟨KeepsOthers.setCell _ _ _, ⟨rfl, pre.map (·.1.1), _, s, by rw [List.map_append]; rfl, hg, ?_, hset, hZs.far (b' := w.heap.size) (by omega)⟩, hB.setCell (Nat.le_refl _) _⟩
        rw [at_inc_self hi, IntKind.wrap_u8]
        simpa [at_] using hne
      · rename_i hne
        have hset := hLs.set hi
        rw [IntKind.wrap_u8] at hset
        refine ⟨KeepsOthers.setCell _ _ _, ⟨World.cell?_setCell_other _ _ _ _ (by simp only [ne_eq, Addr.mk.injEq]; omega), fun j hj _ => ⟨_, (hset j hj).1⟩⟩, ⟨_, ?_, hset, hZs.far (b' := w.heap.size) (by omega)⟩, hB.setCell (Nat.le_refl _) _⟩
        rw [List.map_append, List.map_cons, List.map_nil, gone_snoc, hg]
        simp only [Option.bind_some]
        rw [if_pos]
        rw [at_inc_self hi, IntKind.wrap_u8]
        simpa [at_] using hne
  case done =>
    rintro D ys W hD hys ⟨⟨s, hg, hLs, hZs⟩, hB⟩ hK
    rw [hys] at hg
    have hs := all_gone hg
    subst hs
    obtain ⟨⟨c0, f0⟩, ⟨c1, f1⟩, ⟨c2, f2⟩, ⟨c3, f3⟩⟩ := hLs.hs
    obtain ⟨⟨d0, g0⟩, ⟨d1, g1⟩, ⟨d2, g2⟩, ⟨d3, g3⟩⟩ := hZs.hs
    gi_wp2
    show bodyPostM _ _ _ _ _ _ _ (sets W (w.heap.size + 1) (nextR r))
    have hK' := sets_keeps W (w.heap.size + 1) (nextR r) hK rfl
    have hB' := sets_below (nextR r) hB (show w.heap.size ≤ w.heap.size + 1 by omega)
    refine ⟨by simp, .inl ⟨_, _, rfl, run_takeDeferred hK', ?_⟩⟩
    have hfin := (sets_lies (r := nextR r) hZs).kept (grownBy_putObj' _ D (.deferred none)) (fun r e => by cases e; exact ⟨_, hK', rfl⟩)
    obtain ⟨⟨e0, _⟩, ⟨e1, _⟩, ⟨e2, _⟩, ⟨e3, _⟩⟩ := hfin.hs
    refine ⟨.agg (bytes (nextR r)), ?_, rfl, hB'.trans (belowK_b (w := w) (Nat.le_refl _) _ D _ _ (by omega) hK' rfl rfl)⟩
    simp [results, Tryz.f160, go_sem, e0, e1, e2, e3, bytes]
  case stop =>
    rintro D c pre W hD ⟨k, hk, hp⟩ ⟨⟨rfl, l, i, s, h0, hg, hne, hLs, hZs⟩, hB⟩ hK
    rw [h0] at hp
    have hs := stop_at hp hk hg hne
    rw [hs] at hLs
    obtain ⟨⟨c0, f0⟩, ⟨c1, f1⟩, ⟨c2, f2⟩, ⟨c3, f3⟩⟩ := hLs.hs
    obtain ⟨⟨d0, g0⟩, ⟨d1, g1⟩, ⟨d2, g2⟩, ⟨d3, g3⟩⟩ := hZs.hs
    gi_wp2
    show bodyPostM _ _ _ _ _ _ _ (sets W (w.heap.size + 1) (nextR r))
    have hK' := sets_keeps W (w.heap.size + 1) (nextR r) hK rfl
    have hB' := sets_below (nextR r) hB (show w.heap.size ≤ w.heap.size + 1 by omega)
    refine ⟨by simp, .inl ⟨_, _, rfl, run_takeDeferred hK', ?_⟩⟩
    have hfin := (sets_lies (r := nextR r) hZs).kept (grownBy_putObj' _ D (.deferred none)) (fun r e => by cases e; exact ⟨_, hK', rfl⟩)
    obtain ⟨⟨e0, _⟩, ⟨e1, _⟩, ⟨e2, _⟩, ⟨e3, _⟩⟩ := hfin.hs
    refine ⟨.agg (bytes (nextR r)), ?_, rfl, hB'.trans (belowK_b (w := w) (Nat.le_refl _) _ D _ _ (by omega) hK' rfl rfl)⟩
    simp [results, Tryz.f160, go_sem, e0, e1, e2, e3, bytes]

theorem next_calls (r : Rc) (w : World) : Calls Tryz.prog 160 #[.agg (bytes r)] w fun e W' => e = .returned (.agg (bytes (nextR r))) ∧ Below w.heap.size w W' :=
  (callsIn_wide (n := 3)).1 (next_in Fence.wide 3 trivial trivial trivial rfl (by omega) r w)
end Go.Proofs.YtbhamhhjicehaaaGreatDoor.Nxt

/- file.Do: what it comes to. -/
namespace Go.Proofs.YtbhamhhjicehaaaGreatDoor.File
set_option linter.unusedSimpArgs false
set_option linter.unusedVariables false
open Go Go.AX Go.Proofs Ty
set_option maxHeartbeats 4000000
set_option maxRecDepth 10000

theorem Clone_at (R : List Rc) (base : Option Addr) (cap : Nat) (H : AH) (hs : SlcIn H 4 base cap (R.map enc)) (hR : R.length ≤ 4096) (h0 : R.length ≠ 0) :
    ACalls Tryz.prog 91 #[.slice base R.length cap] H (fun v H' => ∃ b c bs, Fresh H b ∧ v = .slice (some ⟨b, 0, none⟩) R.length c ∧ R.length ≤ c ∧ R.length * 4 ≤ bs ∧ H' = H.add b (.cells (R.map enc).flatten 76 bs)) :=
  (Clone_c R base cap H hs hR).monoW fun v H' ⟨b', c', hv, hO, hK⟩ => by
    rcases hO.at_ with ⟨_, h, _⟩ | ⟨b, bs, rfl, h1, h2, h3⟩
    · rw [List.map_eq_nil_iff] at h; subst h; exact absurd rfl h0
    · have hle := hO.le
      rw [List.length_map] at hle
      exact ⟨_, AH.le_cons h1 (hK.all), b, c', bs, h3, hv, hle, Nat.le_trans (Nat.mul_le_mul_right _ hle) h2, rfl⟩
theorem next_c (r : Rc) (H : AH) : ACalls Tryz.prog 160 #[.agg (enc r).toArray] H (fun v H' => v = .agg (enc (Nxt.nextR r)).toArray ∧ H = H') := ACalls.of_calls (Nxt.next_calls r)

def doR (R : List Rc) (op : Int) (rec : Nat) (v : Rc) : List Rc := if op = 1 then R.set rec v else if op = 2 then R.set rec (Nxt.nextR (R.getD rec zr)) else R
def dbad (e : Int) : Value := .tuple #[.agg #[.int .i64 0, .slice none 0 0], .agg (enc zr).toArray, .int .i64 e]
theorem enc_take (r : Rc) : (enc r).take 4 = enc r := rfl
theorem enc_z4 (r : Rc) : lput [.int .u8 0, .int .u8 0, .int .u8 0, .int .u8 0] 0 (enc r) = enc r := rfl
theorem flat4 (L : List Rc) : (L.map enc).flatten.length = L.length * 4 := by rw [flat_len (rows4 L), List.length_map]
theorem row4 {L : List Rc} {i : Nat} {r : Rc} (h : L[i]? = some r) : ((L.map enc).flatten.drop (i * 4)).take 4 = enc r := flat_row (rows4 L) i _ (map_get h)
theorem put4 {L : List Rc} {i : Nat} (r : Rc) (h : i < L.length) : lput (L.map enc).flatten (i * 4) (enc r) = ((L.set i r).map enc).flatten := by
  rw [flat_lput (rows4 L) i (enc r) (by rw [List.length_map]; exact h) rfl, List.map_set]
theorem getD4 {L : List Rc} {i : Nat} {r : Rc} (h : L[i]? = some r) : L.getD i zr = r := by rw [List.getD_eq_getElem?_getD, h]; rfl
theorem mayF_ok {p op : Int} {rec : Int} {R : List Rc} (h : mayF p R op rec = 0) : goodF p R = true ∧ 0 ≤ op ∧ op ≤ 2 ∧ 0 ≤ rec ∧ rec < R.length ∧ R.length ≤ 256 ∧ 0 ≤ p ∧ p ≤ 7 := by
  unfold mayF at h
  split at h
  · cases h
  · rename_i g
    simp only [Bool.not_eq_false] at g
    obtain ⟨h0, h1, h2, h3⟩ := goodF_p g
    split at h
    · cases h
    · split at h
      · cases h
      · exact ⟨g, by omega, by omega, by omega, by omega, h3, h0, h1⟩
theorem Do_bad (p op rec : Int) (R : List Rc) (v : Rc) (base : Option Addr) (cap : Nat) (H : AH) (hs : SlcIn H 4 base cap (R.map enc)) (hm : ¬ mayF p R op rec = 0) :
    ACalls Tryz.prog 130 #[fv p base R.length cap, .int .i64 op, .int .i64 rec, .agg (enc v).toArray] H (fun v H' => v = dbad (mayF p R op rec) ∧ H = H') := by
  unfold fv
  have hg := fun H1 (h1 : SlcIn H1 4 base cap (R.map enc)) => may_c p op rec R base cap H1 h1
  unfold fv at hg
  refine ACalls.enter2 Tryz.func130 rfl Tryz.ntmps130 Tryz.results130 (by simp) ?_; simp (dsimp := false) (maxSteps := 4000000) only [hm, go_sem]
  refine AllB.mk fun b4 h_b4 => ?_; have hn_b4 := h_b4; (try simp only [fresh_add, fresh_set, ne_eq] at hn_b4); have hr_b4 := hn_b4; (try simp only [@eq_comm Nat b4] at hr_b4); simp (dsimp := false) (maxSteps := 4000000) only [hm, hn_b4, hr_b4, go_sem]
  refine AllB.mk fun b7 h_b7 => ?_; have hn_b7 := h_b7; (try simp only [fresh_add, fresh_set, ne_eq] at hn_b7); have hr_b7 := hn_b7; (try simp only [@eq_comm Nat b7] at hr_b7); simp (dsimp := false) (maxSteps := 4000000) only [hm, hn_b4, hr_b4, hn_b7, hr_b7, go_sem]
  refine AllB.mk fun b8 h_b8 => ?_; have hn_b8 := h_b8; (try simp only [fresh_add, fresh_set, ne_eq] at hn_b8); have hr_b8 := hn_b8; (try simp only [@eq_comm Nat b8] at hr_b8); simp (dsimp := false) (maxSteps := 4000000) only [hm, hn_b4, hr_b4, hn_b7, hr_b7, hn_b8, hr_b8, go_sem]
  refine AllB.mk fun b9 h_b9 => ?_; have hn_b9 := h_b9; (try simp only [fresh_add, fresh_set, ne_eq] at hn_b9); have hr_b9 := hn_b9; (try simp only [@eq_comm Nat b9] at hr_b9); simp (dsimp := false) (maxSteps := 4000000) only [hm, hn_b4, hr_b4, hn_b7, hr_b7, hn_b8, hr_b8, hn_b9, hr_b9, go_sem]
  refine (hg _ ((((hs.add h_b4).add h_b7).add h_b8).add h_b9)).mono ?_; rintro _ _ ⟨rfl, rfl⟩
  simp (dsimp := false) (maxSteps := 4000000) only [hm, hn_b4, hr_b4, hn_b7, hr_b7, hn_b8, hr_b8, hn_b9, hr_b9, go_sem]
  exact ⟨H, (AH.le_add (AH.le_add (AH.le_add (AH.le_add (AH.le_refl _) ((by simp only [hm, fresh_add, fresh_set, ne_eq, hn_b4, not_false_eq_true, and_self] : Fresh _ b4).2)) ((by simp only [hm, fresh_add, fresh_set, ne_eq, hn_b7, not_false_eq_true, and_self] : Fresh _ b7).2)) ((by simp only [hm, fresh_add, fresh_set, ne_eq, hn_b8, not_false_eq_true, and_self] : Fresh _ b8).2)) ((by simp only [hm, fresh_add, fresh_set, ne_eq, hn_b9, not_false_eq_true, and_self] : Fresh _ b9).2)), (by first | exact ⟨rfl, rfl⟩ | rfl)⟩
theorem Do_ok (p op : Int) (rec : Nat) (R : List Rc) (v : Rc) (base : Option Addr) (cap : Nat) (H : AH) (hs : SlcIn H 4 base cap (R.map enc)) (hm : mayF p R op rec = 0) :
    ACalls Tryz.prog 130 #[fv p base R.length cap, .int .i64 op, .int .i64 rec, .agg (enc v).toArray] H (fun x H' => ∃ b bs, Fresh H b ∧ x = .tuple #[fv p (some ⟨b, 0, none⟩) R.length R.length, .agg (enc ((doR R op rec v).getD rec zr)).toArray, .int .i64 0] ∧ R.length * 4 ≤ bs ∧ H' = H.add b (.cells ((doR R op rec v).map enc).flatten 76 bs)) := by
  obtain ⟨hgd, ho0, ho1, hr0, hr1, hR, hp0, hp1⟩ := mayF_ok hm
  obtain ⟨r0, hr0_⟩ := get_some (l := R) (i := rec) (by omega)
  have hl4 := flat4 R
  have c4 : rec * 4 + 4 ≤ R.length * 4 := by omega
  have c5 : 0 + (rec * 4) + 4 ≤ R.length * 4 := by omega
  have c6 : 0 + (R.length * 4) ≤ R.length * 4 := by omega
  have hbs : True := trivial
  unfold fv
  have hg := fun H1 (h1 : SlcIn H1 4 base cap (R.map enc)) => may_c p op rec R base cap H1 h1
  unfold fv at hg
  refine ACalls.enter2 Tryz.func130 rfl Tryz.ntmps130 Tryz.results130 (by simp) ?_; simp (dsimp := false) (maxSteps := 4000000) only [hm, hr1, enc_len, enc_scal, enc_take, enc_z4, hbs, hl4, c4, c5, c6, go_sem]
  refine AllB.mk fun b4 h_b4 => ?_; have hn_b4 := h_b4; (try simp only [fresh_add, fresh_set, ne_eq] at hn_b4); have hr_b4 := hn_b4; (try simp only [@eq_comm Nat b4] at hr_b4); simp (dsimp := false) (maxSteps := 4000000) only [hm, hr1, enc_len, enc_scal, enc_take, enc_z4, hbs, hl4, c4, c5, c6, hn_b4, hr_b4, go_sem]
  refine AllB.mk fun b7 h_b7 => ?_; have hn_b7 := h_b7; (try simp only [fresh_add, fresh_set, ne_eq] at hn_b7); have hr_b7 := hn_b7; (try simp only [@eq_comm Nat b7] at hr_b7); simp (dsimp := false) (maxSteps := 4000000) only [hm, hr1, enc_len, enc_scal, enc_take, enc_z4, hbs, hl4, c4, c5, c6, hn_b4, hr_b4, hn_b7, hr_b7, go_sem]
  refine AllB.mk fun b8 h_b8 => ?_; have hn_b8 := h_b8; (try simp only [fresh_add, fresh_set, ne_eq] at hn_b8); have hr_b8 := hn_b8; (try simp only [@eq_comm Nat b8] at hr_b8); simp (dsimp := false) (maxSteps := 4000000) only [hm, hr1, enc_len, enc_scal, enc_take, enc_z4, hbs, hl4, c4, c5, c6, hn_b4, hr_b4, hn_b7, hr_b7, hn_b8, hr_b8, go_sem]
  refine AllB.mk fun b9 h_b9 => ?_; have hn_b9 := h_b9; (try simp only [fresh_add, fresh_set, ne_eq] at hn_b9); have hr_b9 := hn_b9; (try simp only [@eq_comm Nat b9] at hr_b9); simp (dsimp := false) (maxSteps := 4000000) only [hm, hr1, enc_len, enc_scal, enc_take, enc_z4, hbs, hl4, c4, c5, c6, hn_b4, hr_b4, hn_b7, hr_b7, hn_b8, hr_b8, hn_b9, hr_b9, go_sem]
  refine (hg _ ((((hs.add h_b4).add h_b7).add h_b8).add h_b9)).mono ?_; rintro _ _ ⟨rfl, rfl⟩
  simp (dsimp := false) (maxSteps := 4000000) only [hm, hr1, enc_len, enc_scal, enc_take, enc_z4, hbs, hl4, c4, c5, c6, hn_b4, hr_b4, hn_b7, hr_b7, hn_b8, hr_b8, hn_b9, hr_b9, go_sem]
  refine (Clone_at R base cap _ ((((hs.add h_b4).add h_b7).add h_b8).add h_b9) (by omega) (by omega)).mono ?_; rintro _ _ ⟨bl, cl, bs, h_bl, rfl, hcl, hbs, rfl⟩
  have hn_bl := h_bl; (try simp only [fresh_add, fresh_set, ne_eq] at hn_bl); have hr_bl := hn_bl; (try simp only [@eq_comm Nat bl] at hr_bl)
  simp (dsimp := false) (maxSteps := 4000000) only [hm, hr1, enc_len, enc_scal, enc_take, enc_z4, hbs, hl4, c4, c5, c6, hn_b4, hr_b4, hn_b7, hr_b7, hn_b8, hr_b8, hn_b9, hr_b9, hn_bl, hr_bl, go_sem]
  refine (Clip_c _ _ _ _ hcl).mono ?_; rintro _ _ ⟨rfl, rfl⟩
  simp (dsimp := false) (maxSteps := 4000000) only [hm, hr1, enc_len, enc_scal, enc_take, enc_z4, hbs, hl4, c4, c5, c6, hn_b4, hr_b4, hn_b7, hr_b7, hn_b8, hr_b8, hn_b9, hr_b9, hn_bl, hr_bl, go_sem]
  by_cases a : op = 1
  · subst a
    have hp := put4 v (L := R) (i := rec) (by omega)
    have hs_ : (R.set rec v)[rec]? = some v := by rw [List.getElem?_set_self (by omega)]
    have hrow := row4 hs_
    simp (dsimp := false) (maxSteps := 4000000) only [hp, hm, hr1, enc_len, enc_scal, enc_take, enc_z4, hbs, hl4, c4, c5, c6, hn_b4, hr_b4, hn_b7, hr_b7, hn_b8, hr_b8, hn_b9, hr_b9, hn_bl, hr_bl, go_sem]
    refine AWp.gen [.rd, .pu, .rd, .pu, .pu, .rd, .ch, .ch, .pu] [0, 0, 2, 0, 14, 30, 1, 127, 255] 7 ((H.add b4 (.cells [.int .i64 p, .slice (some ⟨bl, 0, none⟩) R.length R.length] 65 2)).add bl (.cells ((R.set rec v).map enc).flatten 76 bs)) mixed (by kernel_rfl) (?_) ?_
    · exact (by refine AH.le_cons ?_ ?_; (show AH.find _ _ = _; simp only [find_add_self, find_add_ne, find_fresh, fresh_add, fresh_set, ne_eq, not_false_eq_true, true_and, and_true, and_self, hm, hr1, enc_len, enc_scal, enc_take, enc_z4, hbs, hl4, c4, c5, c6, hn_b4, hr_b4, hn_b7, hr_b7, hn_b8, hr_b8, hn_b9, hr_b9, hn_bl, hr_bl]); refine AH.le_cons ?_ ?_; (show AH.find _ _ = _; simp only [find_add_self, find_add_ne, find_fresh, fresh_add, fresh_set, ne_eq, not_false_eq_true, true_and, and_true, and_self, hm, hr1, enc_len, enc_scal, enc_take, enc_z4, hbs, hl4, c4, c5, c6, hn_b4, hr_b4, hn_b7, hr_b7, hn_b8, hr_b8, hn_b9, hr_b9, hn_bl, hr_bl]); (repeat (first | exact AH.le_refl _ | refine AH.le_add ?_ ?_)); all_goals (first | exact AH.le_refl _ | (show AH.find _ _ = _; simp only [find_add_self, find_add_ne, find_fresh, fresh_add, fresh_set, ne_eq, not_false_eq_true, true_and, and_true, and_self, hm, hr1, enc_len, enc_scal, enc_take, enc_z4, hbs, hl4, c4, c5, c6, hn_b4, hr_b4, hn_b7, hr_b7, hn_b8, hr_b8, hn_b9, hr_b9, hn_bl, hr_bl])))
    have hl4' := flat4 (R.set rec v)
    rw [List.length_set] at hl4'
    simp (dsimp := false) (maxSteps := 4000000) only [hl4', hrow, hm, hr1, enc_len, enc_scal, enc_take, enc_z4, hbs, hl4, c4, c5, c6, hn_b4, hr_b4, hn_b7, hr_b7, hn_b8, hr_b8, hn_b9, hr_b9, hn_bl, hr_bl, go_sem]
    refine ⟨(by refine AH.le_cons ?_ ?_; (show AH.find _ _ = _; simp only [find_add_self, find_add_ne, find_fresh, fresh_add, fresh_set, ne_eq, not_false_eq_true, true_and, and_true, and_self, hm, hr1, enc_len, enc_scal, enc_take, enc_z4, hbs, hl4, c4, c5, c6, hn_b4, hr_b4, hn_b7, hr_b7, hn_b8, hr_b8, hn_b9, hr_b9, hn_bl, hr_bl]); refine AH.le_cons ?_ ?_; (show AH.find _ _ = _; simp only [find_add_self, find_add_ne, find_fresh, fresh_add, fresh_set, ne_eq, not_false_eq_true, true_and, and_true, and_self, hm, hr1, enc_len, enc_scal, enc_take, enc_z4, hbs, hl4, c4, c5, c6, hn_b4, hr_b4, hn_b7, hr_b7, hn_b8, hr_b8, hn_b9, hr_b9, hn_bl, hr_bl]); (repeat (first | exact AH.le_refl _ | refine AH.le_add ?_ ?_)); all_goals (first | exact AH.le_refl _ | (show AH.find _ _ = _; simp only [find_add_self, find_add_ne, find_fresh, fresh_add, fresh_set, ne_eq, not_false_eq_true, true_and, and_true, and_self, hm, hr1, enc_len, enc_scal, enc_take, enc_z4, hbs, hl4, c4, c5, c6, hn_b4, hr_b4, hn_b7, hr_b7, hn_b8, hr_b8, hn_b9, hr_b9, hn_bl, hr_bl]))), ?_⟩
    have hd1 : doR R 1 rec v = R.set rec v := by simp [doR]
    rw [hd1]
    exact ⟨_, (by refine AH.le_cons ?_ ?_; (show AH.find _ _ = _; simp only [find_add_self, find_add_ne, find_fresh, fresh_add, fresh_set, ne_eq, not_false_eq_true, true_and, and_true, and_self, hm, hr1, enc_len, enc_scal, enc_take, enc_z4, hbs, hl4, c4, c5, c6, hn_b4, hr_b4, hn_b7, hr_b7, hn_b8, hr_b8, hn_b9, hr_b9, hn_bl, hr_bl]); (repeat (first | exact AH.le_refl _ | refine AH.le_add ?_ ?_)); all_goals (first | exact AH.le_refl _ | (show AH.find _ _ = _; simp only [find_add_self, find_add_ne, find_fresh, fresh_add, fresh_set, ne_eq, not_false_eq_true, true_and, and_true, and_self, hm, hr1, enc_len, enc_scal, enc_take, enc_z4, hbs, hl4, c4, c5, c6, hn_b4, hr_b4, hn_b7, hr_b7, hn_b8, hr_b8, hn_b9, hr_b9, hn_bl, hr_bl]))), bl, bs, hn_bl.2.2.2.2, by rw [getD4 hs_], hbs, rfl⟩
  by_cases b : op = 2
  · subst b
    have hp := put4 (Nxt.nextR r0) (L := R) (i := rec) (by omega)
    have hs_ : (R.set rec (Nxt.nextR r0))[rec]? = some (Nxt.nextR r0) := by rw [List.getElem?_set_self (by omega)]
    have hrow0 := row4 hr0_
    have hrow := row4 hs_
    simp (dsimp := false) (maxSteps := 4000000) only [hm, hr1, enc_len, enc_scal, enc_take, enc_z4, hbs, hl4, c4, c5, c6, hn_b4, hr_b4, hn_b7, hr_b7, hn_b8, hr_b8, hn_b9, hr_b9, hn_bl, hr_bl, go_sem]
    refine AWp.gen [.pu, .rd, .pu, .pu, .rd, .pu, .pu, .rd, .ch, .pu, .ch] [0, 1, 0, 0, 8, 0, 56, 120, 248, 511, 1023] 9 (_) mixed (by kernel_rfl) (AH.le_refl _) ?_
    simp (dsimp := false) (maxSteps := 4000000) only [hrow0, hm, hr1, enc_len, enc_scal, enc_take, enc_z4, hbs, hl4, c4, c5, c6, hn_b4, hr_b4, hn_b7, hr_b7, hn_b8, hr_b8, hn_b9, hr_b9, hn_bl, hr_bl, go_sem]
    refine (next_c r0 _).mono ?_; rintro _ _ ⟨rfl, rfl⟩
    simp (dsimp := false) (maxSteps := 4000000) only [hp, AH.le_refl, hm, hr1, enc_len, enc_scal, enc_take, enc_z4, hbs, hl4, c4, c5, c6, hn_b4, hr_b4, hn_b7, hr_b7, hn_b8, hr_b8, hn_b9, hr_b9, hn_bl, hr_bl, go_sem]
    refine AWp.gen [.rd, .pu, .rd, .pu, .pu, .rd, .ch, .ch, .pu] [0, 0, 2, 0, 14, 30, 1, 127, 255] 7 ((H.add b4 (.cells [.int .i64 p, .slice (some ⟨bl, 0, none⟩) R.length R.length] 65 2)).add bl (.cells ((R.set rec (Nxt.nextR r0)).map enc).flatten 76 bs)) mixed (by kernel_rfl) (?_) ?_
    · exact (by refine AH.le_cons ?_ ?_; (show AH.find _ _ = _; simp only [find_add_self, find_add_ne, find_fresh, fresh_add, fresh_set, ne_eq, not_false_eq_true, true_and, and_true, and_self, hm, hr1, enc_len, enc_scal, enc_take, enc_z4, hbs, hl4, c4, c5, c6, hn_b4, hr_b4, hn_b7, hr_b7, hn_b8, hr_b8, hn_b9, hr_b9, hn_bl, hr_bl]); refine AH.le_cons ?_ ?_; (show AH.find _ _ = _; simp only [find_add_self, find_add_ne, find_fresh, fresh_add, fresh_set, ne_eq, not_false_eq_true, true_and, and_true, and_self, hm, hr1, enc_len, enc_scal, enc_take, enc_z4, hbs, hl4, c4, c5, c6, hn_b4, hr_b4, hn_b7, hr_b7, hn_b8, hr_b8, hn_b9, hr_b9, hn_bl, hr_bl]); (repeat (first | exact AH.le_refl _ | refine AH.le_add ?_ ?_)); all_goals (first | exact AH.le_refl _ | (show AH.find _ _ = _; simp only [find_add_self, find_add_ne, find_fresh, fresh_add, fresh_set, ne_eq, not_false_eq_true, true_and, and_true, and_self, hm, hr1, enc_len, enc_scal, enc_take, enc_z4, hbs, hl4, c4, c5, c6, hn_b4, hr_b4, hn_b7, hr_b7, hn_b8, hr_b8, hn_b9, hr_b9, hn_bl, hr_bl])))
    have hl4' := flat4 (R.set rec (Nxt.nextR r0))
    rw [List.length_set] at hl4'
    simp (dsimp := false) (maxSteps := 4000000) only [hl4', hrow, hm, hr1, enc_len, enc_scal, enc_take, enc_z4, hbs, hl4, c4, c5, c6, hn_b4, hr_b4, hn_b7, hr_b7, hn_b8, hr_b8, hn_b9, hr_b9, hn_bl, hr_bl, go_sem]
    refine ⟨(by refine AH.le_cons ?_ ?_; (show AH.find _ _ = _; simp only [find_add_self, find_add_ne, find_fresh, fresh_add, fresh_set, ne_eq, not_false_eq_true, true_and, and_true, and_self, hm, hr1, enc_len, enc_scal, enc_take, enc_z4, hbs, hl4, c4, c5, c6, hn_b4, hr_b4, hn_b7, hr_b7, hn_b8, hr_b8, hn_b9, hr_b9, hn_bl, hr_bl]); refine AH.le_cons ?_ ?_; (show AH.find _ _ = _; simp only [find_add_self, find_add_ne, find_fresh, fresh_add, fresh_set, ne_eq, not_false_eq_true, true_and, and_true, and_self, hm, hr1, enc_len, enc_scal, enc_take, enc_z4, hbs, hl4, c4, c5, c6, hn_b4, hr_b4, hn_b7, hr_b7, hn_b8, hr_b8, hn_b9, hr_b9, hn_bl, hr_bl]); (repeat (first | exact AH.le_refl _ | refine AH.le_add ?_ ?_)); all_goals (first | exact AH.le_refl _ | (show AH.find _ _ = _; simp only [find_add_self, find_add_ne, find_fresh, fresh_add, fresh_set, ne_eq, not_false_eq_true, true_and, and_true, and_self, hm, hr1, enc_len, enc_scal, enc_take, enc_z4, hbs, hl4, c4, c5, c6, hn_b4, hr_b4, hn_b7, hr_b7, hn_b8, hr_b8, hn_b9, hr_b9, hn_bl, hr_bl]))), ?_⟩
    have hd1 : doR R 2 rec v = R.set rec (Nxt.nextR r0) := by rw [doR, if_neg (by omega), if_pos rfl, getD4 hr0_]
    rw [hd1]
    exact ⟨_, (by refine AH.le_cons ?_ ?_; (show AH.find _ _ = _; simp only [find_add_self, find_add_ne, find_fresh, fresh_add, fresh_set, ne_eq, not_false_eq_true, true_and, and_true, and_self, hm, hr1, enc_len, enc_scal, enc_take, enc_z4, hbs, hl4, c4, c5, c6, hn_b4, hr_b4, hn_b7, hr_b7, hn_b8, hr_b8, hn_b9, hr_b9, hn_bl, hr_bl]); (repeat (first | exact AH.le_refl _ | refine AH.le_add ?_ ?_)); all_goals (first | exact AH.le_refl _ | (show AH.find _ _ = _; simp only [find_add_self, find_add_ne, find_fresh, fresh_add, fresh_set, ne_eq, not_false_eq_true, true_and, and_true, and_self, hm, hr1, enc_len, enc_scal, enc_take, enc_z4, hbs, hl4, c4, c5, c6, hn_b4, hr_b4, hn_b7, hr_b7, hn_b8, hr_b8, hn_b9, hr_b9, hn_bl, hr_bl]))), bl, bs, hn_bl.2.2.2.2, by rw [getD4 hs_], hbs, rfl⟩
  have hrow := row4 hr0_
  simp (dsimp := false) (maxSteps := 4000000) only [a, b, hm, hr1, enc_len, enc_scal, enc_take, enc_z4, hbs, hl4, c4, c5, c6, hn_b4, hr_b4, hn_b7, hr_b7, hn_b8, hr_b8, hn_b9, hr_b9, hn_bl, hr_bl, go_sem]
  refine AWp.gen [.rd, .pu, .rd, .pu, .pu, .rd, .ch, .ch, .pu] [0, 0, 2, 0, 14, 30, 1, 127, 255] 7 ((H.add b4 (.cells [.int .i64 p, .slice (some ⟨bl, 0, none⟩) R.length R.length] 65 2)).add bl (.cells (R.map enc).flatten 76 bs)) mixed (by kernel_rfl) (?_) ?_
  · exact (by refine AH.le_cons ?_ ?_; (show AH.find _ _ = _; simp only [find_add_self, find_add_ne, find_fresh, fresh_add, fresh_set, ne_eq, not_false_eq_true, true_and, and_true, and_self, hm, hr1, enc_len, enc_scal, enc_take, enc_z4, hbs, hl4, c4, c5, c6, hn_b4, hr_b4, hn_b7, hr_b7, hn_b8, hr_b8, hn_b9, hr_b9, hn_bl, hr_bl]); refine AH.le_cons ?_ ?_; (show AH.find _ _ = _; simp only [find_add_self, find_add_ne, find_fresh, fresh_add, fresh_set, ne_eq, not_false_eq_true, true_and, and_true, and_self, hm, hr1, enc_len, enc_scal, enc_take, enc_z4, hbs, hl4, c4, c5, c6, hn_b4, hr_b4, hn_b7, hr_b7, hn_b8, hr_b8, hn_b9, hr_b9, hn_bl, hr_bl]); (repeat (first | exact AH.le_refl _ | refine AH.le_add ?_ ?_)); all_goals (first | exact AH.le_refl _ | (show AH.find _ _ = _; simp only [find_add_self, find_add_ne, find_fresh, fresh_add, fresh_set, ne_eq, not_false_eq_true, true_and, and_true, and_self, hm, hr1, enc_len, enc_scal, enc_take, enc_z4, hbs, hl4, c4, c5, c6, hn_b4, hr_b4, hn_b7, hr_b7, hn_b8, hr_b8, hn_b9, hr_b9, hn_bl, hr_bl])))
  simp (dsimp := false) (maxSteps := 4000000) only [hrow, hm, hr1, enc_len, enc_scal, enc_take, enc_z4, hbs, hl4, c4, c5, c6, hn_b4, hr_b4, hn_b7, hr_b7, hn_b8, hr_b8, hn_b9, hr_b9, hn_bl, hr_bl, go_sem]
  refine ⟨(by refine AH.le_cons ?_ ?_; (show AH.find _ _ = _; simp only [find_add_self, find_add_ne, find_fresh, fresh_add, fresh_set, ne_eq, not_false_eq_true, true_and, and_true, and_self, hm, hr1, enc_len, enc_scal, enc_take, enc_z4, hbs, hl4, c4, c5, c6, hn_b4, hr_b4, hn_b7, hr_b7, hn_b8, hr_b8, hn_b9, hr_b9, hn_bl, hr_bl]); refine AH.le_cons ?_ ?_; (show AH.find _ _ = _; simp only [find_add_self, find_add_ne, find_fresh, fresh_add, fresh_set, ne_eq, not_false_eq_true, true_and, and_true, and_self, hm, hr1, enc_len, enc_scal, enc_take, enc_z4, hbs, hl4, c4, c5, c6, hn_b4, hr_b4, hn_b7, hr_b7, hn_b8, hr_b8, hn_b9, hr_b9, hn_bl, hr_bl]); (repeat (first | exact AH.le_refl _ | refine AH.le_add ?_ ?_)); all_goals (first | exact AH.le_refl _ | (show AH.find _ _ = _; simp only [find_add_self, find_add_ne, find_fresh, fresh_add, fresh_set, ne_eq, not_false_eq_true, true_and, and_true, and_self, hm, hr1, enc_len, enc_scal, enc_take, enc_z4, hbs, hl4, c4, c5, c6, hn_b4, hr_b4, hn_b7, hr_b7, hn_b8, hr_b8, hn_b9, hr_b9, hn_bl, hr_bl]))), ?_⟩
  have hd1 : doR R op rec v = R := by simp [doR, a, b]
  rw [hd1]
  exact ⟨_, (by refine AH.le_cons ?_ ?_; (show AH.find _ _ = _; simp only [find_add_self, find_add_ne, find_fresh, fresh_add, fresh_set, ne_eq, not_false_eq_true, true_and, and_true, and_self, hm, hr1, enc_len, enc_scal, enc_take, enc_z4, hbs, hl4, c4, c5, c6, hn_b4, hr_b4, hn_b7, hr_b7, hn_b8, hr_b8, hn_b9, hr_b9, hn_bl, hr_bl]); (repeat (first | exact AH.le_refl _ | refine AH.le_add ?_ ?_)); all_goals (first | exact AH.le_refl _ | (show AH.find _ _ = _; simp only [find_add_self, find_add_ne, find_fresh, fresh_add, fresh_set, ne_eq, not_false_eq_true, true_and, and_true, and_self, hm, hr1, enc_len, enc_scal, enc_take, enc_z4, hbs, hl4, c4, c5, c6, hn_b4, hr_b4, hn_b7, hr_b7, hn_b8, hr_b8, hn_b9, hr_b9, hn_bl, hr_bl]))), bl, bs, hn_bl.2.2.2.2, by rw [getD4 hr0_], hbs, rfl⟩
end Go.Proofs.YtbhamhhjicehaaaGreatDoor.File

/- file's reference, Do: what it comes to. -/
namespace Go.Proofs.YtbhamhhjicehaaaGreatDoor.File
set_option linter.unusedSimpArgs false
set_option linter.unusedVariables false
open Go Go.AX Go.Proofs Ty
set_option maxHeartbeats 4000000
set_option maxRecDepth 10000

def RcOk (r : Rc) : Prop := (0 ≤ r.1 ∧ r.1 ≤ 255) ∧ (0 ≤ r.2.1 ∧ r.2.1 ≤ 255) ∧ (0 ≤ r.2.2.1 ∧ r.2.2.1 ≤ 255) ∧ (0 ≤ r.2.2.2 ∧ r.2.2.2 ≤ 255)
theorem u8w (x : Int) : IntKind.u8.wrap x = x % 256 := rfl
theorem next4 {r : Rc} (h : RcOk r) : enc (Nxt.nextR r) = [.int .u8 ((r.1 * 16777216 + r.2.1 * 65536 + r.2.2.1 * 256 + r.2.2.2 + 1) % 4294967296 / 16777216), .int .u8 ((r.1 * 16777216 + r.2.1 * 65536 + r.2.2.1 * 256 + r.2.2.2 + 1) / 65536 % 256), .int .u8 ((r.1 * 16777216 + r.2.1 * 65536 + r.2.2.1 * 256 + r.2.2.2 + 1) / 256 % 256), .int .u8 ((r.1 * 16777216 + r.2.1 * 65536 + r.2.2.1 * 256 + r.2.2.2 + 1) % 256)] := by
  obtain ⟨x0, x1, x2, x3⟩ := r
  obtain ⟨⟨a0, a1⟩, ⟨b0, b1⟩, ⟨c0, c1⟩, ⟨d0, d1⟩⟩ := h
  simp only at a0 a1 b0 b1 c0 c1 d0 d1
  unfold Nxt.nextR
  simp only [Nxt.inc, Nxt.at_, u8w, ne_eq]
  split
  · simp only [enc, List.cons.injEq, Value.int.injEq, true_and, and_true]; omega
  · split
    · simp only [enc, List.cons.injEq, Value.int.injEq, true_and, and_true]; omega
    · split
      · simp only [enc, List.cons.injEq, Value.int.injEq, true_and, and_true]; omega
      · simp only [enc, List.cons.injEq, Value.int.injEq, true_and, and_true]; omega
theorem mayF_head {p op : Int} {R : List Rc} (g : goodF p R = true) (a : ¬ op < 0) (a2 : ¬ 2 < op) (b2 : R.length ≠ 0) : mayF p R op 0 = if op = 0 then 0 else 5 := by
  unfold mayF
  rw [if_neg (by rw [g]; decide), if_neg (by omega), if_neg (by omega), if_pos rfl]
end Go.Proofs.YtbhamhhjicehaaaGreatDoor.File

/- addr and its reference: what each function comes to. -/
namespace Go.Proofs.YtbhamhhjicehaaaGreatDoor
set_option linter.unusedSimpArgs false
set_option linter.unusedVariables false
open Go Go.AX Go.Proofs Ty
set_option maxHeartbeats 2000000
set_option maxRecDepth 10000

theorem i64_eq {c : Int} (h0 : -9223372036854775808 ≤ c) (h1 : c < 9223372036854775808) : IntKind.i64.wrap c = c := by rw [IntKind.wrap_i64]; omega

def agood (a b c : Int) : Bool := decide (0 ≤ a ∧ a ≤ 2 ∧ 0 ≤ b ∧ b < 64 ∧ 0 ≤ c ∧ c < 256)

theorem Good_c (a b c : Int) (H : AH) : ACalls Tryz.prog 129 #[.agg #[.int .i64 a, .int .i64 b, .int .i64 c]] H (fun v H' => v = .bool (agood a b c) ∧ H = H') := by
  refine ACalls.enter2 Tryz.func129 rfl Tryz.ntmps129 Tryz.results129 (by simp) ?_; simp (dsimp := false) (maxSteps := 4000000) only [go_sem]
  refine AllB.mk fun b1 h_b1 => ?_; have hn_b1 := h_b1; (try simp only [fresh_add, fresh_set, ne_eq] at hn_b1); have hr_b1 := hn_b1; (try simp only [@eq_comm Nat b1] at hr_b1); simp (dsimp := false) (maxSteps := 4000000) only [hn_b1, hr_b1, go_sem]
  (repeat' first | refine And.intro ?_ ?_ | (refine imp.mk fun _ => ?_; simp (dsimp := false) (maxSteps := 4000000) only [hn_b1, hr_b1, go_sem])) <;> exact ⟨H, (AH.le_add (AH.le_refl _) ((by simp only [fresh_add, fresh_set, ne_eq, hn_b1, not_false_eq_true, and_self] : Fresh _ b1).2)), (by first | exact ⟨congrArg Value.bool (Bool.eq_iff_iff.2 (by simp only [agood, decide_eq_true_eq, Bool.false_eq_true, false_iff, true_iff]; omega)), rfl⟩ | rfl)⟩

end Go.Proofs.YtbhamhhjicehaaaGreatDoor

/- ifs: files by their numbers, what a store comes to. -/
namespace Go.Proofs.YtbhamhhjicehaaaGreatDoor.Ifs
set_option linter.unusedSimpArgs false
set_option linter.unusedVariables false
open Go Go.AX Go.Proofs Go.Proofs.YtbhamhhjicehaaaGreatDoor.File

abbrev Fl := Int × List Rc
abbrev Nf := Int × Fl
instance : DecidableEq Nf := fun a b => decidable_of_iff (a.1 = b.1 ∧ a.2.1 = b.2.1 ∧ a.2.2 = b.2.2) ⟨fun h => by
  obtain ⟨x, y, z⟩ := a
  obtain ⟨x', y', z'⟩ := b
  obtain ⟨h1, h2, h3⟩ := h
  dsimp only at h1 h2 h3
  rw [h1, h2, h3], fun h => by subst h; exact ⟨rfl, rfl, rfl⟩⟩
def lk (n : Int) : List Nf → Option Fl
  | [] => none
  | x :: l => if x.1 = n then some x.2 else lk n l
def Kd (X : List Nf) : Prop := (X.map (·.1)).Nodup
theorem lk_some {n : Int} {f : Fl} : ∀ {X : List Nf}, lk n X = some f → (n, f) ∈ X
  | x :: l, h => by
    rw [lk] at h
    split at h
    · rename_i e; cases h; subst e; exact List.mem_cons_self ..
    · exact List.mem_cons_of_mem _ (lk_some h)
theorem lk_none {n : Int} : ∀ {X : List Nf}, lk n X = none ↔ ∀ x ∈ X, x.1 ≠ n
  | [] => by simp [lk]
  | x :: l => by
    rw [lk]
    split
    · rename_i e; simp [e]
    · rename_i e; simp [e, lk_none (X := l)]
theorem Kd.cons {x : Nf} {X : List Nf} (h : Kd (x :: X)) : Kd X ∧ ∀ y ∈ X, y.1 ≠ x.1 := by
  simp only [Kd, List.map_cons, List.nodup_cons, List.mem_map, not_exists, not_and] at h
  exact ⟨h.2, fun y hy e => h.1 y hy e⟩
theorem lk_mem {n : Int} {f : Fl} : ∀ {X : List Nf}, Kd X → (n, f) ∈ X → lk n X = some f
  | x :: l, hk, h => by
    obtain ⟨h1, h2⟩ := hk.cons
    rw [lk]
    rcases List.mem_cons.1 h with h | h
    · subst h; simp
    · rw [if_neg (fun e => h2 _ h e.symm)]; exact lk_mem h1 h
theorem Kd.perm {X Y : List Nf} (h : X.Perm Y) (hk : Kd X) : Kd Y := (h.map _).nodup_iff.1 hk
theorem lk_perm {X Y : List Nf} (h : X.Perm Y) (hk : Kd X) (n : Int) : lk n X = lk n Y := by
  cases hx : lk n X with
  | some f => exact (lk_mem (hk.perm h) (h.mem_iff.1 (lk_some hx))).symm
  | none => exact (lk_none.2 fun y hy => lk_none.1 hx y (h.mem_iff.2 hy)).symm

def rp (n : Int) (f : Fl) (X : List Nf) : List Nf := X.map fun x => if x.1 = n then (n, f) else x
theorem rp_keys (n : Int) (f : Fl) (X : List Nf) : (rp n f X).map (·.1) = X.map (·.1) := by
  rw [rp, List.map_map]
  apply List.map_congr_left
  intro x _
  simp only [Function.comp]
  split
  · rename_i e; exact e.symm
  · rfl
theorem rp_kd {n : Int} {f : Fl} {X : List Nf} (h : Kd X) : Kd (rp n f X) := by unfold Kd; rw [rp_keys]; exact h
theorem rp_perm {n : Int} {f : Fl} {X Y : List Nf} (h : X.Perm Y) : (rp n f X).Perm (rp n f Y) := h.map _
theorem lk_rp (m n : Int) (f : Fl) : ∀ X : List Nf, lk m (rp n f X) = if m = n then (lk n X).map (fun _ => f) else lk m X
  | [] => by simp [rp, lk]
  | x :: l => by
    have ih := lk_rp m n f l
    simp only [rp, List.map_cons] at ih ⊢
    by_cases e : x.1 = n
    · rw [if_pos e]
      by_cases hm : m = n
      · subst hm; simp [lk, e]
      · rw [if_neg hm] at ih
        have e1 : ¬ n = m := fun h => hm h.symm
        have e2 : ¬ x.1 = m := fun h => hm (h.symm.trans e)
        simp only [lk, if_neg hm, if_neg e1, if_neg e2, ih]
    · rw [if_neg e]
      by_cases hm : m = n
      · subst hm
        rw [if_pos rfl] at ih ⊢
        rw [lk, if_neg e, ih, lk, if_neg e]
      · rw [if_neg hm] at ih ⊢
        rw [lk, ih, lk]
theorem rp_mem {n : Int} {f : Fl} {X : List Nf} {x : Nf} (h : x ∈ rp n f X) : x = (n, f) ∧ (∃ g, (n, g) ∈ X) ∨ x ∈ X := by
  obtain ⟨y, hy, he⟩ := List.mem_map.1 h
  split at he
  · rename_i e
    exact .inl ⟨he.symm, y.2, by rw [← e]; exact hy⟩
  · exact .inr (he ▸ hy)

def ins (n : Int) (f : Fl) : List Nf → List Nf
  | [] => [(n, f)]
  | x :: l => if x.1 < n then x :: ins n f l else (n, f) :: x :: l
def Srt (X : List Nf) : Prop := X.Pairwise fun a b => a.1 < b.1
theorem ins_perm (n : Int) (f : Fl) : ∀ X : List Nf, (ins n f X).Perm ((n, f) :: X)
  | [] => .refl _
  | x :: l => by
    rw [ins]
    split
    · exact ((ins_perm n f l).cons x).trans (.swap ..)
    · exact .refl _
theorem ins_mem {n : Int} {f : Fl} {X : List Nf} {x : Nf} : x ∈ ins n f X ↔ x = (n, f) ∨ x ∈ X := by
  rw [(ins_perm n f X).mem_iff, List.mem_cons]
theorem ins_srt {n : Int} {f : Fl} : ∀ {X : List Nf}, Srt X → lk n X = none → Srt (ins n f X)
  | [], _, _ => by simp [Srt, ins]
  | x :: l, h, hn => by
    simp only [Srt, List.pairwise_cons] at h
    have hl := lk_none.1 hn
    rw [ins]
    split
    · rename_i hlt
      have := ins_srt (n := n) (f := f) (X := l) h.2 (lk_none.2 fun y hy => hl y (List.mem_cons_of_mem _ hy))
      simp only [Srt, List.pairwise_cons]
      refine ⟨fun y hy => ?_, this⟩
      rcases ins_mem.1 hy with rfl | hy
      · exact hlt
      · exact h.1 y hy
    · rename_i hge
      have hx := hl x (List.mem_cons_self ..)
      simp only [Srt, List.pairwise_cons]
      refine ⟨fun y hy => ?_, h.1, h.2⟩
      rcases List.mem_cons.1 hy with rfl | hy
      · show n < _; omega
      · have := h.1 y hy
        show n < _; omega
theorem Srt.kd {X : List Nf} (h : Srt X) : Kd X := by
  unfold Kd
  rw [List.Nodup, List.pairwise_map]
  exact h.imp fun hab e => by omega
def addE (X : List Nf) (n : Int) (f : Fl) : Int := if n < 0 ∨ 64 ≤ n then 1 else if goodF f.1 f.2 = false then 2 else if (lk n X).isSome then 10 else 0
def addX (X : List Nf) (n : Int) (f : Fl) : List Nf := if addE X n f = 0 then X ++ [(n, f)] else X
def doE (X : List Nf) (op fl rec : Int) : Int := if agood op fl rec = false then 1 else match lk fl X with | none => 3 | some f => mayF f.1 f.2 op rec
def doF (f : Fl) (op rec : Int) (v : Rc) : Fl := (f.1, doR f.2 op rec.toNat v)
def doW (X : List Nf) (op fl rec : Int) (v : Rc) : Rc := if doE X op fl rec = 0 then match lk fl X with | none => zr | some f => (doR f.2 op rec.toNat v).getD rec.toNat zr else zr
def doX (X : List Nf) (op fl rec : Int) (v : Rc) : List Nf := if doE X op fl rec = 0 then match lk fl X with | none => X | some f => rp fl (doF f op rec v) X else X
def doD (X : List Nf) (op fl rec : Int) (d : Int) : Int := if doE X op fl rec = 5 then IntKind.i64.wrap (d + 1) else d
def getW (X : List Nf) (n rec : Int) : Option Rc := (lk n X).bind fun f => if rec < 0 then none else f.2[rec.toNat]?
def setOk (X : List Nf) (n rec : Int) : Bool := (getW X n rec).isSome && decide (rec ≠ 0)
def setX (X : List Nf) (n rec : Int) (v : Rc) : List Nf := if setOk X n rec = true then match lk n X with | none => X | some f => rp n (f.1, f.2.set rec.toNat v) X else X

structure OkX (X : List Nf) : Prop where
  kd : Kd X
  ok : ∀ x ∈ X, (0 ≤ x.1 ∧ x.1 < 64) ∧ goodF x.2.1 x.2.2 = true ∧ ∀ r ∈ x.2.2, RcOk r
theorem OkX.nil : OkX [] := ⟨by simp [Kd], by simp⟩
theorem OkX.perm {X Y : List Nf} (h : OkX X) (hp : X.Perm Y) : OkX Y := ⟨h.kd.perm hp, fun x hx => h.ok x (hp.mem_iff.2 hx)⟩
theorem OkX.lk {X : List Nf} (h : OkX X) {n : Int} {f : Fl} (hf : lk n X = some f) : (0 ≤ n ∧ n < 64) ∧ goodF f.1 f.2 = true ∧ ∀ r ∈ f.2, RcOk r := h.ok _ (lk_some hf)
theorem goodF_len {p : Int} {R : List Rc} (h : goodF p R = true) : 1 ≤ R.length ∧ R.length ≤ 256 := by
  unfold goodF at h
  split at h
  · cases h
  · simp only [Bool.and_eq_true, decide_eq_true_eq] at h
    simp only [List.length_cons]; omega
theorem goodF_set {p : Int} {R : List Rc} {i : Nat} {v : Rc} (h : goodF p R = true) (hi : i ≠ 0) : goodF p (R.set i v) = true := by
  cases R with
  | nil => exact h
  | cons r l =>
    cases i with
    | zero => exact absurd rfl hi
    | succ i => simpa [goodF] using h
theorem OkX.rp {X : List Nf} (h : OkX X) {n : Int} {f g : Fl} (hf : Ifs.lk n X = some g) (hg : goodF f.1 f.2 = true) (hr : ∀ r ∈ f.2, RcOk r) : OkX (rp n f X) :=
  ⟨rp_kd h.kd, fun x hx => by
    rcases rp_mem hx with ⟨rfl, _⟩ | hx
    · exact ⟨(h.lk hf).1, hg, hr⟩
    · exact h.ok x hx⟩
theorem OkX.app {X : List Nf} (h : OkX X) {n : Int} {f : Fl} (hn : 0 ≤ n ∧ n < 64) (hf : Ifs.lk n X = none) (hg : goodF f.1 f.2 = true) (hr : ∀ r ∈ f.2, RcOk r) : OkX (X ++ [(n, f)]) :=
  OkX.perm (X := (n, f) :: X) ⟨by
    have := lk_none.1 hf
    simp only [Kd, List.map_cons, List.nodup_cons, List.mem_map, not_exists, not_and]
    exact ⟨fun x hx e => this x hx e, h.kd⟩, fun x hx => by
    rcases List.mem_cons.1 hx with rfl | hx
    · exact ⟨hn, hg, hr⟩
    · exact h.ok x hx⟩ (List.perm_append_singleton (n, f) X).symm
theorem OkX.add {X : List Nf} (h : OkX X) (n : Int) (f : Fl) (hr : ∀ r ∈ f.2, RcOk r) : OkX (addX X n f) := by
  unfold addX
  split
  · rename_i e
    unfold addE at e
    split at e
    · cases e
    split at e
    · cases e
    split at e
    · cases e
    rename_i h1 h2 h3
    exact h.app (by omega) (by simpa using h3) (by simpa using h2) hr
  · exact h
theorem OkX.set {X : List Nf} (h : OkX X) (n rec : Int) {v : Rc} (hv : RcOk v) : OkX (setX X n rec v) := by
  unfold setX
  split
  · rename_i e
    simp only [setOk, Bool.and_eq_true, decide_eq_true_eq] at e
    cases hl : Ifs.lk n X with
    | none => exact h
    | some f =>
      obtain ⟨_, h2, h3⟩ := h.lk hl
      have hr : rec.toNat ≠ 0 := by
        have := e.1
        simp only [getW, hl, Option.bind_some] at this
        split at this
        · cases this
        · omega
      refine h.rp hl (goodF_set h2 hr) fun r hr => ?_
      rcases List.mem_or_eq_of_mem_set hr with hr | hr
      · exact h3 r hr
      · subst hr; exact hv
  · exact h
end Go.Proofs.YtbhamhhjicehaaaGreatDoor.Ifs

/- From a call over the abstract heap to what a statement asks: true is handed back, the arguments read as_ they did. -/
namespace Go.AX
set_option linter.unusedSimpArgs false
set_option linter.unusedVariables false
open Go Go.RowKit Go.ChangeShapes Go.WideShapes Go.ChangeAt
section
variable {P : Program} {HT : Type} {enc : TypeId × Value → HT}

theorem trodAll_stays (hl : laidOutB P = true) {W W' : World} {sp : Nat → Bool} (hb : Below W.heap.size W W') : ∀ (ts : List TypeId) (vs : List Value) (ds : List (DataW HT)) (ps : List MemPlace),
    (ts.all fun t => P.readableRec t && decide (t < P.types.size)) = true → DataW.TrodAll enc P W 0 (fun _ => true) true ts vs ds ps → (∀ x ∈ ps, x.block < W.heap.size ∧ sp x.block = true) →
    DataW.TrodAll enc P W' 0 sp true ts vs ds ps
  | [], vs, ds, ps, _, h, _ => by
    obtain ⟨rfl, rfl, rfl⟩ := trodAll_nil h
    rfl
  | t :: ts, vs, ds, ps, hr, h, hp => by
    simp only [List.all_cons, Bool.and_eq_true, decide_eq_true_eq] at hr
    obtain ⟨v, vs', d, ds', p, q, rfl, rfl, rfl, h1, h2⟩ := trodAll_cons h
    refine ⟨p, q, WideElems.Trod_stays hl hr.1.1 hr.1.2 h1 (fun x hx => hb.same (hp x (by simp [hx])).1) (fun x hx => (hp x (by simp [hx])).2), ?_, rfl⟩
    exact trodAll_stays hl hb ts vs' ds' q (by simpa using hr.2) h2 (fun x hx => hp x (by simp [hx]))

theorem law_post {f : FuncId} {fn : Func} {s : ChangeSpec} {W : World} {args : Array Value} {ds gs : List (DataW HT)} {before : List MemPlace} {tb : TypeId}
    (hl : laidOutB P = true) (hps : (fn.params.toList.all fun t => P.readableRec t && decide (t < P.types.size)) = true) (hvars : s.vars = []) (hrt : fn.resultTypes = #[tb]) (hb : P.underlying tb = some .bool)
    (hW : DataW.Whole enc P fn.params.toList s.vars false W args.toList ds gs before)
    (hres : (s.fn HT (ds ++ gs)).results = [.lit (.bool true)]) (hargs : (s.fn HT (ds ++ gs)).args = ds) (hvs : (s.fn HT (ds ++ gs)).vars = [])
    (hc : ACalls P f args ⟨W, []⟩ (fun v H' => v = .bool true ∧ H'.w0 = W)) :
    Calls P f args W fun e W' => ∃ v, e = .returned v ∧ s.post enc P fn false true false false W args v W' := by
  refine (hc _ W (Sat.start W)).mono ?_
  rintro e W' ⟨v, H', rfl, hs, rfl, hw⟩
  have hbel : Below W.heap.size W W' := hw ▸ hs.below
  refine ⟨_, rfl, ?_⟩
  have hW0 := hW
  obtain ⟨p, q, hA, hV, rfl, _, _⟩ := hW
  have hq : q = [] := by
    rw [hvars] at hV
    cases gs with
    | nil => exact hV
    | cons g gs => exact hV.elim
  subst hq
  refine ⟨ds, gs, p ++ [], [], p, [], hW0, ?_, ?_, ?_, hbel.frame _, fun h => by cases h⟩
  · rw [hres, hrt]
    exact trodAll_mk1 (shut_bool hb true)
  · rw [hargs]
    exact trodAll_stays hl hbel _ _ _ _ hps hA (fun x hx => by
      have := hW0.lt x (by simp [hx])
      exact ⟨this, by simpa using this⟩)
  · rw [hvars, hvs]; rfl

theorem okw3 {W : World} {r : Reach} {b t0 t1 t2 : Nat} {v0 v1 v2 : Value} (h : ∀ (j : Nat) t v, (#[t0, t1, t2] : Array Nat)[j]? = some t → (#[v0, v1, v2] : Array Value)[j]? = some v → Value.okWide P W r b t v) :
    Value.okWide P W r b t0 v0 ∧ Value.okWide P W r b t1 v1 ∧ Value.okWide P W r b t2 v2 := ⟨h 0 t0 v0 rfl rfl, h 1 t1 v1 rfl rfl, h 2 t2 v2 rfl rfl⟩

def leafTs (P : Program) : Nat → TypeId → Option (List TypeId)
  | 0, _ => none
  | d + 1, t => match P.underlying t with
    | some (.struct fs) => fs.toList.foldl (fun acc f => acc.bind fun l => if l.length = f.offset then (leafTs P d f.type).bind fun m => if m.length = P.cellsOf f.type then some (l ++ m) else none else none) (some [])
    | some (.array n e) => (leafTs P d e).bind fun m => if m.length = P.cellsOf e then some (List.replicate n m).flatten else none
    | some _ => if P.cellsOf t = 1 then some [t] else none
    | none => none

def Leafy (enc : TypeId × Value → HT) (P : Program) (w : World) (base : Nat) (sp : Nat → Bool) (held : Bool) (ts : List TypeId) (cs : List Value) : Prop :=
  ∀ (i : Nat) (t : TypeId) (c : Value), ts[i]? = some t → cs[i]? = some c → ∃ n y, DataW.trod enc P w base sp held n t [c] = some y

theorem leafy_struct {w : World} {base : Nat} {sp : Nat → Bool} {held : Bool} {d n : Nat} {cs : List Value}
    (ih : ∀ t cs ts x, leafTs P d t = some ts → DataW.trod enc P w base sp held n t cs = some x → cs.length = P.cellsOf t → ts.length = P.cellsOf t → Leafy enc P w base sp held ts cs) :
    ∀ (fs : List Field) (l ts : List TypeId), (∀ f ∈ fs, ∃ x, DataW.trod enc P w base sp held n f.type ((cs.drop f.offset).take (P.cellsOf f.type)) = some x) →
      Leafy enc P w base sp held l cs → fs.foldl (fun acc f => acc.bind fun l => if l.length = f.offset then (leafTs P d f.type).bind fun m => if m.length = P.cellsOf f.type then some (l ++ m) else none else none) (some l) = some ts →
      ts.length ≤ cs.length → Leafy enc P w base sp held ts cs
  | [], l, ts, _, hl, h, _ => by
    simp only [List.foldl_nil, Option.some.injEq] at h; subst h; exact hl
  | f :: fs, l, ts, hf, hl, h, hle => by
    simp only [List.foldl_cons, Option.bind_some] at h
    have none_fold : ∀ (fs : List Field), fs.foldl (fun acc f => acc.bind fun l => if l.length = f.offset then (leafTs P d f.type).bind fun m => if m.length = P.cellsOf f.type then some (l ++ m) else none else none) (none : Option (List TypeId)) = none := by
      intro fs; induction fs with
      | nil => rfl
      | cons f fs ih => simpa using ih
    have len_fold : ∀ (fs : List Field) (l ts : List TypeId), fs.foldl (fun acc f => acc.bind fun l => if l.length = f.offset then (leafTs P d f.type).bind fun m => if m.length = P.cellsOf f.type then some (l ++ m) else none else none) (some l) = some ts → l.length ≤ ts.length := by
      intro fs; induction fs with
      | nil => intro l ts h; simp only [List.foldl_nil, Option.some.injEq] at h; subst h; exact Nat.le_refl _
      | cons f fs ih =>
        intro l ts h
        simp only [List.foldl_cons, Option.bind_some] at h
        split at h
        · cases hm : leafTs P d f.type with
          | none => rw [hm] at h; simp only [Option.bind_none] at h; rw [none_fold] at h; cases h
          | some m =>
            rw [hm] at h
            simp only [Option.bind_some] at h
            split at h
            · have := ih _ _ h; simp at this; omega
            · rw [none_fold] at h; cases h
        · rw [none_fold] at h; cases h
    split at h
    · rename_i ho
      cases hm : leafTs P d f.type with
      | none => rw [hm] at h; simp only [Option.bind_none] at h; rw [none_fold] at h; cases h
      | some m =>
        rw [hm] at h
        simp only [Option.bind_some] at h
        split at h
        · rename_i hml
          have hlen := len_fold _ _ _ h
          simp only [List.length_append] at hlen
          refine leafy_struct ih fs (l ++ m) ts (fun g hg => hf g (by simp [hg])) ?_ h hle
          obtain ⟨x, hx⟩ := hf f (by simp)
          have h1 := ih f.type _ m x hm hx (by simp; omega) hml
          intro i t c ht hc
          by_cases hi : i < l.length
          · rw [List.getElem?_append_left hi] at ht; exact hl i t c ht hc
          · rw [List.getElem?_append_right (by omega)] at ht
            have hi2 : i - l.length < m.length := by
              rcases Nat.lt_or_ge (i - l.length) m.length with h | h
              · exact h
              · rw [List.getElem?_eq_none h] at ht; cases ht
            refine h1 (i - l.length) t c ht ?_
            rw [List.getElem?_take, if_pos (by omega), List.getElem?_drop, show f.offset + (i - l.length) = i from by omega]
            exact hc
        · rw [none_fold] at h; cases h
    · rw [none_fold] at h; cases h

theorem leafy {w : World} {base : Nat} {sp : Nat → Bool} {held : Bool} : ∀ (n d : Nat) (t : TypeId) (cs : List Value) (ts : List TypeId) (x : DataW HT × List MemPlace), leafTs P d t = some ts → DataW.trod enc P w base sp held n t cs = some x →
    cs.length = P.cellsOf t → ts.length = P.cellsOf t → Leafy enc P w base sp held ts cs
  | n, 0, t, cs, ts, x, h, _, _, _ => by cases h
  | 0, d + 1, t, cs, ts, x, _, hx, _, _ => by simp [DataW.trod] at hx
  | n + 1, d + 1, t, cs, ts, x, h, hx, hl, hlt => by
    simp only [leafTs] at h
    split at h
    · rename_i fs hu
      obtain ⟨xs, n', hn, _, _, hxl, hf⟩ := DataW.trod_struct hu hx
      have hn' : n' = n := by omega
      subst hn'
      refine leafy_struct (fun t cs ts x h1 h2 h3 h4 => leafy n' d t cs ts x h1 h2 h3 h4) fs.toList [] ts (fun f hf' => ?_) (fun i t c h => by simp at h) h (by omega)
      obtain ⟨i, hi⟩ := List.mem_iff_getElem?.1 hf'
      have hi' : fs[i]? = some f := by simpa using hi
      have hlt : i < xs.length := by
        rw [hxl]
        rcases Nat.lt_or_ge i fs.size with h | h
        · exact h
        · rw [Array.getElem?_eq_none h] at hi'; cases hi'
      exact ⟨xs[i], by rw [hf i f hi']; exact List.getElem?_eq_getElem hlt⟩
    · rename_i m e hu
      obtain ⟨l, hle, h⟩ := Option.bind_eq_some_iff.1 h
      split at h
      · rename_i hll
        cases h
        unfold DataW.trod at hx
        simp only [hu] at hx
        rw [if_pos hl] at hx
        obtain ⟨xs, hxs, _⟩ := Option.map_eq_some_iff.1 hx
        have hel : ∀ j, j < m → ∃ y, DataW.trod enc P w base sp held n e ((cs.drop (j * P.cellsOf e)).take (P.cellsOf e)) = some y := fun j hj => by
          have hl' := mapM_some_length hxs
          have hg := mapM_some_get hxs j j (by simp [hj])
          have hlt : j < xs.length := by rw [hl']; simpa using hj
          exact ⟨xs[j], by rw [hg]; exact List.getElem?_eq_getElem hlt⟩
        intro i t c ht hc
        have hflat : ∀ (m i : Nat) (t : TypeId), (List.replicate m l).flatten[i]? = some t → ∃ j k, j < m ∧ k < l.length ∧ i = j * l.length + k ∧ l[k]? = some t := by
          intro m
          induction m with
          | zero => intro i t h; simp at h
          | succ m ih =>
            intro i t h
            rw [List.replicate_succ, List.flatten_cons] at h
            by_cases hi : i < l.length
            · rw [List.getElem?_append_left hi] at h; exact ⟨0, i, by omega, hi, by simp, h⟩
            · rw [List.getElem?_append_right (by omega)] at h
              obtain ⟨j, k, h1, h2, h3, h4⟩ := ih _ _ h
              exact ⟨j + 1, k, by omega, h2, by rw [Nat.succ_mul]; omega, h4⟩
        obtain ⟨j, k, h1, h2, h3, h4⟩ := hflat m i t ht
        obtain ⟨y, hy⟩ := hel j h1
        have hlen : (List.replicate m l).flatten.length = m * l.length := by simp
        have hle2 : (j + 1) * l.length ≤ m * l.length := Nat.mul_le_mul_right _ (by omega)
        rw [Nat.succ_mul] at hle2
        have hcs : cs.length = m * l.length := by rw [hl, ← hlt, hlen]
        refine leafy n d e _ l y hle hy (by rw [List.length_take, List.length_drop, ← hll]; omega) hll k t c h4 ?_
        rw [List.getElem?_take, if_pos (by omega), List.getElem?_drop, ← hll, ← h3]; exact hc
      · cases h
    · rename_i u hns hna hu
      split at h
      · rename_i h1
        cases h
        intro i t' c ht hc
        have hi : i = 0 := by
          rcases i with _ | i
          · rfl
          · simp at ht
        subst hi
        simp at ht; subst ht
        rw [h1] at hl
        match cs, hl with
        | [c0], _ => simp at hc; subst hc; exact ⟨_, _, hx⟩
      · cases h
    · cases h

theorem open_slcC {w : World} {r : Reach} {b0 t e sz : Nat} {v : Value} {y : DataW HT × List MemPlace} {sp : Nat → Bool} {held : Bool} {ts : List TypeId} (hu : P.underlying t = some (.slice e)) (hz : P.cellsOf e = sz) (h0 : sz ≠ 0)
    (hl : leafTs P 20 e = some ts) (hts : ts.length = sz) (h1 : Cell.okWide P w r b0 t v) (h : ∃ fuel, DataW.trod enc P w 0 sp held fuel t [v] = some y) :
    ∃ base n cap R, v = .slice base n cap ∧ R.length = n ∧ SlcIn ⟨w, []⟩ sz base cap R ∧ ∀ (i : Nat) (r : List Value), R[i]? = some r → r.length = sz ∧ Leafy enc P w 0 sp held ts r := by
  obtain ⟨d, ps⟩ := y
  have hc : Cell.ok P w r b0 t v := by
    unfold Cell.okWide at h1
    rw [hu] at h1
    exact h1
  have hform : v = .slice none 0 0 ∨ ∃ a len cap, v = .slice (some a) len cap ∧ a.spot = none ∧ (cap : Int) ≤ IntKind.i64.max ∧ ∃ s, w.shape? a.block = some s := by
    unfold Cell.ok at hc
    rw [hu] at hc
    split at hc <;> simp_all [World.has]
    obtain ⟨q1, q2, q3, q4, row, cells, q5, q6⟩ := hc
    exact ⟨_, _, _, ⟨rfl, rfl, rfl⟩, q4, q2, _, _, q5⟩
  obtain ⟨fuel, h⟩ := h
  rcases hform with rfl | ⟨a, len, cap, rfl, hsp, hcap, shp, hshp⟩
  · exact ⟨none, 0, 0, [], rfl, rfl, ⟨by simp, by simp, fun i hi => by simp at hi, fun b o hb => (by cases hb), fun b o hb => (by cases hb)⟩, fun i r hr => by simp at hr⟩
  · rcases Go.Deep.open_slice hu h with ⟨h1, _⟩ | ⟨a', len', cap', m, n, D, Pl, h1, hb, hle, hm, hmm, _, hx⟩
    · have h2 : (Value.slice (some a) len cap) = .slice none 0 0 := by
        have : [Value.slice (some a) len cap] = [.slice none 0 0] := h1
        simp at this
      cases h2
    · have h2 : (Value.slice (some a) len cap) = .slice (some a') len' cap' := by
        have : [Value.slice (some a) len cap] = [.slice (some a') len' cap'] := h1
        simpa using this
      cases h2
      obtain ⟨b, o, spot⟩ := a
      simp only at hsp
      subst hsp
      have hlm : len ≤ m := by rw [hmm]; split <;> omega
      obtain ⟨f, hf⟩ := Go.Deep.choose_lt (n := len) (p := fun i cs' => w.cells? 0 ((⟨b, o, none⟩ : Addr).add (i * P.cellsOf e)) (P.cellsOf e) = some cs' ∧ ∃ x, DataW.trod enc P w 0 sp held n e cs' = some x)
        (fun i hi => by obtain ⟨cs', h3, h4⟩ := hx i (by omega); exact ⟨cs', h3, _, h4⟩)
      have hcell : ∀ i, i < len → (f i).length = sz ∧ ∀ j, j < sz → w.cell? ⟨b, o + (i * sz + j), none⟩ = (f i)[j]? := fun i hi => by
        obtain ⟨h3, _⟩ := hf i hi
        rw [hz] at h3
        obtain ⟨_, hlen, hcell⟩ := World.cells?_some h3
        refine ⟨hlen, fun j hj => ?_⟩
        have := hcell j hj
        rw [Go.Deep.add_add, Go.AX.add_plain] at this
        exact this
      have hrow : ∀ (i : Nat) (r : List Value), ((List.range len).map f)[i]? = some r → i < len ∧ r = f i := fun i r hr => by
        rw [List.getElem?_map] at hr
        obtain ⟨j, hj, rfl⟩ := Option.map_eq_some_iff.1 hr
        have hi : i < len := by
          rcases Nat.lt_or_ge i len with h | h
          · exact h
          · rw [List.getElem?_eq_none (by simpa using h)] at hj; cases hj
        rw [List.getElem?_range hi] at hj
        cases hj; exact ⟨hi, rfl⟩
      have hlt : ∀ {off : Nat} {c : Value}, w.cell? ⟨b, off, none⟩ = some c → b < w.heap.size := fun {off c} hcc => by
        unfold World.cell? at hcc
        rcases Nat.lt_or_ge b w.heap.size with h | h
        · exact h
        · simp only at hcc; rw [Array.getElem?_eq_none h] at hcc; cases hcc
      refine ⟨some ⟨b, o, none⟩, len, cap, (List.range len).map f, rfl, by simp, ⟨by simpa using hle, by simp [IntKind.max, IntKind.signed, IntKind.bits] at hcap ⊢; omega, fun _ _ => ⟨b, o, rfl⟩, ?_, ?_⟩, ?_⟩
      · intro b' o' hb' i j r c hr hc
        cases hb'
        obtain ⟨hi, rfl⟩ := hrow i r hr
        obtain ⟨q1, q2⟩ := hcell i hi
        have hj : j < sz := by
          rw [← q1]
          rcases Nat.lt_or_ge j (f i).length with h | h
          · exact h
          · rw [List.getElem?_eq_none h] at hc; cases hc
        have := q2 j hj
        rw [hc] at this
        show (if b < w.heap.size then w.cell? ⟨b, o + (i * sz + j), none⟩ else none) = some c
        rw [if_pos (hlt this)]; exact this
      · intro b' o' hb' i r hr
        cases hb'
        obtain ⟨hi, rfl⟩ := hrow i r hr
        obtain ⟨q1, q2⟩ := hcell i hi
        have hbr := baseRow_of (w := w) (b := b) (f i) (o + i * sz) (fun j hj => by rw [show o + i * sz + j = o + (i * sz + j) from by omega]; exact q2 j (by omega))
        have h00 := q2 0 (by omega)
        have hb2 : b < w.heap.size := hlt (h00.trans (List.getElem?_eq_getElem (by omega)))
        show (if b < w.heap.size then baseRow w b (o + i * sz) sz else none) = some (f i)
        rw [if_pos hb2]
        rw [q1] at hbr; exact hbr
      · intro i r hr
        obtain ⟨hi, rfl⟩ := hrow i r hr
        obtain ⟨q1, q2⟩ := hcell i hi
        obtain ⟨_, x, hx'⟩ := hf i hi
        exact ⟨q1, leafy n 20 e (f i) ts x hl hx' (by rw [q1, hz]) (by rw [hts, hz])⟩
theorem open_slcT {w : World} {t e sz : Nat} {v : Value} {y : DataW HT × List MemPlace} {sp : Nat → Bool} {held : Bool} {ts : List TypeId} (hu : P.underlying t = some (.slice e)) (hz : P.cellsOf e = sz) (h0 : sz ≠ 0)
    (hl : leafTs P 20 e = some ts) (hts : ts.length = sz) (h : ∃ fuel, DataW.trod enc P w 0 sp held fuel t [v] = some y) :
    ∃ base n cap R, v = .slice base n cap ∧ R.length = n ∧ SlcIn ⟨w, []⟩ sz base cap R ∧ ∀ (i : Nat) (r : List Value), R[i]? = some r → r.length = sz ∧ Leafy enc P w 0 sp held ts r := by
  obtain ⟨d, ps⟩ := y
  obtain ⟨fuel, h⟩ := h
  rcases Go.Deep.open_slice hu h with ⟨h1, _⟩ | ⟨a, len, cap, m, n, D, Pl, h1, hb, hle, hm, hmm, _, hx⟩
  · cases h1
    exact ⟨none, 0, 0, [], rfl, rfl, ⟨by simp, by simp, fun i hi => by simp at hi, fun b o hb => (by cases hb), fun b o hb => (by cases hb)⟩, fun i r hr => by simp at hr⟩
  · cases h1
    have hcap : cap < 9223372036854775808 := by
      have : maxLen < 9223372036854775808 := by decide
      omega
    by_cases hlen : len = 0
    · subst hlen
      exact ⟨some a, 0, cap, [], rfl, rfl, ⟨by simp, by simp, fun i hi => by simp at hi, fun b o _ i j r c h1 _ => by simp at h1, fun b o _ i r h1 => by simp at h1⟩, fun i r hr => by simp at hr⟩
    · obtain ⟨b, o, spot⟩ := a
      have hsp : spot = none := by
        obtain ⟨cs', h3, _⟩ := hx 0 (by rw [hmm]; split <;> omega)
        rw [hz] at h3
        obtain ⟨_, hlen', hcell⟩ := World.cells?_some h3
        have h4 := hcell 0 (by omega)
        cases spot with
        | none => rfl
        | some q =>
          rw [List.getElem?_eq_getElem (by omega)] at h4
          simp only [Nat.zero_mul] at h4
          unfold World.cell? at h4
          split at h4
          · have : ((Addr.add (Addr.add ⟨b, o, some q⟩ 0) 0).spot.isSome) = true := rfl
            rw [this] at h4; simp at h4
          · cases h4
      subst hsp
      have hlm : len ≤ m := by rw [hmm]; split <;> omega
      obtain ⟨f, hf⟩ := Go.Deep.choose_lt (n := len) (p := fun i cs' => w.cells? 0 ((⟨b, o, none⟩ : Addr).add (i * P.cellsOf e)) (P.cellsOf e) = some cs' ∧ ∃ x, DataW.trod enc P w 0 sp held n e cs' = some x)
        (fun i hi => by obtain ⟨cs', h3, h4⟩ := hx i (by omega); exact ⟨cs', h3, _, h4⟩)
      have hcell : ∀ i, i < len → (f i).length = sz ∧ ∀ j, j < sz → w.cell? ⟨b, o + (i * sz + j), none⟩ = (f i)[j]? := fun i hi => by
        obtain ⟨h3, _⟩ := hf i hi
        rw [hz] at h3
        obtain ⟨_, hlen, hcell⟩ := World.cells?_some h3
        refine ⟨hlen, fun j hj => ?_⟩
        have := hcell j hj
        rw [Go.Deep.add_add, Go.AX.add_plain] at this
        exact this
      have hrow : ∀ (i : Nat) (r : List Value), ((List.range len).map f)[i]? = some r → i < len ∧ r = f i := fun i r hr => by
        rw [List.getElem?_map] at hr
        obtain ⟨j, hj, rfl⟩ := Option.map_eq_some_iff.1 hr
        have hi : i < len := by
          rcases Nat.lt_or_ge i len with h | h
          · exact h
          · rw [List.getElem?_eq_none (by simpa using h)] at hj; cases hj
        rw [List.getElem?_range hi] at hj
        cases hj; exact ⟨hi, rfl⟩
      have hlt : ∀ {off : Nat} {c : Value}, w.cell? ⟨b, off, none⟩ = some c → b < w.heap.size := fun {off c} hcc => by
        unfold World.cell? at hcc
        rcases Nat.lt_or_ge b w.heap.size with h | h
        · exact h
        · simp only at hcc; rw [Array.getElem?_eq_none h] at hcc; cases hcc
      refine ⟨some ⟨b, o, none⟩, len, cap, (List.range len).map f, rfl, by simp, ⟨by simpa using hle, by simp only [List.length_map, List.length_range]; omega, fun _ _ => ⟨b, o, rfl⟩, ?_, ?_⟩, ?_⟩
      · intro b' o' hb' i j r c hr hc
        cases hb'
        obtain ⟨hi, rfl⟩ := hrow i r hr
        obtain ⟨q1, q2⟩ := hcell i hi
        have hj : j < sz := by
          rw [← q1]
          rcases Nat.lt_or_ge j (f i).length with h | h
          · exact h
          · rw [List.getElem?_eq_none h] at hc; cases hc
        have := q2 j hj
        rw [hc] at this
        show (if b < w.heap.size then w.cell? ⟨b, o + (i * sz + j), none⟩ else none) = some c
        rw [if_pos (hlt this)]; exact this
      · intro b' o' hb' i r hr
        cases hb'
        obtain ⟨hi, rfl⟩ := hrow i r hr
        obtain ⟨q1, q2⟩ := hcell i hi
        have hbr := baseRow_of (w := w) (b := b) (f i) (o + i * sz) (fun j hj => by rw [show o + i * sz + j = o + (i * sz + j) from by omega]; exact q2 j (by omega))
        have h00 := q2 0 (by omega)
        have hb2 : b < w.heap.size := hlt (h00.trans (List.getElem?_eq_getElem (by omega)))
        show (if b < w.heap.size then baseRow w b (o + i * sz) sz else none) = some (f i)
        rw [if_pos hb2]
        rw [q1] at hbr; exact hbr
      · intro i r hr
        obtain ⟨hi, rfl⟩ := hrow i r hr
        obtain ⟨q1, q2⟩ := hcell i hi
        obtain ⟨_, x, hx'⟩ := hf i hi
        exact ⟨q1, leafy n 20 e (f i) ts x hl hx' (by rw [q1, hz]) (by rw [hts, hz])⟩
theorem cell_slc {w : World} {r : Reach} {b0 t e : Nat} {v : Value} (hu : P.underlying t = some (.slice e)) (hv : Value.okWide P w r b0 t v) : Cell.okWide P w r b0 t v := by
  simp only [Value.okWide, hu] at hv
  exact hv
theorem cells_slc {w : World} {r : Reach} {b0 t e : Nat} {v : Value} (hu : P.underlying t = some (.slice e)) (hv : Cell.okWide P w r b0 t v) : v.cells.toList = [v] := by
  unfold Cell.okWide at hv
  rw [hu] at hv
  unfold Cell.ok at hv
  rw [hu] at hv
  cases v <;> first | rfl | simp at hv
theorem open_slc {w : World} {r : Reach} {b0 t e sz : Nat} {v : Value} {d : DataW HT} {ps : List MemPlace} {sp : Nat → Bool} {held : Bool} {ts : List TypeId} (hu : P.underlying t = some (.slice e)) (hz : P.cellsOf e = sz) (h0 : sz ≠ 0)
    (hl : leafTs P 20 e = some ts) (hts : ts.length = sz) (hv : Value.okWide P w r b0 t v) (h : DataW.Trod enc P w 0 sp held t v d ps) :
    ∃ base n cap R, v = .slice base n cap ∧ R.length = n ∧ SlcIn ⟨w, []⟩ sz base cap R ∧ ∀ (i : Nat) (r : List Value), R[i]? = some r → r.length = sz ∧ Leafy enc P w 0 sp held ts r := by
  obtain ⟨fuel, h⟩ := h
  rw [cells_slc hu (cell_slc hu hv)] at h
  exact open_slcC hu hz h0 hl hts (cell_slc hu hv) ⟨fuel, h⟩
theorem list2 {α : Type} {l : List α} (h : l.length = 2) : ∃ x0 x1, l = [x0, x1] := by
  match l, h with
  | [x0, x1], _ => exact ⟨x0, x1, rfl⟩
theorem list3 {α : Type} {l : List α} (h : l.length = 3) : ∃ x0 x1 x2, l = [x0, x1, x2] := by
  match l, h with
  | [x0, x1, x2], _ => exact ⟨x0, x1, x2, rfl⟩
theorem list4 {α : Type} {l : List α} (h : l.length = 4) : ∃ x0 x1 x2 x3, l = [x0, x1, x2, x3] := by
  match l, h with
  | [x0, x1, x2, x3], _ => exact ⟨x0, x1, x2, x3, rfl⟩
theorem list5 {α : Type} {l : List α} (h : l.length = 5) : ∃ x0 x1 x2 x3 x4, l = [x0, x1, x2, x3, x4] := by
  match l, h with
  | [x0, x1, x2, x3, x4], _ => exact ⟨x0, x1, x2, x3, x4, rfl⟩

end
end Go.AX

/- Slices among the arguments with the bound on their weights. -/
namespace Go.AX
set_option linter.unusedSimpArgs false
set_option linter.unusedVariables false
open Go Go.Proofs Go.ChangeShapes Go.WideShapes Go.ChangeAt
variable {HT : Type} {enc : TypeId × Value → HT} {P : Program}

end Go.AX

/- The engine: ranges over maps of our own; what is known is made less behind a piece of code. -/
namespace Go.AX
set_option linter.unusedSimpArgs false
set_option linter.unusedVariables false
open Go Go.RowKit

def Imp (H H' : AH) : Prop := ∀ E w, Sat E H w → Sat E H' w
theorem Imp.refl (H : AH) : Imp H H := fun _ _ h => h
theorem Imp.trans {A B C : AH} (h : Imp A B) (k : Imp B C) : Imp A C := fun E w hs => k E w (h E w hs)
theorem Imp.of_le {H H' : AH} (h : H'.le H) : Imp H H' := fun _ _ hs => hs.mono h
theorem AWp.imp {P : Program} {n : Nat} {c : Code} {Q : Exit → Fr → AH → Prop} {fr : Fr} {H : AH} (h : AWp P n c (fun e fr H => ∃ H', Imp H H' ∧ Q e fr H') fr H) : AWp P n c Q fr H :=
  fun E a w hf hs => wp_mono (h E a w hf hs) fun _ _ _ ⟨fr, H, h1, h2, H', h3, h4⟩ => ⟨fr, H', h1, h3 _ _ h2, h4⟩
theorem ACalls.imp {P : Program} {f : FuncId} {args : Array Value} {H : AH} {K : Value → AH → Prop} (h : ACalls P f args H (fun v H' => ∃ H2, Imp H' H2 ∧ K v H2)) : ACalls P f args H K :=
  fun E w hs => (h E w hs).mono fun e w' ⟨v, H', h1, h2, H2, h3, h4⟩ => ⟨v, H2, h1, h3 _ _ h2, h4⟩

theorem Sat.exact {E : Nat → Option Obj} {H : AH} {w : World} {m : Nat} {es : List (Value × Value)} (h : Sat E H w) (hf : H.find m = some (.amap es)) : ∃ en cl, MapIs es en cl ∧ Sat E (H.set m (.obj (.map en cl))) w := by
  obtain ⟨h1, h2, en, cl, ha, h3, h4⟩ := h.known _ _ hf
  refine ⟨en, cl, ⟨h3, h4⟩, h.below, fun b k hk => ?_, fun b o ho => ?_⟩
  · rw [find_set] at hk
    split at hk
    · rename_i e; subst e; cases hk; exact ⟨h1, h2, ha, rfl⟩
    · exact h.known _ _ hk
  · obtain ⟨q1, q2, q3⟩ := h.far b o ho
    refine ⟨q1, ?_, q3⟩
    rw [find_set, if_neg (fun e => by subst e; rw [hf] at q2; cases q2)]; exact q2
theorem Imp.amap {H H' : AH} {m : Nat} {es : List (Value × Value)} {en : Array MapEntry} {cl : Nat} (hf : H.find m = some (.obj (.map en cl))) (hm : MapIs es en cl) (hw : H'.w0 = H.w0)
    (ha : ∀ b k, H'.find b = some k → b ≠ m → H.find b = some k) (hb : ∀ k, H'.find m = some k → k = .amap es) : Imp H H' := fun E w h => by
  refine ⟨hw ▸ h.below, fun b k hk => ?_, fun b o ho => ?_⟩
  · by_cases e : b = m
    · subst e
      obtain rfl := hb k hk
      obtain ⟨h1, h2, h3, _⟩ := h.known _ _ hf
      exact ⟨hw ▸ h1, h2, en, cl, h3, hm.1, hm.2⟩
    · exact hw ▸ h.known b k (ha b k hk e)
  · obtain ⟨q1, q2, q3⟩ := h.far b o ho
    refine ⟨hw ▸ q1, ?_, q3⟩
    cases hk : H'.find b with
    | none => rfl
    | some k =>
      by_cases e : b = m
      · subst e; rw [hf] at q2; cases q2
      · rw [ha b k hk e] at q2; cases q2

section
variable {P : Program} {H : AH} {n d : Nat} {ds : List (Option Tmp)} {fr : Fr} {K : Fr → AH → Prop} {q : Bool} {ty : TypeId} {pos : String} {af : Array Edge} {rest : List Oper}
def RNG (P : Program) (t : TypeId) (x : Value) (H : AH) (k : Value → AH → Prop) (_t : Lk (k, H) := .mk) : Prop := ASem P (do pure (.value (← Instr.range t x))) H k
def NXT (P : Program) (it : Value) (b : Bool) (ty : TypeId) (H : AH) (k : Value → AH → Prop) (_t : Lk (k, H) := .mk) : Prop := ASem P (do pure (.value (← Instr.next it b ty))) H k
theorem T_range {t : TypeId} {x : Operand} : vops q P n ds (⟨(some d), .range t x, ty, pos, af, none⟩ :: rest) fr H K = (d < n ∧ q = false ∧ wv fr x fun x => RNG P t x H fun v H' => vops q P n ds rest ((d, v) :: fr) H' K) := by
  rw [← dok_some]
  apply propext
  constructor
  · rintro ⟨h1, h2, _, h3, h4⟩
    exact ⟨h1, h3, by simpa [Op.operands] using h2, h4⟩
  · rintro ⟨h1, h2, h3, h4⟩
    exact ⟨h1, by simpa [Op.operands] using h3, rfl, h2, h4⟩
theorem T_next {x : Operand} {b : Bool} : vops q P n ds (⟨(some d), .next x b, ty, pos, af, none⟩ :: rest) fr H K = (d < n ∧ q = false ∧ wv fr x fun x => NXT P x b ty H fun v H' => vops q P n ds rest ((d, v) :: fr) H' K) := by
  rw [← dok_some]
  apply propext
  constructor
  · rintro ⟨h1, h2, _, h3, h4⟩
    exact ⟨h1, h3, by simpa [Op.operands] using h2, h4⟩
  · rintro ⟨h1, h2, h3, h4⟩
    exact ⟨h1, by simpa [Op.operands] using h3, rfl, h2, h4⟩
def ENT (P : Program) (it : Value) (H : AH) (k : Value → AH → Prop) (_t : Lk (k, H) := .mk) : Prop := ASem P (do pure (.value (← Instr.entry it))) H k
theorem T_entry {x : Operand} : vops q P n ds (⟨(some d), .entry x, ty, pos, af, none⟩ :: rest) fr H K = (d < n ∧ q = false ∧ wv fr x fun x => ENT P x H fun v H' => vops q P n ds rest ((d, v) :: fr) H' K) := by
  rw [← dok_some]
  apply propext
  constructor
  · rintro ⟨h1, h2, _, h3, h4⟩
    exact ⟨h1, h3, by simpa [Op.operands] using h2, h4⟩
  · rintro ⟨h1, h2, h3, h4⟩
    exact ⟨h1, by simpa [Op.operands] using h3, rfl, h2, h4⟩
end
attribute [go_sem ↓] T_range T_next T_entry

theorem RNG.map {P : Program} {H : AH} {t kt et m : Nat} {es : List (Value × Value)} {k : Value → AH → Prop} (hu : P.underlying t = some (.map kt et)) (hf : H.find m = some (.amap es))
    (hk : ∀ en cl, MapIs es en cl → AllB (H.set m (.obj (.map en cl))) fun b => k (.pointer (some ⟨b, 0, none⟩)) ((H.set m (.obj (.map en cl))).add b (.obj (.mapIter (some m) cl #[] cl)))) : RNG P t (.map (some m)) H k :=
  fun E w hs => by
    obtain ⟨en, cl, hm, hs'⟩ := hs.exact hf
    have := hk en cl hm
    refine ASem.of_arun (H := H.set m (.obj (.map en cl))) (K := k) ?_ E w hs'
    rw [arun_bind]
    unfold Instr.range
    refine arun_qbind ((qrun_underlying t).trans hu) ?_
    simp only [getObj, arun_bind, arun, find_set, if_true, newObj]
    exact this

def left (en : Array MapEntry) (D : List MapEntry) : List MapEntry := en.toList.filter fun e => !(D.map (·.born)).contains e.born

theorem nodup_born {l : List MapEntry} (h : (l.map (·.born)).Nodup) {a b : MapEntry} (ha : a ∈ l) (hb : b ∈ l) (e : a.born = b.born) : a = b := by
  induction l with
  | nil => cases ha
  | cons x l ih =>
    simp only [List.map_cons, List.nodup_cons, List.mem_map, not_exists, not_and] at h
    rcases List.mem_cons.1 ha with ha1 | ha1
    · rcases List.mem_cons.1 hb with hb1 | hb1
      · rw [ha1, hb1]
      · exact absurd (ha1 ▸ e).symm (h.1 b hb1)
    · rcases List.mem_cons.1 hb with hb1 | hb1
      · exact absurd (hb1 ▸ e) (h.1 a ha1)
      · exact ih h.2 ha1 hb1

theorem NXT.map {P : Program} {H : AH} {ty i m cl : Nat} {en : Array MapEntry} {D : List MapEntry} {k : Value → AH → Prop} (hi : H.find i = some (.obj (.mapIter (some m) cl (D.map (·.born)).toArray cl))) (hm : H.find m = some (.obj (.map en cl)))
    (hb : BornOk en cl) (h0 : left en D = [] → k (.tuple #[.bool false]) H)
    (h1 : ∀ e ∈ left en D, k (.tuple #[.bool true, e.key, e.val]) (H.set i (.obj (.mapIter (some m) cl ((D ++ [e]).map (·.born)).toArray cl)))) : NXT P (.pointer (some ⟨i, 0, none⟩)) false ty H k := by
  refine ASem.of_arun ?_
  rw [arun_bind]
  unfold Instr.next
  simp only [getObj, arun_bind, arun, hi, hm]
  have c1 : (!((D.map (·.born)).toArray).isEmpty && !en.isEmpty && en.all fun e => decide (e.born ≥ cl)) = false := by
    cases hen : en.isEmpty with
    | true => simp
    | false =>
      have hne : en.toList ≠ [] := fun h => by simp [Array.isEmpty, Array.toList_eq_nil_iff.1 h] at hen
      obtain ⟨x, hx⟩ := List.exists_mem_of_ne_nil _ hne
      have : (en.all fun e => decide (e.born ≥ cl)) = false := by
        rw [Array.all_eq_false]
        obtain ⟨j, hj, he⟩ := List.mem_iff_getElem.1 hx
        refine ⟨j, by simpa using hj, ?_⟩
        have := hb.1 x hx
        have he' : en[j]'(by simpa using hj) = x := by rw [← he]; simp
        rw [he']; simp; omega
      rw [this]; simp
  rw [if_neg (by rw [c1]; decide)]
  have hl : (en.filter fun e => !((D.map (·.born)).toArray).contains e.born) = (left en D).toArray := by
    apply Array.ext'
    simp [left]
  have hold : ((left en D).toArray.filter fun e => decide (e.born < cl)) = (left en D).toArray := by
    rw [Array.filter_eq_self]
    intro x hx
    have : x ∈ left en D := by simpa using hx
    simpa using hb.1 x ((List.mem_filter.1 this).1)
  have hnew : ((left en D).toArray.filter fun e => decide (e.born ≥ cl)) = #[] := by
    rw [Array.filter_eq_empty_iff]
    intro x hx
    have : x ∈ left en D := by simpa using hx
    have := hb.1 x ((List.mem_filter.1 this).1)
    simp; omega
  simp only [hl, hold, hnew, Array.append_empty]
  cases hL : left en D with
  | nil =>
    simp only [Array.isEmpty, List.size_toArray, List.length_nil, decide_true, if_true, List.map_toArray, List.map_nil, Array.append_empty]
    simp only [choose, arun, Question.forced]
    exact h0 hL
  | cons x L =>
    have hne : (x :: L).toArray.isEmpty = false := by simp
    simp only [hne, Bool.false_eq_true, if_false, List.map_toArray, Array.empty_append]
    have fin : ∀ j, j < (x :: L).length → arun P (match ((x :: L).map some).toArray[j]? with
        | some (some e) => do
          setObj i (.mapIter (some m) cl ((D.map (·.born)).toArray.push e.born) cl)
          pure (Value.tuple #[.bool true, e.key, e.val])
        | some none => pure (Value.tuple #[.bool false])
        | none => stuck "Next: no such candidate") H fun a H' => arun P (pure (Next.value a)) H' (anext false P k) := fun j hj => by
      have hg : ((x :: L).map some).toArray[j]? = some (some (x :: L)[j]) := by
        rw [List.getElem?_toArray, List.getElem?_map, List.getElem?_eq_getElem hj]; rfl
      rw [hg]
      have hmem : (x :: L)[j] ∈ left en D := by rw [hL]; exact List.getElem_mem _
      have := h1 _ hmem
      simp only [setObj, arun_bind, arun, hi, isC, true_and]
      have e1 : (D.map (·.born)).toArray.push (x :: L)[j].born = ((D ++ [(x :: L)[j]]).map (·.born)).toArray := by simp
      rw [e1]
      exact this
    simp only [choose, arun_bind, arun]
    split
    · exact fin 0 (by simp)
    · intro t
      exact fin (t % _) (by rw [List.size_toArray, List.length_map]; exact Nat.mod_lt _ (by simp))
theorem ENT.map {P : Program} {H : AH} {i m cl : Nat} {en : Array MapEntry} {D : List MapEntry} {e : MapEntry} {k : Value → AH → Prop} (hi : H.find i = some (.obj (.mapIter (some m) cl ((D ++ [e]).map (·.born)).toArray cl))) (hm : H.find m = some (.obj (.map en cl)))
    (hb : BornOk en cl) (he : e ∈ en.toList) (hk : k (.tuple #[e.key, e.val]) H) : ENT P (.pointer (some ⟨i, 0, none⟩)) H k := by
  refine ASem.of_arun ?_
  rw [arun_bind]
  unfold Instr.entry
  have hback : ((D ++ [e]).map (·.born)).toArray.back? = some e.born := by simp
  have hfind : en.find? (fun x => x.born == e.born) = some e := by
    cases hf : en.find? (fun x => x.born == e.born) with
    | none =>
      have := Array.find?_eq_none.1 hf e (by simpa using he)
      simp at this
    | some x =>
      have h1 := Array.find?_some hf
      have h2 := Array.mem_of_find?_eq_some hf
      have h3 : x = e := nodup_born hb.2 (by simpa using h2) he (by simpa using h1)
      rw [h3]
  simp only [getObj, arun_bind, arun, hi, hm, hback, bne_self_eq_false, Bool.false_eq_true, if_false, hfind]
  exact hk
structure Rnd (en : Array MapEntry) (cl : Nat) (D : List MapEntry) : Prop where
  ok : BornOk en cl
  sub : ∀ e ∈ D, e ∈ en.toList
  nd : (D.map (·.born)).Nodup
theorem Rnd.nil {en : Array MapEntry} {cl : Nat} (h : BornOk en cl) : Rnd en cl [] := ⟨h, by simp, by simp⟩
theorem Rnd.of_left {en : Array MapEntry} {cl : Nat} {D : List MapEntry} {e : MapEntry} (he : e ∈ left en D) : e ∈ en.toList ∧ e.born ∉ D.map (·.born) := by
  obtain ⟨h1, h2⟩ := List.mem_filter.1 he
  exact ⟨h1, by simpa using h2⟩
theorem Rnd.step {en : Array MapEntry} {cl : Nat} {D : List MapEntry} {e : MapEntry} (h : Rnd en cl D) (he : e ∈ left en D) : Rnd en cl (D ++ [e]) := by
  obtain ⟨h1, h2⟩ := Rnd.of_left (cl := cl) he
  refine ⟨h.ok, fun x hx => ?_, ?_⟩
  · rcases List.mem_append.1 hx with hx | hx
    · exact h.sub x hx
    · rw [List.mem_singleton.1 hx]; exact h1
  · rw [List.map_append, List.nodup_append]
    exact ⟨h.nd, by simp, fun a ha b hb => by
      simp at hb; subst hb
      intro e'; exact h2 (e' ▸ ha)⟩
theorem nodup_of_map {α β : Type} {f : α → β} : ∀ {l : List α}, (l.map f).Nodup → l.Nodup
  | [], _ => by simp
  | x :: l, h => by
    simp only [List.map_cons, List.nodup_cons, List.mem_map, not_exists, not_and] at h
    exact List.nodup_cons.2 ⟨fun hx => h.1 x hx rfl, nodup_of_map h.2⟩
theorem Rnd.less {en : Array MapEntry} {D : List MapEntry} {e : MapEntry} (he : e ∈ left en D) : (left en (D ++ [e])).length < (left en D).length := by
  have h : left en (D ++ [e]) = (left en D).filter fun x => !(x.born == e.born) := by
    unfold left
    rw [List.filter_filter]
    apply List.filter_congr
    intro x _
    simp only [List.map_append, List.map_cons, List.map_nil, List.contains_append]
    by_cases hx : x.born = e.born
    · simp [hx]
    · have : (x.born == e.born) = false := by simpa using hx
      simp [hx]
  rw [h]
  exact List.length_filter_lt_length_iff_exists.2 ⟨e, he, by simp⟩
theorem Rnd.done {en : Array MapEntry} {cl : Nat} {D : List MapEntry} (h : Rnd en cl D) (hl : left en D = []) : D.Perm en.toList := by
  rw [List.perm_ext_iff_of_nodup (nodup_of_map h.nd) (nodup_of_map h.ok.2)]
  intro e
  refine ⟨h.sub e, fun he => ?_⟩
  have : e ∉ left en D := by rw [hl]; simp
  have hb : e.born ∈ D.map (·.born) := by
    rcases Classical.em (e.born ∈ D.map (·.born)) with h' | h'
    · exact h'
    · exact absurd (List.mem_filter.2 ⟨he, by simpa using h'⟩) this
  obtain ⟨x, hx, hxe⟩ := List.mem_map.1 hb
  rw [nodup_born h.ok.2 he (h.sub x hx) hxe.symm]; exact hx
end Go.AX

/- errors.As at a target of type *Errno: the library's text, walked. -/
namespace Go.Proofs.YtbhamhhjicehaaaGreatDoor.Err
set_option linter.unusedSimpArgs false
set_option linter.unusedVariables false
open Go Go.Proofs Go.RowKit Go.Extern.Stop Go.Stop Go.Extern

theorem as_nil (t : Value) (w : World) :
    Calls Tryz.prog 133 #[.nilIface, t] w fun e w' => e = .returned (.bool false) ∧ w' = w := by
  go_enter Tryz.func133, Tryz.ntmps133
  go_wp2
  go_ret
  exact ⟨rfl, rfl⟩

theorem rlm (z : Sem Value) (f : TypeId → Addr → Nat → Nat → Sem Value) (v : Value) :
    ReflectliteValue.method z f #[v] = (do match ← ReflectliteValue.parts v with | none => z | some (t, a, fl) => f t a fl (fl % 32)) := rfl
theorem rls (v x : Value) : ReflectliteValue.set #[v, x] = (do
    let (some (dst, a, fl), some (src, b, _)) := (← ReflectliteValue.parts v, ← ReflectliteValue.parts x)
      | unsupported (.noEntry "extern/(internal/reflectlite.Value).Set.zeroValue")
    if fl / ReflectliteValue.flagAddr % 2 == 0 then unsupported (.noEntry "extern/(internal/reflectlite.Value).Set.unaddressable")
    let val ← loadVar src b
    if ← Rtype.directlyAssignable dst src then storeVar dst a val
    else if ← Rtype.implements dst src then
      if (← Rtype.kind src) == 20 then
        match val with
        | .nilIface => unsupported (.noEntry "extern/reflectlite: a nil value of one interface type handed on as a value of another")
        | _ => storeVar dst a val
      else storeVar dst a (.iface src val)
    else panicString ("reflectlite.Set: value of type " ++ (← Rtype.spelt src) ++ " is not assignable to type " ++ (← Rtype.spelt dst))
    pure (.tuple #[])) := rfl

theorem mKind (h : Value) (w : World) : (Go.method 398 230 (.agg #[h]) "Kind").run Tryz.prog w = .ok (196, h) w := by kernel_rfl
theorem mElem (h : Value) (w : World) : (Go.method 398 230 (.agg #[h]) "Elem").run Tryz.prog w = .ok (205, .agg #[h]) w := by kernel_rfl
theorem mImplements (h : Value) (w : World) : (Go.method 398 230 (.agg #[h]) "Implements").run Tryz.prog w = .ok (206, .agg #[h]) w := by kernel_rfl
theorem mAssignableTo (h : Value) (w : World) : (Go.method 398 230 (.agg #[h]) "AssignableTo").run Tryz.prog w = .ok (203, .agg #[h]) w := by kernel_rfl
theorem mComparable (h : Value) (w : World) : (Go.method 398 230 (.agg #[h]) "Comparable").run Tryz.prog w = .ok (204, .agg #[h]) w := by kernel_rfl

theorem valueOfP (t : Addr) (w : World) : (ReflectliteValue.unpack (.iface 207 (.pointer (some t)))).run Tryz.prog w
    = .ok (.agg #[.pointer (some ⟨1, 207, none⟩), .pointer (some ⟨w.heap.size, 0, none⟩), .int .u64 150]) (w.alloc (.cells #[.pointer (some t)] 207)) := by kernel_rfl
theorem typeP (a : Addr) (w : World) : (ReflectliteValue.methodAny (ReflectliteValue.valueError "reflectlite.Value.Type" 0) (fun t _ _ _ => ReflectliteType.toType t) #[.agg #[.pointer (some ⟨1, 207, none⟩), .pointer (some a), .int .u64 150]]).run Tryz.prog w
    = .ok (.iface 230 (.agg #[.pointer (some ⟨1, 207, none⟩)])) w := by kernel_rfl
theorem kindP (w : World) : ((ReflectliteType.abiMethod fun t => (fun a : Nat => Value.int IntKind.u8 (a : Int)) <$> Rtype.kind t) #[.pointer (some ⟨1, 207, none⟩)]).run Tryz.prog w = .ok (.int .u8 22) w := by kernel_rfl
theorem kindE (w : World) : ((ReflectliteType.abiMethod fun t => (fun a : Nat => Value.int IntKind.u8 (a : Int)) <$> Rtype.kind t) #[.pointer (some ⟨1, 32, none⟩)]).run Tryz.prog w = .ok (.int .u8 2) w := by kernel_rfl
theorem partsP (a : Addr) (w : World) : (ReflectliteValue.parts (.agg #[.pointer (some ⟨1, 207, none⟩), .pointer (some a), .int .u64 150])).run Tryz.prog w = .ok (some (207, a, 150)) w := by kernel_rfl
theorem isNilP (a p : Addr) (W : World) (ha : W.cell? a = some (.pointer (some p))) :
    (ReflectliteValue.method (ReflectliteValue.valueError "reflectlite.Value.IsNil" 0) ReflectliteValue.isNil #[.agg #[.pointer (some ⟨1, 207, none⟩), .pointer (some a), .int .u64 150]]).run Tryz.prog W = .ok (.bool false) W := by
  rw [rlm]
  simp only [Sem.run_bind, partsP, Result.andThen]
  simp [ReflectliteValue.isNil, loadVar, isAgg, underlying, Tryz.underlying207, ha, Result.andThen]
theorem elemT (w : World) : (ReflectliteType.method ReflectliteType.elem #[.agg #[.pointer (some ⟨1, 207, none⟩)]]).run Tryz.prog w = .ok (.iface 230 (.agg #[.pointer (some ⟨1, 32, none⟩)])) w := by kernel_rfl
theorem implE (w : World) : (ReflectliteType.relation "Implements" ReflectliteType.implements_ #[.agg #[.pointer (some ⟨1, 32, none⟩)], .iface 230 (.agg #[.pointer (some ⟨1, 174, none⟩)])]).run Tryz.prog w = .ok (.bool true) w := by kernel_rfl
theorem typeOfE (v : Value) (w : World) : (ReflectliteType.typeOf #[.iface 32 v]).run Tryz.prog w = .ok (.iface 230 (.agg #[.pointer (some ⟨1, 32, none⟩)])) w := by kernel_rfl
theorem asgnE (w : World) : (ReflectliteType.relation "AssignableTo" ReflectliteType.assignableTo #[.agg #[.pointer (some ⟨1, 32, none⟩)], .iface 230 (.agg #[.pointer (some ⟨1, 32, none⟩)])]).run Tryz.prog w = .ok (.bool true) w := by kernel_rfl
theorem valueOfE (e : Int) (w : World) : (ReflectliteValue.unpack (.iface 32 (.int .i64 e))).run Tryz.prog w
    = .ok (.agg #[.pointer (some ⟨1, 32, none⟩), .pointer (some ⟨w.heap.size, 0, none⟩), .int .u64 130]) (w.alloc (.cells #[.int .i64 e] 32)) := by kernel_rfl
theorem elemOfP (w : World) : (Rtype.elem? 207).run Tryz.prog w = .ok (some 32) w := by kernel_rfl
theorem mkE (p : Addr) (w : World) : (ReflectliteValue.mk 32 p ReflectliteValue.flagAddr).run Tryz.prog w = .ok (.agg #[.pointer (some ⟨1, 32, none⟩), .pointer (some p), .int .u64 386]) w := by kernel_rfl
theorem elemVP (a p : Addr) (W : World) (ha : W.cell? a = some (.pointer (some p))) :
    (ReflectliteValue.method (ReflectliteValue.valueError "reflectlite.Value.Elem" 0) ReflectliteValue.elem #[.agg #[.pointer (some ⟨1, 207, none⟩), .pointer (some a), .int .u64 150]]).run Tryz.prog W
      = .ok (.agg #[.pointer (some ⟨1, 32, none⟩), .pointer (some p), .int .u64 386]) W := by
  rw [rlm]
  simp only [Sem.run_bind, partsP, Result.andThen]
  simp [ReflectliteValue.elem, loadVar, isAgg, underlying, Tryz.underlying207, ha, Result.andThen, elemOfP, mkE]
theorem partsEa (a : Addr) (w : World) : (ReflectliteValue.parts (.agg #[.pointer (some ⟨1, 32, none⟩), .pointer (some a), .int .u64 386])).run Tryz.prog w = .ok (some (32, a, 386)) w := by kernel_rfl
theorem partsE (a : Addr) (w : World) : (ReflectliteValue.parts (.agg #[.pointer (some ⟨1, 32, none⟩), .pointer (some a), .int .u64 130])).run Tryz.prog w = .ok (some (32, a, 130)) w := by kernel_rfl
theorem directE (w : World) : (Rtype.directlyAssignable 32 32).run Tryz.prog w = .ok true w := by kernel_rfl
theorem setE (ta b : Addr) (e : Int) (old : Value) (W : World) (hb : W.cell? b = some (.int .i64 e)) (ht : W.cell? ta = some old) (hf : W.frozen? ta = false) :
    (ReflectliteValue.set #[.agg #[.pointer (some ⟨1, 32, none⟩), .pointer (some ta), .int .u64 386], .agg #[.pointer (some ⟨1, 32, none⟩), .pointer (some b), .int .u64 130]]).run Tryz.prog W
      = .ok (.tuple #[]) (W.setCell ta (.int .i64 e)) := by
  rw [rls]
  simp only [Sem.run_bind, partsEa, partsE, Result.andThen]
  simp [ReflectliteValue.flagAddr, loadVar, isAgg, underlying, Tryz.underlying32, hb, Result.andThen, directE, storeVar, Value.cells, storeCells, Addr.add]
  rw [run_store Tryz.prog W ta _ _ (by rfl)]
  simp [ht, hf]
def ErrT (w : World) : Prop := w.cell? ⟨0, 0, none⟩ = some (.iface 230 (.agg #[.pointer (some ⟨1, 174, none⟩)]))
def Grown (w w' : World) : Prop := Below w.heap.size w w'
theorem Grown.al {w w' : World} (h : Grown w w') (o : Obj) : Grown w (w'.alloc o) := Below.alloc h h.size o
theorem Grown.cell {w w' : World} (h : Grown w w') {a : Addr} {v : Value} (hc : w.cell? a = some v) : w'.cell? a = some v := by
  have hlt : a.block < w.heap.size := by
    rcases Nat.lt_or_ge a.block w.heap.size with h | h
    · exact h
    · simp [World.cell?, Array.getElem?_eq_none h] at hc
  rw [Below.cell h hlt]; exact hc
theorem Grown.frozen {w w' : World} (h : Grown w w') {a : Addr} {v : Value} (hc : w.cell? a = some v) (hf : w.frozen? a = false) : w'.frozen? a = false := by
  have hlt : a.block < w.heap.size := by
    rcases Nat.lt_or_ge a.block w.heap.size with h | h
    · exact h
    · simp [World.cell?, Array.getElem?_eq_none h] at hc
  rw [Below.frozen h hlt]; exact hf
theorem Grown.refl (w : World) : Grown w w := Below.refl _ w

set_option maxHeartbeats 4000000 in
theorem as_errno (e : Int) (t : Addr) (old : Value) (w : World) (hg : ErrT w) (ht : w.cell? t = some old) (hf : w.frozen? t = false) :
    Calls Tryz.prog 133 #[.iface 32 (.int .i64 e), .iface 207 (.pointer (some t))] w fun ev w' => ev = .returned (.bool true) ∧ ∃ w1, Grown w w1 ∧ w' = w1.setCell t (.int .i64 e) := by
  have h61 := @run_callFunc_extern Tryz.prog 161 _ (fun args => ReflectliteValue.unpack (args.getD 0 (.tuple #[]))) Tryz.func161 (by kernel_rfl) (by kernel_rfl) (by kernel_rfl) (by kernel_rfl)
  have h62 := @run_callFunc_extern Tryz.prog 162 _ (ReflectliteValue.methodAny (ReflectliteValue.valueError "reflectlite.Value.Type" 0) (fun t _ _ _ => ReflectliteType.toType t)) Tryz.func162 (by kernel_rfl) (by kernel_rfl) (by kernel_rfl) (by kernel_rfl)
  have h63 := @run_callFunc_extern Tryz.prog 163 _ (ReflectliteValue.method (ReflectliteValue.valueError "reflectlite.Value.IsNil" 0) ReflectliteValue.isNil) Tryz.func163 (by kernel_rfl) (by kernel_rfl) (by kernel_rfl) (by kernel_rfl)
  have h107 := @run_callFunc_extern Tryz.prog 196 _ (ReflectliteType.abiMethod fun t => do pure (.int .u8 (← Rtype.kind t))) Tryz.func196 (by kernel_rfl) (by kernel_rfl) (by kernel_rfl) (by kernel_rfl)
  have h118 := @run_callFunc_extern Tryz.prog 205 _ (ReflectliteType.method ReflectliteType.elem) Tryz.func205 (by kernel_rfl) (by kernel_rfl) (by kernel_rfl) (by kernel_rfl)
  have h119 := @run_callFunc_extern Tryz.prog 206 _ (ReflectliteType.relation "Implements" ReflectliteType.implements_) Tryz.func206 (by kernel_rfl) (by kernel_rfl) (by kernel_rfl) (by kernel_rfl)
  have h50 := @run_callFunc_extern Tryz.prog 131 _ ReflectliteType.typeOf Tryz.func131 (by kernel_rfl) (by kernel_rfl) (by kernel_rfl) (by kernel_rfl)
  have h116 := @run_callFunc_extern Tryz.prog 203 _ (ReflectliteType.relation "AssignableTo" ReflectliteType.assignableTo) Tryz.func203 (by kernel_rfl) (by kernel_rfl) (by kernel_rfl) (by kernel_rfl)
  have h72 := @run_callFunc_extern Tryz.prog 176 _ (ReflectliteValue.method (ReflectliteValue.valueError "reflectlite.Value.Elem" 0) ReflectliteValue.elem) Tryz.func176 (by kernel_rfl) (by kernel_rfl) (by kernel_rfl) (by kernel_rfl)
  have h73 := @run_callFunc_extern Tryz.prog 177 _ ReflectliteValue.set Tryz.func177 (by kernel_rfl) (by kernel_rfl) (by kernel_rfl) (by kernel_rfl)
  have tO := typeOfE
  have mA := mAssignableTo
  have aE := asgnE
  have vE := valueOfE
  have fP := valueOfP
  have tP := typeP
  have mK := mKind
  have mE := mElem
  have mI := mImplements
  have kP := kindP
  have kE := kindE
  have eT := elemT
  have iE := implE
  have c1 : ∀ o, Grown w (w.alloc o) := fun o => (Grown.refl w).al o
  have n8 := isNilP ⟨w.heap.size, 0, none⟩ t ((w.alloc (.cells #[.pointer (some t)] 207)).alloc (.cells #[.pointer (some ⟨1, 207, none⟩), .pointer (some ⟨w.heap.size, 0, none⟩), .int .u64 150] 243)) (by simp)
  have hg2 : World.cell? ((w.alloc (.cells #[.pointer (some t)] 207)).alloc (.cells #[.pointer (some ⟨1, 207, none⟩), .pointer (some ⟨w.heap.size, 0, none⟩), .int .u64 150] 243)) ⟨0, 0, none⟩ = some (.iface 230 (.agg #[.pointer (some ⟨1, 174, none⟩)])) := ((c1 _).al _).cell hg
  have el := elemVP ⟨w.heap.size, 0, none⟩ t (((w.alloc (.cells #[.pointer (some t)] 207)).alloc (.cells #[.pointer (some ⟨1, 207, none⟩), .pointer (some ⟨w.heap.size, 0, none⟩), .int .u64 150] 243)).alloc (.cells #[.pointer (some ⟨1, 207, none⟩), .pointer (some ⟨w.heap.size, 0, none⟩), .int .u64 150] 243)) (by rw [World.cell?_alloc_lt _ _ ⟨w.heap.size, 0, none⟩ (by simp; omega)]; simp)
  have st := setE t ⟨w.heap.size + 1 + 1 + 1, 0, none⟩ e old ((((w.alloc (.cells #[.pointer (some t)] 207)).alloc (.cells #[.pointer (some ⟨1, 207, none⟩), .pointer (some ⟨w.heap.size, 0, none⟩), .int .u64 150] 243)).alloc (.cells #[.pointer (some ⟨1, 207, none⟩), .pointer (some ⟨w.heap.size, 0, none⟩), .int .u64 150] 243)).alloc (.cells #[.int .i64 e] 32)) (by rw [World.cell?_alloc_at _ _ _ _ (by simp)]; rfl) ((((c1 _).al _).al _).al _ |>.cell ht) ((((c1 _).al _).al _).al _ |>.frozen ht hf)
  go_enter Tryz.func133, Tryz.ntmps133
  go_wp2
  refine wp_loop_rounds 1 ?_
  rw [rounds_succ]
  go_wp2
  go_ret
  exact ⟨rfl, _, (((c1 _).al _).al _).al _, rfl⟩
end Go.Proofs.YtbhamhhjicehaaaGreatDoor.Err

/- errors.As at a target of type *Errno, and errors.Is at an Errno, of a wrapped one: the library's text, walked. -/
namespace Go.Proofs.YtbhamhhjicehaaaGreatDoor.Err
set_option linter.unusedSimpArgs false
set_option linter.unusedVariables false
open Go Go.Proofs Go.RowKit Go.Extern.Stop Go.Stop Go.Extern

theorem typeOfF (v : Value) (w : World) : (ReflectliteType.typeOf #[.iface 197 v]).run Tryz.prog w = .ok (.iface 230 (.agg #[.pointer (some ⟨1, 197, none⟩)])) w := by kernel_rfl
theorem asgnF (w : World) : (ReflectliteType.relation "AssignableTo" ReflectliteType.assignableTo #[.agg #[.pointer (some ⟨1, 197, none⟩)], .iface 230 (.agg #[.pointer (some ⟨1, 32, none⟩)])]).run Tryz.prog w = .ok (.bool false) w := by kernel_rfl
theorem noAsF (v : Value) (xT : TypeId) (w : World) : (Instr.typeAssert (.iface 197 v) xT 264 true).run Tryz.prog w = .ok (.tuple #[.nilIface, .bool false]) w := run_typeAssert_lacksB Tryz.underlying264 (by kernel_rfl) (by kernel_rfl) v xT w
theorem noIsF (v : Value) (xT : TypeId) (w : World) : (Instr.typeAssert (.iface 197 v) xT 232 true).run Tryz.prog w = .ok (.tuple #[.nilIface, .bool false]) w := run_typeAssert_lacksB Tryz.underlying232 (by kernel_rfl) (by kernel_rfl) v xT w
theorem hasUnwrapF (v : Value) (xT : TypeId) (w : World) : (Instr.typeAssert (.iface 197 v) xT 235 true).run Tryz.prog w = .ok (.tuple #[.iface 197 v, .bool true]) w := run_typeAssert_hasB Tryz.underlying235 (by kernel_rfl) v xT w
theorem mUnwrapF (v : Value) (w : World) : (Go.method 398 197 v "Unwrap").run Tryz.prog w = .ok (201, v) w := by kernel_rfl
theorem noIsE (v : Value) (xT : TypeId) (w : World) : (Instr.typeAssert (.iface 32 v) xT 232 true).run Tryz.prog w = .ok (.tuple #[.nilIface, .bool false]) w := run_typeAssert_lacksB Tryz.underlying232 (by kernel_rfl) (by kernel_rfl) v xT w
theorem noUnwrapE (v : Value) (xT : TypeId) (w : World) : (Instr.typeAssert (.iface 32 v) xT 235 true).run Tryz.prog w = .ok (.tuple #[.nilIface, .bool false]) w := run_typeAssert_lacksB Tryz.underlying235 (by kernel_rfl) (by kernel_rfl) v xT w
theorem noUnwrapsE (v : Value) (xT : TypeId) (w : World) : (Instr.typeAssert (.iface 32 v) xT 237 true).run Tryz.prog w = .ok (.tuple #[.nilIface, .bool false]) w := run_typeAssert_lacksB Tryz.underlying237 (by kernel_rfl) (by kernel_rfl) v xT w
theorem cmpE (w : World) : ((ReflectliteType.method fun t => do Rtype.noPackHeld "Comparable" t; (fun a => Value.bool a.comparable) <$> typeInfo t) #[.agg #[.pointer (some ⟨1, 32, none⟩)]]).run Tryz.prog w = .ok (.bool true) w := by kernel_rfl
theorem compE : (Tryz.prog.info? 32).map (·.comparable) = some true := by kernel_rfl
section
variable {P : Program} (w : World)
theorem run_equalIn_iface_int (d : Nat) {ti tn : TypeId} {ms : Array (String × TypeId)} {i : TypeInfo} {k : IntKind} (a b : Int)
    (hi : P.underlying ti = some (.interface ms)) (hn : P.underlying tn = some (.int k)) (hinfo : P.info? tn = some i) (hcomp : i.comparable = true) :
    (Op.equalIn (d + 2) ti (.iface tn (.int k a)) (.iface tn (.int k b))).run P w = .ok (a == b) w := by
  simp [Op.equalIn, run_underlying hi, run_underlying hn, typeInfo, hinfo, hcomp]
theorem run_eql_iface_int {ti tn : TypeId} {ms : Array (String × TypeId)} {i : TypeInfo} {k : IntKind} (a b : Int)
    (hi : P.underlying ti = some (.interface ms)) (hn : P.underlying tn = some (.int k)) (hinfo : P.info? tn = some i) (hcomp : i.comparable = true) :
    (binOp .eql ti (.iface tn (.int k a)) (.iface tn (.int k b))).run P w = .ok (.bool (a == b)) w := by
  simp only [binOp]
  simp [Op.equal, Op.maxDepth, run_equalIn_iface_int w 9998 a b hi hn hinfo hcomp]
end

set_option maxHeartbeats 4000000 in
theorem as_fault (b o : Nat) (e : Int) (t : Addr) (old : Value) (w : World) (hg : ErrT w) (hb : w.cell? ⟨b, o + 1, none⟩ = some (.iface 32 (.int .i64 e))) (ht : w.cell? t = some old) (hf : w.frozen? t = false) :
    Calls Tryz.prog 133 #[.iface 197 (.pointer (some ⟨b, o, none⟩)), .iface 207 (.pointer (some t))] w fun ev w' => ev = .returned (.bool true) ∧ ∃ w1, Grown w w1 ∧ w' = w1.setCell t (.int .i64 e) := by
  have h61 := @run_callFunc_extern Tryz.prog 161 _ (fun args => ReflectliteValue.unpack (args.getD 0 (.tuple #[]))) Tryz.func161 (by kernel_rfl) (by kernel_rfl) (by kernel_rfl) (by kernel_rfl)
  have h62 := @run_callFunc_extern Tryz.prog 162 _ (ReflectliteValue.methodAny (ReflectliteValue.valueError "reflectlite.Value.Type" 0) (fun t _ _ _ => ReflectliteType.toType t)) Tryz.func162 (by kernel_rfl) (by kernel_rfl) (by kernel_rfl) (by kernel_rfl)
  have h63 := @run_callFunc_extern Tryz.prog 163 _ (ReflectliteValue.method (ReflectliteValue.valueError "reflectlite.Value.IsNil" 0) ReflectliteValue.isNil) Tryz.func163 (by kernel_rfl) (by kernel_rfl) (by kernel_rfl) (by kernel_rfl)
  have h107 := @run_callFunc_extern Tryz.prog 196 _ (ReflectliteType.abiMethod fun t => do pure (.int .u8 (← Rtype.kind t))) Tryz.func196 (by kernel_rfl) (by kernel_rfl) (by kernel_rfl) (by kernel_rfl)
  have h118 := @run_callFunc_extern Tryz.prog 205 _ (ReflectliteType.method ReflectliteType.elem) Tryz.func205 (by kernel_rfl) (by kernel_rfl) (by kernel_rfl) (by kernel_rfl)
  have h119 := @run_callFunc_extern Tryz.prog 206 _ (ReflectliteType.relation "Implements" ReflectliteType.implements_) Tryz.func206 (by kernel_rfl) (by kernel_rfl) (by kernel_rfl) (by kernel_rfl)
  have h50 := @run_callFunc_extern Tryz.prog 131 _ ReflectliteType.typeOf Tryz.func131 (by kernel_rfl) (by kernel_rfl) (by kernel_rfl) (by kernel_rfl)
  have h116 := @run_callFunc_extern Tryz.prog 203 _ (ReflectliteType.relation "AssignableTo" ReflectliteType.assignableTo) Tryz.func203 (by kernel_rfl) (by kernel_rfl) (by kernel_rfl) (by kernel_rfl)
  have h72 := @run_callFunc_extern Tryz.prog 176 _ (ReflectliteValue.method (ReflectliteValue.valueError "reflectlite.Value.Elem" 0) ReflectliteValue.elem) Tryz.func176 (by kernel_rfl) (by kernel_rfl) (by kernel_rfl) (by kernel_rfl)
  have h73 := @run_callFunc_extern Tryz.prog 177 _ ReflectliteValue.set Tryz.func177 (by kernel_rfl) (by kernel_rfl) (by kernel_rfl) (by kernel_rfl)
  have tO := typeOfE
  have mA := mAssignableTo
  have aE := asgnE
  have vE := valueOfE
  have fP := valueOfP
  have tP := typeP
  have mK := mKind
  have mE := mElem
  have mI := mImplements
  have kP := kindP
  have kE := kindE
  have eT := elemT
  have iE := implE
  have tF := typeOfF
  have aF := asgnF
  have nF := noAsF
  have uF := hasUnwrapF
  have mU := mUnwrapF
  have c1 : ∀ o, Grown w (w.alloc o) := fun o => (Grown.refl w).al o
  have n8 := isNilP ⟨w.heap.size, 0, none⟩ t ((w.alloc (.cells #[.pointer (some t)] 207)).alloc (.cells #[.pointer (some ⟨1, 207, none⟩), .pointer (some ⟨w.heap.size, 0, none⟩), .int .u64 150] 243)) (by simp)
  have hg2 : World.cell? ((w.alloc (.cells #[.pointer (some t)] 207)).alloc (.cells #[.pointer (some ⟨1, 207, none⟩), .pointer (some ⟨w.heap.size, 0, none⟩), .int .u64 150] 243)) ⟨0, 0, none⟩ = some (.iface 230 (.agg #[.pointer (some ⟨1, 174, none⟩)])) := ((c1 _).al _).cell hg
  have el := elemVP ⟨w.heap.size, 0, none⟩ t (((w.alloc (.cells #[.pointer (some t)] 207)).alloc (.cells #[.pointer (some ⟨1, 207, none⟩), .pointer (some ⟨w.heap.size, 0, none⟩), .int .u64 150] 243)).alloc (.cells #[.pointer (some ⟨1, 207, none⟩), .pointer (some ⟨w.heap.size, 0, none⟩), .int .u64 150] 243)) (by rw [World.cell?_alloc_lt _ _ ⟨w.heap.size, 0, none⟩ (by simp; omega)]; simp)
  have st := setE t ⟨w.heap.size + 1 + 1 + 1, 0, none⟩ e old ((((w.alloc (.cells #[.pointer (some t)] 207)).alloc (.cells #[.pointer (some ⟨1, 207, none⟩), .pointer (some ⟨w.heap.size, 0, none⟩), .int .u64 150] 243)).alloc (.cells #[.pointer (some ⟨1, 207, none⟩), .pointer (some ⟨w.heap.size, 0, none⟩), .int .u64 150] 243)).alloc (.cells #[.int .i64 e] 32)) (by rw [World.cell?_alloc_at _ _ _ _ (by simp)]; rfl) ((((c1 _).al _).al _).al _ |>.cell ht) ((((c1 _).al _).al _).al _ |>.frozen ht hf)
  have hb3 : World.cell? (((w.alloc (.cells #[.pointer (some t)] 207)).alloc (.cells #[.pointer (some ⟨1, 207, none⟩), .pointer (some ⟨w.heap.size, 0, none⟩), .int .u64 150] 243)).alloc (.cells #[.pointer (some ⟨1, 207, none⟩), .pointer (some ⟨w.heap.size, 0, none⟩), .int .u64 150] 243)) ⟨b, o + 1, none⟩ = some (.iface 32 (.int .i64 e)) := (((c1 _).al _).al _).cell hb
  go_enter Tryz.func133, Tryz.ntmps133
  go_wp2
  refine wp_loop_rounds 2 ?_
  rw [rounds_succ]
  go_wp2
  rw [rounds_succ]
  go_wp2
  go_ret
  exact ⟨rfl, _, (((c1 _).al _).al _).al _, rfl⟩

theorem is_nil (x : Int) (w : World) :
    Calls Tryz.prog 103 #[.nilIface, .iface 32 (.int .i64 x)] w fun e w' => e = .returned (.bool false) ∧ w' = w := by
  have hn := run_eql_iface_nil_left (P := Tryz.prog) w 32 (.int .i64 x) Tryz.underlying174
  go_enter Tryz.func103, Tryz.ntmps103
  go_wp2
  go_ret
  exact ⟨rfl, rfl⟩

set_option maxHeartbeats 4000000 in
theorem is_errno (e x : Int) (w : World) :
    Calls Tryz.prog 103 #[.iface 32 (.int .i64 e), .iface 32 (.int .i64 x)] w fun ev w' => ev = .returned (.bool (e == x)) ∧ w' = w := by
  obtain ⟨i, hi, hcmp⟩ := Option.map_eq_some_iff.1 compE
  have h50 := @run_callFunc_extern Tryz.prog 131 _ ReflectliteType.typeOf Tryz.func131 (by kernel_rfl) (by kernel_rfl) (by kernel_rfl) (by kernel_rfl)
  have h117 := @run_callFunc_extern Tryz.prog 204 _ (ReflectliteType.method fun t => do Rtype.noPackHeld "Comparable" t; pure (.bool (← typeInfo t).comparable)) Tryz.func204 (by kernel_rfl) (by kernel_rfl) (by kernel_rfl) (by kernel_rfl)
  have tT := typeOfE
  have cT := cmpE
  have mC := mComparable
  have nE := noIsE
  have uE := noUnwrapE
  have vE := noUnwrapsE
  have heq := run_eql_iface_int (P := Tryz.prog) w e x Tryz.underlying174 Tryz.underlying32 hi hcmp
  cases hr : (e == x) with
  | true =>
    rw [hr] at heq
    go_enter Tryz.func103, Tryz.ntmps103
    go_wp2
    refine wp_loop_rounds 1 ?_
    rw [rounds_succ]
    go_wp2
    go_ret
    exact ⟨rfl, rfl⟩
  | false =>
    rw [hr] at heq
    go_enter Tryz.func103, Tryz.ntmps103
    go_wp2
    refine wp_loop_rounds 1 ?_
    rw [rounds_succ]
    go_wp2
    go_ret
    exact ⟨rfl, rfl⟩
set_option maxHeartbeats 4000000 in
theorem is_fault (b o : Nat) (e x : Int) (w : World) (hb : w.cell? ⟨b, o + 1, none⟩ = some (.iface 32 (.int .i64 e))) :
    Calls Tryz.prog 103 #[.iface 197 (.pointer (some ⟨b, o, none⟩)), .iface 32 (.int .i64 x)] w fun ev w' => ev = .returned (.bool (e == x)) ∧ w' = w := by
  obtain ⟨i, hi, hcmp⟩ := Option.map_eq_some_iff.1 compE
  have h50 := @run_callFunc_extern Tryz.prog 131 _ ReflectliteType.typeOf Tryz.func131 (by kernel_rfl) (by kernel_rfl) (by kernel_rfl) (by kernel_rfl)
  have h117 := @run_callFunc_extern Tryz.prog 204 _ (ReflectliteType.method fun t => do Rtype.noPackHeld "Comparable" t; pure (.bool (← typeInfo t).comparable)) Tryz.func204 (by kernel_rfl) (by kernel_rfl) (by kernel_rfl) (by kernel_rfl)
  have tT := typeOfE
  have cT := cmpE
  have mC := mComparable
  have nE := noIsE
  have uE := noUnwrapE
  have vE := noUnwrapsE
  have nF := noIsF
  have uF := hasUnwrapF
  have mU := mUnwrapF
  have hty := run_eql_iface_types (P := Tryz.prog) 197 32 (.pointer (some ⟨b, o, none⟩)) (.int .i64 x) Tryz.underlying174 (by decide) w
  have heq := run_eql_iface_int (P := Tryz.prog) w e x Tryz.underlying174 Tryz.underlying32 hi hcmp
  cases hr : (e == x) with
  | true =>
    rw [hr] at heq
    go_enter Tryz.func103, Tryz.ntmps103
    go_wp2
    refine wp_loop_rounds 2 ?_
    rw [rounds_succ]
    go_wp2
    rw [rounds_succ]
    go_wp2
    go_ret
    exact ⟨rfl, rfl⟩
  | false =>
    rw [hr] at heq
    go_enter Tryz.func103, Tryz.ntmps103
    go_wp2
    refine wp_loop_rounds 2 ?_
    rw [rounds_succ]
    go_wp2
    rw [rounds_succ]
    go_wp2
    go_ret
    exact ⟨rfl, rfl⟩
end Go.Proofs.YtbhamhhjicehaaaGreatDoor.Err

/- errors.As and errors.Is over the abstract heap; ifs: number. -/
namespace Go.Proofs.YtbhamhhjicehaaaGreatDoor.Err
set_option linter.unusedSimpArgs false
set_option linter.unusedVariables false
open Go Go.AX Go.Proofs Ty
set_option maxHeartbeats 4000000
set_option maxRecDepth 10000

theorem ErrT.of {E : Nat → Option Obj} {H : AH} {w : World} (h : ErrT H.w0) (hs : Sat E H w) : ErrT w := by
  have hlt : 0 < H.w0.heap.size := by
    unfold ErrT at h
    rcases Nat.eq_zero_or_pos H.w0.heap.size with h0 | h'
    · simp [World.cell?, h0] at h
    · exact h'
  have := hs.below.cell (p := ⟨0, 0, none⟩) hlt
  unfold ErrT
  rw [this]; exact h
theorem ACalls.one {P : Program} {f : FuncId} {args : Array Value} {H : AH} {b t : Nat} {u x y : Value} (hf : Fresh H b) 
    (h : ∀ E w, Sat E (H.add b (.cells [x] t 1)) w → Calls P f args w fun ev w' => ev = .returned u ∧ ∃ w1, Grown w w1 ∧ w' = w1.setCell ⟨b, 0, none⟩ y) :
    ACalls P f args (H.add b (.cells [x] t 1)) (fun v H' => v = u ∧ H' = H.add b (.cells [y] t 1)) := fun E w hs => (h E w hs).mono fun e w' ⟨he, w1, hg, hw⟩ => by
  subst hw
  obtain ⟨q1, _, _⟩ := (hs.belowed hg).setCells (a := ⟨b, 0, none⟩) (v := y) (find_add_self _ _ _) rfl (Nat.zero_lt_one) (by simp)
  refine ⟨u, H.add b (.cells [y] t 1), he, q1.of_find rfl fun c => ?_, rfl, rfl⟩
  rw [find_set, find_add, find_add]
  split <;> rfl

def ErrV (H : AH) (v : Value) (e : Int) : Prop :=
  (v = .nilIface ∧ e = 0) ∨ v = .iface 32 (.int .i64 e) ∨ ∃ b o, v = .iface 197 (.pointer (some ⟨b, o, none⟩)) ∧ H.rd ⟨b, o + 1, none⟩ = some (.iface 32 (.int .i64 e))

theorem As_c {H : AH} {v : Value} {e : Int} {b : Nat} (hE : ErrT H.w0) (hv : ErrV H v e) (hn : v ≠ .nilIface) (hf : Fresh H b) :
    ACalls Tryz.prog 133 #[v, .iface 207 (.pointer (some ⟨b, 0, none⟩))] (H.add b (.cells [.int .i64 0] 32 1)) (fun u H' => u = .bool true ∧ H' = H.add b (.cells [.int .i64 e] 32 1)) :=
  ACalls.one hf fun E w hs => by
    have hg := ErrT.of (H := H.add b (.cells [.int .i64 0] 32 1)) hE hs
    have ht : w.cell? ⟨b, 0, none⟩ = some (.int .i64 0) := hs.rd (by rw [rd_add_self]; rfl)
    have hz : w.frozen? ⟨b, 0, none⟩ = false := hs.frz (by simp [AH.frz, find_add])
    rcases hv with ⟨rfl, _⟩ | rfl | ⟨b1, o1, rfl, hr⟩
    · exact absurd rfl hn
    · exact as_errno e _ _ w hg ht hz
    · exact as_fault b1 o1 e _ _ w hg ((hs.mono (AH.le_add (AH.le_refl _) hf.2)).rd hr) ht hz

theorem number_c {H : AH} {v : Value} {e : Int} (hE : ErrT H.w0) (hv : ErrV H v e) : ACalls Tryz.prog 104 #[v] H (fun u H' => u = .int .i64 e ∧ H = H') := by
  refine ACalls.enter2 Tryz.func104 rfl Tryz.ntmps104 Tryz.results104 (by simp) ?_; simp (dsimp := false) (maxSteps := 4000000) only [go_sem]
  refine AllB.mk fun b h_b => ?_
  simp (dsimp := false) (maxSteps := 4000000) only [go_sem]
  by_cases hn : v = .nilIface
  · subst hn
    obtain rfl : e = 0 := by
      rcases hv with ⟨_, h⟩ | h | ⟨_, _, h, _⟩
      · exact h
      · cases h
      · cases h
    refine ACalls.mono (K := fun u H' => u = .bool false ∧ (H.add b (.cells [.int .i64 0] 32 1)) = H') (fun E w hs => (as_nil _ w).mono fun ev w' ⟨h1, h2⟩ => ⟨_, _, h1, h2 ▸ hs, rfl, rfl⟩) ?_
    rintro _ _ ⟨rfl, rfl⟩
    simp (dsimp := false) (maxSteps := 4000000) only [go_sem]
    exact ⟨H, AH.le_add (AH.le_refl _) h_b.2, rfl⟩
  · refine (As_c hE hv hn h_b).mono ?_
    rintro _ _ ⟨rfl, rfl⟩
    simp (dsimp := false) (maxSteps := 4000000) only [go_sem]
    exact ⟨H, AH.le_add (AH.le_refl _) h_b.2, rfl⟩
theorem Is_c {H : AH} {v : Value} {e x : Int} (hv : ErrV H v e) (hx : x ≠ 0) : ACalls Tryz.prog 103 #[v, .iface 32 (.int .i64 x)] H (fun u H' => u = .bool (e == x) ∧ H = H') := fun E w hs => by
  have fin : ∀ {u : Value}, u = .bool (e == x) → Calls Tryz.prog 103 #[v, .iface 32 (.int .i64 x)] w (fun ev w' => ev = .returned u ∧ w' = w) → Calls Tryz.prog 103 #[v, .iface 32 (.int .i64 x)] w (fun ev w' => ∃ u H', ev = .returned u ∧ Sat E H' w' ∧ u = .bool (e == x) ∧ H = H') :=
    fun hu h => h.mono fun ev w' ⟨h1, h2⟩ => ⟨_, H, h1, h2 ▸ hs, hu, rfl⟩
  rcases hv with ⟨rfl, rfl⟩ | rfl | ⟨b1, o1, rfl, hr⟩
  · exact fin (by simp [Ne.symm hx]) (is_nil x w)
  · exact fin rfl (is_errno e x w)
  · exact fin rfl (is_fault b1 o1 e x w (hs.rd hr))
end Go.Proofs.YtbhamhhjicehaaaGreatDoor.Err

/- ifs: a store in memory; New, Denied, Get, own. -/
namespace Go.Proofs.YtbhamhhjicehaaaGreatDoor.Ifs
set_option linter.unusedSimpArgs false
set_option linter.unusedVariables false
open Go Go.AX Go.Proofs Ty Go.Proofs.YtbhamhhjicehaaaGreatDoor.File Go.Proofs.YtbhamhhjicehaaaGreatDoor.Err
set_option maxHeartbeats 4000000
set_option maxRecDepth 10000

theorem lput_enc {a b c d : Value} (r : Rc) : lput [a, b, c, d] 0 (enc r) = enc r := Eq.trans rfl rfl
theorem take_enc (r : Rc) : (enc r).take 4 = enc r := Eq.trans rfl rfl
structure MF where
  n : Int
  p : Int
  blk : Nat
  bs : Nat
  R : List Rc
def MF.nf (m : MF) : Nf := (m.n, m.p, m.R)
def MF.val (m : MF) : Value := fv m.p (some ⟨m.blk, 0, none⟩) m.R.length m.R.length
def MF.ent (m : MF) : Value × Value := (.int .i64 m.n, m.val)
structure StIn (H : AH) (b bm : Nat) (ms : List MF) (den : Int) : Prop where
  top : H.find b = some (.cells [.map (some bm), .int .i64 den] 113 2)
  map : H.find bm = some (.amap (ms.map MF.ent))
  rows : ∀ m ∈ ms, H.find m.blk = some (.cells (m.R.map enc).flatten 76 m.bs) ∧ m.R.length * 4 ≤ m.bs
  nd : (ms.map (·.blk)).Nodup
  kd : Kd (ms.map MF.nf)
def ftOf (b bm : Nat) (ms : List MF) (x : Nat) : Prop := x = b ∨ x = bm ∨ ∃ m ∈ ms, x = m.blk
def StAt (H : AH) (b : Nat) (X : List Nf) (den : Int) (ft : Nat → Prop) : Prop := ∃ bm ms, StIn H b bm ms den ∧ ms.map MF.nf = X ∧ ∀ x, ft x ↔ ftOf b bm ms x
theorem StIn.keep {H H' : AH} {b bm : Nat} {ms : List MF} {den : Int} {ex : Nat → Prop} (h : StIn H b bm ms den) (hK : Keep H H' ex) (hx : ∀ x, ftOf b bm ms x → ¬ ex x) : StIn H' b bm ms den :=
  ⟨hK.find (hx _ (.inl rfl)) h.top, hK.find (hx _ (.inr (.inl rfl))) h.map, fun m hm => ⟨hK.find (hx _ (.inr (.inr ⟨m, hm, rfl⟩))) (h.rows m hm).1, (h.rows m hm).2⟩, h.nd, h.kd⟩
theorem StAt.keep {H H' : AH} {b : Nat} {X : List Nf} {den : Int} {ft ex : Nat → Prop} (h : StAt H b X den ft) (hK : Keep H H' ex) (hx : ∀ x, ft x → ¬ ex x) : StAt H' b X den ft := by
  obtain ⟨bm, ms, h1, h2, h3⟩ := h
  exact ⟨bm, ms, h1.keep hK fun x hf => hx x ((h3 x).2 hf), h2, h3⟩
theorem StAt.find {H : AH} {b : Nat} {X : List Nf} {den : Int} {ft : Nat → Prop} (h : StAt H b X den ft) : ∃ bm, H.find b = some (.cells [.map (some bm), .int .i64 den] 113 2) := by
  obtain ⟨bm, ms, h1, _⟩ := h
  exact ⟨bm, h1.top⟩
theorem StIn.known {H : AH} {b bm : Nat} {ms : List MF} {den : Int} (h : StIn H b bm ms den) {x : Nat} (hx : ftOf b bm ms x) : (H.find x).isSome := by
  rcases hx with rfl | rfl | ⟨m, hm, rfl⟩
  · rw [h.top]; rfl
  · rw [h.map]; rfl
  · rw [(h.rows m hm).1]; rfl
theorem StAt.known {H : AH} {b : Nat} {X : List Nf} {den : Int} {ft : Nat → Prop} (h : StAt H b X den ft) {x : Nat} (hx : ft x) : (H.find x).isSome := by
  obtain ⟨bm, ms, h1, _, h3⟩ := h
  exact h1.known ((h3 x).1 hx)
theorem StAt.fresh {H : AH} {b : Nat} {X : List Nf} {den : Int} {ft : Nat → Prop} (h : StAt H b X den ft) {x : Nat} (hf : Fresh H x) : ¬ ft x := fun hx => by
  have := h.known hx; rw [hf.2] at this; cases this
theorem StAt.self {H : AH} {b : Nat} {X : List Nf} {den : Int} {ft : Nat → Prop} (h : StAt H b X den ft) : ft b := by
  obtain ⟨bm, ms, _, _, h3⟩ := h
  exact (h3 b).2 (.inl rfl)
theorem StIn.ne1 {H : AH} {b bm : Nat} {ms : List MF} {den : Int} (h : StIn H b bm ms den) : b ≠ bm := fun e => by
  have := h.top; rw [e, h.map] at this; cases this
theorem StIn.ne2 {H : AH} {b bm : Nat} {ms : List MF} {den : Int} (h : StIn H b bm ms den) {m : MF} (hm : m ∈ ms) : m.blk ≠ b := fun e => by
  have := (h.rows m hm).1; rw [e, h.top] at this; simp only [Option.some.injEq, ABlk.cells.injEq] at this; exact absurd this.2.1 (by decide)
theorem StIn.ne3 {H : AH} {b bm : Nat} {ms : List MF} {den : Int} (h : StIn H b bm ms den) {m : MF} (hm : m ∈ ms) : m.blk ≠ bm := fun e => by
  have := (h.rows m hm).1; rw [e, h.map] at this; cases this
theorem StIn.slc {H : AH} {b bm : Nat} {ms : List MF} {den : Int} (h : StIn H b bm ms den) {m : MF} (hm : m ∈ ms) (hl : m.R.length < 9223372036854775808) : SlcIn H 4 (some ⟨m.blk, 0, none⟩) m.R.length (m.R.map enc) :=
  SlcIn.of_find (h.rows m hm).1 (rows4 m.R) (by simp) (by simpa using hl)

def fnd (n : Int) : List MF → Nat → Option (Nat × Value)
  | [], _ => none
  | m :: l, i => if m.n = n then some (i, m.val) else fnd n l (i + 1)
theorem mlk_ms (n : Int) : ∀ (ms : List MF) (i : Nat), mlk (.int .i64) (.int .i64 n) (ms.map MF.ent) i = some (fnd n ms i)
  | [], _ => rfl
  | m :: l, i => by
    have ih := mlk_ms n l (i + 1)
    rw [fnd]
    by_cases h : m.n = n
    · simp [mlk, MF.ent, Instr.sameNow, h]
    · have hb : (n == m.n) = false := by simpa using fun e => h e.symm
      have hb2 : (m.n == n) = false := by simpa using h
      simp only [List.map_cons, mlk, MF.ent, Instr.sameNow, hb, hb2, if_neg h]
      exact ih
theorem fnd_none {n : Int} : ∀ {ms : List MF} {i : Nat}, fnd n ms i = none ↔ lk n (ms.map MF.nf) = none
  | [], _ => by simp [fnd, lk]
  | m :: l, i => by
    rw [fnd, List.map_cons, lk]
    show _ ↔ (if m.n = n then _ else _) = none
    by_cases h : m.n = n
    · simp [h]
    · simp only [if_neg h]; exact fnd_none
theorem fnd_some {n : Int} : ∀ {ms : List MF} {i j : Nat} {v : Value}, fnd n ms i = some (j, v) → ∃ k m, j = i + k ∧ ms[k]? = some m ∧ m.n = n ∧ v = m.val ∧ lk n (ms.map MF.nf) = some (m.p, m.R)
  | m :: l, i, j, v, h => by
    rw [fnd] at h
    by_cases e : m.n = n
    · rw [if_pos e] at h; cases h
      exact ⟨0, m, rfl, rfl, e, rfl, by rw [List.map_cons, lk]; exact if_pos e⟩
    · rw [if_neg e] at h
      obtain ⟨k, m', h1, h2, h3, h4, h5⟩ := fnd_some h
      refine ⟨k + 1, m', by omega, h2, h3, h4, ?_⟩
      rw [List.map_cons, lk]
      exact (if_neg e).trans h5
theorem StIn.at_ {H : AH} {b bm : Nat} {ms : List MF} {den : Int} (_h : StIn H b bm ms den) (n : Int) :
    (mlk (.int .i64) (.int .i64 n) (ms.map MF.ent) 0 = some none ∧ lk n (ms.map MF.nf) = none) ∨
    ∃ k m, mlk (.int .i64) (.int .i64 n) (ms.map MF.ent) 0 = some (some (k, m.val)) ∧ ms[k]? = some m ∧ m.n = n ∧ lk n (ms.map MF.nf) = some (m.p, m.R) := by
  have hm := mlk_ms n ms 0
  cases hf : fnd n ms 0 with
  | none => rw [hf] at hm; exact .inl ⟨hm, fnd_none.1 hf⟩
  | some x =>
    obtain ⟨j, v⟩ := x
    obtain ⟨k, m, h1, h2, h3, rfl, h5⟩ := fnd_some hf
    rw [hf, h1, Nat.zero_add] at hm
    exact .inr ⟨k, m, hm, h2, h3, h5⟩

theorem New_c (H : AH) : ACalls Tryz.prog 21 #[] H (fun v H' => ∃ b ft, v = .pointer (some ⟨b, 0, none⟩) ∧ StAt H' b [] 0 ft ∧ Keep H H' (fun _ => False) ∧ ∀ x, ft x → Fresh H x) := by
  refine ACalls.enter2 Tryz.func21 rfl Tryz.ntmps21 Tryz.results21 (by simp) ?_; simp (dsimp := false) (maxSteps := 4000000) only [go_sem]
  refine AllB.mk fun bm h_bm => ?_
  simp (dsimp := false) (maxSteps := 4000000) only [go_sem]
  refine AllB.mk fun b h_b => ?_
  simp (dsimp := false) (maxSteps := 4000000) only [go_sem]
  have hne : b ≠ bm := h_b.ne_find (find_add_self _ _ _)
  refine ⟨_, AH.le_refl _, b, ftOf b bm [], rfl, ⟨bm, [], ⟨?_, ?_, by simp, by simp, by simp [Kd]⟩, rfl, fun _ => Iff.rfl⟩, (Keep.refl.nw h_bm).nw h_b, ?_⟩
  · rw [find_add_self]
  · rw [find_add_ne _ hne, find_add_self]; rfl
  · rintro x (rfl | rfl | ⟨_, h, _⟩)
    · exact (Keep.refl.nw h_bm).fr h_b
    · exact h_bm
    · cases h
def getV (o : Option Rc) : Value := match o with | none => .tuple #[.agg (enc zr).toArray, .bool false] | some r => .tuple #[.agg (enc r).toArray, .bool true]
theorem getW_eq {X : List Nf} {n rec : Int} {f : Fl} (h : lk n X = some f) : getW X n rec = if rec < 0 then none else f.2[rec.toNat]? := by rw [getW, h]; rfl
theorem Get_c {H : AH} {b : Nat} {X : List Nf} {den : Int} {ft : Nat → Prop} (h : StAt H b X den ft) (hX : OkX X) (n rec : Int) :
    ACalls Tryz.prog 31 #[.pointer (some ⟨b, 0, none⟩), .int .i64 n, .int .i64 rec] H (fun v H' => v = getV (getW X n rec) ∧ H = H') := by
  obtain ⟨bm, ms, h1, rfl, _⟩ := h
  have r0 : H.rd ⟨b, 0, none⟩ = some (.map (some bm)) := by rw [rd_find h1.top]; rfl
  have hmp : H.mp bm = some (ms.map MF.ent) := by rw [AH.mp, h1.map]
  refine ACalls.enter2 Tryz.func31 rfl Tryz.ntmps31 Tryz.results31 (by simp) ?_; simp (dsimp := false) (maxSteps := 4000000) only [go_sem]
  refine AllB.mk fun b1 h_b1 => ?_; have hn_b1 := h_b1; (try simp only [fresh_add, fresh_set, ne_eq] at hn_b1); have hr_b1 := hn_b1; (try simp only [@eq_comm Nat b1] at hr_b1); simp (dsimp := false) (maxSteps := 4000000) only [hn_b1, hr_b1, go_sem]
  have n1 : ¬ b1 = b := h_b1.ne_find h1.top
  have n2 : ¬ b1 = bm := h_b1.ne_find h1.map
  rcases h1.at_ n with ⟨hm, hl⟩ | ⟨k, m, hm, hk, hn, hl⟩
  · have hg : getW (ms.map MF.nf) n rec = none := by rw [getW, hl]; rfl
    rw [hg]
    
    simp (dsimp := false) (maxSteps := 4000000) only [r0, n1, n2, hmp, hm, hn_b1, hr_b1, go_sem]
    refine AllB.mk fun b2 h_b2 => ?_; have hn_b2 := h_b2; (try simp only [fresh_add, fresh_set, ne_eq] at hn_b2); have hr_b2 := hn_b2; (try simp only [@eq_comm Nat b2] at hr_b2); simp (dsimp := false) (maxSteps := 4000000) only [hn_b1, hr_b1, hn_b2, hr_b2, go_sem]
    by_cases hr : rec < 0
    · simp (dsimp := false) (maxSteps := 4000000) only [hr, hn_b1, hr_b1, hn_b2, hr_b2, go_sem]
      exact ⟨H, (AH.le_add (AH.le_add (AH.le_refl _) ((by simp only [fresh_add, fresh_set, ne_eq, hn_b1, not_false_eq_true, and_self] : Fresh _ b1).2)) ((by simp only [fresh_add, fresh_set, ne_eq, hn_b2, not_false_eq_true, and_self] : Fresh _ b2).2)), (by first | exact ⟨rfl, rfl⟩ | rfl)⟩
    · have hr2 : (0 : Int) ≤ rec := by omega
      simp (dsimp := false) (maxSteps := 4000000) only [hr, hr2, hn_b1, hr_b1, hn_b2, hr_b2, go_sem]
      exact ⟨H, (AH.le_add (AH.le_add (AH.le_refl _) ((by simp only [fresh_add, fresh_set, ne_eq, hn_b1, not_false_eq_true, and_self] : Fresh _ b1).2)) ((by simp only [fresh_add, fresh_set, ne_eq, hn_b2, not_false_eq_true, and_self] : Fresh _ b2).2)), (by first | exact ⟨rfl, rfl⟩ | rfl)⟩
    
  · rw [getW_eq hl]
    obtain ⟨_, hgd, _⟩ := hX.lk hl
    obtain ⟨hl1, hl2⟩ := goodF_len hgd
    dsimp only at hl1 hl2
    have hmem := List.mem_of_getElem? hk
    have n3 : ¬ b1 = m.blk := h_b1.ne_find (h1.rows m hmem).1
    have hs := h1.slc hmem (by omega)
    unfold MF.val fv at hm
    
    simp (dsimp := false) (maxSteps := 4000000) only [r0, n1, n2, hmp, hm, hn_b1, hr_b1, go_sem]
    refine AllB.mk fun b2 h_b2 => ?_; have hn_b2 := h_b2; (try simp only [fresh_add, fresh_set, ne_eq] at hn_b2); have hr_b2 := hn_b2; (try simp only [@eq_comm Nat b2] at hr_b2); simp (dsimp := false) (maxSteps := 4000000) only [hn_b1, hr_b1, hn_b2, hr_b2, go_sem]
    have n4 : ¬ b2 = m.blk := hn_b2.2.ne_find (h1.rows m hmem).1
    by_cases hr : rec < 0
    · simp (dsimp := false) (maxSteps := 4000000) only [hr, hn_b1, hr_b1, hn_b2, hr_b2, go_sem]
      exact ⟨H, (AH.le_add (AH.le_add (AH.le_refl _) ((by simp only [fresh_add, fresh_set, ne_eq, hn_b1, not_false_eq_true, and_self] : Fresh _ b1).2)) ((by simp only [fresh_add, fresh_set, ne_eq, hn_b2, not_false_eq_true, and_self] : Fresh _ b2).2)), (by first | exact ⟨rfl, rfl⟩ | rfl)⟩
    by_cases hr2 : (m.R.length : Int) ≤ rec
    · have e : m.R[rec.toNat]? = none := List.getElem?_eq_none (by omega)
      simp (dsimp := false) (maxSteps := 4000000) only [hr, hr2, hn_b1, hr_b1, hn_b2, hr_b2, go_sem]
      rw [e]
      exact ⟨H, (AH.le_add (AH.le_add (AH.le_refl _) ((by simp only [fresh_add, fresh_set, ne_eq, hn_b1, not_false_eq_true, and_self] : Fresh _ b1).2)) ((by simp only [fresh_add, fresh_set, ne_eq, hn_b2, not_false_eq_true, and_self] : Fresh _ b2).2)), (by first | exact ⟨rfl, rfl⟩ | rfl)⟩
    obtain ⟨i, rfl⟩ : ∃ i : Nat, rec = i := ⟨rec.toNat, by omega⟩
    obtain ⟨r, hri⟩ := get_some (l := m.R) (i := i) (by omega)
    obtain ⟨b_, o, he, hrow, _⟩ := hs.get (Go.AX.map_get (f := enc) hri)
    cases he
    rw [Nat.zero_add] at hrow
    have hlt : (i : Int) < (m.R.length : Int) := by omega
    have h0 : (0 : Int) ≤ (i : Int) := by omega
    simp (dsimp := false) (maxSteps := 4000000) only [hr, hr2, hrow, hlt, h0, n3, n4, enc_len, enc_scal, lput_enc, take_enc, hn_b1, hr_b1, hn_b2, hr_b2, go_sem]
    rw [hri]
    exact ⟨H, (AH.le_add (AH.le_add (AH.le_refl _) ((by simp only [fresh_add, fresh_set, ne_eq, hn_b1, not_false_eq_true, and_self] : Fresh _ b1).2)) ((by simp only [fresh_add, fresh_set, ne_eq, hn_b2, not_false_eq_true, and_self] : Fresh _ b2).2)), (by first | exact ⟨rfl, rfl⟩ | rfl)⟩
    
end Go.Proofs.YtbhamhhjicehaaaGreatDoor.Ifs

/- the reference's store: at, Get, Same. -/
namespace Go.Proofs.YtbhamhhjicehaaaGreatDoor.Ifs
set_option linter.unusedSimpArgs false
set_option linter.unusedVariables false
open Go Go.AX Go.Proofs Ty Go.Proofs.YtbhamhhjicehaaaGreatDoor.File
set_option maxHeartbeats 4000000
set_option maxRecDepth 10000

structure RF where
  n : Int
  p : Int
  base : Option Addr
  cap : Nat
  R : List Rc
def RF.nf (z : RF) : Nf := (z.n, z.p, z.R)
def RF.val (z : RF) : Value := fv z.p z.base z.R.length z.cap
def encN (z : RF) : List Value := [.int .i64 z.n, .int .i64 z.p, .slice z.base z.R.length z.cap]
structure NmIn (H : AH) (base : Option Addr) (cap : Nat) (Z : List RF) (rd : Nat → Prop) : Prop where
  out : SlcIn H 3 base cap (Z.map encN)
  inn : ∀ z ∈ Z, SlcIn H 4 z.base z.cap (z.R.map enc)
  r1 : Z = [] ∨ ∀ a, base = some a → rd a.block
  r2 : ∀ z ∈ Z, z.R = [] ∨ ∀ a, z.base = some a → rd a.block
theorem NmIn.keep {H H' : AH} {base : Option Addr} {cap : Nat} {Z : List RF} {rd ex : Nat → Prop} (h : NmIn H base cap Z rd) (hK : Keep H H' ex) (hd : ∀ x, rd x → ¬ ex x) : NmIn H' base cap Z rd :=
  ⟨h.out.past (h.r1.imp (by rintro rfl; rfl) fun h a ha => hd _ (h a ha)) hK, fun z hz => (h.inn z hz).past ((h.r2 z hz).imp (by intro e; rw [e]; rfl) fun h a ha => hd _ (h a ha)) hK, h.r1, h.r2⟩
theorem NmIn.mono {H : AH} {base : Option Addr} {cap : Nat} {Z : List RF} {rd rd' : Nat → Prop} (h : NmIn H base cap Z rd) (hd : ∀ x, rd x → rd' x) : NmIn H base cap Z rd' :=
  ⟨h.out, h.inn, h.r1.imp id fun h a ha => hd _ (h a ha), fun z hz => (h.r2 z hz).imp id fun h a ha => hd _ (h a ha)⟩
def RefAt (H : AH) (b : Nat) (Z : List RF) (den : Int) (rd : Nat → Prop) : Prop := ∃ base cap, H.find b = some (.cells [.slice base Z.length cap, .int .i64 den] 50 2) ∧ NmIn H base cap Z rd ∧ ¬ rd b
theorem RefAt.keep {H H' : AH} {b : Nat} {Z : List RF} {den : Int} {rd ex : Nat → Prop} (h : RefAt H b Z den rd) (hK : Keep H H' ex) (hd : ∀ x, rd x → ¬ ex x) (hb : ¬ ex b) : RefAt H' b Z den rd := by
  obtain ⟨base, cap, h1, h2, h3⟩ := h
  exact ⟨base, cap, hK.find hb h1, h2.keep hK hd, h3⟩
theorem lk_app {n : Int} {B : List Nf} : ∀ {A : List Nf}, lk n A = none → lk n (A ++ B) = lk n B
  | [], _ => rfl
  | x :: A, h => by
    rw [lk] at h
    split at h
    · cases h
    · rename_i e
      rw [List.cons_append, lk, if_neg e]; exact lk_app h
theorem lk_step {n : Int} {Z : List RF} {i : Nat} {z : RF} (h : lk n ((Z.take i).map RF.nf) = none) (hz : Z[i]? = some z) :
    (z.n = n → lk n (Z.map RF.nf) = some (z.p, z.R)) ∧ (z.n ≠ n → lk n ((Z.take (i + 1)).map RF.nf) = none) := by
  have hlt := Go.AX.lt_of_get hz
  have e : Z.drop i = z :: Z.drop (i + 1) := by
    rw [List.drop_eq_getElem_cons hlt]
    rw [List.getElem?_eq_getElem hlt] at hz; cases hz; rfl
  refine ⟨fun hn => ?_, fun hn => ?_⟩
  · rw [← List.take_append_drop i Z, List.map_append, lk_app h, e, List.map_cons, lk]
    exact if_pos hn
  · rw [List.take_add_one, hz, List.map_append, lk_app h]
    simp only [Option.toList, List.map_cons, List.map_nil, lk]
    exact if_neg hn
def AtOk (n : Int) (Z : List RF) (r : Int) : Prop := (r = -1 ∧ lk n (Z.map RF.nf) = none) ∨ ∃ (i : Nat) (z : RF), r = i ∧ Z[i]? = some z ∧ z.n = n ∧ lk n (Z.map RF.nf) = some (z.p, z.R)
theorem at_c {H : AH} {b : Nat} {Z : List RF} {den : Int} {rd : Nat → Prop} (h : RefAt H b Z den rd) (n : Int) :
    ACalls Tryz.prog 98 #[.pointer (some ⟨b, 0, none⟩), .int .i64 n] H (fun v H' => ∃ r, v = .int .i64 r ∧ AtOk n Z r ∧ H = H') := by
  obtain ⟨base, cap, ht, hZ, _⟩ := h
  have r0 : H.rd ⟨b, 0, none⟩ = some (.slice base Z.length cap) := by rw [rd_find ht]; rfl
  have hbig := hZ.out.big
  simp only [List.length_map] at hbig
  refine ACalls.enter2 Tryz.func98 rfl Tryz.ntmps98 Tryz.results98 (by simp) ?_; simp (dsimp := false) (maxSteps := 4000000) only [go_sem]
  refine AWp.loopo (ι := Nat) (fun i => i ≤ Z.length ∧ lk n ((Z.take i).map RF.nf) = none) (fun i => [(5, .int .i64 i), (0, .pointer (some ⟨b, 0, none⟩)), (1, .int .i64 n)]) (fun _ => H) (fun i => Z.length - i) 0 ⟨by omega, rfl⟩ (FrLe.of_lks ?_) (AH.le_refl _) fun i hi Q again out => ?_
  · simp (dsimp := false) (maxSteps := 4000000) only [go_sem]
  obtain ⟨hi, hno⟩ := hi
  by_cases hlt : (i : Int) < Z.length
  case neg =>
    obtain rfl : i = Z.length := by omega
    rw [List.take_length] at hno
    simp (dsimp := false) (maxSteps := 4000000) only [r0, hlt, go_sem]
    refine out _ _ _ (by simp) ?_
    simp (dsimp := false) (maxSteps := 4000000) only [go_sem]
    exact ⟨H, AH.le_refl _, -1, rfl, .inl ⟨rfl, hno⟩, rfl⟩
  obtain ⟨z, hz⟩ := get_some (l := Z) (i := i) (by omega)
  obtain ⟨b_, o, rfl, _, hrd⟩ := hZ.out.get (Go.AX.map_get (f := encN) hz)
  have rz := hrd 0 _ rfl
  simp only [Nat.add_zero] at rz
  have ee := i64_succ (i := i) (by omega)
  have hi0 : (0 : Int) ≤ (i : Int) := by omega
  by_cases hn : z.n = n
  · simp (dsimp := false) (maxSteps := 4000000) only [r0, hlt, rz, hn, hi0, go_sem]
    refine out _ _ _ (by simp) ?_
    simp (dsimp := false) (maxSteps := 4000000) only [go_sem]
    exact ⟨H, AH.le_refl _, i, rfl, .inr ⟨i, z, rfl, hz, hn, (lk_step hno hz).1 hn⟩, rfl⟩
  · simp (dsimp := false) (maxSteps := 4000000) only [r0, hlt, rz, hn, hi0, ee, go_sem]
    exact again (i + 1) _ _ ⟨by omega, (lk_step hno hz).2 hn⟩ (FrLe.of_lks (by simp (dsimp := false) (maxSteps := 4000000) only [go_sem])) (AH.le_refl _) (by omega)
end Go.Proofs.YtbhamhhjicehaaaGreatDoor.Ifs

/- ifs: own, Set. -/
namespace Go.Proofs.YtbhamhhjicehaaaGreatDoor.Ifs
set_option linter.unusedSimpArgs false
set_option linter.unusedVariables false
open Go Go.AX Go.Proofs Ty Go.Proofs.YtbhamhhjicehaaaGreatDoor.File Go.Proofs.YtbhamhhjicehaaaGreatDoor.Err
set_option maxHeartbeats 4000000
set_option maxRecDepth 10000

theorem Keep.set {H : AH} {b : Nat} {k : ABlk} : Keep H (H.set b k) (· = b) := ⟨rfl, fun b' hb _ => by rw [find_set, if_neg hb]⟩
theorem own_c (p : Int) (R : List Rc) (base : Option Addr) (cap : Nat) (H : AH) (hs : SlcIn H 4 base cap (R.map enc)) (h0 : R.length ≠ 0) (hR : R.length ≤ 4096) :
    ACalls Tryz.prog 46 #[fv p base R.length cap] H (fun v H' => ∃ b bs, Fresh H b ∧ v = fv p (some ⟨b, 0, none⟩) R.length R.length ∧ R.length * 4 ≤ bs ∧ H' = H.add b (.cells (R.map enc).flatten 76 bs)) := by
  unfold fv
  refine ACalls.enter2 Tryz.func46 rfl Tryz.ntmps46 Tryz.results46 (by simp) ?_; simp (dsimp := false) (maxSteps := 4000000) only [go_sem]
  refine AllB.mk fun b1 h_b1 => ?_; have hn_b1 := h_b1; (try simp only [fresh_add, fresh_set, ne_eq] at hn_b1); have hr_b1 := hn_b1; (try simp only [@eq_comm Nat b1] at hr_b1); simp (dsimp := false) (maxSteps := 4000000) only [hn_b1, hr_b1, go_sem]
  refine AllB.mk fun b2 h_b2 => ?_; have hn_b2 := h_b2; (try simp only [fresh_add, fresh_set, ne_eq] at hn_b2); have hr_b2 := hn_b2; (try simp only [@eq_comm Nat b2] at hr_b2); simp (dsimp := false) (maxSteps := 4000000) only [hn_b1, hr_b1, hn_b2, hr_b2, go_sem]
  refine (Clone_at R base cap _ ((hs.add (by simp only [fresh_add, ne_eq, hn_b1, not_false_eq_true, and_self] : Fresh _ b1)).add (by simp only [fresh_add, ne_eq, hn_b2, not_false_eq_true, and_self] : Fresh _ b2)) hR h0).mono ?_; rintro _ _ ⟨b3, c, bs, h_b3, rfl, hc, hbs, rfl⟩
  have hn_b3 := h_b3; (try simp only [fresh_add, fresh_set, ne_eq] at hn_b3); have hr_b3 := hn_b3; (try simp only [@eq_comm Nat b3] at hr_b3)
  simp (dsimp := false) (maxSteps := 4000000) only [hn_b1, hr_b1, hn_b2, hr_b2, hn_b3, hr_b3, go_sem]
  refine (Clip_c _ _ _ _ hc).mono ?_; rintro _ _ ⟨rfl, rfl⟩
  simp (dsimp := false) (maxSteps := 4000000) only [hn_b1, hr_b1, hn_b2, hr_b2, hn_b3, hr_b3, go_sem]
  exact ⟨H.add b3 (.cells (R.map enc).flatten 76 bs), (by refine AH.le_cons ?_ ?_; (show AH.find _ _ = _; simp only [find_add_self, find_add_ne, find_fresh, fresh_add, fresh_set, ne_eq, not_false_eq_true, true_and, and_true, and_self, hn_b1, hr_b1, hn_b2, hr_b2, hn_b3, hr_b3]); (repeat (first | exact AH.le_refl _ | refine AH.le_add ?_ ?_)); all_goals (first | exact AH.le_refl _ | (show AH.find _ _ = _; simp only [find_add_self, find_add_ne, find_fresh, fresh_add, fresh_set, ne_eq, not_false_eq_true, true_and, and_true, and_self, hn_b1, hr_b1, hn_b2, hr_b2, hn_b3, hr_b3]))), b3, bs, hn_b3.2.2, rfl, hbs, rfl⟩
theorem setMs {ms : List MF} {k : Nat} {m m' : MF} (hk : ms[k]? = some m) (hn : m'.n = m.n) (hd : Kd (ms.map MF.nf)) : (ms.set k m').map MF.nf = rp m.n (m'.p, m'.R) (ms.map MF.nf) := by
  apply List.ext_getElem?
  intro j
  rw [List.getElem?_map, List.getElem?_set]
  simp only [rp, List.getElem?_map, List.map_map]
  have hlt := Go.AX.lt_of_get hk
  by_cases e : k = j
  · subst e
    rw [if_pos rfl, if_pos hlt, hk]
    simp [MF.nf, hn]
  · rw [if_neg e]
    cases hj : ms[j]? with
    | none => rfl
    | some x =>
      have : x.n ≠ m.n := fun he => by
        have h1 : ((ms.map MF.nf).map (·.1))[j]? = some m.n := by simp [hj, MF.nf, he]
        have h2 : ((ms.map MF.nf).map (·.1))[k]? = some m.n := by simp [hk, MF.nf]
        exact e ((List.getElem?_inj (by simpa using hlt) hd).1 (h2.trans h1.symm))
      simp [MF.nf, this]
theorem map_set_same {α β : Type} {f : α → β} {l : List α} {k : Nat} {a a' : α} (hk : l[k]? = some a) (h : f a' = f a) : (l.set k a').map f = l.map f := by
  apply List.ext_getElem?
  intro j
  rw [List.getElem?_map, List.getElem?_set, List.getElem?_map]
  by_cases e : k = j
  · subst e
    rw [if_pos rfl, if_pos (Go.AX.lt_of_get hk), hk]
    simp [h]
  · rw [if_neg e]
theorem blk_ne {ms : List MF} (hd : (ms.map (·.blk)).Nodup) {k j : Nat} {m x : MF} (hk : ms[k]? = some m) (hj : ms[j]? = some x) (e : k ≠ j) : x.blk ≠ m.blk := fun he => by
  have h1 : (ms.map (·.blk))[j]? = some m.blk := by simp [hj, he]
  have h2 : (ms.map (·.blk))[k]? = some m.blk := by simp [hk]
  exact e ((List.getElem?_inj (by simpa using Go.AX.lt_of_get hk) hd).1 (h2.trans h1.symm))
theorem StIn.set1 {H : AH} {b bm k : Nat} {ms : List MF} {den : Int} {m : MF} {R' : List Rc} (h : StIn H b bm ms den) (hk : ms[k]? = some m) (hl : R'.length = m.R.length) :
    StIn (H.set m.blk (.cells (R'.map enc).flatten 76 m.bs)) b bm (ms.set k { m with R := R' }) den := by
  have hmem := List.mem_of_getElem? hk
  refine ⟨?_, ?_, fun x hx => ?_, ?_, ?_⟩
  · rw [find_set, if_neg (fun e => h.ne2 hmem e.symm)]; exact h.top
  · rw [find_set, if_neg (fun e => h.ne3 hmem e.symm), map_set_same hk (by simp [MF.ent, MF.val, hl])]; exact h.map
  · obtain ⟨j, hj⟩ := List.mem_iff_getElem?.1 hx
    rw [List.getElem?_set] at hj
    by_cases e : k = j
    · rw [if_pos e] at hj
      split at hj
      · cases hj
        refine ⟨by rw [find_set, if_pos rfl], ?_⟩
        have := (h.rows m hmem).2
        dsimp only; omega
      · cases hj
    · rw [if_neg e] at hj
      have := h.rows x (List.mem_of_getElem? hj)
      exact ⟨by rw [find_set, if_neg (blk_ne h.nd hk hj e)]; exact this.1, this.2⟩
  · exact (congrArg List.Nodup (map_set_same (f := MF.blk) (a' := { m with R := R' }) hk rfl)).mpr h.nd
  · rw [setMs (m' := { m with R := R' }) hk rfl h.kd]; exact rp_kd h.kd
theorem StIn.ft1 {b bm k : Nat} {ms : List MF} {m m' : MF} (hk : ms[k]? = some m) (hb : m'.blk = m.blk) {x : Nat} (hx : ftOf b bm (ms.set k m') x) : ftOf b bm ms x := by
  rcases hx with hx | hx | ⟨y, hy, rfl⟩
  · exact .inl hx
  · exact .inr (.inl hx)
  · rcases List.mem_or_eq_of_mem_set hy with hy | rfl
    · exact .inr (.inr ⟨y, hy, rfl⟩)
    · exact .inr (.inr ⟨m, List.mem_of_getElem? hk, hb⟩)
theorem StIn.ft2 {b bm k : Nat} {ms : List MF} {m m' : MF} (hk : ms[k]? = some m) (hb : m'.blk = m.blk) {x : Nat} (hx : ftOf b bm ms x) : ftOf b bm (ms.set k m') x := by
  rcases hx with hx | hx | ⟨y, hy, rfl⟩
  · exact .inl hx
  · exact .inr (.inl hx)
  · obtain ⟨j, hj⟩ := List.mem_iff_getElem?.1 hy
    by_cases e : k = j
    · subst e
      rw [hk] at hj; cases hj
      exact .inr (.inr ⟨m', List.mem_iff_getElem?.2 ⟨k, by rw [List.getElem?_set_self (Go.AX.lt_of_get hk)]⟩, hb.symm⟩)
    · exact .inr (.inr ⟨y, List.mem_iff_getElem?.2 ⟨j, by rw [List.getElem?_set_ne e]; exact hj⟩, rfl⟩)
theorem Set_c {H : AH} {b : Nat} {X : List Nf} {den : Int} {ft : Nat → Prop} (h : StAt H b X den ft) (hX : OkX X) (n rec : Int) (v : Rc) :
    ACalls Tryz.prog 61 #[.pointer (some ⟨b, 0, none⟩), .int .i64 n, .int .i64 rec, .agg (enc v).toArray] H (fun u H' => u = .bool (setOk X n rec) ∧ StAt H' b (setX X n rec v) den ft ∧ Keep H H' ft) := by
  have hget := fun H1 (h1 : StAt H1 b X den ft) => Get_c h1 hX n rec
  refine ACalls.enter2 Tryz.func61 rfl Tryz.ntmps61 Tryz.results61 (by simp) ?_; simp (dsimp := false) (maxSteps := 4000000) only [enc_len, enc_scal, lput_enc, take_enc, go_sem]
  refine AllB.mk fun b7 h_b7 => ?_; have hn_b7 := h_b7; (try simp only [fresh_add, fresh_set, ne_eq] at hn_b7); have hr_b7 := hn_b7; (try simp only [@eq_comm Nat b7] at hr_b7); simp (dsimp := false) (maxSteps := 4000000) only [enc_len, enc_scal, lput_enc, take_enc, hn_b7, hr_b7, go_sem]
  have k1 : StAt (H.add b7 (.cells (enc v) 76 4)) b X den ft := h.keep (Keep.add h_b7) (ex := fun _ => False) fun _ _ h => h
  refine (hget _ k1).mono ?_
  rintro _ _ ⟨rfl, rfl⟩
  cases hg : getW X n rec with
  | none =>
    have ho : setOk X n rec = false := by simp [setOk, hg]
    have hx : setX X n rec v = X := by simp [setX, ho]
    rw [ho, hx]
    
    simp only [getV]
    simp (dsimp := false) (maxSteps := 4000000) only [enc_len, enc_scal, lput_enc, take_enc, hn_b7, hr_b7, go_sem]
    refine AllB.mk fun b9 h_b9 => ?_; have hn_b9 := h_b9; (try simp only [fresh_add, fresh_set, ne_eq] at hn_b9); have hr_b9 := hn_b9; (try simp only [@eq_comm Nat b9] at hr_b9); simp (dsimp := false) (maxSteps := 4000000) only [enc_len, enc_scal, lput_enc, take_enc, hn_b7, hr_b7, hn_b9, hr_b9, go_sem]
    exact ⟨H, (AH.le_add (AH.le_add (AH.le_refl _) ((by simp only [enc_len, enc_scal, lput_enc, take_enc, fresh_add, fresh_set, ne_eq, hn_b7, not_false_eq_true, and_self] : Fresh _ b7).2)) ((by simp only [enc_len, enc_scal, lput_enc, take_enc, fresh_add, fresh_set, ne_eq, hn_b9, not_false_eq_true, and_self] : Fresh _ b9).2)), h, Keep.refl⟩
    
  | some r =>
    by_cases h0 : rec = 0
    · subst h0
      have ho : setOk X n 0 = false := by simp [setOk]
      have hx : setX X n 0 v = X := by simp [setX, ho]
      rw [ho, hx]
      
      simp only [getV]
      simp (dsimp := false) (maxSteps := 4000000) only [enc_len, enc_scal, lput_enc, take_enc, hn_b7, hr_b7, go_sem]
      refine AllB.mk fun b9 h_b9 => ?_; have hn_b9 := h_b9; (try simp only [fresh_add, fresh_set, ne_eq] at hn_b9); have hr_b9 := hn_b9; (try simp only [@eq_comm Nat b9] at hr_b9); simp (dsimp := false) (maxSteps := 4000000) only [enc_len, enc_scal, lput_enc, take_enc, hn_b7, hr_b7, hn_b9, hr_b9, go_sem]
      exact ⟨H, (AH.le_add (AH.le_add (AH.le_refl _) ((by simp only [enc_len, enc_scal, lput_enc, take_enc, fresh_add, fresh_set, ne_eq, hn_b7, not_false_eq_true, and_self] : Fresh _ b7).2)) ((by simp only [enc_len, enc_scal, lput_enc, take_enc, fresh_add, fresh_set, ne_eq, hn_b9, not_false_eq_true, and_self] : Fresh _ b9).2)), h, Keep.refl⟩
      
    have ho : setOk X n rec = true := by simp [setOk, hg, h0]
    obtain ⟨bm, ms, h1, rfl, hft⟩ := h
    obtain ⟨f, hf⟩ : ∃ f, lk n (ms.map MF.nf) = some f := by
      cases hl : lk n (ms.map MF.nf) with
      | none => rw [getW, hl] at hg; cases hg
      | some f => exact ⟨f, rfl⟩
    have hx : setX (ms.map MF.nf) n rec v = rp n (f.1, f.2.set rec.toNat v) (ms.map MF.nf) := by simp [setX, ho, hf]
    rw [getW_eq hf] at hg
    have hr0 : ¬ rec < 0 := fun h => by rw [if_pos h] at hg; cases hg
    rw [if_neg hr0] at hg
    obtain ⟨i, rfl⟩ : ∃ i : Nat, rec = i := ⟨rec.toNat, by omega⟩
    have hi := Go.AX.lt_of_get hg
    simp only [Int.toNat_natCast] at hi
    rcases h1.at_ n with ⟨hm, hl⟩ | ⟨k, m, hm, hk, hn, hl⟩
    · rw [hl] at hf; cases hf
    rw [hl] at hf; cases hf
    dsimp only at hi hg hx
    have hmem := List.mem_of_getElem? hk
    have r0 : H.rd ⟨b, 0, none⟩ = some (.map (some bm)) := by rw [rd_find h1.top]; rfl
    have hmp : H.mp bm = some (ms.map MF.ent) := by rw [AH.mp, h1.map]
    obtain ⟨hrow, hbs⟩ := h1.rows m hmem
    have hw : H.wrs m.blk (i * 4) (enc v) = some (H.set m.blk (.cells ((m.R.set i v).map enc).flatten 76 m.bs)) := by
      have hl4 := flat4 m.R
      unfold AH.wrs
      rw [hrow]
      simp only
      rw [if_pos ⟨by rw [enc_len, hl4]; omega, by rw [hl4]; exact hbs, enc_scal v⟩, flat_lput (rows4 m.R) i (enc v) (by simpa using hi) (enc_len v), List.map_set]
    have n1 : ¬ b7 = b := h_b7.ne_find h1.top
    have n2 : ¬ b7 = bm := h_b7.ne_find h1.map
    have n3 : ¬ b7 = m.blk := h_b7.ne_find hrow
    have hlt : (i : Int) < (m.R.length : Int) := by omega
    have hi0 : (0 : Int) ≤ (i : Int) := by omega
    rw [ho, hx]
    unfold MF.val fv at hm
    
    simp only [getV]
    simp (dsimp := false) (maxSteps := 4000000) only [enc_len, enc_scal, lput_enc, take_enc, hn_b7, hr_b7, go_sem]
    refine AllB.mk fun b9 h_b9 => ?_; have hn_b9 := h_b9; (try simp only [fresh_add, fresh_set, ne_eq] at hn_b9); have hr_b9 := hn_b9; (try simp only [@eq_comm Nat b9] at hr_b9); simp (dsimp := false) (maxSteps := 4000000) only [enc_len, enc_scal, lput_enc, take_enc, hn_b7, hr_b7, hn_b9, hr_b9, go_sem]
    have n4 : ¬ b9 = b := hn_b9.2.ne_find h1.top
    have n5 : ¬ b9 = bm := hn_b9.2.ne_find h1.map
    have n6 : ¬ b9 = m.blk := hn_b9.2.ne_find hrow
    simp (dsimp := false) (maxSteps := 4000000) only [h0, enc_len, enc_scal, lput_enc, take_enc, hn_b7, hr_b7, hn_b9, hr_b9, go_sem]
    refine AWp.gen [.pu, .pu, .pu, .rd, .pu, .ch, .pu, .pu, .rd, .pu, .ch] [0, 1, 3, 7, 0, 31, 63, 0, 0, 511, 1023] 6 (_) mixed (by kernel_rfl) (AH.le_refl _) ?_
    simp (dsimp := false) (maxSteps := 4000000) only [r0, n1, n2, n3, n4, n5, n6, hmp, hm, hlt, hi0, hw, enc_len, enc_scal, lput_enc, take_enc, hn_b7, hr_b7, hn_b9, hr_b9, go_sem]
    refine ⟨_, AH.le_add (AH.le_add (AH.le_refl _) (by rw [find_set, if_neg n3]; exact h_b7.2)) (by rw [find_add, if_neg hn_b9.1, find_set, if_neg n6]; exact hn_b9.2.2), ⟨bm, _, h1.set1 hk (by simp), ?_, fun x => (hft x).trans ⟨StIn.ft2 (m' := { m with R := m.R.set i v }) hk rfl, StIn.ft1 (m' := { m with R := m.R.set i v }) hk rfl⟩⟩, Keep.set.mono fun x hx => (hft x).2 (.inr (.inr ⟨m, hmem, hx⟩))⟩
    rw [setMs (m' := { m with R := m.R.set i v }) hk rfl h1.kd, hn]
    
end Go.Proofs.YtbhamhhjicehaaaGreatDoor.Ifs

/- ifs: Add. -/
namespace Go.Proofs.YtbhamhhjicehaaaGreatDoor.Ifs
set_option linter.unusedSimpArgs false
set_option linter.unusedVariables false
open Go Go.AX Go.Proofs Ty Go.Proofs.YtbhamhhjicehaaaGreatDoor.File Go.Proofs.YtbhamhhjicehaaaGreatDoor.Err
set_option maxHeartbeats 4000000
set_option maxRecDepth 10000

theorem Fresh.mk' {H : AH} {b c : Nat} {k : ABlk} (h : Fresh H b) (hn : ¬ b = c) : Fresh (H.set c k) b := ⟨h.1, by rw [find_set, if_neg hn]; exact h.2⟩
theorem StIn.app {H : AH} {b bm : Nat} {ms : List MF} {den : Int} {m : MF} {T : AH} (h : StIn H b bm ms den) (hf : Fresh H m.blk) (hl : lk m.n (ms.map MF.nf) = none) (hb : m.R.length * 4 ≤ m.bs)
    (hT : T = (H.set bm (.amap (ms.map MF.ent ++ [m.ent]))).add m.blk (.cells (m.R.map enc).flatten 76 m.bs)) : StIn T b bm (ms ++ [m]) den := by
  subst hT
  have e1 : b ≠ m.blk := fun e => by have := hf.2; rw [← e, h.top] at this; cases this
  have e2 : bm ≠ m.blk := fun e => by have := hf.2; rw [← e, h.map] at this; cases this
  refine ⟨?_, ?_, fun x hx => ?_, ?_, ?_⟩
  · rw [find_add, if_neg e1, find_set, if_neg h.ne1]; exact h.top
  · rw [find_add, if_neg e2, find_set, if_pos rfl]; simp
  · rcases List.mem_append.1 hx with hx | hx
    · have := h.rows x hx
      have e3 : x.blk ≠ m.blk := fun e => by have h2 := hf.2; rw [← e, this.1] at h2; cases h2
      exact ⟨by rw [find_add, if_neg e3, find_set, if_neg (h.ne3 hx)]; exact this.1, this.2⟩
    · rw [List.mem_singleton.1 hx]
      exact ⟨by rw [find_add, if_pos rfl], hb⟩
  · rw [List.map_append, List.nodup_append]
    refine ⟨h.nd, by simp, fun x hx y hy => ?_⟩
    obtain ⟨z, hz, rfl⟩ := List.mem_map.1 hx
    simp at hy; subst hy
    intro e
    have h2 := hf.2
    rw [← e, (h.rows z hz).1] at h2; cases h2
  · rw [List.map_append]
    have := lk_none.1 hl
    rw [Kd, List.map_append, List.nodup_append]
    refine ⟨h.kd, by simp, fun x hx y hy => ?_⟩
    obtain ⟨z, hz, rfl⟩ := List.mem_map.1 hx
    simp at hy; subst hy
    exact fun e => this z hz e
theorem StIn.ftA {b bm : Nat} {ms : List MF} {m : MF} {ft : Nat → Prop} (h : ∀ x, ftOf b bm ms x → ft x) {x : Nat} (hx : ftOf b bm (ms ++ [m]) x) : ft x ∨ x = m.blk := by
  rcases hx with hx | hx | ⟨y, hy, rfl⟩
  · exact .inl (h x (.inl hx))
  · exact .inl (h x (.inr (.inl hx)))
  · rcases List.mem_append.1 hy with hy | hy
    · exact .inl (h _ (.inr (.inr ⟨y, hy, rfl⟩)))
    · rw [List.mem_singleton.1 hy]; exact .inr rfl
theorem StIn.ftB {b bm : Nat} {ms : List MF} {m : MF} {ft : Nat → Prop} (h : ∀ x, ft x ↔ ftOf b bm ms x) {x : Nat} : (ft x ∨ x = m.blk) ↔ ftOf b bm (ms ++ [m]) x := by
  refine ⟨fun hx => ?_, fun hx => StIn.ftA (fun x => (h x).2) hx⟩
  rcases hx with hx | rfl
  · rcases (h x).1 hx with hx | hx | ⟨y, hy, rfl⟩
    · exact .inl hx
    · exact .inr (.inl hx)
    · exact .inr (.inr ⟨y, List.mem_append_left _ hy, rfl⟩)
  · exact .inr (.inr ⟨m, by simp, rfl⟩)
theorem Add_c {H : AH} {b : Nat} {X : List Nf} {den : Int} {ft : Nat → Prop} (h : StAt H b X den ft) (n p : Int) (R : List Rc) (base : Option Addr) (cap : Nat) (hs : SlcIn H 4 base cap (R.map enc)) :
    ACalls Tryz.prog 23 #[.pointer (some ⟨b, 0, none⟩), .int .i64 n, fv p base R.length cap] H (fun u H' => ∃ ft', u = .int .i64 (addE X n (p, R)) ∧ StAt H' b (addX X n (p, R)) den ft' ∧ Keep H H' ft ∧ ∀ x, ft' x → ft x ∨ Fresh H x) := by
  have hgood := fun H1 (h1 : SlcIn H1 4 base cap (R.map enc)) => File.Good_c p R base cap H1 h1
  have bad : ∀ {e : Int} {T : AH}, addE X n (p, R) = e → e ≠ 0 → H.le T → ∃ H', H'.le T ∧ ∃ ft', Value.int .i64 e = .int .i64 (addE X n (p, R)) ∧ StAt H' b (addX X n (p, R)) den ft' ∧ Keep H H' ft ∧ ∀ x, ft' x → ft x ∨ Fresh H x := fun {e T} he h0 hl => by
    have hx : addX X n (p, R) = X := by rw [addX, he, if_neg h0]
    exact ⟨H, hl, ft, by rw [he], by rw [hx]; exact h, Keep.refl, fun x h => .inl h⟩
  unfold fv at hgood ⊢
  refine ACalls.enter2 Tryz.func23 rfl Tryz.ntmps23 Tryz.results23 (by simp) ?_; simp (dsimp := false) (maxSteps := 4000000) only [go_sem]
  refine AllB.mk fun b5 h_b5 => ?_; have hn_b5 := h_b5; (try simp only [fresh_add, fresh_set, ne_eq] at hn_b5); have hr_b5 := hn_b5; (try simp only [@eq_comm Nat b5] at hr_b5); simp (dsimp := false) (maxSteps := 4000000) only [hn_b5, hr_b5, go_sem]
  by_cases a1 : n < 0
  · simp (dsimp := false) (maxSteps := 4000000) only [a1, hn_b5, hr_b5, go_sem]
    exact bad (by simp [addE, a1]) (by decide) (AH.le_add (AH.le_refl _) ((by simp only [fresh_add, fresh_set, ne_eq, hn_b5, not_false_eq_true, and_self] : Fresh _ b5).2))
  by_cases a2 : 64 ≤ n
  · simp (dsimp := false) (maxSteps := 4000000) only [a1, a2, hn_b5, hr_b5, go_sem]
    exact bad (by simp [addE, a2]) (by decide) (AH.le_add (AH.le_refl _) ((by simp only [fresh_add, fresh_set, ne_eq, hn_b5, not_false_eq_true, and_self] : Fresh _ b5).2))
  simp (dsimp := false) (maxSteps := 4000000) only [a1, a2, hn_b5, hr_b5, go_sem]
  refine (hgood _ (hs.add (by simp only [fresh_add, ne_eq, hn_b5, not_false_eq_true, and_self] : Fresh _ b5))).mono ?_; rintro _ _ ⟨rfl, rfl⟩
  cases hg : goodF p R with
  | false =>
    simp (dsimp := false) (maxSteps := 4000000) only [hn_b5, hr_b5, go_sem]
    exact bad (by simp [addE, a1, a2, hg]) (by decide) (AH.le_add (AH.le_refl _) ((by simp only [fresh_add, fresh_set, ne_eq, hn_b5, not_false_eq_true, and_self] : Fresh _ b5).2))
  | true =>
    obtain ⟨hl1, hl2⟩ := goodF_len hg
    obtain ⟨bm, ms, h1, rfl, hft⟩ := h
    have r0 : H.rd ⟨b, 0, none⟩ = some (.map (some bm)) := by rw [rd_find h1.top]; rfl
    have hmp : H.mp bm = some (ms.map MF.ent) := by rw [AH.mp, h1.map]
    have hms : ∀ es, H.mset bm es = some (H.set bm (.amap es)) := fun es => by rw [AH.mset, h1.map]
    have n1 : ¬ b5 = b := h_b5.ne_find h1.top
    have n2 : ¬ b5 = bm := h_b5.ne_find h1.map
    rcases h1.at_ n with ⟨hm, hl⟩ | ⟨k, m, hm, hk, hn, hl⟩
    · have he : addE (ms.map MF.nf) n (p, R) = 0 := by simp [addE, a1, a2, hg, hl]
      have hx : addX (ms.map MF.nf) n (p, R) = ms.map MF.nf ++ [(n, (p, R))] := by rw [addX, if_pos he]
      rw [he, hx]
      
      simp (dsimp := false) (maxSteps := 4000000) only [r0, n1, n2, hmp, hm, hn_b5, hr_b5, go_sem]
      refine AllB.mk fun b7 h_b7 => ?_; have hn_b7 := h_b7; (try simp only [fresh_add, fresh_set, ne_eq] at hn_b7); have hr_b7 := hn_b7; (try simp only [@eq_comm Nat b7] at hr_b7); simp (dsimp := false) (maxSteps := 4000000) only [hn_b5, hr_b5, hn_b7, hr_b7, go_sem]
      have n3 : ¬ b7 = b := hn_b7.2.ne_find h1.top
      have n4 : ¬ b7 = bm := hn_b7.2.ne_find h1.map
      refine AWp.gen [.pu, .pu, .pu, .rd, .pu, .rd, .ch, .ch] [0, 1, 3, 7, 0, 0, 32, 127] 7 (_) mixed (by kernel_rfl) (AH.le_refl _) ?_
      simp (dsimp := false) (maxSteps := 4000000) only [r0, n1, n2, n3, n4, hn_b5, hr_b5, hn_b7, hr_b7, go_sem]
      refine (own_c p R base cap _ ((hs.add (by simp only [fresh_add, ne_eq, hn_b5, not_false_eq_true, and_self] : Fresh _ b5)).add (by simp only [fresh_add, ne_eq, hn_b7, not_false_eq_true, and_self] : Fresh _ b7)) (by omega) (by omega)).mono ?_; rintro _ _ ⟨b8, bs, h_b8, rfl, hbs, rfl⟩
      have hn_b8 := h_b8; (try simp only [fresh_add, fresh_set, ne_eq] at hn_b8); have hr_b8 := hn_b8; (try simp only [@eq_comm Nat b8] at hr_b8)
      have n5 : ¬ b8 = b := hn_b8.2.2.ne_find h1.top
      have n6 : ¬ b8 = bm := hn_b8.2.2.ne_find h1.map
      simp (dsimp := false) (maxSteps := 4000000) only [n1, n2, n4, n6, hmp, hms, hm, hn_b5, hr_b5, hn_b7, hr_b7, hn_b8, hr_b8, go_sem]
      refine ⟨AH.le_add (AH.le_refl _) h_b8.2, (H.set bm (.amap (ms.map MF.ent ++ [(MF.mk n p b8 bs R).ent]))).add b8 (.cells (R.map enc).flatten 76 bs), ?_, fun x => ft x ∨ x = b8, ?_, ?_, ?_⟩
      · refine AH.le_cons (find_add_self _ _ _) ?_
        refine AH.le_add (AH.le_add (AH.le_add (AH.le_refl _) ?_) ?_) ?_
        · rw [find_set, if_neg n2]; exact h_b5.2
        · rw [find_add, if_neg hn_b7.1, find_set, if_neg n4]; exact hn_b7.2.2
        · rw [find_add, if_neg hn_b8.1, find_add, if_neg hn_b8.2.1, find_set, if_neg n6]; exact hn_b8.2.2.2
      · exact ⟨bm, ms ++ [MF.mk n p b8 bs R], h1.app hn_b8.2.2 hl hbs rfl, by rw [List.map_append]; rfl, fun x => StIn.ftB (m := MF.mk n p b8 bs R) hft⟩
      · exact (Keep.set.mono fun x hx => (hft x).2 (.inr (.inl hx))).trans (Keep.add (Fresh.mk' hn_b8.2.2 n6))
      · rintro x (hx | rfl)
        · exact .inl hx
        · exact .inr hn_b8.2.2
      
    · 
      unfold MF.val fv at hm
      simp (dsimp := false) (maxSteps := 4000000) only [r0, n1, n2, hmp, hm, hn_b5, hr_b5, go_sem]
      refine AllB.mk fun b7 h_b7 => ?_; have hn_b7 := h_b7; (try simp only [fresh_add, fresh_set, ne_eq] at hn_b7); have hr_b7 := hn_b7; (try simp only [@eq_comm Nat b7] at hr_b7); simp (dsimp := false) (maxSteps := 4000000) only [hn_b5, hr_b5, hn_b7, hr_b7, go_sem]
      exact bad (by simp [addE, a1, a2, hg, hl]) (by decide) (AH.le_add (AH.le_add (AH.le_refl _) ((by simp only [fresh_add, fresh_set, ne_eq, hn_b5, not_false_eq_true, and_self] : Fresh _ b5).2)) ((by simp only [fresh_add, fresh_set, ne_eq, hn_b7, not_false_eq_true, and_self] : Fresh _ b7).2))
      
end Go.Proofs.YtbhamhhjicehaaaGreatDoor.Ifs
