/- The engine: copy, clear and delete; bytes as a string; an append of zeros to nothing. -/
import Derived.Test.YtmkbpdlijfjgkaaDoorAx19
namespace Go.AX
set_option linter.unusedSimpArgs false
set_option linter.unusedVariables false
open Go Go.RowKit

section
variable {P : Program} {H : AH} {n d : Nat} {ds : List (Option Tmp)} {fr : Fr} {K : Fr → AH → Prop} {q : Bool} {ty : TypeId} {pos : String} {af : Array Edge} {rest : List Oper}
def CPY (P : Program) (ts : Array TypeId) (ty : TypeId) (as : List Value) (H : AH) (k : Value → AH → Prop) (_t : Lk (k, H) := .mk) : Prop := ASem P (do pure (.value (← Builtin.copy_ ts ty as.toArray))) H k
def CLR (P : Program) (ts : Array TypeId) (ty : TypeId) (as : List Value) (H : AH) (k : Value → AH → Prop) (_t : Lk (k, H) := .mk) : Prop := ASem P (do pure (.value (← Builtin.clear_ ts ty as.toArray))) H k
def DEL (P : Program) (ts : Array TypeId) (ty : TypeId) (as : List Value) (H : AH) (k : Value → AH → Prop) (_t : Lk (k, H) := .mk) : Prop := ASem P (do pure (.value (← Builtin.delete_ ts ty as.toArray))) H k
theorem maps_toArray (xs : Array Operand) (f : Operand → Value) : (xs.toList.map f).toArray = xs.map f := by rw [← Array.toList_map, Array.toArray_toList]
theorem T_copy {xs : Array Operand} {ts : Array TypeId} : vops q P n ds (⟨(some d), .call { callee := .builtin .copy, args := xs, argTypes := ts }, ty, pos, af, none⟩ :: rest) fr H K = (d < n ∧ q = false ∧ wvs fr xs.toList fun as => CPY P ts ty as H fun v H' => vops q P n ds rest ((d, v) :: fr) H' K) := by
  rw [← dok_some]
  apply propext
  constructor
  · rintro ⟨h1, h2, _, h3, h4⟩
    refine ⟨h1, h3, by simpa [Op.operands, Call.operands] using h2, ?_⟩
    show CPY P ts ty (xs.toList.map (evd fr)) H _
    unfold CPY
    rw [maps_toArray]; exact h4
  · rintro ⟨h1, h2, h3, h4⟩
    refine ⟨h1, by simpa [Op.operands, Call.operands] using h3, rfl, h2, ?_⟩
    have h4 : CPY P ts ty (xs.toList.map (evd fr)) H _ := h4
    unfold CPY at h4
    rw [maps_toArray] at h4; exact h4
theorem T_copy0 {xs : Array Operand} {ts : Array TypeId} : vops q P n ds (⟨none, .call { callee := .builtin .copy, args := xs, argTypes := ts }, ty, pos, af, none⟩ :: rest) fr H K = (q = false ∧ wvs fr xs.toList fun as => CPY P ts ty as H fun _ H' => vops q P n ds rest fr H' K) := by
  apply propext
  constructor
  · rintro ⟨_, h2, _, h3, h4⟩
    refine ⟨h3, by simpa [Op.operands, Call.operands] using h2, ?_⟩
    show CPY P ts ty (xs.toList.map (evd fr)) H _
    unfold CPY
    rw [maps_toArray]; exact h4
  · rintro ⟨h2, h3, h4⟩
    refine ⟨rfl, by simpa [Op.operands, Call.operands] using h3, rfl, h2, ?_⟩
    have h4 : CPY P ts ty (xs.toList.map (evd fr)) H _ := h4
    unfold CPY at h4
    rw [maps_toArray] at h4; exact h4
theorem T_clear {xs : Array Operand} {ts : Array TypeId} : vops q P n ds (⟨(some d), .call { callee := .builtin .clear, args := xs, argTypes := ts }, ty, pos, af, none⟩ :: rest) fr H K = (d < n ∧ q = false ∧ wvs fr xs.toList fun as => CLR P ts ty as H fun v H' => vops q P n ds rest ((d, v) :: fr) H' K) := by
  rw [← dok_some]
  apply propext
  constructor
  · rintro ⟨h1, h2, _, h3, h4⟩
    refine ⟨h1, h3, by simpa [Op.operands, Call.operands] using h2, ?_⟩
    show CLR P ts ty (xs.toList.map (evd fr)) H _
    unfold CLR
    rw [maps_toArray]; exact h4
  · rintro ⟨h1, h2, h3, h4⟩
    refine ⟨h1, by simpa [Op.operands, Call.operands] using h3, rfl, h2, ?_⟩
    have h4 : CLR P ts ty (xs.toList.map (evd fr)) H _ := h4
    unfold CLR at h4
    rw [maps_toArray] at h4; exact h4
theorem T_clear0 {xs : Array Operand} {ts : Array TypeId} : vops q P n ds (⟨none, .call { callee := .builtin .clear, args := xs, argTypes := ts }, ty, pos, af, none⟩ :: rest) fr H K = (q = false ∧ wvs fr xs.toList fun as => CLR P ts ty as H fun _ H' => vops q P n ds rest fr H' K) := by
  apply propext
  constructor
  · rintro ⟨_, h2, _, h3, h4⟩
    refine ⟨h3, by simpa [Op.operands, Call.operands] using h2, ?_⟩
    show CLR P ts ty (xs.toList.map (evd fr)) H _
    unfold CLR
    rw [maps_toArray]; exact h4
  · rintro ⟨h2, h3, h4⟩
    refine ⟨rfl, by simpa [Op.operands, Call.operands] using h3, rfl, h2, ?_⟩
    have h4 : CLR P ts ty (xs.toList.map (evd fr)) H _ := h4
    unfold CLR at h4
    rw [maps_toArray] at h4; exact h4
theorem T_delete {xs : Array Operand} {ts : Array TypeId} : vops q P n ds (⟨(some d), .call { callee := .builtin .delete, args := xs, argTypes := ts }, ty, pos, af, none⟩ :: rest) fr H K = (d < n ∧ q = false ∧ wvs fr xs.toList fun as => DEL P ts ty as H fun v H' => vops q P n ds rest ((d, v) :: fr) H' K) := by
  rw [← dok_some]
  apply propext
  constructor
  · rintro ⟨h1, h2, _, h3, h4⟩
    refine ⟨h1, h3, by simpa [Op.operands, Call.operands] using h2, ?_⟩
    show DEL P ts ty (xs.toList.map (evd fr)) H _
    unfold DEL
    rw [maps_toArray]; exact h4
  · rintro ⟨h1, h2, h3, h4⟩
    refine ⟨h1, by simpa [Op.operands, Call.operands] using h3, rfl, h2, ?_⟩
    have h4 : DEL P ts ty (xs.toList.map (evd fr)) H _ := h4
    unfold DEL at h4
    rw [maps_toArray] at h4; exact h4
theorem T_delete0 {xs : Array Operand} {ts : Array TypeId} : vops q P n ds (⟨none, .call { callee := .builtin .delete, args := xs, argTypes := ts }, ty, pos, af, none⟩ :: rest) fr H K = (q = false ∧ wvs fr xs.toList fun as => DEL P ts ty as H fun _ H' => vops q P n ds rest fr H' K) := by
  apply propext
  constructor
  · rintro ⟨_, h2, _, h3, h4⟩
    refine ⟨h3, by simpa [Op.operands, Call.operands] using h2, ?_⟩
    show DEL P ts ty (xs.toList.map (evd fr)) H _
    unfold DEL
    rw [maps_toArray]; exact h4
  · rintro ⟨h2, h3, h4⟩
    refine ⟨rfl, by simpa [Op.operands, Call.operands] using h3, rfl, h2, ?_⟩
    have h4 : DEL P ts ty (xs.toList.map (evd fr)) H _ := h4
    unfold DEL at h4
    rw [maps_toArray] at h4; exact h4
attribute [go_sem ↓] T_copy T_copy0 T_clear T_clear0 T_delete T_delete0
end

/-- Cells written over a row of a block of ours. -/
theorem arun_over {P : Program} {H H' : AH} {b o : Nat} {vs : List Value} {K : Unit → AH → Prop} (hw : H.wrs b o vs = some H') (hk : K () H') : arun P (storeCells ⟨b, o, none⟩ vs) H fun u A => ∃ B : AH, (∀ E w, Sat E A w → Sat E B w) ∧ K u B := by
  unfold AH.wrs at hw
  split at hw
  · rename_i cs e sz hf
    split at hw
    · rename_i hc
      cases hw
      refine arun_storeCells P b _ vs o 0 H cs e sz hf hc.1 hc.2.1 hc.2.2 ?_
      by_cases hv : vs = []
      · subst hv
        simp only [if_true]
        refine ⟨_, fun _ w hs => hs.of_find (H' := H.set b (.cells (lput cs o []) e sz)) rfl fun b' => ?_, hk⟩
        rw [find_set]
        split
        · rename_i h; subst h; rw [hf]; rfl
        · rfl
      · simp only [if_neg hv]
        exact ⟨_, fun _ _ h => h, hk⟩
    · cases hw
  · cases hw
theorem CPY.into {P : Program} {H H' : AH} {ts : Array TypeId} {ty t e sz bt b o dl dc m : Nat} {zs new : List Value} {x : Value} {k : Value → AH → Prop} (h0 : ts[0]? = some t) (hE : slE P t = some (e, sz, zs, bt)) (hx : slen x = some m)
    (hnew : ∀ {α : Type} (f : Array Value → Sem α) (K : α → AH → Prop), arun P (f new.toArray) H K → arun P (Builtin.firstCells sz (Nat.min m dl) x >>= f) H K) (hw : H.wrs b o new = some H') (hk : k (.int .i64 (Nat.min m dl : Nat)) H') : CPY P ts ty [.slice (some ⟨b, o, none⟩) dl dc, x] H k := by
  obtain ⟨hu, i, z, hi, hz, h1, h2, h3⟩ := slE_some hE
  suffices hm : arun P (Builtin.copy_ ts ty #[.slice (some ⟨b, o, none⟩) dl dc, x]) H (fun v A => ∃ B : AH, (∀ E w, Sat E A w → Sat E B w) ∧ k v B) by
    intro E w hs
    obtain ⟨v, w', A, r1, r2, B, r3, r5⟩ := arun_sound P _ _ _ w hm hs
    refine ⟨.value v, w', B, ?_, r3 _ _ r2, r5⟩
    show (Builtin.copy_ ts ty #[.slice (some ⟨b, o, none⟩) dl dc, x] >>= fun v => pure (Next.value v)).run P w = _
    simp only [Sem.run_bind, r1, Result.andThen_ok, Sem.run_pure]
  unfold Builtin.copy_
  simp only [h0]
  refine arun_qbind ((qrun_underlying t).trans hu) ?_
  refine arun_qbind (qrun_lenOf hx) ?_
  refine arun_qbind (a := sz) (by rw [qrun_sizeOf, hi, Option.map_some, h1]) ?_
  refine hnew _ _ ?_
  simp only
  rw [arun_bind]
  exact arun_over (K := fun _ A => k (.int .i64 (Nat.min m dl : Nat)) A) hw hk
theorem firstCells_row {P : Program} {H : AH} {sz n b o m c : Nat} {new : List Value} (h : H.row b o (n * sz) = some new) {α : Type} (f : Array Value → Sem α) (K : α → AH → Prop) (hk : arun P (f new.toArray) H K) :
    arun P (Builtin.firstCells sz n (.slice (some ⟨b, o, none⟩) m c) >>= f) H K := by
  refine arun_qbind ?_ hk
  have := qrun_firstCells (P := P) (H := H) (sz := sz) (n := n) (x := .slice (some ⟨b, o, none⟩) n c) (l := new) h rfl
  exact this.1
theorem CLR.row {P : Program} {H H' : AH} {ts : Array TypeId} {ty t e sz bt b o n c : Nat} {zs : List Value} {k : Value → AH → Prop} (h0 : ts[0]? = some t) (hE : slE P t = some (e, sz, zs, bt)) (hn : n ≠ 0)
    (hw : H.wrs b o (zf zs (n * sz)) = some H') (hzl : zs.length = sz) (hk : k (.tuple #[]) H') : CLR P ts ty [.slice (some ⟨b, o, none⟩) n c] H k := by
  obtain ⟨hu, i, z, hi, hz, h1, h2, h3⟩ := slE_some hE
  suffices hm : arun P (Builtin.clear_ ts ty #[.slice (some ⟨b, o, none⟩) n c]) H (fun v A => ∃ B : AH, (∀ E w, Sat E A w → Sat E B w) ∧ k v B) by
    intro E w hs
    obtain ⟨v, w', A, r1, r2, B, r3, r5⟩ := arun_sound P _ _ _ w hm hs
    refine ⟨.value v, w', B, ?_, r3 _ _ r2, r5⟩
    show (Builtin.clear_ ts ty #[.slice (some ⟨b, o, none⟩) n c] >>= fun v => pure (Next.value v)).run P w = _
    simp only [Sem.run_bind, r1, Result.andThen_ok, Sem.run_pure]
  unfold Builtin.clear_
  simp only [h0]
  refine arun_qbind ((qrun_underlying t).trans hu) ?_
  obtain ⟨n, rfl⟩ : ∃ n', n = n' + 1 := ⟨n - 1, by omega⟩
  have ez : (Builtin.zeroCells z.cells (n + 1)).toList = zf zs ((n + 1) * sz) := by
    rw [← h2] at hzl
    have hs : z.cells.size = sz := by simpa using hzl
    subst hs
    simp only [Builtin.zeroCells, zf, ← h2, Array.toList_map, Array.toList_range, Array.length_toList]
    refine List.map_congr_left fun i hi => ?_
    have hpos : 0 < z.cells.size := by
      rcases Nat.eq_zero_or_pos z.cells.size with h | h
      · rw [h] at hi; simp at hi
      · exact h
    have hlt := Nat.mod_lt i hpos
    rw [getElem!_pos z.cells _ hlt, getElem!_pos z.cells.toList _ (by simpa using hlt)]
    simp
  show arun P (zeroValue e >>= fun z => storeCells ⟨b, o, none⟩ (Builtin.zeroCells z.cells (n + 1)).toList >>= fun _ => pure (Value.tuple #[])) H _
  refine arun_qbind (qrun_zeroValue hi hz) ?_
  rw [arun_bind, ez]
  exact arun_over (K := fun _ A => k (.tuple #[]) A) hw hk
theorem CLR.none {P : Program} {H : AH} {ts : Array TypeId} {ty t e sz bt c : Nat} {a : Option Addr} {zs : List Value} {k : Value → AH → Prop} (h0 : ts[0]? = some t) (hE : slE P t = some (e, sz, zs, bt)) (hk : k (.tuple #[]) H) : CLR P ts ty [.slice a 0 c] H k := by
  obtain ⟨hu, i, z, hi, hz, h1, h2, h3⟩ := slE_some hE
  suffices hm : arun P (Builtin.clear_ ts ty #[.slice a 0 c]) H k by
    intro E w hs
    obtain ⟨v, w', A, r1, r2, r5⟩ := arun_sound P _ _ _ w hm hs
    refine ⟨.value v, w', A, ?_, r2, r5⟩
    show (Builtin.clear_ ts ty #[.slice a 0 c] >>= fun v => pure (Next.value v)).run P w = _
    simp only [Sem.run_bind, r1, Result.andThen_ok, Sem.run_pure]
  unfold Builtin.clear_
  simp only [h0]
  refine arun_qbind ((qrun_underlying t).trans hu) ?_
  cases a <;> exact hk

/-! ### An append of zeros to nothing -/
theorem APD.make {P : Program} {H : AH} {t t2 e sz bt m : Nat} {kd : IntKind} {zs : List Value} {k : Value → AH → Prop} (hE : slE P t = some (e, sz, zs, bt)) (hzl : zs.length = sz) (hsz : sz ≠ 0) (hni : P.underlying t2 = some (.int kd))
    (hm : m ≠ 0) (hroom : (2 * m + 192) * bt ≤ 281474976710656) (hbt : bt ≠ 0)
    (hk : ∀ b c, Fresh H b → m ≤ c → k (.slice (some ⟨b, 0, none⟩) m c) (H.add b (.cells [] e (c * sz)))) : APD P (some t) (some t2) [.slice none 0 0, .int .i64 m] H k := fun ts ty h0 h1 => by
  obtain ⟨hu, i, z, hi, hz, h1', h2, h3⟩ := slE_some hE
  have hbytes : qrun P (typeInfo e) H = some i := by simp only [typeInfo, program, qrun_bind, qrun, Option.bind_some, hi, qrun_pure]
  have hm2 : 2 * m + 192 ≤ 281474976710656 := Nat.le_trans (Nat.le_mul_of_pos_right _ (by omega)) hroom
  have hmb : m * bt ≤ 281474976710656 := Nat.le_trans (Nat.mul_le_mul_right bt (show m ≤ 2 * m + 192 by omega)) hroom
  have hmw : IntKind.i64.wrap (m : Int) = m := i64_eq (by omega) (by omega)
  suffices hm : arun P (Builtin.append_ ts ty #[.slice none 0 0, .int .i64 m]) H (fun v H' => ∃ H1 : AH, (∀ E w, Sat E H' w → Sat E H1 w) ∧ k v H1) by
    intro E w hs
    obtain ⟨v, w', H', r1, r2, H1, r3, r5⟩ := arun_sound P _ _ _ w hm hs
    refine ⟨.value v, w', H1, ?_, r3 _ _ r2, r5⟩
    show (Builtin.append_ ts ty #[.slice none 0 0, .int .i64 m] >>= fun v => pure (Next.value v)).run P w = _
    simp only [Sem.run_bind, r1, Result.andThen_ok, Sem.run_pure]
  unfold Builtin.append_
  simp only [h0, h1]
  refine arun_qbind ((qrun_underlying t).trans hu) ?_
  refine arun_qbind (a := sz) (by rw [qrun_sizeOf, hi, Option.map_some, h1']) ?_
  refine arun_qbind ((qrun_underlying t2).trans hni) ?_
  refine arun_qbind (a := true) rfl ?_
  simp only [if_true, Bool.not_true, Bool.false_eq_true, if_false]
  refine arun_qbind (a := (m : Int)) rfl ?_
  rw [hmw, if_neg (by omega)]
  refine arun_qbind hbytes ?_
  rw [if_neg (by
    have h48 : (2 : Int) ^ 48 = 281474976710656 := by decide
    rw [h48, h3, ← Int.natCast_mul]
    generalize m * bt = x at hmb
    omega)]
  refine arun_qbind (a := m) (by rw [Int.toNat_natCast]; rfl) ?_
  rw [Nat.zero_add, if_neg (by omega)]
  refine arun_qbind hbytes ?_
  rw [if_neg (by
    rintro ⟨h4, _⟩
    have : IntKind.i64.max = 9223372036854775807 := rfl
    omega)]
  refine arun_qbind hbytes ?_
  have hnx := nextcap_le (need := m) (old := 0) (by omega)
  rw [if_neg (by
    rw [h3]
    have := Nat.mul_le_mul_right bt hnx
    omega)]
  rw [arun_bind]
  simp only [choose, arun, Question.forced, Bool.false_eq_true, if_false]
  intro tt
  have hcut : m ≤ (Question.appendCap m 0 e).cut tt := by simp [Question.cut]
  generalize (Question.appendCap m 0 e).cut tt = c at hcut
  refine arun_qbind hbytes ?_
  have hroom2 : ∀ (x : Nat) (s2 : Sem Value) (K : Value → AH → Prop), arun P s2 H K → arun P (askRoom x >>= fun _ => s2) H K := fun x s2 K h => by
    unfold askRoom
    split
    · exact h
    · exact h
  refine hroom2 _ _ _ ?_
  refine arun_qbind (a := #[]) rfl ?_
  rw [if_neg (by rw [Nat.mul_eq_zero]; omega)]
  have hzs : z.cells.size = sz := by rw [← hzl, ← h2]; simp
  rw [arun_bind, arun_bind]
  refine arun_of_qrun _ _ _ (qrun_zeroValue hi hz) ?_
  show arun P (zeroValue e >>= _) H _
  refine arun_qbind (qrun_zeroValue hi hz) ?_
  rw [arun_bind]
  refine arun_newRow fun b hb => ?_
  have hk := hk b c hb hcut
  refine ⟨_, fun _ w hs => Sat.pre (rest := (#[] ++ Builtin.zeroCells z.cells m ++ Builtin.zeroCells z.cells (c - m)).toList) ?_, hk⟩
  have hsize : (#[] ++ Builtin.zeroCells z.cells m ++ Builtin.zeroCells z.cells (c - m)).size = c * sz := by
    simp only [Builtin.zeroCells, Array.size_append, Array.size_map, Array.size_range, hzs, List.size_toArray, List.length_nil, Nat.zero_add]
    rw [← Nat.add_mul, show m + (c - m) = c from by omega]
  rw [← hsize]
  simpa using hs

/-- An append of a slice that is given by its rows. -/
theorem APD.growS {H0 H : AH} {e sz cap n m c : Nat} {base a : Option Addr} {R : List (List Value)} {P : Program} {t t2 bt : Nat} {zs : List Value} {k : Value → AH → Prop} {R' : List (List Value)} (hO : OwnS H0 H e sz base cap R) (hl : H0.le H) (hE : slE P t = some (e, sz, zs, bt)) (hz : zs.length = sz) (hsz : sz ≠ 0) (hbt : bt ≠ 0) (hni : nInt (P.underlying t2) = true)
    (hn : n = R.length) (hm : m = R'.length) (hs : SlcIn H sz a c R') (hR' : ∀ r ∈ R', r.length = sz) (hsc : R'.flatten.all scal = true) (hroom : (2 * (n + m) + 192) * bt ≤ 281474976710656)
    (hk : ∀ base' cap' H', OwnS H0 H' e sz base' cap' (R ++ R') → Keep H H' (exB base) → (∀ a, base' = some a → (∃ a', base = some a' ∧ a.block = a'.block) ∨ Fresh H a.block) → ∃ H2, H2.le H' ∧ k (.slice base' (n + m) cap') H2) :
    APD P (some t) (some t2) [.slice base n cap, .slice a m c] H k := by
  by_cases h : R' = [] ∧ a ≠ none
  · obtain ⟨rfl, _⟩ := h
    subst hm
    obtain ⟨H2, h2, h3⟩ := hk base cap H (by rw [List.append_nil]; exact hO) Keep.refl (fun a ha => .inl ⟨a, ha, rfl⟩)
    intro ts ty h0 h1
    exact ((APD.zero (k := fun v H' => ∃ H2 : AH, H2.le H' ∧ k v H2) hE hni (hn ▸ hO.le) ⟨H2, h2, h3⟩) ts ty h0 h1).post (fun v H' ⟨H2, h2, h3⟩ => ⟨H2, fun _ _ hs => hs.mono h2, h3⟩) (fun w nx w' h => value_only (α := Unit) h)
  · have h1 : R' ≠ [] ∨ a = none := by
      by_cases h2 : R' = []
      · exact .inr (Classical.byContradiction fun h3 => h ⟨h2, h3⟩)
      · exact .inl h2
    exact APD.growW hO hl hE hz hbt hni hn hm rfl (hs.srow hR' hsz hm h1) hR' hsc hroom hk

theorem SlcIn.empty {H : AH} {sz cap : Nat} {base : Option Addr} : SlcIn H sz base cap [] where
  le := by simp
  big := by simp
  at_ := fun i hi => by simp at hi
  rd := fun b o _ i j r c h => by simp at h
  row := fun b o _ i r h => by simp at h
theorem SlcIn.recap {H : AH} {sz cap cap' : Nat} {base : Option Addr} {R : List (List Value)} (h : SlcIn H sz base cap R) (hc : R.length ≤ cap') : SlcIn H sz base cap' R := ⟨hc, h.big, h.at_, h.rd, h.row⟩
theorem SlcIn.past {A B : AH} {sz cap : Nat} {base : Option Addr} {R : List (List Value)} {ex : Nat → Prop} (h : SlcIn A sz base cap R) (hn : R = [] ∨ ∀ a, base = some a → ¬ ex a.block) (hk : Keep A B ex) : SlcIn B sz base cap R := by
  rcases hn with rfl | hn
  · exact SlcIn.empty
  · exact h.keep hk hn
theorem SlcIn.apart {H : AH} {sz cap bm : Nat} {base : Option Addr} {R : List (List Value)} (h : SlcIn H sz base cap R) (hf : Fresh H bm) : R = [] ∨ ∀ a, base = some a → ¬ a.block = bm := by
  cases R with
  | nil => exact .inl rfl
  | cons r R =>
    refine .inr fun a ha => ?_
    obtain ⟨b, o, hb⟩ := h.at_ 0 (by simp)
    rw [hb] at ha; cases ha
    have := h.row b o hb 0 r rfl
    exact fun e => hf.ne_row this e.symm
theorem lt_of_get {α : Type} {l : List α} {i : Nat} {s : α} (h : l[i]? = some s) : i < l.length := by
  rcases Nat.lt_or_ge i l.length with h' | h'
  · exact h'
  · rw [List.getElem?_eq_none h'] at h; cases h
theorem map_get {α : Type} {f : α → List Value} {L : List α} {i : Nat} {s : α} (h : L[i]? = some s) : (L.map f)[i]? = some (f s) := by rw [List.getElem?_map, h]; rfl
theorem get_in {α : Type} {l : List α} {i : Nat} (h : i < l.length) : ∃ x, l[i]? = some x := ⟨l[i], List.getElem?_eq_getElem h⟩

theorem AH.le_del' {H A : AH} {b : Nat} (h : H.le A) (hf : Fresh H b) : H.le (A.del b) := ⟨h.1, fun b' k hk => by
  rw [find_del]
  split
  · rename_i e; subst e; rw [hf.2] at hk; cases hk
  · exact h.2 _ _ hk⟩
theorem le_top1 {H A : AH} {b : Nat} {k : ABlk} (h : H.le A) (hf : Fresh H b) : H.le ((A.del b).add b k) := AH.le_add (AH.le_del' h hf) (by rw [find_del, if_pos rfl])
theorem le_top2 {H A : AH} {b1 b2 : Nat} {k1 k2 : ABlk} (h : H.le A) (f1 : Fresh H b1) (f2 : Fresh H b2) (hne : b2 ≠ b1) : H.le ((((A.del b1).del b2).add b1 k1).add b2 k2) :=
  AH.le_add (AH.le_add (AH.le_del' (AH.le_del' h f1) f2) (by rw [find_del]; split; rfl; rw [find_del, if_pos rfl])) (by rw [find_add, if_neg hne, find_del, if_pos rfl])
theorem Keep.top2 {A : AH} {b1 b2 : Nat} {k1 k2 : ABlk} (h1 : A.find b1 = some k1) (h2 : A.find b2 = some k2) (hne : b2 ≠ b1) : Keep A ((((A.del b1).del b2).add b1 k1).add b2 k2) fun _ => False := ⟨rfl, fun b _ _ => by
  rw [find_add, find_add, find_del, find_del]
  by_cases e2 : b = b2
  · subst e2; rw [if_pos rfl, h2]
  · rw [if_neg e2]
    by_cases e1 : b = b1
    · subst e1; rw [if_pos rfl, h1]
    · rw [if_neg e1, if_neg e2, if_neg e1]⟩
theorem Keep.top1 {A : AH} {b1 : Nat} {k1 : ABlk} (h1 : A.find b1 = some k1) : Keep A ((A.del b1).add b1 k1) fun _ => False := ⟨rfl, fun b _ _ => by
  rw [find_add, find_del]
  by_cases e1 : b = b1
  · subst e1; rw [if_pos rfl, h1]
  · rw [if_neg e1, if_neg e1]⟩
theorem firstCells_none {P : Program} {H : AH} {sz m c : Nat} {a : Option Addr} {α : Type} (f : Array Value → Sem α) (K : α → AH → Prop) (hk : arun P (f #[]) H K) : arun P (Builtin.firstCells sz 0 (.slice a m c) >>= f) H K := by
  refine arun_qbind ?_ hk
  cases a with
  | none => rfl
  | some a => simp only [Builtin.firstCells, Nat.zero_mul]; rfl

/-! ### Bytes -/
def encB (x : Int) : List Value := [.int .u8 x]
theorem encB_flat : ∀ L : List Int, (L.map encB).flatten = L.map (Value.int .u8)
  | [] => rfl
  | x :: L => by rw [List.map_cons, List.flatten_cons, encB_flat L]; rfl
theorem rowsB (L : List Int) : ∀ r ∈ L.map encB, r.length = 1 := fun r hr => by
  obtain ⟨w, _, rfl⟩ := List.mem_map.1 hr
  rfl
theorem scalB (L : List Int) : ((L.map encB).flatten).all scal = true := by
  rw [encB_flat, List.all_map, List.all_eq_true]
  intro _ _; rfl
def bstr (L : List Int) : ByteArray := ⟨(L.map fun x => UInt8.ofNat x.toNat).toArray⟩
theorem qrun_pushes {P : Program} {H : AH} : ∀ (L : List Int) (s : ByteArray), qrun P (forIn (m := Sem) (L.map (Value.int .u8)) s fun c s => do
      let .int .u8 n := c | stuck "bytesToString: byte expected"
      pure (ForInStep.yield (s.push (UInt8.ofNat n.toNat)))) H = some ⟨s.data ++ (L.map fun x => UInt8.ofNat x.toNat).toArray⟩
  | [], s => by simp [qrun_pure]
  | x :: L, s => by
    simp only [List.map_cons, List.forIn_cons, qrun_bind, qrun_pure, Option.bind_some, pure_bind]
    have := qrun_pushes (P := P) (H := H) L (s.push (UInt8.ofNat x.toNat))
    refine Eq.trans this ?_
    simp [ByteArray.push]
theorem qrun_bytesToString {P : Program} {H : AH} {L : List Int} {base : Option Addr} {n c : Nat} (hs : SlcIn H 1 base c (L.map encB)) (hn : n = L.length) : qrun P (Conv.bytesToString (.slice base n c)) H = some (.string (bstr L)) := by
  subst hn
  cases base with
  | none =>
    have : L = [] := by
      cases L with
      | nil => rfl
      | cons x L => obtain ⟨b, o, h⟩ := hs.at_ 0 (by simp); cases h
    subst this
    rfl
  | some a =>
    have hl : qrun P (loadCells a L.length) H = some (L.map (Value.int .u8)).toArray := by
      cases L with
      | nil => rfl
      | cons x L =>
        obtain ⟨b, o, h⟩ := hs.at_ 0 (by simp)
        cases h
        rw [qrun_loadCells P H b o _ (by simp)]
        have h2 := hs.srow (n := (x :: L).length) (rowsB _) (by decide) (by simp) (.inl (by simp))
        simp only [srow, Nat.mul_one] at h2
        rw [h2, encB_flat]; rfl
    simp only [Conv.bytesToString, qrun_bind, hl, Option.bind_some]
    rw [← Array.forIn_toList]
    have := qrun_pushes (P := P) (H := H) L ByteArray.empty
    rw [show (List.map (Value.int .u8) L).toArray.toList = L.map (Value.int .u8) from rfl]
    refine Eq.trans (congrArg (fun o => Option.bind o _) this) ?_
    have e0 : ∀ X : Array UInt8, ByteArray.empty.data ++ X = X := fun X => by rw [show ByteArray.empty.data = #[] from rfl, Array.empty_append]
    show some (Value.string ⟨ByteArray.empty.data ++ _⟩) = _
    rw [e0]; rfl
theorem cnv_bytes {P : Program} {H : AH} {L : List Int} {base : Option Addr} {n c s t e : Nat} (hu : P.underlying s = some (.slice e)) (he : P.underlying e = some (.int .u8)) (ht : P.underlying t = some .string) (hs : SlcIn H 1 base c (L.map encB)) (hn : n = L.length) {k : Value → Prop} :
    cnv (some (.slice e)) (some .string) P H s t (.slice base n c) k = nv (.string (bstr L)) k := by
  unfold cnv
  have : qrun P (convert s t (.slice base n c)) H = some (.string (bstr L)) := by
    have h1 := qrun_bytesToString (P := P) hs hn
    simp only [convert, qrun_bind, qrun_underlying, hu, ht, he, Option.bind_some]
    cases base <;> (try simp only [qrun_bind, qrun_underlying, he, Option.bind_some]) <;> exact h1
  rw [this, hu, ht]
  simp [wo_some]
theorem bstr_inj {A B : List Int} (hA : ∀ x ∈ A, 0 ≤ x ∧ x < 256) (hB : ∀ x ∈ B, 0 ≤ x ∧ x < 256) (h : bstr A = bstr B) : A = B := by
  have h1 : (A.map fun x => UInt8.ofNat x.toNat) = B.map fun x => UInt8.ofNat x.toNat := by
    have := congrArg (fun s : ByteArray => s.data.toList) h
    simpa [bstr] using this
  clear h
  induction A generalizing B with
  | nil => cases B with
    | nil => rfl
    | cons y B => simp at h1
  | cons x A ih => cases B with
    | nil => simp at h1
    | cons y B =>
      simp only [List.map_cons, List.cons.injEq] at h1
      have hx := hA x (by simp)
      have hy := hB y (by simp)
      have h2 := congrArg UInt8.toNat h1.1
      simp only [UInt8.toNat_ofNat'] at h2
      have h3 : x = y := by omega
      rw [h3, ih (fun z hz => hA z (by simp [hz])) (fun z hz => hB z (by simp [hz])) h1.2]
def Bts (L : List Int) : Prop := ∀ x ∈ L, 0 ≤ x ∧ x < 256
theorem bstr_toList (L : List Int) : (bstr L).toList = L.map fun x => UInt8.ofNat x.toNat := ByteArray.toList_mk _
theorem beq_bstr {X Y : List Int} (hX : Bts X) (hY : Bts Y) : ((bstr X).toList == (bstr Y).toList) = decide (X = Y) := by
  by_cases h : X = Y
  · subst h; simp
  · rw [decide_eq_false h, beq_eq_false_iff_ne]
    intro h2
    refine h (bstr_inj hX hY ?_)
    rw [bstr_toList, bstr_toList] at h2
    unfold bstr
    rw [h2]
theorem or_shift {x y : Int} {n : Nat} (hx : 0 ≤ x) (hy : 0 ≤ y) (hn : y < 2 ^ n) (hb : x * 2 ^ n < 9223372036854775808) (h64 : n < 63) : ibits .or .i64 (x * 2 ^ n) y = x * 2 ^ n + y := by
  obtain ⟨a, rfl⟩ : ∃ a : Nat, x = a := ⟨x.toNat, by omega⟩
  obtain ⟨b, rfl⟩ : ∃ b : Nat, y = b := ⟨y.toNat, by omega⟩
  have hp : (2 : Int) ^ n = ((2 ^ n : Nat) : Int) := by rw [Int.natCast_pow]; rfl
  have hn' : b < 2 ^ n := by rw [hp] at hn; omega
  have e1 : ((a : Int) * 2 ^ n) = ((a * 2 ^ n : Nat) : Int) := by rw [Int.natCast_mul, hp]
  rw [e1] at hb ⊢
  have hb' : a * 2 ^ n < 9223372036854775808 := by omega
  generalize hX : a * 2 ^ n = X at hb'
  have hlt : b < 18446744073709551616 := Nat.lt_trans hn' (Nat.pow_lt_pow_right (by omega) (show n < 64 by omega))
  have hor : X ||| b = X + b := by
    rw [← hX, ← Nat.shiftLeft_eq, Nat.shiftLeft_add_eq_or_of_lt hn']
  have hsum : X + b < 9223372036854775808 := by
    rw [← hX]
    have h1 : a * 2 ^ n + 2 ^ n ≤ 9223372036854775808 := by
      have h2 : (a + 1) * 2 ^ n ≤ 2 ^ (63 - n) * 2 ^ n := by
        refine Nat.mul_le_mul_right _ ?_
        have h3 : a * 2 ^ n < 2 ^ (63 - n) * 2 ^ n := by rw [← Nat.pow_add, show 63 - n + n = 63 from by omega, hX]; exact hb'
        exact Nat.lt_of_mul_lt_mul_right h3
      rw [← Nat.pow_add, show 63 - n + n = 63 from by omega] at h2
      rw [Nat.add_mul, Nat.one_mul] at h2
      exact h2
    omega
  have hbits : IntKind.i64.bits = 64 := rfl
  show IntKind.i64.wrap ((BitVec.ofInt IntKind.i64.bits (X : Int) ||| BitVec.ofInt IntKind.i64.bits (b : Int)).toNat : Int) = _
  have e2 : (BitVec.ofInt IntKind.i64.bits (X : Int) ||| BitVec.ofInt IntKind.i64.bits (b : Int)).toNat = X + b := by
    rw [BitVec.toNat_or, BitVec.ofInt_natCast, BitVec.ofInt_natCast, BitVec.toNat_ofNat, BitVec.toNat_ofNat, hbits, Nat.mod_eq_of_lt (by omega), Nat.mod_eq_of_lt (by omega), hor]
  rw [e2, i64_eq (by omega) (by omega), Int.natCast_add]
theorem rdop_arrayAt {P : Program} {H : AH} {t len e b o n c : Nat} {K : Value → Prop} (hu : P.underlying t = some (.array len e)) (h : len ≤ n) : rdop P H (Instr.arrayAt t (.slice (some ⟨b, o, none⟩) n c)) K = nv (.pointer (some ⟨b, o, none⟩)) K := by
  unfold rdop Instr.arrayAt
  simp only [qrun_bind, qrun_underlying, hu, Option.bind_some]
  rw [if_neg (by omega)]
  simp [qrun_pure, wo_some]
theorem bstr_eq {A B : List Int} (hA : ∀ x ∈ A, 0 ≤ x ∧ x < 256) (hB : ∀ x ∈ B, 0 ≤ x ∧ x < 256) : bstr A = bstr B ↔ A = B := ⟨bstr_inj hA hB, fun h => h ▸ rfl⟩
end Go.AX
