/- Texts of mine, one behind another. -/
import Derived.Test.YtamlipffhimfmaaGreatDoorMPartRounds4
/- ifs: Files. -/
namespace Go.Proofs.YtamlipffhimfmaaGreatDoor.Ifs
set_option linter.unusedSimpArgs false
set_option linter.unusedVariables false
open Go Go.AX Go.Proofs Ty Go.Proofs.YtamlipffhimfmaaGreatDoor.File
set_option maxHeartbeats 4000000
set_option maxRecDepth 10000

theorem OkX.len {X : List Nf} (h : OkX X) : X.length ≤ 64 := by
  have h1 : (X.map fun x => x.1.toNat).Nodup := by
    have : (X.map fun x => x.1.toNat) = (X.map (·.1)).map Int.toNat := by rw [List.map_map]; rfl
    rw [this, List.Nodup, List.pairwise_map]
    refine List.Pairwise.imp_of_mem ?_ h.kd
    intro a b ha hb hab e
    obtain ⟨x, hx, rfl⟩ := List.mem_map.1 ha
    obtain ⟨y, hy, rfl⟩ := List.mem_map.1 hb
    have := (h.ok x hx).1; have := (h.ok y hy).1
    exact hab (by omega)
  have := nodup_range_le (n := 64) h1 (fun k hk => by
    obtain ⟨x, hx, rfl⟩ := List.mem_map.1 hk
    have := (h.ok x hx).1; omega)
  simpa using this
theorem ClipN_c (base : Option Addr) (n cap : Nat) (H : AH) (h : n ≤ cap) :
    ACalls Tryz.prog 52 #[.slice base n cap] H (fun v H' => v = .slice base n n ∧ H = H') := by
  refine ACalls.enter2 Tryz.func52 rfl Tryz.ntmps52 Tryz.results52 (by simp) ?_; simp (dsimp := false) (maxSteps := 4000000) only [go_sem]
  have h' : (n : Int) ≤ cap := by omega
  simp (dsimp := false) (maxSteps := 4000000) only [h', Int.le_refl, go_sem]
  exact ⟨H, (AH.le_refl _), (by first | exact ⟨rfl, rfl⟩ | rfl)⟩
def zOf (X : List Nf) (k : Int) : Nf := (k, (lk k X).getD (0, []))
theorem zOf_map {X : List Nf} (h : Kd X) : (X.map (·.1)).map (zOf X) = X := by
  rw [List.map_map]
  conv => rhs; rw [← List.map_id X]
  refine List.map_congr_left fun x hx => ?_
  simp [zOf, lk_mem h (f := x.2) (n := x.1) hx]
theorem nf_of_ks {X : List Nf} (hX : Kd X) {Z : List RF} {ks : List Int} (hz : Z.map (·.n) = ks) (hl : ∀ z ∈ Z, lk z.n X = some (z.p, z.R)) (hp : ks.Perm (X.map (·.1))) (hs : ks.Pairwise (· ≤ ·)) : (Z.map RF.nf).Perm X ∧ Srt (Z.map RF.nf) := by
  have e : Z.map RF.nf = ks.map (zOf X) := by
    rw [← hz, List.map_map]
    refine List.map_congr_left fun z h => ?_
    simp [zOf, RF.nf, hl z h]
  refine ⟨?_, ?_⟩
  · rw [e]
    have := hp.map (zOf X)
    rwa [zOf_map hX] at this
  · have hnd : ks.Nodup := hp.nodup_iff.2 hX
    have : ks.Pairwise (· < ·) := by
      have := List.Pairwise.and hs hnd
      exact this.imp fun ⟨h1, h2⟩ => by omega
    rw [← hz, List.pairwise_map] at this
    rw [Srt, List.pairwise_map]
    exact this
def Own1 (H1 A : AH) (base : Option Addr) (X : List Nf) (z : RF) : Prop := ∃ zb bs, z.base = some ⟨zb, 0, none⟩ ∧ z.cap = z.R.length ∧ A.find zb = some (.cells (z.R.map enc).flatten 26 bs) ∧ z.R.length * 4 ≤ bs ∧ Fresh H1 zb ∧ (∀ a, base = some a → zb ≠ a.block) ∧ lk z.n X = some (z.p, z.R)
theorem Files_c {H : AH} {b : Nat} {X : List Nf} {den : Int} {ft : Nat → Prop} (h : StAt H b X den ft) (hX : OkX X) :
    ACalls Tryz.prog 18 #[.pointer (some ⟨b, 0, none⟩)] H (fun u H' => ∃ base cap Z rd, u = .slice base (List.length Z) cap ∧ (Z.map RF.nf).Perm X ∧ Srt (Z.map RF.nf) ∧ NmIn H' base cap Z rd ∧ Keep H H' (fun _ => False) ∧ ∀ x, rd x → Fresh H x) := by
  obtain ⟨bm, ms, h1, rfl, hft⟩ := h
  have hlen : ms.length ≤ 64 := by have := hX.len; simpa using this
  have hn64 : ∀ m ∈ ms, 0 ≤ m.n ∧ m.n < 64 := fun m hm => (hX.ok m.nf (List.mem_map_of_mem hm)).1
  have r0 : H.rd ⟨b, 0, none⟩ = some (.map (some bm)) := by rw [rd_find h1.top]; rfl
  refine ACalls.enter2 Tryz.func18 rfl Tryz.ntmps18 Tryz.results18 (by simp) ?_; simp (dsimp := false) (maxSteps := 4000000) only [go_sem]
  simp (dsimp := false) (maxSteps := 4000000) only [r0, go_sem]
  refine (Keys_c bm).mono ?_
  rintro _ _ ⟨bk, h_bk, rfl, rfl⟩
  simp (dsimp := false) (maxSteps := 4000000) only [go_sem]
  have nk1 : bk ≠ b := h_bk.ne_find h1.top
  have nk2 : bk ≠ bm := h_bk.ne_find h1.map
  refine (Sorted_c (ms := ms) (find_add_self _ _ _) (by rw [find_add, if_neg (Ne.symm nk2)]; exact h1.map) h1.kd hn64 hlen).mono ?_
  rintro _ H1 ⟨kb, kc, ks, rfl, hperm, hsrt, hks, hK1, _⟩
  have hkl : ks.length = ms.length := by rw [hperm.length_eq, List.length_map]
  have hK1' : Keep H H1 fun _ => False := (Keep.add h_bk).trans hK1
  have hS := h1.keep hK1' fun _ _ h => h
  have hperm' : ks.Perm ((ms.map MF.nf).map (·.1)) := by rw [List.map_map]; exact hperm
  simp (dsimp := false) (maxSteps := 4000000) only [go_sem]
  refine AWp.loopr (ι := Nat × Option Addr × Nat × List RF) (fun s A => s.1 ≤ ks.length ∧ s.2.2.2.map (·.n) = ks.take s.1 ∧ OwnS H1 A 74 3 s.2.1 s.2.2.1 (s.2.2.2.map encN) ∧ (Keep H1 A fun _ => False) ∧ ∀ z ∈ s.2.2.2, Own1 H1 A s.2.1 (ms.map MF.nf) z)
    (fun s => [(15, .int .i64 s.1), (14, .int .i64 ks.length), (13, .slice kb ks.length kc), (3, .slice s.2.1 s.2.2.2.length s.2.2.1), (0, .pointer (some ⟨b, 0, none⟩))]) (fun s => ks.length - s.1) (0, none, 0, []) H1
    ⟨by simp, rfl, OwnS.nil, Keep.refl, by simp⟩ (FrLe.of_lks ?_) (AH.le_refl _) fun s A hV Q again out => ?_
  · simp (dsimp := false) (maxSteps := 4000000) only [go_sem]
  obtain ⟨i, base, cap, Z⟩ := s
  obtain ⟨hi, hz, hO, hK, hZ⟩ := hV
  dsimp only at hi hz hO hK hZ ⊢
  have hZl : Z.length = i := by have := congrArg List.length hz; rw [List.length_map, List.length_take] at this; omega
  have hSA := hS.keep hK fun _ _ h => h
  by_cases hlt : (i : Int) < ks.length
  case neg =>
    obtain rfl : i = ks.length := by omega
    simp (dsimp := false) (maxSteps := 4000000) only [hlt, go_sem]
    refine out _ _ _ (by simp) ?_
    simp (dsimp := false) (maxSteps := 4000000) only [go_sem]
    refine (ClipN_c base Z.length cap _ (by have := hO.le; simpa using this)).mono ?_; rintro _ _ ⟨rfl, rfl⟩
    simp (dsimp := false) (maxSteps := 4000000) only [go_sem]
    rw [List.take_length] at hz
    obtain ⟨p1, p2⟩ := nf_of_ks h1.kd hz (fun z h => by obtain ⟨_, _, _, _, _, _, _, _, h⟩ := hZ z h; exact h) hperm' hsrt
    refine ⟨A, AH.le_refl _, base, Z.length, Z, fun x => Fresh H x, rfl, p1, p2, ⟨hO.slc.recap (by simp), fun z hz => ?_, ?_, fun z hz => ?_⟩, hK1'.trans hK, fun x hx => hx⟩
    · obtain ⟨zb, bs, e1, e2, e3, e4, _⟩ := hZ z hz
      have := hO.big
      rw [e1, e2]
      refine SlcIn.of_find e3 (rows4 _) (by simp) ?_
      obtain ⟨_, _, _, _, _, _, _, _, hl⟩ := hZ z hz
      obtain ⟨_, hgd, _⟩ := hX.lk hl
      have := (goodF_len hgd).2
      dsimp only at this
      rw [List.length_map]; omega
    · cases hb : base with
      | none => exact .inr fun a h => by cases h
      | some a => exact .inr fun a' h => by cases h; exact hK1'.fr (hO.fresh a hb)
    · obtain ⟨zb, bs, e1, _, _, _, e5, _⟩ := hZ z hz
      exact .inr fun a h => by rw [e1] at h; cases h; exact hK1'.fr e5
  obtain ⟨k, hk⟩ := get_some (l := ks) (i := i) (by omega)
  have hksA : SlcIn A 1 kb kc (ks.map encI) := hks.keep hK fun _ _ h => h
  obtain ⟨kb_, ko, rfl, _, hrd⟩ := hksA.get (Go.AX.map_get (f := encI) hk)
  have rk := hrd 0 _ rfl
  simp only [Nat.add_zero, Nat.mul_one] at rk
  have hi0 : (0 : Int) ≤ (i : Int) := by omega
  have ee := i64_succ (i := i) (by omega)
  have rA : A.rd ⟨b, 0, none⟩ = some (.map (some bm)) := by rw [rd_find hSA.top]; rfl
  have hmp : A.mp bm = some (ms.map MF.ent) := by rw [AH.mp, hSA.map]
  obtain ⟨m0, hm0, hmk⟩ := List.mem_map.1 (hperm.mem_iff.1 (List.mem_of_getElem? hk))
  rcases hSA.at_ k with ⟨_, hl⟩ | ⟨j, m, hm, hj, hn, hl⟩
  · exact absurd (lk_none.1 hl m0.nf (List.mem_map_of_mem hm0)) (by simp [MF.nf, hmk])
  have hmem := List.mem_of_getElem? hj
  obtain ⟨_, hgd, _⟩ := hX.lk hl
  obtain ⟨hl1, hl2⟩ := goodF_len hgd
  dsimp only at hl1 hl2
  have hs := hSA.slc hmem (by omega)
  have hown := fun H1 (hs : SlcIn H1 4 (some ⟨m.blk, 0, none⟩) m.R.length (m.R.map enc)) => own_c m.p m.R _ _ H1 hs (by omega) (by omega)
  unfold fv at hown
  unfold MF.val fv at hm
  have hmp' : A.mp bm = some (ms.map MF.ent) := hmp
  
  simp (dsimp := false) (maxSteps := 4000000) only [hlt, hi0, rk, rA, hmp, hm, go_sem]
  refine (hown _ hs).mono ?_; rintro _ _ ⟨b9, bs, h_b9, rfl, hbs, rfl⟩
  have hn_b9 := h_b9; (try simp only [fresh_add, fresh_set, ne_eq] at hn_b9); have hr_b9 := hn_b9; (try simp only [@eq_comm Nat b9] at hr_b9)
  simp (dsimp := false) (maxSteps := 4000000) only [hn_b9, hr_b9, go_sem]
  refine AllB.mk fun bl h_bl => ?_; have hn_bl := h_bl; (try simp only [fresh_add, fresh_set, ne_eq] at hn_bl); have hr_bl := hn_bl; (try simp only [@eq_comm Nat bl] at hr_bl); simp (dsimp := false) (maxSteps := 4000000) only [hn_b9, hr_b9, hn_bl, hr_bl, go_sem]
  let z : RF := ⟨k, m.p, some ⟨b9, 0, none⟩, m.R.length, m.R⟩
  have h_bl' : Fresh A bl := hn_bl.2
  have hO2 : OwnS H1 ((A.add b9 (.cells (m.R.map enc).flatten 26 bs)).add bl (.cells (encN z) 74 3)) 74 3 base cap (Z.map encN) := (hO.added h_b9).added h_bl
  have hK2 : Keep H1 ((A.add b9 (.cells (m.R.map enc).flatten 26 bs)).add bl (.cells (encN z) 74 3)) fun _ => False := (hK.nw h_b9).nw h_bl
  refine APD.growW (x := .slice (some ⟨bl, 0, none⟩) 1 1) (R' := [encN z]) (m := 1) hO2 hK2.all se_22 rfl (by decide) (by rw [Tryz.underlying22]; rfl) (by simp) rfl rfl (by rw [srow_some, row_add_self]; rfl) (by simp [encN]) (by simp [encN, scal]) (by omega) fun base' cap' A' hO' hK' hN' => ?_
  have hK2A : Keep A ((A.add b9 (.cells (m.R.map enc).flatten 26 bs)).add bl (.cells (encN z) 74 3)) fun _ => False := (Keep.refl.nw h_b9).nw h_bl
  have step : ∀ y : RF, ∀ zb bs', y.base = some ⟨zb, 0, none⟩ → y.cap = y.R.length → ((A.add b9 (.cells (m.R.map enc).flatten 26 bs)).add bl (.cells (encN z) 74 3)).find zb = some (.cells (y.R.map enc).flatten 26 bs') → y.R.length * 4 ≤ bs' → Fresh H1 zb → (∀ a, base = some a → zb ≠ a.block) → lk y.n (ms.map MF.nf) = some (y.p, y.R) → Own1 H1 A' base' (ms.map MF.nf) y := fun y zb bs' e1 e2 e3 e4 e5 e6 e7 => by
    refine ⟨zb, bs', e1, e2, hK'.find (fun ⟨a, ha, hb⟩ => e6 a ha hb) e3, e4, e5, fun a ha hb => ?_, e7⟩
    rcases hN' a ha with ⟨a', h1, h2⟩ | h1
    · exact e6 a' h1 (hb.trans h2)
    · exact h1.ne_find e3 hb.symm
  refine ⟨A', AH.le_refl _, ?_⟩
  simp (dsimp := false) (maxSteps := 4000000) only [ee, hn_b9, hr_b9, hn_bl, hr_bl, go_sem]
  refine again (i + 1, base', cap', Z ++ [z]) _ A' _ ⟨by dsimp only; omega, ?_, ?_, hK2.ow hK' fun b ⟨a, ha, e⟩ => e ▸ hO.fresh a ha, fun y hy => ?_⟩ (FrLe.of_lks ?_) (AH.le_refl _) (by dsimp only; omega)
  · dsimp only
    rw [List.map_append, hz, List.take_add_one, hk]; rfl
  · dsimp only
    rw [List.map_append]; exact hO'
  · rcases List.mem_append.1 hy with hy | hy
    · obtain ⟨zb, bs', e1, e2, e3, e4, e5, e6, e7⟩ := hZ y hy
      exact step y zb bs' e1 e2 (hK2A.find (fun h => h) e3) e4 e5 e6 e7
    · rw [List.mem_singleton.1 hy]
      exact step z b9 bs rfl rfl (by rw [find_add, if_neg (Ne.symm hn_bl.1), find_add_self]) hbs (hK.fr h_b9) (fun a ha e => hO.ne h_b9 a ha e.symm) hl
  · simp only [List.length_append, List.length_singleton]
    simp (dsimp := false) (maxSteps := 4000000) only [hn_b9, hr_b9, hn_bl, hr_bl, go_sem]
end Go.Proofs.YtamlipffhimfmaaGreatDoor.Ifs

/- ifs: what a deed keeps; Set of nobody; few. -/
namespace Go.Proofs.YtamlipffhimfmaaGreatDoor.Ifs
set_option linter.unusedSimpArgs false
set_option linter.unusedVariables false
open Go Go.AX Go.Proofs Ty Go.Proofs.YtamlipffhimfmaaGreatDoor.File Go.Proofs.YtamlipffhimfmaaGreatDoor.Err
set_option maxHeartbeats 4000000
set_option maxRecDepth 10000

theorem next_ok {r : Rc} (h : RcOk r) : RcOk (Nxt.nextR r) := by
  have e := next4 h
  obtain ⟨x0, x1, x2, x3⟩ := r
  obtain ⟨⟨a0, a1⟩, ⟨b0, b1⟩, ⟨c0, c1⟩, ⟨d0, d1⟩⟩ := h
  dsimp only at a0 a1 b0 b1 c0 c1 d0 d1 e
  generalize Nxt.nextR (x0, x1, x2, x3) = y at e ⊢
  obtain ⟨y0, y1, y2, y3⟩ := y
  simp only [enc, List.cons.injEq, Value.int.injEq, true_and, and_true] at e
  obtain ⟨rfl, rfl, rfl, rfl⟩ := e
  refine ⟨?_, ?_, ?_, ?_⟩ <;> dsimp only <;> omega
theorem OkX.do {X : List Nf} (h : OkX X) (op fl rec : Int) {v : Rc} (hv : RcOk v) : OkX (doX X op fl rec v) := by
  unfold doX
  split
  · rename_i e
    cases hl : Ifs.lk fl X with
    | none => exact h
    | some f =>
      obtain ⟨_, h2, h3⟩ := h.lk hl
      have hm : mayF f.1 f.2 op rec = 0 := by
        unfold doE at e
        split at e
        · cases e
        · rw [hl] at e; exact e
      dsimp only [doF]
      unfold doR
      have hne : (op = 1 ∨ op = 2) → rec.toNat ≠ 0 := fun ho hr => by
        obtain ⟨g, o0, o1, r0, r1, _⟩ := mayF_ok hm
        have : rec = 0 := by omega
        subst this
        rw [mayF_head g (by omega) (by omega) (by omega), if_neg (by omega)] at hm
        cases hm
      split
      · rename_i ho
        refine h.rp hl (goodF_set h2 (hne (.inl ho))) fun r hr => ?_
        rcases List.mem_or_eq_of_mem_set hr with hr | hr
        · exact h3 r hr
        · subst hr; exact hv
      split
      · rename_i ho
        refine h.rp hl (goodF_set h2 (hne (.inr ho))) fun r hr => ?_
        rcases List.mem_or_eq_of_mem_set hr with hr | hr
        · exact h3 r hr
        · subst hr
          refine next_ok ?_
          rw [List.getD_eq_getElem?_getD]
          cases hx : f.2[rec.toNat]? with
          | none => exact ⟨by decide, by decide, by decide, by decide⟩
          | some r => exact h3 r (List.mem_of_getElem? hx)
      · exact h.rp hl h2 h3
  · exact h
end Go.Proofs.YtamlipffhimfmaaGreatDoor.Ifs

/- Declarations cut out of other texts of mine. -/
namespace Go.Proofs.YtamlipffhimfmaaGreatDoor.Chk
set_option linter.unusedSimpArgs false
set_option linter.unusedVariables false
open Go Go.AX Go.Proofs Ty
set_option maxHeartbeats 4000000
set_option maxRecDepth 10000

abbrev Rc := Int × Int × Int × Int
def enc (r : Rc) : List Value := [.int .u8 r.1, .int .u8 r.2.1, .int .u8 r.2.2.1, .int .u8 r.2.2.2]
def zr : Rc := (0, 0, 0, 0)
theorem enc_len (r : Rc) : (enc r).length = 4 := rfl
theorem enc_scal (r : Rc) : (enc r).all scal = true := rfl
theorem rows4 (R : List Rc) : ∀ r ∈ R.map enc, r.length = 4 := fun r hr => by
  obtain ⟨w, _, rfl⟩ := List.mem_map.1 hr
  rfl
theorem scal4 (l : List Rc) : ((l.map enc).flatten).all scal = true := by
  rw [List.all_flatten, List.all_map, List.all_eq_true]
  intro r _; rfl
theorem map_get {α : Type} {f : α → List Value} {L : List α} {i : Nat} {s : α} (h : L[i]? = some s) : (L.map f)[i]? = some (f s) := by rw [List.getElem?_map, h]; rfl
def hd (perm n : Int) : Rc := (IntKind.u8.wrap n, IntKind.u8.wrap perm, 165, ibits .xor .u8 (ibits .xor .u8 (IntKind.u8.wrap n) (IntKind.u8.wrap perm)) 165)
theorem header_c (perm n : Int) (H : AH) : ACalls Tryz.prog 98 #[.int .i64 perm, .int .i64 n] H (fun v H' => v = .agg (enc (hd perm n)).toArray ∧ H = H') := by
  refine ACalls.enter2 Tryz.func98 rfl Tryz.ntmps98 Tryz.results98 (by simp) ?_; simp (dsimp := false) (maxSteps := 4000000) only [go_sem]
  refine AllB.mk fun b1 h_b1 => ?_; have hn_b1 := h_b1; (try simp only [fresh_add, fresh_set, ne_eq] at hn_b1); have hr_b1 := hn_b1; (try simp only [@eq_comm Nat b1] at hr_b1); simp (dsimp := false) (maxSteps := 4000000) only [hn_b1, hr_b1, go_sem]
  exact ⟨H, (AH.le_add (AH.le_refl _) ((by simp only [fresh_add, fresh_set, ne_eq, hn_b1, not_false_eq_true, and_self] : Fresh _ b1).2)), (by first | exact ⟨rfl, rfl⟩ | rfl)⟩
def fv (p : Int) (base : Option Addr) (n cap : Nat) : Value := .agg #[.int .i64 p, .slice base n cap]
def fbad (p : Int) : Value := .tuple #[.agg #[.int .i64 0, .slice none 0 0], .int .i64 p]
def okNew (perm n : Int) : Prop := 0 ≤ perm ∧ perm ≤ 7 ∧ 0 ≤ n ∧ n < 256
def newR (perm : Int) (n : Nat) : List Rc := hd perm n :: List.replicate n zr
theorem New_c (perm : Int) (n : Nat) (h : okNew perm n) (H : AH) : ACalls Tryz.prog 125 #[.int .i64 perm, .int .i64 n] H (fun v H' => ∃ b, Fresh H b ∧ v = .tuple #[fv perm (some ⟨b, 0, none⟩) (n + 1) (n + 1), .int .i64 0] ∧ H' = H.add b (.cells ((newR perm n).map enc).flatten 26 ((n + 1) * 4))) := by
  obtain ⟨h0, h1, h2, h3⟩ := h
  have a : ¬ perm < 0 := by omega
  have b : ¬ 7 < perm := by omega
  have c : ¬ (n : Int) < 0 := by omega
  have d : ¬ (256 : Int) ≤ n := by omega
  have e : IntKind.i64.wrap (1 + (n : Int)) = ((n + 1 : Nat) : Int) := by rw [i64_eq (by omega) (by omega)]; omega
  refine ACalls.enter2 Tryz.func125 rfl Tryz.ntmps125 Tryz.results125 (by simp) ?_; simp (dsimp := false) (maxSteps := 4000000) only [a, b, c, d, e, go_sem]
  refine AllB.mk fun b1 h_b1 => ?_; have hn_b1 := h_b1; (try simp only [fresh_add, fresh_set, ne_eq] at hn_b1); have hr_b1 := hn_b1; (try simp only [@eq_comm Nat b1] at hr_b1); simp (dsimp := false) (maxSteps := 4000000) only [a, b, c, d, e, hn_b1, hr_b1, go_sem]
  have hz : zf [Value.int .u8 0, .int .u8 0, .int .u8 0, .int .u8 0] ((n + 1) * 4) = ((List.replicate (n + 1) zr).map enc).flatten := by
    rw [zf_rows (zs := [Value.int .u8 0, .int .u8 0, .int .u8 0, .int .u8 0]) (n := n + 1) (m := (n + 1) * 4) rfl, List.map_replicate]; rfl
  refine ⟨by omega, by omega, by omega, ?_⟩
  rw [hz]
  refine AllB.mk fun bl h_bl => ?_; have hn_bl := h_bl; (try simp only [fresh_add, fresh_set, ne_eq] at hn_bl); have hr_bl := hn_bl; (try simp only [@eq_comm Nat bl] at hr_bl); simp (dsimp := false) (maxSteps := 4000000) only [a, b, c, d, e, hn_b1, hr_b1, hn_bl, hr_bl, go_sem]
  refine AllB.mk fun b6 h_b6 => ?_; have hn_b6 := h_b6; (try simp only [fresh_add, fresh_set, ne_eq] at hn_b6); have hr_b6 := hn_b6; (try simp only [@eq_comm Nat b6] at hr_b6); simp (dsimp := false) (maxSteps := 4000000) only [a, b, c, d, e, hn_b1, hr_b1, hn_bl, hr_bl, hn_b6, hr_b6, go_sem]
  refine AWp.gen [.pu, .rd, .pu, .pu, .ch, .pu, .ch] [0, 1, 0, 0, 12, 31, 63] 5 (_) mixed (by kernel_rfl) (AH.le_refl _) ?_
  simp (dsimp := false) (maxSteps := 4000000) only [a, b, c, d, e, hn_b1, hr_b1, hn_bl, hr_bl, hn_b6, hr_b6, go_sem]
  refine (header_c perm n _).mono ?_; rintro _ _ ⟨rfl, rfl⟩
  have hl : ((List.replicate (n + 1) zr).map enc).flatten.length = (n + 1) * 4 := by rw [flat_len (rows4 _)]; simp
  have hp : lput ((List.replicate (n + 1) zr).map enc).flatten 0 (enc (hd perm n)) = ((newR perm n).map enc).flatten := by
    have := flat_lput (rows4 (List.replicate (n + 1) zr)) 0 (enc (hd perm n)) (by simp) rfl
    rw [Nat.zero_mul] at this
    rw [this, List.replicate_succ]
    rfl
  have c0 : (0 : Int) < ((n + 1 : Nat) : Int) := by omega
  have c1 : 0 + 4 ≤ (n + 1) * 4 := by omega
  have c2 : (n + 1) * 4 ≤ (n + 1) * 4 := Nat.le_refl _
  simp (dsimp := false) (maxSteps := 4000000) only [AH.le_refl, hl, hp, c0, c1, c2, enc_len, enc_scal, a, b, c, d, e, hn_b1, hr_b1, hn_bl, hr_bl, hn_b6, hr_b6, go_sem]
  exact ⟨_, (by refine AH.le_cons ?_ ?_; (show AH.find _ _ = _; simp only [find_add_self, find_add_ne, find_fresh, fresh_add, fresh_set, ne_eq, not_false_eq_true, true_and, and_true, and_self, a, b, c, d, e, hn_b1, hr_b1, hn_bl, hr_bl, hn_b6, hr_b6]); (repeat (first | exact AH.le_refl _ | refine AH.le_add ?_ ?_)); all_goals (first | exact AH.le_refl _ | (show AH.find _ _ = _; simp only [find_add_self, find_add_ne, find_fresh, fresh_add, fresh_set, ne_eq, not_false_eq_true, true_and, and_true, and_self, a, b, c, d, e, hn_b1, hr_b1, hn_bl, hr_bl, hn_b6, hr_b6]))), bl, hn_bl.2, rfl, rfl⟩
theorem lt_of_get {α : Type} {l : List α} {i : Nat} {s : α} (h : l[i]? = some s) : i < l.length := by
  rcases Nat.lt_or_ge i l.length with h' | h'
  · exact h'
  · rw [List.getElem?_eq_none h'] at h; cases h
theorem enc_take (r : Rc) : (enc r).take 4 = enc r := rfl
theorem enc_z4 (r : Rc) : lput [.int .u8 0, .int .u8 0, .int .u8 0, .int .u8 0] 0 (enc r) = enc r := rfl
theorem flat4 (L : List Rc) : (L.map enc).flatten.length = L.length * 4 := by rw [flat_len (rows4 L), List.length_map]
theorem row4 {L : List Rc} {i : Nat} {r : Rc} (h : L[i]? = some r) : ((L.map enc).flatten.drop (i * 4)).take 4 = enc r := flat_row (rows4 L) i _ (map_get h)
theorem put4 {L : List Rc} {i : Nat} (r : Rc) (h : i < L.length) : lput (L.map enc).flatten (i * 4) (enc r) = ((L.set i r).map enc).flatten := by
  rw [flat_lput (rows4 L) i (enc r) (by rw [List.length_map]; exact h) rfl, List.map_set]
theorem getD4 {L : List Rc} {i : Nat} {r : Rc} (h : L[i]? = some r) : L.getD i zr = r := by rw [List.getD_eq_getElem?_getD, h]; rfl
theorem u8w (x : Int) : IntKind.u8.wrap x = x % 256 := rfl
structure Got (H H' : AH) (sz : Nat) (base : Option Addr) (cap : Nat) (R : List (List Value)) : Prop where
  slc : SlcIn H' sz base cap R
  new : ∀ a, base = some a → Fresh H a.block
  keep : Keep H H' fun _ => False
theorem Got.nil {H : AH} {sz : Nat} : Got H H sz none 0 [] := ⟨SlcIn.nil, (fun a h => by cases h), Keep.refl⟩
theorem Got.own {H H' : AH} {e sz cap : Nat} {base : Option Addr} {R : List (List Value)} (h : OwnS H H' e sz base cap R) (k : Keep H H' fun _ => False) : Got H H' sz base cap R := ⟨h.slc, h.fresh, k⟩
theorem Got.add {H : AH} {e sz cap m b : Nat} {R : List (List Value)} (hf : Fresh H b) (hR : ∀ r ∈ R, r.length = sz) (hl : R.length ≤ cap) (hb : R.length < 9223372036854775808) : Got H (H.add b (.cells R.flatten e m)) sz (some ⟨b, 0, none⟩) cap R :=
  ⟨SlcIn.own hR hl hb, fun a h => by cases h; exact hf, Keep.add hf⟩
theorem _root_.Go.AX.Keep.row {H A : AH} {b n e m : Nat} {cs : List Value} (h : Keep H A fun _ => False) (hf : H.find b = some (.cells cs e m)) (hn : cs.length = n) : A.row b 0 n = some cs := by
  have := row_find (off := 0) (n := n) (h.find (fun h => h) hf) (by omega)
  rw [this, List.drop_zero, List.take_of_length_le (by omega)]
abbrev En := Int × Int × Int × Int × Int
def encE (x : En) : List Value := [.int .i64 x.1, .int .i64 x.2.1, .int .i64 x.2.2.1, .int .i64 x.2.2.2.1, .int .i64 x.2.2.2.2]
def placeB (s f r : Int) : Bool := decide (1 ≤ s ∧ s ≤ 16 ∧ 0 ≤ f ∧ f < 64 ∧ 1 ≤ r ∧ r < 256)
def goodE : En → Bool
  | (k, s, f, r, b) => if k = 4 then decide (s = 0 ∧ f = 0 ∧ r = 0 ∧ b = 0) else decide (1 ≤ k ∧ k ≤ 3 ∧ (k = 3 → b = 0)) && placeB s f r && decide (0 ≤ b ∧ b ≤ 3)
theorem place_c (k s f r b : Int) (H : AH) : ACalls Tryz.prog 139 #[.agg #[.int .i64 k, .int .i64 s, .int .i64 f, .int .i64 r, .int .i64 b]] H (fun v H' => v = .bool (placeB s f r) ∧ H = H') := by
  refine ACalls.enter2 Tryz.func139 rfl Tryz.ntmps139 Tryz.results139 (by simp) ?_; simp (dsimp := false) (maxSteps := 4000000) only [go_sem]
  refine AllB.mk fun b1 h_b1 => ?_; have hn_b1 := h_b1; (try simp only [fresh_add, fresh_set, ne_eq] at hn_b1); have hr_b1 := hn_b1; (try simp only [@eq_comm Nat b1] at hr_b1); simp (dsimp := false) (maxSteps := 4000000) only [hn_b1, hr_b1, go_sem]
  by_cases c2_0 : 1 ≤ s
  case neg =>
    
    simp (dsimp := false) (maxSteps := 4000000) only [c2_0, hn_b1, hr_b1, go_sem]
    exact ⟨H, (AH.le_add (AH.le_refl _) ((by simp only [fresh_add, fresh_set, ne_eq, hn_b1, not_false_eq_true, and_self] : Fresh _ b1).2)), (by first | exact ⟨by rw [placeB, decide_eq_false (fun h => c2_0 (by omega))], rfl⟩ | rfl)⟩
    
  by_cases c2_1 : s ≤ 16
  case neg =>
    
    simp (dsimp := false) (maxSteps := 4000000) only [c2_0, c2_1, hn_b1, hr_b1, go_sem]
    exact ⟨H, (AH.le_add (AH.le_refl _) ((by simp only [fresh_add, fresh_set, ne_eq, hn_b1, not_false_eq_true, and_self] : Fresh _ b1).2)), (by first | exact ⟨by rw [placeB, decide_eq_false (fun h => c2_1 (by omega))], rfl⟩ | rfl)⟩
    
  by_cases c2_2 : 0 ≤ f
  case neg =>
    
    simp (dsimp := false) (maxSteps := 4000000) only [c2_0, c2_1, c2_2, hn_b1, hr_b1, go_sem]
    exact ⟨H, (AH.le_add (AH.le_refl _) ((by simp only [fresh_add, fresh_set, ne_eq, hn_b1, not_false_eq_true, and_self] : Fresh _ b1).2)), (by first | exact ⟨by rw [placeB, decide_eq_false (fun h => c2_2 (by omega))], rfl⟩ | rfl)⟩
    
  by_cases c2_3 : f < 64
  case neg =>
    
    simp (dsimp := false) (maxSteps := 4000000) only [c2_0, c2_1, c2_2, c2_3, hn_b1, hr_b1, go_sem]
    exact ⟨H, (AH.le_add (AH.le_refl _) ((by simp only [fresh_add, fresh_set, ne_eq, hn_b1, not_false_eq_true, and_self] : Fresh _ b1).2)), (by first | exact ⟨by rw [placeB, decide_eq_false (fun h => c2_3 (by omega))], rfl⟩ | rfl)⟩
    
  by_cases c2_4 : 1 ≤ r
  case neg =>
    
    simp (dsimp := false) (maxSteps := 4000000) only [c2_0, c2_1, c2_2, c2_3, c2_4, hn_b1, hr_b1, go_sem]
    exact ⟨H, (AH.le_add (AH.le_refl _) ((by simp only [fresh_add, fresh_set, ne_eq, hn_b1, not_false_eq_true, and_self] : Fresh _ b1).2)), (by first | exact ⟨by rw [placeB, decide_eq_false (fun h => c2_4 (by omega))], rfl⟩ | rfl)⟩
    
  by_cases c2_5 : r < 256
  case neg =>
    
    simp (dsimp := false) (maxSteps := 4000000) only [c2_0, c2_1, c2_2, c2_3, c2_4, c2_5, hn_b1, hr_b1, go_sem]
    exact ⟨H, (AH.le_add (AH.le_refl _) ((by simp only [fresh_add, fresh_set, ne_eq, hn_b1, not_false_eq_true, and_self] : Fresh _ b1).2)), (by first | exact ⟨by rw [placeB, decide_eq_false (fun h => c2_5 (by omega))], rfl⟩ | rfl)⟩
    
  simp (dsimp := false) (maxSteps := 4000000) only [c2_0, c2_1, c2_2, c2_3, c2_4, c2_5, hn_b1, hr_b1, go_sem]
  exact ⟨H, (AH.le_add (AH.le_refl _) ((by simp only [fresh_add, fresh_set, ne_eq, hn_b1, not_false_eq_true, and_self] : Fresh _ b1).2)), (by first | exact ⟨by rw [placeB, decide_eq_true (by omega)], rfl⟩ | rfl)⟩
theorem Good_c (k s f r b : Int) (H : AH) : ACalls Tryz.prog 135 #[.agg #[.int .i64 k, .int .i64 s, .int .i64 f, .int .i64 r, .int .i64 b]] H (fun v H' => v = .bool (goodE (k, s, f, r, b)) ∧ H = H') := by
  refine ACalls.enter2 Tryz.func135 rfl Tryz.ntmps135 Tryz.results135 (by simp) ?_; simp (dsimp := false) (maxSteps := 4000000) only [go_sem]
  refine AllB.mk fun b1 h_b1 => ?_; have hn_b1 := h_b1; (try simp only [fresh_add, fresh_set, ne_eq] at hn_b1); have hr_b1 := hn_b1; (try simp only [@eq_comm Nat b1] at hr_b1); simp (dsimp := false) (maxSteps := 4000000) only [hn_b1, hr_b1, go_sem]
  by_cases k4 : k = 4
  · subst k4
    simp (dsimp := false) (maxSteps := 4000000) only [hn_b1, hr_b1, go_sem]
    exact ⟨H, (AH.le_add (AH.le_refl _) ((by simp only [fresh_add, fresh_set, ne_eq, hn_b1, not_false_eq_true, and_self] : Fresh _ b1).2)), (by first | exact ⟨congrArg Value.bool (by rw [Bool.eq_iff_iff]; simp [goodE]), rfl⟩ | rfl)⟩
  by_cases k3 : k = 3
  · subst k3
    by_cases b0 : b = 0
    · subst b0
      simp (dsimp := false) (maxSteps := 4000000) only [hn_b1, hr_b1, go_sem]
      refine (place_c 3 s f r 0 _).mono ?_; rintro _ _ ⟨rfl, rfl⟩
      cases hp : placeB s f r with
      | true =>
        simp (dsimp := false) (maxSteps := 4000000) only [hn_b1, hr_b1, go_sem]
        exact ⟨H, (AH.le_add (AH.le_refl _) ((by simp only [fresh_add, fresh_set, ne_eq, hn_b1, not_false_eq_true, and_self] : Fresh _ b1).2)), (by first | exact ⟨by simp [goodE, hp], rfl⟩ | rfl)⟩
      | false =>
        simp (dsimp := false) (maxSteps := 4000000) only [hn_b1, hr_b1, go_sem]
        exact ⟨H, (AH.le_add (AH.le_refl _) ((by simp only [fresh_add, fresh_set, ne_eq, hn_b1, not_false_eq_true, and_self] : Fresh _ b1).2)), (by first | exact ⟨by simp [goodE, hp], rfl⟩ | rfl)⟩
    · simp (dsimp := false) (maxSteps := 4000000) only [b0, hn_b1, hr_b1, go_sem]
      exact ⟨H, (AH.le_add (AH.le_refl _) ((by simp only [fresh_add, fresh_set, ne_eq, hn_b1, not_false_eq_true, and_self] : Fresh _ b1).2)), (by first | exact ⟨by simp [goodE, b0], rfl⟩ | rfl)⟩
  by_cases k1 : k = 1 ∨ k = 2
  · have kk : goodE (k, s, f, r, b) = (placeB s f r && decide (0 ≤ b ∧ b ≤ 3)) := by
      simp only [goodE]; rw [if_neg k4, decide_eq_true (by omega), Bool.true_and]
    rcases k1 with rfl | rfl
    · 
      simp (dsimp := false) (maxSteps := 4000000) only [hn_b1, hr_b1, go_sem]
      refine (place_c 1 s f r b _).mono ?_; rintro _ _ ⟨rfl, rfl⟩
      cases hp : placeB s f r with
      | true =>
        by_cases c1 : 0 ≤ b
        · by_cases c2 : b ≤ 3
          · simp (dsimp := false) (maxSteps := 4000000) only [c1, c2, hn_b1, hr_b1, go_sem]
            exact ⟨H, (AH.le_add (AH.le_refl _) ((by simp only [fresh_add, fresh_set, ne_eq, hn_b1, not_false_eq_true, and_self] : Fresh _ b1).2)), (by first | exact ⟨by rw [kk, hp, decide_eq_true ⟨c1, c2⟩]; rfl, rfl⟩ | rfl)⟩
          · simp (dsimp := false) (maxSteps := 4000000) only [c1, c2, hn_b1, hr_b1, go_sem]
            exact ⟨H, (AH.le_add (AH.le_refl _) ((by simp only [fresh_add, fresh_set, ne_eq, hn_b1, not_false_eq_true, and_self] : Fresh _ b1).2)), (by first | exact ⟨by rw [kk, hp, decide_eq_false (fun h => c2 h.2)]; rfl, rfl⟩ | rfl)⟩
        · simp (dsimp := false) (maxSteps := 4000000) only [c1, hn_b1, hr_b1, go_sem]
          exact ⟨H, (AH.le_add (AH.le_refl _) ((by simp only [fresh_add, fresh_set, ne_eq, hn_b1, not_false_eq_true, and_self] : Fresh _ b1).2)), (by first | exact ⟨by rw [kk, hp, decide_eq_false (fun h => c1 h.1)]; rfl, rfl⟩ | rfl)⟩
      | false =>
        simp (dsimp := false) (maxSteps := 4000000) only [hn_b1, hr_b1, go_sem]
        exact ⟨H, (AH.le_add (AH.le_refl _) ((by simp only [fresh_add, fresh_set, ne_eq, hn_b1, not_false_eq_true, and_self] : Fresh _ b1).2)), (by first | exact ⟨by rw [kk, hp]; rfl, rfl⟩ | rfl)⟩
      
    · 
      simp (dsimp := false) (maxSteps := 4000000) only [hn_b1, hr_b1, go_sem]
      refine (place_c 2 s f r b _).mono ?_; rintro _ _ ⟨rfl, rfl⟩
      cases hp : placeB s f r with
      | true =>
        by_cases c1 : 0 ≤ b
        · by_cases c2 : b ≤ 3
          · simp (dsimp := false) (maxSteps := 4000000) only [c1, c2, hn_b1, hr_b1, go_sem]
            exact ⟨H, (AH.le_add (AH.le_refl _) ((by simp only [fresh_add, fresh_set, ne_eq, hn_b1, not_false_eq_true, and_self] : Fresh _ b1).2)), (by first | exact ⟨by rw [kk, hp, decide_eq_true ⟨c1, c2⟩]; rfl, rfl⟩ | rfl)⟩
          · simp (dsimp := false) (maxSteps := 4000000) only [c1, c2, hn_b1, hr_b1, go_sem]
            exact ⟨H, (AH.le_add (AH.le_refl _) ((by simp only [fresh_add, fresh_set, ne_eq, hn_b1, not_false_eq_true, and_self] : Fresh _ b1).2)), (by first | exact ⟨by rw [kk, hp, decide_eq_false (fun h => c2 h.2)]; rfl, rfl⟩ | rfl)⟩
        · simp (dsimp := false) (maxSteps := 4000000) only [c1, hn_b1, hr_b1, go_sem]
          exact ⟨H, (AH.le_add (AH.le_refl _) ((by simp only [fresh_add, fresh_set, ne_eq, hn_b1, not_false_eq_true, and_self] : Fresh _ b1).2)), (by first | exact ⟨by rw [kk, hp, decide_eq_false (fun h => c1 h.1)]; rfl, rfl⟩ | rfl)⟩
      | false =>
        simp (dsimp := false) (maxSteps := 4000000) only [hn_b1, hr_b1, go_sem]
        exact ⟨H, (AH.le_add (AH.le_refl _) ((by simp only [fresh_add, fresh_set, ne_eq, hn_b1, not_false_eq_true, and_self] : Fresh _ b1).2)), (by first | exact ⟨by rw [kk, hp]; rfl, rfl⟩ | rfl)⟩
      
  have k1' : ¬ k = 1 := fun h => k1 (.inl h)
  have k2' : ¬ k = 2 := fun h => k1 (.inr h)
  simp (dsimp := false) (maxSteps := 4000000) only [k4, k3, k1', k2', hn_b1, hr_b1, go_sem]
  exact ⟨H, (AH.le_add (AH.le_refl _) ((by simp only [fresh_add, fresh_set, ne_eq, hn_b1, not_false_eq_true, and_self] : Fresh _ b1).2)), (by first | exact ⟨by simp only [goodE]; rw [if_neg k4, decide_eq_false (by omega)]; rfl, rfl⟩ | rfl)⟩
theorem RefGood_c (k s f r b : Int) (H : AH) : ACalls Tryz.prog 109 #[.agg #[.int .i64 k, .int .i64 s, .int .i64 f, .int .i64 r, .int .i64 b]] H (fun v H' => v = .bool (goodE (k, s, f, r, b)) ∧ H = H') := by
  refine ACalls.enter2 Tryz.func109 rfl Tryz.ntmps109 Tryz.results109 (by simp) ?_; simp (dsimp := false) (maxSteps := 4000000) only [go_sem]
  refine AllB.mk fun b1 h_b1 => ?_; have hn_b1 := h_b1; (try simp only [fresh_add, fresh_set, ne_eq] at hn_b1); have hr_b1 := hn_b1; (try simp only [@eq_comm Nat b1] at hr_b1); simp (dsimp := false) (maxSteps := 4000000) only [hn_b1, hr_b1, go_sem]
  by_cases k4 : k = 4
  · subst k4
    by_cases c4_0 : s = 0
    case neg =>
      
      simp (dsimp := false) (maxSteps := 4000000) only [c4_0, hn_b1, hr_b1, go_sem]
      exact ⟨H, (AH.le_add (AH.le_refl _) ((by simp only [fresh_add, fresh_set, ne_eq, hn_b1, not_false_eq_true, and_self] : Fresh _ b1).2)), (by first | exact ⟨by simp [goodE, c4_0], rfl⟩ | rfl)⟩
      
    by_cases c4_1 : f = 0
    case neg =>
      
      simp (dsimp := false) (maxSteps := 4000000) only [c4_0, c4_1, hn_b1, hr_b1, go_sem]
      exact ⟨H, (AH.le_add (AH.le_refl _) ((by simp only [fresh_add, fresh_set, ne_eq, hn_b1, not_false_eq_true, and_self] : Fresh _ b1).2)), (by first | exact ⟨by simp [goodE, c4_1], rfl⟩ | rfl)⟩
      
    by_cases c4_2 : r = 0
    case neg =>
      
      simp (dsimp := false) (maxSteps := 4000000) only [c4_0, c4_1, c4_2, hn_b1, hr_b1, go_sem]
      exact ⟨H, (AH.le_add (AH.le_refl _) ((by simp only [fresh_add, fresh_set, ne_eq, hn_b1, not_false_eq_true, and_self] : Fresh _ b1).2)), (by first | exact ⟨by simp [goodE, c4_2], rfl⟩ | rfl)⟩
      
    by_cases c4_3 : b = 0
    case neg =>
      
      simp (dsimp := false) (maxSteps := 4000000) only [c4_0, c4_1, c4_2, c4_3, hn_b1, hr_b1, go_sem]
      exact ⟨H, (AH.le_add (AH.le_refl _) ((by simp only [fresh_add, fresh_set, ne_eq, hn_b1, not_false_eq_true, and_self] : Fresh _ b1).2)), (by first | exact ⟨by simp [goodE, c4_3], rfl⟩ | rfl)⟩
      
    simp (dsimp := false) (maxSteps := 4000000) only [c4_0, c4_1, c4_2, c4_3, hn_b1, hr_b1, go_sem]
    exact ⟨H, (AH.le_add (AH.le_refl _) ((by simp only [fresh_add, fresh_set, ne_eq, hn_b1, not_false_eq_true, and_self] : Fresh _ b1).2)), (by first | exact ⟨by simp [goodE, c4_0, c4_1, c4_2, c4_3], rfl⟩ | rfl)⟩
  by_cases d1 : k < 1
  · simp (dsimp := false) (maxSteps := 4000000) only [k4, d1, hn_b1, hr_b1, go_sem]
    exact ⟨H, (AH.le_add (AH.le_refl _) ((by simp only [fresh_add, fresh_set, ne_eq, hn_b1, not_false_eq_true, and_self] : Fresh _ b1).2)), (by first | exact ⟨by simp only [goodE]; rw [if_neg k4, decide_eq_false (by omega)]; rfl, rfl⟩ | rfl)⟩
  by_cases d2 : 3 < k
  · simp (dsimp := false) (maxSteps := 4000000) only [k4, d1, d2, hn_b1, hr_b1, go_sem]
    exact ⟨H, (AH.le_add (AH.le_refl _) ((by simp only [fresh_add, fresh_set, ne_eq, hn_b1, not_false_eq_true, and_self] : Fresh _ b1).2)), (by first | exact ⟨by simp only [goodE]; rw [if_neg k4, decide_eq_false (by omega)]; rfl, rfl⟩ | rfl)⟩
  by_cases d3 : k = 3 ∧ ¬ b = 0
  · obtain ⟨rfl, d3⟩ := d3
    simp (dsimp := false) (maxSteps := 4000000) only [d3, hn_b1, hr_b1, go_sem]
    exact ⟨H, (AH.le_add (AH.le_refl _) ((by simp only [fresh_add, fresh_set, ne_eq, hn_b1, not_false_eq_true, and_self] : Fresh _ b1).2)), (by first | exact ⟨by simp [goodE, d3], rfl⟩ | rfl)⟩
  have kk : goodE (k, s, f, r, b) = (placeB s f r && decide (0 ≤ b ∧ b ≤ 3)) := by
    simp only [goodE]; rw [if_neg k4, decide_eq_true (by omega), Bool.true_and]
  have d5 : (k = 3 ∧ b = 0) ∨ ¬ k = 3 := by omega
  rcases d5 with ⟨rfl, rfl⟩ | d5
  · skip
    by_cases c4_0 : 1 ≤ s
    case neg =>
      
      simp (dsimp := false) (maxSteps := 4000000) only [d1,  d2,  k4, c4_0, hn_b1, hr_b1, go_sem]
      exact ⟨H, (AH.le_add (AH.le_refl _) ((by simp only [fresh_add, fresh_set, ne_eq, hn_b1, not_false_eq_true, and_self] : Fresh _ b1).2)), (by first | exact ⟨by rw [kk, placeB, decide_eq_false (fun h => c4_0 (by omega))]; rfl, rfl⟩ | rfl)⟩
      
    by_cases c4_1 : s ≤ 16
    case neg =>
      
      simp (dsimp := false) (maxSteps := 4000000) only [d1,  d2,  k4, c4_0, c4_1, hn_b1, hr_b1, go_sem]
      exact ⟨H, (AH.le_add (AH.le_refl _) ((by simp only [fresh_add, fresh_set, ne_eq, hn_b1, not_false_eq_true, and_self] : Fresh _ b1).2)), (by first | exact ⟨by rw [kk, placeB, decide_eq_false (fun h => c4_1 (by omega))]; rfl, rfl⟩ | rfl)⟩
      
    by_cases c4_2 : 0 ≤ f
    case neg =>
      
      simp (dsimp := false) (maxSteps := 4000000) only [d1,  d2,  k4, c4_0, c4_1, c4_2, hn_b1, hr_b1, go_sem]
      exact ⟨H, (AH.le_add (AH.le_refl _) ((by simp only [fresh_add, fresh_set, ne_eq, hn_b1, not_false_eq_true, and_self] : Fresh _ b1).2)), (by first | exact ⟨by rw [kk, placeB, decide_eq_false (fun h => c4_2 (by omega))]; rfl, rfl⟩ | rfl)⟩
      
    by_cases c4_3 : f ≤ 63
    case neg =>
      
      simp (dsimp := false) (maxSteps := 4000000) only [d1,  d2,  k4, c4_0, c4_1, c4_2, c4_3, hn_b1, hr_b1, go_sem]
      exact ⟨H, (AH.le_add (AH.le_refl _) ((by simp only [fresh_add, fresh_set, ne_eq, hn_b1, not_false_eq_true, and_self] : Fresh _ b1).2)), (by first | exact ⟨by rw [kk, placeB, decide_eq_false (fun h => c4_3 (by omega))]; rfl, rfl⟩ | rfl)⟩
      
    by_cases c4_4 : 1 ≤ r
    case neg =>
      
      simp (dsimp := false) (maxSteps := 4000000) only [d1,  d2,  k4, c4_0, c4_1, c4_2, c4_3, c4_4, hn_b1, hr_b1, go_sem]
      exact ⟨H, (AH.le_add (AH.le_refl _) ((by simp only [fresh_add, fresh_set, ne_eq, hn_b1, not_false_eq_true, and_self] : Fresh _ b1).2)), (by first | exact ⟨by rw [kk, placeB, decide_eq_false (fun h => c4_4 (by omega))]; rfl, rfl⟩ | rfl)⟩
      
    by_cases c4_5 : r ≤ 255
    case neg =>
      
      simp (dsimp := false) (maxSteps := 4000000) only [d1,  d2,  k4, c4_0, c4_1, c4_2, c4_3, c4_4, c4_5, hn_b1, hr_b1, go_sem]
      exact ⟨H, (AH.le_add (AH.le_refl _) ((by simp only [fresh_add, fresh_set, ne_eq, hn_b1, not_false_eq_true, and_self] : Fresh _ b1).2)), (by first | exact ⟨by rw [kk, placeB, decide_eq_false (fun h => c4_5 (by omega))]; rfl, rfl⟩ | rfl)⟩
      
    have hp : placeB s f r = true := by rw [placeB, decide_eq_true (by omega)]
    simp (dsimp := false) (maxSteps := 4000000) only [d1,  d2,  k4, c4_0, c4_1, c4_2, c4_3, c4_4, c4_5, hn_b1, hr_b1, go_sem]
    exact ⟨H, (AH.le_add (AH.le_refl _) ((by simp only [fresh_add, fresh_set, ne_eq, hn_b1, not_false_eq_true, and_self] : Fresh _ b1).2)), (by first | exact ⟨by rw [kk, hp]; rfl, rfl⟩ | rfl)⟩
  · skip
    by_cases c4_0 : 1 ≤ s
    case neg =>
      
      simp (dsimp := false) (maxSteps := 4000000) only [d1,  d2,  k4,  d5, c4_0, hn_b1, hr_b1, go_sem]
      exact ⟨H, (AH.le_add (AH.le_refl _) ((by simp only [fresh_add, fresh_set, ne_eq, hn_b1, not_false_eq_true, and_self] : Fresh _ b1).2)), (by first | exact ⟨by rw [kk, placeB, decide_eq_false (fun h => c4_0 (by omega))]; rfl, rfl⟩ | rfl)⟩
      
    by_cases c4_1 : s ≤ 16
    case neg =>
      
      simp (dsimp := false) (maxSteps := 4000000) only [d1,  d2,  k4,  d5, c4_0, c4_1, hn_b1, hr_b1, go_sem]
      exact ⟨H, (AH.le_add (AH.le_refl _) ((by simp only [fresh_add, fresh_set, ne_eq, hn_b1, not_false_eq_true, and_self] : Fresh _ b1).2)), (by first | exact ⟨by rw [kk, placeB, decide_eq_false (fun h => c4_1 (by omega))]; rfl, rfl⟩ | rfl)⟩
      
    by_cases c4_2 : 0 ≤ f
    case neg =>
      
      simp (dsimp := false) (maxSteps := 4000000) only [d1,  d2,  k4,  d5, c4_0, c4_1, c4_2, hn_b1, hr_b1, go_sem]
      exact ⟨H, (AH.le_add (AH.le_refl _) ((by simp only [fresh_add, fresh_set, ne_eq, hn_b1, not_false_eq_true, and_self] : Fresh _ b1).2)), (by first | exact ⟨by rw [kk, placeB, decide_eq_false (fun h => c4_2 (by omega))]; rfl, rfl⟩ | rfl)⟩
      
    by_cases c4_3 : f ≤ 63
    case neg =>
      
      simp (dsimp := false) (maxSteps := 4000000) only [d1,  d2,  k4,  d5, c4_0, c4_1, c4_2, c4_3, hn_b1, hr_b1, go_sem]
      exact ⟨H, (AH.le_add (AH.le_refl _) ((by simp only [fresh_add, fresh_set, ne_eq, hn_b1, not_false_eq_true, and_self] : Fresh _ b1).2)), (by first | exact ⟨by rw [kk, placeB, decide_eq_false (fun h => c4_3 (by omega))]; rfl, rfl⟩ | rfl)⟩
      
    by_cases c4_4 : 1 ≤ r
    case neg =>
      
      simp (dsimp := false) (maxSteps := 4000000) only [d1,  d2,  k4,  d5, c4_0, c4_1, c4_2, c4_3, c4_4, hn_b1, hr_b1, go_sem]
      exact ⟨H, (AH.le_add (AH.le_refl _) ((by simp only [fresh_add, fresh_set, ne_eq, hn_b1, not_false_eq_true, and_self] : Fresh _ b1).2)), (by first | exact ⟨by rw [kk, placeB, decide_eq_false (fun h => c4_4 (by omega))]; rfl, rfl⟩ | rfl)⟩
      
    by_cases c4_5 : r ≤ 255
    case neg =>
      
      simp (dsimp := false) (maxSteps := 4000000) only [d1,  d2,  k4,  d5, c4_0, c4_1, c4_2, c4_3, c4_4, c4_5, hn_b1, hr_b1, go_sem]
      exact ⟨H, (AH.le_add (AH.le_refl _) ((by simp only [fresh_add, fresh_set, ne_eq, hn_b1, not_false_eq_true, and_self] : Fresh _ b1).2)), (by first | exact ⟨by rw [kk, placeB, decide_eq_false (fun h => c4_5 (by omega))]; rfl, rfl⟩ | rfl)⟩
      
    have hp : placeB s f r = true := by rw [placeB, decide_eq_true (by omega)]
    by_cases e1 : 0 ≤ b
    case neg =>
      simp (dsimp := false) (maxSteps := 4000000) only [d1,  d2,  k4,  d5, c4_0, c4_1, c4_2, c4_3, c4_4, c4_5, e1, hn_b1, hr_b1, go_sem]
      exact ⟨H, (AH.le_add (AH.le_refl _) ((by simp only [fresh_add, fresh_set, ne_eq, hn_b1, not_false_eq_true, and_self] : Fresh _ b1).2)), (by first | exact ⟨by rw [kk, hp, decide_eq_false (fun h => e1 h.1)]; rfl, rfl⟩ | rfl)⟩
    by_cases e2 : b ≤ 3
    · simp (dsimp := false) (maxSteps := 4000000) only [d1,  d2,  k4,  d5, c4_0, c4_1, c4_2, c4_3, c4_4, c4_5, e1, e2, hn_b1, hr_b1, go_sem]
      exact ⟨H, (AH.le_add (AH.le_refl _) ((by simp only [fresh_add, fresh_set, ne_eq, hn_b1, not_false_eq_true, and_self] : Fresh _ b1).2)), (by first | exact ⟨by rw [kk, hp, decide_eq_true ⟨e1, e2⟩]; rfl, rfl⟩ | rfl)⟩
    · simp (dsimp := false) (maxSteps := 4000000) only [d1,  d2,  k4,  d5, c4_0, c4_1, c4_2, c4_3, c4_4, c4_5, e1, e2, hn_b1, hr_b1, go_sem]
      exact ⟨H, (AH.le_add (AH.le_refl _) ((by simp only [fresh_add, fresh_set, ne_eq, hn_b1, not_false_eq_true, and_self] : Fresh _ b1).2)), (by first | exact ⟨by rw [kk, hp, decide_eq_false (fun h => e2 h.2)]; rfl, rfl⟩ | rfl)⟩
def putR : En → Rc
  | (k, s, f, r, b) => (64 * b + k, s, f, r)
def ze : En := (0, 0, 0, 0, 0)
def pR (x : En) : Rc := if goodE x = true then putR x else zr
def pE (x : En) : Int := if goodE x = true then 0 else 1
theorem goodE_range {k s f r b : Int} (h : goodE (k, s, f, r, b) = true) : (0 ≤ b ∧ b ≤ 3) ∧ (1 ≤ k ∧ k ≤ 4) ∧ (0 ≤ s ∧ s ≤ 16) ∧ (0 ≤ f ∧ f ≤ 63) ∧ (0 ≤ r ∧ r ≤ 255) := by
  simp only [goodE] at h
  split at h
  · have := of_decide_eq_true h
    omega
  · simp only [placeB, Bool.and_eq_true, decide_eq_true_eq] at h
    omega
theorem or_put : ∀ (x : Fin 4) (y : Fin 64), IntKind.u8.wrap (ibits .or .i64 (IntKind.i64.wrap ((x.val : Int) * 64)) (y.val : Int)) = 64 * (x.val : Int) + y.val := by decide +kernel
theorem or_eq {a c : Int} (a0 : 0 ≤ a) (a1 : a ≤ 3) (c0 : 0 ≤ c) (c1 : c < 64) : IntKind.u8.wrap (ibits .or .i64 (IntKind.i64.wrap (a * 64)) c) = 64 * a + c := by
  have := or_put ⟨a.toNat, by omega⟩ ⟨c.toNat, by omega⟩
  simpa [Int.toNat_of_nonneg a0, Int.toNat_of_nonneg c0] using this
theorem Put_u (k s f r b : Int) (H : AH) : ACalls Tryz.prog 126 #[.agg #[.int .i64 k, .int .i64 s, .int .i64 f, .int .i64 r, .int .i64 b]] H (fun v H' => v = .tuple #[.agg (enc (pR (k, s, f, r, b))).toArray, .int .i64 (pE (k, s, f, r, b))] ∧ H = H') := by
  refine ACalls.enter2 Tryz.func126 rfl Tryz.ntmps126 Tryz.results126 (by simp) ?_; simp (dsimp := false) (maxSteps := 4000000) only [go_sem]
  refine AllB.mk fun b1 h_b1 => ?_; have hn_b1 := h_b1; (try simp only [fresh_add, fresh_set, ne_eq] at hn_b1); have hr_b1 := hn_b1; (try simp only [@eq_comm Nat b1] at hr_b1); simp (dsimp := false) (maxSteps := 4000000) only [hn_b1, hr_b1, go_sem]
  refine AllB.mk fun b2 h_b2 => ?_; have hn_b2 := h_b2; (try simp only [fresh_add, fresh_set, ne_eq] at hn_b2); have hr_b2 := hn_b2; (try simp only [@eq_comm Nat b2] at hr_b2); simp (dsimp := false) (maxSteps := 4000000) only [hn_b1, hr_b1, hn_b2, hr_b2, go_sem]
  refine (Good_c k s f r b _).mono ?_; rintro _ _ ⟨rfl, rfl⟩
  cases g : goodE (k, s, f, r, b) with
  | true =>
    obtain ⟨⟨h1, h2⟩, ⟨h3, h4⟩, ⟨h5, h6⟩, ⟨h7, h8⟩, ⟨h9, h10⟩⟩ := goodE_range g
    have e1 := or_eq h1 h2 (by omega : 0 ≤ k) (by omega)
    have e2 := u8_eq h5 (by omega)
    have e3 := u8_eq h7 (by omega)
    have e4 := u8_eq h9 (by omega)
    simp (dsimp := false) (maxSteps := 4000000) only [e1, e2, e3, e4, hn_b1, hr_b1, hn_b2, hr_b2, go_sem]
    exact ⟨H, (AH.le_add (AH.le_add (AH.le_refl _) ((by simp only [fresh_add, fresh_set, ne_eq, hn_b1, not_false_eq_true, and_self] : Fresh _ b1).2)) ((by simp only [fresh_add, fresh_set, ne_eq, hn_b2, not_false_eq_true, and_self] : Fresh _ b2).2)), (by first | exact ⟨by simp [pR, pE, g, putR, enc, e1], rfl⟩ | rfl)⟩
  | false =>
    simp (dsimp := false) (maxSteps := 4000000) only [hn_b1, hr_b1, hn_b2, hr_b2, go_sem]
    exact ⟨H, (AH.le_add (AH.le_add (AH.le_refl _) ((by simp only [fresh_add, fresh_set, ne_eq, hn_b1, not_false_eq_true, and_self] : Fresh _ b1).2)) ((by simp only [fresh_add, fresh_set, ne_eq, hn_b2, not_false_eq_true, and_self] : Fresh _ b2).2)), (by first | exact ⟨by simp [pR, pE, g, zr, enc], rfl⟩ | rfl)⟩
theorem encE_len (x : En) : (encE x).length = 5 := rfl
theorem encE_scal (x : En) : (encE x).all scal = true := rfl
theorem encE_mk (k s f r b : Int) : encE (k, s, f, r, b) = [.int .i64 k, .int .i64 s, .int .i64 f, .int .i64 r, .int .i64 b] := rfl
def prv (L : List En) (i : Nat) : Int := if i = 0 then 0 else (L.getD (i - 1) ze).2.1
def chk (L : List En) (i : Nat) : Bool := match L[i]? with
  | none => true
  | some x => goodE x && !(decide (x.1 = 4)) && decide (prv L i < x.2.1)
def mayB (L : List En) : Bool := (List.range L.length).all (chk L) && decide (L.length ≤ 64)
theorem mayB_no {L : List En} {i : Nat} (hi : i < L.length) (h : chk L i = false) : mayB L = false := by
  have : (List.range L.length).all (chk L) = false := by
    rw [List.all_eq_false]
    exact ⟨i, List.mem_range.2 hi, by rw [h]; simp⟩
  rw [mayB, this]; rfl
theorem mayB_yes {L : List En} {i : Nat} (hi : L.length ≤ i) (h : ∀ j, j < i → chk L j = true) : mayB L = decide (L.length ≤ 64) := by
  have : (List.range L.length).all (chk L) = true := by
    rw [List.all_eq_true]
    exact fun j hj => h j (by have := List.mem_range.1 hj; omega)
  rw [mayB, this, Bool.true_and]
theorem prv_succ {L : List En} {i : Nat} {x : En} (h : L[i]? = some x) : prv L (i + 1) = x.2.1 := by
  rw [prv, if_neg (by omega), Nat.add_sub_cancel, List.getD_eq_getElem?_getD, h]; rfl
theorem table_c (L : List En) (base : Option Addr) (cap : Nat) (H : AH) (hs : SlcIn H 5 base cap (L.map encE)) :
    ACalls Tryz.prog 124 #[.slice base L.length cap] H (fun v H' => v = .bool (mayB L) ∧ H = H') := by
  have hbig := hs.big
  simp only [List.length_map] at hbig
  refine ACalls.enter2 Tryz.func124 rfl Tryz.ntmps124 Tryz.results124 (by simp) ?_; simp (dsimp := false) (maxSteps := 4000000) only [encE_len, encE_scal, go_sem]
  refine AWp.loopo (ι := Nat) (fun i => i ≤ L.length ∧ ∀ j, j < i → chk L j = true) (fun i => [(8, .int .i64 i), (7, .int .i64 L.length), (6, .slice base L.length cap), (0, .slice base L.length cap), (3, .int .i64 (prv L i))])
    (fun _ => H) (fun i => L.length - i) 0 ⟨by omega, fun j hj => by omega⟩ (FrLe.of_lks ?_) (AH.le_refl _) fun i hi Q again out => ?_
  · simp (dsimp := false) (maxSteps := 4000000) only [show prv L 0 = 0 from rfl, encE_len, encE_scal, go_sem]
  · obtain ⟨hi, hall⟩ := hi
    by_cases h : (i : Int) < L.length
    · obtain ⟨⟨k, s, f, r, y⟩, hn⟩ := get_some (l := L) (i := i) (by omega)
      obtain ⟨b, o, rfl, hrow, _⟩ := hs.get (map_get (f := encE) hn)
      rw [encE_mk] at hrow
      have ee := i64_succ (i := i) (by omega)
      have hps := prv_succ hn
      have hc : chk L i = (goodE (k, s, f, r, y) && !(decide (k = 4)) && decide (prv L i < s)) := by rw [chk, hn]
      
      simp (dsimp := false) (maxSteps := 4000000) only [h, hrow, encE_len, encE_scal, go_sem]
      refine AllB.mk fun b5 h_b5 => ?_; have hn_b5 := h_b5; (try simp only [fresh_add, fresh_set, ne_eq] at hn_b5); have hr_b5 := hn_b5; (try simp only [@eq_comm Nat b5] at hr_b5); simp (dsimp := false) (maxSteps := 4000000) only [encE_len, encE_scal, hn_b5, hr_b5, go_sem]
      refine (Good_c k s f r y _).mono ?_; rintro _ _ ⟨rfl, rfl⟩
      cases g : goodE (k, s, f, r, y) with
      | false =>
        simp (dsimp := false) (maxSteps := 4000000) only [encE_len, encE_scal, hn_b5, hr_b5, go_sem]
        refine out _ _ _ (by simp) ?_
        simp (dsimp := false) (maxSteps := 4000000) only [encE_len, encE_scal, hn_b5, hr_b5, go_sem]
        exact ⟨H, (AH.le_add (AH.le_refl _) ((by simp only [encE_len, encE_scal, fresh_add, fresh_set, ne_eq, hn_b5, not_false_eq_true, and_self] : Fresh _ b5).2)), (by first | exact ⟨by rw [mayB_no (i := i) (by omega) (by rw [hc, g]; rfl)], rfl⟩ | rfl)⟩
      | true =>
        by_cases k4 : k = 4
        · simp (dsimp := false) (maxSteps := 4000000) only [k4, encE_len, encE_scal, hn_b5, hr_b5, go_sem]
          refine out _ _ _ (by simp) ?_
          simp (dsimp := false) (maxSteps := 4000000) only [encE_len, encE_scal, hn_b5, hr_b5, go_sem]
          exact ⟨H, (AH.le_add (AH.le_refl _) ((by simp only [encE_len, encE_scal, fresh_add, fresh_set, ne_eq, hn_b5, not_false_eq_true, and_self] : Fresh _ b5).2)), (by first | exact ⟨by rw [mayB_no (i := i) (by omega) (by rw [hc, decide_eq_true k4]; simp)], rfl⟩ | rfl)⟩
        by_cases c : s ≤ prv L i
        · simp (dsimp := false) (maxSteps := 4000000) only [k4, c, encE_len, encE_scal, hn_b5, hr_b5, go_sem]
          refine out _ _ _ (by simp) ?_
          simp (dsimp := false) (maxSteps := 4000000) only [encE_len, encE_scal, hn_b5, hr_b5, go_sem]
          exact ⟨H, (AH.le_add (AH.le_refl _) ((by simp only [encE_len, encE_scal, fresh_add, fresh_set, ne_eq, hn_b5, not_false_eq_true, and_self] : Fresh _ b5).2)), (by first | exact ⟨by rw [mayB_no (i := i) (by omega) (by rw [hc, decide_eq_false (p := prv L i < s) (by omega)]; simp)], rfl⟩ | rfl)⟩
        simp (dsimp := false) (maxSteps := 4000000) only [k4, c, ee, encE_len, encE_scal, hn_b5, hr_b5, go_sem]
        refine again (i + 1) _ _ ⟨by omega, fun j hj => ?_⟩ (FrLe.of_lks (by simp (dsimp := false) (maxSteps := 4000000) only [hps, encE_len, encE_scal, hn_b5, hr_b5, go_sem])) (by (repeat (first | exact AH.le_refl _ | refine AH.le_add ?_ ?_)); all_goals (first | exact AH.le_refl _ | (show AH.find _ _ = _; simp only [find_add_self, find_add_ne, find_fresh, fresh_add, fresh_set, ne_eq, not_false_eq_true, true_and, and_true, and_self, encE_len, encE_scal, hn_b5, hr_b5]))) (by omega)
        by_cases hji : j = i
        · subst hji; rw [hc, g, decide_eq_false k4, decide_eq_true (by omega)]; rfl
        · exact hall j (by omega)
      
    · have hy := mayB_yes (by omega) hall
      simp (dsimp := false) (maxSteps := 4000000) only [h, encE_len, encE_scal, go_sem]
      refine out _ _ _ (by simp) ?_
      by_cases c : (L.length : Int) ≤ 64
      · simp (dsimp := false) (maxSteps := 4000000) only [c, encE_len, encE_scal, go_sem]
        exact ⟨H, (AH.le_refl _), (by first | exact ⟨by rw [hy, decide_eq_true (by omega)], rfl⟩ | rfl)⟩
      · simp (dsimp := false) (maxSteps := 4000000) only [c, encE_len, encE_scal, go_sem]
        exact ⟨H, (AH.le_refl _), (by first | exact ⟨by rw [hy, decide_eq_false (by omega)], rfl⟩ | rfl)⟩
theorem May_c (L : List En) (base : Option Addr) (cap : Nat) (H : AH) (hs : SlcIn H 5 base cap (L.map encE)) :
    ACalls Tryz.prog 91 #[.slice base L.length cap] H (fun v H' => v = .bool (mayB L) ∧ H = H') := by
  have hbig := hs.big
  simp only [List.length_map] at hbig
  refine ACalls.enter2 Tryz.func91 rfl Tryz.ntmps91 Tryz.results91 (by simp) ?_; simp (dsimp := false) (maxSteps := 4000000) only [encE_len, encE_scal, go_sem]
  refine AWp.loopo (ι := Nat) (fun i => i ≤ L.length ∧ ∀ j, j < i → chk L j = true) (fun i => [(3, .int .i64 i), (0, .slice base L.length cap)])
    (fun _ => H) (fun i => L.length - i) 0 ⟨by omega, fun j hj => by omega⟩ (FrLe.of_lks ?_) (AH.le_refl _) fun i hi Q again out => ?_
  · simp (dsimp := false) (maxSteps := 4000000) only [encE_len, encE_scal, go_sem]
  · obtain ⟨hi, hall⟩ := hi
    by_cases h : (i : Int) < L.length
    · obtain ⟨⟨k, s, f, r, y⟩, hn⟩ := get_some (l := L) (i := i) (by omega)
      obtain ⟨b, o, rfl, hrow, hrd⟩ := hs.get (map_get (f := encE) hn)
      have r0 := hrd 0 _ rfl
      have r1 := hrd 1 _ rfl
      simp only [encE_mk, Nat.add_zero] at r0 r1
      rw [encE_mk] at hrow
      have ee := i64_succ (i := i) (by omega)
      have hc : chk L i = (goodE (k, s, f, r, y) && !(decide (k = 4)) && decide (prv L i < s)) := by rw [chk, hn]
      simp (dsimp := false) (maxSteps := 4000000) only [h, encE_len, encE_scal, go_sem]
      refine AWp.gen [.pu, .pu, .pu, .rd, .ch, .pu, .pu, .pu, .pu, .pu, .pu, .rd, .pu, .pu, .pu, .pu, .pu, .pu, .pu, .pu, .pu, .pu, .rd, .pu, .pu, .pu, .pu, .pu, .rd, .pu, .pu, .pu] [0, 0, 3, 7, 15, 31, 63, 127, 127, 511, 1023, 2047, 4095, 8191, 16383, 32767, 65535, 131071, 262143, 262143, 1048575, 2097151, 4194303, 262143, 262143, 17039359, 58982399, 126091263, 260308991, 536870911, 1073741823, 2147483647] 5 (_) mixed (by kernel_rfl) (AH.le_refl _) ?_
      simp (dsimp := false) (maxSteps := 4000000) only [h, hrow, AH.le_refl, encE_len, encE_scal, go_sem]
      refine (RefGood_c k s f r y _).mono ?_; rintro _ _ ⟨rfl, rfl⟩
      cases g : goodE (k, s, f, r, y) with
      | false =>
        simp (dsimp := false) (maxSteps := 4000000) only [AH.le_refl, encE_len, encE_scal, go_sem]
        refine out _ _ _ (by simp) ?_
        simp (dsimp := false) (maxSteps := 4000000) only [encE_len, encE_scal, go_sem]
        exact ⟨H, (AH.le_refl _), (by first | exact ⟨by rw [mayB_no (i := i) (by omega) (by rw [hc, g]; rfl)], rfl⟩ | rfl)⟩
      | true =>
        by_cases k4 : k = 4
        · simp (dsimp := false) (maxSteps := 4000000) only [k4, AH.le_refl, h, r0, encE_len, encE_scal, go_sem]
          refine out _ _ _ (by simp) ?_
          simp (dsimp := false) (maxSteps := 4000000) only [encE_len, encE_scal, go_sem]
          exact ⟨H, (AH.le_refl _), (by first | exact ⟨by rw [mayB_no (i := i) (by omega) (by rw [hc, decide_eq_true k4]; simp)], rfl⟩ | rfl)⟩
        by_cases i0 : i = 0
        · have z : ¬ (0 : Int) < (i : Int) := by omega
          have pz : prv L i = 0 := by rw [prv, if_pos i0]
          have hs1 : 1 ≤ s := by
            simp only [goodE] at g
            rw [if_neg k4] at g
            simp only [placeB, Bool.and_eq_true, decide_eq_true_eq] at g
            omega
          simp (dsimp := false) (maxSteps := 4000000) only [k4, AH.le_refl, h, r0, z, ee, encE_len, encE_scal, go_sem]
          refine again (i + 1) _ _ ⟨by omega, fun j hj => ?_⟩ (FrLe.of_lks (by simp (dsimp := false) (maxSteps := 4000000) only [encE_len, encE_scal, go_sem])) (AH.le_refl _) (by omega)
          obtain rfl : j = i := by omega
          rw [hc, g, decide_eq_false k4, decide_eq_true (p := prv L j < s) (by omega)]; rfl
        · have ip : (0 : Int) < (i : Int) := by omega
          obtain ⟨x', hn'⟩ := get_some (l := L) (i := i - 1) (by omega)
          obtain ⟨b', o', hb', _, hrd'⟩ := hs.get (map_get (f := encE) hn')
          cases hb'
          have r1' := hrd' 1 _ rfl
          have em : IntKind.i64.wrap ((i : Int) - 1) = ((i - 1 : Nat) : Int) := by rw [i64_eq (by omega) (by omega)]; omega
          have hm1 : ((i - 1 : Nat) : Int) < L.length := by omega
          have hpv : prv L i = x'.2.1 := by
            have := prv_succ hn'
            rwa [show i - 1 + 1 = i from by omega] at this
          by_cases c : s ≤ x'.2.1
          · simp (dsimp := false) (maxSteps := 4000000) only [k4, AH.le_refl, h, r0, r1, r1', em, hm1, ip, c, encE_len, encE_scal, go_sem]
            refine out _ _ _ (by simp) ?_
            simp (dsimp := false) (maxSteps := 4000000) only [encE_len, encE_scal, go_sem]
            exact ⟨H, (AH.le_refl _), (by first | exact ⟨by rw [mayB_no (i := i) (by omega) (by rw [hc, decide_eq_false (p := prv L i < s) (by omega)]; simp)], rfl⟩ | rfl)⟩
          simp (dsimp := false) (maxSteps := 4000000) only [k4, AH.le_refl, h, r0, r1, r1', em, hm1, ip, c, ee, encE_len, encE_scal, go_sem]
          refine again (i + 1) _ _ ⟨by omega, fun j hj => ?_⟩ (FrLe.of_lks (by simp (dsimp := false) (maxSteps := 4000000) only [encE_len, encE_scal, go_sem])) (AH.le_refl _) (by omega)
          by_cases hji : j = i
          · subst hji; rw [hc, g, decide_eq_false k4, decide_eq_true (by omega)]; rfl
          · exact hall j (by omega)
    · have hy := mayB_yes (by omega) hall
      simp (dsimp := false) (maxSteps := 4000000) only [h, encE_len, encE_scal, go_sem]
      refine out _ _ _ (by simp) ?_
      by_cases c : (L.length : Int) ≤ 64
      · simp (dsimp := false) (maxSteps := 4000000) only [c, encE_len, encE_scal, go_sem]
        exact ⟨H, (AH.le_refl _), (by first | exact ⟨by rw [hy, decide_eq_true (by omega)], rfl⟩ | rfl)⟩
      · simp (dsimp := false) (maxSteps := 4000000) only [c, encE_len, encE_scal, go_sem]
        exact ⟨H, (AH.le_refl _), (by first | exact ⟨by rw [hy, decide_eq_false (by omega)], rfl⟩ | rfl)⟩
theorem encE_z5 (x : En) : lput [.int .i64 0, .int .i64 0, .int .i64 0, .int .i64 0, .int .i64 0] 0 (encE x) = encE x := rfl
theorem encE_take (x : En) : (encE x).take 5 = encE x := rfl
theorem Put_v (x : En) (H : AH) : ACalls Tryz.prog 126 #[.agg (encE x).toArray] H (fun v H' => v = .tuple #[.agg (enc (pR x)).toArray, .int .i64 (pE x)] ∧ H = H') := Put_u x.1 x.2.1 x.2.2.1 x.2.2.2.1 x.2.2.2.2 H
def er : Rc := (4, 0, 0, 0)
def fileS (L : List En) (i : Nat) : List Rc := hd 3 ((L.length + 1 : Nat) : Int) :: ((L.take i).map pR ++ List.replicate (L.length + 1 - i) zr)
def fileE (L : List En) : List Rc := hd 3 ((L.length + 1 : Nat) : Int) :: (L.map pR ++ [er])
theorem fileS_zero (L : List En) : fileS L 0 = newR 3 (L.length + 1) := rfl
theorem fileS_all (L : List En) : (fileS L L.length).set (L.length + 1) er = fileE L := by
  simp only [fileS, fileE, List.take_length, show L.length + 1 - L.length = 1 from by omega, List.replicate_one, List.set_cons_succ]
  rw [List.set_append_right _ _ (by simp)]
  simp
theorem fileS_len {L : List En} {i : Nat} (h : i ≤ L.length) : (fileS L i).length = L.length + 2 := by simp [fileS]; omega
theorem fileE_len (L : List En) : (fileE L).length = L.length + 2 := by simp [fileE]
theorem fileS_set {L : List En} {i : Nat} {x : En} (h : L[i]? = some x) : (fileS L i).set (i + 1) (pR x) = fileS L (i + 1) := by
  have hi := lt_of_get h
  simp only [fileS, List.set_cons_succ]
  rw [List.set_append_right _ _ (by simp; omega), show L.length + 1 - i = (L.length + 1 - (i + 1)) + 1 from by omega, List.replicate_succ]
  have : i - ((L.take i).map pR).length = 0 := by simp; omega
  rw [this, List.set_cons_zero, List.take_add_one, h]
  simp
theorem mayB_len {L : List En} (h : mayB L = true) : L.length ≤ 64 := by
  simp only [mayB, Bool.and_eq_true, decide_eq_true_eq] at h
  exact h.2
theorem pR_er : pR (4, 0, 0, 0, 0) = er := by decide
theorem File_bad {L : List En} {base : Option Addr} {cap : Nat} {H : AH} (hs : SlcIn H 5 base cap (L.map encE)) (g : mayB L = false) :
    ACalls Tryz.prog 105 #[.slice base L.length cap] H (fun v H' => v = fbad 1 ∧ H = H') := by
  refine ACalls.enter2 Tryz.func105 rfl Tryz.ntmps105 Tryz.results105 (by simp) ?_; simp (dsimp := false) (maxSteps := 4000000) only [go_sem]
  refine AllB.mk fun b2 h_b2 => ?_; have hn_b2 := h_b2; (try simp only [fresh_add, fresh_set, ne_eq] at hn_b2); have hr_b2 := hn_b2; (try simp only [@eq_comm Nat b2] at hr_b2); simp (dsimp := false) (maxSteps := 4000000) only [hn_b2, hr_b2, go_sem]
  refine (table_c L base cap _ (hs.add (by simp only [fresh_add, ne_eq, hn_b2, not_false_eq_true, and_self] : Fresh _ b2))).mono ?_; rintro _ _ ⟨rfl, rfl⟩
  simp (dsimp := false) (maxSteps := 4000000) only [g, hn_b2, hr_b2, go_sem]
  exact ⟨H, (AH.le_add (AH.le_refl _) ((by simp only [fresh_add, fresh_set, ne_eq, hn_b2, not_false_eq_true, and_self] : Fresh _ b2).2)), (by first | exact ⟨rfl, rfl⟩ | rfl)⟩
theorem File_ok {L : List En} {base : Option Addr} {cap : Nat} {H : AH} (hs : SlcIn H 5 base cap (L.map encE)) (g : mayB L = true) :
    ACalls Tryz.prog 105 #[.slice base L.length cap] H (fun v H' => ∃ b, Fresh H b ∧ v = .tuple #[.agg #[.int .i64 3, .slice (some ⟨b, 0, none⟩) (L.length + 2) (L.length + 2)], .int .i64 0] ∧ H' = H.add b (.cells ((fileE L).map enc).flatten 26 ((L.length + 2) * 4))) := by
  have hl := mayB_len g
  have e0 := i64_succ (i := L.length) (by omega)
  refine ACalls.enter2 Tryz.func105 rfl Tryz.ntmps105 Tryz.results105 (by simp) ?_; simp (dsimp := false) (maxSteps := 4000000) only [e0, enc_len, enc_scal, enc_take, encE_len, encE_scal, encE_z5, encE_take, go_sem]
  refine AllB.mk fun b2 h_b2 => ?_; have hn_b2 := h_b2; (try simp only [fresh_add, fresh_set, ne_eq] at hn_b2); have hr_b2 := hn_b2; (try simp only [@eq_comm Nat b2] at hr_b2); simp (dsimp := false) (maxSteps := 4000000) only [e0, enc_len, enc_scal, enc_take, encE_len, encE_scal, encE_z5, encE_take, hn_b2, hr_b2, go_sem]
  refine (table_c L base cap _ (hs.add (by simp only [fresh_add, ne_eq, hn_b2, not_false_eq_true, and_self] : Fresh _ b2))).mono ?_; rintro _ _ ⟨rfl, rfl⟩
  simp (dsimp := false) (maxSteps := 4000000) only [g, e0, enc_len, enc_scal, enc_take, encE_len, encE_scal, encE_z5, encE_take, hn_b2, hr_b2, go_sem]
  refine (New_c 3 (L.length + 1) ⟨by decide, by decide, by omega, by omega⟩ _).mono ?_; rintro _ _ ⟨bn, h_bn, rfl, rfl⟩
  have hn_bn := h_bn; (try simp only [fresh_add, fresh_set, ne_eq] at hn_bn); have hr_bn := hn_bn; (try simp only [@eq_comm Nat bn] at hr_bn)
  unfold fv
  simp (dsimp := false) (maxSteps := 4000000) only [e0, enc_len, enc_scal, enc_take, encE_len, encE_scal, encE_z5, encE_take, hn_b2, hr_b2, hn_bn, hr_bn, go_sem]
  refine AllB.mk fun b4 h_b4 => ?_; have hn_b4 := h_b4; (try simp only [fresh_add, fresh_set, ne_eq] at hn_b4); have hr_b4 := hn_b4; (try simp only [@eq_comm Nat b4] at hr_b4); simp (dsimp := false) (maxSteps := 4000000) only [e0, enc_len, enc_scal, enc_take, encE_len, encE_scal, encE_z5, encE_take, hn_b2, hr_b2, hn_bn, hr_bn, hn_b4, hr_b4, go_sem]
  rw [← fileS_zero]
  refine AWp.loopo (ι := Nat) (fun i => i ≤ L.length) (fun i => [(21, .int .i64 i), (20, .int .i64 L.length), (19, .slice base L.length cap), (0, .slice base L.length cap), (2, .pointer (some ⟨b2, 0, none⟩)), (4, .pointer (some ⟨b4, 0, none⟩)), (5, .int .i64 0)])
    (fun i => ((H.add b2 (.cells [.int .i64 0, .slice none 0 0] 72 2)).add bn (.cells ((fileS L i).map enc).flatten 26 ((L.length + 1 + 1) * 4))).add b4 (.cells [.int .i64 3, .slice (some ⟨bn, 0, none⟩) (L.length + 1 + 1) (L.length + 1 + 1)] 72 2)) (fun i => L.length - i) 0 (by omega) (FrLe.of_lks ?_) (AH.le_refl _) fun i hi Q again out => ?_
  · simp (dsimp := false) (maxSteps := 4000000) only [e0, enc_len, enc_scal, enc_take, encE_len, encE_scal, encE_z5, encE_take, hn_b2, hr_b2, hn_bn, hr_bn, hn_b4, hr_b4, go_sem]
  · by_cases h : (i : Int) < L.length
    · obtain ⟨x, hn⟩ := get_some (l := L) (i := i) (by omega)
      obtain ⟨b, o, rfl, hrow, _⟩ := hs.get (map_get (f := encE) hn)
      have ee := i64_succ (i := i) (by omega)
      have e2 : IntKind.i64.wrap (1 + (i : Int)) = ((i + 1 : Nat) : Int) := by rw [i64_eq (by omega) (by omega)]; omega
      have c1 : ((i + 1 : Nat) : Int) < ((L.length + 1 + 1 : Nat) : Int) := by omega
      have nr_hrow := (And.intro (Fresh.ne_row (by simp only [hn_b2] : Fresh H b2) hrow) (And.intro (Fresh.ne_row (by simp only [hn_bn] : Fresh H bn) hrow) (Fresh.ne_row (by simp only [hn_b4] : Fresh H b4) hrow)))
      have hst := put4 (pR x) (L := fileS L i) (i := i + 1) (by rw [fileS_len hi]; omega)
      rw [fileS_set hn] at hst
      have hl4 := flat4 (fileS L i)
      rw [fileS_len hi] at hl4
      have c2 : (i + 1) * 4 + 4 ≤ (L.length + 2) * 4 := by omega
      have c3 : (L.length + 2) * 4 ≤ (L.length + 1 + 1) * 4 := by omega
      
      simp (dsimp := false) (maxSteps := 4000000) only [h, hrow, nr_hrow, e0, enc_len, enc_scal, enc_take, encE_len, encE_scal, encE_z5, encE_take, hn_b2, hr_b2, hn_bn, hr_bn, hn_b4, hr_b4, go_sem]
      refine AllB.mk fun b7 h_b7 => ?_; have hn_b7 := h_b7; (try simp only [fresh_add, fresh_set, ne_eq] at hn_b7); have hr_b7 := hn_b7; (try simp only [@eq_comm Nat b7] at hr_b7); simp (dsimp := false) (maxSteps := 4000000) only [e0, enc_len, enc_scal, enc_take, encE_len, encE_scal, encE_z5, encE_take, hn_b2, hr_b2, hn_bn, hr_bn, hn_b4, hr_b4, hn_b7, hr_b7, go_sem]
      refine AWp.gen [.pu, .rd, .pu, .pu, .rd, .ch, .pu, .pu, .pu, .pu, .ch] [0, 1, 0, 4, 0, 16, 48, 112, 112, 255, 767] 6 (_) mixed (by kernel_rfl) (AH.le_refl _) ?_
      simp (dsimp := false) (maxSteps := 4000000) only [AH.le_refl, e0, enc_len, enc_scal, enc_take, encE_len, encE_scal, encE_z5, encE_take, hn_b2, hr_b2, hn_bn, hr_bn, hn_b4, hr_b4, hn_b7, hr_b7, go_sem]
      refine (Put_v x _).mono ?_; rintro _ _ ⟨rfl, rfl⟩
      simp (dsimp := false) (maxSteps := 4000000) only [AH.le_refl, e2, c1, hst, hl4, c2, c3, ee, e0, enc_len, enc_scal, enc_take, encE_len, encE_scal, encE_z5, encE_take, hn_b2, hr_b2, hn_bn, hr_bn, hn_b4, hr_b4, hn_b7, hr_b7, go_sem]
      exact again (i + 1) _ _ (by omega) (FrLe.of_lks (by simp (dsimp := false) (maxSteps := 4000000) only [ee, e0, enc_len, enc_scal, enc_take, encE_len, encE_scal, encE_z5, encE_take, hn_b2, hr_b2, hn_bn, hr_bn, hn_b4, hr_b4, hn_b7, hr_b7, go_sem])) (by refine AH.le_cons ?_ ?_; (show AH.find _ _ = _; simp only [find_add_self, find_add_ne, find_fresh, fresh_add, fresh_set, ne_eq, not_false_eq_true, true_and, and_true, and_self, e0, enc_len, enc_scal, enc_take, encE_len, encE_scal, encE_z5, encE_take, hn_b2, hr_b2, hn_bn, hr_bn, hn_b4, hr_b4, hn_b7, hr_b7]); refine AH.le_cons ?_ ?_; (show AH.find _ _ = _; simp only [find_add_self, find_add_ne, find_fresh, fresh_add, fresh_set, ne_eq, not_false_eq_true, true_and, and_true, and_self, e0, enc_len, enc_scal, enc_take, encE_len, encE_scal, encE_z5, encE_take, hn_b2, hr_b2, hn_bn, hr_bn, hn_b4, hr_b4, hn_b7, hr_b7]); refine AH.le_cons ?_ ?_; (show AH.find _ _ = _; simp only [find_add_self, find_add_ne, find_fresh, fresh_add, fresh_set, ne_eq, not_false_eq_true, true_and, and_true, and_self, e0, enc_len, enc_scal, enc_take, encE_len, encE_scal, encE_z5, encE_take, hn_b2, hr_b2, hn_bn, hr_bn, hn_b4, hr_b4, hn_b7, hr_b7]); (repeat (first | exact AH.le_refl _ | refine AH.le_add ?_ ?_)); all_goals (first | exact AH.le_refl _ | (show AH.find _ _ = _; simp only [find_add_self, find_add_ne, find_fresh, fresh_add, fresh_set, ne_eq, not_false_eq_true, true_and, and_true, and_self, e0, enc_len, enc_scal, enc_take, encE_len, encE_scal, encE_z5, encE_take, hn_b2, hr_b2, hn_bn, hr_bn, hn_b4, hr_b4, hn_b7, hr_b7]))) (by omega)
      
    · obtain rfl : i = L.length := by omega
      simp (dsimp := false) (maxSteps := 4000000) only [h, e0, enc_len, enc_scal, enc_take, encE_len, encE_scal, encE_z5, encE_take, hn_b2, hr_b2, hn_bn, hr_bn, hn_b4, hr_b4, go_sem]
      refine out _ _ _ (by simp) ?_
      simp (dsimp := false) (maxSteps := 4000000) only [e0, enc_len, enc_scal, enc_take, encE_len, encE_scal, encE_z5, encE_take, hn_b2, hr_b2, hn_bn, hr_bn, hn_b4, hr_b4, go_sem]
      have e2 : IntKind.i64.wrap (1 + (L.length : Int)) = ((L.length + 1 : Nat) : Int) := by rw [i64_eq (by omega) (by omega)]; omega
      have c1 : ((L.length + 1 : Nat) : Int) < ((L.length + 1 + 1 : Nat) : Int) := by omega
      have hst := put4 er (L := fileS L L.length) (i := L.length + 1) (by rw [fileS_len hi]; omega)
      rw [fileS_all] at hst
      have hl4 := flat4 (fileS L L.length)
      rw [fileS_len hi] at hl4
      have c2 : (L.length + 1) * 4 + 4 ≤ (L.length + 2) * 4 := by omega
      have c3 : (L.length + 2) * 4 ≤ (L.length + 1 + 1) * 4 := by omega
      refine AWp.gen [.pu, .rd, .pu, .pu, .pu, .pu, .ch, .pu, .pu, .pu, .pu, .ch] [0, 1, 0, 4, 12, 0, 32, 96, 224, 224, 511, 1535] 7 (_) mixed (by kernel_rfl) (AH.le_refl _) ?_
      simp (dsimp := false) (maxSteps := 4000000) only [e0, enc_len, enc_scal, enc_take, encE_len, encE_scal, encE_z5, encE_take, hn_b2, hr_b2, hn_bn, hr_bn, hn_b4, hr_b4, go_sem]
      refine (Put_u 4 0 0 0 0 _).mono ?_; rintro _ _ ⟨rfl, rfl⟩
      rw [pR_er]
      simp (dsimp := false) (maxSteps := 4000000) only [AH.le_refl, e2, c1, hst, hl4, c2, c3, e0, enc_len, enc_scal, enc_take, encE_len, encE_scal, encE_z5, encE_take, hn_b2, hr_b2, hn_bn, hr_bn, hn_b4, hr_b4, go_sem]
      exact ⟨_, (by refine AH.le_cons ?_ ?_; (show AH.find _ _ = _; simp only [find_add_self, find_add_ne, find_fresh, fresh_add, fresh_set, ne_eq, not_false_eq_true, true_and, and_true, and_self, e0, enc_len, enc_scal, enc_take, encE_len, encE_scal, encE_z5, encE_take, hn_b2, hr_b2, hn_bn, hr_bn, hn_b4, hr_b4]); (repeat (first | exact AH.le_refl _ | refine AH.le_add ?_ ?_)); all_goals (first | exact AH.le_refl _ | (show AH.find _ _ = _; simp only [find_add_self, find_add_ne, find_fresh, fresh_add, fresh_set, ne_eq, not_false_eq_true, true_and, and_true, and_self, e0, enc_len, enc_scal, enc_take, encE_len, encE_scal, encE_z5, encE_take, hn_b2, hr_b2, hn_bn, hr_bn, hn_b4, hr_b4]))), bn, hn_bn.2, rfl, rfl⟩
def fP (L : List En) : Int := if mayB L = true then 3 else 0
def fR (L : List En) : List Rc := if mayB L = true then fileE L else []
def fE (L : List En) : Int := if mayB L = true then 0 else 1
theorem File_u {L : List En} {n : Nat} {base : Option Addr} {cap : Nat} {H : AH} (hs : SlcIn H 5 base cap (L.map encE)) (hn : n = L.length) :
    ACalls Tryz.prog 105 #[.slice base n cap] H (fun v H' => ∃ b c, v = .tuple #[.agg #[.int .i64 (fP L), .slice b (fR L).length c], .int .i64 (fE L)] ∧ Got H H' 4 b c ((fR L).map enc)) := by
  subst hn
  cases g : mayB L with
  | true =>
    have h1 : fR L = fileE L := by simp [fR, g]
    have hl := mayB_len g
    refine (File_ok hs g).mono fun v H' ⟨b, h2, h3, h4⟩ => ⟨some ⟨b, 0, none⟩, L.length + 2, ?_, ?_⟩
    · rw [h1, fileE_len, h3]; simp [fP, fE, g]
    · rw [h1, h4]; exact Got.add h2 (rows4 _) (by rw [List.length_map, fileE_len]; omega) (by rw [List.length_map, fileE_len]; omega)
  | false =>
    have h1 : fR L = [] := by simp [fR, g]
    refine (File_bad hs g).mono fun v H' ⟨h3, h4⟩ => ⟨none, 0, ?_, ?_⟩
    · rw [h1, h3]; simp [fP, fE, g, fbad]
    · rw [h1, ← h4]; exact Got.nil
end Go.Proofs.YtamlipffhimfmaaGreatDoor.Chk

/- check: Sender of both sides. -/
namespace Go.Proofs.YtamlipffhimfmaaGreatDoor.Chk
set_option linter.unusedSimpArgs false
set_option linter.unusedVariables false
open Go Go.AX Go.Proofs Ty
set_option maxHeartbeats 4000000
set_option maxRecDepth 10000

abbrev Tb := Option Addr × Nat × List En
def encT (x : Tb) : List Value := [.slice x.1 x.2.2.length x.2.1]
structure TabIn (H : AH) (base : Option Addr) (cap : Nat) (T : List Tb) : Prop where
  out : SlcIn H 1 base cap (T.map encT)
  inn : ∀ x ∈ T, SlcIn H 5 x.1 x.2.1 (x.2.2.map encE)
def snd (slot : Int) (x : En) : Bool := decide (x.1 = 1) && decide (x.2.1 = slot)
theorem sends1_c (x : En) (slot : Int) (bs : Nat) (H : AH) (h : H.rd ⟨bs, 0, none⟩ = some (.int .i64 slot)) :
    ACalls Tryz.prog 110 #[.agg (encE x).toArray, .pointer (some ⟨bs, 0, none⟩)] H (fun v H' => v = .bool (snd slot x) ∧ H = H') := by
  obtain ⟨k, s, f, r, b⟩ := x
  refine ACalls.enter2 Tryz.func110 rfl Tryz.ntmps110 Tryz.results110 (by simp) ?_; simp (dsimp := false) (maxSteps := 4000000) only [encE_mk, go_sem]
  refine AllB.mk fun b2 h_b2 => ?_; have hn_b2 := h_b2; (try simp only [fresh_add, fresh_set, ne_eq] at hn_b2); have hr_b2 := hn_b2; (try simp only [@eq_comm Nat b2] at hr_b2); simp (dsimp := false) (maxSteps := 4000000) only [encE_mk, hn_b2, hr_b2, go_sem]
  have nr_h := (Fresh.ne_rd (by simp only [hn_b2] : Fresh H b2) h)
  by_cases a : k = 1
  · simp (dsimp := false) (maxSteps := 4000000) only [a, h, nr_h, encE_mk, hn_b2, hr_b2, go_sem]
    exact ⟨H, (AH.le_add (AH.le_refl _) ((by simp only [encE_mk, fresh_add, fresh_set, ne_eq, hn_b2, not_false_eq_true, and_self] : Fresh _ b2).2)), (by first | exact ⟨congrArg Value.bool (by rw [Bool.eq_iff_iff]; simp [snd, a]), rfl⟩ | rfl)⟩
  · simp (dsimp := false) (maxSteps := 4000000) only [a, encE_mk, hn_b2, hr_b2, go_sem]
    exact ⟨H, (AH.le_add (AH.le_refl _) ((by simp only [encE_mk, fresh_add, fresh_set, ne_eq, hn_b2, not_false_eq_true, and_self] : Fresh _ b2).2)), (by first | exact ⟨by simp [snd, a], rfl⟩ | rfl)⟩
def Ix (g : En → Bool) (L : List En) (r : Int) : Prop := (r = -1 ∧ ∀ x ∈ L, g x = false) ∨ ∃ (i : Nat) (x : En), L[i]? = some x ∧ g x = true ∧ r = i ∧ ∀ j, j < i → ∀ y, L[j]? = some y → g y = false
theorem Index_g {g : En → Bool} {fid : Nat} {caps : List Value} {L : List En} {n : Nat} {base : Option Addr} {cap : Nat} {H : AH} (hs : SlcIn H 5 base cap (L.map encE)) (hn : n = L.length) (hok : fnOk Tryz.prog fid = true)
    (hf : ∀ x ∈ L, ACalls Tryz.prog fid ([] ++ [Value.agg (encE x).toArray] ++ caps).toArray H (fun v H' => v = .bool (g x) ∧ H = H')) :
    ACalls Tryz.prog 92 #[.slice base n cap, .func (.func fid) #[] caps.toArray] H (fun v H' => ∃ r : Int, v = .int .i64 r ∧ Ix g L r ∧ H = H') := by
  subst hn
  have hbig := hs.big
  simp only [List.length_map] at hbig
  refine ACalls.enter2 Tryz.func92 rfl Tryz.ntmps92 Tryz.results92 (by simp) ?_; simp (dsimp := false) (maxSteps := 4000000) only [go_sem]
  refine AWp.loopo (ι := Nat) (fun i => i ≤ L.length ∧ ∀ j, j < i → ∀ y, L[j]? = some y → g y = false) (fun i => [(8, .int .i64 i), (7, .int .i64 L.length), (0, .slice base L.length cap), (1, .func (.func fid) #[] caps.toArray)])
    (fun _ => H) (fun i => L.length - i) 0 ⟨by omega, fun j hj => by omega⟩ (FrLe.of_lks ?_) (AH.le_refl _) fun i hi Q again out => ?_
  · simp (dsimp := false) (maxSteps := 4000000) only [go_sem]
  · obtain ⟨hi, hall⟩ := hi
    by_cases h : (i : Int) < L.length
    · obtain ⟨x, hx⟩ := get_some (l := L) (i := i) (by omega)
      obtain ⟨b, o, rfl, hrow, _⟩ := hs.get (map_get (f := encE) hx)
      have ee := i64_succ (i := i) (by omega)
      simp (dsimp := false) (maxSteps := 4000000) only [h, hrow, hok, go_sem]
      refine (hf x (List.mem_of_getElem? hx)).mono ?_; rintro _ _ ⟨rfl, rfl⟩
      cases hb : g x with
      | true =>
        simp (dsimp := false) (maxSteps := 4000000) only [go_sem]
        refine out _ _ _ (by simp) ?_
        simp (dsimp := false) (maxSteps := 4000000) only [go_sem]
        exact ⟨H, (by (repeat (first | exact AH.le_refl _ | refine AH.le_add ?_ ?_)); all_goals (first | exact AH.le_refl _ | (show AH.find _ _ = _; simp only [find_add_self, find_add_ne, find_fresh, fresh_add, fresh_set, ne_eq, not_false_eq_true, true_and, and_true, and_self]))), _, rfl, .inr ⟨i, x, hx, hb, rfl, hall⟩, rfl⟩
      | false =>
        simp (dsimp := false) (maxSteps := 4000000) only [ee, go_sem]
        refine again (i + 1) _ _ ⟨by omega, fun j hj m hm => ?_⟩ (FrLe.of_lks (by simp (dsimp := false) (maxSteps := 4000000) only [go_sem])) (AH.le_refl _) (by omega)
        by_cases hji : j = i
        · subst hji; rw [hx] at hm; cases hm; exact hb
        · exact hall j (by omega) m hm
    · simp (dsimp := false) (maxSteps := 4000000) only [h, go_sem]
      refine out _ _ _ (by simp) ?_
      simp (dsimp := false) (maxSteps := 4000000) only [go_sem]
      exact ⟨H, (by (repeat (first | exact AH.le_refl _ | refine AH.le_add ?_ ?_)); all_goals (first | exact AH.le_refl _ | (show AH.find _ _ = _; simp only [find_add_self, find_add_ne, find_fresh, fresh_add, fresh_set, ne_eq, not_false_eq_true, true_and, and_true, and_self]))), _, rfl, .inl ⟨rfl, fun y hy => by
        obtain ⟨j, hj⟩ := List.mem_iff_getElem?.1 hy
        exact hall j (by have := lt_of_get hj; omega) y hj⟩, rfl⟩
end Go.Proofs.YtamlipffhimfmaaGreatDoor.Chk

/- part: what a store comes to behind a round, in any order. -/
namespace Go.Proofs.YtamlipffhimfmaaGreatDoor.Prt
set_option linter.unusedSimpArgs false
set_option linter.unusedVariables false
open Go Go.AX Go.Proofs Go.Proofs.YtamlipffhimfmaaGreatDoor.File Go.Proofs.YtamlipffhimfmaaGreatDoor.Ifs

abbrev En := Int × Int × Int × Int × Int
abbrev Pl := Int × Int
abbrev Hd := Int → Option Int
def pl (x : En) : Pl := (x.2.2.1, x.2.2.2.1)
def isP (p : Pl) (x : En) : Bool := decide (x.1 = 2) && decide (pl x = p)
def got (T : List En) (p : Pl) : List En := T.filter (isP p)
def okP (hd : Hd) (l : List En) : Bool := l.all fun y => (hd y.2.1).isSome
def putB (v : Rc) (i b : Int) : Rc := if i = 0 then (b, v.2) else if i = 1 then (v.1, b, v.2.2) else if i = 2 then (v.1, v.2.1, b, v.2.2.2) else (v.1, v.2.1, v.2.2.1, b)
def putE (hd : Hd) (v : Rc) (y : En) : Rc := putB v y.2.2.2.2 ((hd y.2.1).getD 0)
def stepP (T : List En) (hd : Hd) (X : List Nf) (p : Pl) : List Nf := match getW X p.1 p.2 with
  | none => X
  | some v => if okP hd (got T p) = true then setX X p.1 p.2 ((got T p).foldl (putE hd) v) else X
def recvs (T : List En) : List Pl := (T.filter fun x => decide (x.1 = 2)).map pl
def app1 (T : List En) (hd : Hd) (X : List Nf) : List Nf := (recvs T).foldl (stepP T hd) X
def exE (S : List Nf × Int) (x : En) : List Nf × Int := if x.1 = 3 then (doX S.1 2 x.2.2.1 x.2.2.2.1 zr, doD S.1 2 x.2.2.1 x.2.2.2.1 S.2) else S
def app2 (T : List En) (S : List Nf × Int) : List Nf × Int := T.foldl exE S
def app (T : List En) (hd : Hd) (X : List Nf) (den : Int) : List Nf × Int := app2 T (app1 T hd X, den)

section fold
variable {α β : Type} {f : α → β → α}
open Classical in
theorem fold_absorb (hc : ∀ X a b, f (f X a) b = f (f X b) a) (hi : ∀ X a, f (f X a) a = f X a) {a : β} : ∀ {l : List β} {X : α}, a ∈ l → l.foldl f (f X a) = l.foldl f X
  | b :: l, X, h => by
    rw [List.foldl_cons, List.foldl_cons]
    by_cases e : a = b
    · subst e; rw [hi]
    · rw [hc, fold_absorb hc hi ((List.mem_cons.1 h).resolve_left e)]
theorem fold_absorbs (hc : ∀ X a b, f (f X a) b = f (f X b) a) (hi : ∀ X a, f (f X a) a = f X a) {l : List β} : ∀ {K : List β} {X : α}, (∀ a ∈ K, a ∈ l) → l.foldl f (K.foldl f X) = l.foldl f X
  | [], _, _ => rfl
  | a :: K, X, h => by
    rw [List.foldl_cons, fold_absorbs hc hi (fun b hb => h b (List.mem_cons_of_mem _ hb)), fold_absorb hc hi (h a (List.mem_cons_self ..))]
theorem fold_one (hc : ∀ X a b, f (f X a) b = f (f X b) a) {a : β} : ∀ {l : List β} {X : α}, f (l.foldl f X) a = l.foldl f (f X a)
  | [], _ => rfl
  | b :: l, X => by rw [List.foldl_cons, List.foldl_cons, fold_one hc, hc]
theorem fold_swap (hc : ∀ X a b, f (f X a) b = f (f X b) a) {l : List β} : ∀ {K : List β} {X : α}, K.foldl f (l.foldl f X) = l.foldl f (K.foldl f X)
  | [], _ => rfl
  | a :: K, X => by rw [List.foldl_cons, List.foldl_cons, fold_one hc, fold_swap hc]
theorem fold_same (hc : ∀ X a b, f (f X a) b = f (f X b) a) (hi : ∀ X a, f (f X a) a = f X a) {K l : List β} {X : α} (h1 : ∀ a ∈ K, a ∈ l) (h2 : ∀ a ∈ l, a ∈ K) : K.foldl f X = l.foldl f X := by
  rw [← fold_absorbs hc hi (K := K) h1, ← fold_swap hc, fold_absorbs hc hi h2]
end fold

theorem getW_some {X : List Nf} {n rec : Int} {v : Rc} (h : getW X n rec = some v) : ∃ f, lk n X = some f ∧ 0 ≤ rec ∧ f.2[rec.toNat]? = some v := by
  unfold getW at h
  cases hl : lk n X with
  | none => rw [hl] at h; cases h
  | some f =>
    rw [hl, Option.bind_some] at h
    split at h
    · cases h
    · exact ⟨f, rfl, by omega, h⟩
theorem setX_some {X : List Nf} {n rec : Int} {v w : Rc} {f : Fl} (hl : lk n X = some f) (h0 : 0 ≤ rec) (hv : f.2[rec.toNat]? = some w) (hr : rec ≠ 0) : setX X n rec v = rp n (f.1, f.2.set rec.toNat v) X := by
  have hg : getW X n rec = some w := by rw [getW, hl, Option.bind_some, if_neg (by omega)]; exact hv
  rw [setX, setOk, hg, hl]
  simp [hr]
theorem setX_zero {X : List Nf} {n : Int} {v : Rc} : setX X n 0 v = X := by rw [setX, setOk]; simp
theorem setX_none {X : List Nf} {n rec : Int} {v : Rc} (h : getW X n rec = none) : setX X n rec v = X := by rw [setX, setOk, h]; simp
theorem rp_rp (n : Int) (f g : Fl) (X : List Nf) : rp n f (rp n g X) = rp n f X := by
  rw [rp, rp, rp, List.map_map]
  apply List.map_congr_left
  intro x _
  simp only [Function.comp]
  by_cases h : x.1 = n <;> simp [h]
theorem rp_comm {n m : Int} (h : n ≠ m) (f g : Fl) (X : List Nf) : rp n f (rp m g X) = rp m g (rp n f X) := by
  rw [rp, rp, rp, rp, List.map_map, List.map_map]
  apply List.map_congr_left
  intro x _
  simp only [Function.comp]
  by_cases h1 : x.1 = n
  · have h2 : ¬ x.1 = m := fun e => h (h1.symm.trans e)
    simp [h1, h]
  · by_cases h2 : x.1 = m
    · simp [h2, Ne.symm h]
    · simp [h1, h2]
theorem lk_rp_self {n : Int} {f g : Fl} {X : List Nf} (h : lk n X = some g) : lk n (rp n f X) = some f := by rw [lk_rp, if_pos rfl, h]; rfl
theorem lk_rp_ne {n m : Int} {f : Fl} {X : List Nf} (h : m ≠ n) : lk m (rp n f X) = lk m X := by rw [lk_rp, if_neg h]
theorem getW_set (X : List Nf) (n rec n' rec' : Int) (v : Rc) : getW (setX X n rec v) n' rec' = if n' = n ∧ rec' = rec ∧ rec ≠ 0 then (getW X n rec).map (fun _ => v) else getW X n' rec' := by
  cases hg : getW X n rec with
  | none =>
    rw [setX_none hg]
    split
    · rename_i h; rw [h.1, h.2.1, hg]; rfl
    · rfl
  | some w =>
    obtain ⟨f, hl, h0, hv⟩ := getW_some hg
    by_cases hr : rec = 0
    · subst hr; rw [setX_zero, if_neg (by simp)]
    rw [setX_some hl h0 hv hr]
    by_cases hn : n' = n
    · subst hn
      rw [getW, lk_rp_self hl, Option.bind_some]
      by_cases h1 : rec' < 0
      · rw [if_pos h1, if_neg (by omega), getW, hl, Option.bind_some, if_pos h1]
      rw [if_neg h1]
      by_cases h2 : rec' = rec
      · subst h2
        rw [if_pos ⟨rfl, rfl, hr⟩, Option.map_some]
        exact List.getElem?_set_self (List.getElem?_eq_some_iff.1 hv).1
      · rw [if_neg (fun h => h2 h.2.1), getW, hl, Option.bind_some, if_neg h1]
        exact List.getElem?_set_ne (by omega)
    · rw [if_neg (fun h => hn h.1), getW, lk_rp_ne hn, getW]
theorem setX_comm (X : List Nf) (n rec n' rec' : Int) (v w : Rc) (h : ¬ (n = n' ∧ rec = rec')) : setX (setX X n rec v) n' rec' w = setX (setX X n' rec' w) n rec v := by
  cases hg : getW X n rec with
  | none =>
    rw [setX_none hg, setX_none (X := setX X n' rec' w)]
    rw [getW_set]
    split
    · rename_i h'; exact absurd ⟨h'.1, h'.2.1⟩ h
    · exact hg
  | some v0 =>
    cases hg' : getW X n' rec' with
    | none =>
      rw [setX_none hg', setX_none (X := setX X n rec v)]
      rw [getW_set]
      split
      · rename_i h'; exact absurd ⟨h'.1.symm, h'.2.1.symm⟩ h
      · exact hg'
    | some w0 =>
      by_cases r0 : rec = 0
      · subst r0; simp only [setX_zero]
      by_cases r0' : rec' = 0
      · subst r0'; simp only [setX_zero]
      obtain ⟨f, hl, h0, hv⟩ := getW_some hg
      obtain ⟨f', hl', h0', hv'⟩ := getW_some hg'
      rw [setX_some hl h0 hv r0, setX_some hl' h0' hv' r0']
      by_cases hn : n = n'
      · subst hn
        obtain rfl : f = f' := Option.some.inj (hl.symm.trans hl')
        have hne : rec.toNat ≠ rec'.toNat := fun e => h ⟨rfl, by omega⟩
        rw [setX_some (lk_rp_self hl) h0' (w := w0) (by rw [List.getElem?_set_ne hne]; exact hv') r0', setX_some (lk_rp_self hl) h0 (w := v0) (by rw [List.getElem?_set_ne (Ne.symm hne)]; exact hv) r0, rp_rp, rp_rp, List.set_comm _ _ hne]
      · rw [setX_some ((lk_rp_ne (Ne.symm hn)).trans hl') h0' hv' r0', setX_some ((lk_rp_ne hn).trans hl) h0 hv r0, rp_comm (Ne.symm hn)]
theorem setX_setX (X : List Nf) (n rec : Int) (v w : Rc) : setX (setX X n rec v) n rec w = setX X n rec w := by
  cases hg : getW X n rec with
  | none => rw [setX_none hg]
  | some v0 =>
    by_cases r0 : rec = 0
    · subst r0; simp only [setX_zero]
    obtain ⟨f, hl, h0, hv⟩ := getW_some hg
    rw [setX_some hl h0 hv r0, setX_some (lk_rp_self hl) h0 (w := v) (List.getElem?_set_self (List.getElem?_eq_some_iff.1 hv).1) r0, setX_some hl h0 hv r0, rp_rp, List.set_set]

def byt (v : Rc) (i : Int) : Int := if i = 0 then v.1 else if i = 1 then v.2.1 else if i = 2 then v.2.2.1 else v.2.2.2
def cls (i : Int) : Int := if i = 0 then 0 else if i = 1 then 1 else if i = 2 then 2 else 3
theorem byt_putB (v : Rc) (i j b : Int) : byt (putB v i b) j = if cls j = cls i then b else byt v j := by
  unfold byt putB cls
  by_cases h0 : i = 0 <;> by_cases h1 : i = 1 <;> by_cases h2 : i = 2 <;> by_cases g0 : j = 0 <;> by_cases g1 : j = 1 <;> by_cases g2 : j = 2 <;> simp_all
theorem byt_ext {v w : Rc} (h : ∀ j, 0 ≤ j → j < 4 → byt v j = byt w j) : v = w := by
  obtain ⟨a, b, c, d⟩ := v
  obtain ⟨a', b', c', d'⟩ := w
  have h0 := h 0 (by decide) (by decide)
  have h1 := h 1 (by decide) (by decide)
  have h2 := h 2 (by decide) (by decide)
  have h3 := h 3 (by decide) (by decide)
  simp [byt] at h0 h1 h2 h3
  simp [h0, h1, h2, h3]
theorem byt_fold (hd : Hd) (j : Int) : ∀ (l : List En), (∃ b, ∀ v, byt (l.foldl (putE hd) v) j = b) ∨ ∀ v, byt (l.foldl (putE hd) v) j = byt v j
  | [] => .inr fun _ => rfl
  | y :: l => by
    rcases byt_fold hd j l with ⟨b, h⟩ | h
    · exact .inl ⟨b, fun v => h _⟩
    · by_cases e : cls j = cls y.2.2.2.2
      · exact .inl ⟨(hd y.2.1).getD 0, fun v => by rw [List.foldl_cons, h, putE, byt_putB, if_pos e]⟩
      · exact .inr fun v => by rw [List.foldl_cons, h, putE, byt_putB, if_neg e]
theorem fold_idem (hd : Hd) (l : List En) (v : Rc) : l.foldl (putE hd) (l.foldl (putE hd) v) = l.foldl (putE hd) v := by
  refine byt_ext fun j _ _ => ?_
  rcases byt_fold hd j l with ⟨b, h⟩ | h
  · rw [h, h]
  · rw [h]
theorem stepP_comm (T : List En) (hd : Hd) (X : List Nf) (a b : Pl) : stepP T hd (stepP T hd X a) b = stepP T hd (stepP T hd X b) a := by
  by_cases e : a = b
  · rw [e]
  have hne : ¬ (a.1 = b.1 ∧ a.2 = b.2) := fun h => e (Prod.ext h.1 h.2)
  have hne' : ¬ (b.1 = a.1 ∧ b.2 = a.2) := fun h => hne ⟨h.1.symm, h.2.symm⟩
  have gw : ∀ v, getW (setX X a.1 a.2 v) b.1 b.2 = getW X b.1 b.2 := fun v => by rw [getW_set, if_neg fun h => hne' ⟨h.1, h.2.1⟩]
  have gw' : ∀ v, getW (setX X b.1 b.2 v) a.1 a.2 = getW X a.1 a.2 := fun v => by rw [getW_set, if_neg fun h => hne ⟨h.1, h.2.1⟩]
  cases ha : getW X a.1 a.2 with
  | none =>
    have h1 : ∀ Y, getW Y a.1 a.2 = none → stepP T hd Y a = Y := fun Y h => by rw [stepP, h]
    rw [h1 X ha]
    cases hb : getW X b.1 b.2 with
    | none =>
      have h2 : stepP T hd X b = X := by rw [stepP, hb]
      rw [h2, h1 X ha]
    | some w =>
      rw [h1]
      have h2 : stepP T hd X b = if okP hd (got T b) = true then setX X b.1 b.2 ((got T b).foldl (putE hd) w) else X := by rw [stepP, hb]
      rw [h2]
      split
      · rw [gw', ha]
      · exact ha
  | some v =>
    have h1 : ∀ Y, getW Y a.1 a.2 = some v → stepP T hd Y a = if okP hd (got T a) = true then setX Y a.1 a.2 ((got T a).foldl (putE hd) v) else Y := fun Y h => by rw [stepP, h]
    cases hb : getW X b.1 b.2 with
    | none =>
      have h2 : ∀ Y, getW Y b.1 b.2 = none → stepP T hd Y b = Y := fun Y h => by rw [stepP, h]
      rw [h2 X hb, h1 X ha, h2]
      split
      · rw [gw, hb]
      · exact hb
    | some w =>
      have h2 : ∀ Y, getW Y b.1 b.2 = some w → stepP T hd Y b = if okP hd (got T b) = true then setX Y b.1 b.2 ((got T b).foldl (putE hd) w) else Y := fun Y h => by rw [stepP, h]
      rw [h1 X ha, h2 X hb]
      by_cases oa : okP hd (got T a) = true <;> by_cases ob : okP hd (got T b) = true
      · rw [if_pos oa, if_pos ob, h2 _ (by rw [gw, hb]), h1 _ (by rw [gw', ha]), if_pos oa, if_pos ob, setX_comm _ _ _ _ _ _ _ hne]
      · rw [if_pos oa, if_neg ob, h2 _ (by rw [gw, hb]), h1 _ ha, if_pos oa, if_neg ob]
      · rw [if_neg oa, if_pos ob, h2 _ hb, h1 _ (by rw [gw', ha]), if_neg oa, if_pos ob]
      · rw [if_neg oa, if_neg ob, h2 _ hb, h1 _ ha, if_neg oa, if_neg ob]
theorem stepP_idem (T : List En) (hd : Hd) (X : List Nf) (a : Pl) : stepP T hd (stepP T hd X a) a = stepP T hd X a := by
  cases ha : getW X a.1 a.2 with
  | none =>
    have h1 : stepP T hd X a = X := by rw [stepP, ha]
    rw [h1, h1]
  | some v =>
    have h1 : ∀ Y w, getW Y a.1 a.2 = some w → stepP T hd Y a = if okP hd (got T a) = true then setX Y a.1 a.2 ((got T a).foldl (putE hd) w) else Y := fun Y w h => by rw [stepP, h]
    rw [h1 X v ha]
    split
    · rename_i o
      by_cases r0 : a.2 = 0
      · simp only [r0, setX_zero]
        rw [h1 X v ha, if_pos o]
        simp only [r0, setX_zero]
      · rw [h1 _ ((got T a).foldl (putE hd) v) (by rw [getW_set, if_pos ⟨rfl, rfl, r0⟩, ha]; rfl), if_pos o, setX_setX, fold_idem]
    · rename_i o
      rw [h1 X v ha, if_neg o]
theorem app1_any (T : List En) (hd : Hd) (X : List Nf) (K : List Pl) (h1 : ∀ p ∈ K, p ∈ recvs T) (h2 : ∀ p ∈ recvs T, p ∈ K) : K.foldl (stepP T hd) X = app1 T hd X :=
  fold_same (stepP_comm T hd) (stepP_idem T hd) h1 h2
end Go.Proofs.YtamlipffhimfmaaGreatDoor.Prt

/- check: Sender. -/
namespace Go.Proofs.YtamlipffhimfmaaGreatDoor.Chk
set_option linter.unusedSimpArgs false
set_option linter.unusedVariables false
open Go Go.AX Go.Proofs Ty
set_option maxHeartbeats 4000000
set_option maxRecDepth 10000

def sndO (slot : Int) : Nat → List Tb → Option (Nat × En)
  | _, [] => none
  | n, t :: T => match t.2.2.find? (snd slot) with
    | some x => some (n, x)
    | none => sndO slot (n + 1) T
theorem sndO_hit {slot : Int} : ∀ {T : List Tb} {i m : Nat} {t : Tb} {x : En}, T[i]? = some t → (∀ j, j < i → ∀ t, T[j]? = some t → t.2.2.find? (snd slot) = none) → t.2.2.find? (snd slot) = some x → sndO slot m T = some (m + i, x)
  | [], _, _, _, _, h, _, _ => by simp at h
  | t0 :: T, 0, m, t, x, h, _, hx => by
    simp at h; subst h
    rw [sndO, hx]; rfl
  | t0 :: T, i + 1, m, t, x, h, hp, hx => by
    have h0 := hp 0 (by omega) t0 rfl
    rw [sndO, h0]
    simp only [List.getElem?_cons_succ] at h
    show sndO slot (m + 1) T = _
    rw [sndO_hit h (fun j hj t ht => hp (j + 1) (by omega) t ht) hx, show m + 1 + i = m + (i + 1) from by omega]
theorem sndO_none {slot : Int} : ∀ {T : List Tb} {m : Nat}, (∀ t ∈ T, t.2.2.find? (snd slot) = none) → sndO slot m T = none
  | [], _, _ => rfl
  | t0 :: T, m, h => by
    rw [sndO, h t0 (List.mem_cons_self ..)]
    exact sndO_none fun t ht => h t (List.mem_cons_of_mem _ ht)
theorem find_none {g : En → Bool} {L : List En} (h : ∀ x ∈ L, g x = false) : L.find? g = none := List.find?_eq_none.2 fun x hx => by rw [h x hx]; simp
theorem find_some {g : En → Bool} : ∀ {L : List En} {i : Nat} {x : En}, L[i]? = some x → g x = true → (∀ j, j < i → ∀ y, L[j]? = some y → g y = false) → L.find? g = some x
  | [], _, _, h, _, _ => by simp at h
  | y :: L, 0, x, h, hg, _ => by simp at h; subst h; simp [hg]
  | y :: L, i + 1, x, h, hg, hp => by
    have h0 := hp 0 (by omega) y rfl
    simp only [List.getElem?_cons_succ] at h
    rw [List.find?_cons, h0]
    exact find_some h hg fun j hj z hz => hp (j + 1) (by omega) z hz
theorem sends_c (slot : Int) (H : AH) : ACalls Tryz.prog 93 #[.int .i64 slot] H (fun v H' => ∃ b, Fresh H b ∧ v = .func (.func 110) #[] [.pointer (some ⟨b, 0, none⟩)].toArray ∧ H' = H.add b (.cells [.int .i64 slot] 3 1)) := by
  refine ACalls.enter2 Tryz.func93 rfl Tryz.ntmps93 Tryz.results93 (by simp) ?_; simp (dsimp := false) (maxSteps := 4000000) only [go_sem]
  refine AllB.mk fun b1 h_b1 => ?_; have hn_b1 := h_b1; (try simp only [fresh_add, fresh_set, ne_eq] at hn_b1); have hr_b1 := hn_b1; (try simp only [@eq_comm Nat b1] at hr_b1); simp (dsimp := false) (maxSteps := 4000000) only [hn_b1, hr_b1, go_sem]
  exact ⟨_, AH.le_refl _, b1, h_b1, rfl, rfl⟩
def sN (slot : Int) (T : List Tb) : Int := match sndO slot 0 T with | some x => x.1 | none => -1
def sX (slot : Int) (T : List Tb) : En := match sndO slot 0 T with | some x => x.2 | none => ze
theorem Sender_c (T : List Tb) (base : Option Addr) (cap : Nat) (slot : Int) (H : AH) (hT : TabIn H base cap T) :
    ACalls Tryz.prog 60 #[.slice base T.length cap, .int .i64 slot] H (fun v H' => v = .tuple #[.int .i64 (sN slot T), .agg (encE (sX slot T)).toArray] ∧ H = H') := by
  have hbig := hT.out.big
  simp only [List.length_map] at hbig
  refine ACalls.enter2 Tryz.func60 rfl Tryz.ntmps60 Tryz.results60 (by simp) ?_; simp (dsimp := false) (maxSteps := 4000000) only [encE_len, encE_scal, encE_z5, encE_take, go_sem]
  refine AllB.mk fun b5 h_b5 => ?_; have hn_b5 := h_b5; (try simp only [fresh_add, fresh_set, ne_eq] at hn_b5); have hr_b5 := hn_b5; (try simp only [@eq_comm Nat b5] at hr_b5); simp (dsimp := false) (maxSteps := 4000000) only [encE_len, encE_scal, encE_z5, encE_take, hn_b5, hr_b5, go_sem]
  have f5 : Fresh H b5 := h_b5
  refine AWp.loopo (ι := Nat) (fun i => i ≤ T.length ∧ ∀ j, j < i → ∀ t, T[j]? = some t → t.2.2.find? (snd slot) = none) (fun i => [(11, .int .i64 i), (10, .int .i64 T.length), (9, .slice base T.length cap), (0, .slice base T.length cap), (1, .int .i64 slot), (5, .pointer (some ⟨b5, 0, none⟩))])
    (fun _ => H.add b5 (.cells [.int .i64 0, .int .i64 0, .int .i64 0, .int .i64 0, .int .i64 0] 79 5)) (fun i => T.length - i) 0 ⟨by omega, fun j hj => by omega⟩ (FrLe.of_lks ?_) (AH.le_refl _) fun i hi Q again out => ?_
  · simp (dsimp := false) (maxSteps := 4000000) only [encE_len, encE_scal, encE_z5, encE_take, hn_b5, hr_b5, go_sem]
  · obtain ⟨hi, hall⟩ := hi
    by_cases h : (i : Int) < T.length
    · obtain ⟨⟨tb, tc, L⟩, ht⟩ := get_some (l := T) (i := i) (by omega)
      have hin := hT.inn _ (List.mem_of_getElem? ht)
      obtain ⟨b, o, rfl, _, hrd⟩ := hT.out.get (map_get (f := encT) ht)
      have hrd := hrd 0 _ rfl
      simp only [Nat.mul_one, Nat.add_zero] at hrd
      have ee := i64_succ (i := i) (by omega)
      have nr_hrd := (Fresh.ne_rd (by simp only [hn_b5] : Fresh H b5) hrd)
      
      simp (dsimp := false) (maxSteps := 4000000) only [h, hrd, nr_hrd, encE_len, encE_scal, encE_z5, encE_take, hn_b5, hr_b5, go_sem]
      refine (sends_c slot _).mono ?_; rintro _ _ ⟨bs, h_bs, rfl, rfl⟩
      have hn_bs := h_bs; (try simp only [fresh_add, fresh_set, ne_eq] at hn_bs); have hr_bs := hn_bs; (try simp only [@eq_comm Nat bs] at hr_bs)
      simp (dsimp := false) (maxSteps := 4000000) only [encE_len, encE_scal, encE_z5, encE_take, hn_b5, hr_b5, hn_bs, hr_bs, go_sem]
      refine (Index_g (g := snd slot) (fid := 110) (L := L) ((hin.add f5).add h_bs) rfl (by kernel_rfl) fun x hx => sends1_c x slot bs _ (by rw [rd_add_self]; rfl)).mono ?_; rintro _ _ ⟨r, rfl, hr, rfl⟩
      rcases hr with ⟨rfl, hno⟩ | ⟨q, x, hq, hg, rfl, hpre⟩
      · have hf := find_none hno
        simp (dsimp := false) (maxSteps := 4000000) only [ee, encE_len, encE_scal, encE_z5, encE_take, hn_b5, hr_b5, hn_bs, hr_bs, go_sem]
        refine again (i + 1) _ _ ⟨by omega, fun j hj t' ht' => ?_⟩ (FrLe.of_lks (by simp (dsimp := false) (maxSteps := 4000000) only [encE_len, encE_scal, encE_z5, encE_take, hn_b5, hr_b5, hn_bs, hr_bs, go_sem])) (by refine AH.le_cons ?_ ?_; (show AH.find _ _ = _; simp only [find_add_self, find_add_ne, find_fresh, fresh_add, fresh_set, ne_eq, not_false_eq_true, true_and, and_true, and_self, encE_len, encE_scal, encE_z5, encE_take, hn_b5, hr_b5, hn_bs, hr_bs]); (repeat (first | exact AH.le_refl _ | refine AH.le_add ?_ ?_)); all_goals (first | exact AH.le_refl _ | (show AH.find _ _ = _; simp only [find_add_self, find_add_ne, find_fresh, fresh_add, fresh_set, ne_eq, not_false_eq_true, true_and, and_true, and_self, encE_len, encE_scal, encE_z5, encE_take, hn_b5, hr_b5, hn_bs, hr_bs]))) (by omega)
        by_cases hji : j = i
        · subst hji; rw [ht] at ht'; cases ht'; exact hf
        · exact hall j (by omega) t' ht'
      · have hf := find_some hq hg hpre
        have hs0 := sndO_hit (m := 0) ht hall hf
        rw [Nat.zero_add] at hs0
        obtain ⟨b', o', rfl, hrow, _⟩ := hin.get (map_get (f := encE) hq)
        have q0 : (0 : Int) ≤ (q : Int) := by omega
        have q1 : (q : Int) < L.length := by have := lt_of_get hq; omega
        have nr_hrow := (And.intro (Fresh.ne_row (by simp only [hn_b5] : Fresh H b5) hrow) (Fresh.ne_row (by simp only [hn_bs] : Fresh H bs) hrow))
        simp (dsimp := false) (maxSteps := 4000000) only [q0, encE_len, encE_scal, encE_z5, encE_take, hn_b5, hr_b5, hn_bs, hr_bs, go_sem]
        refine AWp.gen [.pu, .pu, .pu, .pu, .rd, .pu, .ch] [0, 0, 0, 6, 14, 1, 63] 0 (_) mixed (by kernel_rfl) (AH.le_refl _) ?_
        simp (dsimp := false) (maxSteps := 4000000) only [q1, hrow, nr_hrow, AH.le_refl, encE_len, encE_scal, encE_z5, encE_take, hn_b5, hr_b5, hn_bs, hr_bs, go_sem]
        refine out _ _ _ (by simp) ?_
        simp (dsimp := false) (maxSteps := 4000000) only [encE_len, encE_scal, encE_z5, encE_take, hn_b5, hr_b5, hn_bs, hr_bs, go_sem]
        exact ⟨H, (AH.le_add (AH.le_add (AH.le_refl _) ((by simp only [encE_len, encE_scal, encE_z5, encE_take, fresh_add, fresh_set, ne_eq, hn_b5, not_false_eq_true, and_self] : Fresh _ b5).2)) ((by simp only [encE_len, encE_scal, encE_z5, encE_take, fresh_add, fresh_set, ne_eq, hn_bs, not_false_eq_true, and_self] : Fresh _ bs).2)), (by first | exact ⟨by simp [sN, sX, hs0], rfl⟩ | rfl)⟩
      
    · simp (dsimp := false) (maxSteps := 4000000) only [h, encE_len, encE_scal, encE_z5, encE_take, hn_b5, hr_b5, go_sem]
      refine out _ _ _ (by simp) ?_
      have hz := sndO_none (slot := slot) (T := T) (m := 0) fun t ht => by
        obtain ⟨j, hj⟩ := List.mem_iff_getElem?.1 ht
        exact hall j (by have := lt_of_get hj; omega) t hj
      simp (dsimp := false) (maxSteps := 4000000) only [encE_len, encE_scal, encE_z5, encE_take, hn_b5, hr_b5, go_sem]
      exact ⟨H, (AH.le_add (AH.le_refl _) ((by simp only [encE_len, encE_scal, encE_z5, encE_take, fresh_add, fresh_set, ne_eq, hn_b5, not_false_eq_true, and_self] : Fresh _ b5).2)), (by first | exact ⟨by simp [sN, sX, hz, encE, ze], rfl⟩ | rfl)⟩
end Go.Proofs.YtamlipffhimfmaaGreatDoor.Chk

/- check's reference: Sender. -/
namespace Go.Proofs.YtamlipffhimfmaaGreatDoor.Chk
set_option linter.unusedSimpArgs false
set_option linter.unusedVariables false
open Go Go.AX Go.Proofs Ty
set_option maxHeartbeats 4000000
set_option maxRecDepth 10000

theorem RefSender_c (T : List Tb) (base : Option Addr) (cap : Nat) (slot : Int) (H : AH) (hT : TabIn H base cap T) :
    ACalls Tryz.prog 26 #[.slice base T.length cap, .int .i64 slot] H (fun v H' => v = .tuple #[.int .i64 (sN slot T), .agg (encE (sX slot T)).toArray] ∧ H = H') := by
  have hbig := hT.out.big
  simp only [List.length_map] at hbig
  refine ACalls.enter2 Tryz.func26 rfl Tryz.ntmps26 Tryz.results26 (by simp) ?_; simp (dsimp := false) (maxSteps := 4000000) only [encE_len, encE_scal, encE_z5, encE_take, go_sem]
  refine AllB.mk fun b5 h_b5 => ?_; have hn_b5 := h_b5; (try simp only [fresh_add, fresh_set, ne_eq] at hn_b5); have hr_b5 := hn_b5; (try simp only [@eq_comm Nat b5] at hr_b5); simp (dsimp := false) (maxSteps := 4000000) only [encE_len, encE_scal, encE_z5, encE_take, hn_b5, hr_b5, go_sem]
  have f5 : Fresh H b5 := h_b5
  refine AWp.loopo (ι := Nat) (fun i => i ≤ T.length ∧ ∀ j, j < i → ∀ t, T[j]? = some t → t.2.2.find? (snd slot) = none) (fun i => [(6, .int .i64 i), (0, .slice base T.length cap), (1, .int .i64 slot), (5, .pointer (some ⟨b5, 0, none⟩))])
    (fun _ => H.add b5 (.cells [.int .i64 0, .int .i64 0, .int .i64 0, .int .i64 0, .int .i64 0] 79 5)) (fun i => T.length - i) 0 ⟨by omega, fun j hj => by omega⟩ (FrLe.of_lks ?_) (AH.le_refl _) fun i hi Q again out => ?_
  · simp (dsimp := false) (maxSteps := 4000000) only [encE_len, encE_scal, encE_z5, encE_take, hn_b5, hr_b5, go_sem]
  · obtain ⟨hi, hall⟩ := hi
    by_cases h : (i : Int) < T.length
    · obtain ⟨⟨tb, tc, L⟩, ht⟩ := get_some (l := T) (i := i) (by omega)
      have hin := hT.inn _ (List.mem_of_getElem? ht)
      have hbigL := hin.big
      simp only [List.length_map] at hbigL
      obtain ⟨b, o, rfl, _, hrd⟩ := hT.out.get (map_get (f := encT) ht)
      have hrd := hrd 0 _ rfl
      simp only [Nat.mul_one, Nat.add_zero] at hrd
      have ee := i64_succ (i := i) (by omega)
      have nr_hrd := (Fresh.ne_rd (by simp only [hn_b5] : Fresh H b5) hrd)
      simp (dsimp := false) (maxSteps := 4000000) only [h, encE_len, encE_scal, encE_z5, encE_take, hn_b5, hr_b5, go_sem]
      refine AWp.loopo (ι := Nat) (fun j => j ≤ L.length ∧ ∀ q, q < j → ∀ y, L[q]? = some y → snd slot y = false) (fun j => [(7, .int .i64 j), (6, .int .i64 i), (0, .slice (some ⟨b, o, none⟩) T.length cap), (1, .int .i64 slot), (5, .pointer (some ⟨b5, 0, none⟩))])
        (fun _ => H.add b5 (.cells [.int .i64 0, .int .i64 0, .int .i64 0, .int .i64 0, .int .i64 0] 79 5)) (fun j => L.length - j) 0 ⟨by omega, fun j hj => by omega⟩ (FrLe.of_lks ?_) (AH.le_refl _) fun j hj Q2 again2 out2 => ?_
      · simp (dsimp := false) (maxSteps := 4000000) only [encE_len, encE_scal, encE_z5, encE_take, hn_b5, hr_b5, go_sem]
      · obtain ⟨hj, hpre⟩ := hj
        by_cases hl : (j : Int) < L.length
        · obtain ⟨⟨k, s, f, r, y⟩, hx⟩ := get_some (l := L) (i := j) (by omega)
          obtain ⟨b', o', rfl, hrow, hrd'⟩ := hin.get (map_get (f := encE) hx)
          have r0 := hrd' 0 _ rfl
          have r1 := hrd' 1 _ rfl
          simp only [encE_mk, Nat.add_zero] at r0 r1
          have e2 := i64_succ (i := j) (by omega)
          have nr_hrow := (Fresh.ne_row (by simp only [hn_b5] : Fresh H b5) hrow)
          by_cases c1 : k = 1
          · by_cases c2 : s = slot
            · have hg : snd slot (k, s, f, r, y) = true := by simp [snd, c1, c2]
              have hs0 := sndO_hit (m := 0) ht hall (find_some hx hg hpre)
              rw [Nat.zero_add] at hs0
              simp (dsimp := false) (maxSteps := 4000000) only [hl, h, hrd, nr_hrd, r0, r1, nr_hrow, c1, c2, encE_len, encE_scal, encE_z5, encE_take, hn_b5, hr_b5, go_sem]
              refine AWp.gen [.pu, .pu, .pu, .pu, .rd, .pu, .pu, .rd, .pu, .ch] [0, 0, 0, 6, 14, 0, 62, 126, 1, 511] 0 (_) mixed (by kernel_rfl) (AH.le_refl _) ?_
              simp (dsimp := false) (maxSteps := 4000000) only [hl, h, hrd, nr_hrd, nr_hrow, hrow, AH.le_refl, encE_len, encE_scal, encE_z5, encE_take, hn_b5, hr_b5, go_sem]
              refine out2 _ _ _ (by simp) ?_
              simp (dsimp := false) (maxSteps := 4000000) only [encE_len, encE_scal, encE_z5, encE_take, hn_b5, hr_b5, go_sem]
              refine out _ _ _ (by simp) ?_
              simp (dsimp := false) (maxSteps := 4000000) only [encE_len, encE_scal, encE_z5, encE_take, hn_b5, hr_b5, go_sem]
              exact ⟨H, (AH.le_add (AH.le_refl _) ((by simp only [encE_len, encE_scal, encE_z5, encE_take, fresh_add, fresh_set, ne_eq, hn_b5, not_false_eq_true, and_self] : Fresh _ b5).2)), (by first | exact ⟨by simp [sN, sX, hs0], rfl⟩ | rfl)⟩
            · have hg : snd slot (k, s, f, r, y) = false := by simp [snd, c2]
              simp (dsimp := false) (maxSteps := 4000000) only [hl, h, hrd, nr_hrd, r0, r1, nr_hrow, c1, c2, e2, encE_len, encE_scal, encE_z5, encE_take, hn_b5, hr_b5, go_sem]
              refine again2 (j + 1) _ _ ⟨by omega, fun q hq z hz => ?_⟩ (FrLe.of_lks (by simp (dsimp := false) (maxSteps := 4000000) only [encE_len, encE_scal, encE_z5, encE_take, hn_b5, hr_b5, go_sem])) (AH.le_refl _) (by omega)
              by_cases e : q = j
              · subst e; rw [hx] at hz; cases hz; exact hg
              · exact hpre q (by omega) z hz
          · have hg : snd slot (k, s, f, r, y) = false := by simp [snd, c1]
            simp (dsimp := false) (maxSteps := 4000000) only [hl, h, hrd, nr_hrd, r0, nr_hrow, c1, e2, encE_len, encE_scal, encE_z5, encE_take, hn_b5, hr_b5, go_sem]
            refine again2 (j + 1) _ _ ⟨by omega, fun q hq z hz => ?_⟩ (FrLe.of_lks (by simp (dsimp := false) (maxSteps := 4000000) only [encE_len, encE_scal, encE_z5, encE_take, hn_b5, hr_b5, go_sem])) (AH.le_refl _) (by omega)
            by_cases e : q = j
            · subst e; rw [hx] at hz; cases hz; exact hg
            · exact hpre q (by omega) z hz
        · simp (dsimp := false) (maxSteps := 4000000) only [hl, h, hrd, nr_hrd, encE_len, encE_scal, encE_z5, encE_take, hn_b5, hr_b5, go_sem]
          refine out2 _ _ _ (by simp) ?_
          simp (dsimp := false) (maxSteps := 4000000) only [ee, encE_len, encE_scal, encE_z5, encE_take, hn_b5, hr_b5, go_sem]
          refine again (i + 1) _ _ ⟨by omega, fun q hq t' ht' => ?_⟩ (FrLe.of_lks (by simp (dsimp := false) (maxSteps := 4000000) only [encE_len, encE_scal, encE_z5, encE_take, hn_b5, hr_b5, go_sem])) (AH.le_refl _) (by omega)
          by_cases hji : q = i
          · subst hji; rw [ht] at ht'; cases ht'
            exact find_none fun z hz => by
              obtain ⟨q', hq'⟩ := List.mem_iff_getElem?.1 hz
              have h9 : q' < L.length := lt_of_get hq'
              exact hpre q' (by omega) z hq'
          · exact hall q (by omega) t' ht'
    · simp (dsimp := false) (maxSteps := 4000000) only [h, encE_len, encE_scal, encE_z5, encE_take, hn_b5, hr_b5, go_sem]
      refine out _ _ _ (by simp) ?_
      have hz := sndO_none (slot := slot) (T := T) (m := 0) fun t ht => by
        obtain ⟨j, hj⟩ := List.mem_iff_getElem?.1 ht
        exact hall j (by have := lt_of_get hj; omega) t hj
      simp (dsimp := false) (maxSteps := 4000000) only [encE_len, encE_scal, encE_z5, encE_take, hn_b5, hr_b5, go_sem]
      exact ⟨H, (AH.le_add (AH.le_refl _) ((by simp only [encE_len, encE_scal, encE_z5, encE_take, fresh_add, fresh_set, ne_eq, hn_b5, not_false_eq_true, and_self] : Fresh _ b5).2)), (by first | exact ⟨by simp [sN, sX, hz, encE, ze], rfl⟩ | rfl)⟩
end Go.Proofs.YtamlipffhimfmaaGreatDoor.Chk

/- check: fits. -/
namespace Go.Proofs.YtamlipffhimfmaaGreatDoor.Chk
set_option linter.unusedSimpArgs false
set_option linter.unusedVariables false
open Go Go.AX Go.Proofs Ty
set_option maxHeartbeats 4000000
set_option maxRecDepth 10000

theorem Contains_g {g : En → Bool} {fid : Nat} {caps : List Value} {L : List En} {n : Nat} {base : Option Addr} {cap : Nat} {H : AH} (hs : SlcIn H 5 base cap (L.map encE)) (hn : n = L.length) (hok : fnOk Tryz.prog fid = true)
    (hf : ∀ x ∈ L, ACalls Tryz.prog fid ([] ++ [Value.agg (encE x).toArray] ++ caps).toArray H (fun v H' => v = .bool (g x) ∧ H = H')) :
    ACalls Tryz.prog 106 #[.slice base n cap, .func (.func fid) #[] caps.toArray] H (fun v H' => v = .bool (L.any g) ∧ H = H') := by
  refine ACalls.enter2 Tryz.func106 rfl Tryz.ntmps106 Tryz.results106 (by simp) ?_; simp (dsimp := false) (maxSteps := 4000000) only [go_sem]
  refine (Index_g hs hn hok hf).mono ?_; rintro _ _ ⟨r, rfl, hr, rfl⟩
  rcases hr with ⟨rfl, hno⟩ | ⟨q, x, hq, hg, rfl, hpre⟩
  · have e : L.any g = false := by rw [List.any_eq_false]; intro x hx; rw [hno x hx]; simp
    simp (dsimp := false) (maxSteps := 4000000) only [go_sem]
    exact ⟨H, (AH.le_refl _), (by first | exact ⟨by rw [e], rfl⟩ | rfl)⟩
  · have e : L.any g = true := List.any_eq_true.2 ⟨x, List.mem_of_getElem? hq, hg⟩
    have q0 : (0 : Int) ≤ (q : Int) := by omega
    simp (dsimp := false) (maxSteps := 4000000) only [go_sem]
    exact ⟨H, (AH.le_refl _), (by first | exact ⟨by rw [e], rfl⟩ | rfl)⟩
theorem TabIn.add {H : AH} {base : Option Addr} {cap b : Nat} {T : List Tb} {k : ABlk} (h : TabIn H base cap T) (hf : Fresh H b) : TabIn (H.add b k) base cap T := ⟨h.out.add hf, fun x hx => (h.inn x hx).add hf⟩
theorem TabIn.keep {H A : AH} {base : Option Addr} {cap : Nat} {T : List Tb} (h : TabIn H base cap T) (hk : Keep H A fun _ => False) : TabIn A base cap T := ⟨h.out.keep hk fun _ _ h => h, fun x hx => (h.inn x hx).keep hk fun _ _ h => h⟩
def clash (T : List Tb) (n : Nat) (x : En) : Bool := decide (x.1 = 1) && decide (sN x.2.1 T < n)
def gap (T : List Tb) (x : En) : Bool := decide (x.1 = 2) && decide (sN x.2.1 T < 0)
theorem fits1_c (x : En) (T : List Tb) (base : Option Addr) (cap n bl bn : Nat) (H : AH) (hT : TabIn H base cap T) (hl : H.rd ⟨bl, 0, none⟩ = some (.slice base T.length cap)) (hn : H.rd ⟨bn, 0, none⟩ = some (.int .i64 n)) :
    ACalls Tryz.prog 107 #[.agg (encE x).toArray, .pointer (some ⟨bl, 0, none⟩), .pointer (some ⟨bn, 0, none⟩)] H (fun v H' => v = .bool (clash T n x) ∧ H = H') := by
  obtain ⟨k, s, f, r, b⟩ := x
  refine ACalls.enter2 Tryz.func107 rfl Tryz.ntmps107 Tryz.results107 (by simp) ?_; simp (dsimp := false) (maxSteps := 4000000) only [encE_mk, encE_len, encE_scal, encE_z5, go_sem]
  refine AllB.mk fun b3 h_b3 => ?_; have hn_b3 := h_b3; (try simp only [fresh_add, fresh_set, ne_eq] at hn_b3); have hr_b3 := hn_b3; (try simp only [@eq_comm Nat b3] at hr_b3); simp (dsimp := false) (maxSteps := 4000000) only [encE_mk, encE_len, encE_scal, encE_z5, hn_b3, hr_b3, go_sem]
  have nr_hl := (Fresh.ne_rd (by simp only [hn_b3] : Fresh H b3) hl)
  have nr_hn := (Fresh.ne_rd (by simp only [hn_b3] : Fresh H b3) hn)
  simp (dsimp := false) (maxSteps := 4000000) only [hl, nr_hl, encE_mk, encE_len, encE_scal, encE_z5, hn_b3, hr_b3, go_sem]
  refine (Sender_c T base cap s _ (hT.add h_b3)).mono ?_; rintro _ _ ⟨rfl, rfl⟩
  simp (dsimp := false) (maxSteps := 4000000) only [encE_mk, encE_len, encE_scal, encE_z5, hn_b3, hr_b3, go_sem]
  refine AllB.mk fun b6 h_b6 => ?_; have hn_b6 := h_b6; (try simp only [fresh_add, fresh_set, ne_eq] at hn_b6); have hr_b6 := hn_b6; (try simp only [@eq_comm Nat b6] at hr_b6); simp (dsimp := false) (maxSteps := 4000000) only [encE_mk, encE_len, encE_scal, encE_z5, hn_b3, hr_b3, hn_b6, hr_b6, go_sem]
  by_cases a : k = 1
  · subst a
    have nr_hn := (And.intro (Fresh.ne_rd (by simp only [hn_b3] : Fresh H b3) hn) (Fresh.ne_rd (by simp only [hn_b6] : Fresh H b6) hn))
    simp (dsimp := false) (maxSteps := 4000000) only [hn, nr_hn, encE_mk, encE_len, encE_scal, encE_z5, hn_b3, hr_b3, hn_b6, hr_b6, go_sem]
    exact ⟨H, (AH.le_add (AH.le_add (AH.le_refl _) ((by simp only [encE_mk, encE_len, encE_scal, encE_z5, fresh_add, fresh_set, ne_eq, hn_b3, not_false_eq_true, and_self] : Fresh _ b3).2)) ((by simp only [encE_mk, encE_len, encE_scal, encE_z5, fresh_add, fresh_set, ne_eq, hn_b6, not_false_eq_true, and_self] : Fresh _ b6).2)), (by first | exact ⟨congrArg Value.bool (by simp [clash]), rfl⟩ | rfl)⟩
  · simp (dsimp := false) (maxSteps := 4000000) only [a, encE_mk, encE_len, encE_scal, encE_z5, hn_b3, hr_b3, hn_b6, hr_b6, go_sem]
    exact ⟨H, (AH.le_add (AH.le_add (AH.le_refl _) ((by simp only [encE_mk, encE_len, encE_scal, encE_z5, fresh_add, fresh_set, ne_eq, hn_b3, not_false_eq_true, and_self] : Fresh _ b3).2)) ((by simp only [encE_mk, encE_len, encE_scal, encE_z5, fresh_add, fresh_set, ne_eq, hn_b6, not_false_eq_true, and_self] : Fresh _ b6).2)), (by first | exact ⟨by simp [clash, a], rfl⟩ | rfl)⟩
theorem fits2_c (x : En) (T : List Tb) (base : Option Addr) (cap bl : Nat) (H : AH) (hT : TabIn H base cap T) (hl : H.rd ⟨bl, 0, none⟩ = some (.slice base T.length cap)) :
    ACalls Tryz.prog 108 #[.agg (encE x).toArray, .pointer (some ⟨bl, 0, none⟩)] H (fun v H' => v = .bool (gap T x) ∧ H = H') := by
  obtain ⟨k, s, f, r, b⟩ := x
  refine ACalls.enter2 Tryz.func108 rfl Tryz.ntmps108 Tryz.results108 (by simp) ?_; simp (dsimp := false) (maxSteps := 4000000) only [encE_mk, encE_len, encE_scal, encE_z5, go_sem]
  refine AllB.mk fun b3 h_b3 => ?_; have hn_b3 := h_b3; (try simp only [fresh_add, fresh_set, ne_eq] at hn_b3); have hr_b3 := hn_b3; (try simp only [@eq_comm Nat b3] at hr_b3); simp (dsimp := false) (maxSteps := 4000000) only [encE_mk, encE_len, encE_scal, encE_z5, hn_b3, hr_b3, go_sem]
  have nr_hl := (Fresh.ne_rd (by simp only [hn_b3] : Fresh H b3) hl)
  simp (dsimp := false) (maxSteps := 4000000) only [hl, nr_hl, encE_mk, encE_len, encE_scal, encE_z5, hn_b3, hr_b3, go_sem]
  refine (Sender_c T base cap s _ (hT.add h_b3)).mono ?_; rintro _ _ ⟨rfl, rfl⟩
  simp (dsimp := false) (maxSteps := 4000000) only [encE_mk, encE_len, encE_scal, encE_z5, hn_b3, hr_b3, go_sem]
  refine AllB.mk fun b6 h_b6 => ?_; have hn_b6 := h_b6; (try simp only [fresh_add, fresh_set, ne_eq] at hn_b6); have hr_b6 := hn_b6; (try simp only [@eq_comm Nat b6] at hr_b6); simp (dsimp := false) (maxSteps := 4000000) only [encE_mk, encE_len, encE_scal, encE_z5, hn_b3, hr_b3, hn_b6, hr_b6, go_sem]
  by_cases a : k = 2
  · subst a
    simp (dsimp := false) (maxSteps := 4000000) only [encE_mk, encE_len, encE_scal, encE_z5, hn_b3, hr_b3, hn_b6, hr_b6, go_sem]
    exact ⟨H, (AH.le_add (AH.le_add (AH.le_refl _) ((by simp only [encE_mk, encE_len, encE_scal, encE_z5, fresh_add, fresh_set, ne_eq, hn_b3, not_false_eq_true, and_self] : Fresh _ b3).2)) ((by simp only [encE_mk, encE_len, encE_scal, encE_z5, fresh_add, fresh_set, ne_eq, hn_b6, not_false_eq_true, and_self] : Fresh _ b6).2)), (by first | exact ⟨congrArg Value.bool (by simp [gap]), rfl⟩ | rfl)⟩
  · simp (dsimp := false) (maxSteps := 4000000) only [a, encE_mk, encE_len, encE_scal, encE_z5, hn_b3, hr_b3, hn_b6, hr_b6, go_sem]
    exact ⟨H, (AH.le_add (AH.le_add (AH.le_refl _) ((by simp only [encE_mk, encE_len, encE_scal, encE_z5, fresh_add, fresh_set, ne_eq, hn_b3, not_false_eq_true, and_self] : Fresh _ b3).2)) ((by simp only [encE_mk, encE_len, encE_scal, encE_z5, fresh_add, fresh_set, ne_eq, hn_b6, not_false_eq_true, and_self] : Fresh _ b6).2)), (by first | exact ⟨by simp [gap, a], rfl⟩ | rfl)⟩
def rowT (T : List Tb) (n : Nat) : List En := match T[n]? with | some t => t.2.2 | none => []
def fitB (T : List Tb) (n : Nat) (s : Int) : Bool := if s = 2 then mayB (rowT T n) else if s = 8 then !(rowT T n).any (clash T n) else !(rowT T n).any (gap T)
theorem fits_c (T : List Tb) (base : Option Addr) (cap n : Nat) (s : Int) (H : AH) (hT : TabIn H base cap T) (hn : n < T.length) :
    ACalls Tryz.prog 90 #[.slice base T.length cap, .int .i64 n, .int .i64 s] H (fun v H' => v = .bool (fitB T n s) ∧ H = H') := by
  obtain ⟨⟨tb, tc, L⟩, ht⟩ := get_some hn
  have hin := hT.inn _ (List.mem_of_getElem? ht)
  obtain ⟨b, o, rfl, _, hrd⟩ := hT.out.get (map_get (f := encT) ht)
  have hrd := hrd 0 _ rfl
  simp only [Nat.mul_one, Nat.add_zero] at hrd
  have er : rowT T n = L := by simp [rowT, ht]
  have hlt : (n : Int) < T.length := by omega
  refine ACalls.enter2 Tryz.func90 rfl Tryz.ntmps90 Tryz.results90 (by simp) ?_; simp (dsimp := false) (maxSteps := 4000000) only [go_sem]
  refine AllB.mk fun b3 h_b3 => ?_; have hn_b3 := h_b3; (try simp only [fresh_add, fresh_set, ne_eq] at hn_b3); have hr_b3 := hn_b3; (try simp only [@eq_comm Nat b3] at hr_b3); simp (dsimp := false) (maxSteps := 4000000) only [hn_b3, hr_b3, go_sem]
  refine AllB.mk fun b4 h_b4 => ?_; have hn_b4 := h_b4; (try simp only [fresh_add, fresh_set, ne_eq] at hn_b4); have hr_b4 := hn_b4; (try simp only [@eq_comm Nat b4] at hr_b4); simp (dsimp := false) (maxSteps := 4000000) only [hn_b3, hr_b3, hn_b4, hr_b4, go_sem]
  have nr_hrd := (And.intro (Fresh.ne_rd (by simp only [hn_b3] : Fresh H b3) hrd) (Fresh.ne_rd (by simp only [hn_b4] : Fresh H b4) hrd))
  by_cases c2 : s = 2
  · subst c2
    simp (dsimp := false) (maxSteps := 4000000) only [hrd, nr_hrd, hlt, hn_b3, hr_b3, hn_b4, hr_b4, go_sem]
    refine (File_u ((hin.add h_b3).add h_b4) rfl).mono ?_; rintro _ A ⟨bf, cf, rfl, hg⟩
    simp (dsimp := false) (maxSteps := 4000000) only [hn_b3, hr_b3, hn_b4, hr_b4, go_sem]
    refine AllB.mk fun b7 h_b7 => ?_
    have hl : H.le A := AH.le_trans (AH.le_add (AH.le_add (AH.le_refl _) h_b3.2) h_b4.2) hg.keep.all
    simp (dsimp := false) (maxSteps := 4000000) only [hn_b3, hr_b3, hn_b4, hr_b4, go_sem]
    refine ⟨H, AH.le_add hl h_b7.2, ?_, rfl⟩
    simp only [fitB, er, fE, if_true]
    cases mayB L <;> rfl
  · by_cases c8 : s = 8
    · subst c8
      simp (dsimp := false) (maxSteps := 4000000) only [hrd, nr_hrd, hlt, hn_b3, hr_b3, hn_b4, hr_b4, go_sem]
      refine (Contains_g (g := clash T n) (fid := 107) (caps := [.pointer (some ⟨b3, 0, none⟩), .pointer (some ⟨b4, 0, none⟩)]) (L := L) ((hin.add h_b3).add h_b4) rfl (by kernel_rfl) fun x hx => fits1_c x T (some ⟨b, o, none⟩) cap n b3 b4 _ ((hT.add h_b3).add h_b4) (by rw [rd_add_ne _ hn_b4.1, rd_add_self]; rfl) (by rw [rd_add_self]; rfl)).mono ?_; rintro _ _ ⟨rfl, rfl⟩
      simp (dsimp := false) (maxSteps := 4000000) only [hn_b3, hr_b3, hn_b4, hr_b4, go_sem]
      exact ⟨H, (AH.le_add (AH.le_add (AH.le_refl _) ((by simp only [fresh_add, fresh_set, ne_eq, hn_b3, not_false_eq_true, and_self] : Fresh _ b3).2)) ((by simp only [fresh_add, fresh_set, ne_eq, hn_b4, not_false_eq_true, and_self] : Fresh _ b4).2)), (by first | exact ⟨by simp [fitB, er], rfl⟩ | rfl)⟩
    · simp (dsimp := false) (maxSteps := 4000000) only [hrd, nr_hrd, hlt, c2, c8, hn_b3, hr_b3, hn_b4, hr_b4, go_sem]
      refine (Contains_g (g := gap T) (fid := 108) (caps := [.pointer (some ⟨b3, 0, none⟩)]) (L := L) ((hin.add h_b3).add h_b4) rfl (by kernel_rfl) fun x hx => fits2_c x T (some ⟨b, o, none⟩) cap b3 _ ((hT.add h_b3).add h_b4) (by rw [rd_add_ne _ hn_b4.1, rd_add_self]; rfl)).mono ?_; rintro _ _ ⟨rfl, rfl⟩
      simp (dsimp := false) (maxSteps := 4000000) only [hn_b3, hr_b3, hn_b4, hr_b4, go_sem]
      exact ⟨H, (AH.le_add (AH.le_add (AH.le_refl _) ((by simp only [fresh_add, fresh_set, ne_eq, hn_b3, not_false_eq_true, and_self] : Fresh _ b3).2)) ((by simp only [fresh_add, fresh_set, ne_eq, hn_b4, not_false_eq_true, and_self] : Fresh _ b4).2)), (by first | exact ⟨by simp [fitB, er, c2, c8], rfl⟩ | rfl)⟩
end Go.Proofs.YtamlipffhimfmaaGreatDoor.Chk

/- check: Tables of both sides. -/
namespace Go.Proofs.YtamlipffhimfmaaGreatDoor.Chk
set_option linter.unusedSimpArgs false
set_option linter.unusedVariables false
open Go Go.AX Go.Proofs Ty
set_option maxHeartbeats 4000000
set_option maxRecDepth 10000

def bad (T : List Tb) (s : Int) : Option Nat := (List.range T.length).find? fun n => !fitB T n s
theorem bad_some {T : List Tb} {s : Int} {n : Nat} (hn : n < T.length) (h : fitB T n s = false) (hp : ∀ m, m < n → fitB T m s = true) : bad T s = some n := by
  rw [bad, List.find?_range_eq_some]
  exact ⟨by rw [h]; rfl, List.mem_range.2 hn, fun j hj => by rw [hp j hj]; rfl⟩
theorem bad_none {T : List Tb} {s : Int} {n : Nat} (hn : T.length ≤ n) (h : ∀ m, m < n → fitB T m s = true) : bad T s = none := by
  rw [bad, List.find?_range_eq_none]
  intro i hi
  rw [h i (by omega)]; rfl
def tabs (T : List Tb) : Int × Int := match bad T 2 with
  | some n => (n, 2)
  | none => match bad T 8 with
    | some n => (n, 8)
    | none => match bad T 9 with
      | some n => (n, 9)
      | none => (-1, 0)
def ss : List Int := [2, 8, 9]
theorem tabs_at {T : List Tb} {i n : Nat} {s : Int} (hi : ss[i]? = some s) (hp : ∀ j, j < i → ∀ s, ss[j]? = some s → bad T s = none) (h : bad T s = some n) : tabs T = ((n : Int), s) := by
  match i, hi with
  | 0, hi => cases hi; simp [tabs, h]
  | 1, hi => cases hi; simp [tabs, h, hp 0 (by omega) _ rfl]
  | 2, hi => cases hi; simp [tabs, h, hp 0 (by omega) _ rfl, hp 1 (by omega) _ rfl]
theorem tabs_no {T : List Tb} (hp : ∀ j, j < 3 → ∀ s, ss[j]? = some s → bad T s = none) : tabs T = (-1, 0) := by
  simp [tabs, hp 0 (by omega) _ rfl, hp 1 (by omega) _ rfl, hp 2 (by omega) _ rfl]
theorem Tables_c (T : List Tb) (base : Option Addr) (cap : Nat) (H : AH) (hT : TabIn H base cap T) :
    ACalls Tryz.prog 54 #[.slice base T.length cap] H (fun v H' => v = .tuple #[.int .i64 (tabs T).1, .int .i64 (tabs T).2] ∧ H = H') := by
  have hbig := hT.out.big
  simp only [List.length_map] at hbig
  refine ACalls.enter2 Tryz.func54 rfl Tryz.ntmps54 Tryz.results54 (by simp) ?_; simp (dsimp := false) (maxSteps := 4000000) only [go_sem]
  refine AllB.mk fun b7 h_b7 => ?_; have hn_b7 := h_b7; (try simp only [fresh_add, fresh_set, ne_eq] at hn_b7); have hr_b7 := hn_b7; (try simp only [@eq_comm Nat b7] at hr_b7); simp (dsimp := false) (maxSteps := 4000000) only [hn_b7, hr_b7, go_sem]
  refine AWp.loopo (ι := Nat) (fun i => i ≤ 3 ∧ ∀ j, j < i → ∀ s, ss[j]? = some s → bad T s = none) (fun i => [(9, .int .i64 i), (8, .int .i64 3), (7, .slice (some ⟨b7, 0, none⟩) 3 3), (0, .slice base T.length cap)])
    (fun _ => H.add b7 (.cells [.int .i64 2, .int .i64 8, .int .i64 9] 28 3)) (fun i => 3 - i) 0 ⟨by omega, fun j hj => by omega⟩ (FrLe.of_lks ?_) (AH.le_refl _) fun i hi Q again out => ?_
  · simp (dsimp := false) (maxSteps := 4000000) only [hn_b7, hr_b7, go_sem]
  · obtain ⟨hi, hall⟩ := hi
    by_cases h : (i : Int) < 3
    · obtain ⟨s, hs⟩ := get_some (l := ss) (i := i) (by simp [ss]; omega)
      have hq : ([.int .i64 2, .int .i64 8, .int .i64 9] : List Value)[i]? = some (.int .i64 s) := by
        have : (ss.map (Value.int .i64))[i]? = some (.int .i64 s) := by rw [List.getElem?_map, hs]; rfl
        exact this
      have ee := i64_succ (i := i) (by omega)
      simp (dsimp := false) (maxSteps := 4000000) only [h, hq, hn_b7, hr_b7, go_sem]
      refine AWp.loopo (ι := Nat) (fun n => n ≤ T.length ∧ ∀ m, m < n → fitB T m s = true) (fun n => [(15, .int .i64 n), (14, .int .i64 T.length), (5, .int .i64 s), (9, .int .i64 i), (8, .int .i64 3), (7, .slice (some ⟨b7, 0, none⟩) 3 3), (0, .slice base T.length cap)])
        (fun _ => H.add b7 (.cells [.int .i64 2, .int .i64 8, .int .i64 9] 28 3)) (fun i => T.length - i) 0 ⟨by omega, fun j hj => by omega⟩ (FrLe.of_lks ?_) (AH.le_refl _) fun n hn Q2 again2 out2 => ?_
      · simp (dsimp := false) (maxSteps := 4000000) only [hn_b7, hr_b7, go_sem]
      · obtain ⟨hn, hpre⟩ := hn
        by_cases h2 : (n : Int) < T.length
        · have e2 := i64_succ (i := n) (by omega)
          simp (dsimp := false) (maxSteps := 4000000) only [h2, hn_b7, hr_b7, go_sem]
          refine (fits_c T base cap n s _ (hT.add h_b7) (by omega)).mono ?_; rintro _ _ ⟨rfl, rfl⟩
          cases hf : fitB T n s with
          | true =>
            simp (dsimp := false) (maxSteps := 4000000) only [e2, hn_b7, hr_b7, go_sem]
            refine again2 (n + 1) _ _ ⟨by omega, fun m hm => ?_⟩ (FrLe.of_lks (by simp (dsimp := false) (maxSteps := 4000000) only [hn_b7, hr_b7, go_sem])) (AH.le_refl _) (by omega)
            by_cases e : m = n
            · rw [e]; exact hf
            · exact hpre m (by omega)
          | false =>
            have ht := tabs_at hs hall (bad_some (by omega) hf hpre)
            simp (dsimp := false) (maxSteps := 4000000) only [hn_b7, hr_b7, go_sem]
            refine out2 _ _ _ (by simp) ?_
            simp (dsimp := false) (maxSteps := 4000000) only [hn_b7, hr_b7, go_sem]
            refine out _ _ _ (by simp) ?_
            simp (dsimp := false) (maxSteps := 4000000) only [hn_b7, hr_b7, go_sem]
            exact ⟨H, (AH.le_add (AH.le_refl _) ((by simp only [fresh_add, fresh_set, ne_eq, hn_b7, not_false_eq_true, and_self] : Fresh _ b7).2)), (by first | exact ⟨by rw [ht], rfl⟩ | rfl)⟩
        · simp (dsimp := false) (maxSteps := 4000000) only [h2, hn_b7, hr_b7, go_sem]
          refine out2 _ _ _ (by simp) ?_
          simp (dsimp := false) (maxSteps := 4000000) only [ee, hn_b7, hr_b7, go_sem]
          refine again (i + 1) _ _ ⟨by omega, fun j hj s' hs' => ?_⟩ (FrLe.of_lks (by simp (dsimp := false) (maxSteps := 4000000) only [hn_b7, hr_b7, go_sem])) (AH.le_refl _) (by omega)
          by_cases e : j = i
          · subst e; rw [hs] at hs'; cases hs'; exact bad_none (by omega) hpre
          · exact hall j (by omega) s' hs'
    · have ht := tabs_no (T := T) fun j hj => hall j (by omega)
      simp (dsimp := false) (maxSteps := 4000000) only [h, hn_b7, hr_b7, go_sem]
      refine out _ _ _ (by simp) ?_
      simp (dsimp := false) (maxSteps := 4000000) only [hn_b7, hr_b7, go_sem]
      exact ⟨H, (AH.le_add (AH.le_refl _) ((by simp only [fresh_add, fresh_set, ne_eq, hn_b7, not_false_eq_true, and_self] : Fresh _ b7).2)), (by first | exact ⟨by rw [ht], rfl⟩ | rfl)⟩

theorem sndO_lt {slot : Int} : ∀ {T : List Tb} {m k : Nat} {x : En}, sndO slot m T = some (k, x) → m ≤ k ∧ k < m + T.length
  | [], _, _, _, h => by simp [sndO] at h
  | t :: T, m, k, x, h => by
    rw [sndO] at h
    split at h
    · cases h; simp
    · have := sndO_lt h
      simp only [List.length_cons]; omega
theorem sndO_app {slot : Int} : ∀ {A B : List Tb} {m : Nat}, sndO slot m (A ++ B) = match sndO slot m A with | some x => some x | none => sndO slot (m + A.length) B
  | [], B, m => by simp [sndO]
  | t :: A, B, m => by
    rw [List.cons_append, sndO, sndO]
    cases t.2.2.find? (snd slot) with
    | some x => rfl
    | none =>
      simp only
      rw [sndO_app]
      simp only [List.length_cons, Nat.add_assoc, Nat.add_comm 1]
theorem sN_take {T : List Tb} {n : Nat} {t : Tb} {x : En} (ht : T[n]? = some t) (hx : x ∈ t.2.2) (h1 : x.1 = 1) : (sN x.2.1 T < n ↔ 0 ≤ sN x.2.1 (T.take n)) := by
  have hn := lt_of_get ht
  have e : T = T.take n ++ t :: T.drop (n + 1) := by
    have hd := List.drop_eq_getElem_cons hn
    rw [List.getElem?_eq_getElem hn] at ht
    cases ht
    rw [← hd, List.take_append_drop]
  have hl : (T.take n).length = n := by rw [List.length_take]; omega
  have h2 : sndO x.2.1 0 T = match sndO x.2.1 0 (T.take n) with | some x => some x | none => sndO x.2.1 (0 + (T.take n).length) (t :: T.drop (n + 1)) := by
    conv => lhs; rw [e]
    exact sndO_app
  cases h3 : sndO x.2.1 0 (T.take n) with
  | some y =>
    obtain ⟨k, y⟩ := y
    have h4 := sndO_lt h3
    rw [h3] at h2
    simp only [sN, h2, h3]
    omega
  | none =>
    rw [h3, sndO] at h2
    cases hf : t.2.2.find? (snd x.2.1) with
    | none =>
      have := List.find?_eq_none.1 hf x hx
      simp [snd, h1] at this
    | some y =>
      rw [hf] at h2
      simp only [sN, h2, h3, hl]
      omega
def clashR (T : List Tb) (n : Nat) (x : En) : Bool := decide (x.1 = 1) && decide (0 ≤ sN x.2.1 (T.take n))
theorem clashR_eq {T : List Tb} {n : Nat} {t : Tb} {x : En} (ht : T[n]? = some t) (hx : x ∈ t.2.2) : clashR T n x = clash T n x := by
  unfold clashR clash
  by_cases h1 : x.1 = 1
  · have := sN_take ht hx h1
    rw [decide_eq_decide.2 this.symm]
  · simp [h1]
theorem any_none {g : En → Bool} {L : List En} (h : ∀ i, i < L.length → ∀ x, L[i]? = some x → g x = false) : L.any g = false := by
  rw [List.any_eq_false]
  intro x hx
  obtain ⟨i, hi⟩ := List.mem_iff_getElem?.1 hx
  rw [h i (lt_of_get hi) x hi]; simp
theorem TabIn.take {H : AH} {base : Option Addr} {cap : Nat} {T : List Tb} (h : TabIn H base cap T) (n : Nat) : TabIn H base cap (T.take n) :=
  ⟨by rw [List.map_take]; exact h.out.take, fun x hx => h.inn x (List.mem_of_mem_take hx)⟩
theorem RefSender_n (T : List Tb) (base : Option Addr) (cap n : Nat) (slot : Int) (H : AH) (hT : TabIn H base cap T) (hn : n = T.length) :
    ACalls Tryz.prog 26 #[.slice base n cap, .int .i64 slot] H (fun v H' => v = .tuple #[.int .i64 (sN slot T), .agg (encE (sX slot T)).toArray] ∧ H = H') := hn ▸ RefSender_c T base cap slot H hT
theorem RefTables_c (T : List Tb) (base : Option Addr) (cap : Nat) (H : AH) (hT : TabIn H base cap T) :
    ACalls Tryz.prog 58 #[.slice base T.length cap] H (fun v H' => v = .tuple #[.int .i64 (tabs T).1, .int .i64 (tabs T).2] ∧ H = H') := by
  have hbig := hT.out.big
  simp only [List.length_map] at hbig
  refine ACalls.enter2 Tryz.func58 rfl Tryz.ntmps58 Tryz.results58 (by simp) ?_; simp (dsimp := false) (maxSteps := 4000000) only [encE_mk, encE_len, encE_scal, encE_z5, go_sem]
  refine AWp.loopo (ι := Nat) (fun n => n ≤ T.length ∧ ∀ m, m < n → fitB T m 2 = true) (fun n => [(4, .int .i64 n), (0, .slice base T.length cap)])
    (fun _ => H) (fun n => T.length - n) 0 ⟨by omega, fun j hj => by omega⟩ (FrLe.of_lks ?_) (AH.le_refl _) fun n hn Q again out => ?_
  · simp (dsimp := false) (maxSteps := 4000000) only [encE_mk, encE_len, encE_scal, encE_z5, go_sem]
  obtain ⟨hn, hpre⟩ := hn
  by_cases h : (n : Int) < T.length
  · obtain ⟨⟨tb, tc, L⟩, ht⟩ := get_some (l := T) (i := n) (by omega)
    have hin := hT.inn _ (List.mem_of_getElem? ht)
    obtain ⟨b, o, rfl, _, hrd⟩ := hT.out.get (map_get (f := encT) ht)
    have hrd := hrd 0 _ rfl
    simp only [Nat.mul_one, Nat.add_zero] at hrd
    have ee := i64_succ (i := n) (by omega)
    have er : rowT T n = L := by simp [rowT, ht]
    simp (dsimp := false) (maxSteps := 4000000) only [h, hrd, encE_mk, encE_len, encE_scal, encE_z5, go_sem]
    refine (May_c L tb tc _ hin).mono ?_; rintro _ _ ⟨rfl, rfl⟩
    cases hf : mayB L with
    | true =>
      simp (dsimp := false) (maxSteps := 4000000) only [ee, encE_mk, encE_len, encE_scal, encE_z5, go_sem]
      refine again (n + 1) _ _ ⟨by omega, fun m hm => ?_⟩ (FrLe.of_lks (by simp (dsimp := false) (maxSteps := 4000000) only [encE_mk, encE_len, encE_scal, encE_z5, go_sem])) (AH.le_refl _) (by omega)
      by_cases e : m = n
      · rw [e, fitB, if_pos rfl, er]; exact hf
      · exact hpre m (by omega)
    | false =>
      have ht := tabs_at (T := T) (i := 0) (s := 2) rfl (fun j hj => by omega) (bad_some (by omega) (by rw [fitB, if_pos rfl, er]; exact hf) hpre)
      simp (dsimp := false) (maxSteps := 4000000) only [encE_mk, encE_len, encE_scal, encE_z5, go_sem]
      refine out _ _ _ (by simp) ?_
      simp (dsimp := false) (maxSteps := 4000000) only [encE_mk, encE_len, encE_scal, encE_z5, go_sem]
      exact ⟨H, (AH.le_refl _), (by first | exact ⟨by rw [ht], rfl⟩ | rfl)⟩
  have bad2 : bad T 2 = none := bad_none (by omega) hpre
  clear hn hpre
  simp (dsimp := false) (maxSteps := 4000000) only [h, encE_mk, encE_len, encE_scal, encE_z5, go_sem]
  refine out _ _ _ (by simp) ?_
  clear h out again
  simp (dsimp := false) (maxSteps := 4000000) only [encE_mk, encE_len, encE_scal, encE_z5, go_sem]
  refine AWp.loopo (ι := Nat) (fun n => n ≤ T.length ∧ ∀ m, m < n → fitB T m 8 = true) (fun n => [(5, .int .i64 n), (0, .slice base T.length cap)])
    (fun _ => H) (fun n => T.length - n) 0 ⟨by omega, fun j hj => by omega⟩ (FrLe.of_lks ?_) (AH.le_refl _) fun n hn Q again out => ?_
  · simp (dsimp := false) (maxSteps := 4000000) only [encE_mk, encE_len, encE_scal, encE_z5, go_sem]
  obtain ⟨hn, hpre⟩ := hn
  by_cases h : (n : Int) < T.length
  · obtain ⟨⟨tb, tc, L⟩, ht⟩ := get_some (l := T) (i := n) (by omega)
    have hin := hT.inn _ (List.mem_of_getElem? ht)
    have hbigL := hin.big
    simp only [List.length_map] at hbigL
    have hle := hT.out.le
    simp only [List.length_map] at hle
    obtain ⟨b, o, rfl, _, hrd⟩ := hT.out.get (map_get (f := encT) ht)
    have hrd := hrd 0 _ rfl
    simp only [Nat.mul_one, Nat.add_zero] at hrd
    have ee := i64_succ (i := n) (by omega)
    have er : rowT T n = L := by simp [rowT, ht]
    simp (dsimp := false) (maxSteps := 4000000) only [h, encE_mk, encE_len, encE_scal, encE_z5, go_sem]
    refine AWp.loopo (ι := Nat) (fun i => i ≤ L.length ∧ ∀ j, j < i → ∀ x, L[j]? = some x → clash T n x = false) (fun i => [(6, .int .i64 i), (5, .int .i64 n), (0, .slice (some ⟨b, o, none⟩) T.length cap)])
      (fun _ => H) (fun i => L.length - i) 0 ⟨by omega, fun j hj => by omega⟩ (FrLe.of_lks ?_) (AH.le_refl _) fun i hi Q2 again2 out2 => ?_
    · simp (dsimp := false) (maxSteps := 4000000) only [encE_mk, encE_len, encE_scal, encE_z5, go_sem]
    obtain ⟨hi, hpre2⟩ := hi
    by_cases h2 : (i : Int) < L.length
    · obtain ⟨⟨k, s, f, r, y⟩, hx⟩ := get_some (l := L) (i := i) (by omega)
      have hmem := List.mem_of_getElem? hx
      have hcl := clashR_eq ht hmem
      obtain ⟨b', o', rfl, hrow, hrd'⟩ := hin.get (map_get (f := encE) hx)
      have r0 := hrd' 0 _ rfl
      have r1 := hrd' 1 _ rfl
      simp only [encE_mk, Nat.add_zero] at r0 r1
      have e2 := i64_succ (i := i) (by omega)
      have n1 : (n : Int) ≤ cap := by omega
      simp (dsimp := false) (maxSteps := 4000000) only [h, h2, hrd, encE_mk, encE_len, encE_scal, encE_z5, go_sem]
      refine AWp.gen [.pu, .pu, .pu, .pu, .pu, .pu, .rd, .pu, .pu, .pu, .rd, .ch, .pu, .pu, .pu, .al, .pu, .ch] [0, 0, 3, 0, 0, 24, 56, 0, 248, 504, 1016, 2047, 4095, 8191, 8191, 0, 49151, 131071] 0 (_) mixed (by kernel_rfl) (AH.le_refl _) ?_
      simp (dsimp := false) (maxSteps := 4000000) only [h, h2, hrd, r1, n1, Nat.sub_zero, ite_self, encE_mk, encE_len, encE_scal, encE_z5, go_sem]
      refine (RefSender_n (T.take n) (some ⟨b, o, none⟩) cap n s _ (hT.take n) (by rw [List.length_take]; omega)).mono ?_; rintro _ _ ⟨rfl, rfl⟩
      simp (dsimp := false) (maxSteps := 4000000) only [AH.le_refl, encE_mk, encE_len, encE_scal, encE_z5, go_sem]
      refine AllB.mk fun b8 h_b8 => ?_; have hn_b8 := h_b8; (try simp only [fresh_add, fresh_set, ne_eq] at hn_b8); have hr_b8 := hn_b8; (try simp only [@eq_comm Nat b8] at hr_b8); simp (dsimp := false) (maxSteps := 4000000) only [encE_mk, encE_len, encE_scal, encE_z5, hn_b8, hr_b8, go_sem]
      have nr_hrd := (Fresh.ne_rd (by simp only [hn_b8] : Fresh H b8) hrd)
      have nr_r0 := (Fresh.ne_rd (by simp only [hn_b8] : Fresh H b8) r0)
      by_cases k1 : k = 1
      · by_cases k2 : 0 ≤ sN s (T.take n)
        · have hf : clash T n (k, s, f, r, y) = true := by rw [← hcl]; simp [clashR, k1, k2]
          have hb : fitB T n 8 = false := by
            rw [fitB, if_neg (by decide), if_pos rfl, er, List.any_eq_true.2 ⟨_, hmem, hf⟩]; rfl
          have ht := tabs_at (T := T) (i := 1) (s := 8) rfl (fun j hj s' hs' => by
            obtain rfl : j = 0 := by omega
            cases hs'; exact bad2) (bad_some (by omega) hb hpre)
          simp (dsimp := false) (maxSteps := 4000000) only [h, h2, hrd, nr_hrd, r0, nr_r0, k1, k2, encE_mk, encE_len, encE_scal, encE_z5, hn_b8, hr_b8, go_sem]
          refine out2 _ _ _ (by simp) ?_
          simp (dsimp := false) (maxSteps := 4000000) only [encE_mk, encE_len, encE_scal, encE_z5, hn_b8, hr_b8, go_sem]
          refine out _ _ _ (by simp) ?_
          simp (dsimp := false) (maxSteps := 4000000) only [encE_mk, encE_len, encE_scal, encE_z5, hn_b8, hr_b8, go_sem]
          exact ⟨H, (AH.le_add (AH.le_refl _) ((by simp only [encE_mk, encE_len, encE_scal, encE_z5, fresh_add, fresh_set, ne_eq, hn_b8, not_false_eq_true, and_self] : Fresh _ b8).2)), (by first | exact ⟨by rw [ht], rfl⟩ | rfl)⟩
        · have hf : clash T n (k, s, f, r, y) = false := by rw [← hcl]; simp only [clashR, decide_eq_false k2, Bool.and_false]
          simp (dsimp := false) (maxSteps := 4000000) only [h, h2, hrd, nr_hrd, r0, nr_r0, k1, k2, e2, encE_mk, encE_len, encE_scal, encE_z5, hn_b8, hr_b8, go_sem]
          refine again2 (i + 1) _ _ ⟨by omega, fun q hq z hz => ?_⟩ (FrLe.of_lks (by simp (dsimp := false) (maxSteps := 4000000) only [encE_mk, encE_len, encE_scal, encE_z5, hn_b8, hr_b8, go_sem])) (by (repeat (first | exact AH.le_refl _ | refine AH.le_add ?_ ?_)); all_goals (first | exact AH.le_refl _ | (show AH.find _ _ = _; simp only [find_add_self, find_add_ne, find_fresh, fresh_add, fresh_set, ne_eq, not_false_eq_true, true_and, and_true, and_self, encE_mk, encE_len, encE_scal, encE_z5, hn_b8, hr_b8]))) (by omega)
          by_cases e : q = i
          · subst e; rw [hx] at hz; cases hz; exact hf
          · exact hpre2 q (by omega) z hz
      · have hf : clash T n (k, s, f, r, y) = false := by simp [clash, k1]
        simp (dsimp := false) (maxSteps := 4000000) only [h, h2, hrd, nr_hrd, r0, nr_r0, k1, e2, encE_mk, encE_len, encE_scal, encE_z5, hn_b8, hr_b8, go_sem]
        refine again2 (i + 1) _ _ ⟨by omega, fun q hq z hz => ?_⟩ (FrLe.of_lks (by simp (dsimp := false) (maxSteps := 4000000) only [encE_mk, encE_len, encE_scal, encE_z5, hn_b8, hr_b8, go_sem])) (by (repeat (first | exact AH.le_refl _ | refine AH.le_add ?_ ?_)); all_goals (first | exact AH.le_refl _ | (show AH.find _ _ = _; simp only [find_add_self, find_add_ne, find_fresh, fresh_add, fresh_set, ne_eq, not_false_eq_true, true_and, and_true, and_self, encE_mk, encE_len, encE_scal, encE_z5, hn_b8, hr_b8]))) (by omega)
        by_cases e : q = i
        · subst e; rw [hx] at hz; cases hz; exact hf
        · exact hpre2 q (by omega) z hz
    · 
      simp (dsimp := false) (maxSteps := 4000000) only [h, h2, hrd, encE_mk, encE_len, encE_scal, encE_z5, go_sem]
      refine out2 _ _ _ (by simp) ?_
      simp (dsimp := false) (maxSteps := 4000000) only [ee, encE_mk, encE_len, encE_scal, encE_z5, go_sem]
      refine again (n + 1) _ _ ⟨by omega, fun m hm => ?_⟩ (FrLe.of_lks (by simp (dsimp := false) (maxSteps := 4000000) only [encE_mk, encE_len, encE_scal, encE_z5, go_sem])) (AH.le_refl _) (by omega)
      by_cases e : m = n
      · rw [e, fitB, if_neg (by decide), if_pos rfl, er, any_none fun j hj x hx => hpre2 j (by omega) x hx]; rfl
      · exact hpre m (by omega)
  have bad8 : bad T 8 = none := bad_none (by omega) hpre
  clear hn hpre
  simp (dsimp := false) (maxSteps := 4000000) only [h, encE_mk, encE_len, encE_scal, encE_z5, go_sem]
  refine out _ _ _ (by simp) ?_
  clear h out again
  simp (dsimp := false) (maxSteps := 4000000) only [encE_mk, encE_len, encE_scal, encE_z5, go_sem]
  refine AWp.loopo (ι := Nat) (fun n => n ≤ T.length ∧ ∀ m, m < n → fitB T m 9 = true) (fun n => [(9, .int .i64 n), (0, .slice base T.length cap)])
    (fun _ => H) (fun n => T.length - n) 0 ⟨by omega, fun j hj => by omega⟩ (FrLe.of_lks ?_) (AH.le_refl _) fun n hn Q again out => ?_
  · simp (dsimp := false) (maxSteps := 4000000) only [encE_mk, encE_len, encE_scal, encE_z5, go_sem]
  obtain ⟨hn, hpre⟩ := hn
  by_cases h : (n : Int) < T.length
  · obtain ⟨⟨tb, tc, L⟩, ht⟩ := get_some (l := T) (i := n) (by omega)
    have hin := hT.inn _ (List.mem_of_getElem? ht)
    have hbigL := hin.big
    simp only [List.length_map] at hbigL
    obtain ⟨b, o, rfl, _, hrd⟩ := hT.out.get (map_get (f := encT) ht)
    have hrd := hrd 0 _ rfl
    simp only [Nat.mul_one, Nat.add_zero] at hrd
    have ee := i64_succ (i := n) (by omega)
    have er : rowT T n = L := by simp [rowT, ht]
    simp (dsimp := false) (maxSteps := 4000000) only [h, encE_mk, encE_len, encE_scal, encE_z5, go_sem]
    refine AWp.loopo (ι := Nat) (fun i => i ≤ L.length ∧ ∀ j, j < i → ∀ x, L[j]? = some x → gap T x = false) (fun i => [(10, .int .i64 i), (9, .int .i64 n), (0, .slice (some ⟨b, o, none⟩) T.length cap)])
      (fun _ => H) (fun i => L.length - i) 0 ⟨by omega, fun j hj => by omega⟩ (FrLe.of_lks ?_) (AH.le_refl _) fun i hi Q2 again2 out2 => ?_
    · simp (dsimp := false) (maxSteps := 4000000) only [encE_mk, encE_len, encE_scal, encE_z5, go_sem]
    obtain ⟨hi, hpre2⟩ := hi
    by_cases h2 : (i : Int) < L.length
    · obtain ⟨⟨k, s, f, r, y⟩, hx⟩ := get_some (l := L) (i := i) (by omega)
      have hmem := List.mem_of_getElem? hx
      obtain ⟨b', o', rfl, hrow, hrd'⟩ := hin.get (map_get (f := encE) hx)
      have r0 := hrd' 0 _ rfl
      have r1 := hrd' 1 _ rfl
      simp only [encE_mk, Nat.add_zero] at r0 r1
      have e2 := i64_succ (i := i) (by omega)
      simp (dsimp := false) (maxSteps := 4000000) only [h, h2, hrd, r1, encE_mk, encE_len, encE_scal, encE_z5, go_sem]
      refine (RefSender_c T (some ⟨b, o, none⟩) cap s _ hT).mono ?_; rintro _ _ ⟨rfl, rfl⟩
      simp (dsimp := false) (maxSteps := 4000000) only [encE_mk, encE_len, encE_scal, encE_z5, go_sem]
      refine AllB.mk fun b12 h_b12 => ?_; have hn_b12 := h_b12; (try simp only [fresh_add, fresh_set, ne_eq] at hn_b12); have hr_b12 := hn_b12; (try simp only [@eq_comm Nat b12] at hr_b12); simp (dsimp := false) (maxSteps := 4000000) only [encE_mk, encE_len, encE_scal, encE_z5, hn_b12, hr_b12, go_sem]
      have nr_hrd := (Fresh.ne_rd (by simp only [hn_b12] : Fresh H b12) hrd)
      have nr_r0 := (Fresh.ne_rd (by simp only [hn_b12] : Fresh H b12) r0)
      by_cases k1 : k = 2
      · by_cases k2 : sN s T < 0
        · have hf : gap T (k, s, f, r, y) = true := by simp [gap, k1, k2]
          have hb : fitB T n 9 = false := by
            rw [fitB, if_neg (by decide), if_neg (by decide), er, List.any_eq_true.2 ⟨_, hmem, hf⟩]; rfl
          have ht := tabs_at (T := T) (i := 2) (s := 9) rfl (fun j hj s' hs' => by
            match j, hs' with
            | 0, hs' => cases hs'; exact bad2
            | 1, hs' => cases hs'; exact bad8) (bad_some (by omega) hb hpre)
          simp (dsimp := false) (maxSteps := 4000000) only [h, h2, hrd, nr_hrd, r0, nr_r0, k1, k2, encE_mk, encE_len, encE_scal, encE_z5, hn_b12, hr_b12, go_sem]
          refine out2 _ _ _ (by simp) ?_
          simp (dsimp := false) (maxSteps := 4000000) only [encE_mk, encE_len, encE_scal, encE_z5, hn_b12, hr_b12, go_sem]
          refine out _ _ _ (by simp) ?_
          simp (dsimp := false) (maxSteps := 4000000) only [encE_mk, encE_len, encE_scal, encE_z5, hn_b12, hr_b12, go_sem]
          exact ⟨H, (AH.le_add (AH.le_refl _) ((by simp only [encE_mk, encE_len, encE_scal, encE_z5, fresh_add, fresh_set, ne_eq, hn_b12, not_false_eq_true, and_self] : Fresh _ b12).2)), (by first | exact ⟨by rw [ht], rfl⟩ | rfl)⟩
        · have hf : gap T (k, s, f, r, y) = false := by simp only [gap, decide_eq_false k2, Bool.and_false]
          simp (dsimp := false) (maxSteps := 4000000) only [h, h2, hrd, nr_hrd, r0, nr_r0, k1, k2, e2, encE_mk, encE_len, encE_scal, encE_z5, hn_b12, hr_b12, go_sem]
          refine again2 (i + 1) _ _ ⟨by omega, fun q hq z hz => ?_⟩ (FrLe.of_lks (by simp (dsimp := false) (maxSteps := 4000000) only [encE_mk, encE_len, encE_scal, encE_z5, hn_b12, hr_b12, go_sem])) (by (repeat (first | exact AH.le_refl _ | refine AH.le_add ?_ ?_)); all_goals (first | exact AH.le_refl _ | (show AH.find _ _ = _; simp only [find_add_self, find_add_ne, find_fresh, fresh_add, fresh_set, ne_eq, not_false_eq_true, true_and, and_true, and_self, encE_mk, encE_len, encE_scal, encE_z5, hn_b12, hr_b12]))) (by omega)
          by_cases e : q = i
          · subst e; rw [hx] at hz; cases hz; exact hf
          · exact hpre2 q (by omega) z hz
      · have hf : gap T (k, s, f, r, y) = false := by simp [gap, k1]
        simp (dsimp := false) (maxSteps := 4000000) only [h, h2, hrd, nr_hrd, r0, nr_r0, k1, e2, encE_mk, encE_len, encE_scal, encE_z5, hn_b12, hr_b12, go_sem]
        refine again2 (i + 1) _ _ ⟨by omega, fun q hq z hz => ?_⟩ (FrLe.of_lks (by simp (dsimp := false) (maxSteps := 4000000) only [encE_mk, encE_len, encE_scal, encE_z5, hn_b12, hr_b12, go_sem])) (by (repeat (first | exact AH.le_refl _ | refine AH.le_add ?_ ?_)); all_goals (first | exact AH.le_refl _ | (show AH.find _ _ = _; simp only [find_add_self, find_add_ne, find_fresh, fresh_add, fresh_set, ne_eq, not_false_eq_true, true_and, and_true, and_self, encE_mk, encE_len, encE_scal, encE_z5, hn_b12, hr_b12]))) (by omega)
        by_cases e : q = i
        · subst e; rw [hx] at hz; cases hz; exact hf
        · exact hpre2 q (by omega) z hz
    · 
      simp (dsimp := false) (maxSteps := 4000000) only [h, h2, hrd, encE_mk, encE_len, encE_scal, encE_z5, go_sem]
      refine out2 _ _ _ (by simp) ?_
      simp (dsimp := false) (maxSteps := 4000000) only [ee, encE_mk, encE_len, encE_scal, encE_z5, go_sem]
      refine again (n + 1) _ _ ⟨by omega, fun m hm => ?_⟩ (FrLe.of_lks (by simp (dsimp := false) (maxSteps := 4000000) only [encE_mk, encE_len, encE_scal, encE_z5, go_sem])) (AH.le_refl _) (by omega)
      by_cases e : m = n
      · rw [e, fitB, if_neg (by decide), if_neg (by decide), er, any_none fun j hj x hx => hpre2 j (by omega) x hx]; rfl
      · exact hpre m (by omega)
  have bad9 : bad T 9 = none := bad_none (by omega) hpre
  have ht : tabs T = (-1, 0) := by simp [tabs, bad2, bad8, bad9]
  simp (dsimp := false) (maxSteps := 4000000) only [h, encE_mk, encE_len, encE_scal, encE_z5, go_sem]
  refine out _ _ _ (by simp) ?_
  simp (dsimp := false) (maxSteps := 4000000) only [encE_mk, encE_len, encE_scal, encE_z5, go_sem]
  exact ⟨H, (AH.le_refl _), (by first | exact ⟨by rw [ht], rfl⟩ | rfl)⟩
end Go.Proofs.YtamlipffhimfmaaGreatDoor.Chk

/- uart.Turn and its reference: what each comes to. -/
namespace Go.Proofs.YtamlipffhimfmaaGreatDoor.Uart
set_option linter.unusedSimpArgs false
set_option linter.unusedVariables false
open Go Go.AX Go.Proofs Ty
set_option maxHeartbeats 2000000
set_option maxRecDepth 10000

def bitI (m : Int) (i : Nat) : Bool := m / 2 ^ i % 2 == 1
def turnl (l : List Bool) (m : Int) : List Bool := l.mapIdx fun j x => x != bitI m j

theorem bitI_eq (m : Int) (i : Nat) (h : i < 64) : (ibits .and .i64 (m.fdiv (2 ^ min i IntKind.i64.bits)) 1 == 1) = bitI m i := by
  rw [show min i IntKind.i64.bits = i from Nat.min_eq_left (by simp [IntKind.bits]; omega), and1_i64, fdiv_pow]; rfl

theorem bitU_eq (m : Int) (i : Nat) (h : i < 64) : (m % 18446744073709551616 / 2 ^ i % 2 == 1) = bitI m i := by
  unfold bitI
  have : m % 18446744073709551616 / 2 ^ i % 2 = m / 2 ^ i % 2 := by
    have e : (18446744073709551616 : Int) = 2 ^ i * 2 ^ (64 - i) := by rw [← Int.pow_add, show i + (64 - i) = 64 from by omega]; rfl
    have e2 : (2 : Int) ^ (64 - i) = 2 * 2 ^ (63 - i) := by rw [show 64 - i = (63 - i) + 1 from by omega, Int.pow_succ]; omega
    have hp : (0 : Int) < 2 ^ i := Int.pow_pos (by decide)
    have h1 := Int.mul_ediv_add_emod m 18446744073709551616
    generalize hq : m / 18446744073709551616 = q at h1
    generalize hr : m % 18446744073709551616 = r at *
    have h2 : m = r + 2 ^ i * (2 * (2 ^ (63 - i) * q)) := by
      rw [← h1, e, e2]; simp only [Int.mul_assoc]; omega
    rw [h2, Int.add_mul_ediv_left _ _ (by omega)]
    omega
  rw [this]

theorem Turn_c (l : List Bool) (hl : l.length = 11) (m : Int) (H : AH) : ACalls Tryz.prog 62 #[.agg (l.map Value.bool).toArray, .int .i64 m] H
    (fun v H' => v = .agg ((turnl l m).map Value.bool).toArray ∧ H = H') := by
  let row := rowIf l (fun j x => x != bitI m j) (fun _ x => x)
  have hlen : ∀ i, (row i).length = 11 := fun i => rowIf_len.trans hl
  refine ACalls.enter2 Tryz.func62 rfl Tryz.ntmps62 Tryz.results62 (by simp) ?_; simp (dsimp := false) (maxSteps := 4000000) only [go_sem]
  
  refine AllB.mk fun b1 h_b1 => ?_; have hn_b1 := h_b1; (try simp only [fresh_add, fresh_set, ne_eq] at hn_b1); have hr_b1 := hn_b1; (try simp only [@eq_comm Nat b1] at hr_b1); simp (dsimp := false) (maxSteps := 4000000) only [hl, hlen, hn_b1, hr_b1, go_sem]
  refine AllB.mk fun b2 h_b2 => ?_; have hn_b2 := h_b2; (try simp only [fresh_add, fresh_set, ne_eq] at hn_b2); have hr_b2 := hn_b2; (try simp only [@eq_comm Nat b2] at hr_b2); simp (dsimp := false) (maxSteps := 4000000) only [hl, hlen, hn_b1, hr_b1, hn_b2, hr_b2, go_sem]
  refine AWp.loopg (ι := Nat) (fun i => i ≤ 11) (fun i => [(6, .int .i64 i), (1, .int .i64 m), (2, .pointer (some ⟨b1, 0, none⟩)), (4, .pointer (some ⟨b2, 0, none⟩))])
    (fun i => (H.add b1 (.cells ((row i).map Value.bool) 87 11)).add b2 (.cells [.bool false, .bool false, .bool false, .bool false, .bool false, .bool false, .bool false, .bool false, .bool false, .bool false, .bool false] 87 11)) (fun i => 11 - i) 0 (by omega) (FrLe.of_lks ?_) ?_ fun i hi => ?_
  · simp (dsimp := false) (maxSteps := 4000000) only [hl, hlen, hn_b1, hr_b1, hn_b2, hr_b2, go_sem]
  · rw [show row 0 = l from rowIf_zero_id, hl]; exact AH.le_refl _
  · simp (dsimp := false) (maxSteps := 4000000) only [hl, hlen, hn_b1, hr_b1, hn_b2, hr_b2, go_sem]
    refine ⟨fun h => ?_, fun h => ?_⟩
    · have hi' : i < 11 := by omega
      obtain ⟨x, hx⟩ := get_some (l := l) (i := i) (by omega)
      have hr : ((row i).map Value.bool)[i]? = some (.bool x) := by
        rw [List.getElem?_map, rowIf_get, hx]; rfl
      have e1 := i64_succ (i := i) (by omega)
      simp (dsimp := false) (maxSteps := 4000000) only [hl, hlen, hn_b1, hr_b1, hn_b2, hr_b2, go_sem]
      refine AWp.tail 11 mixed (by kernel_rfl) ?_
      have hb : (ibits .and .i64 (m.fdiv (2 ^ min i 64)) 1 == 1) = bitI m i := bitI_eq m i (by omega)
      simp (dsimp := false) (maxSteps := 4000000) only [hr, h, (by omega : i ≤ 10), hb, hl, hlen, hn_b1, hr_b1, hn_b2, hr_b2, go_sem]
      rw [e1, show (!x == bitI m i) = (x != bitI m i) from by cases x <;> simp [bne], ← List.map_set, rowIf_set hx]
      refine around_end (i + 1) (by omega) (FrLe.of_lks ?_) (AH.le_refl _) (by omega)
      simp (dsimp := false) (maxSteps := 4000000) only [hl, hlen, hn_b1, hr_b1, hn_b2, hr_b2, go_sem]
    · obtain rfl : i = 11 := by omega
      simp (dsimp := false) (maxSteps := 4000000) only [hl, hlen, hn_b1, hr_b1, hn_b2, hr_b2, go_sem]
      exact ⟨H, (AH.le_add (AH.le_add (AH.le_refl _) ((by simp only [hl, hlen, fresh_add, fresh_set, ne_eq, hn_b1, not_false_eq_true, and_self] : Fresh _ b1).2)) ((by simp only [hl, hlen, fresh_add, fresh_set, ne_eq, hn_b2, not_false_eq_true, and_self] : Fresh _ b2).2)), (by first | exact ⟨by rw [show row 11 = turnl l m from rowIf_full (by omega)], rfl⟩ | rfl)⟩

theorem RefTurn_c (l : List Bool) (hl : l.length = 11) (m : Int) (H : AH) : ACalls Tryz.prog 65 #[.agg (l.map Value.bool).toArray, .int .i64 m] H
    (fun v H' => v = .agg ((turnl l m).map Value.bool).toArray ∧ H = H') := by
  let row := rowIf l (fun j x => x != bitI m j) (fun _ _ => false)
  have hlen : ∀ i, (row i).length = 11 := fun i => rowIf_len.trans hl
  let M := m % 18446744073709551616
  have hM : IntKind.u64.wrap m = M := IntKind.wrap_u64 m
  refine ACalls.enter2 Tryz.func65 rfl Tryz.ntmps65 Tryz.results65 (by simp) ?_; simp (dsimp := false) (maxSteps := 4000000) only [go_sem]
  
  refine AllB.mk fun b1 h_b1 => ?_; have hn_b1 := h_b1; (try simp only [fresh_add, fresh_set, ne_eq] at hn_b1); have hr_b1 := hn_b1; (try simp only [@eq_comm Nat b1] at hr_b1); simp (dsimp := false) (maxSteps := 4000000) only [hl, hlen, hM, hn_b1, hr_b1, go_sem]
  refine AllB.mk fun b2 h_b2 => ?_; have hn_b2 := h_b2; (try simp only [fresh_add, fresh_set, ne_eq] at hn_b2); have hr_b2 := hn_b2; (try simp only [@eq_comm Nat b2] at hr_b2); simp (dsimp := false) (maxSteps := 4000000) only [hl, hlen, hM, hn_b1, hr_b1, hn_b2, hr_b2, go_sem]
  refine AllB.mk fun b3 h_b3 => ?_; have hn_b3 := h_b3; (try simp only [fresh_add, fresh_set, ne_eq] at hn_b3); have hr_b3 := hn_b3; (try simp only [@eq_comm Nat b3] at hr_b3); simp (dsimp := false) (maxSteps := 4000000) only [hl, hlen, hM, hn_b1, hr_b1, hn_b2, hr_b2, hn_b3, hr_b3, go_sem]
  refine AWp.loopg (ι := Nat) (fun i => i ≤ 11) (fun i => [(7, .int .i64 i), (6, .int .u64 (M / 2 ^ i)), (5, .pointer (some ⟨b3, 0, none⟩)), (2, .pointer (some ⟨b1, 0, none⟩)), (4, .pointer (some ⟨b2, 0, none⟩))])
    (fun i => ((H.add b1 (.cells (l.map Value.bool) 87 11)).add b2 (.cells [.bool false, .bool false, .bool false, .bool false, .bool false, .bool false, .bool false, .bool false, .bool false, .bool false, .bool false] 87 11)).add b3 (.cells ((row i).map Value.bool) 87 11)) (fun i => 11 - i) 0 (by omega) (FrLe.of_lks ?_) ?_ fun i hi => ?_
  · simp (dsimp := false) (maxSteps := 4000000) only [hl, hlen, hM, hn_b1, hr_b1, hn_b2, hr_b2, hn_b3, hr_b3, go_sem]
    rw [show M / 2 ^ 0 = M from by simp]
  · rw [show row 0 = [false, false, false, false, false, false, false, false, false, false, false] from rowIf_zero_const.trans (by rw [hl]; rfl)]
    exact AH.le_refl _
  · simp (dsimp := false) (maxSteps := 4000000) only [hl, hlen, hM, hn_b1, hr_b1, hn_b2, hr_b2, hn_b3, hr_b3, go_sem]
    refine ⟨fun h => ?_, fun h => ?_⟩
    · have hi' : i < 11 := by omega
      obtain ⟨x, hx⟩ := get_some (l := l) (i := i) (by omega)
      have hr : (l.map Value.bool)[i]? = some (.bool x) := by
        rw [List.getElem?_map, hx]; rfl
      have e1 := i64_succ (i := i) (by omega)
      have hM0 : 0 ≤ M / 2 ^ i := Int.ediv_nonneg (Int.emod_nonneg _ (by decide)) (Int.le_of_lt (Int.pow_pos (by decide)))
      have hM1 : M / 2 ^ i < 18446744073709551616 := Int.lt_of_le_of_lt (Int.ediv_le_self _ (Int.emod_nonneg _ (by decide))) (Int.emod_lt_of_pos _ (by decide))
      have e3 : IntKind.u64.wrap ((M / 2 ^ i).tdiv 2) = M / 2 ^ (i + 1) := by
        rw [Int.tdiv_eq_ediv_of_nonneg hM0, u64_eq (by omega) (by omega), Int.pow_succ, Int.ediv_ediv_of_nonneg (Int.le_of_lt (Int.pow_pos (by decide)))]
      have hb := bitU_eq m i (by omega)
      have e2 := Int.tmod_eq_emod_of_nonneg (b := 2) hM0
      rcases Int.emod_two_eq (M / 2 ^ i) with h0 | h0
      · have hv : x = (x != bitI m i) := by rw [← hb, show m % 18446744073709551616 / 2 ^ i = M / 2 ^ i from rfl, h0]; simp
        simp (dsimp := false) (maxSteps := 4000000) only [hr, h, (by omega : i ≤ 10), e2, h0, e3, e1, hl, hlen, hM, hn_b1, hr_b1, hn_b2, hr_b2, hn_b3, hr_b3, go_sem]
        refine around_end (i + 1) (by omega) (FrLe.of_lks ?_) ?_ (by omega)
        · simp (dsimp := false) (maxSteps := 4000000) only [hl, hlen, hM, hn_b1, hr_b1, hn_b2, hr_b2, hn_b3, hr_b3, go_sem]
        · rw [show row (i + 1) = (row i).set i x from (by conv => rhs; rw [hv]
                                                          exact (rowIf_set hx).symm), List.map_set]
          exact AH.le_refl _
      · have hv : (!x) = (x != bitI m i) := by rw [← hb, show m % 18446744073709551616 / 2 ^ i = M / 2 ^ i from rfl, h0]; simp
        simp (dsimp := false) (maxSteps := 4000000) only [hr, h, (by omega : i ≤ 10), e2, h0, e3, e1, hl, hlen, hM, hn_b1, hr_b1, hn_b2, hr_b2, hn_b3, hr_b3, go_sem]
        refine around_end (i + 1) (by omega) (FrLe.of_lks ?_) ?_ (by omega)
        · simp (dsimp := false) (maxSteps := 4000000) only [hl, hlen, hM, hn_b1, hr_b1, hn_b2, hr_b2, hn_b3, hr_b3, go_sem]
        · rw [show row (i + 1) = (row i).set i (!x) from (by rw [hv]; exact (rowIf_set hx).symm), List.map_set]
          exact AH.le_refl _
    · obtain rfl : i = 11 := by omega
      simp (dsimp := false) (maxSteps := 4000000) only [hl, hlen, hM, hn_b1, hr_b1, hn_b2, hr_b2, hn_b3, hr_b3, go_sem]
      exact ⟨H, (AH.le_add (AH.le_add (AH.le_add (AH.le_refl _) ((by simp only [hl, hlen, hM, fresh_add, fresh_set, ne_eq, hn_b1, not_false_eq_true, and_self] : Fresh _ b1).2)) ((by simp only [hl, hlen, hM, fresh_add, fresh_set, ne_eq, hn_b2, not_false_eq_true, and_self] : Fresh _ b2).2)) ((by simp only [hl, hlen, hM, fresh_add, fresh_set, ne_eq, hn_b3, not_false_eq_true, and_self] : Fresh _ b3).2)), (by first | exact ⟨by rw [show row 11 = turnl l m from rowIf_full (by omega)], rfl⟩ | rfl)⟩

end Go.Proofs.YtamlipffhimfmaaGreatDoor.Uart

/- bits.OnesCount8, uart.Put and its reference: what each comes to. -/
namespace Go.Proofs.YtamlipffhimfmaaGreatDoor.Uart
set_option linter.unusedSimpArgs false
set_option linter.unusedVariables false
open Go Go.AX Go.Proofs Ty
set_option maxHeartbeats 2000000
set_option maxRecDepth 10000

def ones (b : Int) : Nat → Int
  | 0 => 0
  | i + 1 => ones b i + b / 2 ^ i % 2

theorem ones_nonneg (b : Int) : ∀ i, 0 ≤ ones b i
  | 0 => by simp [ones]
  | i + 1 => by have := ones_nonneg b i; simp only [ones]; omega
theorem ones_le (b : Int) : ∀ i, ones b i ≤ i
  | 0 => by simp [ones]
  | i + 1 => by have := ones_le b i; simp only [ones]; omega
def popTab : ByteArray := ⟨#[0, 1, 1, 2, 1, 2, 2, 3, 1, 2, 2, 3, 2, 3, 3, 4, 1, 2, 2, 3, 2, 3, 3, 4, 2, 3, 3, 4, 3, 4, 4, 5, 1, 2, 2, 3, 2, 3, 3, 4, 2, 3, 3, 4, 3, 4, 4, 5, 2, 3, 3, 4, 3, 4, 4, 5, 3, 4, 4, 5, 4, 5, 5, 6, 1, 2, 2, 3, 2, 3, 3, 4, 2, 3, 3, 4, 3, 4, 4, 5, 2, 3, 3, 4, 3, 4, 4, 5, 3, 4, 4, 5, 4, 5, 5, 6, 2, 3, 3, 4, 3, 4, 4, 5, 3, 4, 4, 5, 4, 5, 5, 6, 3, 4, 4, 5, 4, 5, 5, 6, 4, 5, 5, 6, 5, 6, 6, 7, 1, 2, 2, 3, 2, 3, 3, 4, 2, 3, 3, 4, 3, 4, 4, 5, 2, 3, 3, 4, 3, 4, 4, 5, 3, 4, 4, 5, 4, 5, 5, 6, 2, 3, 3, 4, 3, 4, 4, 5, 3, 4, 4, 5, 4, 5, 5, 6, 3, 4, 4, 5, 4, 5, 5, 6, 4, 5, 5, 6, 5, 6, 6, 7, 2, 3, 3, 4, 3, 4, 4, 5, 3, 4, 4, 5, 4, 5, 5, 6, 3, 4, 4, 5, 4, 5, 5, 6, 4, 5, 5, 6, 5, 6, 6, 7, 3, 4, 4, 5, 4, 5, 5, 6, 4, 5, 5, 6, 5, 6, 6, 7, 4, 5, 5, 6, 5, 6, 6, 7, 5, 6, 6, 7, 6, 7, 7, 8]⟩
theorem pop_all : ∀ x : Fin 256, popTab[x.val]? = some (UInt8.ofNat (ones x.val 8).toNat) ∧ IntKind.i64.wrap (UInt8.ofNat (ones x.val 8).toNat).toNat = ones x.val 8 := by decide +kernel

theorem OnesCount8_c (b : Int) (hb : 0 ≤ b ∧ b < 256) (H : AH) : ACalls Tryz.prog 94 #[.int .u8 b] H (fun v H' => v = .int .i64 (ones b 8) ∧ H = H') := by
  obtain ⟨n, rfl⟩ := Int.eq_ofNat_of_zero_le hb.1
  have hp := pop_all ⟨n, by omega⟩
  refine ACalls.enter2 Tryz.func94 rfl Tryz.ntmps94 Tryz.results94 (by simp) ?_; simp (dsimp := false) (maxSteps := 4000000) only [go_sem]
  refine wo_tab (T := popTab) (by kernel_rfl) ?_
  rw [hp.1]
  simp (dsimp := false) (maxSteps := 4000000) only [hp.2, go_sem]
  exact ⟨H, (AH.le_refl _), (by first | exact ⟨rfl, rfl⟩ | rfl)⟩

def putl (b : Int) (odd : Bool) : List Bool := [false, bitI b 0, bitI b 1, bitI b 2, bitI b 3, bitI b 4, bitI b 5, bitI b 6, bitI b 7, (ones b 8 % 2 == 1) != odd, true]

theorem bitB_eq (b : Int) (i : Nat) (h : i ≤ 8) : (ibits .and .u8 (b.fdiv (2 ^ min i IntKind.u8.bits)) 1 == 1) = bitI b i := by
  rw [show min i IntKind.u8.bits = i from Nat.min_eq_left (by simp [IntKind.bits]; omega), and1_u8, fdiv_pow]; rfl

theorem putRows (b : Int) : ∃ row : Nat → List Bool, (∀ i, (row i).length = 11) ∧ row 0 = [false, false, false, false, false, false, false, false, false, false, false] ∧ row 8 = [false, bitI b 0, bitI b 1, bitI b 2, bitI b 3, bitI b 4, bitI b 5, bitI b 6, bitI b 7, false, false] ∧
      ∀ i, i < 8 → (row i).set (i + 1) (bitI b i) = row (i + 1) :=
    ⟨fun i => rowIf (List.range 11) (fun j _ => if j = 0 then false else bitI b (j - 1)) (fun _ _ => false) (i + 1), fun i => (rowIf_len (l := List.range 11)).trans List.length_range, by kernel_rfl, by kernel_rfl,
      fun i hi => (rowIf_set (l := List.range 11) (f := fun j _ => if j = 0 then false else bitI b (j - 1)) (x := i + 1) (i := i + 1) (List.getElem?_range (by omega)))⟩

theorem Put_c (b : Int) (odd : Bool) (hb : 0 ≤ b ∧ b < 256) (H : AH) : ACalls Tryz.prog 61 #[.int .u8 b, .bool odd] H (fun v H' => v = .agg ((putl b odd).map Value.bool).toArray ∧ H = H') := by
  obtain ⟨row, hlen, hr0, hr8, hset⟩ := putRows b
  refine ACalls.enter2 Tryz.func61 rfl Tryz.ntmps61 Tryz.results61 (by simp) ?_; simp (dsimp := false) (maxSteps := 4000000) only [go_sem]
  
  refine AllB.mk fun b1 h_b1 => ?_; have hn_b1 := h_b1; (try simp only [fresh_add, fresh_set, ne_eq] at hn_b1); have hr_b1 := hn_b1; (try simp only [@eq_comm Nat b1] at hr_b1); simp (dsimp := false) (maxSteps := 4000000) only [hlen, hn_b1, hr_b1, go_sem]
  refine AllB.mk fun b2 h_b2 => ?_; have hn_b2 := h_b2; (try simp only [fresh_add, fresh_set, ne_eq] at hn_b2); have hr_b2 := hn_b2; (try simp only [@eq_comm Nat b2] at hr_b2); simp (dsimp := false) (maxSteps := 4000000) only [hlen, hn_b1, hr_b1, hn_b2, hr_b2, go_sem]
  refine AWp.loopo (ι := Nat) (fun i => i ≤ 8) (fun i => [(7, .int .i64 i), (0, .int .u8 b), (1, .bool odd), (5, .pointer (some ⟨b2, 0, none⟩)), (4, .pointer (some ⟨b1, 0, none⟩))])
    (fun i => (H.add b1 (.cells [.bool false, .bool false, .bool false, .bool false, .bool false, .bool false, .bool false, .bool false, .bool false, .bool false, .bool false] 87 11)).add b2 (.cells ((row i).map Value.bool) 87 11)) (fun i => 8 - i) 0 (by omega) (FrLe.of_lks ?_) ?_ fun i hi Q again out => ?_
  · simp (dsimp := false) (maxSteps := 4000000) only [hlen, hn_b1, hr_b1, hn_b2, hr_b2, go_sem]
  · rw [hr0]; exact AH.le_refl _
  · simp (dsimp := false) (maxSteps := 4000000) only [hlen, hn_b1, hr_b1, hn_b2, hr_b2, go_sem]
    refine ⟨fun h => ?_, fun h => ?_⟩
    · have e1 := i64_succ (i := i) (by omega)
      have e2 : IntKind.i64.wrap (1 + (i : Int)) = ((i + 1 : Nat) : Int) := by rw [Int.add_comm]; exact e1
      have h10 : (i : Int) + 1 < 11 := by omega
      have hge : (0 : Int) ≤ ((i + 1 : Nat) : Int) := by omega
      have hlt : ((i + 1 : Nat) : Int) < 11 := by omega
      have hb' : (ibits .and .u8 (b.fdiv (2 ^ min i 8)) 1 == 1) = bitI b i := bitB_eq b i (by omega)
      simp (dsimp := false) (maxSteps := 4000000) only [e1, e2, hb', hge, hlt, (by omega : i ≤ 9), hlen, hn_b1, hr_b1, hn_b2, hr_b2, go_sem]
      exact again (i + 1) _ _ (by omega) (FrLe.of_lks (by simp (dsimp := false) (maxSteps := 4000000) only [hlen, hn_b1, hr_b1, hn_b2, hr_b2, go_sem])) (by rw [← List.map_set, hset i (by omega)]; exact AH.le_refl _) (by omega)
    · obtain rfl : i = 8 := by omega
      rw [hr8]
      simp (dsimp := false) (maxSteps := 4000000) only [hlen, hn_b1, hr_b1, hn_b2, hr_b2, go_sem]
      refine out _ _ _ (by simp) ?_
      have e1 : (ones b 8).tmod 2 = ones b 8 % 2 := Int.tmod_eq_emod_of_nonneg (ones_nonneg b 8)
      simp (dsimp := false) (maxSteps := 4000000) only [hlen, hn_b1, hr_b1, hn_b2, hr_b2, go_sem]
      refine (OnesCount8_c b hb _).mono ?_; rintro _ _ ⟨rfl, rfl⟩
      simp (dsimp := false) (maxSteps := 4000000) only [e1, hlen, hn_b1, hr_b1, hn_b2, hr_b2, go_sem]
      exact ⟨H, (AH.le_add (AH.le_add (AH.le_refl _) ((by simp only [hlen, fresh_add, fresh_set, ne_eq, hn_b1, not_false_eq_true, and_self] : Fresh _ b1).2)) ((by simp only [hlen, fresh_add, fresh_set, ne_eq, hn_b2, not_false_eq_true, and_self] : Fresh _ b2).2)), (by first | exact ⟨by simp [putl, bne], rfl⟩ | rfl)⟩

theorem RefPut_c (b : Int) (odd : Bool) (hb : 0 ≤ b ∧ b < 256) (H : AH) : ACalls Tryz.prog 64 #[.int .u8 b, .bool odd] H (fun v H' => v = .agg ((putl b odd).map Value.bool).toArray ∧ H = H') := by
  obtain ⟨row, hlen, hr0, hr8, hset⟩ := putRows b
  have e0 : IntKind.i64.wrap b = b := i64_eq (by omega) (by omega)
  refine ACalls.enter2 Tryz.func64 rfl Tryz.ntmps64 Tryz.results64 (by simp) ?_; simp (dsimp := false) (maxSteps := 4000000) only [go_sem]
  
  refine AllB.mk fun b1 h_b1 => ?_; have hn_b1 := h_b1; (try simp only [fresh_add, fresh_set, ne_eq] at hn_b1); have hr_b1 := hn_b1; (try simp only [@eq_comm Nat b1] at hr_b1); simp (dsimp := false) (maxSteps := 4000000) only [hlen, e0, hn_b1, hr_b1, go_sem]
  refine AllB.mk fun b2 h_b2 => ?_; have hn_b2 := h_b2; (try simp only [fresh_add, fresh_set, ne_eq] at hn_b2); have hr_b2 := hn_b2; (try simp only [@eq_comm Nat b2] at hr_b2); simp (dsimp := false) (maxSteps := 4000000) only [hlen, e0, hn_b1, hr_b1, hn_b2, hr_b2, go_sem]
  refine AWp.loopo (ι := Nat) (fun i => i ≤ 8) (fun i => [(8, .int .i64 ((i + 1 : Nat) : Int)), (6, .int .i64 (b / 2 ^ i)), (7, .int .i64 (ones b i)), (1, .bool odd), (5, .pointer (some ⟨b2, 0, none⟩)), (4, .pointer (some ⟨b1, 0, none⟩))])
    (fun i => (H.add b1 (.cells [.bool false, .bool false, .bool false, .bool false, .bool false, .bool false, .bool false, .bool false, .bool false, .bool false, .bool false] 87 11)).add b2 (.cells ((row i).map Value.bool) 87 11)) (fun i => 8 - i) 0 (by omega) (FrLe.of_lks ?_) ?_ fun i hi Q again out => ?_
  · simp (dsimp := false) (maxSteps := 4000000) only [hlen, e0, hn_b1, hr_b1, hn_b2, hr_b2, go_sem]
    simp [ones]
  · rw [hr0]; exact AH.le_refl _
  · simp (dsimp := false) (maxSteps := 4000000) only [hlen, e0, hn_b1, hr_b1, hn_b2, hr_b2, go_sem]
    refine ⟨fun h => ?_, fun h => ?_⟩
    · have hi' : i < 8 := by omega
      have hn0 : 0 ≤ b / 2 ^ i := Int.ediv_nonneg hb.1 (Int.le_of_lt (Int.pow_pos (by decide)))
      have hn1 : b / 2 ^ i ≤ b := Int.ediv_le_self _ hb.1
      have e1 := i64_succ (i := i + 1) (by omega)
      have e2 := Int.tmod_eq_emod_of_nonneg (b := 2) hn0
      have e3 : (b / 2 ^ i % 2 == 1) = bitI b i := rfl
      have e4 : IntKind.i64.wrap (ones b i + b / 2 ^ i % 2) = ones b (i + 1) := by have := ones_le b i; have := ones_nonneg b i; rw [i64_eq (by omega) (by omega)]; rfl
      have e5 : IntKind.i64.wrap ((b / 2 ^ i).tdiv 2) = b / 2 ^ (i + 1) := by
        rw [Int.tdiv_eq_ediv_of_nonneg hn0, i64_eq (by omega) (by omega), Int.pow_succ, Int.ediv_ediv_of_nonneg (Int.le_of_lt (Int.pow_pos (by decide)))]
      have hge : (0 : Int) ≤ ((i + 1 : Nat) : Int) := by omega
      have hlt : ((i + 1 : Nat) : Int) < 11 := by omega
      simp (dsimp := false) (maxSteps := 4000000) only [e1, e2, e3, e4, e5, hge, hlt, (by omega : i ≤ 9), hlen, e0, hn_b1, hr_b1, hn_b2, hr_b2, go_sem]
      exact again (i + 1) _ _ (by omega) (FrLe.of_lks (by simp (dsimp := false) (maxSteps := 4000000) only [hlen, e0, hn_b1, hr_b1, hn_b2, hr_b2, go_sem])) (by rw [← List.map_set, hset i (by omega)]; exact AH.le_refl _) (by omega)
    · obtain rfl : i = 8 := by omega
      rw [hr8]
      simp (dsimp := false) (maxSteps := 4000000) only [hlen, e0, hn_b1, hr_b1, hn_b2, hr_b2, go_sem]
      refine out _ _ _ (by simp) ?_
      have e1 : (ones b 8).tmod 2 = ones b 8 % 2 := Int.tmod_eq_emod_of_nonneg (ones_nonneg b 8)
      cases odd <;> rcases Int.emod_two_eq (ones b 8) with h2 | h2 <;> (simp (dsimp := false) (maxSteps := 4000000) only [e1, h2, hlen, e0, hn_b1, hr_b1, hn_b2, hr_b2, go_sem]) <;> exact ⟨H, (AH.le_add (AH.le_add (AH.le_refl _) ((by simp only [hlen, e0, fresh_add, fresh_set, ne_eq, hn_b1, not_false_eq_true, and_self] : Fresh _ b1).2)) ((by simp only [hlen, e0, fresh_add, fresh_set, ne_eq, hn_b2, not_false_eq_true, and_self] : Fresh _ b2).2)), (by first | exact ⟨by simp [putl, h2], rfl⟩ | rfl)⟩

end Go.Proofs.YtamlipffhimfmaaGreatDoor.Uart

/- uart.Take and its reference: what each comes to. -/
namespace Go.Proofs.YtamlipffhimfmaaGreatDoor.Uart
set_option linter.unusedSimpArgs false
set_option linter.unusedVariables false
open Go Go.AX Go.Proofs Ty
set_option maxHeartbeats 2000000
set_option maxRecDepth 10000

def valu (l : List Bool) : Nat → Int
  | 0 => 0
  | i + 1 => valu l i + if l.getD (i + 1) false then 2 ^ i else 0
def cnt (l : List Bool) : Nat → Int
  | 0 => 0
  | i + 1 => cnt l i + if l.getD (i + 1) false then 1 else 0
def par (l : List Bool) (i : Nat) : Bool := cnt l i % 2 == 1

theorem valu_nonneg (l : List Bool) : ∀ i, 0 ≤ valu l i
  | 0 => by simp [valu]
  | i + 1 => by
    have := valu_nonneg l i
    have : (0 : Int) ≤ 2 ^ i := Int.le_of_lt (Int.pow_pos (by decide))
    simp only [valu]; split <;> omega
theorem valu_lt (l : List Bool) : ∀ i, valu l i < 2 ^ i
  | 0 => by simp [valu]
  | i + 1 => by
    have := valu_lt l i
    have e : (2 : Int) ^ (i + 1) = 2 ^ i * 2 := Int.pow_succ _ _
    have : (0 : Int) ≤ 2 ^ i := Int.le_of_lt (Int.pow_pos (by decide))
    simp only [valu]; split <;> omega
theorem cnt_nonneg (l : List Bool) : ∀ i, 0 ≤ cnt l i
  | 0 => by simp [cnt]
  | i + 1 => by have := cnt_nonneg l i; simp only [cnt]; split <;> omega
theorem cnt_le (l : List Bool) : ∀ i, cnt l i ≤ i
  | 0 => by simp [cnt]
  | i + 1 => by have := cnt_le l i; simp only [cnt]; split <;> omega
theorem par_set {l : List Bool} {i : Nat} (h : l.getD (i + 1) false = true) : par l (i + 1) = !par l i := by
  have := cnt_nonneg l i
  simp only [par, cnt, h, if_true]
  rcases Int.emod_two_eq (cnt l i) with h1 | h1 <;> simp [h1, show (cnt l i + 1) % 2 = 1 - cnt l i % 2 from by omega]
theorem par_clear {l : List Bool} {i : Nat} (h : l.getD (i + 1) false = false) : par l (i + 1) = par l i := by simp only [par, cnt, h, Bool.false_eq_true, if_false, Int.add_zero]

theorem or_all : ∀ (v : Fin 256) (i : Fin 9), (v.val : Int) < 2 ^ i.val → ibits .or .u8 v.val (IntKind.u8.wrap (1 * 2 ^ min i.val IntKind.u8.bits)) = if i.val = 8 then (v.val : Int) else v.val + 2 ^ i.val := by decide +kernel

def val8 (l : List Bool) (i : Nat) : Int := valu l (min i 8)

theorem or_eq {l : List Bool} {i : Nat} (hi : i < 9) (h : l.getD (i + 1) false = true) : ibits .or .u8 (val8 l i) (IntKind.u8.wrap (1 * 2 ^ min i IntKind.u8.bits)) = val8 l (i + 1) := by
  have h0 := valu_nonneg l i
  have h1 := valu_lt l i
  rw [show val8 l i = valu l i from by unfold val8; rw [Nat.min_eq_left (by omega)]]
  obtain ⟨n, hn⟩ := Int.eq_ofNat_of_zero_le h0
  have hp : (2 : Int) ^ i ≤ 256 := (by decide : ∀ i : Fin 9, (2 : Int) ^ i.val ≤ 256) ⟨i, hi⟩
  have := or_all ⟨n, by omega⟩ ⟨i, hi⟩ (by simp only; omega)
  rw [hn]; simp only at this; rw [this]
  by_cases h8 : i = 8
  · subst h8; simp [val8, ← hn]
  · rw [if_neg h8, ← hn]
    simp only [val8, Nat.min_eq_left (show i + 1 ≤ 8 by omega), valu, h, if_true]
theorem keep_eq {l : List Bool} {i : Nat} (h : l.getD (i + 1) false = false) : val8 l i = val8 l (i + 1) := by
  unfold val8
  by_cases h8 : i < 8
  · rw [Nat.min_eq_left (by omega), Nat.min_eq_left (by omega)]; simp only [valu, h, Bool.false_eq_true, if_false, Int.add_zero]
  · rw [Nat.min_eq_right (by omega), Nat.min_eq_right (by omega)]

def takev (l : List Bool) : Value := if l.getD 0 false = true ∨ l.getD 10 false = false then .tuple #[.int .u8 0, .bool false, .int .i64 2] else .tuple #[.int .u8 (valu l 8), .bool (par l 9), .int .i64 0]

theorem takev_bad {l : List Bool} (h : l.getD 0 false = true ∨ l.getD 10 false = false) : takev l = .tuple #[.int .u8 0, .bool false, .int .i64 2] := if_pos h
theorem takev_ok {l : List Bool} (h0 : l.getD 0 false = false) (h1 : l.getD 10 false = true) : takev l = .tuple #[.int .u8 (val8 l 9), .bool (par l 9), .int .i64 0] := if_neg (by simp only [h0, h1]; simp)
theorem getD_of {l : List Bool} {i : Nat} {x : Bool} (h : l[i]? = some x) : l.getD i false = x := by simp [List.getD_eq_getElem?_getD, h]

theorem Take_c (l : List Bool) (hl : l.length = 11) (H : AH) : ACalls Tryz.prog 66 #[.agg (l.map Value.bool).toArray] H (fun v H' => v = takev l ∧ H = H') := by
  obtain ⟨x0, hx0⟩ := get_some (l := l) (i := 0) (by omega)
  obtain ⟨x10, hx10⟩ := get_some (l := l) (i := 10) (by omega)
  have hr0 : (l.map Value.bool)[0]? = some (.bool x0) := by rw [List.getElem?_map, hx0]; rfl
  have hr10 : (l.map Value.bool)[10]? = some (.bool x10) := by rw [List.getElem?_map, hx10]; rfl
  have g0 := getD_of hx0
  have g10 := getD_of hx10
  refine ACalls.enter2 Tryz.func66 rfl Tryz.ntmps66 Tryz.results66 (by simp) ?_; simp (dsimp := false) (maxSteps := 4000000) only [go_sem]
  
  refine AllB.mk fun b1 h_b1 => ?_; have hn_b1 := h_b1; (try simp only [fresh_add, fresh_set, ne_eq] at hn_b1); have hr_b1 := hn_b1; (try simp only [@eq_comm Nat b1] at hr_b1); simp (dsimp := false) (maxSteps := 4000000) only [hl, hr0, hr10, hn_b1, hr_b1, go_sem]
  cases x0
  · cases x10
    · simp (dsimp := false) (maxSteps := 4000000) only [hl, hr0, hr10, hn_b1, hr_b1, go_sem]
      exact ⟨H, (AH.le_add (AH.le_refl _) ((by simp only [hl, hr0, hr10, fresh_add, fresh_set, ne_eq, hn_b1, not_false_eq_true, and_self] : Fresh _ b1).2)), (by first | exact ⟨(takev_bad (.inr g10)).symm, rfl⟩ | rfl)⟩
    · simp (dsimp := false) (maxSteps := 4000000) only [hl, hr0, hr10, hn_b1, hr_b1, go_sem]
      refine AWp.loopo (ι := Nat) (fun i => i ≤ 9) (fun i => [(16, .int .i64 i), (15, .int .i64 9), (14, .slice (some ⟨b1, 1, none⟩) 9 10), (3, .bool (par l i)), (2, .int .u8 (val8 l i))])
        (fun i => H.add b1 (.cells (l.map Value.bool) 87 11)) (fun i => 9 - i) 0 (by omega) (FrLe.of_lks ?_) ?_ fun i hi Q again out => ?_
      · simp (dsimp := false) (maxSteps := 4000000) only [hl, hr0, hr10, hn_b1, hr_b1, go_sem]
        exact ⟨rfl, rfl⟩
      · rw [hl]; exact AH.le_refl _
      · simp (dsimp := false) (maxSteps := 4000000) only [hl, hr0, hr10, hn_b1, hr_b1, go_sem]
        refine ⟨fun h => ?_, fun h => ?_⟩
        · obtain ⟨x, hx⟩ := get_some (l := l) (i := i + 1) (by omega)
          have hr : (l.map Value.bool)[i + 1]? = some (.bool x) := by rw [List.getElem?_map, hx]; rfl
          have e1 := i64_succ (i := i) (by omega)
          simp (dsimp := false) (maxSteps := 4000000) only [h, e1, Nat.add_comm 1 i, hr, hl, hr0, hr10, hn_b1, hr_b1, go_sem]
          have gx := getD_of hx
          cases x
          · simp (dsimp := false) (maxSteps := 4000000) only [hl, hr0, hr10, hn_b1, hr_b1, go_sem]
            exact again (i + 1) _ _ (by omega) (FrLe.of_lks (by rw [← keep_eq gx, par_clear gx]; simp (dsimp := false) (maxSteps := 4000000) only [e1, hl, hr0, hr10, hn_b1, hr_b1, go_sem])) (AH.le_refl _) (by omega)
          · have e2 : ibits .or .u8 (val8 l i) (IntKind.u8.wrap (1 * 2 ^ min i 8)) = val8 l (i + 1) := or_eq (l := l) (i := i) (by omega) gx
            simp (dsimp := false) (maxSteps := 4000000) only [e2, e1, hl, hr0, hr10, hn_b1, hr_b1, go_sem]
            exact again (i + 1) _ _ (by omega) (FrLe.of_lks (by rw [par_set gx]; simp (dsimp := false) (maxSteps := 4000000) only [hl, hr0, hr10, hn_b1, hr_b1, go_sem])) (AH.le_refl _) (by omega)
        · obtain rfl : i = 9 := by omega
          simp (dsimp := false) (maxSteps := 4000000) only [hl, hr0, hr10, hn_b1, hr_b1, go_sem]
          refine out _ _ _ (by simp) ?_
          simp (dsimp := false) (maxSteps := 4000000) only [hl, hr0, hr10, hn_b1, hr_b1, go_sem]
          exact ⟨H, (AH.le_add (AH.le_refl _) ((by simp only [hl, hr0, hr10, fresh_add, fresh_set, ne_eq, hn_b1, not_false_eq_true, and_self] : Fresh _ b1).2)), (by first | exact ⟨(takev_ok g0 g10).symm, rfl⟩ | rfl)⟩
  · simp (dsimp := false) (maxSteps := 4000000) only [hl, hr0, hr10, hn_b1, hr_b1, go_sem]
    exact ⟨H, (AH.le_add (AH.le_refl _) ((by simp only [hl, hr0, hr10, fresh_add, fresh_set, ne_eq, hn_b1, not_false_eq_true, and_self] : Fresh _ b1).2)), (by first | exact ⟨(takev_bad (.inl g0)).symm, rfl⟩ | rfl)⟩

end Go.Proofs.YtamlipffhimfmaaGreatDoor.Uart

/- the reference's Take: what it comes to. -/
namespace Go.Proofs.YtamlipffhimfmaaGreatDoor.Uart
set_option linter.unusedSimpArgs false
set_option linter.unusedVariables false
open Go Go.AX Go.Proofs Ty
set_option maxHeartbeats 2000000
set_option maxRecDepth 10000

theorem pow_le : ∀ i : Fin 9, (2 : Int) ^ i.val ≤ 256 := by decide

theorem RefTake_c (l : List Bool) (hl : l.length = 11) (H : AH) : ACalls Tryz.prog 67 #[.agg (l.map Value.bool).toArray] H (fun v H' => v = takev l ∧ H = H') := by
  obtain ⟨x0, hx0⟩ := get_some (l := l) (i := 0) (by omega)
  obtain ⟨x9, hx9⟩ := get_some (l := l) (i := 9) (by omega)
  obtain ⟨x10, hx10⟩ := get_some (l := l) (i := 10) (by omega)
  have hr0 : (l.map Value.bool)[0]? = some (.bool x0) := by rw [List.getElem?_map, hx0]; rfl
  have hr9 : (l.map Value.bool)[9]? = some (.bool x9) := by rw [List.getElem?_map, hx9]; rfl
  have hr10 : (l.map Value.bool)[10]? = some (.bool x10) := by rw [List.getElem?_map, hx10]; rfl
  have g0 := getD_of hx0
  have g9 := getD_of hx9
  have g10 := getD_of hx10
  refine ACalls.enter2 Tryz.func67 rfl Tryz.ntmps67 Tryz.results67 (by simp) ?_; simp (dsimp := false) (maxSteps := 4000000) only [go_sem]
  
  refine AllB.mk fun b1 h_b1 => ?_; have hn_b1 := h_b1; (try simp only [fresh_add, fresh_set, ne_eq] at hn_b1); have hr_b1 := hn_b1; (try simp only [@eq_comm Nat b1] at hr_b1); simp (dsimp := false) (maxSteps := 4000000) only [hl, hr0, hr9, hr10, hn_b1, hr_b1, go_sem]
  cases x0
  · cases x10
    · simp (dsimp := false) (maxSteps := 4000000) only [hl, hr0, hr9, hr10, hn_b1, hr_b1, go_sem]
      exact ⟨H, (AH.le_add (AH.le_refl _) ((by simp only [hl, hr0, hr9, hr10, fresh_add, fresh_set, ne_eq, hn_b1, not_false_eq_true, and_self] : Fresh _ b1).2)), (by first | exact ⟨(takev_bad (.inr g10)).symm, rfl⟩ | rfl)⟩
    · simp (dsimp := false) (maxSteps := 4000000) only [hl, hr0, hr9, hr10, hn_b1, hr_b1, go_sem]
      refine AWp.loopo (ι := Nat) (fun i => i ≤ 8) (fun i => [(8, .int .i64 ((i + 1 : Nat) : Int)), (5, .int .i64 (valu l i)), (6, .int .i64 (2 ^ i)), (7, .int .i64 (cnt l i)), (1, .pointer (some ⟨b1, 0, none⟩))])
        (fun i => H.add b1 (.cells (l.map Value.bool) 87 11)) (fun i => 8 - i) 0 (by omega) (FrLe.of_lks ?_) ?_ fun i hi Q again out => ?_
      · simp (dsimp := false) (maxSteps := 4000000) only [hl, hr0, hr9, hr10, hn_b1, hr_b1, go_sem]
        all_goals (first | rfl | exact ⟨rfl, rfl⟩ | exact ⟨rfl, rfl, rfl⟩)
      · rw [hl]; exact AH.le_refl _
      · simp (dsimp := false) (maxSteps := 4000000) only [hl, hr0, hr9, hr10, hn_b1, hr_b1, go_sem]
        refine ⟨fun h => ?_, fun h => ?_⟩
        · obtain ⟨x, hx⟩ := get_some (l := l) (i := i + 1) (by omega)
          have hr : (l.map Value.bool)[i + 1]? = some (.bool x) := by rw [List.getElem?_map, hx]; rfl
          have gx := getD_of hx
          have hp := pow_le ⟨i, by omega⟩
          have hp0 : (0 : Int) < 2 ^ i := Int.pow_pos (by decide)
          have hv := valu_lt l i
          have hv0 := valu_nonneg l i
          have hc := cnt_le l i
          have hc0 := cnt_nonneg l i
          simp only at hp
          have e1 := i64_succ (i := i + 1) (by omega)
          have e2 : IntKind.i64.wrap (2 * 2 ^ i) = 2 ^ (i + 1) := by rw [i64_eq (by omega) (by omega), Int.pow_succ, Int.mul_comm]
          have hge : (0 : Int) ≤ ((i + 1 : Nat) : Int) := by omega
          have hlt : ((i + 1 : Nat) : Int) < 11 := by omega
          cases x
          · simp (dsimp := false) (maxSteps := 4000000) only [hge, hlt, hr, e1, e2, hl, hr0, hr9, hr10, hn_b1, hr_b1, go_sem]
            exact again (i + 1) _ _ (by omega) (FrLe.of_lks (by rw [show valu l (i + 1) = valu l i from (by simp only [valu, gx]; simp), show cnt l (i + 1) = cnt l i from (by simp only [cnt, gx]; simp)]; simp (dsimp := false) (maxSteps := 4000000) only [hl, hr0, hr9, hr10, hn_b1, hr_b1, go_sem])) (AH.le_refl _) (by omega)
          · have e3 : IntKind.i64.wrap (valu l i + 2 ^ i) = valu l (i + 1) := by rw [i64_eq (by omega) (by omega)]; simp only [valu, gx, if_true]
            have e4 : IntKind.i64.wrap (cnt l i + 1) = cnt l (i + 1) := by rw [i64_eq (by omega) (by omega)]; simp only [cnt, gx, if_true]
            simp (dsimp := false) (maxSteps := 4000000) only [hge, hlt, hr, e1, e2, e3, e4, hl, hr0, hr9, hr10, hn_b1, hr_b1, go_sem]
            exact again (i + 1) _ _ (by omega) (FrLe.of_lks (by simp (dsimp := false) (maxSteps := 4000000) only [hl, hr0, hr9, hr10, hn_b1, hr_b1, go_sem])) (AH.le_refl _) (by omega)
        · obtain rfl : i = 8 := by omega
          simp (dsimp := false) (maxSteps := 4000000) only [hl, hr0, hr9, hr10, hn_b1, hr_b1, go_sem]
          refine out _ _ _ (by simp) ?_
          have hv := valu_lt l 8
          have hv0 := valu_nonneg l 8
          have hc := cnt_le l 8
          have hc0 := cnt_nonneg l 8
          have e5 : IntKind.u8.wrap (valu l 8) = valu l 8 := u8_eq hv0 (by simpa using hv)
          cases x9
          · have e6 : (cnt l 8).tmod 2 = cnt l 9 % 2 := by rw [Int.tmod_eq_emod_of_nonneg hc0]; simp only [cnt, g9]; simp
            simp (dsimp := false) (maxSteps := 4000000) only [e5, e6, hl, hr0, hr9, hr10, hn_b1, hr_b1, go_sem]
            exact ⟨H, (AH.le_add (AH.le_refl _) ((by simp only [hl, hr0, hr9, hr10, fresh_add, fresh_set, ne_eq, hn_b1, not_false_eq_true, and_self] : Fresh _ b1).2)), (by first | exact ⟨(takev_ok g0 g10).symm, rfl⟩ | rfl)⟩
          · have e6 : IntKind.i64.wrap (cnt l 8 + 1) = cnt l 9 := by rw [i64_eq (by omega) (by omega)]; simp only [cnt, g9, if_true]
            have e7 : (cnt l 9).tmod 2 = cnt l 9 % 2 := Int.tmod_eq_emod_of_nonneg (cnt_nonneg l 9)
            simp (dsimp := false) (maxSteps := 4000000) only [e5, e6, e7, hl, hr0, hr9, hr10, hn_b1, hr_b1, go_sem]
            exact ⟨H, (AH.le_add (AH.le_refl _) ((by simp only [hl, hr0, hr9, hr10, fresh_add, fresh_set, ne_eq, hn_b1, not_false_eq_true, and_self] : Fresh _ b1).2)), (by first | exact ⟨(takev_ok g0 g10).symm, rfl⟩ | rfl)⟩
  · simp (dsimp := false) (maxSteps := 4000000) only [hl, hr0, hr9, hr10, hn_b1, hr_b1, go_sem]
    exact ⟨H, (AH.le_add (AH.le_refl _) ((by simp only [hl, hr0, hr9, hr10, fresh_add, fresh_set, ne_eq, hn_b1, not_false_eq_true, and_self] : Fresh _ b1).2)), (by first | exact ⟨(takev_bad (.inl g0)).symm, rfl⟩ | rfl)⟩

end Go.Proofs.YtamlipffhimfmaaGreatDoor.Uart
