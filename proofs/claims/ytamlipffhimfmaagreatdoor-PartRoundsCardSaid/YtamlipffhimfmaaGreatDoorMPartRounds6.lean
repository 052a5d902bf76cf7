/- Texts of mine, one behind another. -/
import Derived.Test.YtamlipffhimfmaaGreatDoorMPartRounds5
/- the reference's store: Add. -/
namespace Go.Proofs.YtamlipffhimfmaaGreatDoor.Ifs
set_option linter.unusedSimpArgs false
set_option linter.unusedVariables false
open Go Go.AX Go.Proofs Ty Go.Proofs.YtamlipffhimfmaaGreatDoor.File
set_option maxHeartbeats 4000000
set_option maxRecDepth 10000

theorem SlcIn.drop {H : AH} {sz b o cap : Nat} {R : List (List Value)} (h : SlcIn H sz (some ⟨b, o, none⟩) cap R) (k : Nat) (hk : k ≤ R.length) : SlcIn H sz (some ⟨b, if cap = k then o else o + k * sz, none⟩) (cap - k) (R.drop k) := by
  have hle := h.le
  have hbig := h.big
  by_cases hc : cap = k
  · have hR : R.drop k = [] := List.drop_eq_nil_of_le (by omega)
    rw [hR]; exact SlcIn.empty
  · rw [if_neg hc]
    refine ⟨by rw [List.length_drop]; omega, by rw [List.length_drop]; omega, fun i hi => ⟨b, o + k * sz, rfl⟩, fun b' o' hb i j r' c h1 h2 => ?_, fun b' o' hb i r' h1 => ?_⟩
    · cases hb
      have := h.rd b o rfl (k + i) j r' c (by rw [List.getElem?_drop] at h1; exact h1) h2
      rw [show o + ((k + i) * sz + j) = o + k * sz + (i * sz + j) from by rw [Nat.add_mul]; omega] at this
      exact this
    · cases hb
      have := h.row b o rfl (k + i) r' (by rw [List.getElem?_drop] at h1; exact h1)
      rw [show o + (k + i) * sz = o + k * sz + i * sz from by rw [Nat.add_mul]; omega] at this
      exact this
theorem ins_at {n : Int} {f : Fl} : ∀ {X : List Nf} {k : Nat}, (∀ x ∈ X.take k, x.1 < n) → (∀ x, X[k]? = some x → ¬ x.1 < n) → ins n f X = X.take k ++ (n, f) :: X.drop k
  | [], k, _, _ => by simp [ins]
  | x :: l, 0, _, h => by
    rw [ins, if_neg (h x rfl)]; rfl
  | x :: l, k + 1, h1, h2 => by
    rw [ins, if_pos (h1 x (by simp))]
    rw [ins_at (k := k) (fun y hy => h1 y (by simp [hy])) (fun y hy => h2 y (by simpa using hy))]
    rfl
def RefK (H : AH) (rd : Nat → Prop) : Prop := ∀ x, rd x → ¬ Fresh H x
theorem RefK.keep {H H' : AH} {rd ex : Nat → Prop} (h : RefK H rd) (hK : Keep H H' ex) (hd : ∀ x, rd x → ¬ ex x) : RefK H' rd := fun x hx hf => h x hx (hK.fresh hf (hd x hx))
def RefS (H : AH) (b : Nat) (Z : List RF) (den : Int) (rd : Nat → Prop) : Prop := ∃ base cap, H.find b = some (.cells [.slice base Z.length cap, .int .i64 den] 49 2) ∧ NmIn H base cap Z rd ∧ ¬ rd b ∧ ((base = none ∧ Z = [] ∧ cap = 0) ∨ ∃ q o, base = some ⟨q, o, none⟩) ∧ RefK H rd
theorem RefS.at {H : AH} {b : Nat} {Z : List RF} {den : Int} {rd : Nat → Prop} (h : RefS H b Z den rd) : RefAt H b Z den rd := by
  obtain ⟨base, cap, h1, h2, h3, _⟩ := h
  exact ⟨base, cap, h1, h2, h3⟩
theorem RefS.keep {H H' : AH} {b : Nat} {Z : List RF} {den : Int} {rd ex : Nat → Prop} (h : RefS H b Z den rd) (hK : Keep H H' ex) (hd : ∀ x, rd x → ¬ ex x) (hb : ¬ ex b) : RefS H' b Z den rd := by
  obtain ⟨base, cap, h1, h2, h3, h4, h5⟩ := h
  exact ⟨base, cap, hK.find hb h1, h2.keep hK hd, h3, h4, h5.keep hK hd⟩
theorem rowsN (Z : List RF) : ∀ r ∈ Z.map encN, r.length = 3 := fun r hr => by
  obtain ⟨z, _, rfl⟩ := List.mem_map.1 hr
  rfl
theorem scalN (Z : List RF) : ((Z.map encN).flatten).all scal = true := by
  rw [List.all_flatten, List.all_map, List.all_eq_true]
  intro r _; rfl
theorem RefAdd_c {H : AH} {b : Nat} {Z : List RF} {den : Int} {rd : Nat → Prop} (h : RefS H b Z den rd) (hX : OkX (Z.map RF.nf)) (hS : Srt (Z.map RF.nf)) (n p : Int) (R : List Rc) (base : Option Addr) (cap : Nat) (hs : SlcIn H 4 base cap (R.map enc)) (hb : R = [] ∨ ∀ a, base = some a → a.block ≠ b ∧ ¬ Fresh H a.block) :
    ACalls Tryz.prog 73 #[.pointer (some ⟨b, 0, none⟩), .int .i64 n, fv p base R.length cap] H (fun u H' => ∃ Z' rd', u = .int .i64 (addE (Z.map RF.nf) n (p, R)) ∧ Z'.map RF.nf = (if addE (Z.map RF.nf) n (p, R) = 0 then ins n (p, R) (Z.map RF.nf) else Z.map RF.nf) ∧ RefS H' b Z' den rd' ∧ Keep H H' (· = b) ∧ ∀ x, rd' x → rd x ∨ Fresh H x ∨ (R ≠ [] ∧ ∃ a, base = some a ∧ x = a.block)) := by
  have hat := fun H1 (h1 : RefAt H1 b Z den rd) => at_c h1 n
  have hgood := fun H1 (h1 : SlcIn H1 4 base cap (R.map enc)) => File.RefGood_c p R base cap H1 h1
  have hZl : Z.length ≤ 64 := by have := hX.len; simpa using this
  have bad : ∀ {e : Int} {T : AH}, addE (Z.map RF.nf) n (p, R) = e → e ≠ 0 → H.le T → ∃ H', H'.le T ∧ ∃ Z' rd', Value.int .i64 e = .int .i64 (addE (Z.map RF.nf) n (p, R)) ∧ Z'.map RF.nf = (if addE (Z.map RF.nf) n (p, R) = 0 then ins n (p, R) (Z.map RF.nf) else Z.map RF.nf) ∧ RefS H' b Z' den rd' ∧ Keep H H' (· = b) ∧ ∀ x, rd' x → rd x ∨ Fresh H x ∨ (R ≠ [] ∧ ∃ a, base = some a ∧ x = a.block) := fun {e T} he h0 hl =>
    ⟨H, hl, Z, rd, by rw [he], by rw [he, if_neg h0], h, Keep.refl, fun x h => .inl h⟩
  unfold fv at hgood ⊢
  refine ACalls.enter2 Tryz.func73 rfl Tryz.ntmps73 Tryz.results73 (by simp) ?_; simp (dsimp := false) (maxSteps := 4000000) only [go_sem]
  refine AllB.mk fun b5 h_b5 => ?_; have hn_b5 := h_b5; (try simp only [fresh_add, fresh_set, ne_eq] at hn_b5); have hr_b5 := hn_b5; (try simp only [@eq_comm Nat b5] at hr_b5); simp (dsimp := false) (maxSteps := 4000000) only [hn_b5, hr_b5, go_sem]
  by_cases a1 : n < 0
  · simp (dsimp := false) (maxSteps := 4000000) only [a1, hn_b5, hr_b5, go_sem]
    exact bad (by simp [addE, a1]) (by decide) (AH.le_add (AH.le_refl _) ((by simp only [fresh_add, fresh_set, ne_eq, hn_b5, not_false_eq_true, and_self] : Fresh _ b5).2))
  by_cases a2 : 63 < n
  · simp (dsimp := false) (maxSteps := 4000000) only [a1, a2, hn_b5, hr_b5, go_sem]
    exact bad (by have : 64 ≤ n := by omega
                  simp [addE, this]) (by decide) (AH.le_add (AH.le_refl _) ((by simp only [fresh_add, fresh_set, ne_eq, hn_b5, not_false_eq_true, and_self] : Fresh _ b5).2))
  have a3 : ¬ 64 ≤ n := by omega
  simp (dsimp := false) (maxSteps := 4000000) only [a1, a2, hn_b5, hr_b5, go_sem]
  refine (hgood _ (hs.add (by simp only [fresh_add, ne_eq, hn_b5, not_false_eq_true, and_self] : Fresh _ b5))).mono ?_; rintro _ _ ⟨rfl, rfl⟩
  cases hg : goodF p R with
  | false =>
    simp (dsimp := false) (maxSteps := 4000000) only [hn_b5, hr_b5, go_sem]
    exact bad (by simp [addE, a1, a3, hg]) (by decide) (AH.le_add (AH.le_refl _) ((by simp only [fresh_add, fresh_set, ne_eq, hn_b5, not_false_eq_true, and_self] : Fresh _ b5).2))
  | true =>
    
    simp (dsimp := false) (maxSteps := 4000000) only [hn_b5, hr_b5, go_sem]
    refine (hat _ (h.at.keep (Keep.add h_b5 (ex := fun _ => False)) (fun _ _ h => h) fun h => h)).mono ?_
    rintro _ _ ⟨r, rfl, ho, rfl⟩
    rcases ho with ⟨rfl, hl⟩ | ⟨i, z, rfl, hz, hn, hl⟩
    case' inr =>
      have hi0 : (0 : Int) ≤ (i : Int) := by omega
      simp (dsimp := false) (maxSteps := 4000000) only [hi0, hn_b5, hr_b5, go_sem]
      exact bad (by simp [addE, a1, a3, hg, hl]) (by decide) (AH.le_add (AH.le_refl _) ((by simp only [fresh_add, fresh_set, ne_eq, hn_b5, not_false_eq_true, and_self] : Fresh _ b5).2))
    obtain ⟨zb, zc, ht, hZ, hnb, hzb, hk⟩ := h
    have he : addE (Z.map RF.nf) n (p, R) = 0 := by simp [addE, a1, a3, hg, hl]
    rw [he]
    simp (dsimp := false) (maxSteps := 4000000) only [hn_b5, hr_b5, go_sem]
    refine AllB.mk fun bl h_bl => ?_
    have hn_bl : ¬ bl = b5 ∧ Fresh H bl := by simpa only [fresh_add, ne_eq] using h_bl
    simp (dsimp := false) (maxSteps := 4000000) only [hn_b5, hr_b5, go_sem]
    obtain ⟨H1, hH1⟩ : ∃ H1, H.add b5 (.cells [.int .i64 p, .slice base R.length cap] 72 2) = H1 := ⟨_, rfl⟩
    have k1 : Keep H H1 fun _ => False := hH1 ▸ Keep.add h_b5
    have f5 : H1.find b5 = some (.cells [.int .i64 p, .slice base R.length cap] 72 2) := by rw [← hH1, find_add_self]
    rw [hH1] at h_bl ⊢
    have ht1 := k1.find (fun h => h) ht
    have hZ1 := hZ.keep k1 fun _ _ h => h
    have hs1 := hs.keep k1 fun _ _ h => h
    refine AWp.loopr (ι := Nat × Option Addr × Nat) (fun s A => s.1 ≤ Z.length ∧ (∀ x ∈ (Z.map RF.nf).take s.1, x.1 < n) ∧ OwnS H1 A 74 3 s.2.1 s.2.2 ((Z.take s.1).map encN) ∧ Keep H1 A fun _ => False)
      (fun s => [(8, .int .i64 s.1), (7, .slice s.2.1 s.1 s.2.2), (0, .pointer (some ⟨b, 0, none⟩)), (1, .int .i64 n), (5, .pointer (some ⟨b5, 0, none⟩))]) (fun s => Z.length - s.1) (0, some ⟨bl, 0, none⟩, 0) (H1.add bl (.cells [] 74 0))
      ⟨by simp, by simp, OwnS.new h_bl (AH.le_refl _) rfl rfl rfl (by simp) (by simp), Keep.add h_bl⟩ (FrLe.of_lks ?_) (AH.le_refl _) fun s A hV Q again out => ?_
    · simp (dsimp := false) (maxSteps := 4000000) only [hn_b5, hr_b5, go_sem]
    clear hn_bl h_bl
    
    obtain ⟨i, ob, oc⟩ := s
    obtain ⟨hi, hlt, hO, hK⟩ := hV
    dsimp only at hi hlt hO hK ⊢
    have htA := hK.find (fun h => h) ht1
    have hZA := hZ1.keep hK fun _ _ h => h
    have r0 : A.rd ⟨b, 0, none⟩ = some (.slice zb Z.length zc) := by rw [rd_find htA]; rfl
    have hi0 : (0 : Int) ≤ (i : Int) := by omega
    have ee := i64_succ (i := i) (by omega)
    have hti : (Z.take i).length = i := by rw [List.length_take]; omega
    have hro : ((i : Int) < Z.length ∧ ∃ z, Z[i]? = some z ∧ ∃ b_ o, zb = some ⟨b_, o, none⟩ ∧ A.row b_ (o + i * 3) 3 = some (encN z) ∧ A.rd ⟨b_, o + i * 3, none⟩ = some (.int .i64 z.n)) ∨ ¬ (i : Int) < Z.length := by
      by_cases hin : (i : Int) < Z.length
      · obtain ⟨z, hz⟩ := get_some (l := Z) (i := i) (by omega)
        obtain ⟨b_, o, he, hrow, hrd⟩ := hZA.out.get (Go.AX.map_get (f := encN) hz)
        exact .inl ⟨hin, z, hz, b_, o, he, hrow, hrd 0 _ rfl⟩
      · exact .inr hin
    rcases hro with ⟨hin, z, hz, b_, o, he, hrow, rz⟩ | hin
    case' inl => by_cases hzn : z.n < n
    case' pos =>
      subst he
      
      simp (dsimp := false) (maxSteps := 4000000) only [r0, hin, rz, hi0, hzn, go_sem]
      unfold encN at hrow
      simp (dsimp := false) (maxSteps := 4000000) only [r0, hin, hi0, hrow, go_sem]
      refine AllB.mk fun bx h_bx => ?_; have hn_bx := h_bx; (try simp only [fresh_add, fresh_set, ne_eq] at hn_bx); have hr_bx := hn_bx; (try simp only [@eq_comm Nat bx] at hr_bx); simp (dsimp := false) (maxSteps := 4000000) only [hn_bx, hr_bx, go_sem]
      have hO2 : OwnS H1 (A.add bx (.cells (encN z) 74 3)) 74 3 ob oc ((Z.take i).map encN) := hO.added h_bx
      have hK2 : Keep H1 (A.add bx (.cells (encN z) 74 3)) fun _ => False := hK.nw h_bx
      refine APD.growW (x := .slice (some ⟨bx, 0, none⟩) 1 1) (R' := [encN z]) (m := 1) hO2 hK2.all se_22 rfl (by decide) (by rw [Tryz.underlying22]; rfl) (by rw [List.length_map, hti]) rfl rfl (by rw [srow_some, row_add_self]; rfl) (by simp [encN]) (by simp [encN, scal]) (by omega) fun base' cap' A' hO' hK' hN' => ?_
      refine ⟨A', AH.le_refl _, ?_⟩
      simp (dsimp := false) (maxSteps := 4000000) only [ee, hn_bx, hr_bx, go_sem]
      refine again (i + 1, base', cap') _ A' _ ⟨by dsimp only; omega, fun x hx => ?_, ?_, hK2.ow hK' fun b ⟨a, ha, e⟩ => e ▸ hO.fresh a ha⟩ (FrLe.of_lks (by simp (dsimp := false) (maxSteps := 4000000) only [hn_bx, hr_bx, go_sem])) (AH.le_refl _) (by dsimp only; omega)
      · dsimp only at hx
        rw [List.take_add_one, List.mem_append] at hx
        rcases hx with hx | hx
        · exact hlt x hx
        · rw [List.getElem?_map, hz] at hx
          simp at hx; subst hx; exact hzn
      · dsimp only
        rw [List.take_add_one, List.map_append, hz]
        exact hO'
      
    case' neg =>
      have hge : ∀ x, (Z.map RF.nf)[i]? = some x → ¬ x.1 < n := fun x hx => by
        rw [List.getElem?_map, hz] at hx; cases hx; exact hzn
      
      simp (dsimp := false) (maxSteps := 4000000) only [r0, hin, he, rz, hi0, hzn, go_sem]
      refine out _ _ _ (by simp) ?_
      clear hz hrow rz hzn he
      
    case' inr =>
      have hge : ∀ x, (Z.map RF.nf)[i]? = some x → ¬ x.1 < n := fun x hx => by
        rw [List.getElem?_eq_none (by rw [List.length_map]; omega)] at hx; cases hx
      
      simp (dsimp := false) (maxSteps := 4000000) only [r0, hin, go_sem]
      refine out _ _ _ (by simp) ?_
      
    all_goals
      clear out again
      have hins := ins_at (f := (p, R)) hlt hge
      have w5 : A.row b5 0 2 = some [.int .i64 p, .slice base R.length cap] := row_find (hK.find (fun h => h) f5) (by simp)
      
      simp (dsimp := false) (maxSteps := 4000000) only [go_sem]
      have w51 : H1.row b5 0 2 = some [.int .i64 p, .slice base R.length cap] := row_find f5 (by simp)
      refine AWp.gen [.pu, .pu, .pu, .rd, .pu, .al, .ch, .pu, .pu, .pu, .rd, .pu, .pu, .ch, .pu, .pu, .ch] [0, 0, 0, 0, 12, 28, 62, 0, 128, 384, 896, 0, 3968, 8190, 16383, 32767, 65535] 7 (H1) mixed (by kernel_rfl) (hK.all) ?_
      simp (dsimp := false) (maxSteps := 4000000) only [w5, w51, hK.all, go_sem]
      refine AllB.mk fun bx h_bx => ?_; have hn_bx := h_bx; (try simp only [fresh_add, fresh_set, ne_eq] at hn_bx); have hr_bx := hn_bx; (try simp only [@eq_comm Nat bx] at hr_bx); simp (dsimp := false) (maxSteps := 4000000) only [hn_bx, hr_bx, go_sem]
      have hO2 : OwnS H1 (A.add bx (.cells (encN ⟨n, p, base, cap, R⟩) 74 3)) 74 3 ob oc ((Z.take i).map encN) := hO.added h_bx
      have hK2 : Keep H1 (A.add bx (.cells (encN ⟨n, p, base, cap, R⟩) 74 3)) fun _ => False := hK.nw h_bx
      refine APD.growW (x := .slice (some ⟨bx, 0, none⟩) 1 1) (R' := [encN ⟨n, p, base, cap, R⟩]) (m := 1) hO2 hK2.all se_22 rfl (by decide) (by rw [Tryz.underlying22]; rfl) (by rw [List.length_map, hti]) rfl rfl (by rw [srow_some, row_add_self]; rfl) (by simp [encN]) (by simp [encN, scal]) (by omega) fun base2 cap2 A2 hO3 hK3 hN3 => ?_
      refine ⟨A2, AH.le_refl _, ?_⟩
      have k2 : Keep H1 A2 fun _ => False := hK2.ow hK3 fun b ⟨a, ha, e⟩ => e ▸ hO.fresh a ha
      have r2 : H1.rd ⟨b, 0, none⟩ = some (.slice zb Z.length zc) := by rw [rd_find ht1]; rfl
      have hi' : (i : Int) ≤ Z.length := by omega
      have hzc : Z.length ≤ zc := by have := hZ.out.le; simpa using this
      have hzc' : (Z.length : Int) ≤ zc := by omega
      
      have hR0 : R ≠ [] := fun e => by subst e; simp [goodF] at hg
      have hb' := hb.resolve_left hR0
      have hbk : ∀ {x}, Fresh H1 x → x ≠ b := fun hf e => hf.ne_find ht1 e
      have fin : ∀ base3 cap3 (A3 : AH), OwnS H1 A3 74 3 base3 cap3 (((Z.take i).map encN ++ [encN ⟨n, p, base, cap, R⟩]) ++ (Z.map encN).drop i) → (Keep H1 A3 fun _ => False) → ∃ H', H'.le (A3.set b (.cells [.slice base3 (Z.length + 1) cap3, .int .i64 den] 49 2)) ∧ ∃ Z' rd', Z'.map RF.nf = ins n (p, R) (Z.map RF.nf) ∧ RefS H' b Z' den rd' ∧ Keep H H' (· = b) ∧ ∀ x, rd' x → rd x ∨ Fresh H x ∨ (R ≠ [] ∧ ∃ a, base = some a ∧ x = a.block) := fun base3 cap3 A3 hO4 k3 => by
        have hZe : (Z.take i ++ (⟨n, p, base, cap, R⟩ : RF) :: Z.drop i).map encN = ((Z.take i).map encN ++ [encN ⟨n, p, base, cap, R⟩]) ++ (Z.map encN).drop i := by simp [List.map_drop]
        have hZl' : (Z.take i ++ (⟨n, p, base, cap, R⟩ : RF) :: Z.drop i).length = Z.length + 1 := by simp; omega
        rw [← hZe] at hO4
        have hne3 : ∀ a, base3 = some a → a.block ≠ b := fun a ha => hbk (hO4.fresh a ha)
        have hset : Keep A3 (A3.set b (.cells [.slice base3 (Z.length + 1) cap3, .int .i64 den] 49 2)) (· = b) := Keep.set
        have hKH : Keep H (A3.set b (.cells [.slice base3 (Z.length + 1) cap3, .int .i64 den] 49 2)) (· = b) := (((k1.trans k3).mono fun _ h => h.elim)).trans hset
        have hN := (hZ1.keep k3 fun _ _ h => h).keep hset fun x hx e => hnb (e ▸ hx)
        have hsz' := (hs1.keep k3 fun _ _ h => h).keep hset fun a ha => (hb' a ha).1
        refine ⟨_, AH.le_refl _, Z.take i ++ ⟨n, p, base, cap, R⟩ :: Z.drop i, fun x => rd x ∨ (∃ a, base3 = some a ∧ x = a.block) ∨ ∃ a, base = some a ∧ x = a.block, ?_, ⟨base3, cap3, ?_, ⟨?_, fun z hz => ?_, .inr fun a ha => .inr (.inl ⟨a, ha, rfl⟩), fun z hz => ?_⟩, ?_, ?_, ?_⟩, hKH, ?_⟩
        · rw [hins]; simp [RF.nf, List.map_take, List.map_drop]
        · rw [find_set, if_pos rfl, hZl']
        · exact hO4.slc.keep hset hne3
        · rcases List.mem_append.1 hz with hz | hz
          · exact hN.inn z (List.mem_of_mem_take hz)
          · rcases List.mem_cons.1 hz with rfl | hz
            · exact hsz'
            · exact hN.inn z (List.mem_of_mem_drop hz)
        · rcases List.mem_append.1 hz with hz | hz
          · exact (hZ.r2 z (List.mem_of_mem_take hz)).imp id fun h a ha => .inl (h a ha)
          · rcases List.mem_cons.1 hz with rfl | hz
            · exact .inr fun a ha => .inr (.inr ⟨a, ha, rfl⟩)
            · exact (hZ.r2 z (List.mem_of_mem_drop hz)).imp id fun h a ha => .inl (h a ha)
        · rintro (h | ⟨a, ha, e⟩ | ⟨a, ha, e⟩)
          · exact hnb h
          · exact hne3 a ha e.symm
          · exact (hb' a ha).1 e.symm
        · rcases hO4.at_ with ⟨_, h, _⟩ | ⟨b', bs, h, _⟩
          · simp at h
          · exact .inr ⟨b', 0, h⟩
        · rintro x (h | ⟨a, ha, e⟩ | ⟨a, ha, e⟩) hf
          · exact hk x h (hKH.fresh hf fun e => hnb (e ▸ h))
          · subst e
            rcases hO4.at_ with ⟨h, _⟩ | ⟨b', bs, h, hfd, _⟩
            · rw [ha] at h; cases h
            · rw [ha] at h; cases h
              have := hf.2
              rw [find_set, if_neg (hne3 _ ha), hfd] at this; cases this
          · subst e
            exact (hb' a ha).2 (hKH.fresh hf (hb' a ha).1)
        · rintro x (h | ⟨a, ha, e⟩ | ⟨a, ha, e⟩)
          · exact .inl h
          · subst e; exact .inr (.inl (k1.fr (hO4.fresh a ha)))
          · exact .inr (.inr ⟨hR0, a, ha, e⟩)
      rcases hzb with ⟨rfl, rfl, rfl⟩ | ⟨q, o, rfl⟩
      · obtain rfl : i = 0 := by simpa using hi
        simp (dsimp := false) (maxSteps := 4000000) only [r2, k2.all, go_sem]
        refine APD.growS (m := 0) (R' := ([] : List RF).map encN) hO3 k2.all se_22 rfl (by decide) (by decide) (by rw [Tryz.underlying22]; rfl) (by simp) rfl SlcIn.empty (rowsN []) (scalN []) (by omega) fun base3 cap3 A3 hO4 hK4 hN4 => ?_
        refine ⟨A3, AH.le_refl _, ?_⟩
        have k3 : Keep H1 A3 fun _ => False := k2.ow hK4 fun b ⟨a, ha, e⟩ => e ▸ hO3.fresh a ha
        have hw : A3.wrs b 0 [.slice base3 1 cap3] = some (A3.set b (.cells [.slice base3 1 cap3, .int .i64 den] 49 2)) := by
          simp [AH.wrs, k3.find (fun h => h) ht1, lput, scal]
        simp (dsimp := false) (maxSteps := 4000000) only [hw, go_sem]
        exact fin base3 cap3 A3 hO4 k3
      · simp (dsimp := false) (maxSteps := 4000000) only [r2, k2.all, hi', hzc', hi0, go_sem]
        refine APD.growS (m := Z.length - i) (R' := (Z.map encN).drop i) hO3 k2.all se_22 rfl (by decide) (by decide) (by rw [Tryz.underlying22]; rfl) (by rw [List.length_append, List.length_map, hti]; rfl) (by simp) (SlcIn.drop (hZ1.keep k2 fun _ _ h => h).out i (by simpa using hi)) (fun r hr => rowsN Z r (List.mem_of_mem_drop hr)) (by rw [← List.map_drop]; exact scalN _) (by omega) fun base3 cap3 A3 hO4 hK4 hN4 => ?_
        refine ⟨A3, AH.le_refl _, ?_⟩
        have k3 : Keep H1 A3 fun _ => False := k2.ow hK4 fun b ⟨a, ha, e⟩ => e ▸ hO3.fresh a ha
        rw [show i + 1 + (Z.length - i) = Z.length + 1 from by omega]
        have hw : A3.wrs b 0 [.slice base3 (Z.length + 1) cap3] = some (A3.set b (.cells [.slice base3 (Z.length + 1) cap3, .int .i64 den] 49 2)) := by
          simp [AH.wrs, k3.find (fun h => h) ht1, lput, scal]
        simp (dsimp := false) (maxSteps := 4000000) only [hw, go_sem]
        exact fin base3 cap3 A3 hO4 k3
      
    
end Go.Proofs.YtamlipffhimfmaaGreatDoor.Ifs

/- the reference's store: Do. -/
namespace Go.Proofs.YtamlipffhimfmaaGreatDoor.Ifs
set_option linter.unusedSimpArgs false
set_option linter.unusedVariables false
open Go Go.AX Go.Proofs Ty Go.Proofs.YtamlipffhimfmaaGreatDoor.File
set_option maxHeartbeats 4000000
set_option maxRecDepth 10000

theorem set_rp {X : List Nf} {k : Nat} {x : Nf} {f : Fl} (hk : X[k]? = some x) (hd : Kd X) : X.set k (x.1, f) = rp x.1 f X := by
  apply List.ext_getElem?
  intro j
  rw [List.getElem?_set]
  simp only [rp, List.getElem?_map]
  have hlt := Go.AX.lt_of_get hk
  by_cases e : k = j
  · subst e
    rw [if_pos rfl, if_pos hlt, hk]
    simp
  · rw [if_neg e]
    cases hj : X[j]? with
    | none => rfl
    | some y =>
      have : y.1 ≠ x.1 := fun he => by
        have h1 : (X.map (·.1))[j]? = some x.1 := by simp [hj, he]
        have h2 : (X.map (·.1))[k]? = some x.1 := by simp [hk]
        exact e ((List.getElem?_inj (by simpa using hlt) hd).1 (h2.trans h1.symm))
      simp [this]
theorem RefDo_c {H : AH} {b : Nat} {Z : List RF} {den : Int} {rd : Nat → Prop} (h : RefS H b Z den rd) (hX : OkX (Z.map RF.nf)) (op fl rec : Int) (v : Rc) :
    ACalls Tryz.prog 46 #[.pointer (some ⟨b, 0, none⟩), .agg #[.int .i64 op, .int .i64 fl, .int .i64 rec], .agg (enc v).toArray] H (fun u H' => ∃ Z' rd', u = doV (Z.map RF.nf) op fl rec v ∧ Z'.map RF.nf = doX (Z.map RF.nf) op fl rec v ∧ RefS H' b Z' (doD (Z.map RF.nf) op fl rec den) rd' ∧ Keep H H' (· = b) ∧ ∀ x, rd' x → rd x ∨ Fresh H x) := by
  have hat := fun H1 (h1 : RefAt H1 b Z den rd) => at_c h1 fl
  have hZl : Z.length ≤ 64 := by have := hX.len; simpa using this
  have bad : ∀ {e den' : Int} {H' T : AH}, doE (Z.map RF.nf) op fl rec = e → e ≠ 0 → doD (Z.map RF.nf) op fl rec den = den' → RefS H' b Z den' rd → Keep H H' (· = b) → H'.le T → ∃ H', H'.le T ∧ ∃ Z' rd', Value.tuple #[.agg (enc zr).toArray, .int .i64 e] = doV (Z.map RF.nf) op fl rec v ∧ Z'.map RF.nf = doX (Z.map RF.nf) op fl rec v ∧ RefS H' b Z' (doD (Z.map RF.nf) op fl rec den) rd' ∧ Keep H H' (· = b) ∧ ∀ x, rd' x → rd x ∨ Fresh H x := fun {e den' H' T} he h0 hd hS hK hl =>
    ⟨H', hl, Z, rd, by rw [doV, doW, he, if_neg h0], by rw [doX, he, if_neg h0], hd ▸ hS, hK, fun x h => .inl h⟩
  refine ACalls.enter2 Tryz.func46 rfl Tryz.ntmps46 Tryz.results46 (by simp) ?_; simp (dsimp := false) (maxSteps := 4000000) only [enc_len, enc_scal, lput_enc, take_enc, go_sem]
  refine AllB.mk fun b4 h_b4 => ?_; have hn_b4 := h_b4; (try simp only [fresh_add, fresh_set, ne_eq] at hn_b4); have hr_b4 := hn_b4; (try simp only [@eq_comm Nat b4] at hr_b4); simp (dsimp := false) (maxSteps := 4000000) only [enc_len, enc_scal, lput_enc, take_enc, hn_b4, hr_b4, go_sem]
  refine AllB.mk fun b5 h_b5 => ?_; have hn_b5 := h_b5; (try simp only [fresh_add, fresh_set, ne_eq] at hn_b5); have hr_b5 := hn_b5; (try simp only [@eq_comm Nat b5] at hr_b5); simp (dsimp := false) (maxSteps := 4000000) only [enc_len, enc_scal, lput_enc, take_enc, hn_b4, hr_b4, hn_b5, hr_b5, go_sem]
  refine AllB.mk fun b6 h_b6 => ?_; have hn_b6 := h_b6; (try simp only [fresh_add, fresh_set, ne_eq] at hn_b6); have hr_b6 := hn_b6; (try simp only [@eq_comm Nat b6] at hr_b6); simp (dsimp := false) (maxSteps := 4000000) only [enc_len, enc_scal, lput_enc, take_enc, hn_b4, hr_b4, hn_b5, hr_b5, hn_b6, hr_b6, go_sem]
  refine (Go.Proofs.YtamlipffhimfmaaGreatDoor.RefGood_c op fl rec _).mono ?_; rintro _ _ ⟨rfl, rfl⟩
  cases hg : agood op fl rec with
  | false =>
    simp (dsimp := false) (maxSteps := 4000000) only [enc_len, enc_scal, lput_enc, take_enc, hn_b4, hr_b4, hn_b5, hr_b5, hn_b6, hr_b6, go_sem]
    exact bad (H' := H) (by simp [doE, hg]) (by decide) (by simp [doD, doE, hg]) h Keep.refl (AH.le_add (AH.le_add (AH.le_add (AH.le_refl _) ((by simp only [enc_len, enc_scal, lput_enc, take_enc, fresh_add, fresh_set, ne_eq, hn_b4, not_false_eq_true, and_self] : Fresh _ b4).2)) ((by simp only [enc_len, enc_scal, lput_enc, take_enc, fresh_add, fresh_set, ne_eq, hn_b5, not_false_eq_true, and_self] : Fresh _ b5).2)) ((by simp only [enc_len, enc_scal, lput_enc, take_enc, fresh_add, fresh_set, ne_eq, hn_b6, not_false_eq_true, and_self] : Fresh _ b6).2))
  | true =>
    
    simp (dsimp := false) (maxSteps := 4000000) only [enc_len, enc_scal, lput_enc, take_enc, hn_b4, hr_b4, hn_b5, hr_b5, hn_b6, hr_b6, go_sem]
    refine (hat _ (h.at.keep (((Keep.refl.nw h_b4).nw h_b5).nw h_b6) (fun _ _ h => h) fun h => h)).mono ?_
    rintro _ _ ⟨r, rfl, ho, rfl⟩
    rcases ho with ⟨rfl, hl⟩ | ⟨i, z, rfl, hz, hn, hl⟩
    · simp (dsimp := false) (maxSteps := 4000000) only [enc_len, enc_scal, lput_enc, take_enc, hn_b4, hr_b4, hn_b5, hr_b5, hn_b6, hr_b6, go_sem]
      exact bad (H' := H) (by simp [doE, hg, hl]) (by decide) (by simp [doD, doE, hg, hl]) h Keep.refl (AH.le_add (AH.le_add (AH.le_add (AH.le_refl _) ((by simp only [enc_len, enc_scal, lput_enc, take_enc, fresh_add, fresh_set, ne_eq, hn_b4, not_false_eq_true, and_self] : Fresh _ b4).2)) ((by simp only [enc_len, enc_scal, lput_enc, take_enc, fresh_add, fresh_set, ne_eq, hn_b5, not_false_eq_true, and_self] : Fresh _ b5).2)) ((by simp only [enc_len, enc_scal, lput_enc, take_enc, fresh_add, fresh_set, ne_eq, hn_b6, not_false_eq_true, and_self] : Fresh _ b6).2))
    obtain ⟨zb, zc, ht, hZ, hnb, hzb, hk⟩ := id h
    have hi0 : (0 : Int) ≤ (i : Int) := by omega
    have hi1 : ¬ (i : Int) < 0 := by omega
    have hilt := Go.AX.lt_of_get hz
    have hlt : (i : Int) < (Z.length : Int) := by omega
    have he : doE (Z.map RF.nf) op fl rec = mayF z.p z.R op rec := by simp [doE, hg, hl]
    obtain ⟨b_, o, rfl, hrow, hrd⟩ := hZ.out.get (Go.AX.map_get (f := encN) hz)
    have hx1 : H.row b_ (o + i * 3 + 1) 2 = some [.int .i64 z.p, .slice z.base z.R.length z.cap] := row_of_rd rfl (by decide) fun j c hj => by
      rw [Nat.add_assoc _ 1 j, Nat.add_comm 1 j]
      exact hrd (j + 1) c hj
    have r0 : H.rd ⟨b, 0, none⟩ = some (.slice (some ⟨b_, o, none⟩) Z.length zc) := by rw [rd_find ht]; rfl
    have r1 : H.rd ⟨b, 1, none⟩ = some (.int .i64 den) := by rw [rd_find ht]; rfl
    have n4 : ¬ b4 = b := h_b4.ne_find ht
    have n5 : ¬ b5 = b := hn_b5.2.ne_find ht
    have n6 : ¬ b6 = b := hn_b6.2.2.ne_find ht
    have m4 : ¬ b4 = b_ := h_b4.ne_row hx1
    have m5 : ¬ b5 = b_ := hn_b5.2.ne_row hx1
    have m6 : ¬ b6 = b_ := hn_b6.2.2.ne_row hx1
    have hin := hZ.inn z (List.mem_of_getElem? hz)
    have hrok := (hX.ok z.nf (List.mem_map_of_mem (List.mem_of_getElem? hz))).2.2
    simp (dsimp := false) (maxSteps := 4000000) only [hi1, enc_len, enc_scal, lput_enc, take_enc, hn_b4, hr_b4, hn_b5, hr_b5, hn_b6, hr_b6, go_sem]
    refine AWp.genp [.pu, .pu, .pu, .rd, .pu, .pu, .pu, .rd, .pu, .rd, .pu, .rd, .rd, .ch, .pu, .pu, .pu, .pu, .al, .al, .ch, .ch, .pu] [0, 1, 3, 7, 0, 31, 63, 127, 0, 256, 0, 1024, 0, 8191, 16383, 32767, 32767, 32767, 0, 0, 851967, 1966079, 4194303] [0, 1, 2, 3, 4, 5, 6, 7, 8, 9, 10, 11, 12, 13, 14, 15, 16, 17, 18, 19, 20, 21, 22] 24 (_) mixed (by kernel_rfl) (AH.le_refl _) ?_; rw [nd_eq]; simp (dsimp := false) only [prm_nil, prm_eq, pm_some, List.getElem?_cons_zero, List.getElem?_cons_succ, ↓reduceIte, Nat.reduceEqDiff, Nat.reduceLT, Nat.reduceLeDiff, Nat.reduceAdd, Nat.reduceMul, Nat.reduceSub, reduceCtorEq, Int.reduceToNat, Int.reduceLT, Int.reduceLE, Int.reduceEq, Int.reduceNe, Int.reduceBEq, Nat.reduceBEq, Int.reduceBNe, Nat.reduceBNe, Int.reduceAdd, Int.reduceSub, Int.reduceMul, Int.reduceNeg]
    obtain ⟨_, _, _, _, hrec0, _⟩ := agood_in hg
    obtain ⟨rc, rfl⟩ : ∃ rc : Nat, rec = rc := ⟨rec.toNat, by omega⟩
    simp (dsimp := false) (maxSteps := 4000000) only [r0, hlt, hi0, hx1, n4, n5, n6, m4, m5, m6, enc_len, enc_scal, lput_enc, take_enc, hn_b4, hr_b4, hn_b5, hr_b5, hn_b6, hr_b6, go_sem]
    by_cases hmay : mayF z.p z.R op rc = 0
    · have hc := fun H1 (h1 : SlcIn H1 4 z.base z.cap (z.R.map enc)) => RefDo_ok z.p op rc z.R v z.base z.cap H1 h1 hrok hmay
      unfold fv at hc
      
      refine (hc _ (((hin.add (by simp only [fresh_add, ne_eq, hn_b4, not_false_eq_true, and_self] : Fresh _ b4)).add (by simp only [fresh_add, ne_eq, hn_b5, not_false_eq_true, and_self] : Fresh _ b5)).add (by simp only [fresh_add, ne_eq, hn_b6, not_false_eq_true, and_self] : Fresh _ b6))).mono ?_; rintro _ _ ⟨b8, c8, bs, h_b8, rfl, hc8, hbs, rfl⟩
      have hn_b8 := h_b8; (try simp only [fresh_add, fresh_set, ne_eq] at hn_b8); have hr_b8 := hn_b8; (try simp only [@eq_comm Nat b8] at hr_b8)
      simp (dsimp := false) (maxSteps := 4000000) only [enc_len, enc_scal, lput_enc, take_enc, hn_b4, hr_b4, hn_b5, hr_b5, hn_b6, hr_b6, hn_b8, hr_b8, go_sem]
      refine ⟨AH.le_add (AH.le_refl _) h_b8.2, ?_⟩
      refine AllB.mk fun b9 h_b9 => ?_; have hn_b9 := h_b9; (try simp only [fresh_add, fresh_set, ne_eq] at hn_b9); have hr_b9 := hn_b9; (try simp only [@eq_comm Nat b9] at hr_b9); simp (dsimp := false) (maxSteps := 4000000) only [enc_len, enc_scal, lput_enc, take_enc, hn_b4, hr_b4, hn_b5, hr_b5, hn_b6, hr_b6, hn_b8, hr_b8, hn_b9, hr_b9, go_sem]
      refine AllB.mk fun b10 h_b10 => ?_; have hn_b10 := h_b10; (try simp only [fresh_add, fresh_set, ne_eq] at hn_b10); have hr_b10 := hn_b10; (try simp only [@eq_comm Nat b10] at hr_b10); simp (dsimp := false) (maxSteps := 4000000) only [enc_len, enc_scal, lput_enc, take_enc, hn_b4, hr_b4, hn_b5, hr_b5, hn_b6, hr_b6, hn_b8, hr_b8, hn_b9, hr_b9, hn_b10, hr_b10, go_sem]
      (repeat (refine And.intro (by (repeat (first | exact AH.le_refl _ | refine AH.le_add ?_ ?_)); all_goals (first | exact AH.le_refl _ | (show AH.find _ _ = _; simp only [find_add_self, find_add_ne, find_fresh, fresh_add, fresh_set, ne_eq, not_false_eq_true, true_and, and_true, and_self, enc_len, enc_scal, lput_enc, take_enc, hn_b4, hr_b4, hn_b5, hr_b5, hn_b6, hr_b6, hn_b8, hr_b8, hn_b9, hr_b9, hn_b10, hr_b10]))) ?_; (try simp (dsimp := false) (maxSteps := 4000000) only [enc_len, enc_scal, lput_enc, take_enc, hn_b4, hr_b4, hn_b5, hr_b5, hn_b6, hr_b6, hn_b8, hr_b8, hn_b9, hr_b9, hn_b10, hr_b10, go_sem])))
      have hd8 := hn_b8.2.2.2
      obtain ⟨w, hwv⟩ : ∃ w, (doR z.R op rc v).getD rc zr = w := ⟨_, rfl⟩
      obtain ⟨T, hT⟩ : ∃ T, ((((((H.add b4 (.cells [.int .i64 op, .int .i64 fl, .int .i64 rc] 24 3)).add b5 (.cells (enc v) 26 4)).add b6 (.cells [.int .u8 0, .int .u8 0, .int .u8 0, .int .u8 0] 26 4)).add b8 (.cells ((doR z.R op rc v).map enc).flatten 26 bs)).add b9 (.cells [.int .i64 z.p, .slice (some ⟨b8, 0, none⟩) z.R.length c8] 72 2)).add b10 (.cells (enc w) 26 4)) = T := ⟨_, rfl⟩
      have kT : Keep H T fun _ => False := hT ▸ (((((Keep.refl.nw h_b4).nw h_b5).nw h_b6).nw (by simp only [fresh_add, ne_eq, hn_b8, not_false_eq_true, and_self])).nw (by simp only [fresh_add, ne_eq, hn_b9, not_false_eq_true, and_self])).nw (by simp only [fresh_add, ne_eq, hn_b10, not_false_eq_true, and_self])
      have t6 : T.find b6 = some (.cells [.int .u8 0, .int .u8 0, .int .u8 0, .int .u8 0] 26 4) := by rw [← hT]; (show AH.find _ _ = _; simp only [find_add_self, find_add_ne, find_fresh, fresh_add, fresh_set, ne_eq, not_false_eq_true, true_and, and_true, and_self, enc_len, enc_scal, lput_enc, take_enc, hn_b4, hr_b4, hn_b5, hr_b5, hn_b6, hr_b6, hn_b8, hr_b8, hn_b9, hr_b9, hn_b10, hr_b10])
      have t8 : T.find b8 = some (.cells ((doR z.R op rc v).map enc).flatten 26 bs) := by rw [← hT]; (show AH.find _ _ = _; simp only [find_add_self, find_add_ne, find_fresh, fresh_add, fresh_set, ne_eq, not_false_eq_true, true_and, and_true, and_self, enc_len, enc_scal, lput_enc, take_enc, hn_b4, hr_b4, hn_b5, hr_b5, hn_b6, hr_b6, hn_b8, hr_b8, hn_b9, hr_b9, hn_b10, hr_b10])
      have t9 : T.find b9 = some (.cells [.int .i64 z.p, .slice (some ⟨b8, 0, none⟩) z.R.length c8] 72 2) := by rw [← hT]; (show AH.find _ _ = _; simp only [find_add_self, find_add_ne, find_fresh, fresh_add, fresh_set, ne_eq, not_false_eq_true, true_and, and_true, and_self, enc_len, enc_scal, lput_enc, take_enc, hn_b4, hr_b4, hn_b5, hr_b5, hn_b6, hr_b6, hn_b8, hr_b8, hn_b9, hr_b9, hn_b10, hr_b10])
      have t10 : T.find b10 = some (.cells (enc w) 26 4) := by rw [← hT]; (show AH.find _ _ = _; simp only [find_add_self, find_add_ne, find_fresh, fresh_add, fresh_set, ne_eq, not_false_eq_true, true_and, and_true, and_self, enc_len, enc_scal, lput_enc, take_enc, hn_b4, hr_b4, hn_b5, hr_b5, hn_b6, hr_b6, hn_b8, hr_b8, hn_b9, hr_b9, hn_b10, hr_b10])
      have tb := kT.find (fun h => h) ht
      have hZT := hZ.keep kT fun _ _ h => h
      have p6 : ¬ b6 = b := n6
      have p8 : ¬ b8 = b := hd8.ne_find ht
      have p9 : ¬ b9 = b := hn_b9.2.2.2.2.ne_find ht
      have p10 : ¬ b10 = b := hn_b10.2.2.2.2.2.ne_find ht
      have hf6 : Fresh H b6 := hn_b6.2.2
      have p68 : b6 ≠ b8 := fun e => hn_b8.1 e.symm
      rw [hwv, hT]
      clear hT h_b4 h_b5 h_b6 h_b8 h_b9 h_b10 hn_b4 hn_b5 hn_b6 hn_b8 hn_b9 hn_b10 hr_b4 hr_b5 hr_b6 hr_b8 hr_b9 hr_b10 m4 m5 m6 n4 n5 n6
      
      refine AllB.mk fun bl h_bl => ?_
      have kl : Keep T (T.add bl (.cells [] 74 0)) fun _ => False := Keep.add h_bl
      have rT : (T.add bl (.cells [] 74 0)).rd ⟨b, 0, none⟩ = some (.slice (some ⟨b_, o, none⟩) Z.length zc) := by rw [rd_find (kl.find (fun h => h) tb)]; rfl
      simp (dsimp := false) (maxSteps := 4000000) only [rT, enc_len, enc_scal, lput_enc, take_enc, go_sem]
      refine APD.growS (H0 := T) (m := Z.length) (R := []) (R' := Z.map encN) (OwnS.new h_bl (AH.le_refl _) rfl rfl rfl (by simp) (by simp)) kl.all se_22 rfl (by decide) (by decide) (by rw [Tryz.underlying22]; rfl) rfl (by simp) (hZT.keep kl fun _ _ h => h).out (rowsN Z) (scalN Z) (by omega) fun base' cap' A hO' hK' hN' => ?_
      refine ⟨A, AH.le_refl _, ?_⟩
      rw [List.nil_append] at hO'
      rw [Nat.zero_add]
      have kA : Keep T A fun _ => False := kl.ow hK' fun b ⟨a, ha, e⟩ => by cases ha; exact e ▸ h_bl
      obtain ⟨bb, bs', rfl, hbb, hbs', hfb⟩ : ∃ bb bs', base' = some ⟨bb, 0, none⟩ ∧ A.find bb = some (.cells (Z.map encN).flatten 74 bs') ∧ cap' * 3 ≤ bs' ∧ Fresh T bb := by
        rcases hO'.at_ with ⟨_, h, _⟩ | ⟨b', bs, h, hfd, h2, h3⟩
        · rw [List.map_eq_nil_iff] at h; subst h; simp at hilt
        · exact ⟨b', bs, h, hfd, h2, h3⟩
      have hcl : Z.length ≤ cap' := by have := hO'.le; simpa using this
      have ab := kA.find (fun h => h) tb
      have q0 : bb ≠ b := hfb.ne_find tb
      have q6 : bb ≠ b6 := hfb.ne_find t6
      have q8 : bb ≠ b8 := hfb.ne_find t8
      have q9 : bb ≠ b9 := hfb.ne_find t9
      have q10 : bb ≠ b10 := hfb.ne_find t10
      obtain ⟨A2, hA2⟩ : ∃ A2, A.set b (.cells [.slice (some ⟨bb, 0, none⟩) Z.length cap', .int .i64 den] 49 2) = A2 := ⟨_, rfl⟩
      have k2 : Keep A A2 (· = b) := hA2 ▸ Keep.set
      have hw1 : A.wrs b 0 [.slice (some ⟨bb, 0, none⟩) Z.length cap'] = some A2 := by rw [← hA2]; simp [AH.wrs, ab, lput, scal]
      have ab2 : A2.find b = some (.cells [.slice (some ⟨bb, 0, none⟩) Z.length cap', .int .i64 den] 49 2) := by rw [← hA2, find_set, if_pos rfl]
      have hbb2 := k2.find q0 hbb
      obtain ⟨z', hz'⟩ : ∃ z' : RF, z' = ⟨z.n, z.p, some ⟨b8, 0, none⟩, c8, doR z.R op rc v⟩ := ⟨_, rfl⟩
      have hdl : z'.R.length = z.R.length := by rw [hz']; exact doR_len ..
      obtain ⟨A3, hA3⟩ : ∃ A3, A2.set bb (.cells ((Z.set i z').map encN).flatten 74 bs') = A3 := ⟨_, rfl⟩
      have k3 : Keep A2 A3 (· = bb) := hA3 ▸ Keep.set
      have hfl : (Z.map encN).flatten.length = Z.length * 3 := by rw [flat_len (rowsN Z), List.length_map]
      have hput : lput (Z.map encN).flatten (i * 3 + 1) [.int .i64 z.p, .slice (some ⟨b8, 0, none⟩) z.R.length c8] = ((Z.set i z').map encN).flatten := by
        rw [List.map_set, ← flat_lput (rowsN Z) i (encN z') (by simpa using hilt) rfl]
        have e0 : (Z.map encN).flatten[i * 3 + 0]? = some (.int .i64 z.n) := flat_get (rowsN Z) i 0 (encN z) _ (Go.AX.map_get hz) rfl
        rw [Nat.add_zero] at e0
        have e1 : (Z.map encN).flatten.set (i * 3) (.int .i64 z.n) = (Z.map encN).flatten := by
          apply List.ext_getElem?
          intro j
          rw [List.getElem?_set]
          by_cases e : i * 3 = j
          · subst e; rw [if_pos rfl, if_pos (Go.AX.lt_of_get e0)]; exact e0.symm
          · rw [if_neg e]
        have e2 : encN z' = [.int .i64 z.n, .int .i64 z.p, .slice (some ⟨b8, 0, none⟩) z.R.length c8] := by
          rw [encN, hdl, hz']
        rw [e2, show lput (Z.map encN).flatten (i * 3) [.int .i64 z.n, .int .i64 z.p, .slice (some ⟨b8, 0, none⟩) z.R.length c8] = lput ((Z.map encN).flatten.set (i * 3) (.int .i64 z.n)) (i * 3 + 1) [.int .i64 z.p, .slice (some ⟨b8, 0, none⟩) z.R.length c8] from rfl, e1]
      have hw2 : A2.wrs bb (i * 3 + 1) [.int .i64 z.p, .slice (some ⟨b8, 0, none⟩) z.R.length c8] = some A3 := by
        unfold AH.wrs
        rw [hbb2]
        simp only
        rw [if_pos ⟨by rw [hfl]; simp only [List.length_cons, List.length_nil]; omega, by rw [hfl]; omega, rfl⟩, hput, hA3]
      obtain ⟨A4, hA4⟩ : ∃ A4, A3.set b6 (.cells (enc w) 26 4) = A4 := ⟨_, rfl⟩
      have k4 : Keep A3 A4 (· = b6) := hA4 ▸ Keep.set
      have g6 := k3.find (Ne.symm q6) (k2.find p6 (kA.find (fun h => h) t6))
      have g10 := k3.find (Ne.symm q10) (k2.find p10 (kA.find (fun h => h) t10))
      have hw3 : A3.wrs b6 0 (enc w) = some A4 := by rw [← hA4]; simp [AH.wrs, g6, enc, lput, scal]
      have r2 : A2.rd ⟨b, 0, none⟩ = some (.slice (some ⟨bb, 0, none⟩) Z.length cap') := by rw [rd_find ab2]; rfl
      have w9 : A2.row b9 0 2 = some [.int .i64 z.p, .slice (some ⟨b8, 0, none⟩) z.R.length c8] := row_find (k2.find p9 (kA.find (fun h => h) t9)) (by simp)
      have w10 : A3.row b10 0 4 = some (enc w) := row_find g10 (by simp [enc])
      have g6' : A4.find b6 = some (.cells (enc w) 26 4) := by rw [← hA4, find_set, if_pos rfl]
      have w6 : A4.row b6 0 4 = some (enc w) := row_find g6' (by simp [enc])
      simp (dsimp := false) (maxSteps := 4000000) only [hw1, enc_len, enc_scal, lput_enc, take_enc, go_sem]
      refine AWp.gen [.pu, .pu, .pu, .rd, .pu, .rd, .pu, .pu, .ch] [0, 1, 3, 7, 0, 0, 63, 127, 255] 0 (_) mixed (by kernel_rfl) (AH.le_refl _) ?_
      simp (dsimp := false) (maxSteps := 4000000) only [r2, w9, hlt, hi0, hw2, w10, hw3, w6, enc_len, enc_scal, lput_enc, take_enc, go_sem]
      have hKall : Keep H A4 (· = b) := ((((kT.trans kA).mono fun _ h => h.elim).trans k2).then k3 fun x e => .inr (e ▸ kT.fr hfb)).then k4 fun x e => .inr (e ▸ hf6)
      have h256 : z.R.length ≤ 256 := (goodF_len (hX.ok z.nf (List.mem_map_of_mem (List.mem_of_getElem? hz))).2.1).2
      have a4b : A4.find b = some (.cells [.slice (some ⟨bb, 0, none⟩) Z.length cap', .int .i64 den] 49 2) := k4.find (Ne.symm p6) (k3.find (Ne.symm q0) ab2)
      have a4bb : A4.find bb = some (.cells ((Z.set i z').map encN).flatten 74 bs') := k4.find q6 (by rw [← hA3, find_set, if_pos rfl])
      have a4b8 : A4.find b8 = some (.cells ((doR z.R op rc v).map enc).flatten 26 bs) := k4.find (Ne.symm p68) (k3.find (Ne.symm q8) (k2.find p8 (kA.find (fun h => h) t8)))
      have hN := (((hZT.keep kA fun _ _ h => h).keep k2 fun x hx e => hnb (e ▸ hx)).keep k3 fun x hx e => hk x hx (e ▸ kT.fr hfb)).keep k4 fun x hx e => hk x hx (e ▸ hf6)
      have h0 : doE (Z.map RF.nf) op fl rc = 0 := he.trans hmay
      refine ⟨A4, AH.le_refl _, Z.set i z', fun x => rd x ∨ x = bb ∨ x = b8, ?_, ?_, ⟨some ⟨bb, 0, none⟩, cap', ?_, ⟨?_, fun x hx => ?_, ?_, fun x hx => ?_⟩, ?_, .inr ⟨bb, 0, rfl⟩, ?_⟩, hKall, ?_⟩
      · rw [doV, doW, if_pos h0, hl, h0, ← hwv]; rfl
      · rw [doX, if_pos h0, hl, List.map_set]
        have := set_rp (X := Z.map RF.nf) (k := i) (x := z.nf) (f := doF (z.p, z.R) op rc v) (by rw [List.getElem?_map, hz]; rfl) hX.kd
        rw [← hn]
        rw [hz']
        exact this
      · rw [List.length_set, doD, if_neg (by rw [h0]; decide)]; exact a4b
      · exact SlcIn.of_find a4bb (rowsN _) (by rw [List.length_map, List.length_set]; exact hcl) (by rw [List.length_map, List.length_set]; omega)
      · rcases List.mem_or_eq_of_mem_set hx with hx | rfl
        · exact hN.inn x hx
        · rw [hz']
          refine SlcIn.of_find a4b8 (rows4 _) ?_ ?_
          · rw [List.length_map, doR_len]; exact hc8
          · rw [List.length_map, doR_len]; omega
      · exact .inr fun a ha => by cases ha; exact .inr (.inl rfl)
      · rcases List.mem_or_eq_of_mem_set hx with hx | rfl
        · exact (hN.r2 x hx).imp id fun h a ha => .inl (h a ha)
        · exact .inr fun a ha => by rw [hz'] at ha; cases ha; exact .inr (.inr rfl)
      · rintro (h | h | h)
        · exact hnb h
        · exact q0 h.symm
        · exact p8 h.symm
      · rintro x (h | h | h) hf
        · exact hk x h (hKall.fresh hf fun e => hnb (e ▸ h))
        · subst h; exact hf.ne_find a4bb rfl
        · subst h; exact hf.ne_find a4b8 rfl
      · rintro x (h | h | h)
        · exact .inl h
        · subst h; exact .inr (kT.fr hfb)
        · subst h; exact .inr hd8
      
    · have hc := fun H1 (h1 : SlcIn H1 4 z.base z.cap (z.R.map enc)) => RefDo_bad z.p op rc z.R v z.base z.cap H1 h1 hmay
      unfold fv at hc
      
      refine (hc _ (((hin.add (by simp only [fresh_add, ne_eq, hn_b4, not_false_eq_true, and_self] : Fresh _ b4)).add (by simp only [fresh_add, ne_eq, hn_b5, not_false_eq_true, and_self] : Fresh _ b5)).add (by simp only [fresh_add, ne_eq, hn_b6, not_false_eq_true, and_self] : Fresh _ b6))).mono ?_; rintro _ _ ⟨rfl, rfl⟩
      simp (dsimp := false) (maxSteps := 4000000) only [dbad, enc_len, enc_scal, lput_enc, take_enc, hn_b4, hr_b4, hn_b5, hr_b5, hn_b6, hr_b6, go_sem]
      refine AllB.mk fun b9 h_b9 => ?_; have hn_b9 := h_b9; (try simp only [fresh_add, fresh_set, ne_eq] at hn_b9); have hr_b9 := hn_b9; (try simp only [@eq_comm Nat b9] at hr_b9); simp (dsimp := false) (maxSteps := 4000000) only [enc_len, enc_scal, lput_enc, take_enc, hn_b4, hr_b4, hn_b5, hr_b5, hn_b6, hr_b6, hn_b9, hr_b9, go_sem]
      refine AllB.mk fun b10 h_b10 => ?_; have hn_b10 := h_b10; (try simp only [fresh_add, fresh_set, ne_eq] at hn_b10); have hr_b10 := hn_b10; (try simp only [@eq_comm Nat b10] at hr_b10); simp (dsimp := false) (maxSteps := 4000000) only [enc_len, enc_scal, lput_enc, take_enc, hn_b4, hr_b4, hn_b5, hr_b5, hn_b6, hr_b6, hn_b9, hr_b9, hn_b10, hr_b10, go_sem]
      have n9 : ¬ b9 = b := hn_b9.2.2.2.ne_find ht
      have n10 : ¬ b10 = b := hn_b10.2.2.2.2.ne_find ht
      by_cases e5 : mayF z.p z.R op rc = 5
      · have hw : H.wrs b 1 [.int .i64 (IntKind.i64.wrap (den + 1))] = some (H.set b (.cells [.slice (some ⟨b_, o, none⟩) Z.length zc, .int .i64 (IntKind.i64.wrap (den + 1))] 49 2)) := by
          simp [AH.wrs, ht, lput, scal]
        have hset : Keep H (H.set b (.cells [.slice (some ⟨b_, o, none⟩) Z.length zc, .int .i64 (IntKind.i64.wrap (den + 1))] 49 2)) (· = b) := Keep.set
        have hdr : ∀ x, rd x → ¬ x = b := fun x hx e => hnb (e ▸ hx)
        (repeat (refine And.intro (by (repeat (first | exact AH.le_refl _ | refine AH.le_add ?_ ?_)); all_goals (first | exact AH.le_refl _ | (show AH.find _ _ = _; simp only [find_add_self, find_add_ne, find_fresh, fresh_add, fresh_set, ne_eq, not_false_eq_true, true_and, and_true, and_self, enc_len, enc_scal, lput_enc, take_enc, hn_b4, hr_b4, hn_b5, hr_b5, hn_b6, hr_b6, hn_b9, hr_b9, hn_b10, hr_b10]))) ?_; (try simp (dsimp := false) (maxSteps := 4000000) only [hmay, e5, r1, n4, n5, n6, n9, n10, hw, enc_len, enc_scal, lput_enc, take_enc, hn_b4, hr_b4, hn_b5, hr_b5, hn_b6, hr_b6, hn_b9, hr_b9, hn_b10, hr_b10, go_sem])))
        
        exact bad (e := 5) (den' := IntKind.i64.wrap (den + 1)) (H' := H.set b (.cells [.slice (some ⟨b_, o, none⟩) Z.length zc, .int .i64 (IntKind.i64.wrap (den + 1))] 49 2)) (he.trans e5) (by decide) (by rw [doD, if_pos (he.trans e5)]) ⟨some ⟨b_, o, none⟩, zc, by rw [find_set, if_pos rfl], hZ.keep hset hdr, hnb, .inr ⟨b_, o, rfl⟩, hk.keep hset hdr⟩ hset (by (repeat (first | exact AH.le_refl _ | refine AH.le_add ?_ ?_)); all_goals (first | exact AH.le_refl _ | (show AH.find _ _ = _; simp only [find_add_self, find_add_ne, find_fresh, fresh_add, fresh_set, ne_eq, not_false_eq_true, true_and, and_true, and_self, enc_len, n4, n5, n6, n9, n10, hn_b4, hr_b4, hn_b5, hr_b5, hn_b6, hr_b6, hn_b9, hr_b9, hn_b10, hr_b10])))
        
      · (repeat (refine And.intro (by (repeat (first | exact AH.le_refl _ | refine AH.le_add ?_ ?_)); all_goals (first | exact AH.le_refl _ | (show AH.find _ _ = _; simp only [find_add_self, find_add_ne, find_fresh, fresh_add, fresh_set, ne_eq, not_false_eq_true, true_and, and_true, and_self, enc_len, enc_scal, lput_enc, take_enc, hn_b4, hr_b4, hn_b5, hr_b5, hn_b6, hr_b6, hn_b9, hr_b9, hn_b10, hr_b10]))) ?_; (try simp (dsimp := false) (maxSteps := 4000000) only [hmay, e5, enc_len, enc_scal, lput_enc, take_enc, hn_b4, hr_b4, hn_b5, hr_b5, hn_b6, hr_b6, hn_b9, hr_b9, hn_b10, hr_b10, go_sem])))
        exact bad (H' := H) he hmay (by rw [doD, he, if_neg e5]) h Keep.refl (AH.le_add (AH.le_add (AH.le_add (AH.le_add (AH.le_add (AH.le_refl _) ((by simp only [enc_len, enc_scal, lput_enc, take_enc, fresh_add, fresh_set, ne_eq, hn_b4, not_false_eq_true, and_self] : Fresh _ b4).2)) ((by simp only [enc_len, enc_scal, lput_enc, take_enc, fresh_add, fresh_set, ne_eq, hn_b5, not_false_eq_true, and_self] : Fresh _ b5).2)) ((by simp only [enc_len, enc_scal, lput_enc, take_enc, fresh_add, fresh_set, ne_eq, hn_b6, not_false_eq_true, and_self] : Fresh _ b6).2)) ((by simp only [enc_len, enc_scal, lput_enc, take_enc, fresh_add, fresh_set, ne_eq, hn_b9, not_false_eq_true, and_self] : Fresh _ b9).2)) ((by simp only [enc_len, enc_scal, lput_enc, take_enc, fresh_add, fresh_set, ne_eq, hn_b10, not_false_eq_true, and_self] : Fresh _ b10).2))
      
    
end Go.Proofs.YtamlipffhimfmaaGreatDoor.Ifs

/- the reference's store: Set. -/
namespace Go.Proofs.YtamlipffhimfmaaGreatDoor.Ifs
set_option linter.unusedSimpArgs false
set_option linter.unusedVariables false
open Go Go.AX Go.Proofs Ty Go.Proofs.YtamlipffhimfmaaGreatDoor.File
set_option maxHeartbeats 4000000
set_option maxRecDepth 10000

theorem put_row {Z : List RF} {i : Nat} {z z' : RF} (hz : Z[i]? = some z) (hn : z'.n = z.n) : lput (Z.map encN).flatten (i * 3 + 1) [.int .i64 z'.p, .slice z'.base z'.R.length z'.cap] = ((Z.set i z').map encN).flatten := by
  have hilt := Go.AX.lt_of_get hz
  rw [List.map_set, ← flat_lput (rowsN Z) i (encN z') (by simpa using hilt) rfl]
  have e0 : (Z.map encN).flatten[i * 3 + 0]? = some (.int .i64 z.n) := flat_get (rowsN Z) i 0 (encN z) _ (Go.AX.map_get hz) rfl
  rw [Nat.add_zero] at e0
  have e1 : (Z.map encN).flatten.set (i * 3) (.int .i64 z.n) = (Z.map encN).flatten := by
    apply List.ext_getElem?
    intro j
    rw [List.getElem?_set]
    by_cases e : i * 3 = j
    · subst e; rw [if_pos rfl, if_pos (Go.AX.lt_of_get e0)]; exact e0.symm
    · rw [if_neg e]
  rw [encN, hn, show lput (Z.map encN).flatten (i * 3) [.int .i64 z.n, .int .i64 z'.p, .slice z'.base z'.R.length z'.cap] = lput ((Z.map encN).flatten.set (i * 3) (.int .i64 z.n)) (i * 3 + 1) [.int .i64 z'.p, .slice z'.base z'.R.length z'.cap] from rfl, e1]
theorem RefSet_c {H : AH} {b : Nat} {Z : List RF} {den : Int} {rd : Nat → Prop} (h : RefS H b Z den rd) (hX : OkX (Z.map RF.nf)) (n rec : Int) (v : Rc) :
    ACalls Tryz.prog 70 #[.pointer (some ⟨b, 0, none⟩), .int .i64 n, .int .i64 rec, .agg (enc v).toArray] H (fun u H' => ∃ Z' rd', u = .bool (setOk (Z.map RF.nf) n rec) ∧ Z'.map RF.nf = setX (Z.map RF.nf) n rec v ∧ RefS H' b Z' den rd' ∧ Keep H H' (· = b) ∧ ∀ x, rd' x → rd x ∨ Fresh H x) := by
  have hget := fun H1 (h1 : RefAt H1 b Z den rd) => RefGet_c h1 n rec
  have hat := fun H1 (h1 : RefAt H1 b Z den rd) => at_c h1 n
  have hZl : Z.length ≤ 64 := by have := hX.len; simpa using this
  have bad : ∀ {T : AH}, setOk (Z.map RF.nf) n rec = false → H.le T → ∃ H', H'.le T ∧ ∃ Z' rd', Value.bool false = .bool (setOk (Z.map RF.nf) n rec) ∧ Z'.map RF.nf = setX (Z.map RF.nf) n rec v ∧ RefS H' b Z' den rd' ∧ Keep H H' (· = b) ∧ ∀ x, rd' x → rd x ∨ Fresh H x := fun {T} h0 hl =>
    ⟨H, hl, Z, rd, by rw [h0], by rw [setX, h0]; rfl, h, Keep.refl, fun x h => .inl h⟩
  refine ACalls.enter2 Tryz.func70 rfl Tryz.ntmps70 Tryz.results70 (by simp) ?_; simp (dsimp := false) (maxSteps := 4000000) only [enc_len, enc_scal, lput_enc, take_enc, go_sem]
  refine AllB.mk fun b7 h_b7 => ?_; have hn_b7 := h_b7; (try simp only [fresh_add, fresh_set, ne_eq] at hn_b7); have hr_b7 := hn_b7; (try simp only [@eq_comm Nat b7] at hr_b7); simp (dsimp := false) (maxSteps := 4000000) only [enc_len, enc_scal, lput_enc, take_enc, hn_b7, hr_b7, go_sem]
  refine (hget _ (h.at.keep (Keep.refl.nw h_b7) (fun _ _ h => h) fun h => h)).mono ?_
  rintro _ _ ⟨rfl, rfl⟩
  cases hg : getW (Z.map RF.nf) n rec with
  | none =>
    
    simp only [getV]
    simp (dsimp := false) (maxSteps := 4000000) only [enc_len, enc_scal, lput_enc, take_enc, hn_b7, hr_b7, go_sem]
    refine AllB.mk fun b9 h_b9 => ?_; have hn_b9 := h_b9; (try simp only [fresh_add, fresh_set, ne_eq] at hn_b9); have hr_b9 := hn_b9; (try simp only [@eq_comm Nat b9] at hr_b9); simp (dsimp := false) (maxSteps := 4000000) only [enc_len, enc_scal, lput_enc, take_enc, hn_b7, hr_b7, hn_b9, hr_b9, go_sem]
    exact bad (by simp [setOk, hg]) (AH.le_add (AH.le_add (AH.le_refl _) ((by simp only [enc_len, enc_scal, lput_enc, take_enc, fresh_add, fresh_set, ne_eq, hn_b7, not_false_eq_true, and_self] : Fresh _ b7).2)) ((by simp only [enc_len, enc_scal, lput_enc, take_enc, fresh_add, fresh_set, ne_eq, hn_b9, not_false_eq_true, and_self] : Fresh _ b9).2))
    
  | some r =>
    by_cases h0 : rec = 0
    · subst h0
      
      simp only [getV]
      simp (dsimp := false) (maxSteps := 4000000) only [enc_len, enc_scal, lput_enc, take_enc, hn_b7, hr_b7, go_sem]
      refine AllB.mk fun b9 h_b9 => ?_; have hn_b9 := h_b9; (try simp only [fresh_add, fresh_set, ne_eq] at hn_b9); have hr_b9 := hn_b9; (try simp only [@eq_comm Nat b9] at hr_b9); simp (dsimp := false) (maxSteps := 4000000) only [enc_len, enc_scal, lput_enc, take_enc, hn_b7, hr_b7, hn_b9, hr_b9, go_sem]
      exact bad (by simp [setOk]) (AH.le_add (AH.le_add (AH.le_refl _) ((by simp only [enc_len, enc_scal, lput_enc, take_enc, fresh_add, fresh_set, ne_eq, hn_b7, not_false_eq_true, and_self] : Fresh _ b7).2)) ((by simp only [enc_len, enc_scal, lput_enc, take_enc, fresh_add, fresh_set, ne_eq, hn_b9, not_false_eq_true, and_self] : Fresh _ b9).2))
      
    have hok : setOk (Z.map RF.nf) n rec = true := by simp [setOk, hg, h0]
    simp only [getV]
    simp (dsimp := false) (maxSteps := 4000000) only [enc_len, enc_scal, lput_enc, take_enc, hn_b7, hr_b7, go_sem]
    refine AllB.mk fun b9 h_b9 => ?_; have hn_b9 := h_b9; (try simp only [fresh_add, fresh_set, ne_eq] at hn_b9); have hr_b9 := hn_b9; (try simp only [@eq_comm Nat b9] at hr_b9); simp (dsimp := false) (maxSteps := 4000000) only [enc_len, enc_scal, lput_enc, take_enc, hn_b7, hr_b7, hn_b9, hr_b9, go_sem]
    simp (dsimp := false) (maxSteps := 4000000) only [h0, enc_len, enc_scal, lput_enc, take_enc, hn_b7, hr_b7, hn_b9, hr_b9, go_sem]
    refine (hat _ (h.at.keep ((Keep.refl.nw h_b7).nw h_b9) (fun _ _ h => h) fun h => h)).mono ?_
    rintro _ _ ⟨q, rfl, ho, rfl⟩
    rcases ho with ⟨rfl, hl⟩ | ⟨i, z, rfl, hz, hn, hl⟩
    · rw [getW, hl] at hg; cases hg
    obtain ⟨zb, zc, ht, hZ, hnb, hzb, hk⟩ := id h
    have hi0 : (0 : Int) ≤ (i : Int) := by omega
    have hilt := Go.AX.lt_of_get hz
    have hlt : (i : Int) < (Z.length : Int) := by omega
    rw [getW_eq hl] at hg
    have hr0 : ¬ rec < 0 := fun h => by rw [if_pos h] at hg; cases hg
    rw [if_neg hr0] at hg
    obtain ⟨rc, rfl⟩ : ∃ rc : Nat, rec = rc := ⟨rec.toNat, by omega⟩
    have hrc := Go.AX.lt_of_get hg
    simp only [Int.toNat_natCast] at hrc
    have hrc' : (rc : Int) < (z.R.length : Int) := by omega
    have hrc0 : (0 : Int) ≤ (rc : Int) := by omega
    have hgd := hX.ok z.nf (List.mem_map_of_mem (List.mem_of_getElem? hz))
    have h256 : z.R.length ≤ 256 := (goodF_len hgd.2.1).2
    obtain ⟨T, hT⟩ : ∃ T, ((H.add b7 (.cells (enc v) 26 4)).add b9 (.cells (enc r) 26 4)) = T := ⟨_, rfl⟩
    have kT : Keep H T fun _ => False := hT ▸ (Keep.refl.nw h_b7).nw h_b9
    have t7 : T.find b7 = some (.cells (enc v) 26 4) := by rw [← hT]; (show AH.find _ _ = _; simp only [find_add_self, find_add_ne, find_fresh, fresh_add, fresh_set, ne_eq, not_false_eq_true, true_and, and_true, and_self, enc_len, enc_scal, lput_enc, take_enc, hn_b7, hr_b7, hn_b9, hr_b9])
    have tb := kT.find (fun h => h) ht
    have hZT := hZ.keep kT fun _ _ h => h
    have p7 : ¬ b7 = b := h_b7.ne_find ht
    rw [hT]
    clear hT h_b7 h_b9 hn_b7 hn_b9 hr_b7 hr_b9
    
    simp (dsimp := false) (maxSteps := 4000000) only [enc_len, enc_scal, lput_enc, take_enc, go_sem]
    refine AllB.mk fun bl h_bl => ?_
    have kl : Keep T (T.add bl (.cells [] 74 0)) fun _ => False := Keep.add h_bl
    have rT : (T.add bl (.cells [] 74 0)).rd ⟨b, 0, none⟩ = some (.slice zb Z.length zc) := by rw [rd_find (kl.find (fun h => h) tb)]; rfl
    simp (dsimp := false) (maxSteps := 4000000) only [rT, enc_len, enc_scal, lput_enc, take_enc, go_sem]
    refine APD.growS (H0 := T) (m := Z.length) (R := []) (R' := Z.map encN) (OwnS.new h_bl (AH.le_refl _) rfl rfl rfl (by simp) (by simp)) kl.all se_22 rfl (by decide) (by decide) (by rw [Tryz.underlying22]; rfl) rfl (by simp) (hZT.keep kl fun _ _ h => h).out (rowsN Z) (scalN Z) (by omega) fun base' cap' A hO' hK' hN' => ?_
    refine ⟨A, AH.le_refl _, ?_⟩
    rw [List.nil_append] at hO'
    rw [Nat.zero_add]
    have kA : Keep T A fun _ => False := kl.ow hK' fun b ⟨a, ha, e⟩ => by cases ha; exact e ▸ h_bl
    obtain ⟨bb, bs', rfl, hbb, hbs', hfb⟩ : ∃ bb bs', base' = some ⟨bb, 0, none⟩ ∧ A.find bb = some (.cells (Z.map encN).flatten 74 bs') ∧ cap' * 3 ≤ bs' ∧ Fresh T bb := by
      rcases hO'.at_ with ⟨_, h, _⟩ | ⟨b', bs, h, hfd, h2, h3⟩
      · rw [List.map_eq_nil_iff] at h; subst h; simp at hilt
      · exact ⟨b', bs, h, hfd, h2, h3⟩
    have hcl : Z.length ≤ cap' := by have := hO'.le; simpa using this
    have ab := kA.find (fun h => h) tb
    have q0 : bb ≠ b := hfb.ne_find tb
    have q7 : bb ≠ b7 := hfb.ne_find t7
    obtain ⟨A2, hA2⟩ : ∃ A2, A.set b (.cells [.slice (some ⟨bb, 0, none⟩) Z.length cap', .int .i64 den] 49 2) = A2 := ⟨_, rfl⟩
    have k2 : Keep A A2 (· = b) := hA2 ▸ Keep.set
    have hw1 : A.wrs b 0 [.slice (some ⟨bb, 0, none⟩) Z.length cap'] = some A2 := by rw [← hA2]; simp [AH.wrs, ab, lput, scal]
    have ab2 : A2.find b = some (.cells [.slice (some ⟨bb, 0, none⟩) Z.length cap', .int .i64 den] 49 2) := by rw [← hA2, find_set, if_pos rfl]
    have hbb2 := k2.find q0 hbb
    have r2 : A2.rd ⟨b, 0, none⟩ = some (.slice (some ⟨bb, 0, none⟩) Z.length cap') := by rw [rd_find ab2]; rfl
    have hS2 : SlcIn A2 3 (some ⟨bb, 0, none⟩) cap' (Z.map encN) := SlcIn.of_find hbb2 (rowsN Z) (by simpa using hcl) (by simp; omega)
    have hx2 : A2.row bb (i * 3 + 1) 2 = some [.int .i64 z.p, .slice z.base z.R.length z.cap] := by
      obtain ⟨b_, o, he, hrow, hrd⟩ := hS2.get (Go.AX.map_get (f := encN) hz)
      cases he
      rw [Nat.zero_add] at hrd
      exact row_of_rd rfl (by decide) fun j c hj => by
        rw [Nat.add_assoc _ 1 j, Nat.add_comm 1 j]
        exact hrd (j + 1) c hj
    have c2 : A2.find b7 = some (.cells (enc v) 26 4) := k2.find p7 (kA.find (fun h => h) t7)
    have hin2 := ((hZT.keep kA fun _ _ h => h).keep k2 fun x hx e => hnb (e ▸ hx)).inn z (List.mem_of_getElem? hz)
    simp (dsimp := false) (maxSteps := 4000000) only [hw1, enc_len, enc_scal, lput_enc, take_enc, go_sem]
    simp (dsimp := false) (maxSteps := 4000000) only [r2, hlt, hi0, hx2, enc_len, enc_scal, lput_enc, take_enc, go_sem]
    refine AllB.mk fun b12 h_b12 => ?_; have hn_b12 := h_b12; (try simp only [fresh_add, fresh_set, ne_eq] at hn_b12); have hr_b12 := hn_b12; (try simp only [@eq_comm Nat b12] at hr_b12); simp (dsimp := false) (maxSteps := 4000000) only [enc_len, enc_scal, lput_enc, take_enc, hn_b12, hr_b12, go_sem]
    obtain ⟨T2, hT2⟩ : ∃ T2, A2.add b12 (.cells [.int .i64 z.p, .slice z.base z.R.length z.cap] 72 2) = T2 := ⟨_, rfl⟩
    have k2T : Keep A2 T2 fun _ => False := hT2 ▸ Keep.add h_b12
    have t12 : T2.find b12 = some (.cells [.int .i64 z.p, .slice z.base z.R.length z.cap] 72 2) := by rw [← hT2, find_add_self]
    have n12 : b12 ≠ b := h_b12.ne_find ab2
    have n12b : b12 ≠ bb := h_b12.ne_find hbb2
    have n12c : b12 ≠ b7 := h_b12.ne_find c2
    have f12 : Fresh A2 b12 := h_b12
    rw [hT2]
    clear hT2 h_b12 hn_b12 hr_b12
    
    refine AllB.mk fun bm h_bm => ?_
    have km : Keep T2 (T2.add bm (.cells [] 26 0)) fun _ => False := Keep.add h_bm
    have r12 : (T2.add bm (.cells [] 26 0)).rd ⟨b12, 1, none⟩ = some (.slice z.base z.R.length z.cap) := by rw [rd_find (km.find (fun h => h) t12)]; rfl
    simp (dsimp := false) (maxSteps := 4000000) only [r12, enc_len, enc_scal, lput_enc, take_enc, go_sem]
    refine APD.growS (H0 := T2) (m := z.R.length) (R := []) (R' := z.R.map enc) (OwnS.new h_bm (AH.le_refl _) rfl rfl rfl (by simp) (by simp)) km.all se_70 rfl (by decide) (by decide) (by rw [Tryz.underlying70]; rfl) rfl (by simp) ((hin2.keep k2T fun _ _ h => h).keep km fun _ _ h => h) (rows4 z.R) (scal4 z.R) (by omega) fun base3 cap3 B hOB hKB hNB => ?_
    refine ⟨B, AH.le_refl _, ?_⟩
    rw [List.nil_append] at hOB
    rw [Nat.zero_add]
    have kB : Keep T2 B fun _ => False := km.ow hKB fun b ⟨a, ha, e⟩ => by cases ha; exact e ▸ h_bm
    obtain ⟨bq, bs3, rfl, hbq, hbs3, hfq⟩ : ∃ bq bs3, base3 = some ⟨bq, 0, none⟩ ∧ B.find bq = some (.cells (z.R.map enc).flatten 26 bs3) ∧ cap3 * 4 ≤ bs3 ∧ Fresh T2 bq := by
      rcases hOB.at_ with ⟨_, h, _⟩ | ⟨b', bs, h, hfd, h2, h3⟩
      · rw [List.map_eq_nil_iff] at h; rw [h] at hrc; simp at hrc
      · exact ⟨b', bs, h, hfd, h2, h3⟩
    have hcq : z.R.length ≤ cap3 := by have := hOB.le; simpa using this
    have m0 : bq ≠ b := hfq.ne_find (k2T.find (fun h => h) ab2)
    have m7 : bq ≠ b7 := hfq.ne_find (k2T.find (fun h => h) c2)
    have mb : bq ≠ bb := hfq.ne_find (k2T.find (fun h => h) hbb2)
    have m12 : bq ≠ b12 := hfq.ne_find t12
    obtain ⟨B2, hB2⟩ : ∃ B2, B.set b12 (.cells [.int .i64 z.p, .slice (some ⟨bq, 0, none⟩) z.R.length cap3] 72 2) = B2 := ⟨_, rfl⟩
    have kB2 : Keep B B2 (· = b12) := hB2 ▸ Keep.set
    have hw2 : B.wrs b12 1 [.slice (some ⟨bq, 0, none⟩) z.R.length cap3] = some B2 := by rw [← hB2]; simp [AH.wrs, kB.find (fun h => h) t12, lput, scal]
    have e12 : B2.find b12 = some (.cells [.int .i64 z.p, .slice (some ⟨bq, 0, none⟩) z.R.length cap3] 72 2) := by rw [← hB2, find_set, if_pos rfl]
    have r13 : B2.rd ⟨b12, 1, none⟩ = some (.slice (some ⟨bq, 0, none⟩) z.R.length cap3) := by rw [rd_find e12]; rfl
    have w7 : B2.row b7 0 4 = some (enc v) := row_find (kB2.find (Ne.symm n12c) (kB.find (fun h => h) (k2T.find (fun h => h) c2))) (by simp [enc])
    obtain ⟨B3, hB3⟩ : ∃ B3, B2.set bq (.cells ((z.R.set rc v).map enc).flatten 26 bs3) = B3 := ⟨_, rfl⟩
    have kB3 : Keep B2 B3 (· = bq) := hB3 ▸ Keep.set
    have hq2 := kB2.find m12 hbq
    have hl4 := flat4 z.R
    have hw3 : B2.wrs bq (rc * 4) (enc v) = some B3 := by
      unfold AH.wrs
      rw [hq2]
      simp only
      rw [if_pos ⟨by rw [enc_len, hl4]; omega, by rw [hl4]; omega, enc_scal v⟩, flat_lput (rows4 z.R) rc (enc v) (by simpa using hrc) (enc_len v), ← List.map_set, hB3]
    have ab3 := kB3.find (Ne.symm m0) (kB2.find (Ne.symm n12) (kB.find (fun h => h) (k2T.find (fun h => h) ab2)))
    have r3 : B3.rd ⟨b, 0, none⟩ = some (.slice (some ⟨bb, 0, none⟩) Z.length cap') := by rw [rd_find ab3]; rfl
    have w12 : B3.row b12 0 2 = some [.int .i64 z.p, .slice (some ⟨bq, 0, none⟩) z.R.length cap3] := row_find (kB3.find (Ne.symm m12) e12) (by simp)
    have hbb3 := kB3.find (Ne.symm mb) (kB2.find (Ne.symm n12b) (kB.find (fun h => h) (k2T.find (fun h => h) hbb2)))
    obtain ⟨z', hz'⟩ : ∃ z' : RF, z' = ⟨z.n, z.p, some ⟨bq, 0, none⟩, cap3, z.R.set rc v⟩ := ⟨_, rfl⟩
    have hput := put_row (z' := z') hz (by rw [hz'])
    rw [show ([.int .i64 z'.p, .slice z'.base z'.R.length z'.cap] : List Value) = [.int .i64 z.p, .slice (some ⟨bq, 0, none⟩) z.R.length cap3] from by rw [hz']; simp] at hput
    have hfl : (Z.map encN).flatten.length = Z.length * 3 := by rw [flat_len (rowsN Z), List.length_map]
    obtain ⟨B4, hB4⟩ : ∃ B4, B3.set bb (.cells ((Z.set i z').map encN).flatten 74 bs') = B4 := ⟨_, rfl⟩
    have kB4 : Keep B3 B4 (· = bb) := hB4 ▸ Keep.set
    have hw4 : B3.wrs bb (i * 3 + 1) [.int .i64 z.p, .slice (some ⟨bq, 0, none⟩) z.R.length cap3] = some B4 := by
      unfold AH.wrs
      rw [hbb3]
      simp only
      rw [if_pos ⟨by rw [hfl]; simp only [List.length_cons, List.length_nil]; omega, by rw [hfl]; omega, rfl⟩, hput, hB4]
    simp (dsimp := false) (maxSteps := 4000000) only [hw2, enc_len, enc_scal, lput_enc, take_enc, go_sem]
    simp (dsimp := false) (maxSteps := 4000000) only [r13, w7, hrc', hrc0, hw3, enc_len, enc_scal, lput_enc, take_enc, go_sem]
    refine AWp.gen [.pu, .pu, .pu, .rd, .pu, .rd, .pu, .pu, .ch] [0, 1, 3, 7, 0, 0, 63, 127, 255] 0 (_) mixed (by kernel_rfl) (AH.le_refl _) ?_
    simp (dsimp := false) (maxSteps := 4000000) only [r3, w12, hlt, hi0, hw4, enc_len, enc_scal, lput_enc, take_enc, go_sem]
    have hK1 : Keep A2 B4 fun x => x = b12 ∨ x = bq ∨ x = bb := ((((k2T.trans kB).mono fun _ h => h.elim).trans (kB2.mono fun _ h => .inl h)).trans (kB3.mono fun _ h => .inr (.inl h))).trans (kB4.mono fun _ h => .inr (.inr h))
    have kHA : Keep H A fun _ => False := kT.trans kA
    have hKall : Keep H B4 (· = b) := ((kHA.mono fun _ h => h.elim).trans k2).then hK1 fun x hx => .inr (by
      rcases hx with rfl | rfl | rfl
      · exact kHA.fr (k2.fresh f12 n12)
      · exact kHA.fr (k2.fresh (k2T.fr hfq) m0)
      · exact kT.fr hfb)
    have hfr1 : Fresh H b12 := kHA.fr (k2.fresh f12 n12)
    have hfr2 : Fresh H bq := kHA.fr (k2.fresh (k2T.fr hfq) m0)
    have hfr3 : Fresh H bb := kT.fr hfb
    have a4b := kB4.find (Ne.symm q0) ab3
    have a4bb : B4.find bb = some (.cells ((Z.set i z').map encN).flatten 74 bs') := by rw [← hB4, find_set, if_pos rfl]
    have a4q : B4.find bq = some (.cells ((z.R.set rc v).map enc).flatten 26 bs3) := kB4.find mb (by rw [← hB3, find_set, if_pos rfl])
    have hN := ((hZT.keep kA fun _ _ h => h).keep k2 fun x hx e => hnb (e ▸ hx)).keep hK1 fun x hx e => by
      rcases e with rfl | rfl | rfl
      · exact hk _ hx hfr1
      · exact hk _ hx hfr2
      · exact hk _ hx hfr3
    refine ⟨B4, AH.le_refl _, Z.set i z', fun x => rd x ∨ x = bb ∨ x = bq, by rw [hok], ?_, ⟨some ⟨bb, 0, none⟩, cap', ?_, ⟨?_, fun x hx => ?_, ?_, fun x hx => ?_⟩, ?_, .inr ⟨bb, 0, rfl⟩, ?_⟩, hKall, ?_⟩
    · rw [setX, if_pos hok, hl, List.map_set]
      have := set_rp (X := Z.map RF.nf) (k := i) (x := z.nf) (f := (z.p, z.R.set rc v)) (by rw [List.getElem?_map, hz]; rfl) hX.kd
      rw [← hn, hz']
      exact this
    · rw [List.length_set]; exact a4b
    · exact SlcIn.of_find a4bb (rowsN _) (by rw [List.length_map, List.length_set]; exact hcl) (by rw [List.length_map, List.length_set]; omega)
    · rcases List.mem_or_eq_of_mem_set hx with hx | rfl
      · exact hN.inn x hx
      · rw [hz']
        refine SlcIn.of_find a4q (rows4 _) ?_ ?_
        · rw [List.length_map, List.length_set]; exact hcq
        · rw [List.length_map, List.length_set]; omega
    · exact .inr fun a ha => by cases ha; exact .inr (.inl rfl)
    · rcases List.mem_or_eq_of_mem_set hx with hx | rfl
      · exact (hN.r2 x hx).imp id fun h a ha => .inl (h a ha)
      · exact .inr fun a ha => by rw [hz'] at ha; cases ha; exact .inr (.inr rfl)
    · rintro (h | h | h)
      · exact hnb h
      · exact q0 h.symm
      · exact m0 h.symm
    · rintro x (h | h | h) hf
      · exact hk x h (hKall.fresh hf fun e => hnb (e ▸ h))
      · subst h; exact hf.ne_find a4bb rfl
      · subst h; exact hf.ne_find a4q rfl
    · rintro x (h | h | h)
      · exact .inl h
      · subst h; exact .inr hfr3
      · subst h; exact .inr hfr2
end Go.Proofs.YtamlipffhimfmaaGreatDoor.Ifs

/- part: nodes in memory; Frame. -/
namespace Go.Proofs.YtamlipffhimfmaaGreatDoor.Prt
set_option linter.unusedSimpArgs false
set_option linter.unusedVariables false
open Go Go.AX Go.Proofs Ty Go.Proofs.YtamlipffhimfmaaGreatDoor.File Go.Proofs.YtamlipffhimfmaaGreatDoor.Ifs Go.Proofs.YtamlipffhimfmaaGreatDoor.Uart
open Go.Proofs.YtamlipffhimfmaaGreatDoor.Chk (Tb TabIn sndO snd mayB goodE sN sX encE ze encT Sender_c RefSender_c tabs encE_len encE_scal encE_z5 encE_take)
set_option maxHeartbeats 4000000
set_option maxRecDepth 10000

structure SR where
  b : Nat
  X : List Nf
  den : Int
  ft : Nat → Prop
def encS (s : SR) : List Value := [.pointer (some ⟨s.b, 0, none⟩)]
def SR.In (H : AH) (s : SR) : Prop := StAt H s.b s.X s.den s.ft ∧ OkX s.X
structure StsIn (H : AH) (base : Option Addr) (cap : Nat) (S : List SR) : Prop where
  out : SlcIn H 1 base cap (S.map encS)
  inn : ∀ s ∈ S, s.In H
structure RR where
  b : Nat
  Z : List RF
  den : Int
  rd : Nat → Prop
def encR (s : RR) : List Value := [.pointer (some ⟨s.b, 0, none⟩)]
def RR.In (H : AH) (s : RR) : Prop := RefS H s.b s.Z s.den s.rd ∧ OkX (s.Z.map RF.nf)
structure RtsIn (H : AH) (base : Option Addr) (cap : Nat) (S : List RR) : Prop where
  out : SlcIn H 1 base cap (S.map encR)
  inn : ∀ s ∈ S, s.In H
theorem SR.In.keep {H A : AH} {s : SR} (h : s.In H) (hK : Keep H A fun _ => False) : s.In A := ⟨h.1.keep hK fun _ _ h => h, h.2⟩
theorem StsIn.keep {H A : AH} {base : Option Addr} {cap : Nat} {S : List SR} (h : StsIn H base cap S) (hK : Keep H A fun _ => False) : StsIn A base cap S := ⟨h.out.keep hK fun _ _ h => h, fun s hs => (h.inn s hs).keep hK⟩
theorem RR.In.keep {H A : AH} {s : RR} (h : s.In H) (hK : Keep H A fun _ => False) : s.In A := ⟨h.1.keep hK (fun _ _ h => h) fun h => h, h.2⟩
theorem RtsIn.keep {H A : AH} {base : Option Addr} {cap : Nat} {S : List RR} (h : RtsIn H base cap S) (hK : Keep H A fun _ => False) : RtsIn A base cap S := ⟨h.out.keep hK fun _ _ h => h, fun s hs => (h.inn s hs).keep hK⟩
def encB1 (x : Bool) : List Value := [.bool x]
abbrev Sp := Int × Int
def encP (x : Sp) : List Value := [.int .i64 x.1, .int .i64 x.2]

def zF : List Bool := [false, false, false, false, false, false, false, false, false, false, false]
def flipS (slot : Int) (f : List Bool) (s : Sp) : List Bool := if s.1 = slot then turnl f (ibits .and .i64 s.2 2046) else f
def flips (slot : Int) (P : List Sp) (f : List Bool) : List Bool := P.foldl (flipS slot) f
theorem turnl_len (l : List Bool) (m : Int) : (turnl l m).length = l.length := by simp [turnl]
theorem flipS_len (slot : Int) (f : List Bool) (s : Sp) : (flipS slot f s).length = f.length := by
  unfold flipS; split
  · exact turnl_len ..
  · rfl
theorem flips_len (slot : Int) : ∀ (P : List Sp) (f : List Bool), (flips slot P f).length = f.length
  | [], _ => rfl
  | s :: P, f => (flips_len slot P _).trans (flipS_len slot f s)
def frameP (XS : List (List Nf)) (T : List Tb) (B : List Bool) (P : List Sp) (slot : Int) : Int × List Bool × Bool := match sndO slot 0 T with
  | none => (-1, zF, false)
  | some (n, x) => if B.getD n false = true then match getW (XS.getD n []) x.2.2.1 x.2.2.2.1 with
    | none => (-1, zF, false)
    | some v => (n, flips slot P (putl (byt v x.2.2.2.2) false), true)
    else (-1, zF, false)
def frameV (r : Int × List Bool × Bool) : Value := .tuple #[.int .i64 r.1, .agg (r.2.1.map Value.bool).toArray, .bool r.2.2]
theorem putl_len (b : Int) (odd : Bool) : (putl b odd).length = 11 := rfl
theorem frame_len (XS : List (List Nf)) (T : List Tb) (B : List Bool) (P : List Sp) (slot : Int) : (frameP XS T B P slot).2.1.length = 11 := by
  unfold frameP
  split
  · rfl
  · split
    · split
      · rfl
      · exact (flips_len ..).trans (putl_len ..)
    · rfl
def TOk (T : List Tb) : Prop := ∀ t ∈ T, mayB t.2.2 = true
theorem mayB_good {L : List En} (h : mayB L = true) {x : En} (hx : x ∈ L) : goodE x = true ∧ x.1 ≠ 4 := by
  rw [mayB, Bool.and_eq_true, List.all_eq_true] at h
  obtain ⟨i, hi⟩ := List.mem_iff_getElem?.1 hx
  have := h.1 i (List.mem_range.2 (Go.AX.lt_of_get hi))
  rw [Chk.chk, hi] at this
  simp only [Bool.and_eq_true, Bool.not_eq_true', decide_eq_false_iff_not] at this
  exact ⟨this.1.1, this.1.2⟩
theorem good_byte {x : En} (h : goodE x = true) (h4 : x.1 ≠ 4) : (1 ≤ x.1 ∧ x.1 ≤ 3) ∧ 0 ≤ x.2.2.2.2 ∧ x.2.2.2.2 ≤ 3 := by
  obtain ⟨k, s, f, r, b⟩ := x
  dsimp only at h4
  rw [goodE, if_neg h4] at h
  simp only [Bool.and_eq_true, decide_eq_true_eq] at h
  exact ⟨⟨h.1.1.1, h.1.1.2.1⟩, h.2⟩
theorem snd_at {slot : Int} : ∀ {T : List Tb} {m n : Nat} {x : En}, sndO slot m T = some (n, x) → ∃ t, m ≤ n ∧ T[n - m]? = some t ∧ x ∈ t.2.2 ∧ snd slot x = true
  | [], _, _, _, h => by cases h
  | t :: T, m, n, x, h => by
    rw [sndO] at h
    cases hf : t.2.2.find? (snd slot) with
    | some y =>
      rw [hf] at h
      cases h
      exact ⟨t, Nat.le_refl _, by simp, List.mem_of_find?_eq_some hf, List.find?_some hf⟩
    | none =>
      rw [hf] at h
      obtain ⟨t', h1, h2, h3⟩ := snd_at h
      exact ⟨t', by omega, by rw [show n - m = (n - (m + 1)) + 1 by omega]; simpa using h2, h3⟩
theorem byt_row (v : Rc) (j : Int) (h : 0 ≤ j ∧ j ≤ 3) : (enc v)[j.toNat]? = some (.int .u8 (byt v j)) := by
  rcases (show j = 0 ∨ j = 1 ∨ j = 2 ∨ j = 3 by omega) with rfl | rfl | rfl | rfl <;> rfl
theorem byt_range {v : Rc} (h : RcOk v) (j : Int) : 0 ≤ byt v j ∧ byt v j < 256 := by
  obtain ⟨⟨a, b⟩, ⟨c, d⟩, ⟨e, f⟩, g, i⟩ := h
  unfold byt
  split
  · omega
  · split
    · omega
    · split <;> omega
theorem getW_ok {X : List Nf} (hX : OkX X) {n rec : Int} {v : Rc} (h : getW X n rec = some v) : RcOk v := by
  obtain ⟨f, hl, _, hv⟩ := getW_some h
  exact (hX.lk hl).2.2 v (List.mem_of_getElem? hv)
theorem Frame_c (S : List SR) (T : List Tb) (B : List Bool) (P : List Sp) (bs bt bb bp : Option Addr) (cs ct cb cp : Nat) (slot : Int) (H : AH) (hS : StsIn H bs cs S) (hT : TabIn H bt ct T) (hB : SlcIn H 1 bb cb (B.map encB1)) (hP : SlcIn H 2 bp cp (P.map encP)) (ht : TOk T) (hl1 : T.length ≤ S.length) (hl2 : T.length ≤ B.length) :
    ACalls Tryz.prog 29 #[.slice bs S.length cs, .slice bt T.length ct, .slice bb B.length cb, .slice bp P.length cp, .int .i64 slot] H (fun v H' => v = frameV (frameP (S.map (·.X)) T B P slot) ∧ H = H') := by
  have hpl := hP.big
  simp only [List.length_map] at hpl
  have hsn := fun H1 (h : TabIn H1 bt ct T) => Sender_c T bt ct slot H1 h
  unfold sN sX at hsn
  unfold frameP
  refine ACalls.enter2 Tryz.func29 rfl Tryz.ntmps29 Tryz.results29 (by simp) ?_; simp (dsimp := false) (maxSteps := 4000000) only [encE_len, encE_scal, encE_z5, encE_take, enc_len, enc_scal, lput_enc, take_enc, go_sem]
  refine AllB.mk fun b11 h_b11 => ?_; have hn_b11 := h_b11; (try simp only [fresh_add, fresh_set, ne_eq] at hn_b11); have hr_b11 := hn_b11; (try simp only [@eq_comm Nat b11] at hr_b11); simp (dsimp := false) (maxSteps := 4000000) only [encE_len, encE_scal, encE_z5, encE_take, enc_len, enc_scal, lput_enc, take_enc, hn_b11, hr_b11, go_sem]
  refine (hsn _ (hT.add h_b11)).mono ?_
  rintro _ _ ⟨rfl, rfl⟩
  cases hso : sndO slot 0 T with
  | none =>
    
    simp (dsimp := false) (maxSteps := 4000000) only [encE_len, encE_scal, encE_z5, encE_take, enc_len, enc_scal, lput_enc, take_enc, hn_b11, hr_b11, go_sem]
    refine AllB.mk fun b14 h_b14 => ?_; have hn_b14 := h_b14; (try simp only [fresh_add, fresh_set, ne_eq] at hn_b14); have hr_b14 := hn_b14; (try simp only [@eq_comm Nat b14] at hr_b14); simp (dsimp := false) (maxSteps := 4000000) only [encE_len, encE_scal, encE_z5, encE_take, enc_len, enc_scal, lput_enc, take_enc, hn_b11, hr_b11, hn_b14, hr_b14, go_sem]
    exact ⟨H, (AH.le_add (AH.le_add (AH.le_refl _) ((by simp only [encE_len, encE_scal, encE_z5, encE_take, enc_len, enc_scal, lput_enc, take_enc, fresh_add, fresh_set, ne_eq, hn_b11, not_false_eq_true, and_self] : Fresh _ b11).2)) ((by simp only [encE_len, encE_scal, encE_z5, encE_take, enc_len, enc_scal, lput_enc, take_enc, fresh_add, fresh_set, ne_eq, hn_b14, not_false_eq_true, and_self] : Fresh _ b14).2)), rfl, rfl⟩
    
  | some nx =>
    obtain ⟨n, x⟩ := nx
    obtain ⟨t, _, htn, hxt, hsx⟩ := snd_at hso
    rw [Nat.sub_zero] at htn
    have hn := Go.AX.lt_of_get htn
    obtain ⟨s, hs⟩ := get_some (l := S) (i := n) (by omega)
    obtain ⟨lv, hlv⟩ := get_some (l := B) (i := n) (by omega)
    have eB : B.getD n false = lv := by rw [List.getD_eq_getElem?_getD, hlv]; rfl
    have eX : (S.map (·.X)).getD n [] = s.X := by rw [List.getD_eq_getElem?_getD, List.getElem?_map, hs]; rfl
    obtain ⟨gd, g4⟩ := mayB_good (ht t (List.mem_of_getElem? htn)) hxt
    obtain ⟨_, hb0⟩ := good_byte gd g4
    have hn0 : (0 : Int) ≤ (n : Int) := by omega
    have hn1 : ¬ (n : Int) < 0 := by omega
    have hnB : (n : Int) < (B.length : Int) := by omega
    have hnS : (n : Int) < (S.length : Int) := by omega
    obtain ⟨q1, o1, rfl, _, hr1⟩ := hB.get (Go.AX.map_get (f := encB1) hlv)
    have rB := hr1 0 _ rfl
    simp only [Nat.add_zero, Nat.mul_one] at rB
    obtain ⟨q2, o2, rfl, _, hr2⟩ := hS.out.get (Go.AX.map_get (f := encS) hs)
    have rS := hr2 0 _ rfl
    simp only [Nat.add_zero, Nat.mul_one] at rS
    have hsI := hS.inn s (List.mem_of_getElem? hs)
    dsimp only
    rw [eB, eX]
    simp (dsimp := false) (maxSteps := 4000000) only [encE_len, encE_scal, encE_z5, encE_take, enc_len, enc_scal, lput_enc, take_enc, hn_b11, hr_b11, go_sem]
    refine AllB.mk fun b14 h_b14 => ?_; have hn_b14 := h_b14; (try simp only [fresh_add, fresh_set, ne_eq] at hn_b14); have hr_b14 := hn_b14; (try simp only [@eq_comm Nat b14] at hr_b14); simp (dsimp := false) (maxSteps := 4000000) only [encE_len, encE_scal, encE_z5, encE_take, enc_len, enc_scal, lput_enc, take_enc, hn_b11, hr_b11, hn_b14, hr_b14, go_sem]
    have m1 : ¬ b11 = q1 := h_b11.ne_rd rB
    have m2 : ¬ b14 = q1 := hn_b14.2.ne_rd rB
    have m3 : ¬ b11 = q2 := h_b11.ne_rd rS
    have m4 : ¬ b14 = q2 := hn_b14.2.ne_rd rS
    cases lv with
    | false =>
      
      simp (dsimp := false) (maxSteps := 4000000) only [hn1, hn0, hnB, rB, m1, m2, encE_len, encE_scal, encE_z5, encE_take, enc_len, enc_scal, lput_enc, take_enc, hn_b11, hr_b11, hn_b14, hr_b14, go_sem]
      exact ⟨H, (AH.le_add (AH.le_add (AH.le_refl _) ((by simp only [encE_len, encE_scal, encE_z5, encE_take, enc_len, enc_scal, lput_enc, take_enc, fresh_add, fresh_set, ne_eq, hn_b11, not_false_eq_true, and_self] : Fresh _ b11).2)) ((by simp only [encE_len, encE_scal, encE_z5, encE_take, enc_len, enc_scal, lput_enc, take_enc, fresh_add, fresh_set, ne_eq, hn_b14, not_false_eq_true, and_self] : Fresh _ b14).2)), rfl, rfl⟩
      
    | true =>
      obtain ⟨k, sl, fl, rc, by_⟩ := x
      have eE : encE (k, sl, fl, rc, by_) = [.int .i64 k, .int .i64 sl, .int .i64 fl, .int .i64 rc, .int .i64 by_] := rfl
      dsimp only at hb0 ⊢
      simp (dsimp := false) (maxSteps := 4000000) only [hn1, hn0, hnB, rB, m1, m2, encE_len, encE_scal, encE_z5, encE_take, enc_len, enc_scal, lput_enc, take_enc, hn_b11, hr_b11, hn_b14, hr_b14, go_sem]
      refine AWp.gen [.pu, .pu, .pu, .rd, .pu, .rd, .pu, .rd, .ch, .pu, .pu, .pu, .al, .ch, .pu] [0, 0, 3, 7, 0, 16, 0, 64, 255, 511, 1023, 1023, 0, 6143, 16383] 0 (_) mixed (by kernel_rfl) (AH.le_refl _) ?_
      simp (dsimp := false) (maxSteps := 4000000) only [hn0, hnS, rS, m3, m4, eE, encE_len, encE_scal, encE_z5, encE_take, enc_len, enc_scal, lput_enc, take_enc, hn_b11, hr_b11, hn_b14, hr_b14, go_sem]
      have k2 : Keep H ((H.add b11 (.cells [.bool false, .bool false, .bool false, .bool false, .bool false, .bool false, .bool false, .bool false, .bool false, .bool false, .bool false] 87 11)).add b14 (.cells (encE (k, sl, fl, rc, by_)) 79 5)) fun _ => False := (Keep.refl.nw h_b11).nw (by simp only [fresh_add, ne_eq, hn_b14, not_false_eq_true, and_self])
      refine (Get_c (hsI.keep k2).1 hsI.2 fl rc).mono ?_; rintro _ _ ⟨rfl, rfl⟩
      cases hg : getW s.X fl rc with
      | none =>
        
        unfold getV
        simp (dsimp := false) (maxSteps := 4000000) only [encE_len, encE_scal, encE_z5, encE_take, enc_len, enc_scal, lput_enc, take_enc, hn_b11, hr_b11, hn_b14, hr_b14, go_sem]
        refine AllB.mk fun b15 h_b15 => ?_; have hn_b15 := h_b15; (try simp only [fresh_add, fresh_set, ne_eq] at hn_b15); have hr_b15 := hn_b15; (try simp only [@eq_comm Nat b15] at hr_b15); simp (dsimp := false) (maxSteps := 4000000) only [encE_len, encE_scal, encE_z5, encE_take, enc_len, enc_scal, lput_enc, take_enc, hn_b11, hr_b11, hn_b14, hr_b14, hn_b15, hr_b15, go_sem]
        exact ⟨H, (AH.le_add (AH.le_add (AH.le_add (AH.le_refl _) ((by simp only [encE_len, encE_scal, encE_z5, encE_take, enc_len, enc_scal, lput_enc, take_enc, fresh_add, fresh_set, ne_eq, hn_b11, not_false_eq_true, and_self] : Fresh _ b11).2)) ((by simp only [encE_len, encE_scal, encE_z5, encE_take, enc_len, enc_scal, lput_enc, take_enc, fresh_add, fresh_set, ne_eq, hn_b14, not_false_eq_true, and_self] : Fresh _ b14).2)) ((by simp only [encE_len, encE_scal, encE_z5, encE_take, enc_len, enc_scal, lput_enc, take_enc, fresh_add, fresh_set, ne_eq, hn_b15, not_false_eq_true, and_self] : Fresh _ b15).2)), rfl, rfl⟩
        
      | some v =>
        have hvr := getW_ok hsI.2 hg
        unfold getV
        simp (dsimp := false) (maxSteps := 4000000) only [encE_len, encE_scal, encE_z5, encE_take, enc_len, enc_scal, lput_enc, take_enc, hn_b11, hr_b11, hn_b14, hr_b14, go_sem]
        refine AllB.mk fun b15 h_b15 => ?_; have hn_b15 := h_b15; (try simp only [fresh_add, fresh_set, ne_eq] at hn_b15); have hr_b15 := hn_b15; (try simp only [@eq_comm Nat b15] at hr_b15); simp (dsimp := false) (maxSteps := 4000000) only [encE_len, encE_scal, encE_z5, encE_take, enc_len, enc_scal, lput_enc, take_enc, hn_b11, hr_b11, hn_b14, hr_b14, hn_b15, hr_b15, go_sem]
        obtain ⟨j, rfl⟩ : ∃ j : Nat, by_ = j := ⟨by_.toNat, by omega⟩
        have hj0 : (0 : Int) ≤ (j : Int) := by omega
        have hj4 : (j : Int) < 4 := by omega
        have hrow : (enc v)[j]? = some (.int .u8 (byt v j)) := by have := byt_row v j (by omega); simpa using this
        obtain ⟨f0, hf0⟩ : ∃ f0, putl (byt v j) false = f0 := ⟨_, rfl⟩
        have hlf : f0.length = 11 := by rw [← hf0]; rfl
        have hpt := fun H1 => Uart.Put_c (byt v j) false (byt_range hvr _) H1
        rw [hf0] at hpt
        simp (dsimp := false) (maxSteps := 4000000) only [eE, hj0, hj4, hrow, encE_len, encE_scal, encE_z5, encE_take, enc_len, enc_scal, lput_enc, take_enc, hn_b11, hr_b11, hn_b14, hr_b14, hn_b15, hr_b15, go_sem]
        refine (hpt _).mono ?_; rintro _ _ ⟨rfl, rfl⟩
        have hmf : (f0.map Value.bool).length = 11 := by simp [hlf]
        simp (dsimp := false) (maxSteps := 4000000) only [hmf, encE_len, encE_scal, encE_z5, encE_take, enc_len, enc_scal, lput_enc, take_enc, hn_b11, hr_b11, hn_b14, hr_b14, hn_b15, hr_b15, go_sem]
        have hmk : ∀ i, ((flips slot (P.take i) f0).map Value.bool).length = 11 := fun i => by rw [List.length_map, flips_len, hlf]
        have g17 : ∀ {b17 i}, Fresh (((H.add b11 (.cells ((flips slot (P.take i) f0).map Value.bool) 87 11)).add b14 (.cells (encE (k, sl, fl, rc, (j : Int))) 79 5)).add b15 (.cells (enc v) 26 4)) b17 → Fresh H b17 := fun {b17 i} h => by
          simp only [fresh_add, ne_eq] at h; exact h.2.2.2
        refine AWp.loopo (ι := Nat) (fun i => i ≤ P.length) (fun i => [(56, .int .i64 i), (55, .int .i64 P.length), (54, .slice bp P.length cp), (4, .int .i64 slot), (13, .int .i64 n), (11, .pointer (some ⟨b11, 0, none⟩))])
          (fun i => ((H.add b11 (.cells ((flips slot (P.take i) f0).map Value.bool) 87 11)).add b14 (.cells (encE (k, sl, fl, rc, (j : Int))) 79 5)).add b15 (.cells (enc v) 26 4)) (fun i => P.length - i) 0 (by omega) (FrLe.of_lks ?_) (by simp only [List.take_zero]; exact AH.le_refl _) fun i hi Q again out => ?_
        · simp (dsimp := false) (maxSteps := 4000000) only [encE_len, encE_scal, encE_z5, encE_take, enc_len, enc_scal, lput_enc, take_enc, hn_b11, hr_b11, hn_b14, hr_b14, hn_b15, hr_b15, go_sem]
        by_cases hlt : (i : Int) < P.length
        · obtain ⟨y, hy⟩ := get_some (l := P) (i := i) (by omega)
          obtain ⟨q3, o3, rfl, hr3, _⟩ := hP.get (Go.AX.map_get (f := encP) hy)
          have ee := i64_succ (i := i) (by omega)
          have hi0 : (0 : Int) ≤ (i : Int) := by omega
          have m5 : ¬ b11 = q3 := h_b11.ne_row hr3
          have m6 : ¬ b14 = q3 := hn_b14.2.ne_row hr3
          have m7 : ¬ b15 = q3 := hn_b15.2.2.ne_row hr3
          have hst : flips slot (P.take (i + 1)) f0 = flipS slot (flips slot (P.take i) f0) y := by
            rw [flips, flips, List.take_add_one, hy, List.foldl_append]; rfl
          have hkm := hmk i
          obtain ⟨y1, y2⟩ := y
          have eP : encP (y1, y2) = [.int .i64 y1, .int .i64 y2] := rfl
          
          simp (dsimp := false) (maxSteps := 4000000) only [hlt, hi0, hr3, m5, m6, m7, eP, hkm, encE_len, encE_scal, encE_z5, encE_take, enc_len, enc_scal, lput_enc, take_enc, hn_b11, hr_b11, hn_b14, hr_b14, hn_b15, hr_b15, go_sem]
          refine AllB.mk fun b17 h_b17 => ?_; have hn_b17 := h_b17; (try simp only [fresh_add, fresh_set, ne_eq] at hn_b17); have hr_b17 := hn_b17; (try simp only [@eq_comm Nat b17] at hr_b17); simp (dsimp := false) (maxSteps := 4000000) only [encE_len, encE_scal, encE_z5, encE_take, enc_len, enc_scal, lput_enc, take_enc, hn_b11, hr_b11, hn_b14, hr_b14, hn_b15, hr_b15, hn_b17, hr_b17, go_sem]
          by_cases hsl : y1 = slot
          · have hst' : flips slot (P.take (i + 1)) f0 = turnl (flips slot (P.take i) f0) (ibits .and .i64 y2 2046) := by rw [hst, flipS, if_pos hsl]
            have htn := fun H1 => Uart.Turn_c (flips slot (P.take i) f0) (by rw [flips_len, hlf]) (ibits .and .i64 y2 2046) H1
            rw [← hst'] at htn
            have hk1 := hmk (i + 1)
            simp (dsimp := false) (maxSteps := 4000000) only [hsl, hkm, encE_len, encE_scal, encE_z5, encE_take, enc_len, enc_scal, lput_enc, take_enc, hn_b11, hr_b11, hn_b14, hr_b14, hn_b15, hr_b15, hn_b17, hr_b17, go_sem]
            refine (htn _).mono ?_; rintro _ _ ⟨rfl, rfl⟩
            simp (dsimp := false) (maxSteps := 4000000) only [hkm, hk1, ee, encE_len, encE_scal, encE_z5, encE_take, enc_len, enc_scal, lput_enc, take_enc, hn_b11, hr_b11, hn_b14, hr_b14, hn_b15, hr_b15, hn_b17, hr_b17, go_sem]
            exact again (i + 1) _ _ (by omega) (FrLe.of_lks (by simp (dsimp := false) (maxSteps := 4000000) only [encE_len, encE_scal, encE_z5, encE_take, enc_len, enc_scal, lput_enc, take_enc, hn_b11, hr_b11, hn_b14, hr_b14, hn_b15, hr_b15, hn_b17, hr_b17, go_sem])) (AH.le_add (AH.le_refl _) (by simp only [fresh_add, fresh_set, ne_eq, hn_b17, not_false_eq_true, and_self] : Fresh _ b17).2) (by omega)
          · have hst' : flips slot (P.take (i + 1)) f0 = flips slot (P.take i) f0 := by rw [hst, flipS, if_neg hsl]
            simp (dsimp := false) (maxSteps := 4000000) only [hsl, ee, encE_len, encE_scal, encE_z5, encE_take, enc_len, enc_scal, lput_enc, take_enc, hn_b11, hr_b11, hn_b14, hr_b14, hn_b15, hr_b15, hn_b17, hr_b17, go_sem]
            exact again (i + 1) _ _ (by omega) (FrLe.of_lks (by simp (dsimp := false) (maxSteps := 4000000) only [encE_len, encE_scal, encE_z5, encE_take, enc_len, enc_scal, lput_enc, take_enc, hn_b11, hr_b11, hn_b14, hr_b14, hn_b15, hr_b15, hn_b17, hr_b17, go_sem])) (by rw [hst']; exact AH.le_add (AH.le_refl _) h_b17.2) (by omega)
          
        · obtain rfl : i = P.length := by omega
          have hkm := hmk P.length
          rw [List.take_length] at hkm ⊢
          simp (dsimp := false) (maxSteps := 4000000) only [hlt, encE_len, encE_scal, encE_z5, encE_take, enc_len, enc_scal, lput_enc, take_enc, hn_b11, hr_b11, hn_b14, hr_b14, hn_b15, hr_b15, go_sem]
          refine out _ _ _ (by simp) ?_
          refine AWp.gen [.pu, .rd, .pu, .ch, .pu] [0, 0, 1, 7, 15] 0 (_) mixed (by kernel_rfl) (AH.le_refl _) ?_
          simp (dsimp := false) (maxSteps := 4000000) only [hkm, encE_len, encE_scal, encE_z5, encE_take, enc_len, enc_scal, lput_enc, take_enc, hn_b11, hr_b11, hn_b14, hr_b14, hn_b15, hr_b15, go_sem]
          refine ⟨H, (AH.le_add (AH.le_add (AH.le_add (AH.le_refl _) ((by simp only [encE_len, encE_scal, encE_z5, encE_take, enc_len, enc_scal, lput_enc, take_enc, fresh_add, fresh_set, ne_eq, hn_b11, not_false_eq_true, and_self] : Fresh _ b11).2)) ((by simp only [encE_len, encE_scal, encE_z5, encE_take, enc_len, enc_scal, lput_enc, take_enc, fresh_add, fresh_set, ne_eq, hn_b14, not_false_eq_true, and_self] : Fresh _ b14).2)) ((by simp only [encE_len, encE_scal, encE_z5, encE_take, enc_len, enc_scal, lput_enc, take_enc, fresh_add, fresh_set, ne_eq, hn_b15, not_false_eq_true, and_self] : Fresh _ b15).2)), ?_, rfl⟩
          rw [hf0]
          rfl
end Go.Proofs.YtamlipffhimfmaaGreatDoor.Prt

/- part: the reference's Frame. -/
namespace Go.Proofs.YtamlipffhimfmaaGreatDoor.Prt
set_option linter.unusedSimpArgs false
set_option linter.unusedVariables false
open Go Go.AX Go.Proofs Ty Go.Proofs.YtamlipffhimfmaaGreatDoor.File Go.Proofs.YtamlipffhimfmaaGreatDoor.Ifs Go.Proofs.YtamlipffhimfmaaGreatDoor.Uart
open Go.Proofs.YtamlipffhimfmaaGreatDoor.Chk (Tb TabIn sndO snd mayB goodE sN sX encE ze encT Sender_c RefSender_c tabs encE_len encE_scal encE_z5 encE_take)
set_option maxHeartbeats 4000000
set_option maxRecDepth 10000

theorem bitI_nat (n j : Nat) : bitI (n : Int) j = n.testBit j := by
  rw [Nat.testBit_eq_decide_div_mod_eq]
  unfold bitI
  have e : ((n : Int) / 2 ^ j % 2) = ((n / 2 ^ j % 2 : Nat) : Int) := by push_cast; rfl
  rw [e, Bool.eq_iff_iff]
  simp
  omega
theorem and_2046 (m : Int) : ibits .and .i64 m 2046 = (((BitVec.ofInt 64 m).toNat &&& 2046 : Nat) : Int) := by
  have h1 : (BitVec.ofInt 64 m).toNat &&& 2046 ≤ 2046 := Nat.and_le_right
  show IntKind.i64.wrap ((BitVec.ofInt 64 m &&& BitVec.ofInt 64 2046).toNat : Int) = _
  rw [BitVec.toNat_and, show (BitVec.ofInt 64 2046).toNat = 2046 from rfl]
  exact i64_eq (by omega) (by omega)
theorem bit_2046 (m : Int) {j : Nat} (hj : j < 11) : bitI (ibits .and .i64 m 2046) j = (decide (j ≠ 0) && bitI m j) := by
  rw [and_2046, bitI_nat, Nat.testBit_and]
  have e1 : bitI m j = (BitVec.ofInt 64 m).toNat.testBit j := by
    rw [← bitI_nat, BitVec.toNat_ofInt, ← bitU_eq m j (by omega)]
    unfold bitI
    rw [Int.toNat_of_nonneg (by omega)]
    rfl
  have e2 : (2046 : Nat).testBit j = decide (j ≠ 0) := by
    have : ∀ j : Fin 11, (2046 : Nat).testBit j.val = decide (j.val ≠ 0) := by decide
    exact this ⟨j, hj⟩
  rw [e1, e2, Bool.and_comm]
theorem turn_first {l : List Bool} (hl : l.length = 11) (m : Int) : (turnl l m).set 0 (l.getD 0 false) = turnl l (ibits .and .i64 m 2046) := by
  apply List.ext_getElem?
  intro j
  rw [List.getElem?_set]
  simp only [turnl, List.length_mapIdx, List.getElem?_mapIdx]
  by_cases h0 : 0 = j
  · subst h0
    rw [if_pos rfl, if_pos (by omega), bit_2046 m (by omega)]
    obtain ⟨x, hx⟩ := get_some (l := l) (i := 0) (by omega)
    rw [List.getD_eq_getElem?_getD, hx]
    simp
  · rw [if_neg h0]
    cases hx : l[j]? with
    | none => rfl
    | some x =>
      rw [Option.map_some, Option.map_some, bit_2046 m (by have := Go.AX.lt_of_get hx; omega)]
      have : decide (j ≠ 0) = true := by simp; omega
      rw [this, Bool.true_and]
theorem RefFrame_c (S : List RR) (T : List Tb) (B : List Bool) (P : List Sp) (bs bt bb bp : Option Addr) (cs ct cb cp : Nat) (slot : Int) (H : AH) (hS : RtsIn H bs cs S) (hT : TabIn H bt ct T) (hB : SlcIn H 1 bb cb (B.map encB1)) (hP : SlcIn H 2 bp cp (P.map encP)) (ht : TOk T) (hl1 : T.length ≤ S.length) (hl2 : T.length ≤ B.length) :
    ACalls Tryz.prog 30 #[.slice bs S.length cs, .slice bt T.length ct, .slice bb B.length cb, .slice bp P.length cp, .int .i64 slot] H (fun v H' => v = frameV (frameP (S.map (fun r => r.Z.map RF.nf)) T B P slot) ∧ H = H') := by
  have hpl := hP.big
  simp only [List.length_map] at hpl
  have hsn := fun H1 (h : TabIn H1 bt ct T) => RefSender_c T bt ct slot H1 h
  unfold sN sX at hsn
  unfold frameP
  refine ACalls.enter2 Tryz.func30 rfl Tryz.ntmps30 Tryz.results30 (by simp) ?_; simp (dsimp := false) (maxSteps := 4000000) only [encE_len, encE_scal, encE_z5, encE_take, enc_len, enc_scal, lput_enc, take_enc, go_sem]
  refine AllB.mk fun b11 h_b11 => ?_; have hn_b11 := h_b11; (try simp only [fresh_add, fresh_set, ne_eq] at hn_b11); have hr_b11 := hn_b11; (try simp only [@eq_comm Nat b11] at hr_b11); simp (dsimp := false) (maxSteps := 4000000) only [encE_len, encE_scal, encE_z5, encE_take, enc_len, enc_scal, lput_enc, take_enc, hn_b11, hr_b11, go_sem]
  refine (hsn _ (hT.add h_b11)).mono ?_
  rintro _ _ ⟨rfl, rfl⟩
  cases hso : sndO slot 0 T with
  | none =>
    
    simp (dsimp := false) (maxSteps := 4000000) only [encE_len, encE_scal, encE_z5, encE_take, enc_len, enc_scal, lput_enc, take_enc, hn_b11, hr_b11, go_sem]
    refine AllB.mk fun b14 h_b14 => ?_; have hn_b14 := h_b14; (try simp only [fresh_add, fresh_set, ne_eq] at hn_b14); have hr_b14 := hn_b14; (try simp only [@eq_comm Nat b14] at hr_b14); simp (dsimp := false) (maxSteps := 4000000) only [encE_len, encE_scal, encE_z5, encE_take, enc_len, enc_scal, lput_enc, take_enc, hn_b11, hr_b11, hn_b14, hr_b14, go_sem]
    exact ⟨H, (AH.le_add (AH.le_add (AH.le_refl _) ((by simp only [encE_len, encE_scal, encE_z5, encE_take, enc_len, enc_scal, lput_enc, take_enc, fresh_add, fresh_set, ne_eq, hn_b11, not_false_eq_true, and_self] : Fresh _ b11).2)) ((by simp only [encE_len, encE_scal, encE_z5, encE_take, enc_len, enc_scal, lput_enc, take_enc, fresh_add, fresh_set, ne_eq, hn_b14, not_false_eq_true, and_self] : Fresh _ b14).2)), rfl, rfl⟩
    
  | some nx =>
    obtain ⟨n, x⟩ := nx
    obtain ⟨t, _, htn, hxt, hsx⟩ := snd_at hso
    rw [Nat.sub_zero] at htn
    have hn := Go.AX.lt_of_get htn
    obtain ⟨s, hs⟩ := get_some (l := S) (i := n) (by omega)
    obtain ⟨lv, hlv⟩ := get_some (l := B) (i := n) (by omega)
    have eB : B.getD n false = lv := by rw [List.getD_eq_getElem?_getD, hlv]; rfl
    have eX : (S.map (fun r => r.Z.map RF.nf)).getD n [] = s.Z.map RF.nf := by rw [List.getD_eq_getElem?_getD, List.getElem?_map, hs]; rfl
    obtain ⟨gd, g4⟩ := mayB_good (ht t (List.mem_of_getElem? htn)) hxt
    obtain ⟨_, hb0⟩ := good_byte gd g4
    have hn0 : (0 : Int) ≤ (n : Int) := by omega
    have hn1 : ¬ (n : Int) < 0 := by omega
    have hnB : (n : Int) < (B.length : Int) := by omega
    have hnS : (n : Int) < (S.length : Int) := by omega
    obtain ⟨q1, o1, rfl, _, hr1⟩ := hB.get (Go.AX.map_get (f := encB1) hlv)
    have rB := hr1 0 _ rfl
    simp only [Nat.add_zero, Nat.mul_one] at rB
    obtain ⟨q2, o2, rfl, _, hr2⟩ := hS.out.get (Go.AX.map_get (f := encR) hs)
    have rS := hr2 0 _ rfl
    simp only [Nat.add_zero, Nat.mul_one] at rS
    have hsI := hS.inn s (List.mem_of_getElem? hs)
    dsimp only
    rw [eB, eX]
    simp (dsimp := false) (maxSteps := 4000000) only [encE_len, encE_scal, encE_z5, encE_take, enc_len, enc_scal, lput_enc, take_enc, hn_b11, hr_b11, go_sem]
    refine AllB.mk fun b14 h_b14 => ?_; have hn_b14 := h_b14; (try simp only [fresh_add, fresh_set, ne_eq] at hn_b14); have hr_b14 := hn_b14; (try simp only [@eq_comm Nat b14] at hr_b14); simp (dsimp := false) (maxSteps := 4000000) only [encE_len, encE_scal, encE_z5, encE_take, enc_len, enc_scal, lput_enc, take_enc, hn_b11, hr_b11, hn_b14, hr_b14, go_sem]
    have m1 : ¬ b11 = q1 := h_b11.ne_rd rB
    have m2 : ¬ b14 = q1 := hn_b14.2.ne_rd rB
    have m3 : ¬ b11 = q2 := h_b11.ne_rd rS
    have m4 : ¬ b14 = q2 := hn_b14.2.ne_rd rS
    cases lv with
    | false =>
      
      simp (dsimp := false) (maxSteps := 4000000) only [hn1, hn0, hnB, rB, m1, m2, encE_len, encE_scal, encE_z5, encE_take, enc_len, enc_scal, lput_enc, take_enc, hn_b11, hr_b11, hn_b14, hr_b14, go_sem]
      exact ⟨H, (AH.le_add (AH.le_add (AH.le_refl _) ((by simp only [encE_len, encE_scal, encE_z5, encE_take, enc_len, enc_scal, lput_enc, take_enc, fresh_add, fresh_set, ne_eq, hn_b11, not_false_eq_true, and_self] : Fresh _ b11).2)) ((by simp only [encE_len, encE_scal, encE_z5, encE_take, enc_len, enc_scal, lput_enc, take_enc, fresh_add, fresh_set, ne_eq, hn_b14, not_false_eq_true, and_self] : Fresh _ b14).2)), rfl, rfl⟩
      
    | true =>
      obtain ⟨k, sl, fl, rc, by_⟩ := x
      have eE : encE (k, sl, fl, rc, by_) = [.int .i64 k, .int .i64 sl, .int .i64 fl, .int .i64 rc, .int .i64 by_] := rfl
      dsimp only at hb0 ⊢
      simp (dsimp := false) (maxSteps := 4000000) only [hn1, hn0, hnB, rB, m1, m2, encE_len, encE_scal, encE_z5, encE_take, enc_len, enc_scal, lput_enc, take_enc, hn_b11, hr_b11, hn_b14, hr_b14, go_sem]
      refine AWp.gen [.pu, .pu, .pu, .rd, .pu, .rd, .pu, .rd, .ch, .pu, .pu, .pu, .al, .ch, .pu] [0, 0, 3, 7, 0, 16, 0, 64, 255, 511, 1023, 1023, 0, 6143, 16383] 0 (_) mixed (by kernel_rfl) (AH.le_refl _) ?_
      simp (dsimp := false) (maxSteps := 4000000) only [hn0, hnS, rS, m3, m4, eE, encE_len, encE_scal, encE_z5, encE_take, enc_len, enc_scal, lput_enc, take_enc, hn_b11, hr_b11, hn_b14, hr_b14, go_sem]
      have k2 : Keep H ((H.add b11 (.cells [.bool false, .bool false, .bool false, .bool false, .bool false, .bool false, .bool false, .bool false, .bool false, .bool false, .bool false] 87 11)).add b14 (.cells (encE (k, sl, fl, rc, by_)) 79 5)) fun _ => False := (Keep.refl.nw h_b11).nw (by simp only [fresh_add, ne_eq, hn_b14, not_false_eq_true, and_self])
      refine (RefGet_c (hsI.keep k2).1.at fl rc).mono ?_; rintro _ _ ⟨rfl, rfl⟩
      cases hg : getW (s.Z.map RF.nf) fl rc with
      | none =>
        
        unfold getV
        simp (dsimp := false) (maxSteps := 4000000) only [encE_len, encE_scal, encE_z5, encE_take, enc_len, enc_scal, lput_enc, take_enc, hn_b11, hr_b11, hn_b14, hr_b14, go_sem]
        refine AllB.mk fun b15 h_b15 => ?_; have hn_b15 := h_b15; (try simp only [fresh_add, fresh_set, ne_eq] at hn_b15); have hr_b15 := hn_b15; (try simp only [@eq_comm Nat b15] at hr_b15); simp (dsimp := false) (maxSteps := 4000000) only [encE_len, encE_scal, encE_z5, encE_take, enc_len, enc_scal, lput_enc, take_enc, hn_b11, hr_b11, hn_b14, hr_b14, hn_b15, hr_b15, go_sem]
        exact ⟨H, (AH.le_add (AH.le_add (AH.le_add (AH.le_refl _) ((by simp only [encE_len, encE_scal, encE_z5, encE_take, enc_len, enc_scal, lput_enc, take_enc, fresh_add, fresh_set, ne_eq, hn_b11, not_false_eq_true, and_self] : Fresh _ b11).2)) ((by simp only [encE_len, encE_scal, encE_z5, encE_take, enc_len, enc_scal, lput_enc, take_enc, fresh_add, fresh_set, ne_eq, hn_b14, not_false_eq_true, and_self] : Fresh _ b14).2)) ((by simp only [encE_len, encE_scal, encE_z5, encE_take, enc_len, enc_scal, lput_enc, take_enc, fresh_add, fresh_set, ne_eq, hn_b15, not_false_eq_true, and_self] : Fresh _ b15).2)), rfl, rfl⟩
        
      | some v =>
        have hvr := getW_ok hsI.2 hg
        unfold getV
        simp (dsimp := false) (maxSteps := 4000000) only [encE_len, encE_scal, encE_z5, encE_take, enc_len, enc_scal, lput_enc, take_enc, hn_b11, hr_b11, hn_b14, hr_b14, go_sem]
        refine AllB.mk fun b15 h_b15 => ?_; have hn_b15 := h_b15; (try simp only [fresh_add, fresh_set, ne_eq] at hn_b15); have hr_b15 := hn_b15; (try simp only [@eq_comm Nat b15] at hr_b15); simp (dsimp := false) (maxSteps := 4000000) only [encE_len, encE_scal, encE_z5, encE_take, enc_len, enc_scal, lput_enc, take_enc, hn_b11, hr_b11, hn_b14, hr_b14, hn_b15, hr_b15, go_sem]
        obtain ⟨j, rfl⟩ : ∃ j : Nat, by_ = j := ⟨by_.toNat, by omega⟩
        have hj0 : (0 : Int) ≤ (j : Int) := by omega
        have hj4 : (j : Int) < 4 := by omega
        have hrow : (enc v)[j]? = some (.int .u8 (byt v j)) := by have := byt_row v j (by omega); simpa using this
        obtain ⟨f0, hf0⟩ : ∃ f0, putl (byt v j) false = f0 := ⟨_, rfl⟩
        have hlf : f0.length = 11 := by rw [← hf0]; rfl
        have hpt := fun H1 => Uart.RefPut_c (byt v j) false (byt_range hvr _) H1
        rw [hf0] at hpt
        simp (dsimp := false) (maxSteps := 4000000) only [eE, hj0, hj4, hrow, encE_len, encE_scal, encE_z5, encE_take, enc_len, enc_scal, lput_enc, take_enc, hn_b11, hr_b11, hn_b14, hr_b14, hn_b15, hr_b15, go_sem]
        refine (hpt _).mono ?_; rintro _ _ ⟨rfl, rfl⟩
        have hmf : (f0.map Value.bool).length = 11 := by simp [hlf]
        simp (dsimp := false) (maxSteps := 4000000) only [hmf, encE_len, encE_scal, encE_z5, encE_take, enc_len, enc_scal, lput_enc, take_enc, hn_b11, hr_b11, hn_b14, hr_b14, hn_b15, hr_b15, go_sem]
        refine AllB.mk fun b17 h_b17 => ?_; have hn_b17 := h_b17; (try simp only [fresh_add, fresh_set, ne_eq] at hn_b17); have hr_b17 := hn_b17; (try simp only [@eq_comm Nat b17] at hr_b17); simp (dsimp := false) (maxSteps := 4000000) only [encE_len, encE_scal, encE_z5, encE_take, enc_len, enc_scal, lput_enc, take_enc, hn_b11, hr_b11, hn_b14, hr_b14, hn_b15, hr_b15, hn_b17, hr_b17, go_sem]
        simp (dsimp := false) (maxSteps := 4000000) only [hlf, hmf, encE_len, encE_scal, encE_z5, encE_take, enc_len, enc_scal, lput_enc, take_enc, hn_b11, hr_b11, hn_b14, hr_b14, hn_b15, hr_b15, hn_b17, hr_b17, go_sem]
        have hmk : ∀ i, ((flips slot (P.take i) f0).map Value.bool).length = 11 := fun i => by rw [List.length_map, flips_len, hlf]
        have hmk2 : ∀ i, (flips slot (P.take i) f0).length = 11 := fun i => by rw [flips_len, hlf]
        refine AWp.loopo (ι := Nat) (fun i => i ≤ P.length) (fun i => [(18, .int .i64 i), (3, .slice bp P.length cp), (4, .int .i64 slot), (13, .int .i64 n), (11, .pointer (some ⟨b11, 0, none⟩)), (17, .pointer (some ⟨b17, 0, none⟩))])
          (fun i => ((((H.add b11 (.cells [.bool false, .bool false, .bool false, .bool false, .bool false, .bool false, .bool false, .bool false, .bool false, .bool false, .bool false] 87 11)).add b14 (.cells (encE (k, sl, fl, rc, (j : Int))) 79 5)).add b15 (.cells (enc v) 26 4)).add b17 (.cells ((flips slot (P.take i) f0).map Value.bool) 87 11))) (fun i => P.length - i) 0 (by omega) (FrLe.of_lks ?_) (by simp only [List.take_zero]; exact AH.le_refl _) fun i hi Q again out => ?_
        · simp (dsimp := false) (maxSteps := 4000000) only [encE_len, encE_scal, encE_z5, encE_take, enc_len, enc_scal, lput_enc, take_enc, hn_b11, hr_b11, hn_b14, hr_b14, hn_b15, hr_b15, hn_b17, hr_b17, go_sem]
        by_cases hlt : (i : Int) < P.length
        · obtain ⟨y, hy⟩ := get_some (l := P) (i := i) (by omega)
          obtain ⟨q3, o3, rfl, _, hrd⟩ := hP.get (Go.AX.map_get (f := encP) hy)
          have rx := hrd 0 _ rfl
          have ry := hrd 1 _ rfl
          simp only [Nat.add_zero] at rx
          have ee := i64_succ (i := i) (by omega)
          have hi0 : (0 : Int) ≤ (i : Int) := by omega
          have m5 : ¬ b11 = q3 := h_b11.ne_rd rx
          have m6 : ¬ b14 = q3 := hn_b14.2.ne_rd rx
          have m7 : ¬ b15 = q3 := hn_b15.2.2.ne_rd rx
          have m8 : ¬ b17 = q3 := hn_b17.2.2.2.ne_rd rx
          have hst : flips slot (P.take (i + 1)) f0 = flipS slot (flips slot (P.take i) f0) y := by
            rw [flips, flips, List.take_add_one, hy, List.foldl_append]; rfl
          have hkm := hmk i
          have hkm2 := hmk2 i
          obtain ⟨y1, y2⟩ := y
          dsimp only [encP] at rx ry
          
          by_cases hsl : y1 = slot
          · have hst' : flips slot (P.take (i + 1)) f0 = (turnl (flips slot (P.take i) f0) y2).set 0 ((flips slot (P.take i) f0).getD 0 false) := by rw [hst, flipS, if_pos hsl, turn_first hkm2]
            have htn := fun H1 => Uart.RefTurn_c (flips slot (P.take i) f0) hkm2 y2 H1
            have hkt : ((turnl (flips slot (P.take i) f0) y2).map Value.bool).length = 11 := by rw [List.length_map, turnl_len, hkm2]
            simp (dsimp := false) (maxSteps := 4000000) only [hlt, hi0, rx, m5, m6, m7, m8, hsl, encE_len, encE_scal, encE_z5, encE_take, enc_len, enc_scal, lput_enc, take_enc, hn_b11, hr_b11, hn_b14, hr_b14, hn_b15, hr_b15, hn_b17, hr_b17, go_sem]
            refine AWp.gen [.rd, .pu, .pu, .pu, .pu, .rd, .ch, .al, .ch] [0, 0, 0, 6, 14, 30, 63, 0, 255] 0 (_) mixed (by kernel_rfl) (AH.le_refl _) ?_
            simp (dsimp := false) (maxSteps := 4000000) only [hlt, hi0, ry, m5, m6, m7, m8, hkm, encE_len, encE_scal, encE_z5, encE_take, enc_len, enc_scal, lput_enc, take_enc, hn_b11, hr_b11, hn_b14, hr_b14, hn_b15, hr_b15, hn_b17, hr_b17, go_sem]
            refine (htn _).mono ?_; rintro _ _ ⟨rfl, rfl⟩
            simp (dsimp := false) (maxSteps := 4000000) only [hkt, encE_len, encE_scal, encE_z5, encE_take, enc_len, enc_scal, lput_enc, take_enc, hn_b11, hr_b11, hn_b14, hr_b14, hn_b15, hr_b15, hn_b17, hr_b17, go_sem]
            refine AllB.mk fun b19 h_b19 => ?_; have hn_b19 := h_b19; (try simp only [fresh_add, fresh_set, ne_eq] at hn_b19); have hr_b19 := hn_b19; (try simp only [@eq_comm Nat b19] at hr_b19); simp (dsimp := false) (maxSteps := 4000000) only [encE_len, encE_scal, encE_z5, encE_take, enc_len, enc_scal, lput_enc, take_enc, hn_b11, hr_b11, hn_b14, hr_b14, hn_b15, hr_b15, hn_b17, hr_b17, hn_b19, hr_b19, go_sem]
            have hr0 : ((flips slot (P.take i) f0).map Value.bool)[0]? = some (.bool ((flips slot (P.take i) f0).getD 0 false)) := by
              obtain ⟨z, hz⟩ := get_some (l := flips slot (P.take i) f0) (i := 0) (by omega)
              rw [List.getElem?_map, hz, List.getD_eq_getElem?_getD, hz]; rfl
            have hms : ((turnl (flips slot (P.take i) f0) y2).map Value.bool).set 0 (.bool ((flips slot (P.take i) f0).getD 0 false)) = (flips slot (P.take (i + 1)) f0).map Value.bool := by rw [hst', List.map_set]
            have hk1 := hmk (i + 1)
            have hkt2 : (turnl (flips slot (P.take i) f0) y2).length = 11 := by rw [turnl_len, hkm2]
            simp (dsimp := false) (maxSteps := 4000000) only [hkt2, hkt, hr0, hkm, hms, hk1, ee, encE_len, encE_scal, encE_z5, encE_take, enc_len, enc_scal, lput_enc, take_enc, hn_b11, hr_b11, hn_b14, hr_b14, hn_b15, hr_b15, hn_b17, hr_b17, hn_b19, hr_b19, go_sem]
            exact again (i + 1) _ _ (by omega) (FrLe.of_lks (by simp (dsimp := false) (maxSteps := 4000000) only [encE_len, encE_scal, encE_z5, encE_take, enc_len, enc_scal, lput_enc, take_enc, hn_b11, hr_b11, hn_b14, hr_b14, hn_b15, hr_b15, hn_b17, hr_b17, hn_b19, hr_b19, go_sem])) (AH.le_add (AH.le_refl _) (by simp only [fresh_add, fresh_set, ne_eq, hn_b19, not_false_eq_true, and_self] : Fresh _ b19).2) (by omega)
          
          
          · have hst' : flips slot (P.take (i + 1)) f0 = flips slot (P.take i) f0 := by rw [hst, flipS, if_neg hsl]
            simp (dsimp := false) (maxSteps := 4000000) only [hlt, hi0, rx, m5, m6, m7, m8, hsl, ee, encE_len, encE_scal, encE_z5, encE_take, enc_len, enc_scal, lput_enc, take_enc, hn_b11, hr_b11, hn_b14, hr_b14, hn_b15, hr_b15, hn_b17, hr_b17, go_sem]
            exact again (i + 1) _ _ (by omega) (FrLe.of_lks (by simp (dsimp := false) (maxSteps := 4000000) only [encE_len, encE_scal, encE_z5, encE_take, enc_len, enc_scal, lput_enc, take_enc, hn_b11, hr_b11, hn_b14, hr_b14, hn_b15, hr_b15, hn_b17, hr_b17, go_sem])) (by rw [hst']; exact AH.le_refl _) (by omega)
          
        · obtain rfl : i = P.length := by omega
          have hkm := hmk P.length
          rw [List.take_length] at hkm ⊢
          simp (dsimp := false) (maxSteps := 4000000) only [hlt, encE_len, encE_scal, encE_z5, encE_take, enc_len, enc_scal, lput_enc, take_enc, hn_b11, hr_b11, hn_b14, hr_b14, hn_b15, hr_b15, hn_b17, hr_b17, go_sem]
          refine out _ _ _ (by simp) ?_
          refine AWp.gen [.pu, .rd, .pu, .ch, .pu] [0, 0, 1, 7, 15] 0 (_) mixed (by kernel_rfl) (AH.le_refl _) ?_
          simp (dsimp := false) (maxSteps := 4000000) only [hkm, encE_len, encE_scal, encE_z5, encE_take, enc_len, enc_scal, lput_enc, take_enc, hn_b11, hr_b11, hn_b14, hr_b14, hn_b15, hr_b15, hn_b17, hr_b17, go_sem]
          refine ⟨H, (AH.le_add (AH.le_add (AH.le_add (AH.le_add (AH.le_refl _) ((by simp only [encE_len, encE_scal, encE_z5, encE_take, enc_len, enc_scal, lput_enc, take_enc, fresh_add, fresh_set, ne_eq, hn_b11, not_false_eq_true, and_self] : Fresh _ b11).2)) ((by simp only [encE_len, encE_scal, encE_z5, encE_take, enc_len, enc_scal, lput_enc, take_enc, fresh_add, fresh_set, ne_eq, hn_b14, not_false_eq_true, and_self] : Fresh _ b14).2)) ((by simp only [encE_len, encE_scal, encE_z5, encE_take, enc_len, enc_scal, lput_enc, take_enc, fresh_add, fresh_set, ne_eq, hn_b15, not_false_eq_true, and_self] : Fresh _ b15).2)) ((by simp only [encE_len, encE_scal, encE_z5, encE_take, enc_len, enc_scal, lput_enc, take_enc, fresh_add, fresh_set, ne_eq, hn_b17, not_false_eq_true, and_self] : Fresh _ b17).2)), ?_, rfl⟩
          rw [hf0]
          rfl
end Go.Proofs.YtamlipffhimfmaaGreatDoor.Prt

/- part: what is heard, both sides. -/
namespace Go.Proofs.YtamlipffhimfmaaGreatDoor.Prt
set_option linter.unusedSimpArgs false
set_option linter.unusedVariables false
open Go Go.AX Go.Proofs Ty Go.Proofs.YtamlipffhimfmaaGreatDoor.File Go.Proofs.YtamlipffhimfmaaGreatDoor.Ifs Go.Proofs.YtamlipffhimfmaaGreatDoor.Uart
open Go.Proofs.YtamlipffhimfmaaGreatDoor.Chk (Tb TabIn sndO snd mayB goodE encT)
set_option maxHeartbeats 4000000
set_option maxRecDepth 10000

def takeP (l : List Bool) : Int × Bool × Int := if l.getD 0 false = true ∨ l.getD 10 false = false then (0, false, 2) else (valu l 8, par l 9, 0)
theorem takev_eq (l : List Bool) : takev l = .tuple #[.int .u8 (takeP l).1, .bool (takeP l).2.1, .int .i64 (takeP l).2.2] := by
  unfold takev takeP
  split <;> rfl
def heardO (XS : List (List Nf)) (T : List Tb) (B : List Bool) (P : List Sp) (slot : Int) : Option Int :=
  if (frameP XS T B P slot).2.2 = true ∧ (takeP (frameP XS T B P slot).2.1).2.1 = false ∧ (takeP (frameP XS T B P slot).2.1).2.2 = 0 then some (takeP (frameP XS T B P slot).2.1).1 else none
def hdP (XS : List (List Nf)) (T : List Tb) (B : List Bool) (P : List Sp) : Hd := fun s => if 1 ≤ s ∧ s ≤ 16 then heardO XS T B P s else none
theorem Heard_c (S : List SR) (T : List Tb) (B : List Bool) (P : List Sp) (bs bt bb bp : Option Addr) (cs ct cb cp : Nat) (slot : Int) (H : AH) (hS : StsIn H bs cs S) (hT : TabIn H bt ct T) (hB : SlcIn H 1 bb cb (B.map encB1)) (hP : SlcIn H 2 bp cp (P.map encP)) (ht : TOk T) (hl1 : T.length ≤ S.length) (hl2 : T.length ≤ B.length) :
    ACalls Tryz.prog 31 #[.slice bs S.length cs, .slice bt T.length ct, .slice bb B.length cb, .slice bp P.length cp, .int .i64 slot] H (fun v H' => v = .tuple #[.int .u8 ((heardO (S.map (·.X)) T B P slot).getD 0), .bool (heardO (S.map (·.X)) T B P slot).isSome] ∧ H = H') := by
  have hfr := Frame_c S T B P bs bt bb bp cs ct cb cp slot H hS hT hB hP ht hl1 hl2
  have hlen := frame_len (S.map (·.X)) T B P slot
  obtain ⟨n, f, ok, e⟩ : ∃ n f ok, frameP (S.map (·.X)) T B P slot = (n, f, ok) := ⟨_, _, _, rfl⟩
  unfold heardO
  rw [e] at hfr hlen ⊢
  unfold frameV at hfr
  dsimp only at hfr hlen ⊢
  have hmf : (f.map Value.bool).length = 11 := by simp [hlen]
  have htk := fun H1 => Uart.Take_c f hlen H1
  rw [takev_eq] at htk
  obtain ⟨y, odd, er, et⟩ : ∃ y odd er, takeP f = (y, odd, er) := ⟨_, _, _, rfl⟩
  rw [et] at htk ⊢
  dsimp only at htk ⊢
  refine ACalls.enter2 Tryz.func31 rfl Tryz.ntmps31 Tryz.results31 (by simp) ?_; simp (dsimp := false) (maxSteps := 4000000) only [go_sem]
  refine hfr.mono ?_
  rintro _ _ ⟨rfl, rfl⟩
  simp (dsimp := false) (maxSteps := 4000000) only [go_sem]
  refine AllB.mk fun b13 h_b13 => ?_; have hn_b13 := h_b13; (try simp only [fresh_add, fresh_set, ne_eq] at hn_b13); have hr_b13 := hn_b13; (try simp only [@eq_comm Nat b13] at hr_b13); simp (dsimp := false) (maxSteps := 4000000) only [hn_b13, hr_b13, go_sem]
  simp (dsimp := false) (maxSteps := 4000000) only [hlen, hmf, hn_b13, hr_b13, go_sem]
  refine (htk _).mono ?_; rintro _ _ ⟨rfl, rfl⟩
  cases ok with
  | false =>
    simp (dsimp := false) (maxSteps := 4000000) only [hn_b13, hr_b13, go_sem]
    exact ⟨H, (AH.le_add (AH.le_refl _) ((by simp only [fresh_add, fresh_set, ne_eq, hn_b13, not_false_eq_true, and_self] : Fresh _ b13).2)), by simp, rfl⟩
  | true =>
    cases odd with
    | true =>
      simp (dsimp := false) (maxSteps := 4000000) only [hn_b13, hr_b13, go_sem]
      exact ⟨H, (AH.le_add (AH.le_refl _) ((by simp only [fresh_add, fresh_set, ne_eq, hn_b13, not_false_eq_true, and_self] : Fresh _ b13).2)), by simp, rfl⟩
    | false =>
      by_cases h0 : er = 0
      · simp (dsimp := false) (maxSteps := 4000000) only [h0, hn_b13, hr_b13, go_sem]
        exact ⟨H, (AH.le_add (AH.le_refl _) ((by simp only [fresh_add, fresh_set, ne_eq, hn_b13, not_false_eq_true, and_self] : Fresh _ b13).2)), by simp [h0], rfl⟩
      · simp (dsimp := false) (maxSteps := 4000000) only [h0, hn_b13, hr_b13, go_sem]
        exact ⟨H, (AH.le_add (AH.le_refl _) ((by simp only [fresh_add, fresh_set, ne_eq, hn_b13, not_false_eq_true, and_self] : Fresh _ b13).2)), by simp [h0], rfl⟩

def rowH (hd : Hd) (i : Nat) : List Value := ((List.range 17).map fun j => Value.int .u8 (if j < i then (hd j).getD 0 else 0)) ++ ((List.range 17).map fun j => Value.bool (decide (j < i) && (hd j).isSome))
theorem rowH_len (hd : Hd) (i : Nat) : (rowH hd i).length = 34 := by simp [rowH]
theorem rowH_scal (hd : Hd) (i : Nat) : (rowH hd i).all scal = true := by
  rw [rowH, List.all_append, Bool.and_eq_true, List.all_map, List.all_map, List.all_eq_true, List.all_eq_true]
  exact ⟨fun _ _ => rfl, fun _ _ => rfl⟩
theorem rowH_get (hd : Hd) (i q : Nat) : (rowH hd i)[q]? = if q < 17 then some (Value.int .u8 (if q < i then (hd q).getD 0 else 0)) else if q < 34 then some (Value.bool (decide (q - 17 < i) && (hd ((q - 17 : Nat) : Int)).isSome)) else none := by
  unfold rowH
  rw [List.getElem?_append]
  simp only [List.length_map, List.length_range, List.getElem?_map]
  by_cases h1 : q < 17
  · rw [if_pos h1, if_pos h1, List.getElem?_range h1]; rfl
  · rw [if_neg h1, if_neg h1]
    by_cases h2 : q < 34
    · rw [if_pos h2, List.getElem?_range (by omega)]; rfl
    · rw [if_neg h2, List.getElem?_eq_none (by simp; omega)]; rfl
theorem rowH_none {hd : Hd} {i : Nat} (h : hd i = none) : rowH hd (i + 1) = rowH hd i := by
  apply List.ext_getElem?
  intro q
  rw [rowH_get, rowH_get]
  by_cases h1 : q < 17
  · rw [if_pos h1, if_pos h1]
    by_cases e : q = i
    · subst e; simp [h]
    · have : (q < i + 1) = (q < i) := by apply propext; omega
      simp only [this]
  · rw [if_neg h1, if_neg h1]
    by_cases h2 : q < 34
    · rw [if_pos h2, if_pos h2]
      by_cases e : q - 17 = i
      · rw [e]; simp [h]
      · have : decide (q - 17 < i + 1) = decide (q - 17 < i) := by rw [Bool.eq_iff_iff]; simp; omega
        rw [this]
    · rw [if_neg h2, if_neg h2]
theorem rowH_some {hd : Hd} {i : Nat} {y : Int} (hi : i < 17) (h : hd i = some y) : ((rowH hd i).set i (.int .u8 y)).set (17 + i) (.bool true) = rowH hd (i + 1) := by
  apply List.ext_getElem?
  intro q
  rw [List.getElem?_set, List.getElem?_set, List.length_set, rowH_len, rowH_get, rowH_get]
  by_cases h1 : q < 17
  · rw [if_neg (by omega), if_pos h1, if_pos h1]
    by_cases e : i = q
    · subst e; rw [if_pos rfl, if_pos (by omega)]; simp [h]
    · rw [if_neg e]
      have : (q < i + 1) = (q < i) := by apply propext; omega
      simp only [this]
  · by_cases e : 17 + i = q
    · rw [if_pos e, if_pos (by omega), if_neg h1, if_pos (by omega), show q - 17 = i by omega]; simp [h]
    · rw [if_neg e, if_neg (by omega), if_neg h1, if_neg h1]
      by_cases h2 : q < 34
      · rw [if_pos h2, if_pos h2]
        have : decide (q - 17 < i + 1) = decide (q - 17 < i) := by rw [Bool.eq_iff_iff]; simp; omega
        rw [this]
      · rw [if_neg h2, if_neg h2]
theorem RefHeard_c (S : List RR) (T : List Tb) (B : List Bool) (P : List Sp) (bs bt bb bp : Option Addr) (cs ct cb cp : Nat) (H : AH) (hS : RtsIn H bs cs S) (hT : TabIn H bt ct T) (hB : SlcIn H 1 bb cb (B.map encB1)) (hP : SlcIn H 2 bp cp (P.map encP)) (ht : TOk T) (hl1 : T.length ≤ S.length) (hl2 : T.length ≤ B.length) :
    ACalls Tryz.prog 32 #[.slice bs S.length cs, .slice bt T.length ct, .slice bb B.length cb, .slice bp P.length cp] H (fun v H' => v = .agg (rowH (hdP (S.map (fun r => r.Z.map RF.nf)) T B P) 17).toArray ∧ H = H') := by
  obtain ⟨hd, hhd⟩ : ∃ hd, hdP (S.map (fun r => r.Z.map RF.nf)) T B P = hd := ⟨_, rfl⟩
  have r1 : rowH hd 1 = [.int .u8 0, .int .u8 0, .int .u8 0, .int .u8 0, .int .u8 0, .int .u8 0, .int .u8 0, .int .u8 0, .int .u8 0, .int .u8 0, .int .u8 0, .int .u8 0, .int .u8 0, .int .u8 0, .int .u8 0, .int .u8 0, .int .u8 0] ++ [.bool false, .bool false, .bool false, .bool false, .bool false, .bool false, .bool false, .bool false, .bool false, .bool false, .bool false, .bool false, .bool false, .bool false, .bool false, .bool false, .bool false] := by
    have h0 : hd 0 = none := by rw [← hhd, hdP]; rfl
    have : rowH hd 1 = rowH hd 0 := rowH_none h0
    rw [this]; rfl
  have hlenR := rowH_len hd
  rw [hhd]
  refine ACalls.enter2 Tryz.func32 rfl Tryz.ntmps32 Tryz.results32 (by simp) ?_; simp (dsimp := false) (maxSteps := 4000000) only [go_sem]
  
  refine AllB.mk fun b8 h_b8 => ?_; have hn_b8 := h_b8; (try simp only [fresh_add, fresh_set, ne_eq] at hn_b8); have hr_b8 := hn_b8; (try simp only [@eq_comm Nat b8] at hr_b8); simp (dsimp := false) (maxSteps := 4000000) only [hlenR, hn_b8, hr_b8, go_sem]
  refine AllB.mk fun b9 h_b9 => ?_; have hn_b9 := h_b9; (try simp only [fresh_add, fresh_set, ne_eq] at hn_b9); have hr_b9 := hn_b9; (try simp only [@eq_comm Nat b9] at hr_b9); simp (dsimp := false) (maxSteps := 4000000) only [hlenR, hn_b8, hr_b8, hn_b9, hr_b9, go_sem]
  have kT : ∀ {k8 k9 : ABlk}, Keep H ((H.add b8 k8).add b9 k9) fun _ => False := fun {k8 k9} => (Keep.refl.nw h_b8).nw (by simp only [fresh_add, ne_eq, hn_b9, not_false_eq_true, and_self])
  refine AWp.loopo (ι := Nat) (fun i => 1 ≤ i ∧ i ≤ 17) (fun i => [(10, .int .i64 i), (0, .slice bs S.length cs), (1, .slice bt T.length ct), (2, .slice bb B.length cb), (3, .slice bp P.length cp), (8, .pointer (some ⟨b8, 0, none⟩)), (9, .pointer (some ⟨b9, 0, none⟩))])
    (fun i => (H.add b8 (.cells [.int .u8 0, .int .u8 0, .int .u8 0, .int .u8 0, .int .u8 0, .int .u8 0, .int .u8 0, .int .u8 0, .int .u8 0, .int .u8 0, .int .u8 0, .int .u8 0, .int .u8 0, .int .u8 0, .int .u8 0, .int .u8 0, .int .u8 0, .bool false, .bool false, .bool false, .bool false, .bool false, .bool false, .bool false, .bool false, .bool false, .bool false, .bool false, .bool false, .bool false, .bool false, .bool false, .bool false, .bool false] 96 34)).add b9 (.cells (rowH hd i) 96 34)) (fun i => 17 - i) 1 (by omega) (FrLe.of_lks ?_) (by rw [r1]; exact AH.le_refl _) fun i hi Q again out => ?_
  · simp (dsimp := false) (maxSteps := 4000000) only [hlenR, hn_b8, hr_b8, hn_b9, hr_b9, go_sem]
  obtain ⟨hi1, hi2⟩ := hi
  by_cases hlt : (i : Int) ≤ 16
  · have ee := i64_succ (i := i) (by omega)
    have hi0 : (0 : Int) ≤ (i : Int) := by omega
    have hi17 : (i : Int) < 17 := by omega
    have hfr := RefFrame_c S T B P bs bt bb bp cs ct cb cp (i : Int) _ (hS.keep (kT (k8 := .cells [.int .u8 0, .int .u8 0, .int .u8 0, .int .u8 0, .int .u8 0, .int .u8 0, .int .u8 0, .int .u8 0, .int .u8 0, .int .u8 0, .int .u8 0, .int .u8 0, .int .u8 0, .int .u8 0, .int .u8 0, .int .u8 0, .int .u8 0, .bool false, .bool false, .bool false, .bool false, .bool false, .bool false, .bool false, .bool false, .bool false, .bool false, .bool false, .bool false, .bool false, .bool false, .bool false, .bool false, .bool false] 96 34) (k9 := .cells (rowH hd i) 96 34))) (hT.keep kT) (hB.keep kT fun _ _ h => h) (hP.keep kT fun _ _ h => h) ht hl1 hl2
    have hlen := frame_len (S.map (fun r => r.Z.map RF.nf)) T B P (i : Int)
    have hdi : hd i = heardO (S.map (fun r => r.Z.map RF.nf)) T B P i := by rw [← hhd, hdP, if_pos (by omega)]
    unfold heardO at hdi
    obtain ⟨n, f, ok, e⟩ : ∃ n f ok, frameP (S.map (fun r => r.Z.map RF.nf)) T B P (i : Int) = (n, f, ok) := ⟨_, _, _, rfl⟩
    rw [e] at hfr hlen hdi
    unfold frameV at hfr
    dsimp only at hfr hlen hdi
    have hmf : (f.map Value.bool).length = 11 := by simp [hlen]
    have htk := fun H1 => Uart.RefTake_c f hlen H1
    rw [takev_eq] at htk
    obtain ⟨y, odd, er, et⟩ : ∃ y odd er, takeP f = (y, odd, er) := ⟨_, _, _, rfl⟩
    rw [et] at htk hdi
    dsimp only at htk hdi
    
    simp (dsimp := false) (maxSteps := 4000000) only [hlt, hlenR, hn_b8, hr_b8, hn_b9, hr_b9, go_sem]
    refine hfr.mono ?_
    rintro _ _ ⟨rfl, rfl⟩
    simp (dsimp := false) (maxSteps := 4000000) only [hlenR, hn_b8, hr_b8, hn_b9, hr_b9, go_sem]
    refine AllB.mk fun b12 h_b12 => ?_; have hn_b12 := h_b12; (try simp only [fresh_add, fresh_set, ne_eq] at hn_b12); have hr_b12 := hn_b12; (try simp only [@eq_comm Nat b12] at hr_b12); simp (dsimp := false) (maxSteps := 4000000) only [hlenR, hn_b8, hr_b8, hn_b9, hr_b9, hn_b12, hr_b12, go_sem]
    simp (dsimp := false) (maxSteps := 4000000) only [hlen, hmf, hlenR, hn_b8, hr_b8, hn_b9, hr_b9, hn_b12, hr_b12, go_sem]
    refine (htk _).mono ?_; rintro _ _ ⟨rfl, rfl⟩
    have no : ¬ (ok = true ∧ odd = false ∧ er = 0) → rowH hd (i + 1) = rowH hd i := fun h => rowH_none (by rw [hdi, if_neg h])
    have yes : ok = true ∧ odd = false ∧ er = 0 → ((rowH hd i).set i (.int .u8 y)).set (17 + i) (.bool true) = rowH hd (i + 1) := fun h => rowH_some (by omega) (by rw [hdi, if_pos h])
    cases ok with
    | false =>
      simp (dsimp := false) (maxSteps := 4000000) only [ee, hlenR, hn_b8, hr_b8, hn_b9, hr_b9, hn_b12, hr_b12, go_sem]
      exact again (i + 1) _ _ (by omega) (FrLe.of_lks (by simp (dsimp := false) (maxSteps := 4000000) only [hlenR, hn_b8, hr_b8, hn_b9, hr_b9, hn_b12, hr_b12, go_sem])) (by rw [no (by simp)]; exact AH.le_add (AH.le_refl _) h_b12.2) (by omega)
    | true =>
      cases odd with
      | true =>
        simp (dsimp := false) (maxSteps := 4000000) only [ee, hlenR, hn_b8, hr_b8, hn_b9, hr_b9, hn_b12, hr_b12, go_sem]
        exact again (i + 1) _ _ (by omega) (FrLe.of_lks (by simp (dsimp := false) (maxSteps := 4000000) only [hlenR, hn_b8, hr_b8, hn_b9, hr_b9, hn_b12, hr_b12, go_sem])) (by rw [no (by simp)]; exact AH.le_add (AH.le_refl _) h_b12.2) (by omega)
      | false =>
        by_cases h0 : er = 0
        · have yy := yes ⟨rfl, rfl, h0⟩
          have l1 : i ≤ 33 := by omega
          have l2 : 17 + i ≤ 33 := by omega
          have l3 : i ≤ 16 := by omega
          simp (dsimp := false) (maxSteps := 4000000) only [h0, ee, hi0, hi17, l1, l2, l3, yy, hlenR, hn_b8, hr_b8, hn_b9, hr_b9, hn_b12, hr_b12, go_sem]
          exact again (i + 1) _ _ (by omega) (FrLe.of_lks (by simp (dsimp := false) (maxSteps := 4000000) only [hlenR, hn_b8, hr_b8, hn_b9, hr_b9, hn_b12, hr_b12, go_sem])) (AH.le_add (AH.le_refl _) (by simp only [fresh_add, fresh_set, ne_eq, hn_b12, not_false_eq_true, and_self] : Fresh _ b12).2) (by omega)
        · simp (dsimp := false) (maxSteps := 4000000) only [h0, ee, hlenR, hn_b8, hr_b8, hn_b9, hr_b9, hn_b12, hr_b12, go_sem]
          exact again (i + 1) _ _ (by omega) (FrLe.of_lks (by simp (dsimp := false) (maxSteps := 4000000) only [hlenR, hn_b8, hr_b8, hn_b9, hr_b9, hn_b12, hr_b12, go_sem])) (by rw [no (by simp [h0])]; exact AH.le_add (AH.le_refl _) h_b12.2) (by omega)
    
  · obtain rfl : i = 17 := by omega
    simp (dsimp := false) (maxSteps := 4000000) only [hlt, hlenR, hn_b8, hr_b8, hn_b9, hr_b9, go_sem]
    refine out _ _ _ (by simp) ?_
    have hsc := rowH_scal hd 17
    simp (dsimp := false) (maxSteps := 4000000) only [hsc, hlenR, hn_b8, hr_b8, hn_b9, hr_b9, go_sem]
    exact ⟨H, (AH.le_add (AH.le_add (AH.le_refl _) ((by simp only [hlenR, fresh_add, fresh_set, ne_eq, hn_b8, not_false_eq_true, and_self] : Fresh _ b8).2)) ((by simp only [hlenR, fresh_add, fresh_set, ne_eq, hn_b9, not_false_eq_true, and_self] : Fresh _ b9).2)), rfl⟩
end Go.Proofs.YtamlipffhimfmaaGreatDoor.Prt

/- The engine: maps whose keys are structs; m[k] = append(m[k], ..). -/
namespace Go.AX
set_option linter.unusedSimpArgs false
set_option linter.unusedVariables false
open Go Go.RowKit

section
variable {P : Program} {H : AH} {n d : Nat} {ds : List (Option Tmp)} {fr : Fr} {K : Fr → AH → Prop} {q : Bool} {ty : TypeId} {pos : String} {af : Array Edge} {rest : List Oper}
def MEN (P : Program) (t : TypeId) (m key : Value) (H : AH) (k : Value → AH → Prop) (_t : Lk (k, H) := .mk) : Prop := ASem P (do pure (.value (← Instr.mapEntry t m key))) H k
def EST (P : Program) (t : TypeId) (m s x : Value) (H : AH) (k : Value → AH → Prop) (_t : Lk (k, H) := .mk) : Prop := ASem P (do Instr.entryStore t m s x; pure .skip) H k
theorem T_mapEntry {t : TypeId} {m i : Operand} : vops q P n ds (⟨(some d), .mapEntry t m i, ty, pos, af, none⟩ :: rest) fr H K = (d < n ∧ q = false ∧ wv fr m fun m => wv fr i fun i => MEN P t m i H fun v H' => vops q P n ds rest ((d, v) :: fr) H' K) := by
  rw [← dok_some]
  apply propext
  constructor
  · rintro ⟨h1, h2, _, h3, h4⟩
    have h2' : kn1 fr m = true ∧ kn1 fr i = true := by simpa [Op.operands] using h2
    exact ⟨h1, h3, h2'.1, h2'.2, h4⟩
  · rintro ⟨h1, h2, h3, h4, h5⟩
    exact ⟨h1, by have h3' : kn1 fr m = true := h3; have h4' : kn1 fr i = true := h4; simp [Op.operands, h3', h4'], rfl, h2, h5⟩
theorem T_entryStore {t : TypeId} {m s x : Operand} : vops q P n ds (⟨none, .entryStore t m s x, ty, pos, af, none⟩ :: rest) fr H K = (q = false ∧ wv fr m fun m => wv fr s fun s => wv fr x fun x => EST P t m s x H fun _ H' => vops q P n ds rest fr H' K) := by
  apply propext
  constructor
  · rintro ⟨h1, h2, _, h3, h4⟩
    have h2' : kn1 fr m = true ∧ kn1 fr s = true ∧ kn1 fr x = true := by simpa [Op.operands] using h2
    exact ⟨h3, h2'.1, h2'.2.1, h2'.2.2, h4⟩
  · rintro ⟨h2, h3, h4, h5, h6⟩
    exact ⟨rfl, by have h3' : kn1 fr m = true := h3; have h4' : kn1 fr s = true := h4; have h5' : kn1 fr x = true := h5; simp [Op.operands, h3', h4', h5'], rfl, h2, h6⟩
end
attribute [go_sem ↓] T_mapEntry T_entryStore

structure KeyOk (P : Program) {κ : Type} [DecidableEq κ] (kt : TypeId) (kv : κ → Value) : Prop where
  desc : ∃ d, P.underlying kt = some d ∧ ∀ a b, Instr.sameNow d (kv a) b = none
  chk : ∀ em k H, qrun P (Instr.checkKey em 10000 kt (kv k)) H = some ()
  eq : ∀ a b H, qrun P (Op.equal kt (kv a) (kv b)) H = some (decide (a = b))
  bits : ∀ k, Instr.sameBits 10000 (kv k) (kv k) = true
section
variable {P : Program} {κ : Type} [DecidableEq κ] {kt : TypeId} {kv : κ → Value}
def klk (k : κ) : List (κ × Value) → Nat → Option (Nat × Value)
  | [], _ => none
  | p :: l, i => if k = p.1 then some (i, p.2) else klk k l (i + 1)
def ke (kv : κ → Value) (l : List (κ × Value)) : List (Value × Value) := l.map fun p => (kv p.1, p.2)
theorem klk_some {k : κ} : ∀ {l : List (κ × Value)} {i j : Nat} {v : Value}, klk k l i = some (j, v) → ∃ m, j = i + m ∧ l[m]? = some (k, v)
  | [], _, _, _, h => by cases h
  | p :: l, i, j, v, h => by
    rw [klk] at h
    split at h
    · rename_i e; cases h; subst e; exact ⟨0, rfl, rfl⟩
    · obtain ⟨m, h1, h2⟩ := klk_some h
      exact ⟨m + 1, by omega, by simpa using h2⟩
theorem asking (hk : KeyOk P kt kv) (k : κ) (H : AH) : ∀ (es : List MapEntry) (l : List (κ × Value)) (i : Nat), es.map (fun x => (x.key, x.val)) = ke kv l → qrun P (Instr.findAsking kt (kv k) es i) H = some (klk k l i)
  | [], [], _, _ => rfl
  | [], _ :: _, _, h => by simp [ke] at h
  | _ :: _, [], _, h => by simp [ke] at h
  | e :: es, p :: l, i, h => by
    simp only [ke, List.map_cons, List.cons.injEq, Prod.mk.injEq] at h
    obtain ⟨⟨h1, h2⟩, h3⟩ := h
    unfold Instr.findAsking
    rw [qrun_bind, h1, hk.eq, Option.bind_some, klk]
    by_cases e' : k = p.1
    · simp [e', h2, qrun_pure]
    · simp only [e', decide_false, Bool.false_eq_true, if_false]
      exact asking hk k H es l (i + 1) h3
theorem findK (hk : KeyOk P kt kv) (k : κ) (H : AH) {es : List MapEntry} {l : List (κ × Value)} (h : es.map (fun x => (x.key, x.val)) = ke kv l) : qrun P (Instr.findKey kt (kv k) es) H = some (klk k l 0) := by
  obtain ⟨d, hd, hn⟩ := hk.desc
  simp only [Instr.findKey, qrun_bind, qrun_underlying, hd, Option.bind_some]
  cases es with
  | nil =>
    cases l with
    | nil => rfl
    | cons => simp [ke] at h
  | cons e es =>
    rw [Instr.findNow, hn]
    exact asking hk k H _ l 0 h
def mpS (P : Program) (t : TypeId) : Option (TypeId × Value) :=
  match P.underlying t with
  | some (.map kt e) => (P.info? e).bind fun i => i.zero.map fun z => (kt, z)
  | _ => none
theorem mpS_some {t kt : TypeId} {z : Value} (h : mpS P t = some (kt, z)) : ∃ e i, P.underlying t = some (.map kt e) ∧ P.info? e = some i ∧ i.zero = some z := by
  unfold mpS at h
  split at h
  · rename_i kt' e hu
    obtain ⟨i, hi, h⟩ := Option.bind_eq_some_iff.1 h
    obtain ⟨z', hz, h⟩ := Option.map_eq_some_iff.1 h
    simp only [Prod.mk.injEq] at h
    obtain ⟨rfl, rfl⟩ := h
    exact ⟨e, i, hu, hi, hz⟩
  · cases h
theorem LKS.map {H : AH} {t r : Nat} {k : κ} {z : Value} {ok : Bool} {l : List (κ × Value)} {K : Value → AH → Prop} (hk : KeyOk P kt kv) (ht : mpS P t = some (kt, z)) (hf : H.find r = some (.amap (ke kv l))) (h : K (mres ok z (klk k l 0)) H) :
    LKS P t (.map (some r)) (kv k) ok H K := by
  obtain ⟨e, i, hu, hi, hz⟩ := mpS_some ht
  unfold LKS Instr.lookup
  refine arun_qbind ((qrun_underlying t).trans hu) ?_
  rw [arun_bind]
  simp only [getObj, arun, hf]
  intro en cl hm
  refine arun_qbind (a := en) rfl ?_
  refine arun_qbind (hk.chk _ _ _) ?_
  refine arun_qbind (findK hk k H hm.1) ?_
  cases ho : klk k l 0 with
  | some p =>
    obtain ⟨j, v⟩ := p
    rw [ho] at h
    refine arun_qbind (a := (v, true)) rfl ?_
    exact h
  | none =>
    rw [ho] at h
    refine arun_qbind (qrun_zeroValue hi hz) ?_
    refine arun_qbind (a := (z, false)) rfl ?_
    exact h
def kput (l : List (κ × Value)) (k : κ) (v : Value) : Option (Nat × Value) → List (κ × Value)
  | some (i, _) => l.set i (k, v)
  | none => l ++ [(k, v)]
theorem born_push {en : Array MapEntry} {cl : Nat} (h : BornOk en cl) (k v : Value) : BornOk (en.push { key := k, val := v, born := cl }) (cl + 1) := by
  refine ⟨fun x hx => ?_, ?_⟩
  · simp only [Array.toList_push, List.mem_append, List.mem_singleton] at hx
    rcases hx with hx | hx
    · have := h.1 x hx; omega
    · subst hx; simp
  · rw [Array.toList_push, List.map_append, List.nodup_append]
    refine ⟨h.2, by simp, fun a ha b hb => ?_⟩
    obtain ⟨x, hx, rfl⟩ := List.mem_map.1 ha
    have := h.1 x hx
    simp at hb; omega
theorem born_modify {en : Array MapEntry} {cl j : Nat} {f : MapEntry → MapEntry} (hf : ∀ x, (f x).born = x.born) (h : BornOk en cl) : BornOk (en.modify j f) cl := by
  have hmb : (en.modify j f).toList.map (·.born) = en.toList.map (·.born) := by
    apply List.ext_getElem?
    intro q
    simp only [List.getElem?_map, Array.getElem?_toList, Array.getElem?_modify]
    split
    · rename_i e; subst e; cases en[j]? <;> simp [hf]
    · rfl
  refine ⟨fun y hy => ?_, hmb ▸ h.2⟩
  obtain ⟨q, hq⟩ := List.mem_iff_getElem?.1 hy
  rw [Array.getElem?_toList, Array.getElem?_modify] at hq
  split at hq
  · obtain ⟨y0, hy0, rfl⟩ := Option.map_eq_some_iff.1 hq
    rw [hf]
    exact h.1 y0 (List.mem_iff_getElem?.2 ⟨q, by simpa using hy0⟩)
  · exact h.1 y (List.mem_iff_getElem?.2 ⟨q, by simpa using hq⟩)
theorem ent_set {α : Type} {kv : α → Value} {en : Array MapEntry} {l : List (α × Value)} {j : Nat} {k : α} {v0 v : Value} (h : en.toList.map (fun x => (x.key, x.val)) = ke kv l) (hj : l[j]? = some (k, v0)) :
    (en.modify j fun e => { e with key := kv k, val := v }).toList.map (fun x => (x.key, x.val)) = ke kv (l.set j (k, v)) := by
  have hlen : en.size = l.length := by have := congrArg List.length h; simpa [ke] using this
  have hlt : j < l.length := lt_of_get hj
  apply List.ext_getElem?
  intro q
  have hq0 := congrArg (fun y => y[q]?) h
  simp only [ke, List.getElem?_map, Array.getElem?_toList] at hq0
  simp only [ke, List.getElem?_map, Array.getElem?_toList, Array.getElem?_modify, List.getElem?_set]
  by_cases hq : j = q
  · subst hq
    obtain ⟨x, hx⟩ : ∃ x, en[j]? = some x := ⟨en[j], by simp [hlen, hlt]⟩
    simp [hx, hlt]
  · simp only [hq, if_false]
    exact hq0
theorem ent_get {α : Type} {kv : α → Value} {en : Array MapEntry} {l : List (α × Value)} {j : Nat} {k : α} {v0 : Value} (h : en.toList.map (fun x => (x.key, x.val)) = ke kv l) (hj : l[j]? = some (k, v0)) : ∃ x, en[j]? = some x ∧ x.key = kv k ∧ x.val = v0 := by
  have hq0 := congrArg (fun y => y[j]?) h
  simp only [ke, List.getElem?_map, Array.getElem?_toList, hj, Option.map_some] at hq0
  obtain ⟨x, hx, hx2⟩ := Option.map_eq_some_iff.1 hq0
  simp only [Prod.mk.injEq] at hx2
  exact ⟨x, hx, hx2.1, hx2.2⟩
theorem MUS.map {H : AH} {t r : Nat} {k : κ} {z v : Value} {l : List (κ × Value)} {K : AH → Prop} (hk : KeyOk P kt kv) (ht : mpS P t = some (kt, z)) (hf : H.find r = some (.amap (ke kv l))) (h : K (H.set r (.amap (ke kv (kput l k v (klk k l 0)))))) :
    MUS P t (.map (some r)) (kv k) v H K := by
  obtain ⟨e, i, hu, hi, hz⟩ := mpS_some ht
  unfold MUS Instr.mapUpdate
  refine arun_qbind ((qrun_underlying t).trans hu) ?_
  rw [arun_bind]
  simp only [getObj, arun, hf]
  intro en cl hm
  refine arun_qbind (hk.chk _ _ _) ?_
  refine arun_qbind (findK hk k H hm.1) ?_
  cases ho : klk k l 0 with
  | none =>
    rw [ho] at h
    simp only [setObj, arun, hf]
    refine ⟨born_push hm.2 _ _, ?_⟩
    have e1 : (en.push { key := kv k, val := v, born := cl }).toList.map (fun x => (x.key, x.val)) = ke kv (l ++ [(k, v)]) := by
      rw [Array.toList_push, List.map_append, hm.1]; simp [ke]
    rw [e1]; exact h
  | some p =>
    obtain ⟨j, v0⟩ := p
    rw [ho] at h
    obtain ⟨m, rfl, hj⟩ := klk_some ho
    rw [Nat.zero_add] at h ⊢
    obtain ⟨x, hx, hxk, _⟩ := ent_get hm.1 hj
    have hkey : ((en[m]?).map (·.key)).getD (kv k) = kv k := by rw [hx]; exact hxk
    refine arun_qbind (a := kv k) (by simp only [hkey, Instr.keyThatStays, hk.bits, if_true, qrun_pure]) ?_
    simp only [setObj, arun, hf]
    refine ⟨born_modify (fun _ => rfl) hm.2, ?_⟩
    rw [ent_set hm.1 hj]; exact h

theorem set_set (H : AH) (b : Nat) (k k' : ABlk) : (H.set b k).set b k' = H.set b k' := by
  have : ∀ l : List (Nat × ABlk), aset b k' (aset b k l) = aset b k' l := by
    intro l
    induction l with
    | nil => simp [aset]
    | cons p l ih =>
      obtain ⟨a, x⟩ := p
      simp only [aset]
      split
      · rename_i e; simp [aset, e]
      · rename_i hne
        simp only [aset, hne, if_false, ih, Bool.false_eq_true]
  simp [AH.set, this]
def StampAt (en : Array MapEntry) (st : Int) (i : Nat) : Prop := en.findIdx? (fun e => (e.born : Int) == st) = some i
theorem stamp_of {en : Array MapEntry} {cl i : Nat} {x : MapEntry} (hb : BornOk en cl) (hx : en[i]? = some x) : StampAt en (x.born : Int) i := by
  unfold StampAt
  rw [Array.findIdx?_eq_some_iff_getElem]
  obtain ⟨hi, hxi⟩ := Array.getElem?_eq_some_iff.1 hx
  refine ⟨hi, by simp [hxi], fun j hj => ?_⟩
  simp only [beq_iff_eq, Int.natCast_inj]
  intro e
  have h1 : (en.toList.map (·.born))[j]? = some x.born := by simp [Nat.lt_trans hj hi, e]
  have h2 : (en.toList.map (·.born))[i]? = some x.born := by simp [hi, hxi]
  exact absurd ((List.getElem?_inj (by simpa using Nat.lt_trans hj hi) hb.2).1 (h1.trans h2.symm)) (by omega)
theorem MEN.map {H : AH} {t r : Nat} {k : κ} {z : Value} {l : List (κ × Value)} {K : Value → AH → Prop} (hk : KeyOk P kt kv) (ht : mpS P t = some (kt, z)) (hf : H.find r = some (.amap (ke kv l)))
    (h1 : ∀ i v st en cl, l[i]? = some (k, v) → klk k l 0 = some (i, v) → MapIs (ke kv l) en cl → StampAt en st i → K (.tuple #[v, .int .i64 st]) (H.set r (.obj (.map en cl))))
    (h2 : ∀ st en cl, klk k l 0 = none → MapIs (ke kv (l ++ [(k, z)])) en cl → StampAt en st l.length → K (.tuple #[z, .int .i64 st]) (H.set r (.obj (.map en cl)))) :
    MEN P t (.map (some r)) (kv k) H K := fun E w hs => by
  obtain ⟨e, i, hu, hi, hz⟩ := mpS_some ht
  obtain ⟨en, cl, hm, hs'⟩ := hs.exact hf
  refine ASem.of_arun (H := H.set r (.obj (.map en cl))) (K := K) ?_ E w hs'
  rw [arun_bind]
  unfold Instr.mapEntry
  refine arun_qbind ((qrun_underlying t).trans hu) ?_
  have hf' : (H.set r (.obj (.map en cl))).find r = some (.obj (.map en cl)) := by rw [find_set, if_pos rfl]
  rw [arun_bind]
  simp only [getObj, arun, hf']
  refine arun_qbind (hk.chk _ _ _) ?_
  refine arun_qbind (findK hk k _ hm.1) ?_
  cases ho : klk k l 0 with
  | none =>
    refine arun_qbind (qrun_zeroValue hi hz) ?_
    simp only [setObj, arun_bind, arun, hf', isC, true_and]
    have hb := born_push hm.2 (kv k) z
    have e1 : (en.push { key := kv k, val := z, born := cl }).toList.map (fun x => (x.key, x.val)) = ke kv (l ++ [(k, z)]) := by
      rw [Array.toList_push, List.map_append, hm.1]; simp [ke]
    have hlen : en.size = l.length := by have := congrArg List.length hm.1; simpa [ke] using this
    have hst := stamp_of (i := l.length) hb (x := { key := kv k, val := z, born := cl }) (by rw [← hlen]; simp)
    have := h2 cl _ _ ho ⟨e1, hb⟩ hst
    rw [set_set]
    exact this
  | some p =>
    obtain ⟨j, v0⟩ := p
    obtain ⟨m, rfl, hj⟩ := klk_some ho
    rw [Nat.zero_add] at ho ⊢
    obtain ⟨x, hx, hxk, hxv⟩ := ent_get hm.1 hj
    have hkey : ((en[m]?).map (·.key)).getD (kv k) = kv k := by rw [hx]; exact hxk
    refine arun_qbind (a := kv k) (by simp only [hkey, Instr.keyThatStays, hk.bits, if_true, qrun_pure]) ?_
    simp only [setObj, arun_bind, arun, hf', isC, true_and]
    have hmod : (en.modify m fun e => { e with key := kv k }) = en := by
      apply Array.ext_getElem?
      intro q
      rw [Array.getElem?_modify]
      split
      · rename_i e; subst e; rw [hx, Option.map_some, ← hxk]
      · rfl
    have hborn : ((en[m]?).map (fun x => (x.born : Int))).getD 0 = (x.born : Int) := by rw [hx]; rfl
    rw [hmod, hborn, set_set]
    exact h1 m v0 x.born en cl hj ho hm (stamp_of hm.2 hx)
theorem EST.map {α : Type} {kv : α → Value} {H : AH} {t r i cl : Nat} {st : Int} {k : α} {v0 v : Value} {en : Array MapEntry} {l : List (α × Value)} {K : Value → AH → Prop} (hf : H.find r = some (.obj (.map en cl))) (hm : MapIs (ke kv l) en cl) (hst : StampAt en st i) (hl : l[i]? = some (k, v0))
    (h : K undef (H.set r (.amap (ke kv (l.set i (k, v)))))) : EST P t (.map (some r)) (.int .i64 st) v H K := fun E w hs => by
  obtain ⟨x, hx, hxk, _⟩ := ent_get hm.1 hl
  have hmod : (en.modify i fun e => { e with val := v }) = en.modify i fun e => { e with key := kv k, val := v } := by
    apply Array.ext_getElem?
    intro q
    rw [Array.getElem?_modify, Array.getElem?_modify]
    split
    · rename_i e; subst e; rw [hx, Option.map_some, Option.map_some, ← hxk]
    · rfl
  have ha : arun P (do Instr.entryStore t (.map (some r)) (.int .i64 st) v; pure Next.skip : Sem Next) H (fun nx H' => nx = .skip ∧ H' = H.set r (.obj (.map (en.modify i fun e => { e with val := v }) cl))) := by
    rw [arun_bind]
    unfold Instr.entryStore
    have hst' : en.findIdx? (fun e => (e.born : Int) == st) = some i := hst
    simp only [getObj, arun_bind, arun, hf]
    refine arun_qbind (show qrun P (asIntOf (.int .i64 st)) H = some (.i64, st) from rfl) ?_
    show arun P (match en.findIdx? (fun e => (e.born : Int) == st) with
      | some i => setObj r (Obj.map (en.modify i fun e => { e with val := v }) cl)
      | none => unsupported (Unsupported.noEntry "instr/MapEntry.the entry is gone")) H _
    rw [hst']
    simp only [setObj, arun, hf, isC, true_and]
    exact ⟨rfl, rfl⟩
  obtain ⟨nx, w', H', q1, q2, rfl, rfl⟩ := arun_sound P _ H _ w ha hs
  refine ⟨.skip, w', H.set r (.amap (ke kv (l.set i (k, v)))), q1, ?_, h⟩
  refine Imp.amap (H := H.set r (.obj (.map (en.modify i fun e => { e with val := v }) cl))) (H' := H.set r (.amap (ke kv (l.set i (k, v))))) (m := r) (en := en.modify i fun e => { e with val := v }) (cl := cl) (by rw [find_set, if_pos rfl]) (es := ke kv (l.set i (k, v))) ⟨by rw [hmod]; exact ent_set hm.1 hl, born_modify (fun _ => rfl) hm.2⟩ rfl (fun b k' hk' hne => ?_) (fun k' hk' => ?_) _ _ q2
  · rw [find_set, if_neg hne] at hk' ⊢; exact hk'
  · rw [find_set, if_pos rfl] at hk'; cases hk'; rfl
end
end Go.AX

/- part: what is received, by places: slices that grow side by side. -/
namespace Go.Proofs.YtamlipffhimfmaaGreatDoor.Prt
set_option linter.unusedSimpArgs false
set_option linter.unusedVariables false
open Go Go.AX Go.Proofs Ty Go.Proofs.YtamlipffhimfmaaGreatDoor.File Go.Proofs.YtamlipffhimfmaaGreatDoor.Ifs
open Go.Proofs.YtamlipffhimfmaaGreatDoor.Chk (encE)
set_option maxHeartbeats 4000000
set_option maxRecDepth 10000

section
variable {X Y : List Nf} (hp : X.Perm Y) (hk : Kd X)
include hp hk
theorem getW_p (n rec : Int) : getW X n rec = getW Y n rec := by rw [getW, getW, lk_perm hp hk]
theorem setOk_p (n rec : Int) : setOk X n rec = setOk Y n rec := by rw [setOk, setOk, getW_p hp hk]
theorem setX_p (n rec : Int) (v : Rc) : (setX X n rec v).Perm (setX Y n rec v) := by
  rw [setX, setX, setOk_p hp hk, lk_perm hp hk]
  split
  · split
    · exact hp
    · exact rp_perm hp
  · exact hp
theorem doE_p (op fl rec : Int) : doE X op fl rec = doE Y op fl rec := by rw [doE, doE, lk_perm hp hk]
theorem doD_p (op fl rec d : Int) : doD X op fl rec d = doD Y op fl rec d := by rw [doD, doD, doE_p hp hk]
theorem doX_p (op fl rec : Int) (v : Rc) : (doX X op fl rec v).Perm (doX Y op fl rec v) := by
  rw [doX, doX, doE_p hp hk, lk_perm hp hk]
  split
  · split
    · exact hp
    · exact rp_perm hp
  · exact hp
end
theorem setX_kd {X : List Nf} (h : Kd X) (n rec : Int) (v : Rc) : Kd (setX X n rec v) := by
  unfold setX
  split
  · split
    · exact h
    · exact rp_kd h
  · exact h
theorem doX_kd {X : List Nf} (h : Kd X) (op fl rec : Int) (v : Rc) : Kd (doX X op fl rec v) := by
  unfold doX
  split
  · split
    · exact h
    · exact rp_kd h
  · exact h
theorem stepP_p (T : List En) (hd : Hd) {X Y : List Nf} (hp : X.Perm Y) (hk : Kd X) (p : Pl) : (stepP T hd X p).Perm (stepP T hd Y p) ∧ Kd (stepP T hd X p) := by
  unfold stepP
  rw [← getW_p hp hk]
  split
  · exact ⟨hp, hk⟩
  · split
    · exact ⟨setX_p hp hk _ _ _, setX_kd hk _ _ _⟩
    · exact ⟨hp, hk⟩
theorem fold_p (T : List En) (hd : Hd) : ∀ (l : List Pl) {X Y : List Nf}, X.Perm Y → Kd X → (l.foldl (stepP T hd) X).Perm (l.foldl (stepP T hd) Y) ∧ Kd (l.foldl (stepP T hd) X)
  | [], _, _, hp, hk => ⟨hp, hk⟩
  | p :: l, _, _, hp, hk => fold_p T hd l (stepP_p T hd hp hk p).1 (stepP_p T hd hp hk p).2
theorem app2_p : ∀ (T : List En) {X Y : List Nf} {d : Int}, X.Perm Y → Kd X → (app2 T (X, d)).1.Perm (app2 T (Y, d)).1 ∧ (app2 T (X, d)).2 = (app2 T (Y, d)).2
  | [], _, _, _, hp, _ => ⟨hp, rfl⟩
  | x :: T, X, Y, d, hp, hk => by
    show (app2 T (exE (X, d) x)).1.Perm (app2 T (exE (Y, d) x)).1 ∧ (app2 T (exE (X, d) x)).2 = (app2 T (exE (Y, d) x)).2
    unfold exE
    by_cases h : x.1 = 3
    · rw [if_pos h, if_pos h]
      dsimp only
      rw [doD_p hp hk]
      exact app2_p T (doX_p hp hk _ _ _ _) (doX_kd hk _ _ _ _)
    · rw [if_neg h, if_neg h]
      exact app2_p T hp hk
theorem app_p (T : List En) (hd : Hd) {X Y : List Nf} {d : Int} (hp : X.Perm Y) (hk : Kd X) : (app T hd X d).1.Perm (app T hd Y d).1 ∧ (app T hd X d).2 = (app T hd Y d).2 :=
  app2_p T (fold_p T hd _ hp hk).1 (fold_p T hd _ hp hk).2

structure Gp where
  p : Pl
  base : Option Addr
  cap : Nat
  L : List En
def kP (p : Pl) : Value := .agg #[.int .i64 p.1, .int .i64 p.2]
def gE (G : List Gp) : List (Pl × Value) := G.map fun g => (g.p, .slice g.base g.L.length g.cap)
theorem got_snoc (T : List En) (x : En) (p : Pl) : got (T ++ [x]) p = got T p ++ if isP p x = true then [x] else [] := by
  rw [got, got, List.filter_append]
  cases h : isP p x <;> simp [h]
structure GInv (M A : AH) (T : List En) (G : List Gp) : Prop where
  own : ∀ g ∈ G, OwnS M A 79 5 g.base g.cap (g.L.map encE)
  eq : ∀ g ∈ G, g.L ≠ [] ∧ g.L = got T g.p
  all : ∀ p, got T p ≠ [] → ∃ g ∈ G, g.p = p
  nd : (G.map (·.p)).Nodup
  ap : ∀ (i j : Nat) (g g' : Gp), G[i]? = some g → G[j]? = some g' → i ≠ j → ∀ a a', g.base = some a → g'.base = some a' → a.block ≠ a'.block
theorem GInv.nil (M A : AH) : GInv M A [] [] := ⟨by simp, by simp, by simp [got], by simp, by simp⟩
theorem GInv.keep {M A B : AH} {T : List En} {G : List Gp} {ex : Nat → Prop} (h : GInv M A T G) (hK : Keep A B ex) (hx : ∀ b, ex b → ¬ ∃ g ∈ G, ∃ a, g.base = some a ∧ a.block = b) : GInv M B T G :=
  ⟨fun g hg => (h.own g hg).keep hK fun a ha he => hx _ he ⟨g, hg, a, ha, rfl⟩, h.eq, h.all, h.nd, h.ap⟩
theorem GInv.skip {M A : AH} {T : List En} {G : List Gp} {x : En} (h : GInv M A T G) (hx : x.1 ≠ 2) : GInv M A (T ++ [x]) G := by
  have e : ∀ p, got (T ++ [x]) p = got T p := fun p => by rw [got_snoc, if_neg (by simp [isP, hx]), List.append_nil]
  exact ⟨h.own, fun g hg => by rw [e]; exact h.eq g hg, fun p hp => h.all p (by rwa [e] at hp), h.nd, h.ap⟩
theorem GInv.base {M A : AH} {T : List En} {G : List Gp} {g : Gp} (h : GInv M A T G) (hg : g ∈ G) {a : Addr} (ha : g.base = some a) : (∃ k, A.find a.block = some k) ∧ Fresh M a.block := by
  rcases (h.own g hg).at_ with ⟨h1, _⟩ | ⟨b, bs, h1, h2, _, h3⟩
  · rw [ha] at h1; cases h1
  · rw [ha] at h1; cases h1; exact ⟨⟨_, h2⟩, h3⟩
theorem GInv.cells {M A : AH} {T : List En} {G : List Gp} {g : Gp} (h : GInv M A T G) (hg : g ∈ G) {a : Addr} (ha : g.base = some a) : ∃ cs e bs, A.find a.block = some (.cells cs e bs) := by
  rcases (h.own g hg).at_ with ⟨h1, _⟩ | ⟨b, bs, h1, h2, _, h3⟩
  · rw [ha] at h1; cases h1
  · rw [ha] at h1; cases h1; exact ⟨_, _, _, h2⟩
theorem GInv.upd {M A B : AH} {T : List En} {G : List Gp} {x : En} {j : Nat} {g : Gp} {base' : Option Addr} {cap' : Nat} (h : GInv M A T G) (hj : G[j]? = some g) (hx : x.1 = 2) (hp : g.p = pl x)
    (hO : OwnS M B 79 5 base' cap' ((g.L ++ [x]).map encE)) (hK : Keep A B (exB g.base)) (hn : ∀ a, base' = some a → (∃ a', g.base = some a' ∧ a.block = a'.block) ∨ Fresh A a.block) : GInv M B (T ++ [x]) (G.set j ⟨g.p, base', cap', g.L ++ [x]⟩) := by
  have hjl := Go.AX.lt_of_get hj
  have hgm := List.mem_of_getElem? hj
  have other : ∀ i g', G[i]? = some g' → i ≠ j → g'.p ≠ g.p := fun i g' hi hne e => by
    have h1 : (G.map (·.p))[i]? = some g.p := by simp [hi, e]
    have h2 : (G.map (·.p))[j]? = some g.p := by simp [hj]
    exact hne ((List.getElem?_inj (by simpa using Go.AX.lt_of_get hi) h.nd).1 (h1.trans h2.symm))
  have get : ∀ {i g'}, (G.set j ⟨g.p, base', cap', g.L ++ [x]⟩)[i]? = some g' → (i = j ∧ g' = ⟨g.p, base', cap', g.L ++ [x]⟩) ∨ (i ≠ j ∧ G[i]? = some g') := fun {i g'} hi => by
    by_cases e : j = i
    · subst e
      rw [List.getElem?_set_self hjl] at hi
      exact .inl ⟨rfl, (Option.some.inj hi).symm⟩
    · rw [List.getElem?_set_ne e] at hi
      exact .inr ⟨fun e' => e e'.symm, hi⟩
  have far : ∀ i g' a, G[i]? = some g' → i ≠ j → g'.base = some a → ¬ exB g.base a.block := fun i g' a hi hne ha ⟨a', ha', e⟩ => h.ap i j g' g hi hj hne a a' ha ha' e
  have fr : ∀ (i : Nat) (g' : Gp) (a a' : Addr), G[i]? = some g' → i ≠ j → g'.base = some a → base' = some a' → a.block ≠ a'.block := fun i g' a a' hi hne ha ha' e => by
    rcases hn a' ha' with ⟨a2, h2, e2⟩ | hf
    · exact far i g' a hi hne ha ⟨a2, h2, e.trans e2⟩
    · obtain ⟨⟨k, hk⟩, _⟩ := h.base (List.mem_of_getElem? hi) ha
      exact hf.ne_find hk e.symm
  have isx : isP (pl x) x = true := by simp [isP, hx]
  refine ⟨fun g' hg' => ?_, fun g' hg' => ?_, fun p hpn => ?_, ?_, fun i i' g1 g2 h1 h2 hne a a' ha ha' => ?_⟩
  · obtain ⟨i, hi⟩ := List.mem_iff_getElem?.1 hg'
    rcases get hi with ⟨_, rfl⟩ | ⟨hne, hi⟩
    · exact hO
    · exact (h.own g' (List.mem_of_getElem? hi)).keep hK fun a ha => far i g' a hi hne ha
  · obtain ⟨i, hi⟩ := List.mem_iff_getElem?.1 hg'
    rcases get hi with ⟨_, rfl⟩ | ⟨hne, hi⟩
    · refine ⟨by simp, ?_⟩
      dsimp only
      rw [got_snoc, hp, if_pos isx, ← hp, ← (h.eq g hgm).2]
    · refine ⟨(h.eq g' (List.mem_of_getElem? hi)).1, ?_⟩
      rw [got_snoc, if_neg, List.append_nil]
      · exact (h.eq g' (List.mem_of_getElem? hi)).2
      · intro hh
        simp only [isP, Bool.and_eq_true, decide_eq_true_eq] at hh
        exact other i g' hi hne (hh.2.symm.trans hp.symm)
  · by_cases e : p = g.p
    · exact ⟨_, List.mem_of_getElem? (i := j) (List.getElem?_set_self hjl), e.symm⟩
    · rw [got_snoc, if_neg, List.append_nil] at hpn
      · obtain ⟨g', hg', e'⟩ := h.all p hpn
        obtain ⟨i, hi⟩ := List.mem_iff_getElem?.1 hg'
        have hne : i ≠ j := fun e2 => by
          subst e2
          rw [hj] at hi; cases hi; exact e e'.symm
        exact ⟨g', List.mem_of_getElem? (i := i) (by rw [List.getElem?_set_ne (fun e => hne e.symm)]; exact hi), e'⟩
      · intro hh
        simp only [isP, Bool.and_eq_true, decide_eq_true_eq] at hh
        exact e (hh.2.symm.trans hp.symm)
  · have : (G.set j ⟨g.p, base', cap', g.L ++ [x]⟩).map (·.p) = G.map (·.p) := by
      apply List.ext_getElem?
      intro q
      rw [List.getElem?_map]
      by_cases e : j = q
      · subst e; rw [List.getElem?_set_self hjl, List.getElem?_map, hj]; rfl
      · rw [List.getElem?_set_ne e, List.getElem?_map]
    rw [this]; exact h.nd
  · rcases get h1 with ⟨e1, rfl⟩ | ⟨n1, h1⟩
    · rcases get h2 with ⟨e2, rfl⟩ | ⟨n2, h2⟩
      · exact absurd (e1.trans e2.symm) hne
      · exact fun e => fr i' g2 a' a h2 n2 ha' ha e.symm
    · rcases get h2 with ⟨e2, rfl⟩ | ⟨n2, h2⟩
      · exact fr i g1 a a' h1 n1 ha ha'
      · exact h.ap i i' g1 g2 h1 h2 hne a a' ha ha'
theorem GInv.new {M A B : AH} {T : List En} {G : List Gp} {x : En} {base' : Option Addr} {cap' : Nat} (h : GInv M A T G) (hno : ∀ g ∈ G, g.p ≠ pl x) (hx : x.1 = 2)
    (hO : OwnS M B 79 5 base' cap' ([x].map encE)) (hK : Keep A B fun _ => False) (hn : ∀ a, base' = some a → Fresh A a.block) : GInv M B (T ++ [x]) (G ++ [⟨pl x, base', cap', [x]⟩]) := by
  have isx : isP (pl x) x = true := by simp [isP, hx]
  have g0 : got T (pl x) = [] := Decidable.byContradiction fun hh => by
    obtain ⟨g, hg, e⟩ := h.all _ hh
    exact hno g hg e
  have isn : ∀ p, p ≠ pl x → got (T ++ [x]) p = got T p := fun p hp => by
    rw [got_snoc, if_neg, List.append_nil]
    intro hh
    simp only [isP, Bool.and_eq_true, decide_eq_true_eq] at hh
    exact hp hh.2.symm
  have get : ∀ {i g'}, (G ++ [(⟨pl x, base', cap', [x]⟩ : Gp)])[i]? = some g' → (i = G.length ∧ g' = ⟨pl x, base', cap', [x]⟩) ∨ (i < G.length ∧ G[i]? = some g') := fun {i g'} hi => by
    rcases Nat.lt_or_ge i G.length with hl | hl
    · rw [List.getElem?_append_left hl] at hi; exact .inr ⟨hl, hi⟩
    · rw [List.getElem?_append_right hl] at hi
      have : i = G.length := by
        have := Go.AX.lt_of_get hi
        simp at this; omega
      subst this
      simp at hi; exact .inl ⟨rfl, hi.symm⟩
  have fr : ∀ (i : Nat) (g' : Gp) (a a' : Addr), G[i]? = some g' → g'.base = some a → base' = some a' → a.block ≠ a'.block := fun i g' a a' hi ha ha' e => by
    obtain ⟨⟨k, hk⟩, _⟩ := h.base (List.mem_of_getElem? hi) ha
    exact (hn a' ha').ne_find hk e.symm
  refine ⟨fun g' hg' => ?_, fun g' hg' => ?_, fun p hpn => ?_, ?_, fun i i' g1 g2 h1 h2 hne a a' ha ha' => ?_⟩
  · rcases List.mem_append.1 hg' with hg | hg
    · exact (h.own g' hg).keep hK fun _ _ h => h
    · obtain rfl := List.mem_singleton.1 hg; exact hO
  · rcases List.mem_append.1 hg' with hg | hg
    · refine ⟨(h.eq g' hg).1, ?_⟩
      rw [isn _ (hno g' hg)]; exact (h.eq g' hg).2
    · obtain rfl := List.mem_singleton.1 hg
      exact ⟨by simp, by dsimp only; rw [got_snoc, if_pos isx, g0]; rfl⟩
  · by_cases e : p = pl x
    · exact ⟨_, List.mem_append_right _ (List.mem_singleton.2 rfl), e.symm⟩
    · rw [isn p e] at hpn
      obtain ⟨g, hg, e'⟩ := h.all p hpn
      exact ⟨g, List.mem_append_left _ hg, e'⟩
  · rw [List.map_append, List.nodup_append]
    refine ⟨h.nd, by simp, fun a ha b hb => ?_⟩
    obtain ⟨g, hg, rfl⟩ := List.mem_map.1 ha
    simp at hb; subst hb
    exact hno g hg
  · rcases get h1 with ⟨e1, rfl⟩ | ⟨n1, h1⟩
    · rcases get h2 with ⟨e2, rfl⟩ | ⟨n2, h2⟩
      · exact absurd (e1.trans e2.symm) hne
      · exact fun e => fr i' g2 a' a h2 ha' ha e.symm
    · rcases get h2 with ⟨e2, rfl⟩ | ⟨n2, h2⟩
      · exact fr i g1 a a' h1 ha ha'
      · exact h.ap i i' g1 g2 h1 h2 hne a a' ha ha'

theorem placeOk : KeyOk Tryz.prog (κ := Pl) 156 kP :=
  ⟨⟨_, Tryz.underlying156, fun _ _ => rfl⟩, fun em k H => by kernel_rfl, fun a b H => by
    have h := eqi_156 (H := H) (m := 9998) a.1 b.1 a.2 b.2
    have e : ((a.1 == b.1) && (a.2 == b.2)) = decide (a = b) := by
      rw [Bool.eq_iff_iff]; simp [Prod.ext_iff]
    rw [e] at h
    exact h, fun k => by simp [kP, Instr.sameBits]⟩
theorem ms_lost : mpS Tryz.prog 153 = some (156, .bool false) := by kernel_rfl
theorem ms_got : mpS Tryz.prog 154 = some (156, .slice none 0 0) := by kernel_rfl
end Go.Proofs.YtamlipffhimfmaaGreatDoor.Prt
