/- frac.Cmp. -/
import Derived.Test.YtadpjidakippeaaGreatY12
import Derived.Test.YtadpjidakippeaaGreatY16
import Derived.Test.YtadpjidakippeaaGreatY18
import Derived.Test.YtadpjidakippeaaGreatY19
set_option linter.unusedVariables false
set_option linter.unusedSimpArgs false
namespace Go.Proofs.YtadpjidakippeaaGreat
open Go.RowKit
/-- How two fractions lie: -1, 0, 1. -/
def cmpQ (a b : Rat) : Int := (a.num * b.den - b.num * a.den).sign
theorem cmpQ_lt (a b : Rat) : cmpQ a b < 0 ↔ a < b := by
 unfold cmpQ
 rw [Rat.lt_iff, Int.sign_neg_iff]
 omega
theorem cmpQ_eq (a b : Rat) : cmpQ a b = 0 ↔ a = b := by
 unfold cmpQ
 rw [Int.sign_eq_zero_iff_zero]
 constructor
 ·
  intro h
  rw [← Rat.mkRat_self a, ← Rat.mkRat_self b, Rat.mkRat_eq_iff a.den_nz b.den_nz]
  omega
 · rintro rfl; omega
theorem cmpQ_le (a b : Rat) : cmpQ a b ≤ 0 ↔ a ≤ b := by
 have h1 := cmpQ_lt a b
 have h2 := cmpQ_eq a b
 rw [Rat.le_iff_lt_or_eq]
 constructor
 ·
  intro h
  rcases Int.lt_or_eq_of_le h with h | h
  · exact .inl (h1.1 h)
  · exact .inr (h2.1 h)
 ·
  rintro (h | h)
  · exact Int.le_of_lt (h1.2 h)
  · exact Int.le_of_eq (h2.2 h)
theorem cmpQ_whole (a b : Rat) (h1 : a.den = 1) (h2 : b.den = 1) : (a.num - b.num).sign = cmpQ a b := by unfold cmpQ; rw [h1, h2]; simp
theorem cmpQ_signs (a b : Rat) (h : a.num.sign ≠ b.num.sign) : (a.num - b.num).sign = cmpQ a b := by
 unfold cmpQ
 have h1 := a.den_pos
 have h2 := b.den_pos
 have p : ∀ {x : Int} {d : Nat}, 0 < d → (0 < x → 0 < x * d) ∧ (x < 0 → x * d < 0) ∧ (x = 0 → x * d = 0) := by
  intro x d hd
  refine ⟨fun hx => Int.mul_pos hx (by omega), fun hx => Int.mul_neg_of_neg_of_pos hx (by omega), fun hx => by rw [hx, Int.zero_mul]⟩
 obtain ⟨a1, a2, a3⟩ := p (x := a.num) h2
 obtain ⟨b1, b2, b3⟩ := p (x := b.num) h1
 rcases Int.lt_trichotomy a.num 0 with ha | ha | ha <;> rcases Int.lt_trichotomy b.num 0 with hb | hb | hb
 · exact absurd (by rw [Int.sign_eq_neg_one_of_neg ha, Int.sign_eq_neg_one_of_neg hb]) h
 · have := a2 ha; have := b3 hb; rw [Int.sign_eq_neg_one_of_neg (by omega), Int.sign_eq_neg_one_of_neg (by omega)]
 · have := a2 ha; have := b1 hb; rw [Int.sign_eq_neg_one_of_neg (by omega), Int.sign_eq_neg_one_of_neg (by omega)]
 · have := a3 ha; have := b2 hb; rw [Int.sign_eq_one_of_pos (by omega), Int.sign_eq_one_of_pos (by omega)]
 · exact absurd (by rw [ha, hb]) h
 · have := a3 ha; have := b1 hb; rw [Int.sign_eq_neg_one_of_neg (by omega), Int.sign_eq_neg_one_of_neg (by omega)]
 · have := a1 ha; have := b2 hb; rw [Int.sign_eq_one_of_pos (by omega), Int.sign_eq_one_of_pos (by omega)]
 · have := a1 ha; have := b3 hb; rw [Int.sign_eq_one_of_pos (by omega), Int.sign_eq_one_of_pos (by omega)]
 · exact absurd (by rw [Int.sign_eq_one_of_pos ha, Int.sign_eq_one_of_pos hb]) h
set_option maxRecDepth 100000 in
set_option maxHeartbeats 4000000 in
/-- frac.Cmp -/
theorem qcmp_c (w : World) (va vb : Value) (a b : Rat) (ha : rQ w va a) (hb : rQ w vb b) (hf : qb a + qb b ≤ 35184372088600) : Calls Tryz.prog 48 #[va, vb] w (Post w fun r _ => r = .int .i64 (cmpQ a b)) := by
 obtain ⟨s1, A1, c1, n1, B1, k1, m1, rfl, ha⟩ := ha.shape
 obtain ⟨s2, A2, c2, n2, B2, k2, m2, rfl, hb⟩ := hb.shape
 have f1 := qb_num a
 have f2 := qb_num b
 have f3 := qb_den a
 have f4 := qb_den b
 have HS1 := Lib.hid (fun W h => qsign_c W (.agg #[.bool s1, .slice A1 n1 c1, .slice B1 m1 k1]) a h (by unfold Fit; omega))
 have HS2 := Lib.hid (fun W h => qsign_c W (.agg #[.bool s2, .slice A2 n2 c2, .slice B2 m2 k2]) b h (by unfold Fit; omega))
 have HIC := Lib.hid (fun W h h' => icmp_c W (.agg #[.bool s1, .slice A1 n1 c1]) (.agg #[.bool s2, .slice A2 n2 c2]) a.num b.num h h' (by unfold Fit; omega) (by unfold Fit; omega))
 obtain ⟨u, eu⟩ : ∃ u, (a.num - b.num).sign = u := ⟨_, rfl⟩
 obtain ⟨sa, esa⟩ : ∃ s, a.num.sign = s := ⟨_, rfl⟩
 obtain ⟨sb, esb⟩ : ∃ s, b.num.sign = s := ⟨_, rfl⟩
 rw [eu] at HIC
 rw [esa] at HS1
 rw [esb] at HS2
 obtain ⟨e1, ee1⟩ : ∃ e, bl (if a.den = 1 then 0 else a.den) = e := ⟨_, rfl⟩
 obtain ⟨e2, ee2⟩ : ∃ e, bl (if b.den = 1 then 0 else b.den) = e := ⟨_, rfl⟩
 have fe1 : e1 ≤ 35184372088832 := by rw [← ee1]; exact fit_rest (show Fit a.den by unfold Fit; omega)
 have fe2 : e2 ≤ 35184372088832 := by rw [← ee2]; exact fit_rest (show Fit b.den by unfold Fit; omega)
 have HBT1 := Lib.hid (fun W h => bits_c W (.agg #[.slice B1 m1 k1]) (if a.den = 1 then 0 else a.den) h (fit_rest (by unfold Fit; omega)))
 have HBT2 := Lib.hid (fun W h => bits_c W (.agg #[.slice B2 m2 k2]) (if b.den = 1 then 0 else b.den) h (fit_rest (by unfold Fit; omega)))
 rw [ee1] at HBT1
 rw [ee2] at HBT2
 have d1 := den_bits ee1
 have d2 := den_bits ee2
 have hw : IntKind.i64.wrap ((e1 : Int) + (e2 : Int)) = (e1 : Int) + (e2 : Int) := i64w (by omega) (by omega)
 have HD1 := Lib.hid (fun W h => qden_c W (.agg #[.bool s1, .slice A1 n1 c1, .slice B1 m1 k1]) a h (by unfold Fit; omega))
 have HD2 := Lib.hid (fun W h => qden_c W (.agg #[.bool s2, .slice A2 n2 c2, .slice B2 m2 k2]) b h (by unfold Fit; omega))
 have HWA := Lib.hid (fun W v hv => wide_c W v a.den hv (by unfold Fit; omega))
 have HWB := Lib.hid (fun W v hv => wide_c W v b.den hv (by unfold Fit; omega))
 have HM1 := Lib.hid (fun W v u hv hu => imul_c W v u a.num (b.den : Int) hv hu (by simp only [Int.natAbs_natCast]; omega))
 have HM2 := Lib.hid (fun W v u hv hu => imul_c W v u b.num (a.den : Int) hv hu (by simp only [Int.natAbs_natCast]; omega))
 have g1 : bl (a.num * (b.den : Int)).natAbs ≤ qb a + qb b := by rw [Int.natAbs_mul]; exact Nat.le_trans (bl_mul _ _) (by simp only [Int.natAbs_natCast]; omega)
 have g2 : bl (b.num * (a.den : Int)).natAbs ≤ qb a + qb b := by rw [Int.natAbs_mul]; exact Nat.le_trans (bl_mul _ _) (by simp only [Int.natAbs_natCast]; omega)
 have HCC := Lib.hid (fun W v u hv hu => icmp_c W v u (a.num * (b.den : Int)) (b.num * (a.den : Int)) hv hu (by unfold Fit; omega) (by unfold Fit; omega))
 obtain ⟨cc, ecc⟩ : ∃ c, cmpQ a b = c := ⟨_, rfl⟩
 have ecc' : (a.num * (b.den : Int) - b.num * (a.den : Int)).sign = cc := ecc
 rw [ecc'] at HCC
 have hk1 : sa ≠ sb → u = cc := by intro h; rw [← eu, ← ecc]; exact cmpQ_signs a b (by rw [esa, esb]; exact h)
 have hk2 : (e1 : Int) + (e2 : Int) = 0 → u = cc := by intro h; rw [← eu, ← ecc]; exact cmpQ_whole a b (d1.1 (by omega)) (d2.1 (by omega))
 have HK1 := Lib.hid hk1
 have HK2 := Lib.hid hk2
 have H1 := Lib.hid ha
 have H2 := Lib.hid hb
 rw [ecc]
 clear ha hb hf f1 f2 f3 f4 eu esa esb ee1 ee2 d1 d2 g1 g2 ecc ecc' hk1 hk2
 by_cases hs : sa = sb
 ·
  subst hs
  have HB : Hid (Cells [(w.heap.size, 0, .bool s1), (w.heap.size, 1, .slice A1 n1 c1), (w.heap.size, 2, .slice B1 m1 k1), (w.heap.size + 1, 0, .bool s2), (w.heap.size + 1, 1, .slice A2 n2 c2), (w.heap.size + 1, 2, .slice B2 m2 k2)] ((w.alloc (.cells #[.bool s1, .slice A1 n1 c1, .slice B1 m1 k1] 32)).alloc (.cells #[.bool s2, .slice A2 n2 c2, .slice B2 m2 k2] 32))) := Lib.hid (Cells.cons (by go_simp) (Cells.cons (by go_simp) (Cells.cons (by go_simp) (Cells.cons (by go_simp) (Cells.cons (by go_simp) (Cells.cons (by go_simp) (Cells.nil _)))))))
  have hbw : Below w.heap.size w ((w.alloc (.cells #[.bool s1, .slice A1 n1 c1, .slice B1 m1 k1] 32)).alloc (.cells #[.bool s2, .slice A2 n2 c2, .slice B2 m2 k2] 32)) := (by repeat (first | assumption | exact nB1 _ _ | refine nB2 ?_ | refine pw_below_drewN ?_ _ | refine nB3 ?_ (by first | omega | (simp <;> omega)) _ | refine nB4 ?_ (by first | omega | (simp <;> omega)) _ | refine nB5 ?_ (by assumption) (by first | omega | (simp <;> omega))))
  go_enter Tryz.func48, Tryz.ntmps48
  go_wp2_with fail
  generalize ((w.alloc (.cells #[.bool s1, .slice A1 n1 c1, .slice B1 m1 k1] 32)).alloc (.cells #[.bool s2, .slice A2 n2 c2, .slice B2 m2 k2] 32)) = W0 at HB hbw ⊢
  replace HB := Lib.hid (HB.out.drew)
  replace hbw := Below.drew hbw
  refine wp_hoist [(0, true), (2, true), (1, false), (3, false), (4, true), (5, true), (6, true), (7, true), (9, true), (10, true), (8, false), (11, false), (12, true), (13, true), (14, true)] (Cells [(w.heap.size, 0, .bool s1), (w.heap.size, 1, .slice A1 n1 c1), (w.heap.size, 2, .slice B1 m1 k1), (w.heap.size + 1, 0, .bool s2), (w.heap.size + 1, 1, .slice A2 n2 c2), (w.heap.size + 1, 2, .slice B2 m2 k2)]) (by kernel_rfl) (by kernel_rfl) ?_ ?_
  · exact HB.out
  generalize W0.drew = W1 at HB hbw ⊢
  refine hz_yes (v := ?_) rfl (by kernel_rfl) (fun W hW => ?_) ?_; rotate_left; (obtain ⟨y0, y1, y2, y3, y4, y5, _⟩ := hW; go_simp; try with_reducible rfl)
  (try (conv => arg 6; simp only [Act.put, gL]))
  refine hz_yes (v := ?_) rfl (by kernel_rfl) (fun W hW => ?_) ?_; rotate_left; (obtain ⟨y0, y1, y2, y3, y4, y5, _⟩ := hW; go_simp; try with_reducible rfl)
  (try (conv => arg 6; simp only [Act.put, gL]))
  refine hz_eff rfl (by kernel_rfl) (fun K hK => ?_)
  refine wp_call (HS1.out _ (H1.out.ext hbw)) (by kernel_rfl) ?_
  rintro v1 W2 hb1 rfl
  refine hK.out _ _ ?_ ?_
  · exact HB.out.ext hb1
  clear hK K
  (try (conv => arg 6; simp only [Act.put, gL]))
  replace HB := Lib.hid (HB.out.ext hb1)
  replace hbw := nT hbw hb1
  clear hb1
  refine hz_eff rfl (by kernel_rfl) (fun K hK => ?_)
  refine wp_call (HS2.out _ (H2.out.ext hbw)) (by kernel_rfl) ?_
  rintro v1 W3 hb1 rfl
  refine hK.out _ _ ?_ ?_
  · exact HB.out.ext hb1
  clear hK K
  (try (conv => arg 6; simp only [Act.put, gL]))
  replace HB := Lib.hid (HB.out.ext hb1)
  replace hbw := nT hbw hb1
  clear hb1
  refine hz_yes (v := ?_) rfl (by kernel_rfl) (fun W hW => ?_) ?_; rotate_left; (go_simp; try with_reducible rfl)
  (try (conv => arg 6; simp only [Act.put, gL]))
  refine hz_yes (v := ?_) rfl (by kernel_rfl) (fun W hW => ?_) ?_; rotate_left; (go_simp; try with_reducible rfl)
  (try (conv => arg 6; simp only [Act.put, gL]))
  refine hz_yes (v := ?_) rfl (by kernel_rfl) (fun W hW => ?_) ?_; rotate_left; (go_simp; try with_reducible rfl)
  (try (conv => arg 6; simp only [Act.put, gL]))
  refine hz_yes (v := ?_) rfl (by kernel_rfl) (fun W hW => ?_) ?_; rotate_left; (obtain ⟨y0, y1, y2, y3, y4, y5, _⟩ := hW; go_simp; try with_reducible rfl)
  (try (conv => arg 6; simp only [Act.put, gL]))
  refine hz_yes (v := ?_) rfl (by kernel_rfl) (fun W hW => ?_) ?_; rotate_left; (go_simp; try with_reducible rfl)
  (try (conv => arg 6; simp only [Act.put, gL]))
  refine hz_yes (v := ?_) rfl (by kernel_rfl) (fun W hW => ?_) ?_; rotate_left; (obtain ⟨y0, y1, y2, y3, y4, y5, _⟩ := hW; go_simp; try with_reducible rfl)
  (try (conv => arg 6; simp only [Act.put, gL]))
  refine hz_eff rfl (by kernel_rfl) (fun K hK => ?_)
  refine wp_call (HBT1.out _ (H1.out.ext hbw).rest) (by kernel_rfl) ?_
  rintro v1 W4 hb1 rfl
  refine hK.out _ _ ?_ ?_
  · exact HB.out.ext hb1
  clear hK K
  (try (conv => arg 6; simp only [Act.put, gL]))
  replace HB := Lib.hid (HB.out.ext hb1)
  replace hbw := nT hbw hb1
  clear hb1
  refine hz_eff rfl (by kernel_rfl) (fun K hK => ?_)
  refine wp_call (HBT2.out _ (H2.out.ext hbw).rest) (by kernel_rfl) ?_
  rintro v1 W5 hb1 rfl
  refine hK.out _ _ ?_ ?_
  · exact HB.out.ext hb1
  clear hK K
  (try (conv => arg 6; simp only [Act.put, gL]))
  replace HB := Lib.hid (HB.out.ext hb1)
  replace hbw := nT hbw hb1
  clear hb1
  refine hz_yes (v := ?_) rfl (by kernel_rfl) (fun W hW => ?_) ?_; rotate_left; (go_simp; try with_reducible rfl)
  (try (conv => arg 6; simp only [Act.put, gL]))
  refine hz_yes (v := ?_) rfl (by kernel_rfl) (fun W hW => ?_) ?_; rotate_left; (go_simp; try with_reducible rfl)
  (try (conv => arg 6; simp only [Act.put, gL]))
  refine hz_yes (v := ?_) rfl (by kernel_rfl) (fun W hW => ?_) ?_; rotate_left; (go_simp; try with_reducible rfl)
  (try (conv => arg 6; simp only [Act.put, gL]))
  refine hz_nil ?_
  clear HBT1 HBT2 HS1 HS2
  by_cases h0 : (e1 : Int) + (e2 : Int) = 0
  ·
   have h0b : ((e1 : Int) + (e2 : Int) == 0) = true := by rw [beq_iff_eq]; exact h0
   have HEQ := Lib.hid (HK2.out h0)
   obtain ⟨y0, y1, y2, y3, y4, y5, _⟩ := id HB.out
   go_wp2_with fail
   clear y0 y1 y2 y3 y4 y5
   refine (HIC.out _ (H1.out.ext hbw).num (H2.out.ext hbw).num).mono ?_
   rintro e W6 ⟨v1, rfl, hb1, rfl⟩
   replace HB := Lib.hid (HB.out.ext hb1)
   replace hbw := nT hbw hb1
   clear hb1
   go_wp2_with fail
   go_ret
   rw [HEQ.out]
   exact ⟨_, rfl, hbw, rfl⟩
  have h0b : ((e1 : Int) + (e2 : Int) == 0) = false := by rw [beq_eq_false_iff_ne]; exact h0
  go_wp2_with fail
  replace HB := Lib.hid (HB.out.drew)
  replace hbw := Below.drew hbw
  refine wp_hoist [(0, true), (1, true), (2, true), (6, true), (7, true), (8, true), (3, false), (4, false), (5, false), (9, false), (10, false), (11, false), (12, false), (13, false)] (Cells [(w.heap.size, 0, .bool s1), (w.heap.size, 1, .slice A1 n1 c1), (w.heap.size, 2, .slice B1 m1 k1), (w.heap.size + 1, 0, .bool s2), (w.heap.size + 1, 1, .slice A2 n2 c2), (w.heap.size + 1, 2, .slice B2 m2 k2)]) (by kernel_rfl) (by kernel_rfl) ?_ ?_
  · exact HB.out
  generalize W5.drew = W6 at HB hbw ⊢
  refine hz_yes (v := ?_) rfl (by kernel_rfl) (fun W hW => ?_) ?_; rotate_left; (go_simp; try with_reducible rfl)
  (try (conv => arg 6; simp only [Act.put, gL]))
  refine hz_yes (v := ?_) rfl (by kernel_rfl) (fun W hW => ?_) ?_; rotate_left; (obtain ⟨y0, y1, y2, y3, y4, y5, _⟩ := hW; go_simp; try with_reducible rfl)
  (try (conv => arg 6; simp only [Act.put, gL]))
  refine hz_yes (v := ?_) rfl (by kernel_rfl) (fun W hW => ?_) ?_; rotate_left; (obtain ⟨y0, y1, y2, y3, y4, y5, _⟩ := hW; go_simp; try with_reducible rfl)
  (try (conv => arg 6; simp only [Act.put, gL]))
  refine hz_yes (v := ?_) rfl (by kernel_rfl) (fun W hW => ?_) ?_; rotate_left; (go_simp; try with_reducible rfl)
  (try (conv => arg 6; simp only [Act.put, gL]))
  refine hz_yes (v := ?_) rfl (by kernel_rfl) (fun W hW => ?_) ?_; rotate_left; (obtain ⟨y0, y1, y2, y3, y4, y5, _⟩ := hW; go_simp; try with_reducible rfl)
  (try (conv => arg 6; simp only [Act.put, gL]))
  refine hz_yes (v := ?_) rfl (by kernel_rfl) (fun W hW => ?_) ?_; rotate_left; (obtain ⟨y0, y1, y2, y3, y4, y5, _⟩ := hW; go_simp; try with_reducible rfl)
  (try (conv => arg 6; simp only [Act.put, gL]))
  refine hz_eff rfl (by kernel_rfl) (fun K hK => ?_)
  refine wp_call (HD2.out _ (H2.out.ext hbw)) (by kernel_rfl) ?_
  rintro v1 W7 hb1 hr1
  obtain ⟨EA, Ec, En, rfl, hr1⟩ := hr1.shape
  refine hK.out _ _ ?_ ?_
  · exact HB.out.ext hb1
  clear hK K
  (try (conv => arg 6; simp only [Act.put, gL]))
  replace HB := Lib.hid (HB.out.ext hb1)
  replace hbw := nT hbw hb1
  have R1 := Lib.hid hr1
  clear hr1
  clear hb1
  refine hz_eff rfl (by kernel_rfl) (fun K hK => ?_)
  refine wp_call (HWB.out _ _ R1.out) (by kernel_rfl) ?_
  rintro v1 W8 hb1 hr1
  obtain ⟨Fs, FA, Fc, Fn, rfl, hr1⟩ := hr1.shape
  refine hK.out _ _ ?_ ?_
  · exact HB.out.ext hb1
  clear hK K
  (try (conv => arg 6; simp only [Act.put, gL]))
  replace HB := Lib.hid (HB.out.ext hb1)
  replace R1 := Lib.hid (R1.out.ext hb1)
  replace hbw := nT hbw hb1
  have R2 := Lib.hid hr1
  clear hr1
  clear hb1
  refine hz_eff rfl (by kernel_rfl) (fun K hK => ?_)
  refine wp_call (HM1.out _ _ _ (H1.out.ext hbw).num R2.out) (by kernel_rfl) ?_
  rintro v1 W9 hb1 hr1
  obtain ⟨Gs, GA, Gc, Gn, rfl, hr1⟩ := hr1.shape
  refine hK.out _ _ ?_ ?_
  · exact HB.out.ext hb1
  clear hK K
  (try (conv => arg 6; simp only [Act.put, gL]))
  replace HB := Lib.hid (HB.out.ext hb1)
  replace R1 := Lib.hid (R1.out.ext hb1)
  replace R2 := Lib.hid (R2.out.ext hb1)
  replace hbw := nT hbw hb1
  have R3 := Lib.hid hr1
  clear hr1
  clear hb1
  refine hz_eff rfl (by kernel_rfl) (fun K hK => ?_)
  refine wp_call (HD1.out _ (H1.out.ext hbw)) (by kernel_rfl) ?_
  rintro v1 W10 hb1 hr1
  obtain ⟨IA, Ic, In, rfl, hr1⟩ := hr1.shape
  refine hK.out _ _ ?_ ?_
  · exact HB.out.ext hb1
  clear hK K
  (try (conv => arg 6; simp only [Act.put, gL]))
  replace HB := Lib.hid (HB.out.ext hb1)
  replace R1 := Lib.hid (R1.out.ext hb1)
  replace R2 := Lib.hid (R2.out.ext hb1)
  replace R3 := Lib.hid (R3.out.ext hb1)
  replace hbw := nT hbw hb1
  have R4 := Lib.hid hr1
  clear hr1
  clear hb1
  refine hz_eff rfl (by kernel_rfl) (fun K hK => ?_)
  refine wp_call (HWA.out _ _ R4.out) (by kernel_rfl) ?_
  rintro v1 W11 hb1 hr1
  obtain ⟨Js, JA, Jc, Jn, rfl, hr1⟩ := hr1.shape
  refine hK.out _ _ ?_ ?_
  · exact HB.out.ext hb1
  clear hK K
  (try (conv => arg 6; simp only [Act.put, gL]))
  replace HB := Lib.hid (HB.out.ext hb1)
  replace R1 := Lib.hid (R1.out.ext hb1)
  replace R2 := Lib.hid (R2.out.ext hb1)
  replace R3 := Lib.hid (R3.out.ext hb1)
  replace R4 := Lib.hid (R4.out.ext hb1)
  replace hbw := nT hbw hb1
  have R5 := Lib.hid hr1
  clear hr1
  clear hb1
  refine hz_eff rfl (by kernel_rfl) (fun K hK => ?_)
  refine wp_call (HM2.out _ _ _ (H2.out.ext hbw).num R5.out) (by kernel_rfl) ?_
  rintro v1 W12 hb1 hr1
  obtain ⟨Ls, LA, Lc, Ln, rfl, hr1⟩ := hr1.shape
  refine hK.out _ _ ?_ ?_
  · exact HB.out.ext hb1
  clear hK K
  (try (conv => arg 6; simp only [Act.put, gL]))
  replace HB := Lib.hid (HB.out.ext hb1)
  replace R1 := Lib.hid (R1.out.ext hb1)
  replace R2 := Lib.hid (R2.out.ext hb1)
  replace R3 := Lib.hid (R3.out.ext hb1)
  replace R4 := Lib.hid (R4.out.ext hb1)
  replace R5 := Lib.hid (R5.out.ext hb1)
  replace hbw := nT hbw hb1
  have R6 := Lib.hid hr1
  clear hr1
  clear hb1
  refine hz_eff rfl (by kernel_rfl) (fun K hK => ?_)
  refine wp_call (HCC.out _ _ _ R3.out R6.out) (by kernel_rfl) ?_
  rintro v1 W13 hb1 rfl
  refine hK.out _ _ ?_ ?_
  · exact HB.out.ext hb1
  clear hK K
  (try (conv => arg 6; simp only [Act.put, gL]))
  replace HB := Lib.hid (HB.out.ext hb1)
  replace R1 := Lib.hid (R1.out.ext hb1)
  replace R2 := Lib.hid (R2.out.ext hb1)
  replace R3 := Lib.hid (R3.out.ext hb1)
  replace R4 := Lib.hid (R4.out.ext hb1)
  replace R5 := Lib.hid (R5.out.ext hb1)
  replace R6 := Lib.hid (R6.out.ext hb1)
  replace hbw := nT hbw hb1
  clear hb1
  refine hz_eff rfl (by kernel_rfl) (fun K hK => ?_)
  go_simp
  refine hK.out _ _ ?_ ?_
  · exact HB.out
  clear hK K
  (try (conv => arg 6; simp only [Act.put, gL]))
  refine hz_nil ?_
  go_wp2_with fail
  go_ret
  exact ⟨_, rfl, hbw, rfl⟩
 ·
  have hsb : (sa != sb) = true := by rw [bne_iff_ne]; exact hs
  have hsc : (sa == sb) = false := by rw [beq_eq_false_iff_ne]; exact hs
  have HEQ := Lib.hid (HK1.out hs)
  have HB : Hid (Cells [(w.heap.size, 0, .bool s1), (w.heap.size, 1, .slice A1 n1 c1), (w.heap.size, 2, .slice B1 m1 k1), (w.heap.size + 1, 0, .bool s2), (w.heap.size + 1, 1, .slice A2 n2 c2), (w.heap.size + 1, 2, .slice B2 m2 k2)] ((w.alloc (.cells #[.bool s1, .slice A1 n1 c1, .slice B1 m1 k1] 32)).alloc (.cells #[.bool s2, .slice A2 n2 c2, .slice B2 m2 k2] 32))) := Lib.hid (Cells.cons (by go_simp) (Cells.cons (by go_simp) (Cells.cons (by go_simp) (Cells.cons (by go_simp) (Cells.cons (by go_simp) (Cells.cons (by go_simp) (Cells.nil _)))))))
  have hbw : Below w.heap.size w ((w.alloc (.cells #[.bool s1, .slice A1 n1 c1, .slice B1 m1 k1] 32)).alloc (.cells #[.bool s2, .slice A2 n2 c2, .slice B2 m2 k2] 32)) := (by repeat (first | assumption | exact nB1 _ _ | refine nB2 ?_ | refine pw_below_drewN ?_ _ | refine nB3 ?_ (by first | omega | (simp <;> omega)) _ | refine nB4 ?_ (by first | omega | (simp <;> omega)) _ | refine nB5 ?_ (by assumption) (by first | omega | (simp <;> omega))))
  go_enter Tryz.func48, Tryz.ntmps48
  go_wp2_with fail
  generalize ((w.alloc (.cells #[.bool s1, .slice A1 n1 c1, .slice B1 m1 k1] 32)).alloc (.cells #[.bool s2, .slice A2 n2 c2, .slice B2 m2 k2] 32)) = W0 at HB hbw ⊢
  replace HB := Lib.hid (HB.out.drew)
  replace hbw := Below.drew hbw
  refine wp_hoist [(0, true), (2, true), (1, false), (3, false), (4, true), (5, true), (6, true), (7, true), (9, true), (10, true), (8, false), (11, false), (12, true), (13, true), (14, true)] (Cells [(w.heap.size, 0, .bool s1), (w.heap.size, 1, .slice A1 n1 c1), (w.heap.size, 2, .slice B1 m1 k1), (w.heap.size + 1, 0, .bool s2), (w.heap.size + 1, 1, .slice A2 n2 c2), (w.heap.size + 1, 2, .slice B2 m2 k2)]) (by kernel_rfl) (by kernel_rfl) ?_ ?_
  · exact HB.out
  generalize W0.drew = W1 at HB hbw ⊢
  refine hz_yes (v := ?_) rfl (by kernel_rfl) (fun W hW => ?_) ?_; rotate_left; (obtain ⟨y0, y1, y2, y3, y4, y5, _⟩ := hW; go_simp; try with_reducible rfl)
  (try (conv => arg 6; simp only [Act.put, gL]))
  refine hz_yes (v := ?_) rfl (by kernel_rfl) (fun W hW => ?_) ?_; rotate_left; (obtain ⟨y0, y1, y2, y3, y4, y5, _⟩ := hW; go_simp; try with_reducible rfl)
  (try (conv => arg 6; simp only [Act.put, gL]))
  refine hz_eff rfl (by kernel_rfl) (fun K hK => ?_)
  refine wp_call (HS1.out _ (H1.out.ext hbw)) (by kernel_rfl) ?_
  rintro v1 W2 hb1 rfl
  refine hK.out _ _ ?_ ?_
  · exact HB.out.ext hb1
  clear hK K
  (try (conv => arg 6; simp only [Act.put, gL]))
  replace HB := Lib.hid (HB.out.ext hb1)
  replace hbw := nT hbw hb1
  clear hb1
  refine hz_eff rfl (by kernel_rfl) (fun K hK => ?_)
  refine wp_call (HS2.out _ (H2.out.ext hbw)) (by kernel_rfl) ?_
  rintro v1 W3 hb1 rfl
  refine hK.out _ _ ?_ ?_
  · exact HB.out.ext hb1
  clear hK K
  (try (conv => arg 6; simp only [Act.put, gL]))
  replace HB := Lib.hid (HB.out.ext hb1)
  replace hbw := nT hbw hb1
  clear hb1
  refine hz_yes (v := ?_) rfl (by kernel_rfl) (fun W hW => ?_) ?_; rotate_left; (go_simp; try with_reducible rfl)
  (try (conv => arg 6; simp only [Act.put, gL]))
  refine hz_yes (v := ?_) rfl (by kernel_rfl) (fun W hW => ?_) ?_; rotate_left; (go_simp; try with_reducible rfl)
  (try (conv => arg 6; simp only [Act.put, gL]))
  refine hz_no rfl (by kernel_rfl) ?_
  (try (conv => arg 6; simp only [Act.put, gL]))
  refine hz_no rfl (by kernel_rfl) ?_
  (try (conv => arg 6; simp only [Act.put, gL]))
  refine hz_no rfl (by kernel_rfl) ?_
  (try (conv => arg 6; simp only [Act.put, gL]))
  refine hz_no rfl (by kernel_rfl) ?_
  (try (conv => arg 6; simp only [Act.put, gL]))
  refine hz_effno rfl (by kernel_rfl) ?_ ?_
  · exact HB.out
  (try (conv => arg 6; simp only [Act.put, gL]))
  refine hz_effno rfl (by kernel_rfl) ?_ ?_
  · exact HB.out
  (try (conv => arg 6; simp only [Act.put, gL]))
  refine hz_no rfl (by kernel_rfl) ?_
  (try (conv => arg 6; simp only [Act.put, gL]))
  refine hz_no rfl (by kernel_rfl) ?_
  (try (conv => arg 6; simp only [Act.put, gL]))
  refine hz_yes (v := ?_) rfl (by kernel_rfl) (fun W hW => ?_) ?_; rotate_left; (go_simp; try with_reducible rfl)
  (try (conv => arg 6; simp only [Act.put, gL]))
  refine hz_nil ?_
  obtain ⟨y0, y1, y2, y3, y4, y5, _⟩ := id HB.out
  go_wp2_with fail
  clear y0 y1 y2 y3 y4 y5
  refine (HIC.out _ (H1.out.ext hbw).num (H2.out.ext hbw).num).mono ?_
  rintro e W4 ⟨v1, rfl, hb1, rfl⟩
  replace HB := Lib.hid (HB.out.ext hb1)
  replace hbw := nT hbw hb1
  clear hb1
  go_wp2_with fail
  go_ret
  rw [HEQ.out]
  exact ⟨_, rfl, hbw, rfl⟩
end Go.Proofs.YtadpjidakippeaaGreat

/- What score.Right, Table, Rates, Tilt refuse. -/
namespace Go.Proofs.YtadpjidakippeaaGreat
open Go.RowKit
theorem ScSaid.zero (W : World) (e : Int) : ScSaid W (.tuple #[.agg #[.bool false, .slice none 0 0, .slice none 0 0], .int .i64 e]) e 0 := ⟨_, _, _, _, _, _, _, rfl, rQd.mk (by exact ⟨_, rNat.zero _, rfl⟩) (rNat.zero _)⟩
set_option maxRecDepth 100000 in
set_option maxHeartbeats 1000000 in
/-- Right, of lists that are not matched -/
theorem right_no (w : World) (A B : Option Addr) (n m c d : Nat) (h : ¬ (n = m ∧ 0 < n)) : Calls Tryz.prog 7 #[.slice A n c, .slice B m d] w (Post w fun r w' => ScSaid w' r 5 0) := by
 have HM := Lib.hid (fun W => matched_c W A B n m c d)
 rw [decide_eq_false h] at HM
 have HB : Hid (Cells [(w.heap.size, 0, .slice A n c), (w.heap.size + 1, 0, .slice B m d)] (((w.alloc (.cells #[.slice A n c] 22)).alloc (.cells #[.slice B m d] 22)).alloc (.cells #[.bool false, .slice none 0 0, .slice none 0 0] 32))) := Lib.hid (Cells.cons (by go_simp) (Cells.cons (by go_simp) (Cells.nil _)))
 have HO0 := Lib.hid (Own.new' ((w.alloc (.cells #[.slice A n c] 22)).alloc (.cells #[.slice B m d] 22)) 32 [.bool false, .slice none 0 0, .slice none 0 0] (w.heap.size + 1 + 1) (by simp))
 have hbw : Below w.heap.size w (((w.alloc (.cells #[.slice A n c] 22)).alloc (.cells #[.slice B m d] 22)).alloc (.cells #[.bool false, .slice none 0 0, .slice none 0 0] 32)) := (by repeat (first | assumption | exact nB1 _ _ | refine nB2 ?_ | refine pw_below_drewN ?_ _ | refine nB3 ?_ (by first | omega | (simp <;> omega)) _ | refine nB4 ?_ (by first | omega | (simp <;> omega)) _ | refine nB5 ?_ (by assumption) (by first | omega | (simp <;> omega))))
 go_enter Tryz.func7, Tryz.ntmps7
 go_wp2_with fail
 generalize (((w.alloc (.cells #[.slice A n c] 22)).alloc (.cells #[.slice B m d] 22)).alloc (.cells #[.bool false, .slice none 0 0, .slice none 0 0] 32)) = W0 at HB HO0 hbw ⊢
 obtain ⟨y0, y1, _⟩ := id HB.out
 go_wp2_with fail
 clear y0 y1
 refine (HM.out _).mono ?_
 rintro e W1 ⟨v1, rfl, hb1, rfl⟩
 replace HB := Lib.hid (HB.out.ext hb1)
 replace HO0 := Lib.hid (HO0.out.ext hb1)
 replace hbw := nT hbw hb1
 clear hb1
 have q0 := HO0.out.cell 0 _ rfl
 have f0 := HO0.out.frozen 0
 have q1 := HO0.out.cell 1 _ rfl
 have f1 := HO0.out.frozen 1
 have q2 := HO0.out.cell 2 _ rfl
 have f2 := HO0.out.frozen 2
 go_wp2_with fail
 replace HB := Lib.hid (HB.out.set (p := ⟨w.heap.size + 1 + 1, 0, none⟩) (.bool false) (by simp <;> omega))
 replace HO0 := Lib.hid (HO0.out.set 0 (.bool false))
 replace hbw := nB4 hbw (show w.heap.size ≤ (⟨w.heap.size + 1 + 1, 0, none⟩ : Addr).block by simp <;> omega) (.bool false)
 replace q1 := (nC W1 ⟨w.heap.size + 1 + 1, 0, none⟩ ⟨w.heap.size + 1 + 1, 1, none⟩ (.bool false) (by simp)).trans q1
 replace q2 := (nC W1 ⟨w.heap.size + 1 + 1, 0, none⟩ ⟨w.heap.size + 1 + 1, 2, none⟩ (.bool false) (by simp)).trans q2
 replace HB := Lib.hid (HB.out.set (p := ⟨w.heap.size + 1 + 1, 1, none⟩) (.slice none 0 0) (by simp <;> omega))
 replace HO0 := Lib.hid (HO0.out.set 1 (.slice none 0 0))
 replace hbw := nB4 hbw (show w.heap.size ≤ (⟨w.heap.size + 1 + 1, 1, none⟩ : Addr).block by simp <;> omega) (.slice none 0 0)
 replace q2 := (nC (W1.setCell ⟨w.heap.size + 1 + 1, 0, none⟩ (.bool false)) ⟨w.heap.size + 1 + 1, 1, none⟩ ⟨w.heap.size + 1 + 1, 2, none⟩ (.slice none 0 0) (by simp)).trans q2
 replace HB := Lib.hid (HB.out.set (p := ⟨w.heap.size + 1 + 1, 2, none⟩) (.slice none 0 0) (by simp <;> omega))
 replace HO0 := Lib.hid (HO0.out.set 2 (.slice none 0 0))
 replace hbw := nB4 hbw (show w.heap.size ≤ (⟨w.heap.size + 1 + 1, 2, none⟩ : Addr).block by simp <;> omega) (.slice none 0 0)
 clear q0 f0 q1 f1 q2 f2
 replace HO0 : Hid (Own _ _ _ [.bool false, .slice none 0 0, .slice none 0 0]) := HO0
 generalize (((W1.setCell ⟨w.heap.size + 1 + 1, 0, none⟩ (.bool false)).setCell ⟨w.heap.size + 1 + 1, 1, none⟩ (.slice none 0 0)).setCell ⟨w.heap.size + 1 + 1, 2, none⟩ (.slice none 0 0)) = W2 at HB HO0 hbw ⊢
 have kk0 := HO0.out.cell 0 _ rfl
 have kk1 := HO0.out.cell 1 _ rfl
 have kk2 := HO0.out.cell 2 _ rfl
 refine bodyPost_ret (v := .tuple #[.agg #[.bool false, .slice none 0 0, .slice none 0 0], .int .i64 5]) (by simp [results, Tryz.results7, go_sem, kk0, kk1, kk2]) rfl ⟨_, rfl, hbw, ?_⟩
 exact ScSaid.zero _ _
set_option maxRecDepth 100000 in
set_option maxHeartbeats 1000000 in
/-- Table, of lists that are not matched -/
theorem table_no (w : World) (A B : Option Addr) (n m c d : Nat) (k : Int) (h : ¬ (n = m ∧ 0 < n)) : Calls Tryz.prog 9 #[.slice A n c, .slice B m d, .int .i64 k] w (Post w fun r w' => r = .tuple #[.slice none 0 0, .int .i64 5]) := by
 have HM := Lib.hid (fun W => matched_c W A B n m c d)
 rw [decide_eq_false h] at HM
 have HB : Hid (Cells [(w.heap.size, 0, .int .i64 k)] (w.alloc (.cells #[.int .i64 k] 3))) := Lib.hid (Cells.cons (by go_simp) (Cells.nil _))
 have hbw : Below w.heap.size w (w.alloc (.cells #[.int .i64 k] 3)) := (by repeat (first | assumption | exact nB1 _ _ | refine nB2 ?_ | refine pw_below_drewN ?_ _ | refine nB3 ?_ (by first | omega | (simp <;> omega)) _ | refine nB4 ?_ (by first | omega | (simp <;> omega)) _ | refine nB5 ?_ (by assumption) (by first | omega | (simp <;> omega))))
 go_enter Tryz.func9, Tryz.ntmps9
 go_wp2_with fail
 generalize (w.alloc (.cells #[.int .i64 k] 3)) = W0 at HB hbw ⊢
 refine (HM.out _).mono ?_
 rintro e W1 ⟨v1, rfl, hb1, rfl⟩
 replace HB := Lib.hid (HB.out.ext hb1)
 replace hbw := nT hbw hb1
 clear hb1
 obtain ⟨y0, _⟩ := id HB.out
 go_wp2_with fail
 refine bodyPost_ret (v := .tuple #[.slice none 0 0, .int .i64 5]) (by simp [results, Tryz.results9, go_sem]) rfl ⟨_, rfl, hbw, rfl⟩
set_option maxRecDepth 100000 in
set_option maxHeartbeats 4000000 in
/-- Table, of classes that may not be -/
theorem table_bad (w : World) (va vb : Value) (a b : List Int) (k : Int) (ha : rIs w va a) (hb : rIs w vb b) (hab : b.length = a.length) (h0 : 0 < a.length) (hn : a.length ≤ 1099511627775) (h : k < 1 ∨ 12 < k ∨ a.any (badC k) = true ∨ b.any (badC k) = true) :
  Calls Tryz.prog 9 #[va, vb, .int .i64 k] w (Post w fun r w' => r = .tuple #[.slice none 0 0, .int .i64 1]) := by
 obtain ⟨A, c, rfl, ha⟩ := ha.shape
 obtain ⟨B, d, rfl, hb⟩ := hb.shape
 have HC1 := Lib.hid (fun W bx h hc => contains_c W (.slice A a.length c) bx a k h hn hc)
 have HC2 := Lib.hid (fun W bx h hc => contains_c W (.slice B b.length d) bx b k h (by omega) hc)
 rw [hab] at HC2 hb ⊢
 obtain ⟨n, en⟩ : ∃ n, a.length = n := ⟨_, rfl⟩
 rw [en] at HC1 HC2 ha hb h0 ⊢
 obtain ⟨p, ep⟩ : ∃ p, a.any (badC k) = p := ⟨_, rfl⟩
 obtain ⟨q, eq⟩ : ∃ q, b.any (badC k) = q := ⟨_, rfl⟩
 rw [ep, eq] at h
 rw [ep] at HC1
 rw [eq] at HC2
 have HM := Lib.hid (fun W => matched_c W A B n n c d)
 rw [show decide (n = n ∧ 0 < n) = true from by simp [h0]] at HM
 have H1 := Lib.hid ha
 have H2 := Lib.hid hb
 have hmf : ∀ (fn : Fn) (first cap : Array Value) (w : World), (Instr.makeFunc fn first cap).run Tryz.prog w = .ok (.func fn first cap) w := fun _ _ _ _ => rfl
 clear ha hb hab en ep eq
 by_cases k1 : k < 1
 ·
  clear h
  have HB : Hid (Cells [(w.heap.size, 0, .int .i64 k)] (w.alloc (.cells #[.int .i64 k] 3))) := Lib.hid (Cells.cons (by go_simp) (Cells.nil _))
  have hbw : Below w.heap.size w (w.alloc (.cells #[.int .i64 k] 3)) := (by repeat (first | assumption | exact nB1 _ _ | refine nB2 ?_ | refine pw_below_drewN ?_ _ | refine nB3 ?_ (by first | omega | (simp <;> omega)) _ | refine nB4 ?_ (by first | omega | (simp <;> omega)) _ | refine nB5 ?_ (by assumption) (by first | omega | (simp <;> omega))))
  go_enter Tryz.func9, Tryz.ntmps9
  go_wp2_with fail
  generalize (w.alloc (.cells #[.int .i64 k] 3)) = W0 at HB hbw ⊢
  refine (HM.out _).mono ?_
  rintro e W1 ⟨v1, rfl, hb1, rfl⟩
  replace HB := Lib.hid (HB.out.ext hb1)
  replace hbw := nT hbw hb1
  clear hb1
  obtain ⟨y0, _⟩ := id HB.out
  go_wp2_with fail
  refine bodyPost_ret (v := .tuple #[.slice none 0 0, .int .i64 1]) (by simp [results, Tryz.results9, go_sem]) rfl ⟨_, rfl, hbw, rfl⟩
 by_cases k2 : 12 < k
 ·
  clear h
  have HB : Hid (Cells [(w.heap.size, 0, .int .i64 k)] (w.alloc (.cells #[.int .i64 k] 3))) := Lib.hid (Cells.cons (by go_simp) (Cells.nil _))
  have hbw : Below w.heap.size w (w.alloc (.cells #[.int .i64 k] 3)) := (by repeat (first | assumption | exact nB1 _ _ | refine nB2 ?_ | refine pw_below_drewN ?_ _ | refine nB3 ?_ (by first | omega | (simp <;> omega)) _ | refine nB4 ?_ (by first | omega | (simp <;> omega)) _ | refine nB5 ?_ (by assumption) (by first | omega | (simp <;> omega))))
  go_enter Tryz.func9, Tryz.ntmps9
  go_wp2_with fail
  generalize (w.alloc (.cells #[.int .i64 k] 3)) = W0 at HB hbw ⊢
  refine (HM.out _).mono ?_
  rintro e W1 ⟨v1, rfl, hb1, rfl⟩
  replace HB := Lib.hid (HB.out.ext hb1)
  replace hbw := nT hbw hb1
  clear hb1
  obtain ⟨y0, _⟩ := id HB.out
  go_wp2_with fail
  refine bodyPost_ret (v := .tuple #[.slice none 0 0, .int .i64 1]) (by simp [results, Tryz.results9, go_sem]) rfl ⟨_, rfl, hbw, rfl⟩
 cases p with
 | true =>
  clear h
  have HB : Hid (Cells [(w.heap.size, 0, .int .i64 k)] (w.alloc (.cells #[.int .i64 k] 3))) := Lib.hid (Cells.cons (by go_simp) (Cells.nil _))
  have hbw : Below w.heap.size w (w.alloc (.cells #[.int .i64 k] 3)) := (by repeat (first | assumption | exact nB1 _ _ | refine nB2 ?_ | refine pw_below_drewN ?_ _ | refine nB3 ?_ (by first | omega | (simp <;> omega)) _ | refine nB4 ?_ (by first | omega | (simp <;> omega)) _ | refine nB5 ?_ (by assumption) (by first | omega | (simp <;> omega))))
  go_enter Tryz.func9, Tryz.ntmps9
  go_wp2_with fail
  generalize (w.alloc (.cells #[.int .i64 k] 3)) = W0 at HB hbw ⊢
  refine (HM.out _).mono ?_
  rintro e W1 ⟨v1, rfl, hb1, rfl⟩
  replace HB := Lib.hid (HB.out.ext hb1)
  replace hbw := nT hbw hb1
  clear hb1
  obtain ⟨y0, _⟩ := id HB.out
  go_wp2_with fail
  clear y0
  refine (HC1.out _ _ (H1.out.ext hbw) HB.out.1).mono ?_
  rintro e W2 ⟨v1, rfl, hb1, rfl⟩
  replace HB := Lib.hid (HB.out.ext hb1)
  replace hbw := nT hbw hb1
  clear hb1
  obtain ⟨y0, _⟩ := id HB.out
  go_wp2_with fail
  refine bodyPost_ret (v := .tuple #[.slice none 0 0, .int .i64 1]) (by simp [results, Tryz.results9, go_sem]) rfl ⟨_, rfl, hbw, rfl⟩
 | false =>
  have hq : q = true := by
   rcases h with h | h | h | h
   · exact absurd h k1
   · exact absurd h k2
   · cases h
   · exact h
  subst hq
  clear h
  have HB : Hid (Cells [(w.heap.size, 0, .int .i64 k)] (w.alloc (.cells #[.int .i64 k] 3))) := Lib.hid (Cells.cons (by go_simp) (Cells.nil _))
  have hbw : Below w.heap.size w (w.alloc (.cells #[.int .i64 k] 3)) := (by repeat (first | assumption | exact nB1 _ _ | refine nB2 ?_ | refine pw_below_drewN ?_ _ | refine nB3 ?_ (by first | omega | (simp <;> omega)) _ | refine nB4 ?_ (by first | omega | (simp <;> omega)) _ | refine nB5 ?_ (by assumption) (by first | omega | (simp <;> omega))))
  go_enter Tryz.func9, Tryz.ntmps9
  go_wp2_with fail
  generalize (w.alloc (.cells #[.int .i64 k] 3)) = W0 at HB hbw ⊢
  refine (HM.out _).mono ?_
  rintro e W1 ⟨v1, rfl, hb1, rfl⟩
  replace HB := Lib.hid (HB.out.ext hb1)
  replace hbw := nT hbw hb1
  clear hb1
  obtain ⟨y0, _⟩ := id HB.out
  go_wp2_with fail
  clear y0
  refine (HC1.out _ _ (H1.out.ext hbw) HB.out.1).mono ?_
  rintro e W2 ⟨v1, rfl, hb1, rfl⟩
  replace HB := Lib.hid (HB.out.ext hb1)
  replace hbw := nT hbw hb1
  clear hb1
  obtain ⟨y0, _⟩ := id HB.out
  go_wp2_with fail
  clear y0
  refine (HC2.out _ _ (H2.out.ext hbw) HB.out.1).mono ?_
  rintro e W3 ⟨v1, rfl, hb1, rfl⟩
  replace HB := Lib.hid (HB.out.ext hb1)
  replace hbw := nT hbw hb1
  clear hb1
  obtain ⟨y0, _⟩ := id HB.out
  go_wp2_with fail
  refine bodyPost_ret (v := .tuple #[.slice none 0 0, .int .i64 1]) (by simp [results, Tryz.results9, go_sem]) rfl ⟨_, rfl, hbw, rfl⟩
set_option maxRecDepth 100000 in
set_option maxHeartbeats 1000000 in
/-- Rates, of what is no square -/
theorem rates_no (w : World) (v : Value) (T : List (List Int)) (hT : rIss w v T) (hk : T.length ≤ 1099511627775) (h : T.length = 0 ∨ T.any (fun l => decide (l.length ≠ T.length)) = true) : Calls Tryz.prog 15 #[v] w (Post w fun r w' => r = .tuple #[.slice none 0 0, .int .i64 5]) := by
 obtain ⟨A, c, rfl, hT⟩ := hT.shape
 have HC := Lib.hid (fun W bx h hc => contains2_any W (.slice A T.length c) bx T T.length c A h hk hc)
 have H1 := Lib.hid hT
 obtain ⟨p, ep⟩ : ∃ p, T.any (fun l => decide (l.length ≠ T.length)) = p := ⟨_, rfl⟩
 rw [ep] at h HC
 obtain ⟨k, ek⟩ : ∃ k, T.length = k := ⟨_, rfl⟩
 rw [ek] at HC H1 h ⊢
 have hmf : ∀ (fn : Fn) (first cap : Array Value) (w : World), (Instr.makeFunc fn first cap).run Tryz.prog w = .ok (.func fn first cap) w := fun _ _ _ _ => rfl
 clear hT ep
 by_cases h0 : k = 0
 ·
  subst h0
  have HB : Hid (Cells [(w.heap.size, 0, .slice A 0 c)] (w.alloc (.cells #[.slice A 0 c] 23))) := Lib.hid (Cells.cons (by go_simp) (Cells.nil _))
  have hbw : Below w.heap.size w (w.alloc (.cells #[.slice A 0 c] 23)) := (by repeat (first | assumption | exact nB1 _ _ | refine nB2 ?_ | refine pw_below_drewN ?_ _ | refine nB3 ?_ (by first | omega | (simp <;> omega)) _ | refine nB4 ?_ (by first | omega | (simp <;> omega)) _ | refine nB5 ?_ (by assumption) (by first | omega | (simp <;> omega))))
  go_enter Tryz.func15, Tryz.ntmps15
  go_wp2_with fail
  generalize (w.alloc (.cells #[.slice A 0 c] 23)) = W0 at HB hbw ⊢
  obtain ⟨y0, _⟩ := id HB.out
  go_wp2_with fail
  refine bodyPost_ret (v := .tuple #[.slice none 0 0, .int .i64 5]) (by simp [results, Tryz.results15, go_sem]) rfl ⟨_, rfl, hbw, rfl⟩
 ·
  have hp : p = true := by
   rcases h with h | h
   · exact absurd h h0
   · exact h
  subst hp
  have hk1 : ((k : Int) == 0) = false := by rw [beq_eq_false_iff_ne]; omega
  have hk2 : ¬ (k : Int) = 0 := by omega
  clear h
  have HB : Hid (Cells [(w.heap.size, 0, .slice A k c)] (w.alloc (.cells #[.slice A k c] 23))) := Lib.hid (Cells.cons (by go_simp) (Cells.nil _))
  have hbw : Below w.heap.size w (w.alloc (.cells #[.slice A k c] 23)) := (by repeat (first | assumption | exact nB1 _ _ | refine nB2 ?_ | refine pw_below_drewN ?_ _ | refine nB3 ?_ (by first | omega | (simp <;> omega)) _ | refine nB4 ?_ (by first | omega | (simp <;> omega)) _ | refine nB5 ?_ (by assumption) (by first | omega | (simp <;> omega))))
  go_enter Tryz.func15, Tryz.ntmps15
  go_wp2_with fail
  generalize (w.alloc (.cells #[.slice A k c] 23)) = W0 at HB hbw ⊢
  obtain ⟨y0, _⟩ := id HB.out
  go_wp2_with fail
  clear y0
  refine (HC.out _ _ (H1.out.ext hbw) HB.out.1).mono ?_
  rintro e W1 ⟨v1, rfl, hb1, rfl⟩
  replace HB := Lib.hid (HB.out.ext hb1)
  replace hbw := nT hbw hb1
  clear hb1
  obtain ⟨y0, _⟩ := id HB.out
  go_wp2_with fail
  refine bodyPost_ret (v := .tuple #[.slice none 0 0, .int .i64 5]) (by simp [results, Tryz.results15, go_sem]) rfl ⟨_, rfl, hbw, rfl⟩
set_option maxRecDepth 100000 in
set_option maxHeartbeats 2000000 in
/-- Tilt, of a share above 1 -/
theorem tilt_high (w : World) (A B : Option Addr) (n c d : Nat) (vt : Value) (t : Rat) (ht : rQ w vt t) (hf : qb t ≤ 17592186043000) (h0 : 0 < n) (h1 : t.num.sign = 1) (h2 : 0 < cmpQ t 1) : Calls Tryz.prog 18 #[.slice A n c, .slice B n d, vt] w (Post w fun r w' => ScSaid w' r 1 0) := by
 obtain ⟨s1, A1, c1, n1, B1, k1, m1, rfl, ht⟩ := ht.shape
 have HM := Lib.hid (fun W => matchedQ_c W A B n n c d)
 rw [show decide (n = n ∧ 0 < n) = true from by simp [h0]] at HM
 have fn := qb_num t
 have HS := Lib.hid (fun W h => qsign_c W (.agg #[.bool s1, .slice A1 n1 c1, .slice B1 m1 k1]) t h (by unfold Fit; omega))
 have HO := Lib.hid (fun W => qof_c W 1 ⟨by omega, by omega⟩)
 rw [show ((1 : Int) : Rat) = 1 from rfl] at HO
 have b1 : qb 1 ≤ 4 := by decide
 have HC := Lib.hid (fun W u h h' => qcmp_c W (.agg #[.bool s1, .slice A1 n1 c1, .slice B1 m1 k1]) u t 1 h h' (by omega))
 obtain ⟨cq, ec⟩ : ∃ c, cmpQ t 1 = c := ⟨_, rfl⟩
 rw [h1] at HS
 rw [ec] at HC h2
 have H1 := Lib.hid ht
 clear ht fn b1 hf ec h1
 have HB : Hid (Cells [(w.heap.size, 0, .slice A n c), (w.heap.size + 1, 0, .slice B n d), (w.heap.size + 1 + 1, 0, .bool s1), (w.heap.size + 1 + 1, 1, .slice A1 n1 c1), (w.heap.size + 1 + 1, 2, .slice B1 m1 k1)] ((((w.alloc (.cells #[.slice A n c] 58)).alloc (.cells #[.slice B n d] 58)).alloc (.cells #[.bool s1, .slice A1 n1 c1, .slice B1 m1 k1] 32)).alloc (.cells #[.bool false, .slice none 0 0, .slice none 0 0] 32))) := Lib.hid (Cells.cons (by go_simp) (Cells.cons (by go_simp) (Cells.cons (by go_simp) (Cells.cons (by go_simp) (Cells.cons (by go_simp) (Cells.nil _))))))
 have HO0 := Lib.hid (Own.new' (((w.alloc (.cells #[.slice A n c] 58)).alloc (.cells #[.slice B n d] 58)).alloc (.cells #[.bool s1, .slice A1 n1 c1, .slice B1 m1 k1] 32)) 32 [.bool false, .slice none 0 0, .slice none 0 0] (w.heap.size + 1 + 1 + 1) (by simp))
 have hbw : Below w.heap.size w ((((w.alloc (.cells #[.slice A n c] 58)).alloc (.cells #[.slice B n d] 58)).alloc (.cells #[.bool s1, .slice A1 n1 c1, .slice B1 m1 k1] 32)).alloc (.cells #[.bool false, .slice none 0 0, .slice none 0 0] 32)) := (by repeat (first | assumption | exact nB1 _ _ | refine nB2 ?_ | refine pw_below_drewN ?_ _ | refine nB3 ?_ (by first | omega | (simp <;> omega)) _ | refine nB4 ?_ (by first | omega | (simp <;> omega)) _ | refine nB5 ?_ (by assumption) (by first | omega | (simp <;> omega))))
 go_enter Tryz.func18, Tryz.ntmps18
 go_wp2_with fail
 generalize ((((w.alloc (.cells #[.slice A n c] 58)).alloc (.cells #[.slice B n d] 58)).alloc (.cells #[.bool s1, .slice A1 n1 c1, .slice B1 m1 k1] 32)).alloc (.cells #[.bool false, .slice none 0 0, .slice none 0 0] 32)) = W0 at HB HO0 hbw ⊢
 obtain ⟨y0, y1, y2, y3, y4, _⟩ := id HB.out
 go_wp2_with fail
 clear y0 y1 y2 y3 y4
 refine (HM.out _).mono ?_
 rintro e W1 ⟨v1, rfl, hb1, rfl⟩
 replace HB := Lib.hid (HB.out.ext hb1)
 replace HO0 := Lib.hid (HO0.out.ext hb1)
 replace hbw := nT hbw hb1
 clear hb1
 go_wp2_with fail
 replace HB := Lib.hid (HB.out.drew)
 replace HO0 := Lib.hid (HO0.out.drew)
 replace hbw := Below.drew hbw
 refine wp_hoist [(0, true), (1, false), (2, true), (3, true), (4, true), (5, false), (6, false), (7, true), (8, true)] (Cells [(w.heap.size, 0, .slice A n c), (w.heap.size + 1, 0, .slice B n d), (w.heap.size + 1 + 1, 0, .bool s1), (w.heap.size + 1 + 1, 1, .slice A1 n1 c1), (w.heap.size + 1 + 1, 2, .slice B1 m1 k1)]) (by kernel_rfl) (by kernel_rfl) ?_ ?_
 · exact HB.out
 generalize W1.drew = W2 at HB HO0 hbw ⊢
 refine hz_yes (v := ?_) rfl (by kernel_rfl) (fun W hW => ?_) ?_; rotate_left; (obtain ⟨y0, y1, y2, y3, y4, _⟩ := hW; go_simp; try with_reducible rfl)
 (try (conv => arg 6; simp only [Act.put, gL]))
 refine hz_eff rfl (by kernel_rfl) (fun K hK => ?_)
 refine wp_call (HS.out _ (H1.out.ext hbw)) (by kernel_rfl) ?_
 rintro v1 W3 hb1 rfl
 refine hK.out _ _ ?_ ?_
 · exact HB.out.ext hb1
 clear hK K
 (try (conv => arg 6; simp only [Act.put, gL]))
 replace HB := Lib.hid (HB.out.ext hb1)
 replace HO0 := Lib.hid (HO0.out.ext hb1)
 replace hbw := nT hbw hb1
 clear hb1
 refine hz_yes (v := ?_) rfl (by kernel_rfl) (fun W hW => ?_) ?_; rotate_left; (go_simp; try with_reducible rfl)
 (try (conv => arg 6; simp only [Act.put, gL]))
 refine hz_yes (v := ?_) rfl (by kernel_rfl) (fun W hW => ?_) ?_; rotate_left; (go_simp; try with_reducible rfl)
 (try (conv => arg 6; simp only [Act.put, gL]))
 refine hz_yes (v := ?_) rfl (by kernel_rfl) (fun W hW => ?_) ?_; rotate_left; (obtain ⟨y0, y1, y2, y3, y4, _⟩ := hW; go_simp; try with_reducible rfl)
 (try (conv => arg 6; simp only [Act.put, gL]))
 refine hz_eff rfl (by kernel_rfl) (fun K hK => ?_)
 refine wp_call (HO.out _) (by kernel_rfl) ?_
 rintro v1 W4 hb1 hr1
 obtain ⟨Es, EA, Ec, En, EB, Ed, Em, rfl, hr1⟩ := hr1.shape
 refine hK.out _ _ ?_ ?_
 · exact HB.out.ext hb1
 clear hK K
 (try (conv => arg 6; simp only [Act.put, gL]))
 replace HB := Lib.hid (HB.out.ext hb1)
 replace HO0 := Lib.hid (HO0.out.ext hb1)
 replace hbw := nT hbw hb1
 have R1 := Lib.hid hr1
 clear hr1
 clear hb1
 refine hz_eff rfl (by kernel_rfl) (fun K hK => ?_)
 refine wp_call (HC.out _ _ (H1.out.ext hbw) R1.out) (by kernel_rfl) ?_
 rintro v1 W5 hb1 rfl
 refine hK.out _ _ ?_ ?_
 · exact HB.out.ext hb1
 clear hK K
 (try (conv => arg 6; simp only [Act.put, gL]))
 replace HB := Lib.hid (HB.out.ext hb1)
 replace HO0 := Lib.hid (HO0.out.ext hb1)
 replace R1 := Lib.hid (R1.out.ext hb1)
 replace hbw := nT hbw hb1
 clear hb1
 refine hz_yes (v := ?_) rfl (by kernel_rfl) (fun W hW => ?_) ?_; rotate_left; (go_simp; try with_reducible rfl)
 (try (conv => arg 6; simp only [Act.put, gL]))
 refine hz_yes (v := ?_) rfl (by kernel_rfl) (fun W hW => ?_) ?_; rotate_left; (go_simp; try with_reducible rfl)
 (try (conv => arg 6; simp only [Act.put, gL]))
 refine hz_nil ?_
 have q0 := HO0.out.cell 0 _ rfl
 have f0 := HO0.out.frozen 0
 have q1 := HO0.out.cell 1 _ rfl
 have f1 := HO0.out.frozen 1
 have q2 := HO0.out.cell 2 _ rfl
 have f2 := HO0.out.frozen 2
 go_wp2_with fail
 replace HB := Lib.hid (HB.out.set (p := ⟨w.heap.size + 1 + 1 + 1, 0, none⟩) (.bool false) (by simp <;> omega))
 replace HO0 := Lib.hid (HO0.out.set 0 (.bool false))
 replace R1 := Lib.hid (R1.out.set (x := .bool false) q0 rfl)
 replace hbw := nB4 hbw (show w.heap.size ≤ (⟨w.heap.size + 1 + 1 + 1, 0, none⟩ : Addr).block by simp <;> omega) (.bool false)
 replace q1 := (nC W5 ⟨w.heap.size + 1 + 1 + 1, 0, none⟩ ⟨w.heap.size + 1 + 1 + 1, 1, none⟩ (.bool false) (by simp)).trans q1
 replace q2 := (nC W5 ⟨w.heap.size + 1 + 1 + 1, 0, none⟩ ⟨w.heap.size + 1 + 1 + 1, 2, none⟩ (.bool false) (by simp)).trans q2
 replace HB := Lib.hid (HB.out.set (p := ⟨w.heap.size + 1 + 1 + 1, 1, none⟩) (.slice none 0 0) (by simp <;> omega))
 replace HO0 := Lib.hid (HO0.out.set 1 (.slice none 0 0))
 replace R1 := Lib.hid (R1.out.set (x := .slice none 0 0) q1 rfl)
 replace hbw := nB4 hbw (show w.heap.size ≤ (⟨w.heap.size + 1 + 1 + 1, 1, none⟩ : Addr).block by simp <;> omega) (.slice none 0 0)
 replace q2 := (nC (W5.setCell ⟨w.heap.size + 1 + 1 + 1, 0, none⟩ (.bool false)) ⟨w.heap.size + 1 + 1 + 1, 1, none⟩ ⟨w.heap.size + 1 + 1 + 1, 2, none⟩ (.slice none 0 0) (by simp)).trans q2
 replace HB := Lib.hid (HB.out.set (p := ⟨w.heap.size + 1 + 1 + 1, 2, none⟩) (.slice none 0 0) (by simp <;> omega))
 replace HO0 := Lib.hid (HO0.out.set 2 (.slice none 0 0))
 replace R1 := Lib.hid (R1.out.set (x := .slice none 0 0) q2 rfl)
 replace hbw := nB4 hbw (show w.heap.size ≤ (⟨w.heap.size + 1 + 1 + 1, 2, none⟩ : Addr).block by simp <;> omega) (.slice none 0 0)
 clear q0 f0 q1 f1 q2 f2
 replace HO0 : Hid (Own _ _ _ [.bool false, .slice none 0 0, .slice none 0 0]) := HO0
 generalize (((W5.setCell ⟨w.heap.size + 1 + 1 + 1, 0, none⟩ (.bool false)).setCell ⟨w.heap.size + 1 + 1 + 1, 1, none⟩ (.slice none 0 0)).setCell ⟨w.heap.size + 1 + 1 + 1, 2, none⟩ (.slice none 0 0)) = W6 at HB HO0 R1 hbw ⊢
 have kk0 := HO0.out.cell 0 _ rfl
 have kk1 := HO0.out.cell 1 _ rfl
 have kk2 := HO0.out.cell 2 _ rfl
 refine bodyPost_ret (v := .tuple #[.agg #[.bool false, .slice none 0 0, .slice none 0 0], .int .i64 1]) (by simp [results, Tryz.results18, go_sem, kk0, kk1, kk2]) rfl ⟨_, rfl, hbw, ?_⟩
 exact ScSaid.zero _ _
end Go.Proofs.YtadpjidakippeaaGreat
