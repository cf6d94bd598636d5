/- frac.Cmp. -/
import Derived.Test.YtlaocmhcilhlbaaY13
import Derived.Test.YtlaocmhcilhlbaaY16
import Derived.Test.YtlaocmhcilhlbaaY06
set_option linter.unusedVariables false
set_option linter.unusedSimpArgs false
namespace Go.Proofs.Ytlaocmhcilhlbaa
open Go.RowKit
/-- How two fractions lie: -1, 0, 1. -/
def cmpQ (a b : Rat) : Int := (a.num * b.den - b.num * a.den).sign
theorem cmpQ_lt (a b : Rat) : cmpQ a b < 0 ↔ a < b := by
  unfold cmpQ
  rw [Rat.lt_iff, Int.sign_neg_iff]
  omega
theorem cmpQ_eq (a b : Rat) : cmpQ a b = 0 ↔ a = b := by
  unfold cmpQ
  rw [Int.sign_eq_zero_iff_zero]
  constructor
  · intro h
    rw [← Rat.mkRat_self a, ← Rat.mkRat_self b, Rat.mkRat_eq_iff a.den_nz b.den_nz]
    omega
  · rintro rfl; omega
theorem cmpQ_le (a b : Rat) : cmpQ a b ≤ 0 ↔ a ≤ b := by
  have h1 := cmpQ_lt a b
  have h2 := cmpQ_eq a b
  rw [Rat.le_iff_lt_or_eq]
  constructor
  · intro h
    rcases Int.lt_or_eq_of_le h with h | h
    · exact .inl (h1.1 h)
    · exact .inr (h2.1 h)
  · rintro (h | h)
    · exact Int.le_of_lt (h1.2 h)
    · exact Int.le_of_eq (h2.2 h)
theorem cmpQ_whole (a b : Rat) (h1 : a.den = 1) (h2 : b.den = 1) : (a.num - b.num).sign = cmpQ a b := by unfold cmpQ; rw [h1, h2]; simp
theorem cmpQ_signs (a b : Rat) (h : a.num.sign ≠ b.num.sign) : (a.num - b.num).sign = cmpQ a b := by
  unfold cmpQ
  have h1 := a.den_pos
  have h2 := b.den_pos
  have p : ∀ {x : Int} {d : Nat}, 0 < d → (0 < x → 0 < x * d) ∧ (x < 0 → x * d < 0) ∧ (x = 0 → x * d = 0) := by
    intro x d hd
    refine ⟨fun hx => Int.mul_pos hx (by omega), fun hx => Int.mul_neg_of_neg_of_pos hx (by omega), fun hx => by rw [hx, Int.zero_mul]⟩
  obtain ⟨a1, a2, a3⟩ := p (x := a.num) h2
  obtain ⟨b1, b2, b3⟩ := p (x := b.num) h1
  rcases Int.lt_trichotomy a.num 0 with ha | ha | ha <;> rcases Int.lt_trichotomy b.num 0 with hb | hb | hb
  · exact absurd (by rw [Int.sign_eq_neg_one_of_neg ha, Int.sign_eq_neg_one_of_neg hb]) h
  · have := a2 ha; have := b3 hb; rw [Int.sign_eq_neg_one_of_neg (by omega), Int.sign_eq_neg_one_of_neg (by omega)]
  · have := a2 ha; have := b1 hb; rw [Int.sign_eq_neg_one_of_neg (by omega), Int.sign_eq_neg_one_of_neg (by omega)]
  · have := a3 ha; have := b2 hb; rw [Int.sign_eq_one_of_pos (by omega), Int.sign_eq_one_of_pos (by omega)]
  · exact absurd (by rw [ha, hb]) h
  · have := a3 ha; have := b1 hb; rw [Int.sign_eq_neg_one_of_neg (by omega), Int.sign_eq_neg_one_of_neg (by omega)]
  · have := a1 ha; have := b2 hb; rw [Int.sign_eq_one_of_pos (by omega), Int.sign_eq_one_of_pos (by omega)]
  · have := a1 ha; have := b3 hb; rw [Int.sign_eq_one_of_pos (by omega), Int.sign_eq_one_of_pos (by omega)]
  · exact absurd (by rw [Int.sign_eq_one_of_pos ha, Int.sign_eq_one_of_pos hb]) h
set_option maxRecDepth 100000 in
set_option maxHeartbeats 4000000 in
/-- frac.Cmp -/
theorem qcmp_c (w : World) (va vb : Value) (a b : Rat) (ha : rQ w va a) (hb : rQ w vb b) (hf : qb a + qb b ≤ 35184372088600) : Calls Try.prog 15 #[va, vb] w (Post w fun r _ => r = .int .i64 (cmpQ a b)) := by
  obtain ⟨s1, A1, c1, n1, B1, k1, m1, rfl, ha⟩ := ha.shape
  obtain ⟨s2, A2, c2, n2, B2, k2, m2, rfl, hb⟩ := hb.shape
  have f1 := qb_num a
  have f2 := qb_num b
  have f3 := qb_den a
  have f4 := qb_den b
  have HS1 := Lib.hid (fun W h => qsign_c W (.agg #[.bool s1, .slice A1 n1 c1, .slice B1 m1 k1]) a h (by unfold Fit; omega))
  have HS2 := Lib.hid (fun W h => qsign_c W (.agg #[.bool s2, .slice A2 n2 c2, .slice B2 m2 k2]) b h (by unfold Fit; omega))
  have HIC := Lib.hid (fun W h h' => icmp_c W (.agg #[.bool s1, .slice A1 n1 c1]) (.agg #[.bool s2, .slice A2 n2 c2]) a.num b.num h h' (by unfold Fit; omega) (by unfold Fit; omega))
  obtain ⟨u, eu⟩ : ∃ u, (a.num - b.num).sign = u := ⟨_, rfl⟩
  obtain ⟨sa, esa⟩ : ∃ s, a.num.sign = s := ⟨_, rfl⟩
  obtain ⟨sb, esb⟩ : ∃ s, b.num.sign = s := ⟨_, rfl⟩
  rw [eu] at HIC
  rw [esa] at HS1
  rw [esb] at HS2
  obtain ⟨e1, ee1⟩ : ∃ e, bl (if a.den = 1 then 0 else a.den) = e := ⟨_, rfl⟩
  obtain ⟨e2, ee2⟩ : ∃ e, bl (if b.den = 1 then 0 else b.den) = e := ⟨_, rfl⟩
  have fe1 : e1 ≤ 35184372088832 := by rw [← ee1]; exact fit_rest (show Fit a.den by unfold Fit; omega)
  have fe2 : e2 ≤ 35184372088832 := by rw [← ee2]; exact fit_rest (show Fit b.den by unfold Fit; omega)
  have HBT1 := Lib.hid (fun W h => bits_c W (.agg #[.slice B1 m1 k1]) (if a.den = 1 then 0 else a.den) h (fit_rest (by unfold Fit; omega)))
  have HBT2 := Lib.hid (fun W h => bits_c W (.agg #[.slice B2 m2 k2]) (if b.den = 1 then 0 else b.den) h (fit_rest (by unfold Fit; omega)))
  rw [ee1] at HBT1
  rw [ee2] at HBT2
  have d1 := den_bits ee1
  have d2 := den_bits ee2
  have hw : IntKind.i64.wrap ((e1 : Int) + (e2 : Int)) = (e1 : Int) + (e2 : Int) := i64w (by omega) (by omega)
  have HD1 := Lib.hid (fun W h => qden_c W (.agg #[.bool s1, .slice A1 n1 c1, .slice B1 m1 k1]) a h (by unfold Fit; omega))
  have HD2 := Lib.hid (fun W h => qden_c W (.agg #[.bool s2, .slice A2 n2 c2, .slice B2 m2 k2]) b h (by unfold Fit; omega))
  have HWA := Lib.hid (fun W v hv => wide_c W v a.den hv (by unfold Fit; omega))
  have HWB := Lib.hid (fun W v hv => wide_c W v b.den hv (by unfold Fit; omega))
  have HM1 := Lib.hid (fun W v u hv hu => imul_c W v u a.num (b.den : Int) hv hu (by simp only [Int.natAbs_natCast]; omega))
  have HM2 := Lib.hid (fun W v u hv hu => imul_c W v u b.num (a.den : Int) hv hu (by simp only [Int.natAbs_natCast]; omega))
  have g1 : bl (a.num * (b.den : Int)).natAbs ≤ qb a + qb b := by rw [Int.natAbs_mul]; exact Nat.le_trans (bl_mul _ _) (by simp only [Int.natAbs_natCast]; omega)
  have g2 : bl (b.num * (a.den : Int)).natAbs ≤ qb a + qb b := by rw [Int.natAbs_mul]; exact Nat.le_trans (bl_mul _ _) (by simp only [Int.natAbs_natCast]; omega)
  have HCC := Lib.hid (fun W v u hv hu => icmp_c W v u (a.num * (b.den : Int)) (b.num * (a.den : Int)) hv hu (by unfold Fit; omega) (by unfold Fit; omega))
  obtain ⟨cc, ecc⟩ : ∃ c, cmpQ a b = c := ⟨_, rfl⟩
  have ecc' : (a.num * (b.den : Int) - b.num * (a.den : Int)).sign = cc := ecc
  rw [ecc'] at HCC
  have hk1 : sa ≠ sb → u = cc := by intro h; rw [← eu, ← ecc]; exact cmpQ_signs a b (by rw [esa, esb]; exact h)
  have hk2 : (e1 : Int) + (e2 : Int) = 0 → u = cc := by intro h; rw [← eu, ← ecc]; exact cmpQ_whole a b (d1.1 (by omega)) (d2.1 (by omega))
  have HK1 := Lib.hid hk1
  have HK2 := Lib.hid hk2
  have H1 := Lib.hid ha
  have H2 := Lib.hid hb
  rw [ecc]
  clear ha hb hf f1 f2 f3 f4 eu esa esb ee1 ee2 d1 d2 g1 g2 ecc ecc' hk1 hk2
  by_cases hs : sa = sb
  · subst hs
    have HB : Hid (Cells [(w.heap.size, 0, .bool s1), (w.heap.size, 1, .slice A1 n1 c1), (w.heap.size, 2, .slice B1 m1 k1), (w.heap.size + 1, 0, .bool s2), (w.heap.size + 1, 1, .slice A2 n2 c2), (w.heap.size + 1, 2, .slice B2 m2 k2)] ((w.alloc (.cells #[.bool s1, .slice A1 n1 c1, .slice B1 m1 k1] 34)).alloc (.cells #[.bool s2, .slice A2 n2 c2, .slice B2 m2 k2] 34))) := Lib.hid (Cells.cons (by go_simp) (Cells.cons (by go_simp) (Cells.cons (by go_simp) (Cells.cons (by go_simp) (Cells.cons (by go_simp) (Cells.cons (by go_simp) (Cells.nil _)))))))
    have hbw : Below w.heap.size w ((w.alloc (.cells #[.bool s1, .slice A1 n1 c1, .slice B1 m1 k1] 34)).alloc (.cells #[.bool s2, .slice A2 n2 c2, .slice B2 m2 k2] 34)) := (by repeat (first | assumption | exact Below.refl _ _ | refine Below.drew ?_ | refine pw_below_drewN ?_ _ | refine Below.alloc ?_ (by first | omega | (simp <;> omega)) _ | refine Below.setCell ?_ (by first | omega | (simp <;> omega)) _ | refine Below.trans ?_ (Below.mono (by assumption) (by first | omega | (simp <;> omega)))))
    go_enter Try.func15, Try.ntmps15
    go_wp2_with fail
    generalize ((w.alloc (.cells #[.bool s1, .slice A1 n1 c1, .slice B1 m1 k1] 34)).alloc (.cells #[.bool s2, .slice A2 n2 c2, .slice B2 m2 k2] 34)) = W0 at HB hbw ⊢
    replace HB := Lib.hid (HB.out.drew)
    replace hbw := Below.drew hbw
    refine wp_hoist [(0, true), (2, true), (1, false), (3, false), (4, true), (5, true), (6, true), (7, true), (9, true), (10, true), (8, false), (11, false), (12, true), (13, true), (14, true)] (Cells [(w.heap.size, 0, .bool s1), (w.heap.size, 1, .slice A1 n1 c1), (w.heap.size, 2, .slice B1 m1 k1), (w.heap.size + 1, 0, .bool s2), (w.heap.size + 1, 1, .slice A2 n2 c2), (w.heap.size + 1, 2, .slice B2 m2 k2)]) (by kernel_rfl) (by kernel_rfl) ?_ ?_
    · exact HB.out
    generalize W0.drew = W1 at HB hbw ⊢
    refine hz_yes (v := ?_) rfl (by kernel_rfl) (fun W hW => ?_) ?_; rotate_left; (obtain ⟨y0, y1, y2, y3, y4, y5, _⟩ := hW; go_simp; try with_reducible rfl)
    (try (conv => arg 6; simp only [Act.put, gL1, gL2, gL3, gL4, gL5, gL6]))
    refine hz_yes (v := ?_) rfl (by kernel_rfl) (fun W hW => ?_) ?_; rotate_left; (obtain ⟨y0, y1, y2, y3, y4, y5, _⟩ := hW; go_simp; try with_reducible rfl)
    (try (conv => arg 6; simp only [Act.put, gL1, gL2, gL3, gL4, gL5, gL6]))
    refine hz_eff rfl (by kernel_rfl) (fun K hK => ?_)
    refine wp_call (HS1.out _ (H1.out.ext hbw)) (by kernel_rfl) ?_
    rintro v1 W2 hb1 rfl
    refine hK.out _ _ ?_ ?_
    · exact HB.out.ext hb1
    clear hK K
    (try (conv => arg 6; simp only [Act.put, gL1, gL2, gL3, gL4, gL5, gL6]))
    replace HB := Lib.hid (HB.out.ext hb1)
    replace hbw := Below.trans hbw (Below.mono hb1 hbw.size)
    clear hb1
    refine hz_eff rfl (by kernel_rfl) (fun K hK => ?_)
    refine wp_call (HS2.out _ (H2.out.ext hbw)) (by kernel_rfl) ?_
    rintro v1 W3 hb1 rfl
    refine hK.out _ _ ?_ ?_
    · exact HB.out.ext hb1
    clear hK K
    (try (conv => arg 6; simp only [Act.put, gL1, gL2, gL3, gL4, gL5, gL6]))
    replace HB := Lib.hid (HB.out.ext hb1)
    replace hbw := Below.trans hbw (Below.mono hb1 hbw.size)
    clear hb1
    refine hz_yes (v := ?_) rfl (by kernel_rfl) (fun W hW => ?_) ?_; rotate_left; (go_simp; try with_reducible rfl)
    (try (conv => arg 6; simp only [Act.put, gL1, gL2, gL3, gL4, gL5, gL6]))
    refine hz_yes (v := ?_) rfl (by kernel_rfl) (fun W hW => ?_) ?_; rotate_left; (go_simp; try with_reducible rfl)
    (try (conv => arg 6; simp only [Act.put, gL1, gL2, gL3, gL4, gL5, gL6]))
    refine hz_yes (v := ?_) rfl (by kernel_rfl) (fun W hW => ?_) ?_; rotate_left; (go_simp; try with_reducible rfl)
    (try (conv => arg 6; simp only [Act.put, gL1, gL2, gL3, gL4, gL5, gL6]))
    refine hz_yes (v := ?_) rfl (by kernel_rfl) (fun W hW => ?_) ?_; rotate_left; (obtain ⟨y0, y1, y2, y3, y4, y5, _⟩ := hW; go_simp; try with_reducible rfl)
    (try (conv => arg 6; simp only [Act.put, gL1, gL2, gL3, gL4, gL5, gL6]))
    refine hz_yes (v := ?_) rfl (by kernel_rfl) (fun W hW => ?_) ?_; rotate_left; (go_simp; try with_reducible rfl)
    (try (conv => arg 6; simp only [Act.put, gL1, gL2, gL3, gL4, gL5, gL6]))
    refine hz_yes (v := ?_) rfl (by kernel_rfl) (fun W hW => ?_) ?_; rotate_left; (obtain ⟨y0, y1, y2, y3, y4, y5, _⟩ := hW; go_simp; try with_reducible rfl)
    (try (conv => arg 6; simp only [Act.put, gL1, gL2, gL3, gL4, gL5, gL6]))
    refine hz_eff rfl (by kernel_rfl) (fun K hK => ?_)
    refine wp_call (HBT1.out _ (H1.out.ext hbw).rest) (by kernel_rfl) ?_
    rintro v1 W4 hb1 rfl
    refine hK.out _ _ ?_ ?_
    · exact HB.out.ext hb1
    clear hK K
    (try (conv => arg 6; simp only [Act.put, gL1, gL2, gL3, gL4, gL5, gL6]))
    replace HB := Lib.hid (HB.out.ext hb1)
    replace hbw := Below.trans hbw (Below.mono hb1 hbw.size)
    clear hb1
    refine hz_eff rfl (by kernel_rfl) (fun K hK => ?_)
    refine wp_call (HBT2.out _ (H2.out.ext hbw).rest) (by kernel_rfl) ?_
    rintro v1 W5 hb1 rfl
    refine hK.out _ _ ?_ ?_
    · exact HB.out.ext hb1
    clear hK K
    (try (conv => arg 6; simp only [Act.put, gL1, gL2, gL3, gL4, gL5, gL6]))
    replace HB := Lib.hid (HB.out.ext hb1)
    replace hbw := Below.trans hbw (Below.mono hb1 hbw.size)
    clear hb1
    refine hz_yes (v := ?_) rfl (by kernel_rfl) (fun W hW => ?_) ?_; rotate_left; (go_simp; try with_reducible rfl)
    (try (conv => arg 6; simp only [Act.put, gL1, gL2, gL3, gL4, gL5, gL6]))
    refine hz_yes (v := ?_) rfl (by kernel_rfl) (fun W hW => ?_) ?_; rotate_left; (go_simp; try with_reducible rfl)
    (try (conv => arg 6; simp only [Act.put, gL1, gL2, gL3, gL4, gL5, gL6]))
    refine hz_yes (v := ?_) rfl (by kernel_rfl) (fun W hW => ?_) ?_; rotate_left; (go_simp; try with_reducible rfl)
    (try (conv => arg 6; simp only [Act.put, gL1, gL2, gL3, gL4, gL5, gL6]))
    refine hz_nil ?_
    clear HBT1 HBT2 HS1 HS2
    by_cases h0 : (e1 : Int) + (e2 : Int) = 0
    · have h0b : ((e1 : Int) + (e2 : Int) == 0) = true := by rw [beq_iff_eq]; exact h0
      have HEQ := Lib.hid (HK2.out h0)
      obtain ⟨y0, y1, y2, y3, y4, y5, _⟩ := id HB.out
      go_wp2_with fail
      clear y0 y1 y2 y3 y4 y5
      refine (HIC.out _ (H1.out.ext hbw).num (H2.out.ext hbw).num).mono ?_
      rintro e W6 ⟨v1, rfl, hb1, rfl⟩
      replace HB := Lib.hid (HB.out.ext hb1)
      replace hbw := Below.trans hbw (Below.mono hb1 hbw.size)
      clear hb1
      go_wp2_with fail
      go_ret
      rw [HEQ.out]
      exact ⟨_, rfl, hbw, rfl⟩
    have h0b : ((e1 : Int) + (e2 : Int) == 0) = false := by rw [beq_eq_false_iff_ne]; exact h0
    go_wp2_with fail
    replace HB := Lib.hid (HB.out.drew)
    replace hbw := Below.drew hbw
    refine wp_hoist [(0, true), (1, true), (2, true), (6, true), (7, true), (8, true), (3, false), (4, false), (5, false), (9, false), (10, false), (11, false), (12, false), (13, false)] (Cells [(w.heap.size, 0, .bool s1), (w.heap.size, 1, .slice A1 n1 c1), (w.heap.size, 2, .slice B1 m1 k1), (w.heap.size + 1, 0, .bool s2), (w.heap.size + 1, 1, .slice A2 n2 c2), (w.heap.size + 1, 2, .slice B2 m2 k2)]) (by kernel_rfl) (by kernel_rfl) ?_ ?_
    · exact HB.out
    generalize W5.drew = W6 at HB hbw ⊢
    refine hz_yes (v := ?_) rfl (by kernel_rfl) (fun W hW => ?_) ?_; rotate_left; (go_simp; try with_reducible rfl)
    (try (conv => arg 6; simp only [Act.put, gL1, gL2, gL3, gL4, gL5, gL6]))
    refine hz_yes (v := ?_) rfl (by kernel_rfl) (fun W hW => ?_) ?_; rotate_left; (obtain ⟨y0, y1, y2, y3, y4, y5, _⟩ := hW; go_simp; try with_reducible rfl)
    (try (conv => arg 6; simp only [Act.put, gL1, gL2, gL3, gL4, gL5, gL6]))
    refine hz_yes (v := ?_) rfl (by kernel_rfl) (fun W hW => ?_) ?_; rotate_left; (obtain ⟨y0, y1, y2, y3, y4, y5, _⟩ := hW; go_simp; try with_reducible rfl)
    (try (conv => arg 6; simp only [Act.put, gL1, gL2, gL3, gL4, gL5, gL6]))
    refine hz_yes (v := ?_) rfl (by kernel_rfl) (fun W hW => ?_) ?_; rotate_left; (go_simp; try with_reducible rfl)
    (try (conv => arg 6; simp only [Act.put, gL1, gL2, gL3, gL4, gL5, gL6]))
    refine hz_yes (v := ?_) rfl (by kernel_rfl) (fun W hW => ?_) ?_; rotate_left; (obtain ⟨y0, y1, y2, y3, y4, y5, _⟩ := hW; go_simp; try with_reducible rfl)
    (try (conv => arg 6; simp only [Act.put, gL1, gL2, gL3, gL4, gL5, gL6]))
    refine hz_yes (v := ?_) rfl (by kernel_rfl) (fun W hW => ?_) ?_; rotate_left; (obtain ⟨y0, y1, y2, y3, y4, y5, _⟩ := hW; go_simp; try with_reducible rfl)
    (try (conv => arg 6; simp only [Act.put, gL1, gL2, gL3, gL4, gL5, gL6]))
    refine hz_eff rfl (by kernel_rfl) (fun K hK => ?_)
    refine wp_call (HD2.out _ (H2.out.ext hbw)) (by kernel_rfl) ?_
    rintro v1 W7 hb1 hr1
    obtain ⟨EA, Ec, En, rfl, hr1⟩ := hr1.shape
    refine hK.out _ _ ?_ ?_
    · exact HB.out.ext hb1
    clear hK K
    (try (conv => arg 6; simp only [Act.put, gL1, gL2, gL3, gL4, gL5, gL6]))
    replace HB := Lib.hid (HB.out.ext hb1)
    replace hbw := Below.trans hbw (Below.mono hb1 hbw.size)
    have R1 := Lib.hid hr1
    clear hr1
    clear hb1
    refine hz_eff rfl (by kernel_rfl) (fun K hK => ?_)
    refine wp_call (HWB.out _ _ R1.out) (by kernel_rfl) ?_
    rintro v1 W8 hb1 hr1
    obtain ⟨Fs, FA, Fc, Fn, rfl, hr1⟩ := hr1.shape
    refine hK.out _ _ ?_ ?_
    · exact HB.out.ext hb1
    clear hK K
    (try (conv => arg 6; simp only [Act.put, gL1, gL2, gL3, gL4, gL5, gL6]))
    replace HB := Lib.hid (HB.out.ext hb1)
    replace R1 := Lib.hid (R1.out.ext hb1)
    replace hbw := Below.trans hbw (Below.mono hb1 hbw.size)
    have R2 := Lib.hid hr1
    clear hr1
    clear hb1
    refine hz_eff rfl (by kernel_rfl) (fun K hK => ?_)
    refine wp_call (HM1.out _ _ _ (H1.out.ext hbw).num R2.out) (by kernel_rfl) ?_
    rintro v1 W9 hb1 hr1
    obtain ⟨Gs, GA, Gc, Gn, rfl, hr1⟩ := hr1.shape
    refine hK.out _ _ ?_ ?_
    · exact HB.out.ext hb1
    clear hK K
    (try (conv => arg 6; simp only [Act.put, gL1, gL2, gL3, gL4, gL5, gL6]))
    replace HB := Lib.hid (HB.out.ext hb1)
    replace R1 := Lib.hid (R1.out.ext hb1)
    replace R2 := Lib.hid (R2.out.ext hb1)
    replace hbw := Below.trans hbw (Below.mono hb1 hbw.size)
    have R3 := Lib.hid hr1
    clear hr1
    clear hb1
    refine hz_eff rfl (by kernel_rfl) (fun K hK => ?_)
    refine wp_call (HD1.out _ (H1.out.ext hbw)) (by kernel_rfl) ?_
    rintro v1 W10 hb1 hr1
    obtain ⟨IA, Ic, In, rfl, hr1⟩ := hr1.shape
    refine hK.out _ _ ?_ ?_
    · exact HB.out.ext hb1
    clear hK K
    (try (conv => arg 6; simp only [Act.put, gL1, gL2, gL3, gL4, gL5, gL6]))
    replace HB := Lib.hid (HB.out.ext hb1)
    replace R1 := Lib.hid (R1.out.ext hb1)
    replace R2 := Lib.hid (R2.out.ext hb1)
    replace R3 := Lib.hid (R3.out.ext hb1)
    replace hbw := Below.trans hbw (Below.mono hb1 hbw.size)
    have R4 := Lib.hid hr1
    clear hr1
    clear hb1
    refine hz_eff rfl (by kernel_rfl) (fun K hK => ?_)
    refine wp_call (HWA.out _ _ R4.out) (by kernel_rfl) ?_
    rintro v1 W11 hb1 hr1
    obtain ⟨Js, JA, Jc, Jn, rfl, hr1⟩ := hr1.shape
    refine hK.out _ _ ?_ ?_
    · exact HB.out.ext hb1
    clear hK K
    (try (conv => arg 6; simp only [Act.put, gL1, gL2, gL3, gL4, gL5, gL6]))
    replace HB := Lib.hid (HB.out.ext hb1)
    replace R1 := Lib.hid (R1.out.ext hb1)
    replace R2 := Lib.hid (R2.out.ext hb1)
    replace R3 := Lib.hid (R3.out.ext hb1)
    replace R4 := Lib.hid (R4.out.ext hb1)
    replace hbw := Below.trans hbw (Below.mono hb1 hbw.size)
    have R5 := Lib.hid hr1
    clear hr1
    clear hb1
    refine hz_eff rfl (by kernel_rfl) (fun K hK => ?_)
    refine wp_call (HM2.out _ _ _ (H2.out.ext hbw).num R5.out) (by kernel_rfl) ?_
    rintro v1 W12 hb1 hr1
    obtain ⟨Ls, LA, Lc, Ln, rfl, hr1⟩ := hr1.shape
    refine hK.out _ _ ?_ ?_
    · exact HB.out.ext hb1
    clear hK K
    (try (conv => arg 6; simp only [Act.put, gL1, gL2, gL3, gL4, gL5, gL6]))
    replace HB := Lib.hid (HB.out.ext hb1)
    replace R1 := Lib.hid (R1.out.ext hb1)
    replace R2 := Lib.hid (R2.out.ext hb1)
    replace R3 := Lib.hid (R3.out.ext hb1)
    replace R4 := Lib.hid (R4.out.ext hb1)
    replace R5 := Lib.hid (R5.out.ext hb1)
    replace hbw := Below.trans hbw (Below.mono hb1 hbw.size)
    have R6 := Lib.hid hr1
    clear hr1
    clear hb1
    refine hz_eff rfl (by kernel_rfl) (fun K hK => ?_)
    refine wp_call (HCC.out _ _ _ R3.out R6.out) (by kernel_rfl) ?_
    rintro v1 W13 hb1 rfl
    refine hK.out _ _ ?_ ?_
    · exact HB.out.ext hb1
    clear hK K
    (try (conv => arg 6; simp only [Act.put, gL1, gL2, gL3, gL4, gL5, gL6]))
    replace HB := Lib.hid (HB.out.ext hb1)
    replace R1 := Lib.hid (R1.out.ext hb1)
    replace R2 := Lib.hid (R2.out.ext hb1)
    replace R3 := Lib.hid (R3.out.ext hb1)
    replace R4 := Lib.hid (R4.out.ext hb1)
    replace R5 := Lib.hid (R5.out.ext hb1)
    replace R6 := Lib.hid (R6.out.ext hb1)
    replace hbw := Below.trans hbw (Below.mono hb1 hbw.size)
    clear hb1
    refine hz_eff rfl (by kernel_rfl) (fun K hK => ?_)
    go_simp
    refine hK.out _ _ ?_ ?_
    · exact HB.out
    clear hK K
    (try (conv => arg 6; simp only [Act.put, gL1, gL2, gL3, gL4, gL5, gL6]))
    refine hz_nil ?_
    go_wp2_with fail
    go_ret
    exact ⟨_, rfl, hbw, rfl⟩
  · have hsb : (sa != sb) = true := by rw [bne_iff_ne]; exact hs
    have hsc : (sa == sb) = false := by rw [beq_eq_false_iff_ne]; exact hs
    have HEQ := Lib.hid (HK1.out hs)
    have HB : Hid (Cells [(w.heap.size, 0, .bool s1), (w.heap.size, 1, .slice A1 n1 c1), (w.heap.size, 2, .slice B1 m1 k1), (w.heap.size + 1, 0, .bool s2), (w.heap.size + 1, 1, .slice A2 n2 c2), (w.heap.size + 1, 2, .slice B2 m2 k2)] ((w.alloc (.cells #[.bool s1, .slice A1 n1 c1, .slice B1 m1 k1] 34)).alloc (.cells #[.bool s2, .slice A2 n2 c2, .slice B2 m2 k2] 34))) := Lib.hid (Cells.cons (by go_simp) (Cells.cons (by go_simp) (Cells.cons (by go_simp) (Cells.cons (by go_simp) (Cells.cons (by go_simp) (Cells.cons (by go_simp) (Cells.nil _)))))))
    have hbw : Below w.heap.size w ((w.alloc (.cells #[.bool s1, .slice A1 n1 c1, .slice B1 m1 k1] 34)).alloc (.cells #[.bool s2, .slice A2 n2 c2, .slice B2 m2 k2] 34)) := (by repeat (first | assumption | exact Below.refl _ _ | refine Below.drew ?_ | refine pw_below_drewN ?_ _ | refine Below.alloc ?_ (by first | omega | (simp <;> omega)) _ | refine Below.setCell ?_ (by first | omega | (simp <;> omega)) _ | refine Below.trans ?_ (Below.mono (by assumption) (by first | omega | (simp <;> omega)))))
    go_enter Try.func15, Try.ntmps15
    go_wp2_with fail
    generalize ((w.alloc (.cells #[.bool s1, .slice A1 n1 c1, .slice B1 m1 k1] 34)).alloc (.cells #[.bool s2, .slice A2 n2 c2, .slice B2 m2 k2] 34)) = W0 at HB hbw ⊢
    replace HB := Lib.hid (HB.out.drew)
    replace hbw := Below.drew hbw
    refine wp_hoist [(0, true), (2, true), (1, false), (3, false), (4, true), (5, true), (6, true), (7, true), (9, true), (10, true), (8, false), (11, false), (12, true), (13, true), (14, true)] (Cells [(w.heap.size, 0, .bool s1), (w.heap.size, 1, .slice A1 n1 c1), (w.heap.size, 2, .slice B1 m1 k1), (w.heap.size + 1, 0, .bool s2), (w.heap.size + 1, 1, .slice A2 n2 c2), (w.heap.size + 1, 2, .slice B2 m2 k2)]) (by kernel_rfl) (by kernel_rfl) ?_ ?_
    · exact HB.out
    generalize W0.drew = W1 at HB hbw ⊢
    refine hz_yes (v := ?_) rfl (by kernel_rfl) (fun W hW => ?_) ?_; rotate_left; (obtain ⟨y0, y1, y2, y3, y4, y5, _⟩ := hW; go_simp; try with_reducible rfl)
    (try (conv => arg 6; simp only [Act.put, gL1, gL2, gL3, gL4, gL5, gL6]))
    refine hz_yes (v := ?_) rfl (by kernel_rfl) (fun W hW => ?_) ?_; rotate_left; (obtain ⟨y0, y1, y2, y3, y4, y5, _⟩ := hW; go_simp; try with_reducible rfl)
    (try (conv => arg 6; simp only [Act.put, gL1, gL2, gL3, gL4, gL5, gL6]))
    refine hz_eff rfl (by kernel_rfl) (fun K hK => ?_)
    refine wp_call (HS1.out _ (H1.out.ext hbw)) (by kernel_rfl) ?_
    rintro v1 W2 hb1 rfl
    refine hK.out _ _ ?_ ?_
    · exact HB.out.ext hb1
    clear hK K
    (try (conv => arg 6; simp only [Act.put, gL1, gL2, gL3, gL4, gL5, gL6]))
    replace HB := Lib.hid (HB.out.ext hb1)
    replace hbw := Below.trans hbw (Below.mono hb1 hbw.size)
    clear hb1
    refine hz_eff rfl (by kernel_rfl) (fun K hK => ?_)
    refine wp_call (HS2.out _ (H2.out.ext hbw)) (by kernel_rfl) ?_
    rintro v1 W3 hb1 rfl
    refine hK.out _ _ ?_ ?_
    · exact HB.out.ext hb1
    clear hK K
    (try (conv => arg 6; simp only [Act.put, gL1, gL2, gL3, gL4, gL5, gL6]))
    replace HB := Lib.hid (HB.out.ext hb1)
    replace hbw := Below.trans hbw (Below.mono hb1 hbw.size)
    clear hb1
    refine hz_yes (v := ?_) rfl (by kernel_rfl) (fun W hW => ?_) ?_; rotate_left; (go_simp; try with_reducible rfl)
    (try (conv => arg 6; simp only [Act.put, gL1, gL2, gL3, gL4, gL5, gL6]))
    refine hz_yes (v := ?_) rfl (by kernel_rfl) (fun W hW => ?_) ?_; rotate_left; (go_simp; try with_reducible rfl)
    (try (conv => arg 6; simp only [Act.put, gL1, gL2, gL3, gL4, gL5, gL6]))
    refine hz_no rfl (by kernel_rfl) ?_
    (try (conv => arg 6; simp only [Act.put, gL1, gL2, gL3, gL4, gL5, gL6]))
    refine hz_no rfl (by kernel_rfl) ?_
    (try (conv => arg 6; simp only [Act.put, gL1, gL2, gL3, gL4, gL5, gL6]))
    refine hz_no rfl (by kernel_rfl) ?_
    (try (conv => arg 6; simp only [Act.put, gL1, gL2, gL3, gL4, gL5, gL6]))
    refine hz_no rfl (by kernel_rfl) ?_
    (try (conv => arg 6; simp only [Act.put, gL1, gL2, gL3, gL4, gL5, gL6]))
    refine hz_effno rfl (by kernel_rfl) ?_ ?_
    · exact HB.out
    (try (conv => arg 6; simp only [Act.put, gL1, gL2, gL3, gL4, gL5, gL6]))
    refine hz_effno rfl (by kernel_rfl) ?_ ?_
    · exact HB.out
    (try (conv => arg 6; simp only [Act.put, gL1, gL2, gL3, gL4, gL5, gL6]))
    refine hz_no rfl (by kernel_rfl) ?_
    (try (conv => arg 6; simp only [Act.put, gL1, gL2, gL3, gL4, gL5, gL6]))
    refine hz_no rfl (by kernel_rfl) ?_
    (try (conv => arg 6; simp only [Act.put, gL1, gL2, gL3, gL4, gL5, gL6]))
    refine hz_yes (v := ?_) rfl (by kernel_rfl) (fun W hW => ?_) ?_; rotate_left; (go_simp; try with_reducible rfl)
    (try (conv => arg 6; simp only [Act.put, gL1, gL2, gL3, gL4, gL5, gL6]))
    refine hz_nil ?_
    obtain ⟨y0, y1, y2, y3, y4, y5, _⟩ := id HB.out
    go_wp2_with fail
    clear y0 y1 y2 y3 y4 y5
    refine (HIC.out _ (H1.out.ext hbw).num (H2.out.ext hbw).num).mono ?_
    rintro e W4 ⟨v1, rfl, hb1, rfl⟩
    replace HB := Lib.hid (HB.out.ext hb1)
    replace hbw := Below.trans hbw (Below.mono hb1 hbw.size)
    clear hb1
    go_wp2_with fail
    go_ret
    rw [HEQ.out]
    exact ⟨_, rfl, hbw, rfl⟩
end Go.Proofs.Ytlaocmhcilhlbaa

/- Lists of fractions in memory; frac.Dot. -/
namespace Go.Proofs.Ytlaocmhcilhlbaa
open Go.RowKit
/-- A list of fractions. -/
def rQs (w : World) (v : Value) (l : List Rat) : Prop := ∃ A c, v = .slice A l.length c ∧ l.length ≤ c ∧ (l ≠ [] → ∃ g o, A = some ⟨g, o, none⟩ ∧
  ∀ j (hj : j < l.length), ∃ s u r, w.cell? ⟨g, o + j * 3, none⟩ = some (.bool s) ∧ w.cell? ⟨g, o + j * 3 + 1, none⟩ = some u ∧ w.cell? ⟨g, o + j * 3 + 2, none⟩ = some r ∧ rQ w (.agg #[.bool s, u, r]) l[j])
theorem rQs.ext {w w' : World} {v : Value} {l : List Rat} (h : rQs w v l) (he : Ext w w') : rQs w' v l := by
  obtain ⟨A, c, hv, hc, h⟩ := h
  refine ⟨A, c, hv, hc, fun hl => ?_⟩
  obtain ⟨g, o, hA, h⟩ := h hl
  refine ⟨g, o, hA, fun j hj => ?_⟩
  obtain ⟨s, u, r, h1, h2, h3, h4⟩ := h j hj
  exact ⟨s, u, r, ext_cell he h1, ext_cell he h2, ext_cell he h3, h4.ext he⟩
theorem rQs.drew {w : World} {v : Value} {l : List Rat} (h : rQs w v l) : rQs w.drew v l := h
theorem rQs.alloc {w : World} {v : Value} {l : List Rat} (h : rQs w v l) (o : Obj) : rQs (w.alloc o) v l := h.ext (ext_alloc _ _)
theorem rQs.shape {w : World} {v : Value} {l : List Rat} (h : rQs w v l) : ∃ A c, v = .slice A l.length c ∧ rQs w (.slice A l.length c) l := by
  obtain ⟨A, c, rfl, h⟩ := h
  exact ⟨A, c, rfl, A, c, rfl, h⟩
theorem rQs.nil (w : World) : rQs w (.slice none 0 0) [] := ⟨none, 0, rfl, Nat.le_refl _, fun h => absurd rfl h⟩
theorem rQs.at {w : World} {A : Option Addr} {n c : Nat} {l : List Rat} (h : rQs w (.slice A n c) l) {j : Nat} (hj : j < l.length) :
    ∃ g o s A1 c1 n1 B1 k1 m1, A = some ⟨g, o, none⟩ ∧ w.cell? ⟨g, o + j * 3, none⟩ = some (.bool s) ∧ w.cell? ⟨g, o + j * 3 + 1, none⟩ = some (.slice A1 n1 c1) ∧ w.cell? ⟨g, o + j * 3 + 2, none⟩ = some (.slice B1 m1 k1) ∧
      rQ w (.agg #[.bool s, .slice A1 n1 c1, .slice B1 m1 k1]) l[j] := by
  obtain ⟨A', c', hv, hc, h⟩ := h
  simp only [Value.slice.injEq] at hv
  obtain ⟨rfl, rfl, rfl⟩ := hv
  obtain ⟨g, o, hA, h⟩ := h (by intro e; rw [e] at hj; simp at hj)
  obtain ⟨s, u, r, h1, h2, h3, h4⟩ := h j hj
  obtain ⟨s', A1, c1, n1, B1, k1, m1, e, h4⟩ := h4.shape
  simp only [Value.agg.injEq, Array.mk.injEq, List.cons.injEq, Value.bool.injEq, and_true] at e
  obtain ⟨rfl, rfl, rfl⟩ := e
  exact ⟨g, o, s, A1, c1, n1, B1, k1, m1, hA, h1, h2, h3, h4⟩
/-- The sum of the products of the first k. -/
def dotTo (a b : List Rat) : Nat → Rat
  | 0 => 0
  | k + 1 => dotTo a b k + a.getD k 0 * b.getD k 0
def dot (a b : List Rat) : Rat := dotTo a b a.length
/-- How much a list weighs. -/
def wt (l : List Rat) : Nat := (l.map (fun q => qb q + 1)).sum
theorem wt_take (l : List Rat) (k : Nat) (h : k < l.length) : wt (l.take (k + 1)) = wt (l.take k) + qb l[k] + 1 := by
  unfold wt
  rw [List.take_succ_eq_append_getElem h, List.map_append, List.sum_append]
  simp; omega
theorem wt_take_le (l : List Rat) (k : Nat) : wt (l.take k) ≤ wt l := by
  unfold wt
  conv => rhs; rw [← List.take_append_drop k l, List.map_append, List.sum_append]
  omega
theorem wt_at (l : List Rat) (k : Nat) (h : k < l.length) : qb l[k] + 1 ≤ wt l := by
  have h1 := wt_take l k h
  have h2 := wt_take_le l (k + 1)
  omega
theorem qb_zero : qb 0 = 1 := rfl
theorem qb_dotTo (a b : List Rat) (hab : a.length = b.length) : ∀ k, k ≤ a.length → qb (dotTo a b k) ≤ 1 + wt (a.take k) + wt (b.take k)
  | 0, _ => by simp only [dotTo, qb_zero]; omega
  | k + 1, h => by
    have ih := qb_dotTo a b hab k (by omega)
    have h1 := wt_take a k (by omega)
    have h2 := wt_take b k (by omega)
    simp only [dotTo]
    have h3 := qb_add (dotTo a b k) (a.getD k 0 * b.getD k 0)
    have h4 := qb_mul (a.getD k 0) (b.getD k 0)
    rw [List.getD_eq_getElem?_getD, List.getD_eq_getElem?_getD, List.getElem?_eq_getElem (by omega), List.getElem?_eq_getElem (by omega), Option.getD_some, Option.getD_some] at *
    omega
structure DotIn (w : World) (b6 : Nat) (q : Rat) (s : Bool) (u r : Value) (W : World) : Prop where
  be : Below w.heap.size w W
  o4 : Own W w.heap.size 34 [.bool false, .slice none 0 0, .slice none 0 0]
  o6 : Own W b6 34 [.bool s, u, r]
  hq : rQ W (.agg #[.bool s, u, r]) q
def DotSaid (w' : World) (v : Value) (a b : List Rat) : Prop := ∃ q, v = .tuple #[q, .bool (decide (a.length = b.length))] ∧ rQ w' q (if a.length = b.length then dot a b else 0)
set_option maxRecDepth 100000 in
set_option maxHeartbeats 4000000 in
/-- frac.Dot -/
theorem dot_c (w : World) (va vb : Value) (a b : List Rat) (ha : rQs w va a) (hb : rQs w vb b) (hl : a.length ≤ 1099511627776) (hl2 : b.length ≤ 1099511627776) (hf : wt a + wt b ≤ 35184372088500) :
    Calls Try.prog 9 #[va, vb] w (Post w fun r w' => DotSaid w' r a b) := by
  obtain ⟨A, c, rfl, ha⟩ := ha.shape
  obtain ⟨B, d, rfl, hb⟩ := hb.shape
  by_cases hab : a.length = b.length
  · have HAB := Lib.hid hab
    have HL := Lib.hid hl
    have HF := Lib.hid hf
    have H1 := Lib.hid ha
    have H2 := Lib.hid hb
    rw [← hab]
    obtain ⟨n, en⟩ : ∃ n, a.length = n := ⟨_, rfl⟩
    rw [en]
    have hn1 : ((n : Int) == (n : Int)) = true := by simp
    have EN := Lib.hid en
    clear ha hb hf hl hab en
    have HB : Hid (Cells [] ((w.alloc (.cells #[.bool false, .slice none 0 0, .slice none 0 0] 34)).alloc (.cells #[.bool false, .slice none 0 0, .slice none 0 0] 34))) := Lib.hid (Cells.nil _)
    have HO0 := Lib.hid ((Own.new' w 34 [.bool false, .slice none 0 0, .slice none 0 0] (w.heap.size) (by simp)).alloc (.cells #[.bool false, .slice none 0 0, .slice none 0 0] 34))
    have HO1 := Lib.hid (Own.new' (w.alloc (.cells #[.bool false, .slice none 0 0, .slice none 0 0] 34)) 34 [.bool false, .slice none 0 0, .slice none 0 0] (w.heap.size + 1) (by simp))
    have hbw : Below w.heap.size w ((w.alloc (.cells #[.bool false, .slice none 0 0, .slice none 0 0] 34)).alloc (.cells #[.bool false, .slice none 0 0, .slice none 0 0] 34)) := (by repeat (first | assumption | exact Below.refl _ _ | refine Below.drew ?_ | refine pw_below_drewN ?_ _ | refine Below.alloc ?_ (by first | omega | (simp <;> omega)) _ | refine Below.setCell ?_ (by first | omega | (simp <;> omega)) _ | refine Below.trans ?_ (Below.mono (by assumption) (by first | omega | (simp <;> omega)))))
    go_enter Try.func9, Try.ntmps9
    go_upto_block 0 with (fail)
    generalize ((w.alloc (.cells #[.bool false, .slice none 0 0, .slice none 0 0] 34)).alloc (.cells #[.bool false, .slice none 0 0, .slice none 0 0] 34)) = W0 at HB HO0 HO1 hbw ⊢
    go_cut [] (fun WC => ∃ s A1 c1 n1 B1 k1 m1, DotIn w (w.heap.size + 1) (dotTo a b n) s (.slice A1 n1 c1) (.slice B1 m1 k1) WC)
    case first =>
      go_wp2_with fail
      go_loopw [16] (fun t W => ∃ k : Nat, t = .int .i64 (k : Nat) ∧ k ≤ n ∧ ∃ s A1 c1 n1 B1 k1 m1, DotIn w (w.heap.size + 1) (dotTo a b k) s (.slice A1 n1 c1) (.slice B1 m1 k1) W) (fun t _ => (n - (intOf t).toNat))
      case atStart => exact ⟨0, rfl, Nat.zero_le _, _, _, _, _, _, _, _, hbw, HO0.out, HO1.out, rQd.mk (by exact ⟨_, rNat.zero _, rfl⟩) (rNat.zero _)⟩
      case round =>
        obtain ⟨k, rfl, hk, s, A1, c1, n1, B1, k1, m1, hd⟩ := hrel
        clear HB HO0 HO1 hbw
        have HD := Lib.hid hd
        clear hd
        rcases Nat.lt_or_ge k n with hkn | hkn
        · have hki : (k : Int) < (n : Int) := by omega
          have HKN := Lib.hid hkn
          have hbw := HD.out.be
          obtain ⟨g, o, sa, Aa, ca, na, Ba, ka, ma, rfl, xa, ya, za, ra⟩ := (H1.out.ext hbw).at (j := k) (by rw [EN.out]; exact hkn)
          obtain ⟨g', o', sb, Ab, cb, nb, Bb, kb, mb, rfl, xb, yb, zb, rb⟩ := (H2.out.ext hbw).at (j := k) (by rw [← HAB.out, EN.out]; exact hkn)
          have hka : k < a.length := by rw [EN.out]; exact hkn
          have hkb : k < b.length := by rw [← HAB.out, EN.out]; exact hkn
          have HO0 := Lib.hid HD.out.o4
          have HO1 := Lib.hid HD.out.o6
          have R0 := Lib.hid HD.out.hq
          have R1 := Lib.hid ra
          have R2 := Lib.hid rb
          have wa := wt_at a k hka
          have wb := wt_at b k hkb
          have wc := qb_dotTo a b HAB.out k (by omega)
          have wd := wt_take a k hka
          have we := wt_take b k hkb
          have wf := wt_take_le a (k + 1)
          have wg := wt_take_le b (k + 1)
          have wh := qb_mul a[k] b[k]
          have HM := Lib.hid (fun W v u (h : rQ W v a[k]) (h' : rQ W u b[k]) => qmul_c W v u a[k] b[k] h h' (by have := HF.out; omega))
          have HA := Lib.hid (fun W v u (h : rQ W v (dotTo a b k)) (h' : rQ W u (a[k] * b[k])) => qadd_c W v u (dotTo a b k) (a[k] * b[k]) h h' (by have := HF.out; omega))
          have ee : dotTo a b k + a[k] * b[k] = dotTo a b (k + 1) := by
            simp only [dotTo]
            rw [List.getD_eq_getElem?_getD, List.getD_eq_getElem?_getD, List.getElem?_eq_getElem hka, List.getElem?_eq_getElem hkb, Option.getD_some, Option.getD_some]
          rw [ee] at HA
          have hwk : IntKind.i64.wrap ((k : Int) + 1) = ((k + 1 : Nat) : Int) := i64w (by omega) (by have := HL.out; have := EN.out; omega)
          clear ra rb wa wb wc wd we wf wg wh ee hk
          go_wp2_with fail
          have HB : Hid (Cells [(g, o + k * 3, .bool sa), (g, o + k * 3 + 1, .slice Aa na ca), (g, o + k * 3 + 2, .slice Ba ma ka), (g', o' + k * 3, .bool sb), (g', o' + k * 3 + 1, .slice Ab nb cb), (g', o' + k * 3 + 2, .slice Bb mb kb), (w.heap.size + 1, 0, .bool s), (w.heap.size + 1, 1, .slice A1 n1 c1), (w.heap.size + 1, 2, .slice B1 m1 k1)] wr) := Lib.hid (Cells.cons (xa) (Cells.cons (ya) (Cells.cons (za) (Cells.cons (xb) (Cells.cons (yb) (Cells.cons (zb) (Cells.cons (HO1.out.cell 0 _ rfl) (Cells.cons (HO1.out.cell 1 _ rfl) (Cells.cons (HO1.out.cell 2 _ rfl) (Cells.nil _))))))))))
          clear xa ya za xb yb zb
          replace HB := Lib.hid (HB.out.drew)
          replace HO0 := Lib.hid (HO0.out.drew)
          replace HO1 := Lib.hid (HO1.out.drew)
          replace R0 := Lib.hid (R0.out.drew)
          replace R1 := Lib.hid (R1.out.drew)
          replace R2 := Lib.hid (R2.out.drew)
          replace hbw := Below.drew hbw
          refine wp_hoistL [(0, true), (1, true), (2, true), (3, true), (4, true), (5, true), (6, true), (7, true), (8, true), (9, false), (10, false), (11, false)] 11 (Cells [(g, o + k * 3, .bool sa), (g, o + k * 3 + 1, .slice Aa na ca), (g, o + k * 3 + 2, .slice Ba ma ka), (g', o' + k * 3, .bool sb), (g', o' + k * 3 + 1, .slice Ab nb cb), (g', o' + k * 3 + 2, .slice Bb mb kb), (w.heap.size + 1, 0, .bool s), (w.heap.size + 1, 1, .slice A1 n1 c1), (w.heap.size + 1, 2, .slice B1 m1 k1)]) (by kernel_rfl) (by kernel_rfl) ?_ ?_
          · exact HB.out
          generalize wr.drew = W21 at HB HO0 HO1 R0 R1 R2 hbw ⊢
          refine hl_yes (v := ?_) rfl (by kernel_rfl) (fun W hW => ?_) ?_; rotate_left; (obtain ⟨y0, y1, y2, y3, y4, y5, y6, y7, y8, _⟩ := hW; go_simp; try with_reducible rfl)
          (try simp only [Act.put, gL1, gL2, gL3, gL4, gL5, gL6])
          refine hl_yes (v := ?_) rfl (by kernel_rfl) (fun W hW => ?_) ?_; rotate_left; (go_simp; try with_reducible rfl)
          (try simp only [Act.put, gL1, gL2, gL3, gL4, gL5, gL6])
          refine hl_yes (v := ?_) rfl (by kernel_rfl) (fun W hW => ?_) ?_; rotate_left; (go_simp; try with_reducible rfl)
          (try simp only [Act.put, gL1, gL2, gL3, gL4, gL5, gL6])
          refine hl_yes (v := ?_) rfl (by kernel_rfl) (fun W hW => ?_) ?_; rotate_left; (go_simp; try with_reducible rfl)
          (try simp only [Act.put, gL1, gL2, gL3, gL4, gL5, gL6])
          refine hl_yes (v := ?_) rfl (by kernel_rfl) (fun W hW => ?_) ?_; rotate_left; (obtain ⟨y0, y1, y2, y3, y4, y5, y6, y7, y8, _⟩ := hW; go_simp; try with_reducible rfl)
          (try simp only [Act.put, gL1, gL2, gL3, gL4, gL5, gL6])
          refine hl_yes (v := ?_) rfl (by kernel_rfl) (fun W hW => ?_) ?_; rotate_left; (go_simp; try with_reducible rfl)
          (try simp only [Act.put, gL1, gL2, gL3, gL4, gL5, gL6])
          refine hl_yes (v := ?_) rfl (by kernel_rfl) (fun W hW => ?_) ?_; rotate_left; (go_simp; try with_reducible rfl)
          (try simp only [Act.put, gL1, gL2, gL3, gL4, gL5, gL6])
          refine hl_yes (v := ?_) rfl (by kernel_rfl) (fun W hW => ?_) ?_; rotate_left; (go_simp; try with_reducible rfl)
          (try simp only [Act.put, gL1, gL2, gL3, gL4, gL5, gL6])
          refine hl_yes (v := ?_) rfl (by kernel_rfl) (fun W hW => ?_) ?_; rotate_left; (obtain ⟨y0, y1, y2, y3, y4, y5, y6, y7, y8, _⟩ := hW; go_simp; try with_reducible rfl)
          (try simp only [Act.put, gL1, gL2, gL3, gL4, gL5, gL6])
          refine hl_eff rfl (by kernel_rfl) (fun K hK => ?_)
          refine wp_call (HM.out _ _ _ R1.out R2.out) (by kernel_rfl) ?_
          rintro v1 W22 hb1 hr1
          obtain ⟨Es, EA, Ec, En, EB, Ed, Em, rfl, hr1⟩ := hr1.shape
          refine hK.out _ _ ?_ ?_
          · exact HB.out.ext hb1
          clear hK K
          (try simp only [Act.put, gL1, gL2, gL3, gL4, gL5, gL6])
          replace HB := Lib.hid (HB.out.ext hb1)
          replace HO0 := Lib.hid (HO0.out.ext hb1)
          replace HO1 := Lib.hid (HO1.out.ext hb1)
          replace R0 := Lib.hid (R0.out.ext hb1)
          replace R1 := Lib.hid (R1.out.ext hb1)
          replace R2 := Lib.hid (R2.out.ext hb1)
          replace hbw := Below.trans hbw (Below.mono hb1 hbw.size)
          have R3 := Lib.hid hr1
          clear hr1
          clear hb1
          refine hl_eff rfl (by kernel_rfl) (fun K hK => ?_)
          refine wp_call (HA.out _ _ _ R0.out R3.out) (by kernel_rfl) ?_
          rintro v1 W23 hb1 hr1
          obtain ⟨Fs, FA, Fc, Fn, FB, Fd, Fm, rfl, hr1⟩ := hr1.shape
          refine hK.out _ _ ?_ ?_
          · exact HB.out.ext hb1
          clear hK K
          (try simp only [Act.put, gL1, gL2, gL3, gL4, gL5, gL6])
          replace HB := Lib.hid (HB.out.ext hb1)
          replace HO0 := Lib.hid (HO0.out.ext hb1)
          replace HO1 := Lib.hid (HO1.out.ext hb1)
          replace R0 := Lib.hid (R0.out.ext hb1)
          replace R1 := Lib.hid (R1.out.ext hb1)
          replace R2 := Lib.hid (R2.out.ext hb1)
          replace R3 := Lib.hid (R3.out.ext hb1)
          replace hbw := Below.trans hbw (Below.mono hb1 hbw.size)
          have R4 := Lib.hid hr1
          clear hr1
          clear hb1
          have q0 := HO1.out.cell 0 _ rfl
          have f0 := HO1.out.frozen 0
          have q1 := HO1.out.cell 1 _ rfl
          have f1 := HO1.out.frozen 1
          have q2 := HO1.out.cell 2 _ rfl
          have f2 := HO1.out.frozen 2
          refine hl_last rfl (by kernel_rfl) (fun K hK => ?_)
          go_simp
          refine hK.out _ _ ?_
          clear hK K HB
          (try simp only [Act.put, gL1, gL2, gL3, gL4, gL5, gL6])
          replace HO0 := Lib.hid (HO0.out.other (p := ⟨w.heap.size + 1, 0, none⟩) (.bool Fs) (by simp <;> omega))
          replace HO1 := Lib.hid (HO1.out.set 0 (.bool Fs))
          replace R0 := Lib.hid (R0.out.set (x := .bool Fs) q0 rfl)
          replace R1 := Lib.hid (R1.out.set (x := .bool Fs) q0 rfl)
          replace R2 := Lib.hid (R2.out.set (x := .bool Fs) q0 rfl)
          replace R3 := Lib.hid (R3.out.set (x := .bool Fs) q0 rfl)
          replace R4 := Lib.hid (R4.out.set (x := .bool Fs) q0 rfl)
          replace hbw := Below.setCell hbw (show w.heap.size ≤ (⟨w.heap.size + 1, 0, none⟩ : Addr).block by simp <;> omega) (.bool Fs)
          replace q1 := (World.cell?_setCell_other W23 ⟨w.heap.size + 1, 0, none⟩ ⟨w.heap.size + 1, 1, none⟩ (.bool Fs) (by simp)).trans q1
          replace q2 := (World.cell?_setCell_other W23 ⟨w.heap.size + 1, 0, none⟩ ⟨w.heap.size + 1, 2, none⟩ (.bool Fs) (by simp)).trans q2
          replace HO0 := Lib.hid (HO0.out.other (p := ⟨w.heap.size + 1, 1, none⟩) (.slice FA Fn Fc) (by simp <;> omega))
          replace HO1 := Lib.hid (HO1.out.set 1 (.slice FA Fn Fc))
          replace R0 := Lib.hid (R0.out.set (x := .slice FA Fn Fc) q1 rfl)
          replace R1 := Lib.hid (R1.out.set (x := .slice FA Fn Fc) q1 rfl)
          replace R2 := Lib.hid (R2.out.set (x := .slice FA Fn Fc) q1 rfl)
          replace R3 := Lib.hid (R3.out.set (x := .slice FA Fn Fc) q1 rfl)
          replace R4 := Lib.hid (R4.out.set (x := .slice FA Fn Fc) q1 rfl)
          replace hbw := Below.setCell hbw (show w.heap.size ≤ (⟨w.heap.size + 1, 1, none⟩ : Addr).block by simp <;> omega) (.slice FA Fn Fc)
          replace q2 := (World.cell?_setCell_other (W23.setCell ⟨w.heap.size + 1, 0, none⟩ (.bool Fs)) ⟨w.heap.size + 1, 1, none⟩ ⟨w.heap.size + 1, 2, none⟩ (.slice FA Fn Fc) (by simp)).trans q2
          replace HO0 := Lib.hid (HO0.out.other (p := ⟨w.heap.size + 1, 2, none⟩) (.slice FB Fm Fd) (by simp <;> omega))
          replace HO1 := Lib.hid (HO1.out.set 2 (.slice FB Fm Fd))
          replace R0 := Lib.hid (R0.out.set (x := .slice FB Fm Fd) q2 rfl)
          replace R1 := Lib.hid (R1.out.set (x := .slice FB Fm Fd) q2 rfl)
          replace R2 := Lib.hid (R2.out.set (x := .slice FB Fm Fd) q2 rfl)
          replace R3 := Lib.hid (R3.out.set (x := .slice FB Fm Fd) q2 rfl)
          replace R4 := Lib.hid (R4.out.set (x := .slice FB Fm Fd) q2 rfl)
          replace hbw := Below.setCell hbw (show w.heap.size ≤ (⟨w.heap.size + 1, 2, none⟩ : Addr).block by simp <;> omega) (.slice FB Fm Fd)
          clear q0 f0 q1 f1 q2 f2
          replace HO1 : Hid (Own _ _ _ [.bool Fs, .slice FA Fn Fc, .slice FB Fm Fd]) := HO1
          generalize (((W23.setCell ⟨w.heap.size + 1, 0, none⟩ (.bool Fs)).setCell ⟨w.heap.size + 1, 1, none⟩ (.slice FA Fn Fc)).setCell ⟨w.heap.size + 1, 2, none⟩ (.slice FB Fm Fd)) = W24 at HO0 HO1 R0 R1 R2 R3 R4 hbw ⊢
          go_wp2
          go_roundw
          case rel => exact ⟨k + 1, rfl, HKN.out, _, _, _, _, _, _, _, hbw, HO0.out, HO1.out, R4.out⟩
          case measure => simp [intOf]; have := HKN.out; omega
        · obtain rfl : k = n := by omega
          have hki : ¬ (k : Int) < (k : Int) := by omega
          go_wp2_with fail
          go_meet
          exact ⟨_, _, _, _, _, _, _, HD.out⟩
    obtain ⟨s, A1, c1, n1, B1, k1, m1, hd⟩ := hcut
    clear HB HO0 HO1 hbw
    have hbw := hd.be
    have HO0 := Lib.hid hd.o4
    have HO1 := Lib.hid hd.o6
    have R0 := Lib.hid hd.hq
    clear hd
    have x_HO1_0 := HO1.out.cell 0 _ rfl
    have f_HO1_0 := HO1.out.frozen 0
    have x_HO1_1 := HO1.out.cell 1 _ rfl
    have f_HO1_1 := HO1.out.frozen 1
    have x_HO1_2 := HO1.out.cell 2 _ rfl
    have f_HO1_2 := HO1.out.frozen 2
    have q0 := HO0.out.cell 0 _ rfl
    have f0 := HO0.out.frozen 0
    have q1 := HO0.out.cell 1 _ rfl
    have f1 := HO0.out.frozen 1
    have q2 := HO0.out.cell 2 _ rfl
    have f2 := HO0.out.frozen 2
    go_wp2_with fail
    replace HO0 := Lib.hid (HO0.out.set 0 (.bool s))
    replace HO1 := Lib.hid (HO1.out.other (p := ⟨w.heap.size, 0, none⟩) (.bool s) (by simp <;> omega))
    replace R0 := Lib.hid (R0.out.set (x := .bool s) q0 rfl)
    replace hbw := Below.setCell hbw (show w.heap.size ≤ (⟨w.heap.size, 0, none⟩ : Addr).block by simp <;> omega) (.bool s)
    replace q1 := (World.cell?_setCell_other wc ⟨w.heap.size, 0, none⟩ ⟨w.heap.size, 1, none⟩ (.bool s) (by simp)).trans q1
    replace q2 := (World.cell?_setCell_other wc ⟨w.heap.size, 0, none⟩ ⟨w.heap.size, 2, none⟩ (.bool s) (by simp)).trans q2
    replace HO0 := Lib.hid (HO0.out.set 1 (.slice A1 n1 c1))
    replace HO1 := Lib.hid (HO1.out.other (p := ⟨w.heap.size, 1, none⟩) (.slice A1 n1 c1) (by simp <;> omega))
    replace R0 := Lib.hid (R0.out.set (x := .slice A1 n1 c1) q1 rfl)
    replace hbw := Below.setCell hbw (show w.heap.size ≤ (⟨w.heap.size, 1, none⟩ : Addr).block by simp <;> omega) (.slice A1 n1 c1)
    replace q2 := (World.cell?_setCell_other (wc.setCell ⟨w.heap.size, 0, none⟩ (.bool s)) ⟨w.heap.size, 1, none⟩ ⟨w.heap.size, 2, none⟩ (.slice A1 n1 c1) (by simp)).trans q2
    replace HO0 := Lib.hid (HO0.out.set 2 (.slice B1 m1 k1))
    replace HO1 := Lib.hid (HO1.out.other (p := ⟨w.heap.size, 2, none⟩) (.slice B1 m1 k1) (by simp <;> omega))
    replace R0 := Lib.hid (R0.out.set (x := .slice B1 m1 k1) q2 rfl)
    replace hbw := Below.setCell hbw (show w.heap.size ≤ (⟨w.heap.size, 2, none⟩ : Addr).block by simp <;> omega) (.slice B1 m1 k1)
    clear q0 f0 q1 f1 q2 f2
    replace HO0 : Hid (Own _ _ _ [.bool s, .slice A1 n1 c1, .slice B1 m1 k1]) := HO0
    generalize (((wc.setCell ⟨w.heap.size, 0, none⟩ (.bool s)).setCell ⟨w.heap.size, 1, none⟩ (.slice A1 n1 c1)).setCell ⟨w.heap.size, 2, none⟩ (.slice B1 m1 k1)) = W21 at HO0 HO1 R0 hbw ⊢
    have kk0 := HO0.out.cell 0 _ rfl
    have kk1 := HO0.out.cell 1 _ rfl
    have kk2 := HO0.out.cell 2 _ rfl
    refine bodyPost_ret (v := .tuple #[.agg #[.bool s, .slice A1 n1 c1, .slice B1 m1 k1], .bool true]) (by simp [results, Try.results9, go_sem, kk0, kk1, kk2]) rfl ⟨_, rfl, hbw, ?_⟩
    exact ⟨_, by rw [decide_eq_true HAB.out], by rw [if_pos HAB.out]; unfold dot; rw [EN.out]; exact R0.out⟩
  · have hne : ((a.length : Int) == (b.length : Int)) = false := by rw [beq_eq_false_iff_ne]; omega
    have hne2 : ((a.length : Int) != (b.length : Int)) = true := by rw [bne_iff_ne]; omega
    have HAB := Lib.hid hab
    clear ha hb hf hl hab hl2
    have HB : Hid (Cells [] (w.alloc (.cells #[.bool false, .slice none 0 0, .slice none 0 0] 34))) := Lib.hid (Cells.nil _)
    have HO0 := Lib.hid (Own.new' w 34 [.bool false, .slice none 0 0, .slice none 0 0] (w.heap.size) (by simp))
    have hbw : Below w.heap.size w (w.alloc (.cells #[.bool false, .slice none 0 0, .slice none 0 0] 34)) := (by repeat (first | assumption | exact Below.refl _ _ | refine Below.drew ?_ | refine pw_below_drewN ?_ _ | refine Below.alloc ?_ (by first | omega | (simp <;> omega)) _ | refine Below.setCell ?_ (by first | omega | (simp <;> omega)) _ | refine Below.trans ?_ (Below.mono (by assumption) (by first | omega | (simp <;> omega)))))
    go_enter Try.func9, Try.ntmps9
    go_upto_region 1 with (fail)
    generalize (w.alloc (.cells #[.bool false, .slice none 0 0, .slice none 0 0] 34)) = W0 at HB HO0 hbw ⊢
    have q0 := HO0.out.cell 0 _ rfl
    have f0 := HO0.out.frozen 0
    have q1 := HO0.out.cell 1 _ rfl
    have f1 := HO0.out.frozen 1
    have q2 := HO0.out.cell 2 _ rfl
    have f2 := HO0.out.frozen 2
    go_wp2_with fail
    replace HB := Lib.hid (HB.out.set (p := ⟨w.heap.size, 0, none⟩) (.bool false) (by simp <;> omega))
    replace HO0 := Lib.hid (HO0.out.set 0 (.bool false))
    replace hbw := Below.setCell hbw (show w.heap.size ≤ (⟨w.heap.size, 0, none⟩ : Addr).block by simp <;> omega) (.bool false)
    replace q1 := (World.cell?_setCell_other W0 ⟨w.heap.size, 0, none⟩ ⟨w.heap.size, 1, none⟩ (.bool false) (by simp)).trans q1
    replace q2 := (World.cell?_setCell_other W0 ⟨w.heap.size, 0, none⟩ ⟨w.heap.size, 2, none⟩ (.bool false) (by simp)).trans q2
    replace HB := Lib.hid (HB.out.set (p := ⟨w.heap.size, 1, none⟩) (.slice none 0 0) (by simp <;> omega))
    replace HO0 := Lib.hid (HO0.out.set 1 (.slice none 0 0))
    replace hbw := Below.setCell hbw (show w.heap.size ≤ (⟨w.heap.size, 1, none⟩ : Addr).block by simp <;> omega) (.slice none 0 0)
    replace q2 := (World.cell?_setCell_other (W0.setCell ⟨w.heap.size, 0, none⟩ (.bool false)) ⟨w.heap.size, 1, none⟩ ⟨w.heap.size, 2, none⟩ (.slice none 0 0) (by simp)).trans q2
    replace HB := Lib.hid (HB.out.set (p := ⟨w.heap.size, 2, none⟩) (.slice none 0 0) (by simp <;> omega))
    replace HO0 := Lib.hid (HO0.out.set 2 (.slice none 0 0))
    replace hbw := Below.setCell hbw (show w.heap.size ≤ (⟨w.heap.size, 2, none⟩ : Addr).block by simp <;> omega) (.slice none 0 0)
    clear q0 f0 q1 f1 q2 f2
    replace HO0 : Hid (Own _ _ _ [.bool false, .slice none 0 0, .slice none 0 0]) := HO0
    generalize (((W0.setCell ⟨w.heap.size, 0, none⟩ (.bool false)).setCell ⟨w.heap.size, 1, none⟩ (.slice none 0 0)).setCell ⟨w.heap.size, 2, none⟩ (.slice none 0 0)) = W1 at HB HO0 hbw ⊢
    have kk0 := HO0.out.cell 0 _ rfl
    have kk1 := HO0.out.cell 1 _ rfl
    have kk2 := HO0.out.cell 2 _ rfl
    refine bodyPost_ret (v := .tuple #[.agg #[.bool false, .slice none 0 0, .slice none 0 0], .bool false]) (by simp [results, Try.results9, go_sem, kk0, kk1, kk2]) rfl ⟨_, rfl, hbw, ?_⟩
    exact ⟨_, by rw [decide_eq_false HAB.out], by rw [if_neg HAB.out]; exact rQd.mk (by exact ⟨_, rNat.zero _, rfl⟩) (rNat.zero _)⟩
end Go.Proofs.Ytlaocmhcilhlbaa
