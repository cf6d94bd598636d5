/- frac.Mul. -/
import Derived.Test.YtadpjidakippeaaGreatY12
set_option linter.unusedVariables false
set_option linter.unusedSimpArgs false
namespace Go.Proofs.YtadpjidakippeaaGreat
open Go.RowKit
set_option maxRecDepth 100000 in
set_option maxHeartbeats 8000000 in
/-- frac.Mul -/
theorem qmul_c (w : World) (va vb : Value) (a b : Rat) (ha : rQ w va a) (hb : rQ w vb b) (hf : qb a + qb b ≤ 35184372088600) : Calls Tryz.prog 36 #[va, vb] w (Post w fun r w' => rQ w' r (a * b)) := by
 obtain ⟨s1, A1, c1, n1, B1, k1, m1, rfl, ha⟩ := ha.shape
 obtain ⟨s2, A2, c2, n2, B2, k2, m2, rfl, hb⟩ := hb.shape
 have f1 := qb_num a
 have f2 := qb_num b
 have f3 := qb_den a
 have f4 := qb_den b
 obtain ⟨e1, ee1⟩ : ∃ e, bl (if a.den = 1 then 0 else a.den) = e := ⟨_, rfl⟩
 obtain ⟨e2, ee2⟩ : ∃ e, bl (if b.den = 1 then 0 else b.den) = e := ⟨_, rfl⟩
 have fe1 : e1 ≤ 35184372088832 := by rw [← ee1]; exact fit_rest (show Fit a.den by unfold Fit; omega)
 have fe2 : e2 ≤ 35184372088832 := by rw [← ee2]; exact fit_rest (show Fit b.den by unfold Fit; omega)
 have HBT1 := Lib.hid (fun W h => bits_c W (.agg #[.slice B1 m1 k1]) (if a.den = 1 then 0 else a.den) h (fit_rest (by unfold Fit; omega)))
 have HBT2 := Lib.hid (fun W h => bits_c W (.agg #[.slice B2 m2 k2]) (if b.den = 1 then 0 else b.den) h (fit_rest (by unfold Fit; omega)))
 rw [ee1] at HBT1
 rw [ee2] at HBT2
 have d1 := den_bits ee1
 have d2 := den_bits ee2
 have hw : IntKind.i64.wrap ((e1 : Int) + (e2 : Int)) = (e1 : Int) + (e2 : Int) := i64w (by omega) (by omega)
 have HIA := Lib.hid (fun W h h' => imul_c W (.agg #[.bool s1, .slice A1 n1 c1]) (.agg #[.bool s2, .slice A2 n2 c2]) a.num b.num h h' (by omega))
 have HS1 := Lib.hid (fun W h => short_q W (.agg #[.bool s1, .slice A1 n1 c1, .slice B1 m1 k1]) a h)
 have HS2 := Lib.hid (fun W h => short_q W (.agg #[.bool s2, .slice A2 n2 c2, .slice B2 m2 k2]) b h)
 have HD1 := Lib.hid (fun W h => qden_c W (.agg #[.bool s1, .slice A1 n1 c1, .slice B1 m1 k1]) a h (by unfold Fit; omega))
 have HD2 := Lib.hid (fun W h => qden_c W (.agg #[.bool s2, .slice A2 n2 c2, .slice B2 m2 k2]) b h (by unfold Fit; omega))
 have HAB := Lib.hid (show a.den = 1 → b.den = 1 → ∀ W s A n c, rInt W (.agg #[.bool s, .slice A n c]) (a.num * b.num) → rQ W (.agg #[.bool s, .slice A n c, .slice none 0 0]) (a * b) from fun h1 h2 W s A n c h => by
  obtain ⟨p1, p2⟩ := rat_mul_whole a b h1 h2
  unfold rQ
  rw [p1, p2]
  exact rQd.mk h (by simpa using rNat.zero _))
 obtain ⟨g, eg⟩ : ∃ g, Nat.gcd a.num.natAbs b.den = g := ⟨_, rfl⟩
 obtain ⟨h, eh⟩ : ∃ h, Nat.gcd b.num.natAbs a.den = h := ⟨_, rfl⟩
 have hparts := rat_mul_parts a b g h eg eh
 have hgp : 0 < g := by rw [← eg]; exact Nat.gcd_pos_of_pos_right _ b.den_pos
 have hhp : 0 < h := by rw [← eh]; exact Nat.gcd_pos_of_pos_right _ a.den_pos
 have hg : bl g ≤ qb b := by rw [← eg]; exact Nat.le_trans (bl_mono (Nat.gcd_le_right _ b.den_pos)) f4
 have hh : bl h ≤ qb a := by rw [← eh]; exact Nat.le_trans (bl_mono (Nat.gcd_le_right _ a.den_pos)) f3
 obtain ⟨p, ep⟩ : ∃ p, Int.fdiv a.num g = p := ⟨_, rfl⟩
 obtain ⟨q, eq⟩ : ∃ q, Int.fdiv b.num h = q := ⟨_, rfl⟩
 obtain ⟨x, ex⟩ : ∃ x, a.den / h = x := ⟨_, rfl⟩
 obtain ⟨y, ey⟩ : ∃ y, b.den / g = y := ⟨_, rfl⟩
 rw [ep, eq, ex, ey] at hparts
 have hp : bl p.natAbs ≤ qb a := by rw [← ep, Int.fdiv_eq_ediv_of_nonneg _ (by omega)]; exact Nat.le_trans (bl_mono (natAbs_ediv_le _ _)) f1
 have hq : bl q.natAbs ≤ qb b := by rw [← eq, Int.fdiv_eq_ediv_of_nonneg _ (by omega)]; exact Nat.le_trans (bl_mono (natAbs_ediv_le _ _)) f2
 have hx : bl x ≤ qb a := by rw [← ex]; exact Nat.le_trans (bl_mono (Nat.div_le_self _ _)) f3
 have hy : bl y ≤ qb b := by rw [← ey]; exact Nat.le_trans (bl_mono (Nat.div_le_self _ _)) f4
 have hxy : bl (x * y) ≤ qb a + qb b := Nat.le_trans (bl_mul _ _) (by omega)
 have HFI := Lib.hid (show ∀ W v, rQd W v (p * q) (x * y) → rQ W v (a * b) from fun W v hv => by unfold rQ; rw [hparts.1, hparts.2]; exact hv)
 have HWA := Lib.hid (fun W v hv => wide_c W v a.den hv (by unfold Fit; omega))
 have HWB := Lib.hid (fun W v hv => wide_c W v b.den hv (by unfold Fit; omega))
 have HGG := Lib.hid (fun W v u hv hu => gcd_c W v u a.num (b.den : Int) hv hu (by omega) (by simp only [Int.natAbs_natCast]; omega))
 simp only [Int.natAbs_natCast] at HGG
 rw [eg] at HGG
 have HGH := Lib.hid (fun W v u hv hu => gcd_c W v u b.num (a.den : Int) hv hu (by omega) (by simp only [Int.natAbs_natCast]; omega))
 simp only [Int.natAbs_natCast] at HGH
 rw [eh] at HGH
 have HBP := Lib.hid (fun W v u hv hu => by_c W v u a.num g hv hu (by omega) (by omega))
 rw [ep] at HBP
 have HBQ := Lib.hid (fun W v u hv hu => by_c W v u b.num h hv hu (by omega) (by omega))
 rw [eq] at HBQ
 have HPQ := Lib.hid (fun W v u hv hu => imul_c W v u p q hv hu (by omega))
 have HUX := Lib.hid (fun W v u hv hu => under_c W v u a.den h hv hu (by unfold Fit; omega) (by unfold Fit; omega))
 have HUY := Lib.hid (fun W v u hv hu => under_c W v u b.den g hv hu (by unfold Fit; omega) (by unfold Fit; omega))
 rw [ex] at HUX
 rw [ey] at HUY
 have HMX := Lib.hid (fun W v u hv hu => mul_n W v u x y hv hu (by unfold Fit; omega) (by unfold Fit; omega))
 have HLW := Lib.hid (fun W v u hv hu => low_c W v u (p * q) (x * y) hv hu (by unfold Fit; omega))
 have HQK := Lib.hid (show ∀ (W : World) (n1' d1' n2' d2' : Int), (n1' = a.num ∧ d1' = a.den ∧ -2147483648 < n1' ∧ n1' < 2147483648 ∧ 0 < d1' ∧ d1' < 2147483648) → (n2' = b.num ∧ d2' = b.den ∧ -2147483648 < n2' ∧ n2' < 2147483648 ∧ 0 < d2' ∧ d2' < 2147483648) →
    Calls Tryz.prog 73 #[.int .i64 (n1' * n2'), .int .i64 (d1' * d2')] W (Post W fun r w' => rQ w' r (a * b)) from by
  rintro W n1' d1' n2' d2' ⟨rfl, rfl, i1, i2, i3, i4⟩ ⟨rfl, rfl, j1, j2, j3, j4⟩
  have q1 := mul31 i1 i2 j1 j2
  have q3 := mul31 (a := (a.den : Int)) (b := (b.den : Int)) (by omega) (by omega) (by omega) (by omega)
  have q4 := Nat.mul_pos a.den_pos b.den_pos
  rw [Rat.mul_def', ← Int.natCast_mul]
  refine quick_c W _ _ ⟨by omega, by omega⟩ ⟨q4, ?_⟩
  have : ((a.den * b.den : Nat) : Int) < 4611686018427387904 := by rw [Int.natCast_mul]; exact q3.2
  omega)
 have H1 := Lib.hid ha
 have H2 := Lib.hid hb
 have HDD1 := Lib.hid d1
 have HDD2 := Lib.hid d2
 clear ha hb f1 f2 f3 f4 ee1 ee2 d1 d2 eg ex ey ep eq eh hparts hx hy hg hgp hhp hp hq hh hxy hf
 have HB : Hid (Cells [(w.heap.size, 0, .bool s1), (w.heap.size, 1, .slice A1 n1 c1), (w.heap.size, 2, .slice B1 m1 k1), (w.heap.size + 1, 0, .bool s2), (w.heap.size + 1, 1, .slice A2 n2 c2), (w.heap.size + 1, 2, .slice B2 m2 k2)] (((w.alloc (.cells #[.bool s1, .slice A1 n1 c1, .slice B1 m1 k1] 32)).alloc (.cells #[.bool s2, .slice A2 n2 c2, .slice B2 m2 k2] 32)).alloc (.cells #[.bool false, .slice none 0 0, .slice none 0 0] 32))) := Lib.hid (Cells.cons (by go_simp) (Cells.cons (by go_simp) (Cells.cons (by go_simp) (Cells.cons (by go_simp) (Cells.cons (by go_simp) (Cells.cons (by go_simp) (Cells.nil _)))))))
 have HO0 := Lib.hid (Own.new' ((w.alloc (.cells #[.bool s1, .slice A1 n1 c1, .slice B1 m1 k1] 32)).alloc (.cells #[.bool s2, .slice A2 n2 c2, .slice B2 m2 k2] 32)) 32 [.bool false, .slice none 0 0, .slice none 0 0] (w.heap.size + 1 + 1) (by simp))
 have hbw : Below w.heap.size w (((w.alloc (.cells #[.bool s1, .slice A1 n1 c1, .slice B1 m1 k1] 32)).alloc (.cells #[.bool s2, .slice A2 n2 c2, .slice B2 m2 k2] 32)).alloc (.cells #[.bool false, .slice none 0 0, .slice none 0 0] 32)) := (by repeat (first | assumption | exact nB1 _ _ | refine nB2 ?_ | refine pw_below_drewN ?_ _ | refine nB3 ?_ (by first | omega | (simp <;> omega)) _ | refine nB4 ?_ (by first | omega | (simp <;> omega)) _ | refine nB5 ?_ (by assumption) (by first | omega | (simp <;> omega))))
 go_enter Tryz.func36, Tryz.ntmps36
 go_wp2_with fail
 generalize (((w.alloc (.cells #[.bool s1, .slice A1 n1 c1, .slice B1 m1 k1] 32)).alloc (.cells #[.bool s2, .slice A2 n2 c2, .slice B2 m2 k2] 32)).alloc (.cells #[.bool false, .slice none 0 0, .slice none 0 0] 32)) = W0 at HB HO0 hbw ⊢
 replace HB := Lib.hid (HB.out.drew)
 replace HO0 := Lib.hid (HO0.out.drew)
 replace hbw := Below.drew hbw
 refine wp_hoist [(0, true), (1, true), (3, true), (4, true), (2, false), (5, false), (6, true), (7, true)] (Cells [(w.heap.size, 0, .bool s1), (w.heap.size, 1, .slice A1 n1 c1), (w.heap.size, 2, .slice B1 m1 k1), (w.heap.size + 1, 0, .bool s2), (w.heap.size + 1, 1, .slice A2 n2 c2), (w.heap.size + 1, 2, .slice B2 m2 k2)]) (by kernel_rfl) (by kernel_rfl) ?_ ?_
 · exact HB.out
 generalize W0.drew = W1 at HB HO0 hbw ⊢
 refine hz_yes (v := ?_) rfl (by kernel_rfl) (fun W hW => ?_) ?_; rotate_left; (go_simp; try with_reducible rfl)
 (try (conv => arg 6; simp only [Act.put, gL]))
 refine hz_yes (v := ?_) rfl (by kernel_rfl) (fun W hW => ?_) ?_; rotate_left; (obtain ⟨y0, y1, y2, y3, y4, y5, _⟩ := hW; go_simp; try with_reducible rfl)
 (try (conv => arg 6; simp only [Act.put, gL]))
 refine hz_yes (v := ?_) rfl (by kernel_rfl) (fun W hW => ?_) ?_; rotate_left; (go_simp; try with_reducible rfl)
 (try (conv => arg 6; simp only [Act.put, gL]))
 refine hz_yes (v := ?_) rfl (by kernel_rfl) (fun W hW => ?_) ?_; rotate_left; (obtain ⟨y0, y1, y2, y3, y4, y5, _⟩ := hW; go_simp; try with_reducible rfl)
 (try (conv => arg 6; simp only [Act.put, gL]))
 refine hz_eff rfl (by kernel_rfl) (fun K hK => ?_)
 refine wp_call (HBT1.out _ (H1.out.ext hbw).rest) (by kernel_rfl) ?_
 rintro v1 W2 hb1 rfl
 refine hK.out _ _ ?_ ?_
 · exact HB.out.ext hb1
 clear hK K
 (try (conv => arg 6; simp only [Act.put, gL]))
 replace HB := Lib.hid (HB.out.ext hb1)
 replace HO0 := Lib.hid (HO0.out.ext hb1)
 replace hbw := nT hbw hb1
 clear hb1
 refine hz_eff rfl (by kernel_rfl) (fun K hK => ?_)
 refine wp_call (HBT2.out _ (H2.out.ext hbw).rest) (by kernel_rfl) ?_
 rintro v1 W3 hb1 rfl
 refine hK.out _ _ ?_ ?_
 · exact HB.out.ext hb1
 clear hK K
 (try (conv => arg 6; simp only [Act.put, gL]))
 replace HB := Lib.hid (HB.out.ext hb1)
 replace HO0 := Lib.hid (HO0.out.ext hb1)
 replace hbw := nT hbw hb1
 clear hb1
 refine hz_yes (v := ?_) rfl (by kernel_rfl) (fun W hW => ?_) ?_; rotate_left; (go_simp; try with_reducible rfl)
 (try (conv => arg 6; simp only [Act.put, gL]))
 refine hz_yes (v := ?_) rfl (by kernel_rfl) (fun W hW => ?_) ?_; rotate_left; (go_simp; try with_reducible rfl)
 (try (conv => arg 6; simp only [Act.put, gL]))
 refine hz_nil ?_
 clear HBT1 HBT2
 by_cases h0 : (e1 : Int) + (e2 : Int) = 0
 ·
  have h0b : ((e1 : Int) + (e2 : Int) == 0) = true := by rw [beq_iff_eq]; exact h0
  have z1 := HDD1.out.1 (by omega)
  have z2 := HDD2.out.1 (by omega)
  have HZ := Lib.hid (HAB.out z1 z2)
  clear z1 z2
  obtain ⟨y0, y1, y2, y3, y4, y5, _⟩ := id HB.out
  go_wp2_with fail
  clear y0 y1 y2 y3 y4 y5
  refine (HIA.out _ (H1.out.ext hbw).num (H2.out.ext hbw).num).mono ?_
  rintro e W4 ⟨v1, rfl, hb1, hr1⟩
  obtain ⟨Es, EA, Ec, En, rfl, hr1⟩ := hr1.shape
  replace HB := Lib.hid (HB.out.ext hb1)
  replace HO0 := Lib.hid (HO0.out.ext hb1)
  replace hbw := nT hbw hb1
  have R1 := Lib.hid hr1
  clear hr1
  clear hb1
  have q0 := HO0.out.cell 0 _ rfl
  have f0 := HO0.out.frozen 0
  have q1 := HO0.out.cell 1 _ rfl
  have f1 := HO0.out.frozen 1
  have q2 := HO0.out.cell 2 _ rfl
  have f2 := HO0.out.frozen 2
  go_wp2_with fail
  replace HB := Lib.hid (HB.out.set (p := ⟨w.heap.size + 1 + 1, 0, none⟩) (.bool Es) (by simp <;> omega))
  replace HO0 := Lib.hid (HO0.out.set 0 (.bool Es))
  replace R1 := Lib.hid (R1.out.set (x := .bool Es) q0 rfl)
  replace hbw := nB4 hbw (show w.heap.size ≤ (⟨w.heap.size + 1 + 1, 0, none⟩ : Addr).block by simp <;> omega) (.bool Es)
  replace q1 := (nC W4 ⟨w.heap.size + 1 + 1, 0, none⟩ ⟨w.heap.size + 1 + 1, 1, none⟩ (.bool Es) (by simp)).trans q1
  replace q2 := (nC W4 ⟨w.heap.size + 1 + 1, 0, none⟩ ⟨w.heap.size + 1 + 1, 2, none⟩ (.bool Es) (by simp)).trans q2
  replace HB := Lib.hid (HB.out.set (p := ⟨w.heap.size + 1 + 1, 1, none⟩) (.slice EA En Ec) (by simp <;> omega))
  replace HO0 := Lib.hid (HO0.out.set 1 (.slice EA En Ec))
  replace R1 := Lib.hid (R1.out.set (x := .slice EA En Ec) q1 rfl)
  replace hbw := nB4 hbw (show w.heap.size ≤ (⟨w.heap.size + 1 + 1, 1, none⟩ : Addr).block by simp <;> omega) (.slice EA En Ec)
  replace q2 := (nC (W4.setCell ⟨w.heap.size + 1 + 1, 0, none⟩ (.bool Es)) ⟨w.heap.size + 1 + 1, 1, none⟩ ⟨w.heap.size + 1 + 1, 2, none⟩ (.slice EA En Ec) (by simp)).trans q2
  replace HB := Lib.hid (HB.out.set (p := ⟨w.heap.size + 1 + 1, 2, none⟩) (.slice none 0 0) (by simp <;> omega))
  replace HO0 := Lib.hid (HO0.out.set 2 (.slice none 0 0))
  replace R1 := Lib.hid (R1.out.set (x := .slice none 0 0) q2 rfl)
  replace hbw := nB4 hbw (show w.heap.size ≤ (⟨w.heap.size + 1 + 1, 2, none⟩ : Addr).block by simp <;> omega) (.slice none 0 0)
  clear q0 f0 q1 f1 q2 f2
  replace HO0 : Hid (Own _ _ _ [.bool Es, .slice EA En Ec, .slice none 0 0]) := HO0
  generalize (((W4.setCell ⟨w.heap.size + 1 + 1, 0, none⟩ (.bool Es)).setCell ⟨w.heap.size + 1 + 1, 1, none⟩ (.slice EA En Ec)).setCell ⟨w.heap.size + 1 + 1, 2, none⟩ (.slice none 0 0)) = W5 at HB HO0 R1 hbw ⊢
  have kk0 := HO0.out.cell 0 _ rfl
  have kk1 := HO0.out.cell 1 _ rfl
  have kk2 := HO0.out.cell 2 _ rfl
  refine bodyPost_ret (v := .agg #[.bool Es, .slice EA En Ec, .slice none 0 0]) (by simp [results, Tryz.results36, go_sem, kk0, kk1, kk2]) rfl ⟨_, rfl, hbw, ?_⟩
  exact HZ.out _ _ _ _ _ R1.out
 have h0b : ((e1 : Int) + (e2 : Int) == 0) = false := by rw [beq_eq_false_iff_ne]; exact h0
 obtain ⟨y0, y1, y2, y3, y4, y5, _⟩ := id HB.out
 go_wp2_with fail
 clear y0 y1 y2 y3 y4 y5
 refine (HS1.out _ (H1.out.ext hbw)).mono ?_
 rintro e W4 ⟨v1, rfl, hb1, ⟨n1', d1', ok1, rfl, hs1⟩⟩
 replace HB := Lib.hid (HB.out.ext hb1)
 replace HO0 := Lib.hid (HO0.out.ext hb1)
 replace hbw := nT hbw hb1
 clear hb1
 have HT1 := Lib.hid hs1
 clear hs1
 go_upto_if 35 with (fail)
 go_cut [] (fun WC => Below w.heap.size w WC ∧ Cells [(w.heap.size, 0, .bool s1), (w.heap.size, 1, .slice A1 n1 c1), (w.heap.size, 2, .slice B1 m1 k1), (w.heap.size + 1, 0, .bool s2), (w.heap.size + 1, 1, .slice A2 n2 c2), (w.heap.size + 1, 2, .slice B2 m2 k2)] WC ∧ Own WC (w.heap.size + 1 + 1) 32 [.bool false, .slice none 0 0, .slice none 0 0])
 case first =>
  cases ok1
  ·
    go_wp2_with fail
    go_meet
    exact ⟨hbw, HB.out, HO0.out⟩
  ·
    skip
    obtain ⟨y0, y1, y2, y3, y4, y5, _⟩ := id HB.out
    go_wp2_with fail
    clear y0 y1 y2 y3 y4 y5
    refine (HS2.out _ (H2.out.ext hbw)).mono ?_
    rintro e W5 ⟨v1, rfl, hb1, ⟨n2', d2', ok2, rfl, hs2⟩⟩
    replace HB := Lib.hid (HB.out.ext hb1)
    replace HO0 := Lib.hid (HO0.out.ext hb1)
    replace hbw := nT hbw hb1
    clear hb1
    have HT2 := Lib.hid hs2
    clear hs2
    cases ok2
    ·
      go_wp2_with fail
      go_meet
      exact ⟨hbw, HB.out, HO0.out⟩
    ·
      have i := HT1.out (by simp)
      have j := HT2.out (by simp)
      have HQ := Lib.hid (fun W => HQK.out W _ _ _ _ i j)
      have q1 := mul31 i.2.2.1 i.2.2.2.1 j.2.2.1 j.2.2.2.1
      have q3 := mul31 (a := d1') (b := d2') (by omega) (by omega) (by omega) (by omega)
      have w1 : IntKind.i64.wrap (n1' * n2') = n1' * n2' := i64w (by omega) (by omega)
      have w3 : IntKind.i64.wrap (d1' * d2') = d1' * d2' := i64w (by omega) (by omega)
      clear i j q1 q3
      go_wp2_with fail
      refine (HQ.out _).mono ?_
      rintro e W6 ⟨v1, rfl, hb1, hr1⟩
      obtain ⟨Es, EA, Ec, En, EB, Ed, Em, rfl, hr1⟩ := hr1.shape
      replace HB := Lib.hid (HB.out.ext hb1)
      replace HO0 := Lib.hid (HO0.out.ext hb1)
      replace hbw := nT hbw hb1
      have R1 := Lib.hid hr1
      clear hr1
      clear hb1
      have q0 := HO0.out.cell 0 _ rfl
      have f0 := HO0.out.frozen 0
      have q1 := HO0.out.cell 1 _ rfl
      have f1 := HO0.out.frozen 1
      have q2 := HO0.out.cell 2 _ rfl
      have f2 := HO0.out.frozen 2
      go_wp2_with fail
      replace HB := Lib.hid (HB.out.set (p := ⟨w.heap.size + 1 + 1, 0, none⟩) (.bool Es) (by simp <;> omega))
      replace HO0 := Lib.hid (HO0.out.set 0 (.bool Es))
      replace R1 := Lib.hid (R1.out.set (x := .bool Es) q0 rfl)
      replace hbw := nB4 hbw (show w.heap.size ≤ (⟨w.heap.size + 1 + 1, 0, none⟩ : Addr).block by simp <;> omega) (.bool Es)
      replace q1 := (nC W6 ⟨w.heap.size + 1 + 1, 0, none⟩ ⟨w.heap.size + 1 + 1, 1, none⟩ (.bool Es) (by simp)).trans q1
      replace q2 := (nC W6 ⟨w.heap.size + 1 + 1, 0, none⟩ ⟨w.heap.size + 1 + 1, 2, none⟩ (.bool Es) (by simp)).trans q2
      replace HB := Lib.hid (HB.out.set (p := ⟨w.heap.size + 1 + 1, 1, none⟩) (.slice EA En Ec) (by simp <;> omega))
      replace HO0 := Lib.hid (HO0.out.set 1 (.slice EA En Ec))
      replace R1 := Lib.hid (R1.out.set (x := .slice EA En Ec) q1 rfl)
      replace hbw := nB4 hbw (show w.heap.size ≤ (⟨w.heap.size + 1 + 1, 1, none⟩ : Addr).block by simp <;> omega) (.slice EA En Ec)
      replace q2 := (nC (W6.setCell ⟨w.heap.size + 1 + 1, 0, none⟩ (.bool Es)) ⟨w.heap.size + 1 + 1, 1, none⟩ ⟨w.heap.size + 1 + 1, 2, none⟩ (.slice EA En Ec) (by simp)).trans q2
      replace HB := Lib.hid (HB.out.set (p := ⟨w.heap.size + 1 + 1, 2, none⟩) (.slice EB Em Ed) (by simp <;> omega))
      replace HO0 := Lib.hid (HO0.out.set 2 (.slice EB Em Ed))
      replace R1 := Lib.hid (R1.out.set (x := .slice EB Em Ed) q2 rfl)
      replace hbw := nB4 hbw (show w.heap.size ≤ (⟨w.heap.size + 1 + 1, 2, none⟩ : Addr).block by simp <;> omega) (.slice EB Em Ed)
      clear q0 f0 q1 f1 q2 f2
      replace HO0 : Hid (Own _ _ _ [.bool Es, .slice EA En Ec, .slice EB Em Ed]) := HO0
      generalize (((W6.setCell ⟨w.heap.size + 1 + 1, 0, none⟩ (.bool Es)).setCell ⟨w.heap.size + 1 + 1, 1, none⟩ (.slice EA En Ec)).setCell ⟨w.heap.size + 1 + 1, 2, none⟩ (.slice EB Em Ed)) = W7 at HB HO0 R1 hbw ⊢
      have kk0 := HO0.out.cell 0 _ rfl
      have kk1 := HO0.out.cell 1 _ rfl
      have kk2 := HO0.out.cell 2 _ rfl
      refine bodyPost_ret (v := .agg #[.bool Es, .slice EA En Ec, .slice EB Em Ed]) (by simp [results, Tryz.results36, go_sem, kk0, kk1, kk2]) rfl ⟨_, rfl, hbw, ?_⟩
      exact R1.out
 clear HB HO0 hbw
 obtain ⟨hbw, h_HB, h_HO0⟩ := hcut
 have HB := Lib.hid h_HB
 clear h_HB
 have HO0 := Lib.hid h_HO0
 clear h_HO0
 clear HT1 HS1 HS2 HQK HAB h0 h0b HIA
 go_upto_region 8 with (fail)
 go_cut [11, 12] (fun p11 p12 WC => ∃ bH12 : Nat, ∃ bH11 : Nat, ∃ PA : Option Addr, ∃ Pc : Nat, ∃ Pn : Nat, ∃ QA : Option Addr, ∃ Qc : Nat, ∃ Qn : Nat, p11 = .pointer (some ⟨bH11, 0, none⟩) ∧ p12 = .pointer (some ⟨bH12, 0, none⟩) ∧ Below w.heap.size w WC ∧ Cells [(w.heap.size, 0, .bool s1), (w.heap.size, 1, .slice A1 n1 c1), (w.heap.size, 2, .slice B1 m1 k1), (w.heap.size + 1, 0, .bool s2), (w.heap.size + 1, 1, .slice A2 n2 c2), (w.heap.size + 1, 2, .slice B2 m2 k2)] WC ∧ Own WC (w.heap.size + 1 + 1) 32 [.bool false, .slice none 0 0, .slice none 0 0] ∧ rNat WC (.agg #[.slice PA Pn Pc]) (a.den) ∧ rNat WC (.agg #[.slice QA Qn Qc]) (b.den) ∧ Own WC (bH11) 28 [.slice PA Pn Pc] ∧ Own WC (bH12) 28 [.slice QA Qn Qc] ∧ w.heap.size + 1 + 1 < bH11 ∧ w.heap.size + 1 + 1 < bH12 ∧ bH11 ≠ bH12)
 case first =>
  replace HB := Lib.hid (HB.out.drew)
  replace HO0 := Lib.hid (HO0.out.drew)
  replace hbw := Below.drew hbw
  refine wp_hoistR (.yes 0 (.yes 2 (.act 1 (.act 3 (.act 4 (.act 5 (.act 6 (.act 7 (.done) (.stop)) (.stop)) (.stop)) (.act 5 (.act 4 (.act 6 (.act 7 (.done) (.stop)) (.stop)) (.stop)) (.stop))) (.act 4 (.act 3 (.act 5 (.act 6 (.act 7 (.done) (.stop)) (.stop)) (.stop)) (.act 5 (.act 3 (.act 6 (.act 7 (.done) (.stop)) (.stop)) (.stop)) (.stop))) (.act 5 (.act 3 (.act 4 (.act 6 (.act 7 (.done) (.stop)) (.stop)) (.stop)) (.act 4 (.act 3 (.act 6 (.act 7 (.done) (.stop)) (.stop)) (.stop)) (.stop))) (.stop)))) (.act 4 (.act 1 (.act 3 (.act 5 (.act 6 (.act 7 (.done) (.stop)) (.stop)) (.stop)) (.act 5 (.act 3 (.act 6 (.act 7 (.done) (.stop)) (.stop)) (.stop)) (.stop))) (.act 5 (.act 1 (.act 3 (.act 6 (.act 7 (.done) (.stop)) (.stop)) (.stop)) (.stop)) (.stop))) (.act 5 (.act 1 (.act 3 (.act 4 (.act 6 (.act 7 (.done) (.stop)) (.stop)) (.stop)) (.act 4 (.act 3 (.act 6 (.act 7 (.done) (.stop)) (.stop)) (.stop)) (.stop))) (.act 4 (.act 1 (.act 3 (.act 6 (.act 7 (.done) (.stop)) (.stop)) (.stop)) (.stop)) (.stop))) (.stop)))))) (Cells [(w.heap.size, 0, .bool s1), (w.heap.size, 1, .slice A1 n1 c1), (w.heap.size, 2, .slice B1 m1 k1), (w.heap.size + 1, 0, .bool s2), (w.heap.size + 1, 1, .slice A2 n2 c2), (w.heap.size + 1, 2, .slice B2 m2 k2)]) (by kernel_rfl) (by kernel_rfl) ?_ ?_
  · exact HB.out
  generalize wc.drew = W5 at HB HO0 hbw ⊢
  refine hr_yes (v := ?_) rfl (by kernel_rfl) (fun W hW => ?_) ?_; rotate_left; (obtain ⟨y0, y1, y2, y3, y4, y5, _⟩ := hW; go_simp; try with_reducible rfl)
  (try (conv => arg 6; simp only [Act.put, gL]))
  refine hr_yes (v := ?_) rfl (by kernel_rfl) (fun W hW => ?_) ?_; rotate_left; (obtain ⟨y0, y1, y2, y3, y4, y5, _⟩ := hW; go_simp; try with_reducible rfl)
  (try (conv => arg 6; simp only [Act.put, gL]))
  refine hr_eff rfl (by kernel_rfl) (fun K hK => ?_) ?_
  focus
   refine wp_call (HD1.out _ (H1.out.ext hbw)) (by kernel_rfl) ?_
   rintro v1 W6 hb1 hr1
   obtain ⟨PA, Pc, Pn, rfl, hr1⟩ := hr1.shape
   refine hK.out _ _ ?_ ?_
   · exact HB.out.ext hb1
   clear hK K
   (try (conv => arg 6; simp only [Act.put, gL]))
   replace HB := Lib.hid (HB.out.ext hb1)
   replace HO0 := Lib.hid (HO0.out.ext hb1)
   replace hbw := nT hbw hb1
   have R1 := Lib.hid hr1
   clear hr1
   clear hb1
   refine hr_eff rfl (by kernel_rfl) (fun K hK => ?_) ?_
   focus
    refine wp_call (HD2.out _ (H2.out.ext hbw)) (by kernel_rfl) ?_
    rintro v1 W7 hb1 hr1
    obtain ⟨QA, Qc, Qn, rfl, hr1⟩ := hr1.shape
    refine hK.out _ _ ?_ ?_
    · exact HB.out.ext hb1
    clear hK K
    (try (conv => arg 6; simp only [Act.put, gL]))
    replace HB := Lib.hid (HB.out.ext hb1)
    replace HO0 := Lib.hid (HO0.out.ext hb1)
    replace R1 := Lib.hid (R1.out.ext hb1)
    replace hbw := nT hbw hb1
    have R2 := Lib.hid hr1
    clear hr1
    clear hb1
    refine hr_eff rfl (by kernel_rfl) (fun K hK => ?_) ?_
    focus
     go_simp
     refine hK.out _ _ ?_ ?_
     · exact HB.out.alloc _
     clear hK K
     (try (conv => arg 6; simp only [Act.put, gL]))
     have z_H11 := hbw.size
     have z_H11_HO0 := HO0.out.lt
     replace HB := Lib.hid (HB.out.alloc (.cells #[.slice none 0 0] 28))
     replace HO0 := Lib.hid (HO0.out.alloc (.cells #[.slice none 0 0] 28))
     replace R1 := Lib.hid (R1.out.alloc (.cells #[.slice none 0 0] 28))
     replace R2 := Lib.hid (R2.out.alloc (.cells #[.slice none 0 0] 28))
     replace hbw := nB3 hbw hbw.size (.cells #[.slice none 0 0] 28)
     have H11 := Lib.hid (Own.new' W7 28 [.slice none 0 0] W7.heap.size rfl)
     obtain ⟨bH11, e_H11⟩ : ∃ b, W7.heap.size = b := ⟨_, rfl⟩
     simp only [e_H11] at H11 z_H11 z_H11_HO0 ⊢
     generalize (W7.alloc (.cells #[.slice none 0 0] 28)) = W8 at HB HO0 R1 R2 H11 hbw ⊢
     refine hr_one rfl (by kernel_rfl) (fun K hK => ?_)
     go_simp
     refine hK.out _ _ ?_ ?_
     · exact HB.out.alloc _
     clear hK K
     (try (conv => arg 6; simp only [Act.put, gL]))
     have z_H12 := hbw.size
     have z_H12_HO0 := HO0.out.lt
     have z_H12_H11 := H11.out.lt
     replace HB := Lib.hid (HB.out.alloc (.cells #[.slice none 0 0] 28))
     replace HO0 := Lib.hid (HO0.out.alloc (.cells #[.slice none 0 0] 28))
     replace R1 := Lib.hid (R1.out.alloc (.cells #[.slice none 0 0] 28))
     replace R2 := Lib.hid (R2.out.alloc (.cells #[.slice none 0 0] 28))
     replace H11 := Lib.hid (H11.out.alloc (.cells #[.slice none 0 0] 28))
     replace hbw := nB3 hbw hbw.size (.cells #[.slice none 0 0] 28)
     have H12 := Lib.hid (Own.new' W8 28 [.slice none 0 0] W8.heap.size rfl)
     obtain ⟨bH12, e_H12⟩ : ∃ b, W8.heap.size = b := ⟨_, rfl⟩
     simp only [e_H12] at H12 z_H12 z_H12_HO0 z_H12_H11 ⊢
     generalize (W8.alloc (.cells #[.slice none 0 0] 28)) = W9 at HB HO0 R1 R2 H11 H12 hbw ⊢
    rotate_left 1
    refine hr_eff rfl (by kernel_rfl) (fun K hK => ?_) ?_
    focus
     go_simp
     refine hK.out _ _ ?_ ?_
     · exact HB.out.alloc _
     clear hK K
     (try (conv => arg 6; simp only [Act.put, gL]))
     have z_H12 := hbw.size
     have z_H12_HO0 := HO0.out.lt
     replace HB := Lib.hid (HB.out.alloc (.cells #[.slice none 0 0] 28))
     replace HO0 := Lib.hid (HO0.out.alloc (.cells #[.slice none 0 0] 28))
     replace R1 := Lib.hid (R1.out.alloc (.cells #[.slice none 0 0] 28))
     replace R2 := Lib.hid (R2.out.alloc (.cells #[.slice none 0 0] 28))
     replace hbw := nB3 hbw hbw.size (.cells #[.slice none 0 0] 28)
     have H12 := Lib.hid (Own.new' W7 28 [.slice none 0 0] W7.heap.size rfl)
     obtain ⟨bH12, e_H12⟩ : ∃ b, W7.heap.size = b := ⟨_, rfl⟩
     simp only [e_H12] at H12 z_H12 z_H12_HO0 ⊢
     generalize (W7.alloc (.cells #[.slice none 0 0] 28)) = W8 at HB HO0 R1 R2 H12 hbw ⊢
     refine hr_one rfl (by kernel_rfl) (fun K hK => ?_)
     go_simp
     refine hK.out _ _ ?_ ?_
     · exact HB.out.alloc _
     clear hK K
     (try (conv => arg 6; simp only [Act.put, gL]))
     have z_H11 := hbw.size
     have z_H11_HO0 := HO0.out.lt
     have z_H11_H12 := H12.out.lt
     replace HB := Lib.hid (HB.out.alloc (.cells #[.slice none 0 0] 28))
     replace HO0 := Lib.hid (HO0.out.alloc (.cells #[.slice none 0 0] 28))
     replace R1 := Lib.hid (R1.out.alloc (.cells #[.slice none 0 0] 28))
     replace R2 := Lib.hid (R2.out.alloc (.cells #[.slice none 0 0] 28))
     replace H12 := Lib.hid (H12.out.alloc (.cells #[.slice none 0 0] 28))
     replace hbw := nB3 hbw hbw.size (.cells #[.slice none 0 0] 28)
     have H11 := Lib.hid (Own.new' W8 28 [.slice none 0 0] W8.heap.size rfl)
     obtain ⟨bH11, e_H11⟩ : ∃ b, W8.heap.size = b := ⟨_, rfl⟩
     simp only [e_H11] at H11 z_H11 z_H11_HO0 z_H11_H12 ⊢
     generalize (W8.alloc (.cells #[.slice none 0 0] 28)) = W9 at HB HO0 R1 R2 H12 H11 hbw ⊢
    rotate_left 1
    exact trivial
   rotate_left 2
   refine hr_eff rfl (by kernel_rfl) (fun K hK => ?_) ?_
   focus
    go_simp
    refine hK.out _ _ ?_ ?_
    · exact HB.out.alloc _
    clear hK K
    (try (conv => arg 6; simp only [Act.put, gL]))
    have z_H11 := hbw.size
    have z_H11_HO0 := HO0.out.lt
    replace HB := Lib.hid (HB.out.alloc (.cells #[.slice none 0 0] 28))
    replace HO0 := Lib.hid (HO0.out.alloc (.cells #[.slice none 0 0] 28))
    replace R1 := Lib.hid (R1.out.alloc (.cells #[.slice none 0 0] 28))
    replace hbw := nB3 hbw hbw.size (.cells #[.slice none 0 0] 28)
    have H11 := Lib.hid (Own.new' W6 28 [.slice none 0 0] W6.heap.size rfl)
    obtain ⟨bH11, e_H11⟩ : ∃ b, W6.heap.size = b := ⟨_, rfl⟩
    simp only [e_H11] at H11 z_H11 z_H11_HO0 ⊢
    generalize (W6.alloc (.cells #[.slice none 0 0] 28)) = W7 at HB HO0 R1 H11 hbw ⊢
    refine hr_eff rfl (by kernel_rfl) (fun K hK => ?_) ?_
    focus
     refine wp_call (HD2.out _ (H2.out.ext hbw)) (by kernel_rfl) ?_
     rintro v1 W8 hb1 hr1
     obtain ⟨QA, Qc, Qn, rfl, hr1⟩ := hr1.shape
     refine hK.out _ _ ?_ ?_
     · exact HB.out.ext hb1
     clear hK K
     (try (conv => arg 6; simp only [Act.put, gL]))
     replace HB := Lib.hid (HB.out.ext hb1)
     replace HO0 := Lib.hid (HO0.out.ext hb1)
     replace R1 := Lib.hid (R1.out.ext hb1)
     replace H11 := Lib.hid (H11.out.ext hb1)
     replace hbw := nT hbw hb1
     have R2 := Lib.hid hr1
     clear hr1
     clear hb1
     refine hr_one rfl (by kernel_rfl) (fun K hK => ?_)
     go_simp
     refine hK.out _ _ ?_ ?_
     · exact HB.out.alloc _
     clear hK K
     (try (conv => arg 6; simp only [Act.put, gL]))
     have z_H12 := hbw.size
     have z_H12_HO0 := HO0.out.lt
     have z_H12_H11 := H11.out.lt
     replace HB := Lib.hid (HB.out.alloc (.cells #[.slice none 0 0] 28))
     replace HO0 := Lib.hid (HO0.out.alloc (.cells #[.slice none 0 0] 28))
     replace R1 := Lib.hid (R1.out.alloc (.cells #[.slice none 0 0] 28))
     replace H11 := Lib.hid (H11.out.alloc (.cells #[.slice none 0 0] 28))
     replace R2 := Lib.hid (R2.out.alloc (.cells #[.slice none 0 0] 28))
     replace hbw := nB3 hbw hbw.size (.cells #[.slice none 0 0] 28)
     have H12 := Lib.hid (Own.new' W8 28 [.slice none 0 0] W8.heap.size rfl)
     obtain ⟨bH12, e_H12⟩ : ∃ b, W8.heap.size = b := ⟨_, rfl⟩
     simp only [e_H12] at H12 z_H12 z_H12_HO0 z_H12_H11 ⊢
     generalize (W8.alloc (.cells #[.slice none 0 0] 28)) = W9 at HB HO0 R1 H11 R2 H12 hbw ⊢
    rotate_left 1
    refine hr_eff rfl (by kernel_rfl) (fun K hK => ?_) ?_
    focus
     go_simp
     refine hK.out _ _ ?_ ?_
     · exact HB.out.alloc _
     clear hK K
     (try (conv => arg 6; simp only [Act.put, gL]))
     have z_H12 := hbw.size
     have z_H12_HO0 := HO0.out.lt
     have z_H12_H11 := H11.out.lt
     replace HB := Lib.hid (HB.out.alloc (.cells #[.slice none 0 0] 28))
     replace HO0 := Lib.hid (HO0.out.alloc (.cells #[.slice none 0 0] 28))
     replace R1 := Lib.hid (R1.out.alloc (.cells #[.slice none 0 0] 28))
     replace H11 := Lib.hid (H11.out.alloc (.cells #[.slice none 0 0] 28))
     replace hbw := nB3 hbw hbw.size (.cells #[.slice none 0 0] 28)
     have H12 := Lib.hid (Own.new' W7 28 [.slice none 0 0] W7.heap.size rfl)
     obtain ⟨bH12, e_H12⟩ : ∃ b, W7.heap.size = b := ⟨_, rfl⟩
     simp only [e_H12] at H12 z_H12 z_H12_HO0 z_H12_H11 ⊢
     generalize (W7.alloc (.cells #[.slice none 0 0] 28)) = W8 at HB HO0 R1 H11 H12 hbw ⊢
     refine hr_one rfl (by kernel_rfl) (fun K hK => ?_)
     refine wp_call (HD2.out _ (H2.out.ext hbw)) (by kernel_rfl) ?_
     rintro v1 W9 hb1 hr1
     obtain ⟨QA, Qc, Qn, rfl, hr1⟩ := hr1.shape
     refine hK.out _ _ ?_ ?_
     · exact HB.out.ext hb1
     clear hK K
     (try (conv => arg 6; simp only [Act.put, gL]))
     replace HB := Lib.hid (HB.out.ext hb1)
     replace HO0 := Lib.hid (HO0.out.ext hb1)
     replace R1 := Lib.hid (R1.out.ext hb1)
     replace H11 := Lib.hid (H11.out.ext hb1)
     replace H12 := Lib.hid (H12.out.ext hb1)
     replace hbw := nT hbw hb1
     have R2 := Lib.hid hr1
     clear hr1
     clear hb1
    rotate_left 1
    exact trivial
   rotate_left 2
   refine hr_eff rfl (by kernel_rfl) (fun K hK => ?_) ?_
   focus
    go_simp
    refine hK.out _ _ ?_ ?_
    · exact HB.out.alloc _
    clear hK K
    (try (conv => arg 6; simp only [Act.put, gL]))
    have z_H12 := hbw.size
    have z_H12_HO0 := HO0.out.lt
    replace HB := Lib.hid (HB.out.alloc (.cells #[.slice none 0 0] 28))
    replace HO0 := Lib.hid (HO0.out.alloc (.cells #[.slice none 0 0] 28))
    replace R1 := Lib.hid (R1.out.alloc (.cells #[.slice none 0 0] 28))
    replace hbw := nB3 hbw hbw.size (.cells #[.slice none 0 0] 28)
    have H12 := Lib.hid (Own.new' W6 28 [.slice none 0 0] W6.heap.size rfl)
    obtain ⟨bH12, e_H12⟩ : ∃ b, W6.heap.size = b := ⟨_, rfl⟩
    simp only [e_H12] at H12 z_H12 z_H12_HO0 ⊢
    generalize (W6.alloc (.cells #[.slice none 0 0] 28)) = W7 at HB HO0 R1 H12 hbw ⊢
    refine hr_eff rfl (by kernel_rfl) (fun K hK => ?_) ?_
    focus
     refine wp_call (HD2.out _ (H2.out.ext hbw)) (by kernel_rfl) ?_
     rintro v1 W8 hb1 hr1
     obtain ⟨QA, Qc, Qn, rfl, hr1⟩ := hr1.shape
     refine hK.out _ _ ?_ ?_
     · exact HB.out.ext hb1
     clear hK K
     (try (conv => arg 6; simp only [Act.put, gL]))
     replace HB := Lib.hid (HB.out.ext hb1)
     replace HO0 := Lib.hid (HO0.out.ext hb1)
     replace R1 := Lib.hid (R1.out.ext hb1)
     replace H12 := Lib.hid (H12.out.ext hb1)
     replace hbw := nT hbw hb1
     have R2 := Lib.hid hr1
     clear hr1
     clear hb1
     refine hr_one rfl (by kernel_rfl) (fun K hK => ?_)
     go_simp
     refine hK.out _ _ ?_ ?_
     · exact HB.out.alloc _
     clear hK K
     (try (conv => arg 6; simp only [Act.put, gL]))
     have z_H11 := hbw.size
     have z_H11_HO0 := HO0.out.lt
     have z_H11_H12 := H12.out.lt
     replace HB := Lib.hid (HB.out.alloc (.cells #[.slice none 0 0] 28))
     replace HO0 := Lib.hid (HO0.out.alloc (.cells #[.slice none 0 0] 28))
     replace R1 := Lib.hid (R1.out.alloc (.cells #[.slice none 0 0] 28))
     replace H12 := Lib.hid (H12.out.alloc (.cells #[.slice none 0 0] 28))
     replace R2 := Lib.hid (R2.out.alloc (.cells #[.slice none 0 0] 28))
     replace hbw := nB3 hbw hbw.size (.cells #[.slice none 0 0] 28)
     have H11 := Lib.hid (Own.new' W8 28 [.slice none 0 0] W8.heap.size rfl)
     obtain ⟨bH11, e_H11⟩ : ∃ b, W8.heap.size = b := ⟨_, rfl⟩
     simp only [e_H11] at H11 z_H11 z_H11_HO0 z_H11_H12 ⊢
     generalize (W8.alloc (.cells #[.slice none 0 0] 28)) = W9 at HB HO0 R1 H12 R2 H11 hbw ⊢
    rotate_left 1
    refine hr_eff rfl (by kernel_rfl) (fun K hK => ?_) ?_
    focus
     go_simp
     refine hK.out _ _ ?_ ?_
     · exact HB.out.alloc _
     clear hK K
     (try (conv => arg 6; simp only [Act.put, gL]))
     have z_H11 := hbw.size
     have z_H11_HO0 := HO0.out.lt
     have z_H11_H12 := H12.out.lt
     replace HB := Lib.hid (HB.out.alloc (.cells #[.slice none 0 0] 28))
     replace HO0 := Lib.hid (HO0.out.alloc (.cells #[.slice none 0 0] 28))
     replace R1 := Lib.hid (R1.out.alloc (.cells #[.slice none 0 0] 28))
     replace H12 := Lib.hid (H12.out.alloc (.cells #[.slice none 0 0] 28))
     replace hbw := nB3 hbw hbw.size (.cells #[.slice none 0 0] 28)
     have H11 := Lib.hid (Own.new' W7 28 [.slice none 0 0] W7.heap.size rfl)
     obtain ⟨bH11, e_H11⟩ : ∃ b, W7.heap.size = b := ⟨_, rfl⟩
     simp only [e_H11] at H11 z_H11 z_H11_HO0 z_H11_H12 ⊢
     generalize (W7.alloc (.cells #[.slice none 0 0] 28)) = W8 at HB HO0 R1 H12 H11 hbw ⊢
     refine hr_one rfl (by kernel_rfl) (fun K hK => ?_)
     refine wp_call (HD2.out _ (H2.out.ext hbw)) (by kernel_rfl) ?_
     rintro v1 W9 hb1 hr1
     obtain ⟨QA, Qc, Qn, rfl, hr1⟩ := hr1.shape
     refine hK.out _ _ ?_ ?_
     · exact HB.out.ext hb1
     clear hK K
     (try (conv => arg 6; simp only [Act.put, gL]))
     replace HB := Lib.hid (HB.out.ext hb1)
     replace HO0 := Lib.hid (HO0.out.ext hb1)
     replace R1 := Lib.hid (R1.out.ext hb1)
     replace H12 := Lib.hid (H12.out.ext hb1)
     replace H11 := Lib.hid (H11.out.ext hb1)
     replace hbw := nT hbw hb1
     have R2 := Lib.hid hr1
     clear hr1
     clear hb1
    rotate_left 1
    exact trivial
   rotate_left 2
   exact trivial
  rotate_left 6
  refine hr_eff rfl (by kernel_rfl) (fun K hK => ?_) ?_
  focus
   go_simp
   refine hK.out _ _ ?_ ?_
   · exact HB.out.alloc _
   clear hK K
   (try (conv => arg 6; simp only [Act.put, gL]))
   have z_H11 := hbw.size
   have z_H11_HO0 := HO0.out.lt
   replace HB := Lib.hid (HB.out.alloc (.cells #[.slice none 0 0] 28))
   replace HO0 := Lib.hid (HO0.out.alloc (.cells #[.slice none 0 0] 28))
   replace hbw := nB3 hbw hbw.size (.cells #[.slice none 0 0] 28)
   have H11 := Lib.hid (Own.new' W5 28 [.slice none 0 0] W5.heap.size rfl)
   obtain ⟨bH11, e_H11⟩ : ∃ b, W5.heap.size = b := ⟨_, rfl⟩
   simp only [e_H11] at H11 z_H11 z_H11_HO0 ⊢
   generalize (W5.alloc (.cells #[.slice none 0 0] 28)) = W6 at HB HO0 H11 hbw ⊢
   refine hr_eff rfl (by kernel_rfl) (fun K hK => ?_) ?_
   focus
    refine wp_call (HD1.out _ (H1.out.ext hbw)) (by kernel_rfl) ?_
    rintro v1 W7 hb1 hr1
    obtain ⟨PA, Pc, Pn, rfl, hr1⟩ := hr1.shape
    refine hK.out _ _ ?_ ?_
    · exact HB.out.ext hb1
    clear hK K
    (try (conv => arg 6; simp only [Act.put, gL]))
    replace HB := Lib.hid (HB.out.ext hb1)
    replace HO0 := Lib.hid (HO0.out.ext hb1)
    replace H11 := Lib.hid (H11.out.ext hb1)
    replace hbw := nT hbw hb1
    have R1 := Lib.hid hr1
    clear hr1
    clear hb1
    refine hr_eff rfl (by kernel_rfl) (fun K hK => ?_) ?_
    focus
     refine wp_call (HD2.out _ (H2.out.ext hbw)) (by kernel_rfl) ?_
     rintro v1 W8 hb1 hr1
     obtain ⟨QA, Qc, Qn, rfl, hr1⟩ := hr1.shape
     refine hK.out _ _ ?_ ?_
     · exact HB.out.ext hb1
     clear hK K
     (try (conv => arg 6; simp only [Act.put, gL]))
     replace HB := Lib.hid (HB.out.ext hb1)
     replace HO0 := Lib.hid (HO0.out.ext hb1)
     replace H11 := Lib.hid (H11.out.ext hb1)
     replace R1 := Lib.hid (R1.out.ext hb1)
     replace hbw := nT hbw hb1
     have R2 := Lib.hid hr1
     clear hr1
     clear hb1
     refine hr_one rfl (by kernel_rfl) (fun K hK => ?_)
     go_simp
     refine hK.out _ _ ?_ ?_
     · exact HB.out.alloc _
     clear hK K
     (try (conv => arg 6; simp only [Act.put, gL]))
     have z_H12 := hbw.size
     have z_H12_HO0 := HO0.out.lt
     have z_H12_H11 := H11.out.lt
     replace HB := Lib.hid (HB.out.alloc (.cells #[.slice none 0 0] 28))
     replace HO0 := Lib.hid (HO0.out.alloc (.cells #[.slice none 0 0] 28))
     replace H11 := Lib.hid (H11.out.alloc (.cells #[.slice none 0 0] 28))
     replace R1 := Lib.hid (R1.out.alloc (.cells #[.slice none 0 0] 28))
     replace R2 := Lib.hid (R2.out.alloc (.cells #[.slice none 0 0] 28))
     replace hbw := nB3 hbw hbw.size (.cells #[.slice none 0 0] 28)
     have H12 := Lib.hid (Own.new' W8 28 [.slice none 0 0] W8.heap.size rfl)
     obtain ⟨bH12, e_H12⟩ : ∃ b, W8.heap.size = b := ⟨_, rfl⟩
     simp only [e_H12] at H12 z_H12 z_H12_HO0 z_H12_H11 ⊢
     generalize (W8.alloc (.cells #[.slice none 0 0] 28)) = W9 at HB HO0 H11 R1 R2 H12 hbw ⊢
    rotate_left 1
    refine hr_eff rfl (by kernel_rfl) (fun K hK => ?_) ?_
    focus
     go_simp
     refine hK.out _ _ ?_ ?_
     · exact HB.out.alloc _
     clear hK K
     (try (conv => arg 6; simp only [Act.put, gL]))
     have z_H12 := hbw.size
     have z_H12_HO0 := HO0.out.lt
     have z_H12_H11 := H11.out.lt
     replace HB := Lib.hid (HB.out.alloc (.cells #[.slice none 0 0] 28))
     replace HO0 := Lib.hid (HO0.out.alloc (.cells #[.slice none 0 0] 28))
     replace H11 := Lib.hid (H11.out.alloc (.cells #[.slice none 0 0] 28))
     replace R1 := Lib.hid (R1.out.alloc (.cells #[.slice none 0 0] 28))
     replace hbw := nB3 hbw hbw.size (.cells #[.slice none 0 0] 28)
     have H12 := Lib.hid (Own.new' W7 28 [.slice none 0 0] W7.heap.size rfl)
     obtain ⟨bH12, e_H12⟩ : ∃ b, W7.heap.size = b := ⟨_, rfl⟩
     simp only [e_H12] at H12 z_H12 z_H12_HO0 z_H12_H11 ⊢
     generalize (W7.alloc (.cells #[.slice none 0 0] 28)) = W8 at HB HO0 H11 R1 H12 hbw ⊢
     refine hr_one rfl (by kernel_rfl) (fun K hK => ?_)
     refine wp_call (HD2.out _ (H2.out.ext hbw)) (by kernel_rfl) ?_
     rintro v1 W9 hb1 hr1
     obtain ⟨QA, Qc, Qn, rfl, hr1⟩ := hr1.shape
     refine hK.out _ _ ?_ ?_
     · exact HB.out.ext hb1
     clear hK K
     (try (conv => arg 6; simp only [Act.put, gL]))
     replace HB := Lib.hid (HB.out.ext hb1)
     replace HO0 := Lib.hid (HO0.out.ext hb1)
     replace H11 := Lib.hid (H11.out.ext hb1)
     replace R1 := Lib.hid (R1.out.ext hb1)
     replace H12 := Lib.hid (H12.out.ext hb1)
     replace hbw := nT hbw hb1
     have R2 := Lib.hid hr1
     clear hr1
     clear hb1
    rotate_left 1
    exact trivial
   rotate_left 2
   refine hr_eff rfl (by kernel_rfl) (fun K hK => ?_) ?_
   focus
    go_simp
    refine hK.out _ _ ?_ ?_
    · exact HB.out.alloc _
    clear hK K
    (try (conv => arg 6; simp only [Act.put, gL]))
    have z_H12 := hbw.size
    have z_H12_HO0 := HO0.out.lt
    have z_H12_H11 := H11.out.lt
    replace HB := Lib.hid (HB.out.alloc (.cells #[.slice none 0 0] 28))
    replace HO0 := Lib.hid (HO0.out.alloc (.cells #[.slice none 0 0] 28))
    replace H11 := Lib.hid (H11.out.alloc (.cells #[.slice none 0 0] 28))
    replace hbw := nB3 hbw hbw.size (.cells #[.slice none 0 0] 28)
    have H12 := Lib.hid (Own.new' W6 28 [.slice none 0 0] W6.heap.size rfl)
    obtain ⟨bH12, e_H12⟩ : ∃ b, W6.heap.size = b := ⟨_, rfl⟩
    simp only [e_H12] at H12 z_H12 z_H12_HO0 z_H12_H11 ⊢
    generalize (W6.alloc (.cells #[.slice none 0 0] 28)) = W7 at HB HO0 H11 H12 hbw ⊢
    refine hr_one rfl (by kernel_rfl) (fun K hK => ?_)
    refine wp_call (HD1.out _ (H1.out.ext hbw)) (by kernel_rfl) ?_
    rintro v1 W8 hb1 hr1
    obtain ⟨PA, Pc, Pn, rfl, hr1⟩ := hr1.shape
    refine hK.out _ _ ?_ ?_
    · exact HB.out.ext hb1
    clear hK K
    (try (conv => arg 6; simp only [Act.put, gL]))
    replace HB := Lib.hid (HB.out.ext hb1)
    replace HO0 := Lib.hid (HO0.out.ext hb1)
    replace H11 := Lib.hid (H11.out.ext hb1)
    replace H12 := Lib.hid (H12.out.ext hb1)
    replace hbw := nT hbw hb1
    have R1 := Lib.hid hr1
    clear hr1
    clear hb1
    refine hr_one rfl (by kernel_rfl) (fun K hK => ?_)
    refine wp_call (HD2.out _ (H2.out.ext hbw)) (by kernel_rfl) ?_
    rintro v1 W9 hb1 hr1
    obtain ⟨QA, Qc, Qn, rfl, hr1⟩ := hr1.shape
    refine hK.out _ _ ?_ ?_
    · exact HB.out.ext hb1
    clear hK K
    (try (conv => arg 6; simp only [Act.put, gL]))
    replace HB := Lib.hid (HB.out.ext hb1)
    replace HO0 := Lib.hid (HO0.out.ext hb1)
    replace H11 := Lib.hid (H11.out.ext hb1)
    replace H12 := Lib.hid (H12.out.ext hb1)
    replace R1 := Lib.hid (R1.out.ext hb1)
    replace hbw := nT hbw hb1
    have R2 := Lib.hid hr1
    clear hr1
    clear hb1
   rotate_left 1
   exact trivial
  rotate_left 3
  refine hr_eff rfl (by kernel_rfl) (fun K hK => ?_) ?_
  focus
   go_simp
   refine hK.out _ _ ?_ ?_
   · exact HB.out.alloc _
   clear hK K
   (try (conv => arg 6; simp only [Act.put, gL]))
   have z_H12 := hbw.size
   have z_H12_HO0 := HO0.out.lt
   replace HB := Lib.hid (HB.out.alloc (.cells #[.slice none 0 0] 28))
   replace HO0 := Lib.hid (HO0.out.alloc (.cells #[.slice none 0 0] 28))
   replace hbw := nB3 hbw hbw.size (.cells #[.slice none 0 0] 28)
   have H12 := Lib.hid (Own.new' W5 28 [.slice none 0 0] W5.heap.size rfl)
   obtain ⟨bH12, e_H12⟩ : ∃ b, W5.heap.size = b := ⟨_, rfl⟩
   simp only [e_H12] at H12 z_H12 z_H12_HO0 ⊢
   generalize (W5.alloc (.cells #[.slice none 0 0] 28)) = W6 at HB HO0 H12 hbw ⊢
   refine hr_eff rfl (by kernel_rfl) (fun K hK => ?_) ?_
   focus
    refine wp_call (HD1.out _ (H1.out.ext hbw)) (by kernel_rfl) ?_
    rintro v1 W7 hb1 hr1
    obtain ⟨PA, Pc, Pn, rfl, hr1⟩ := hr1.shape
    refine hK.out _ _ ?_ ?_
    · exact HB.out.ext hb1
    clear hK K
    (try (conv => arg 6; simp only [Act.put, gL]))
    replace HB := Lib.hid (HB.out.ext hb1)
    replace HO0 := Lib.hid (HO0.out.ext hb1)
    replace H12 := Lib.hid (H12.out.ext hb1)
    replace hbw := nT hbw hb1
    have R1 := Lib.hid hr1
    clear hr1
    clear hb1
    refine hr_eff rfl (by kernel_rfl) (fun K hK => ?_) ?_
    focus
     refine wp_call (HD2.out _ (H2.out.ext hbw)) (by kernel_rfl) ?_
     rintro v1 W8 hb1 hr1
     obtain ⟨QA, Qc, Qn, rfl, hr1⟩ := hr1.shape
     refine hK.out _ _ ?_ ?_
     · exact HB.out.ext hb1
     clear hK K
     (try (conv => arg 6; simp only [Act.put, gL]))
     replace HB := Lib.hid (HB.out.ext hb1)
     replace HO0 := Lib.hid (HO0.out.ext hb1)
     replace H12 := Lib.hid (H12.out.ext hb1)
     replace R1 := Lib.hid (R1.out.ext hb1)
     replace hbw := nT hbw hb1
     have R2 := Lib.hid hr1
     clear hr1
     clear hb1
     refine hr_one rfl (by kernel_rfl) (fun K hK => ?_)
     go_simp
     refine hK.out _ _ ?_ ?_
     · exact HB.out.alloc _
     clear hK K
     (try (conv => arg 6; simp only [Act.put, gL]))
     have z_H11 := hbw.size
     have z_H11_HO0 := HO0.out.lt
     have z_H11_H12 := H12.out.lt
     replace HB := Lib.hid (HB.out.alloc (.cells #[.slice none 0 0] 28))
     replace HO0 := Lib.hid (HO0.out.alloc (.cells #[.slice none 0 0] 28))
     replace H12 := Lib.hid (H12.out.alloc (.cells #[.slice none 0 0] 28))
     replace R1 := Lib.hid (R1.out.alloc (.cells #[.slice none 0 0] 28))
     replace R2 := Lib.hid (R2.out.alloc (.cells #[.slice none 0 0] 28))
     replace hbw := nB3 hbw hbw.size (.cells #[.slice none 0 0] 28)
     have H11 := Lib.hid (Own.new' W8 28 [.slice none 0 0] W8.heap.size rfl)
     obtain ⟨bH11, e_H11⟩ : ∃ b, W8.heap.size = b := ⟨_, rfl⟩
     simp only [e_H11] at H11 z_H11 z_H11_HO0 z_H11_H12 ⊢
     generalize (W8.alloc (.cells #[.slice none 0 0] 28)) = W9 at HB HO0 H12 R1 R2 H11 hbw ⊢
    rotate_left 1
    refine hr_eff rfl (by kernel_rfl) (fun K hK => ?_) ?_
    focus
     go_simp
     refine hK.out _ _ ?_ ?_
     · exact HB.out.alloc _
     clear hK K
     (try (conv => arg 6; simp only [Act.put, gL]))
     have z_H11 := hbw.size
     have z_H11_HO0 := HO0.out.lt
     have z_H11_H12 := H12.out.lt
     replace HB := Lib.hid (HB.out.alloc (.cells #[.slice none 0 0] 28))
     replace HO0 := Lib.hid (HO0.out.alloc (.cells #[.slice none 0 0] 28))
     replace H12 := Lib.hid (H12.out.alloc (.cells #[.slice none 0 0] 28))
     replace R1 := Lib.hid (R1.out.alloc (.cells #[.slice none 0 0] 28))
     replace hbw := nB3 hbw hbw.size (.cells #[.slice none 0 0] 28)
     have H11 := Lib.hid (Own.new' W7 28 [.slice none 0 0] W7.heap.size rfl)
     obtain ⟨bH11, e_H11⟩ : ∃ b, W7.heap.size = b := ⟨_, rfl⟩
     simp only [e_H11] at H11 z_H11 z_H11_HO0 z_H11_H12 ⊢
     generalize (W7.alloc (.cells #[.slice none 0 0] 28)) = W8 at HB HO0 H12 R1 H11 hbw ⊢
     refine hr_one rfl (by kernel_rfl) (fun K hK => ?_)
     refine wp_call (HD2.out _ (H2.out.ext hbw)) (by kernel_rfl) ?_
     rintro v1 W9 hb1 hr1
     obtain ⟨QA, Qc, Qn, rfl, hr1⟩ := hr1.shape
     refine hK.out _ _ ?_ ?_
     · exact HB.out.ext hb1
     clear hK K
     (try (conv => arg 6; simp only [Act.put, gL]))
     replace HB := Lib.hid (HB.out.ext hb1)
     replace HO0 := Lib.hid (HO0.out.ext hb1)
     replace H12 := Lib.hid (H12.out.ext hb1)
     replace R1 := Lib.hid (R1.out.ext hb1)
     replace H11 := Lib.hid (H11.out.ext hb1)
     replace hbw := nT hbw hb1
     have R2 := Lib.hid hr1
     clear hr1
     clear hb1
    rotate_left 1
    exact trivial
   rotate_left 2
   refine hr_eff rfl (by kernel_rfl) (fun K hK => ?_) ?_
   focus
    go_simp
    refine hK.out _ _ ?_ ?_
    · exact HB.out.alloc _
    clear hK K
    (try (conv => arg 6; simp only [Act.put, gL]))
    have z_H11 := hbw.size
    have z_H11_HO0 := HO0.out.lt
    have z_H11_H12 := H12.out.lt
    replace HB := Lib.hid (HB.out.alloc (.cells #[.slice none 0 0] 28))
    replace HO0 := Lib.hid (HO0.out.alloc (.cells #[.slice none 0 0] 28))
    replace H12 := Lib.hid (H12.out.alloc (.cells #[.slice none 0 0] 28))
    replace hbw := nB3 hbw hbw.size (.cells #[.slice none 0 0] 28)
    have H11 := Lib.hid (Own.new' W6 28 [.slice none 0 0] W6.heap.size rfl)
    obtain ⟨bH11, e_H11⟩ : ∃ b, W6.heap.size = b := ⟨_, rfl⟩
    simp only [e_H11] at H11 z_H11 z_H11_HO0 z_H11_H12 ⊢
    generalize (W6.alloc (.cells #[.slice none 0 0] 28)) = W7 at HB HO0 H12 H11 hbw ⊢
    refine hr_one rfl (by kernel_rfl) (fun K hK => ?_)
    refine wp_call (HD1.out _ (H1.out.ext hbw)) (by kernel_rfl) ?_
    rintro v1 W8 hb1 hr1
    obtain ⟨PA, Pc, Pn, rfl, hr1⟩ := hr1.shape
    refine hK.out _ _ ?_ ?_
    · exact HB.out.ext hb1
    clear hK K
    (try (conv => arg 6; simp only [Act.put, gL]))
    replace HB := Lib.hid (HB.out.ext hb1)
    replace HO0 := Lib.hid (HO0.out.ext hb1)
    replace H12 := Lib.hid (H12.out.ext hb1)
    replace H11 := Lib.hid (H11.out.ext hb1)
    replace hbw := nT hbw hb1
    have R1 := Lib.hid hr1
    clear hr1
    clear hb1
    refine hr_one rfl (by kernel_rfl) (fun K hK => ?_)
    refine wp_call (HD2.out _ (H2.out.ext hbw)) (by kernel_rfl) ?_
    rintro v1 W9 hb1 hr1
    obtain ⟨QA, Qc, Qn, rfl, hr1⟩ := hr1.shape
    refine hK.out _ _ ?_ ?_
    · exact HB.out.ext hb1
    clear hK K
    (try (conv => arg 6; simp only [Act.put, gL]))
    replace HB := Lib.hid (HB.out.ext hb1)
    replace HO0 := Lib.hid (HO0.out.ext hb1)
    replace H12 := Lib.hid (H12.out.ext hb1)
    replace H11 := Lib.hid (H11.out.ext hb1)
    replace R1 := Lib.hid (R1.out.ext hb1)
    replace hbw := nT hbw hb1
    have R2 := Lib.hid hr1
    clear hr1
    clear hb1
   rotate_left 1
   exact trivial
  rotate_left 3
  exact trivial
  all_goals
   refine hr_one rfl (by kernel_rfl) (fun K hK => ?_)
   have q0 := H11.out.cell 0 _ rfl
   have f0 := H11.out.frozen 0
   go_simp
   refine hK.out _ _ ?_ ?_
   · exact (HB.out.set (p := ⟨bH11, 0, none⟩) _ (by simp <;> omega))
   clear hK K
   (try (conv => arg 6; simp only [Act.put, gL]))
   replace HB := Lib.hid (HB.out.set (p := ⟨bH11, 0, none⟩) (.slice PA Pn Pc) (by simp <;> omega))
   replace HO0 := Lib.hid (HO0.out.other (p := ⟨bH11, 0, none⟩) (.slice PA Pn Pc) (by simp <;> omega))
   replace H12 := Lib.hid (H12.out.other (p := ⟨bH11, 0, none⟩) (.slice PA Pn Pc) (by simp <;> omega))
   replace H11 := Lib.hid (H11.out.set 0 (.slice PA Pn Pc))
   replace R1 := Lib.hid (R1.out.set (x := .slice PA Pn Pc) q0 rfl)
   replace R2 := Lib.hid (R2.out.set (x := .slice PA Pn Pc) q0 rfl)
   replace hbw := nB4 hbw (show w.heap.size ≤ (⟨bH11, 0, none⟩ : Addr).block by simp <;> omega) (.slice PA Pn Pc)
   clear q0 f0
   replace H11 : Hid (Own _ _ _ [.slice PA Pn Pc]) := H11
   generalize (W9.setCell ⟨bH11, 0, none⟩ (.slice PA Pn Pc)) = W10 at HB HO0 H12 H11 R1 R2 hbw ⊢
   refine hr_one rfl (by kernel_rfl) (fun K hK => ?_)
   have q0 := H12.out.cell 0 _ rfl
   have f0 := H12.out.frozen 0
   go_simp
   refine hK.out _ _ ?_ ?_
   · exact (HB.out.set (p := ⟨bH12, 0, none⟩) _ (by simp <;> omega))
   clear hK K
   (try (conv => arg 6; simp only [Act.put, gL]))
   replace HB := Lib.hid (HB.out.set (p := ⟨bH12, 0, none⟩) (.slice QA Qn Qc) (by simp <;> omega))
   replace HO0 := Lib.hid (HO0.out.other (p := ⟨bH12, 0, none⟩) (.slice QA Qn Qc) (by simp <;> omega))
   replace H12 := Lib.hid (H12.out.set 0 (.slice QA Qn Qc))
   replace H11 := Lib.hid (H11.out.other (p := ⟨bH12, 0, none⟩) (.slice QA Qn Qc) (by simp <;> omega))
   replace R1 := Lib.hid (R1.out.set (x := .slice QA Qn Qc) q0 rfl)
   replace R2 := Lib.hid (R2.out.set (x := .slice QA Qn Qc) q0 rfl)
   replace hbw := nB4 hbw (show w.heap.size ≤ (⟨bH12, 0, none⟩ : Addr).block by simp <;> omega) (.slice QA Qn Qc)
   clear q0 f0
   replace H12 : Hid (Own _ _ _ [.slice QA Qn Qc]) := H12
   generalize (W10.setCell ⟨bH12, 0, none⟩ (.slice QA Qn Qc)) = W11 at HB HO0 H12 H11 R1 R2 hbw ⊢
   refine hr_done ?_
   go_wp2
   go_meet
   exact ⟨bH12, bH11, PA, Pc, Pn, QA, Qc, Qn, rfl, rfl, hbw, HB.out, HO0.out, R1.out, R2.out, H11.out, H12.out, by omega, by omega, by omega⟩
 obtain ⟨bH12, bH11, PA, Pc, Pn, QA, Qc, Qn, rfl, rfl, hbw, h_HB, h_HO0, h_R1, h_R2, h_H11, h_H12, z_H11_HO0, z_H12_HO0, z_H12_H11⟩ := hcut
 try clear HB HO0 R1 R2 H11 H12
 have HB := Lib.hid h_HB
 clear h_HB
 have HO0 := Lib.hid h_HO0
 clear h_HO0
 have R1 := Lib.hid h_R1
 clear h_R1
 have R2 := Lib.hid h_R2
 clear h_R2
 have H11 := Lib.hid h_H11
 clear h_H11
 have H12 := Lib.hid h_H12
 clear h_H12
 replace HB := Lib.hid (Cells.cons (H11.out.cell 0 _ rfl) HB.out)
 replace HB := Lib.hid (Cells.cons (H12.out.cell 0 _ rfl) HB.out)
 go_wp2_with fail
 go_upto_region 9 with (fail)
 go_cut [13, 14] (fun p13 p14 WC => ∃ bH14 : Nat, ∃ bH13 : Nat, ∃ GA : Option Addr, ∃ Gc : Nat, ∃ Gn : Nat, ∃ HA : Option Addr, ∃ Hc : Nat, ∃ Hn : Nat, p13 = .pointer (some ⟨bH13, 0, none⟩) ∧ p14 = .pointer (some ⟨bH14, 0, none⟩) ∧ Below w.heap.size w WC ∧ Cells [(bH12, 0, .slice QA Qn Qc), (bH11, 0, .slice PA Pn Pc), (w.heap.size, 0, .bool s1), (w.heap.size, 1, .slice A1 n1 c1), (w.heap.size, 2, .slice B1 m1 k1), (w.heap.size + 1, 0, .bool s2), (w.heap.size + 1, 1, .slice A2 n2 c2), (w.heap.size + 1, 2, .slice B2 m2 k2)] WC ∧ Own WC (w.heap.size + 1 + 1) 32 [.bool false, .slice none 0 0, .slice none 0 0] ∧ rNat WC (.agg #[.slice PA Pn Pc]) (a.den) ∧ rNat WC (.agg #[.slice QA Qn Qc]) (b.den) ∧ rNat WC (.agg #[.slice GA Gn Gc]) (g) ∧ rNat WC (.agg #[.slice HA Hn Hc]) (h) ∧ Own WC (bH13) 28 [.slice GA Gn Gc] ∧ Own WC (bH14) 28 [.slice HA Hn Hc] ∧ w.heap.size + 1 + 1 < bH13 ∧ bH12 < bH13 ∧ bH11 < bH13 ∧ w.heap.size + 1 + 1 < bH14 ∧ bH13 ≠ bH14 ∧ bH12 < bH14 ∧ bH11 < bH14)
 case first =>
  replace HB := Lib.hid (HB.out.drew)
  replace HO0 := Lib.hid (HO0.out.drew)
  replace R1 := Lib.hid (R1.out.drew)
  replace R2 := Lib.hid (R2.out.drew)
  replace hbw := Below.drew hbw
  refine wp_hoistR (.yes 0 (.yes 1 (.yes 2 (.yes 5 (.yes 6 (.yes 7 (.act 3 (.act 4 (.act 8 (.act 9 (.act 10 (.act 11 (.act 12 (.act 13 (.done) (.stop)) (.stop)) (.stop)) (.act 11 (.act 10 (.act 12 (.act 13 (.done) (.stop)) (.stop)) (.stop)) (.stop))) (.act 10 (.act 9 (.act 11 (.act 12 (.act 13 (.done) (.stop)) (.stop)) (.stop)) (.act 11 (.act 9 (.act 12 (.act 13 (.done) (.stop)) (.stop)) (.stop)) (.stop))) (.act 11 (.act 9 (.act 10 (.act 12 (.act 13 (.done) (.stop)) (.stop)) (.stop)) (.act 10 (.act 9 (.act 12 (.act 13 (.done) (.stop)) (.stop)) (.stop)) (.stop))) (.stop)))) (.act 10 (.act 8 (.act 9 (.act 11 (.act 12 (.act 13 (.done) (.stop)) (.stop)) (.stop)) (.act 11 (.act 9 (.act 12 (.act 13 (.done) (.stop)) (.stop)) (.stop)) (.stop))) (.act 11 (.act 8 (.act 9 (.act 12 (.act 13 (.done) (.stop)) (.stop)) (.stop)) (.stop)) (.stop))) (.act 11 (.act 8 (.act 9 (.act 10 (.act 12 (.act 13 (.done) (.stop)) (.stop)) (.stop)) (.act 10 (.act 9 (.act 12 (.act 13 (.done) (.stop)) (.stop)) (.stop)) (.stop))) (.act 10 (.act 8 (.act 9 (.act 12 (.act 13 (.done) (.stop)) (.stop)) (.stop)) (.stop)) (.stop))) (.stop)))) (.act 10 (.act 4 (.act 8 (.act 9 (.act 11 (.act 12 (.act 13 (.done) (.stop)) (.stop)) (.stop)) (.act 11 (.act 9 (.act 12 (.act 13 (.done) (.stop)) (.stop)) (.stop)) (.stop))) (.act 11 (.act 8 (.act 9 (.act 12 (.act 13 (.done) (.stop)) (.stop)) (.stop)) (.stop)) (.stop))) (.act 11 (.act 4 (.act 8 (.act 9 (.act 12 (.act 13 (.done) (.stop)) (.stop)) (.stop)) (.stop)) (.stop)) (.stop))) (.act 11 (.act 4 (.act 8 (.act 9 (.act 10 (.act 12 (.act 13 (.done) (.stop)) (.stop)) (.stop)) (.act 10 (.act 9 (.act 12 (.act 13 (.done) (.stop)) (.stop)) (.stop)) (.stop))) (.act 10 (.act 8 (.act 9 (.act 12 (.act 13 (.done) (.stop)) (.stop)) (.stop)) (.stop)) (.stop))) (.act 10 (.act 4 (.act 8 (.act 9 (.act 12 (.act 13 (.done) (.stop)) (.stop)) (.stop)) (.stop)) (.stop)) (.stop))) (.stop)))) (.act 10 (.act 3 (.act 4 (.act 8 (.act 9 (.act 11 (.act 12 (.act 13 (.done) (.stop)) (.stop)) (.stop)) (.act 11 (.act 9 (.act 12 (.act 13 (.done) (.stop)) (.stop)) (.stop)) (.stop))) (.act 11 (.act 8 (.act 9 (.act 12 (.act 13 (.done) (.stop)) (.stop)) (.stop)) (.stop)) (.stop))) (.act 11 (.act 4 (.act 8 (.act 9 (.act 12 (.act 13 (.done) (.stop)) (.stop)) (.stop)) (.stop)) (.stop)) (.stop))) (.act 11 (.act 3 (.act 4 (.act 8 (.act 9 (.act 12 (.act 13 (.done) (.stop)) (.stop)) (.stop)) (.stop)) (.stop)) (.stop)) (.stop))) (.act 11 (.act 3 (.act 4 (.act 8 (.act 9 (.act 10 (.act 12 (.act 13 (.done) (.stop)) (.stop)) (.stop)) (.act 10 (.act 9 (.act 12 (.act 13 (.done) (.stop)) (.stop)) (.stop)) (.stop))) (.act 10 (.act 8 (.act 9 (.act 12 (.act 13 (.done) (.stop)) (.stop)) (.stop)) (.stop)) (.stop))) (.act 10 (.act 4 (.act 8 (.act 9 (.act 12 (.act 13 (.done) (.stop)) (.stop)) (.stop)) (.stop)) (.stop)) (.stop))) (.act 10 (.act 3 (.act 4 (.act 8 (.act 9 (.act 12 (.act 13 (.done) (.stop)) (.stop)) (.stop)) (.stop)) (.stop)) (.stop)) (.stop))) (.stop)))))))))) (Cells [(bH12, 0, .slice QA Qn Qc), (bH11, 0, .slice PA Pn Pc), (w.heap.size, 0, .bool s1), (w.heap.size, 1, .slice A1 n1 c1), (w.heap.size, 2, .slice B1 m1 k1), (w.heap.size + 1, 0, .bool s2), (w.heap.size + 1, 1, .slice A2 n2 c2), (w.heap.size + 1, 2, .slice B2 m2 k2)]) (by kernel_rfl) (by kernel_rfl) ?_ ?_
  · exact HB.out
  generalize wc.drew = W12 at HB HO0 R1 R2 hbw ⊢
  refine hr_yes (v := ?_) rfl (by kernel_rfl) (fun W hW => ?_) ?_; rotate_left; (go_simp; try with_reducible rfl)
  (try (conv => arg 6; simp only [Act.put, gL]))
  refine hr_yes (v := ?_) rfl (by kernel_rfl) (fun W hW => ?_) ?_; rotate_left; (obtain ⟨y0, y1, y2, y3, y4, y5, y6, y7, _⟩ := hW; go_simp; try with_reducible rfl)
  (try (conv => arg 6; simp only [Act.put, gL]))
  refine hr_yes (v := ?_) rfl (by kernel_rfl) (fun W hW => ?_) ?_; rotate_left; (obtain ⟨y0, y1, y2, y3, y4, y5, y6, y7, _⟩ := hW; go_simp; try with_reducible rfl)
  (try (conv => arg 6; simp only [Act.put, gL]))
  refine hr_yes (v := ?_) rfl (by kernel_rfl) (fun W hW => ?_) ?_; rotate_left; (go_simp; try with_reducible rfl)
  (try (conv => arg 6; simp only [Act.put, gL]))
  refine hr_yes (v := ?_) rfl (by kernel_rfl) (fun W hW => ?_) ?_; rotate_left; (obtain ⟨y0, y1, y2, y3, y4, y5, y6, y7, _⟩ := hW; go_simp; try with_reducible rfl)
  (try (conv => arg 6; simp only [Act.put, gL]))
  refine hr_yes (v := ?_) rfl (by kernel_rfl) (fun W hW => ?_) ?_; rotate_left; (obtain ⟨y0, y1, y2, y3, y4, y5, y6, y7, _⟩ := hW; go_simp; try with_reducible rfl)
  (try (conv => arg 6; simp only [Act.put, gL]))
  refine hr_eff rfl (by kernel_rfl) (fun K hK => ?_) ?_
  focus
   refine wp_call (HWB.out _ _ R2.out) (by kernel_rfl) ?_
   rintro v1 W13 hb1 hr1
   obtain ⟨Vs, VA, Vc, Vn, rfl, hr1⟩ := hr1.shape
   refine hK.out _ _ ?_ ?_
   · exact HB.out.ext hb1
   clear hK K
   (try (conv => arg 6; simp only [Act.put, gL]))
   replace HB := Lib.hid (HB.out.ext hb1)
   replace HO0 := Lib.hid (HO0.out.ext hb1)
   replace R1 := Lib.hid (R1.out.ext hb1)
   replace R2 := Lib.hid (R2.out.ext hb1)
   replace hbw := nT hbw hb1
   have R3 := Lib.hid hr1
   clear hr1
   clear hb1
   refine hr_eff rfl (by kernel_rfl) (fun K hK => ?_) ?_
   focus
    refine wp_call (HGG.out _ _ _ (H1.out.ext hbw).num R3.out) (by kernel_rfl) ?_
    rintro v1 W14 hb1 hr1
    obtain ⟨GA, Gc, Gn, rfl, hr1⟩ := hr1.shape
    refine hK.out _ _ ?_ ?_
    · exact HB.out.ext hb1
    clear hK K
    (try (conv => arg 6; simp only [Act.put, gL]))
    replace HB := Lib.hid (HB.out.ext hb1)
    replace HO0 := Lib.hid (HO0.out.ext hb1)
    replace R1 := Lib.hid (R1.out.ext hb1)
    replace R2 := Lib.hid (R2.out.ext hb1)
    replace R3 := Lib.hid (R3.out.ext hb1)
    replace hbw := nT hbw hb1
    have R4 := Lib.hid hr1
    clear hr1
    clear hb1
    refine hr_eff rfl (by kernel_rfl) (fun K hK => ?_) ?_
    focus
     refine wp_call (HWA.out _ _ R1.out) (by kernel_rfl) ?_
     rintro v1 W15 hb1 hr1
     obtain ⟨Us, UA, Uc, Un, rfl, hr1⟩ := hr1.shape
     refine hK.out _ _ ?_ ?_
     · exact HB.out.ext hb1
     clear hK K
     (try (conv => arg 6; simp only [Act.put, gL]))
     replace HB := Lib.hid (HB.out.ext hb1)
     replace HO0 := Lib.hid (HO0.out.ext hb1)
     replace R1 := Lib.hid (R1.out.ext hb1)
     replace R2 := Lib.hid (R2.out.ext hb1)
     replace R3 := Lib.hid (R3.out.ext hb1)
     replace R4 := Lib.hid (R4.out.ext hb1)
     replace hbw := nT hbw hb1
     have R5 := Lib.hid hr1
     clear hr1
     clear hb1
     refine hr_eff rfl (by kernel_rfl) (fun K hK => ?_) ?_
     focus
      refine wp_call (HGH.out _ _ _ (H2.out.ext hbw).num R5.out) (by kernel_rfl) ?_
      rintro v1 W16 hb1 hr1
      obtain ⟨HA, Hc, Hn, rfl, hr1⟩ := hr1.shape
      refine hK.out _ _ ?_ ?_
      · exact HB.out.ext hb1
      clear hK K
      (try (conv => arg 6; simp only [Act.put, gL]))
      replace HB := Lib.hid (HB.out.ext hb1)
      replace HO0 := Lib.hid (HO0.out.ext hb1)
      replace R1 := Lib.hid (R1.out.ext hb1)
      replace R2 := Lib.hid (R2.out.ext hb1)
      replace R3 := Lib.hid (R3.out.ext hb1)
      replace R4 := Lib.hid (R4.out.ext hb1)
      replace R5 := Lib.hid (R5.out.ext hb1)
      replace hbw := nT hbw hb1
      have R6 := Lib.hid hr1
      clear hr1
      clear hb1
      refine hr_eff rfl (by kernel_rfl) (fun K hK => ?_) ?_
      focus
       go_simp
       refine hK.out _ _ ?_ ?_
       · exact HB.out.alloc _
       clear hK K
       (try (conv => arg 6; simp only [Act.put, gL]))
       have z_H13 := hbw.size
       have z_H13_HO0 := HO0.out.lt
       have z_H13_H12 := cell_lt HB.out.1
       have z_H13_H11 := cell_lt HB.out.2.1
       replace HB := Lib.hid (HB.out.alloc (.cells #[.slice none 0 0] 28))
       replace HO0 := Lib.hid (HO0.out.alloc (.cells #[.slice none 0 0] 28))
       replace R1 := Lib.hid (R1.out.alloc (.cells #[.slice none 0 0] 28))
       replace R2 := Lib.hid (R2.out.alloc (.cells #[.slice none 0 0] 28))
       replace R3 := Lib.hid (R3.out.alloc (.cells #[.slice none 0 0] 28))
       replace R4 := Lib.hid (R4.out.alloc (.cells #[.slice none 0 0] 28))
       replace R5 := Lib.hid (R5.out.alloc (.cells #[.slice none 0 0] 28))
       replace R6 := Lib.hid (R6.out.alloc (.cells #[.slice none 0 0] 28))
       replace hbw := nB3 hbw hbw.size (.cells #[.slice none 0 0] 28)
       have H13 := Lib.hid (Own.new' W16 28 [.slice none 0 0] W16.heap.size rfl)
       obtain ⟨bH13, e_H13⟩ : ∃ b, W16.heap.size = b := ⟨_, rfl⟩
       simp only [e_H13] at H13 z_H13 z_H13_HO0 z_H13_H12 z_H13_H11 ⊢
       generalize (W16.alloc (.cells #[.slice none 0 0] 28)) = W17 at HB HO0 R1 R2 R3 R4 R5 R6 H13 hbw ⊢
       refine hr_one rfl (by kernel_rfl) (fun K hK => ?_)
       go_simp
       refine hK.out _ _ ?_ ?_
       · exact HB.out.alloc _
       clear hK K
       (try (conv => arg 6; simp only [Act.put, gL]))
       have z_H14 := hbw.size
       have z_H14_HO0 := HO0.out.lt
       have z_H14_H13 := H13.out.lt
       have z_H14_H12 := cell_lt HB.out.1
       have z_H14_H11 := cell_lt HB.out.2.1
       replace HB := Lib.hid (HB.out.alloc (.cells #[.slice none 0 0] 28))
       replace HO0 := Lib.hid (HO0.out.alloc (.cells #[.slice none 0 0] 28))
       replace R1 := Lib.hid (R1.out.alloc (.cells #[.slice none 0 0] 28))
       replace R2 := Lib.hid (R2.out.alloc (.cells #[.slice none 0 0] 28))
       replace R3 := Lib.hid (R3.out.alloc (.cells #[.slice none 0 0] 28))
       replace R4 := Lib.hid (R4.out.alloc (.cells #[.slice none 0 0] 28))
       replace R5 := Lib.hid (R5.out.alloc (.cells #[.slice none 0 0] 28))
       replace R6 := Lib.hid (R6.out.alloc (.cells #[.slice none 0 0] 28))
       replace H13 := Lib.hid (H13.out.alloc (.cells #[.slice none 0 0] 28))
       replace hbw := nB3 hbw hbw.size (.cells #[.slice none 0 0] 28)
       have H14 := Lib.hid (Own.new' W17 28 [.slice none 0 0] W17.heap.size rfl)
       obtain ⟨bH14, e_H14⟩ : ∃ b, W17.heap.size = b := ⟨_, rfl⟩
       simp only [e_H14] at H14 z_H14 z_H14_HO0 z_H14_H13 z_H14_H12 z_H14_H11 ⊢
       generalize (W17.alloc (.cells #[.slice none 0 0] 28)) = W18 at HB HO0 R1 R2 R3 R4 R5 R6 H13 H14 hbw ⊢
      rotate_left 1
      refine hr_eff rfl (by kernel_rfl) (fun K hK => ?_) ?_
      focus
       go_simp
       refine hK.out _ _ ?_ ?_
       · exact HB.out.alloc _
       clear hK K
       (try (conv => arg 6; simp only [Act.put, gL]))
       have z_H14 := hbw.size
       have z_H14_HO0 := HO0.out.lt
       have z_H14_H12 := cell_lt HB.out.1
       have z_H14_H11 := cell_lt HB.out.2.1
       replace HB := Lib.hid (HB.out.alloc (.cells #[.slice none 0 0] 28))
       replace HO0 := Lib.hid (HO0.out.alloc (.cells #[.slice none 0 0] 28))
       replace R1 := Lib.hid (R1.out.alloc (.cells #[.slice none 0 0] 28))
       replace R2 := Lib.hid (R2.out.alloc (.cells #[.slice none 0 0] 28))
       replace R3 := Lib.hid (R3.out.alloc (.cells #[.slice none 0 0] 28))
       replace R4 := Lib.hid (R4.out.alloc (.cells #[.slice none 0 0] 28))
       replace R5 := Lib.hid (R5.out.alloc (.cells #[.slice none 0 0] 28))
       replace R6 := Lib.hid (R6.out.alloc (.cells #[.slice none 0 0] 28))
       replace hbw := nB3 hbw hbw.size (.cells #[.slice none 0 0] 28)
       have H14 := Lib.hid (Own.new' W16 28 [.slice none 0 0] W16.heap.size rfl)
       obtain ⟨bH14, e_H14⟩ : ∃ b, W16.heap.size = b := ⟨_, rfl⟩
       simp only [e_H14] at H14 z_H14 z_H14_HO0 z_H14_H12 z_H14_H11 ⊢
       generalize (W16.alloc (.cells #[.slice none 0 0] 28)) = W17 at HB HO0 R1 R2 R3 R4 R5 R6 H14 hbw ⊢
       refine hr_one rfl (by kernel_rfl) (fun K hK => ?_)
       go_simp
       refine hK.out _ _ ?_ ?_
       · exact HB.out.alloc _
       clear hK K
       (try (conv => arg 6; simp only [Act.put, gL]))
       have z_H13 := hbw.size
       have z_H13_HO0 := HO0.out.lt
       have z_H13_H14 := H14.out.lt
       have z_H13_H12 := cell_lt HB.out.1
       have z_H13_H11 := cell_lt HB.out.2.1
       replace HB := Lib.hid (HB.out.alloc (.cells #[.slice none 0 0] 28))
       replace HO0 := Lib.hid (HO0.out.alloc (.cells #[.slice none 0 0] 28))
       replace R1 := Lib.hid (R1.out.alloc (.cells #[.slice none 0 0] 28))
       replace R2 := Lib.hid (R2.out.alloc (.cells #[.slice none 0 0] 28))
       replace R3 := Lib.hid (R3.out.alloc (.cells #[.slice none 0 0] 28))
       replace R4 := Lib.hid (R4.out.alloc (.cells #[.slice none 0 0] 28))
       replace R5 := Lib.hid (R5.out.alloc (.cells #[.slice none 0 0] 28))
       replace R6 := Lib.hid (R6.out.alloc (.cells #[.slice none 0 0] 28))
       replace H14 := Lib.hid (H14.out.alloc (.cells #[.slice none 0 0] 28))
       replace hbw := nB3 hbw hbw.size (.cells #[.slice none 0 0] 28)
       have H13 := Lib.hid (Own.new' W17 28 [.slice none 0 0] W17.heap.size rfl)
       obtain ⟨bH13, e_H13⟩ : ∃ b, W17.heap.size = b := ⟨_, rfl⟩
       simp only [e_H13] at H13 z_H13 z_H13_HO0 z_H13_H14 z_H13_H12 z_H13_H11 ⊢
       generalize (W17.alloc (.cells #[.slice none 0 0] 28)) = W18 at HB HO0 R1 R2 R3 R4 R5 R6 H14 H13 hbw ⊢
      rotate_left 1
      exact trivial
     rotate_left 2
     refine hr_eff rfl (by kernel_rfl) (fun K hK => ?_) ?_
     focus
      go_simp
      refine hK.out _ _ ?_ ?_
      · exact HB.out.alloc _
      clear hK K
      (try (conv => arg 6; simp only [Act.put, gL]))
      have z_H13 := hbw.size
      have z_H13_HO0 := HO0.out.lt
      have z_H13_H12 := cell_lt HB.out.1
      have z_H13_H11 := cell_lt HB.out.2.1
      replace HB := Lib.hid (HB.out.alloc (.cells #[.slice none 0 0] 28))
      replace HO0 := Lib.hid (HO0.out.alloc (.cells #[.slice none 0 0] 28))
      replace R1 := Lib.hid (R1.out.alloc (.cells #[.slice none 0 0] 28))
      replace R2 := Lib.hid (R2.out.alloc (.cells #[.slice none 0 0] 28))
      replace R3 := Lib.hid (R3.out.alloc (.cells #[.slice none 0 0] 28))
      replace R4 := Lib.hid (R4.out.alloc (.cells #[.slice none 0 0] 28))
      replace R5 := Lib.hid (R5.out.alloc (.cells #[.slice none 0 0] 28))
      replace hbw := nB3 hbw hbw.size (.cells #[.slice none 0 0] 28)
      have H13 := Lib.hid (Own.new' W15 28 [.slice none 0 0] W15.heap.size rfl)
      obtain ⟨bH13, e_H13⟩ : ∃ b, W15.heap.size = b := ⟨_, rfl⟩
      simp only [e_H13] at H13 z_H13 z_H13_HO0 z_H13_H12 z_H13_H11 ⊢
      generalize (W15.alloc (.cells #[.slice none 0 0] 28)) = W16 at HB HO0 R1 R2 R3 R4 R5 H13 hbw ⊢
      refine hr_eff rfl (by kernel_rfl) (fun K hK => ?_) ?_
      focus
       refine wp_call (HGH.out _ _ _ (H2.out.ext hbw).num R5.out) (by kernel_rfl) ?_
       rintro v1 W17 hb1 hr1
       obtain ⟨HA, Hc, Hn, rfl, hr1⟩ := hr1.shape
       refine hK.out _ _ ?_ ?_
       · exact HB.out.ext hb1
       clear hK K
       (try (conv => arg 6; simp only [Act.put, gL]))
       replace HB := Lib.hid (HB.out.ext hb1)
       replace HO0 := Lib.hid (HO0.out.ext hb1)
       replace R1 := Lib.hid (R1.out.ext hb1)
       replace R2 := Lib.hid (R2.out.ext hb1)
       replace R3 := Lib.hid (R3.out.ext hb1)
       replace R4 := Lib.hid (R4.out.ext hb1)
       replace R5 := Lib.hid (R5.out.ext hb1)
       replace H13 := Lib.hid (H13.out.ext hb1)
       replace hbw := nT hbw hb1
       have R6 := Lib.hid hr1
       clear hr1
       clear hb1
       refine hr_one rfl (by kernel_rfl) (fun K hK => ?_)
       go_simp
       refine hK.out _ _ ?_ ?_
       · exact HB.out.alloc _
       clear hK K
       (try (conv => arg 6; simp only [Act.put, gL]))
       have z_H14 := hbw.size
       have z_H14_HO0 := HO0.out.lt
       have z_H14_H13 := H13.out.lt
       have z_H14_H12 := cell_lt HB.out.1
       have z_H14_H11 := cell_lt HB.out.2.1
       replace HB := Lib.hid (HB.out.alloc (.cells #[.slice none 0 0] 28))
       replace HO0 := Lib.hid (HO0.out.alloc (.cells #[.slice none 0 0] 28))
       replace R1 := Lib.hid (R1.out.alloc (.cells #[.slice none 0 0] 28))
       replace R2 := Lib.hid (R2.out.alloc (.cells #[.slice none 0 0] 28))
       replace R3 := Lib.hid (R3.out.alloc (.cells #[.slice none 0 0] 28))
       replace R4 := Lib.hid (R4.out.alloc (.cells #[.slice none 0 0] 28))
       replace R5 := Lib.hid (R5.out.alloc (.cells #[.slice none 0 0] 28))
       replace H13 := Lib.hid (H13.out.alloc (.cells #[.slice none 0 0] 28))
       replace R6 := Lib.hid (R6.out.alloc (.cells #[.slice none 0 0] 28))
       replace hbw := nB3 hbw hbw.size (.cells #[.slice none 0 0] 28)
       have H14 := Lib.hid (Own.new' W17 28 [.slice none 0 0] W17.heap.size rfl)
       obtain ⟨bH14, e_H14⟩ : ∃ b, W17.heap.size = b := ⟨_, rfl⟩
       simp only [e_H14] at H14 z_H14 z_H14_HO0 z_H14_H13 z_H14_H12 z_H14_H11 ⊢
       generalize (W17.alloc (.cells #[.slice none 0 0] 28)) = W18 at HB HO0 R1 R2 R3 R4 R5 H13 R6 H14 hbw ⊢
      rotate_left 1
      refine hr_eff rfl (by kernel_rfl) (fun K hK => ?_) ?_
      focus
       go_simp
       refine hK.out _ _ ?_ ?_
       · exact HB.out.alloc _
       clear hK K
       (try (conv => arg 6; simp only [Act.put, gL]))
       have z_H14 := hbw.size
       have z_H14_HO0 := HO0.out.lt
       have z_H14_H13 := H13.out.lt
       have z_H14_H12 := cell_lt HB.out.1
       have z_H14_H11 := cell_lt HB.out.2.1
       replace HB := Lib.hid (HB.out.alloc (.cells #[.slice none 0 0] 28))
       replace HO0 := Lib.hid (HO0.out.alloc (.cells #[.slice none 0 0] 28))
       replace R1 := Lib.hid (R1.out.alloc (.cells #[.slice none 0 0] 28))
       replace R2 := Lib.hid (R2.out.alloc (.cells #[.slice none 0 0] 28))
       replace R3 := Lib.hid (R3.out.alloc (.cells #[.slice none 0 0] 28))
       replace R4 := Lib.hid (R4.out.alloc (.cells #[.slice none 0 0] 28))
       replace R5 := Lib.hid (R5.out.alloc (.cells #[.slice none 0 0] 28))
       replace H13 := Lib.hid (H13.out.alloc (.cells #[.slice none 0 0] 28))
       replace hbw := nB3 hbw hbw.size (.cells #[.slice none 0 0] 28)
       have H14 := Lib.hid (Own.new' W16 28 [.slice none 0 0] W16.heap.size rfl)
       obtain ⟨bH14, e_H14⟩ : ∃ b, W16.heap.size = b := ⟨_, rfl⟩
       simp only [e_H14] at H14 z_H14 z_H14_HO0 z_H14_H13 z_H14_H12 z_H14_H11 ⊢
       generalize (W16.alloc (.cells #[.slice none 0 0] 28)) = W17 at HB HO0 R1 R2 R3 R4 R5 H13 H14 hbw ⊢
       refine hr_one rfl (by kernel_rfl) (fun K hK => ?_)
       refine wp_call (HGH.out _ _ _ (H2.out.ext hbw).num R5.out) (by kernel_rfl) ?_
       rintro v1 W18 hb1 hr1
       obtain ⟨HA, Hc, Hn, rfl, hr1⟩ := hr1.shape
       refine hK.out _ _ ?_ ?_
       · exact HB.out.ext hb1
       clear hK K
       (try (conv => arg 6; simp only [Act.put, gL]))
       replace HB := Lib.hid (HB.out.ext hb1)
       replace HO0 := Lib.hid (HO0.out.ext hb1)
       replace R1 := Lib.hid (R1.out.ext hb1)
       replace R2 := Lib.hid (R2.out.ext hb1)
       replace R3 := Lib.hid (R3.out.ext hb1)
       replace R4 := Lib.hid (R4.out.ext hb1)
       replace R5 := Lib.hid (R5.out.ext hb1)
       replace H13 := Lib.hid (H13.out.ext hb1)
       replace H14 := Lib.hid (H14.out.ext hb1)
       replace hbw := nT hbw hb1
       have R6 := Lib.hid hr1
       clear hr1
       clear hb1
      rotate_left 1
      exact trivial
     rotate_left 2
     refine hr_eff rfl (by kernel_rfl) (fun K hK => ?_) ?_
     focus
      go_simp
      refine hK.out _ _ ?_ ?_
      · exact HB.out.alloc _
      clear hK K
      (try (conv => arg 6; simp only [Act.put, gL]))
      have z_H14 := hbw.size
      have z_H14_HO0 := HO0.out.lt
      have z_H14_H12 := cell_lt HB.out.1
      have z_H14_H11 := cell_lt HB.out.2.1
      replace HB := Lib.hid (HB.out.alloc (.cells #[.slice none 0 0] 28))
      replace HO0 := Lib.hid (HO0.out.alloc (.cells #[.slice none 0 0] 28))
      replace R1 := Lib.hid (R1.out.alloc (.cells #[.slice none 0 0] 28))
      replace R2 := Lib.hid (R2.out.alloc (.cells #[.slice none 0 0] 28))
      replace R3 := Lib.hid (R3.out.alloc (.cells #[.slice none 0 0] 28))
      replace R4 := Lib.hid (R4.out.alloc (.cells #[.slice none 0 0] 28))
      replace R5 := Lib.hid (R5.out.alloc (.cells #[.slice none 0 0] 28))
      replace hbw := nB3 hbw hbw.size (.cells #[.slice none 0 0] 28)
      have H14 := Lib.hid (Own.new' W15 28 [.slice none 0 0] W15.heap.size rfl)
      obtain ⟨bH14, e_H14⟩ : ∃ b, W15.heap.size = b := ⟨_, rfl⟩
      simp only [e_H14] at H14 z_H14 z_H14_HO0 z_H14_H12 z_H14_H11 ⊢
      generalize (W15.alloc (.cells #[.slice none 0 0] 28)) = W16 at HB HO0 R1 R2 R3 R4 R5 H14 hbw ⊢
      refine hr_eff rfl (by kernel_rfl) (fun K hK => ?_) ?_
      focus
       refine wp_call (HGH.out _ _ _ (H2.out.ext hbw).num R5.out) (by kernel_rfl) ?_
       rintro v1 W17 hb1 hr1
       obtain ⟨HA, Hc, Hn, rfl, hr1⟩ := hr1.shape
       refine hK.out _ _ ?_ ?_
       · exact HB.out.ext hb1
       clear hK K
       (try (conv => arg 6; simp only [Act.put, gL]))
       replace HB := Lib.hid (HB.out.ext hb1)
       replace HO0 := Lib.hid (HO0.out.ext hb1)
       replace R1 := Lib.hid (R1.out.ext hb1)
       replace R2 := Lib.hid (R2.out.ext hb1)
       replace R3 := Lib.hid (R3.out.ext hb1)
       replace R4 := Lib.hid (R4.out.ext hb1)
       replace R5 := Lib.hid (R5.out.ext hb1)
       replace H14 := Lib.hid (H14.out.ext hb1)
       replace hbw := nT hbw hb1
       have R6 := Lib.hid hr1
       clear hr1
       clear hb1
       refine hr_one rfl (by kernel_rfl) (fun K hK => ?_)
       go_simp
       refine hK.out _ _ ?_ ?_
       · exact HB.out.alloc _
       clear hK K
       (try (conv => arg 6; simp only [Act.put, gL]))
       have z_H13 := hbw.size
       have z_H13_HO0 := HO0.out.lt
       have z_H13_H14 := H14.out.lt
       have z_H13_H12 := cell_lt HB.out.1
       have z_H13_H11 := cell_lt HB.out.2.1
       replace HB := Lib.hid (HB.out.alloc (.cells #[.slice none 0 0] 28))
       replace HO0 := Lib.hid (HO0.out.alloc (.cells #[.slice none 0 0] 28))
       replace R1 := Lib.hid (R1.out.alloc (.cells #[.slice none 0 0] 28))
       replace R2 := Lib.hid (R2.out.alloc (.cells #[.slice none 0 0] 28))
       replace R3 := Lib.hid (R3.out.alloc (.cells #[.slice none 0 0] 28))
       replace R4 := Lib.hid (R4.out.alloc (.cells #[.slice none 0 0] 28))
       replace R5 := Lib.hid (R5.out.alloc (.cells #[.slice none 0 0] 28))
       replace H14 := Lib.hid (H14.out.alloc (.cells #[.slice none 0 0] 28))
       replace R6 := Lib.hid (R6.out.alloc (.cells #[.slice none 0 0] 28))
       replace hbw := nB3 hbw hbw.size (.cells #[.slice none 0 0] 28)
       have H13 := Lib.hid (Own.new' W17 28 [.slice none 0 0] W17.heap.size rfl)
       obtain ⟨bH13, e_H13⟩ : ∃ b, W17.heap.size = b := ⟨_, rfl⟩
       simp only [e_H13] at H13 z_H13 z_H13_HO0 z_H13_H14 z_H13_H12 z_H13_H11 ⊢
       generalize (W17.alloc (.cells #[.slice none 0 0] 28)) = W18 at HB HO0 R1 R2 R3 R4 R5 H14 R6 H13 hbw ⊢
      rotate_left 1
      refine hr_eff rfl (by kernel_rfl) (fun K hK => ?_) ?_
      focus
       go_simp
       refine hK.out _ _ ?_ ?_
       · exact HB.out.alloc _
       clear hK K
       (try (conv => arg 6; simp only [Act.put, gL]))
       have z_H13 := hbw.size
       have z_H13_HO0 := HO0.out.lt
       have z_H13_H14 := H14.out.lt
       have z_H13_H12 := cell_lt HB.out.1
       have z_H13_H11 := cell_lt HB.out.2.1
       replace HB := Lib.hid (HB.out.alloc (.cells #[.slice none 0 0] 28))
       replace HO0 := Lib.hid (HO0.out.alloc (.cells #[.slice none 0 0] 28))
       replace R1 := Lib.hid (R1.out.alloc (.cells #[.slice none 0 0] 28))
       replace R2 := Lib.hid (R2.out.alloc (.cells #[.slice none 0 0] 28))
       replace R3 := Lib.hid (R3.out.alloc (.cells #[.slice none 0 0] 28))
       replace R4 := Lib.hid (R4.out.alloc (.cells #[.slice none 0 0] 28))
       replace R5 := Lib.hid (R5.out.alloc (.cells #[.slice none 0 0] 28))
       replace H14 := Lib.hid (H14.out.alloc (.cells #[.slice none 0 0] 28))
       replace hbw := nB3 hbw hbw.size (.cells #[.slice none 0 0] 28)
       have H13 := Lib.hid (Own.new' W16 28 [.slice none 0 0] W16.heap.size rfl)
       obtain ⟨bH13, e_H13⟩ : ∃ b, W16.heap.size = b := ⟨_, rfl⟩
       simp only [e_H13] at H13 z_H13 z_H13_HO0 z_H13_H14 z_H13_H12 z_H13_H11 ⊢
       generalize (W16.alloc (.cells #[.slice none 0 0] 28)) = W17 at HB HO0 R1 R2 R3 R4 R5 H14 H13 hbw ⊢
       refine hr_one rfl (by kernel_rfl) (fun K hK => ?_)
       refine wp_call (HGH.out _ _ _ (H2.out.ext hbw).num R5.out) (by kernel_rfl) ?_
       rintro v1 W18 hb1 hr1
       obtain ⟨HA, Hc, Hn, rfl, hr1⟩ := hr1.shape
       refine hK.out _ _ ?_ ?_
       · exact HB.out.ext hb1
       clear hK K
       (try (conv => arg 6; simp only [Act.put, gL]))
       replace HB := Lib.hid (HB.out.ext hb1)
       replace HO0 := Lib.hid (HO0.out.ext hb1)
       replace R1 := Lib.hid (R1.out.ext hb1)
       replace R2 := Lib.hid (R2.out.ext hb1)
       replace R3 := Lib.hid (R3.out.ext hb1)
       replace R4 := Lib.hid (R4.out.ext hb1)
       replace R5 := Lib.hid (R5.out.ext hb1)
       replace H14 := Lib.hid (H14.out.ext hb1)
       replace H13 := Lib.hid (H13.out.ext hb1)
       replace hbw := nT hbw hb1
       have R6 := Lib.hid hr1
       clear hr1
       clear hb1
      rotate_left 1
      exact trivial
     rotate_left 2
     exact trivial
    rotate_left 6
    refine hr_eff rfl (by kernel_rfl) (fun K hK => ?_) ?_
    focus
     go_simp
     refine hK.out _ _ ?_ ?_
     · exact HB.out.alloc _
     clear hK K
     (try (conv => arg 6; simp only [Act.put, gL]))
     have z_H13 := hbw.size
     have z_H13_HO0 := HO0.out.lt
     have z_H13_H12 := cell_lt HB.out.1
     have z_H13_H11 := cell_lt HB.out.2.1
     replace HB := Lib.hid (HB.out.alloc (.cells #[.slice none 0 0] 28))
     replace HO0 := Lib.hid (HO0.out.alloc (.cells #[.slice none 0 0] 28))
     replace R1 := Lib.hid (R1.out.alloc (.cells #[.slice none 0 0] 28))
     replace R2 := Lib.hid (R2.out.alloc (.cells #[.slice none 0 0] 28))
     replace R3 := Lib.hid (R3.out.alloc (.cells #[.slice none 0 0] 28))
     replace R4 := Lib.hid (R4.out.alloc (.cells #[.slice none 0 0] 28))
     replace hbw := nB3 hbw hbw.size (.cells #[.slice none 0 0] 28)
     have H13 := Lib.hid (Own.new' W14 28 [.slice none 0 0] W14.heap.size rfl)
     obtain ⟨bH13, e_H13⟩ : ∃ b, W14.heap.size = b := ⟨_, rfl⟩
     simp only [e_H13] at H13 z_H13 z_H13_HO0 z_H13_H12 z_H13_H11 ⊢
     generalize (W14.alloc (.cells #[.slice none 0 0] 28)) = W15 at HB HO0 R1 R2 R3 R4 H13 hbw ⊢
     refine hr_eff rfl (by kernel_rfl) (fun K hK => ?_) ?_
     focus
      refine wp_call (HWA.out _ _ R1.out) (by kernel_rfl) ?_
      rintro v1 W16 hb1 hr1
      obtain ⟨Us, UA, Uc, Un, rfl, hr1⟩ := hr1.shape
      refine hK.out _ _ ?_ ?_
      · exact HB.out.ext hb1
      clear hK K
      (try (conv => arg 6; simp only [Act.put, gL]))
      replace HB := Lib.hid (HB.out.ext hb1)
      replace HO0 := Lib.hid (HO0.out.ext hb1)
      replace R1 := Lib.hid (R1.out.ext hb1)
      replace R2 := Lib.hid (R2.out.ext hb1)
      replace R3 := Lib.hid (R3.out.ext hb1)
      replace R4 := Lib.hid (R4.out.ext hb1)
      replace H13 := Lib.hid (H13.out.ext hb1)
      replace hbw := nT hbw hb1
      have R5 := Lib.hid hr1
      clear hr1
      clear hb1
      refine hr_eff rfl (by kernel_rfl) (fun K hK => ?_) ?_
      focus
       refine wp_call (HGH.out _ _ _ (H2.out.ext hbw).num R5.out) (by kernel_rfl) ?_
       rintro v1 W17 hb1 hr1
       obtain ⟨HA, Hc, Hn, rfl, hr1⟩ := hr1.shape
       refine hK.out _ _ ?_ ?_
       · exact HB.out.ext hb1
       clear hK K
       (try (conv => arg 6; simp only [Act.put, gL]))
       replace HB := Lib.hid (HB.out.ext hb1)
       replace HO0 := Lib.hid (HO0.out.ext hb1)
       replace R1 := Lib.hid (R1.out.ext hb1)
       replace R2 := Lib.hid (R2.out.ext hb1)
       replace R3 := Lib.hid (R3.out.ext hb1)
       replace R4 := Lib.hid (R4.out.ext hb1)
       replace H13 := Lib.hid (H13.out.ext hb1)
       replace R5 := Lib.hid (R5.out.ext hb1)
       replace hbw := nT hbw hb1
       have R6 := Lib.hid hr1
       clear hr1
       clear hb1
       refine hr_one rfl (by kernel_rfl) (fun K hK => ?_)
       go_simp
       refine hK.out _ _ ?_ ?_
       · exact HB.out.alloc _
       clear hK K
       (try (conv => arg 6; simp only [Act.put, gL]))
       have z_H14 := hbw.size
       have z_H14_HO0 := HO0.out.lt
       have z_H14_H13 := H13.out.lt
       have z_H14_H12 := cell_lt HB.out.1
       have z_H14_H11 := cell_lt HB.out.2.1
       replace HB := Lib.hid (HB.out.alloc (.cells #[.slice none 0 0] 28))
       replace HO0 := Lib.hid (HO0.out.alloc (.cells #[.slice none 0 0] 28))
       replace R1 := Lib.hid (R1.out.alloc (.cells #[.slice none 0 0] 28))
       replace R2 := Lib.hid (R2.out.alloc (.cells #[.slice none 0 0] 28))
       replace R3 := Lib.hid (R3.out.alloc (.cells #[.slice none 0 0] 28))
       replace R4 := Lib.hid (R4.out.alloc (.cells #[.slice none 0 0] 28))
       replace H13 := Lib.hid (H13.out.alloc (.cells #[.slice none 0 0] 28))
       replace R5 := Lib.hid (R5.out.alloc (.cells #[.slice none 0 0] 28))
       replace R6 := Lib.hid (R6.out.alloc (.cells #[.slice none 0 0] 28))
       replace hbw := nB3 hbw hbw.size (.cells #[.slice none 0 0] 28)
       have H14 := Lib.hid (Own.new' W17 28 [.slice none 0 0] W17.heap.size rfl)
       obtain ⟨bH14, e_H14⟩ : ∃ b, W17.heap.size = b := ⟨_, rfl⟩
       simp only [e_H14] at H14 z_H14 z_H14_HO0 z_H14_H13 z_H14_H12 z_H14_H11 ⊢
       generalize (W17.alloc (.cells #[.slice none 0 0] 28)) = W18 at HB HO0 R1 R2 R3 R4 H13 R5 R6 H14 hbw ⊢
      rotate_left 1
      refine hr_eff rfl (by kernel_rfl) (fun K hK => ?_) ?_
      focus
       go_simp
       refine hK.out _ _ ?_ ?_
       · exact HB.out.alloc _
       clear hK K
       (try (conv => arg 6; simp only [Act.put, gL]))
       have z_H14 := hbw.size
       have z_H14_HO0 := HO0.out.lt
       have z_H14_H13 := H13.out.lt
       have z_H14_H12 := cell_lt HB.out.1
       have z_H14_H11 := cell_lt HB.out.2.1
       replace HB := Lib.hid (HB.out.alloc (.cells #[.slice none 0 0] 28))
       replace HO0 := Lib.hid (HO0.out.alloc (.cells #[.slice none 0 0] 28))
       replace R1 := Lib.hid (R1.out.alloc (.cells #[.slice none 0 0] 28))
       replace R2 := Lib.hid (R2.out.alloc (.cells #[.slice none 0 0] 28))
       replace R3 := Lib.hid (R3.out.alloc (.cells #[.slice none 0 0] 28))
       replace R4 := Lib.hid (R4.out.alloc (.cells #[.slice none 0 0] 28))
       replace H13 := Lib.hid (H13.out.alloc (.cells #[.slice none 0 0] 28))
       replace R5 := Lib.hid (R5.out.alloc (.cells #[.slice none 0 0] 28))
       replace hbw := nB3 hbw hbw.size (.cells #[.slice none 0 0] 28)
       have H14 := Lib.hid (Own.new' W16 28 [.slice none 0 0] W16.heap.size rfl)
       obtain ⟨bH14, e_H14⟩ : ∃ b, W16.heap.size = b := ⟨_, rfl⟩
       simp only [e_H14] at H14 z_H14 z_H14_HO0 z_H14_H13 z_H14_H12 z_H14_H11 ⊢
       generalize (W16.alloc (.cells #[.slice none 0 0] 28)) = W17 at HB HO0 R1 R2 R3 R4 H13 R5 H14 hbw ⊢
       refine hr_one rfl (by kernel_rfl) (fun K hK => ?_)
       refine wp_call (HGH.out _ _ _ (H2.out.ext hbw).num R5.out) (by kernel_rfl) ?_
       rintro v1 W18 hb1 hr1
       obtain ⟨HA, Hc, Hn, rfl, hr1⟩ := hr1.shape
       refine hK.out _ _ ?_ ?_
       · exact HB.out.ext hb1
       clear hK K
       (try (conv => arg 6; simp only [Act.put, gL]))
       replace HB := Lib.hid (HB.out.ext hb1)
       replace HO0 := Lib.hid (HO0.out.ext hb1)
       replace R1 := Lib.hid (R1.out.ext hb1)
       replace R2 := Lib.hid (R2.out.ext hb1)
       replace R3 := Lib.hid (R3.out.ext hb1)
       replace R4 := Lib.hid (R4.out.ext hb1)
       replace H13 := Lib.hid (H13.out.ext hb1)
       replace R5 := Lib.hid (R5.out.ext hb1)
       replace H14 := Lib.hid (H14.out.ext hb1)
       replace hbw := nT hbw hb1
       have R6 := Lib.hid hr1
       clear hr1
       clear hb1
      rotate_left 1
      exact trivial
     rotate_left 2
     refine hr_eff rfl (by kernel_rfl) (fun K hK => ?_) ?_
     focus
      go_simp
      refine hK.out _ _ ?_ ?_
      · exact HB.out.alloc _
      clear hK K
      (try (conv => arg 6; simp only [Act.put, gL]))
      have z_H14 := hbw.size
      have z_H14_HO0 := HO0.out.lt
      have z_H14_H13 := H13.out.lt
      have z_H14_H12 := cell_lt HB.out.1
      have z_H14_H11 := cell_lt HB.out.2.1
      replace HB := Lib.hid (HB.out.alloc (.cells #[.slice none 0 0] 28))
      replace HO0 := Lib.hid (HO0.out.alloc (.cells #[.slice none 0 0] 28))
      replace R1 := Lib.hid (R1.out.alloc (.cells #[.slice none 0 0] 28))
      replace R2 := Lib.hid (R2.out.alloc (.cells #[.slice none 0 0] 28))
      replace R3 := Lib.hid (R3.out.alloc (.cells #[.slice none 0 0] 28))
      replace R4 := Lib.hid (R4.out.alloc (.cells #[.slice none 0 0] 28))
      replace H13 := Lib.hid (H13.out.alloc (.cells #[.slice none 0 0] 28))
      replace hbw := nB3 hbw hbw.size (.cells #[.slice none 0 0] 28)
      have H14 := Lib.hid (Own.new' W15 28 [.slice none 0 0] W15.heap.size rfl)
      obtain ⟨bH14, e_H14⟩ : ∃ b, W15.heap.size = b := ⟨_, rfl⟩
      simp only [e_H14] at H14 z_H14 z_H14_HO0 z_H14_H13 z_H14_H12 z_H14_H11 ⊢
      generalize (W15.alloc (.cells #[.slice none 0 0] 28)) = W16 at HB HO0 R1 R2 R3 R4 H13 H14 hbw ⊢
      refine hr_one rfl (by kernel_rfl) (fun K hK => ?_)
      refine wp_call (HWA.out _ _ R1.out) (by kernel_rfl) ?_
      rintro v1 W17 hb1 hr1
      obtain ⟨Us, UA, Uc, Un, rfl, hr1⟩ := hr1.shape
      refine hK.out _ _ ?_ ?_
      · exact HB.out.ext hb1
      clear hK K
      (try (conv => arg 6; simp only [Act.put, gL]))
      replace HB := Lib.hid (HB.out.ext hb1)
      replace HO0 := Lib.hid (HO0.out.ext hb1)
      replace R1 := Lib.hid (R1.out.ext hb1)
      replace R2 := Lib.hid (R2.out.ext hb1)
      replace R3 := Lib.hid (R3.out.ext hb1)
      replace R4 := Lib.hid (R4.out.ext hb1)
      replace H13 := Lib.hid (H13.out.ext hb1)
      replace H14 := Lib.hid (H14.out.ext hb1)
      replace hbw := nT hbw hb1
      have R5 := Lib.hid hr1
      clear hr1
      clear hb1
      refine hr_one rfl (by kernel_rfl) (fun K hK => ?_)
      refine wp_call (HGH.out _ _ _ (H2.out.ext hbw).num R5.out) (by kernel_rfl) ?_
      rintro v1 W18 hb1 hr1
      obtain ⟨HA, Hc, Hn, rfl, hr1⟩ := hr1.shape
      refine hK.out _ _ ?_ ?_
      · exact HB.out.ext hb1
      clear hK K
      (try (conv => arg 6; simp only [Act.put, gL]))
      replace HB := Lib.hid (HB.out.ext hb1)
      replace HO0 := Lib.hid (HO0.out.ext hb1)
      replace R1 := Lib.hid (R1.out.ext hb1)
      replace R2 := Lib.hid (R2.out.ext hb1)
      replace R3 := Lib.hid (R3.out.ext hb1)
      replace R4 := Lib.hid (R4.out.ext hb1)
      replace H13 := Lib.hid (H13.out.ext hb1)
      replace H14 := Lib.hid (H14.out.ext hb1)
      replace R5 := Lib.hid (R5.out.ext hb1)
      replace hbw := nT hbw hb1
      have R6 := Lib.hid hr1
      clear hr1
      clear hb1
     rotate_left 1
     exact trivial
    rotate_left 3
    refine hr_eff rfl (by kernel_rfl) (fun K hK => ?_) ?_
    focus
     go_simp
     refine hK.out _ _ ?_ ?_
     · exact HB.out.alloc _
     clear hK K
     (try (conv => arg 6; simp only [Act.put, gL]))
     have z_H14 := hbw.size
     have z_H14_HO0 := HO0.out.lt
     have z_H14_H12 := cell_lt HB.out.1
     have z_H14_H11 := cell_lt HB.out.2.1
     replace HB := Lib.hid (HB.out.alloc (.cells #[.slice none 0 0] 28))
     replace HO0 := Lib.hid (HO0.out.alloc (.cells #[.slice none 0 0] 28))
     replace R1 := Lib.hid (R1.out.alloc (.cells #[.slice none 0 0] 28))
     replace R2 := Lib.hid (R2.out.alloc (.cells #[.slice none 0 0] 28))
     replace R3 := Lib.hid (R3.out.alloc (.cells #[.slice none 0 0] 28))
     replace R4 := Lib.hid (R4.out.alloc (.cells #[.slice none 0 0] 28))
     replace hbw := nB3 hbw hbw.size (.cells #[.slice none 0 0] 28)
     have H14 := Lib.hid (Own.new' W14 28 [.slice none 0 0] W14.heap.size rfl)
     obtain ⟨bH14, e_H14⟩ : ∃ b, W14.heap.size = b := ⟨_, rfl⟩
     simp only [e_H14] at H14 z_H14 z_H14_HO0 z_H14_H12 z_H14_H11 ⊢
     generalize (W14.alloc (.cells #[.slice none 0 0] 28)) = W15 at HB HO0 R1 R2 R3 R4 H14 hbw ⊢
     refine hr_eff rfl (by kernel_rfl) (fun K hK => ?_) ?_
     focus
      refine wp_call (HWA.out _ _ R1.out) (by kernel_rfl) ?_
      rintro v1 W16 hb1 hr1
      obtain ⟨Us, UA, Uc, Un, rfl, hr1⟩ := hr1.shape
      refine hK.out _ _ ?_ ?_
      · exact HB.out.ext hb1
      clear hK K
      (try (conv => arg 6; simp only [Act.put, gL]))
      replace HB := Lib.hid (HB.out.ext hb1)
      replace HO0 := Lib.hid (HO0.out.ext hb1)
      replace R1 := Lib.hid (R1.out.ext hb1)
      replace R2 := Lib.hid (R2.out.ext hb1)
      replace R3 := Lib.hid (R3.out.ext hb1)
      replace R4 := Lib.hid (R4.out.ext hb1)
      replace H14 := Lib.hid (H14.out.ext hb1)
      replace hbw := nT hbw hb1
      have R5 := Lib.hid hr1
      clear hr1
      clear hb1
      refine hr_eff rfl (by kernel_rfl) (fun K hK => ?_) ?_
      focus
       refine wp_call (HGH.out _ _ _ (H2.out.ext hbw).num R5.out) (by kernel_rfl) ?_
       rintro v1 W17 hb1 hr1
       obtain ⟨HA, Hc, Hn, rfl, hr1⟩ := hr1.shape
       refine hK.out _ _ ?_ ?_
       · exact HB.out.ext hb1
       clear hK K
       (try (conv => arg 6; simp only [Act.put, gL]))
       replace HB := Lib.hid (HB.out.ext hb1)
       replace HO0 := Lib.hid (HO0.out.ext hb1)
       replace R1 := Lib.hid (R1.out.ext hb1)
       replace R2 := Lib.hid (R2.out.ext hb1)
       replace R3 := Lib.hid (R3.out.ext hb1)
       replace R4 := Lib.hid (R4.out.ext hb1)
       replace H14 := Lib.hid (H14.out.ext hb1)
       replace R5 := Lib.hid (R5.out.ext hb1)
       replace hbw := nT hbw hb1
       have R6 := Lib.hid hr1
       clear hr1
       clear hb1
       refine hr_one rfl (by kernel_rfl) (fun K hK => ?_)
       go_simp
       refine hK.out _ _ ?_ ?_
       · exact HB.out.alloc _
       clear hK K
       (try (conv => arg 6; simp only [Act.put, gL]))
       have z_H13 := hbw.size
       have z_H13_HO0 := HO0.out.lt
       have z_H13_H14 := H14.out.lt
       have z_H13_H12 := cell_lt HB.out.1
       have z_H13_H11 := cell_lt HB.out.2.1
       replace HB := Lib.hid (HB.out.alloc (.cells #[.slice none 0 0] 28))
       replace HO0 := Lib.hid (HO0.out.alloc (.cells #[.slice none 0 0] 28))
       replace R1 := Lib.hid (R1.out.alloc (.cells #[.slice none 0 0] 28))
       replace R2 := Lib.hid (R2.out.alloc (.cells #[.slice none 0 0] 28))
       replace R3 := Lib.hid (R3.out.alloc (.cells #[.slice none 0 0] 28))
       replace R4 := Lib.hid (R4.out.alloc (.cells #[.slice none 0 0] 28))
       replace H14 := Lib.hid (H14.out.alloc (.cells #[.slice none 0 0] 28))
       replace R5 := Lib.hid (R5.out.alloc (.cells #[.slice none 0 0] 28))
       replace R6 := Lib.hid (R6.out.alloc (.cells #[.slice none 0 0] 28))
       replace hbw := nB3 hbw hbw.size (.cells #[.slice none 0 0] 28)
       have H13 := Lib.hid (Own.new' W17 28 [.slice none 0 0] W17.heap.size rfl)
       obtain ⟨bH13, e_H13⟩ : ∃ b, W17.heap.size = b := ⟨_, rfl⟩
       simp only [e_H13] at H13 z_H13 z_H13_HO0 z_H13_H14 z_H13_H12 z_H13_H11 ⊢
       generalize (W17.alloc (.cells #[.slice none 0 0] 28)) = W18 at HB HO0 R1 R2 R3 R4 H14 R5 R6 H13 hbw ⊢
      rotate_left 1
      refine hr_eff rfl (by kernel_rfl) (fun K hK => ?_) ?_
      focus
       go_simp
       refine hK.out _ _ ?_ ?_
       · exact HB.out.alloc _
       clear hK K
       (try (conv => arg 6; simp only [Act.put, gL]))
       have z_H13 := hbw.size
       have z_H13_HO0 := HO0.out.lt
       have z_H13_H14 := H14.out.lt
       have z_H13_H12 := cell_lt HB.out.1
       have z_H13_H11 := cell_lt HB.out.2.1
       replace HB := Lib.hid (HB.out.alloc (.cells #[.slice none 0 0] 28))
       replace HO0 := Lib.hid (HO0.out.alloc (.cells #[.slice none 0 0] 28))
       replace R1 := Lib.hid (R1.out.alloc (.cells #[.slice none 0 0] 28))
       replace R2 := Lib.hid (R2.out.alloc (.cells #[.slice none 0 0] 28))
       replace R3 := Lib.hid (R3.out.alloc (.cells #[.slice none 0 0] 28))
       replace R4 := Lib.hid (R4.out.alloc (.cells #[.slice none 0 0] 28))
       replace H14 := Lib.hid (H14.out.alloc (.cells #[.slice none 0 0] 28))
       replace R5 := Lib.hid (R5.out.alloc (.cells #[.slice none 0 0] 28))
       replace hbw := nB3 hbw hbw.size (.cells #[.slice none 0 0] 28)
       have H13 := Lib.hid (Own.new' W16 28 [.slice none 0 0] W16.heap.size rfl)
       obtain ⟨bH13, e_H13⟩ : ∃ b, W16.heap.size = b := ⟨_, rfl⟩
       simp only [e_H13] at H13 z_H13 z_H13_HO0 z_H13_H14 z_H13_H12 z_H13_H11 ⊢
       generalize (W16.alloc (.cells #[.slice none 0 0] 28)) = W17 at HB HO0 R1 R2 R3 R4 H14 R5 H13 hbw ⊢
       refine hr_one rfl (by kernel_rfl) (fun K hK => ?_)
       refine wp_call (HGH.out _ _ _ (H2.out.ext hbw).num R5.out) (by kernel_rfl) ?_
       rintro v1 W18 hb1 hr1
       obtain ⟨HA, Hc, Hn, rfl, hr1⟩ := hr1.shape
       refine hK.out _ _ ?_ ?_
       · exact HB.out.ext hb1
       clear hK K
       (try (conv => arg 6; simp only [Act.put, gL]))
       replace HB := Lib.hid (HB.out.ext hb1)
       replace HO0 := Lib.hid (HO0.out.ext hb1)
       replace R1 := Lib.hid (R1.out.ext hb1)
       replace R2 := Lib.hid (R2.out.ext hb1)
       replace R3 := Lib.hid (R3.out.ext hb1)
       replace R4 := Lib.hid (R4.out.ext hb1)
       replace H14 := Lib.hid (H14.out.ext hb1)
       replace R5 := Lib.hid (R5.out.ext hb1)
       replace H13 := Lib.hid (H13.out.ext hb1)
       replace hbw := nT hbw hb1
       have R6 := Lib.hid hr1
       clear hr1
       clear hb1
      rotate_left 1
      exact trivial
     rotate_left 2
     refine hr_eff rfl (by kernel_rfl) (fun K hK => ?_) ?_
     focus
      go_simp
      refine hK.out _ _ ?_ ?_
      · exact HB.out.alloc _
      clear hK K
      (try (conv => arg 6; simp only [Act.put, gL]))
      have z_H13 := hbw.size
      have z_H13_HO0 := HO0.out.lt
      have z_H13_H14 := H14.out.lt
      have z_H13_H12 := cell_lt HB.out.1
      have z_H13_H11 := cell_lt HB.out.2.1
      replace HB := Lib.hid (HB.out.alloc (.cells #[.slice none 0 0] 28))
      replace HO0 := Lib.hid (HO0.out.alloc (.cells #[.slice none 0 0] 28))
      replace R1 := Lib.hid (R1.out.alloc (.cells #[.slice none 0 0] 28))
      replace R2 := Lib.hid (R2.out.alloc (.cells #[.slice none 0 0] 28))
      replace R3 := Lib.hid (R3.out.alloc (.cells #[.slice none 0 0] 28))
      replace R4 := Lib.hid (R4.out.alloc (.cells #[.slice none 0 0] 28))
      replace H14 := Lib.hid (H14.out.alloc (.cells #[.slice none 0 0] 28))
      replace hbw := nB3 hbw hbw.size (.cells #[.slice none 0 0] 28)
      have H13 := Lib.hid (Own.new' W15 28 [.slice none 0 0] W15.heap.size rfl)
      obtain ⟨bH13, e_H13⟩ : ∃ b, W15.heap.size = b := ⟨_, rfl⟩
      simp only [e_H13] at H13 z_H13 z_H13_HO0 z_H13_H14 z_H13_H12 z_H13_H11 ⊢
      generalize (W15.alloc (.cells #[.slice none 0 0] 28)) = W16 at HB HO0 R1 R2 R3 R4 H14 H13 hbw ⊢
      refine hr_one rfl (by kernel_rfl) (fun K hK => ?_)
      refine wp_call (HWA.out _ _ R1.out) (by kernel_rfl) ?_
      rintro v1 W17 hb1 hr1
      obtain ⟨Us, UA, Uc, Un, rfl, hr1⟩ := hr1.shape
      refine hK.out _ _ ?_ ?_
      · exact HB.out.ext hb1
      clear hK K
      (try (conv => arg 6; simp only [Act.put, gL]))
      replace HB := Lib.hid (HB.out.ext hb1)
      replace HO0 := Lib.hid (HO0.out.ext hb1)
      replace R1 := Lib.hid (R1.out.ext hb1)
      replace R2 := Lib.hid (R2.out.ext hb1)
      replace R3 := Lib.hid (R3.out.ext hb1)
      replace R4 := Lib.hid (R4.out.ext hb1)
      replace H14 := Lib.hid (H14.out.ext hb1)
      replace H13 := Lib.hid (H13.out.ext hb1)
      replace hbw := nT hbw hb1
      have R5 := Lib.hid hr1
      clear hr1
      clear hb1
      refine hr_one rfl (by kernel_rfl) (fun K hK => ?_)
      refine wp_call (HGH.out _ _ _ (H2.out.ext hbw).num R5.out) (by kernel_rfl) ?_
      rintro v1 W18 hb1 hr1
      obtain ⟨HA, Hc, Hn, rfl, hr1⟩ := hr1.shape
      refine hK.out _ _ ?_ ?_
      · exact HB.out.ext hb1
      clear hK K
      (try (conv => arg 6; simp only [Act.put, gL]))
      replace HB := Lib.hid (HB.out.ext hb1)
      replace HO0 := Lib.hid (HO0.out.ext hb1)
      replace R1 := Lib.hid (R1.out.ext hb1)
      replace R2 := Lib.hid (R2.out.ext hb1)
      replace R3 := Lib.hid (R3.out.ext hb1)
      replace R4 := Lib.hid (R4.out.ext hb1)
      replace H14 := Lib.hid (H14.out.ext hb1)
      replace H13 := Lib.hid (H13.out.ext hb1)
      replace R5 := Lib.hid (R5.out.ext hb1)
      replace hbw := nT hbw hb1
      have R6 := Lib.hid hr1
      clear hr1
      clear hb1
     rotate_left 1
     exact trivial
    rotate_left 3
    exact trivial
   rotate_left 12
   refine hr_eff rfl (by kernel_rfl) (fun K hK => ?_) ?_
   focus
    go_simp
    refine hK.out _ _ ?_ ?_
    · exact HB.out.alloc _
    clear hK K
    (try (conv => arg 6; simp only [Act.put, gL]))
    have z_H13 := hbw.size
    have z_H13_HO0 := HO0.out.lt
    have z_H13_H12 := cell_lt HB.out.1
    have z_H13_H11 := cell_lt HB.out.2.1
    replace HB := Lib.hid (HB.out.alloc (.cells #[.slice none 0 0] 28))
    replace HO0 := Lib.hid (HO0.out.alloc (.cells #[.slice none 0 0] 28))
    replace R1 := Lib.hid (R1.out.alloc (.cells #[.slice none 0 0] 28))
    replace R2 := Lib.hid (R2.out.alloc (.cells #[.slice none 0 0] 28))
    replace R3 := Lib.hid (R3.out.alloc (.cells #[.slice none 0 0] 28))
    replace hbw := nB3 hbw hbw.size (.cells #[.slice none 0 0] 28)
    have H13 := Lib.hid (Own.new' W13 28 [.slice none 0 0] W13.heap.size rfl)
    obtain ⟨bH13, e_H13⟩ : ∃ b, W13.heap.size = b := ⟨_, rfl⟩
    simp only [e_H13] at H13 z_H13 z_H13_HO0 z_H13_H12 z_H13_H11 ⊢
    generalize (W13.alloc (.cells #[.slice none 0 0] 28)) = W14 at HB HO0 R1 R2 R3 H13 hbw ⊢
    refine hr_eff rfl (by kernel_rfl) (fun K hK => ?_) ?_
    focus
     refine wp_call (HGG.out _ _ _ (H1.out.ext hbw).num R3.out) (by kernel_rfl) ?_
     rintro v1 W15 hb1 hr1
     obtain ⟨GA, Gc, Gn, rfl, hr1⟩ := hr1.shape
     refine hK.out _ _ ?_ ?_
     · exact HB.out.ext hb1
     clear hK K
     (try (conv => arg 6; simp only [Act.put, gL]))
     replace HB := Lib.hid (HB.out.ext hb1)
     replace HO0 := Lib.hid (HO0.out.ext hb1)
     replace R1 := Lib.hid (R1.out.ext hb1)
     replace R2 := Lib.hid (R2.out.ext hb1)
     replace R3 := Lib.hid (R3.out.ext hb1)
     replace H13 := Lib.hid (H13.out.ext hb1)
     replace hbw := nT hbw hb1
     have R4 := Lib.hid hr1
     clear hr1
     clear hb1
     refine hr_eff rfl (by kernel_rfl) (fun K hK => ?_) ?_
     focus
      refine wp_call (HWA.out _ _ R1.out) (by kernel_rfl) ?_
      rintro v1 W16 hb1 hr1
      obtain ⟨Us, UA, Uc, Un, rfl, hr1⟩ := hr1.shape
      refine hK.out _ _ ?_ ?_
      · exact HB.out.ext hb1
      clear hK K
      (try (conv => arg 6; simp only [Act.put, gL]))
      replace HB := Lib.hid (HB.out.ext hb1)
      replace HO0 := Lib.hid (HO0.out.ext hb1)
      replace R1 := Lib.hid (R1.out.ext hb1)
      replace R2 := Lib.hid (R2.out.ext hb1)
      replace R3 := Lib.hid (R3.out.ext hb1)
      replace H13 := Lib.hid (H13.out.ext hb1)
      replace R4 := Lib.hid (R4.out.ext hb1)
      replace hbw := nT hbw hb1
      have R5 := Lib.hid hr1
      clear hr1
      clear hb1
      refine hr_eff rfl (by kernel_rfl) (fun K hK => ?_) ?_
      focus
       refine wp_call (HGH.out _ _ _ (H2.out.ext hbw).num R5.out) (by kernel_rfl) ?_
       rintro v1 W17 hb1 hr1
       obtain ⟨HA, Hc, Hn, rfl, hr1⟩ := hr1.shape
       refine hK.out _ _ ?_ ?_
       · exact HB.out.ext hb1
       clear hK K
       (try (conv => arg 6; simp only [Act.put, gL]))
       replace HB := Lib.hid (HB.out.ext hb1)
       replace HO0 := Lib.hid (HO0.out.ext hb1)
       replace R1 := Lib.hid (R1.out.ext hb1)
       replace R2 := Lib.hid (R2.out.ext hb1)
       replace R3 := Lib.hid (R3.out.ext hb1)
       replace H13 := Lib.hid (H13.out.ext hb1)
       replace R4 := Lib.hid (R4.out.ext hb1)
       replace R5 := Lib.hid (R5.out.ext hb1)
       replace hbw := nT hbw hb1
       have R6 := Lib.hid hr1
       clear hr1
       clear hb1
       refine hr_one rfl (by kernel_rfl) (fun K hK => ?_)
       go_simp
       refine hK.out _ _ ?_ ?_
       · exact HB.out.alloc _
       clear hK K
       (try (conv => arg 6; simp only [Act.put, gL]))
       have z_H14 := hbw.size
       have z_H14_HO0 := HO0.out.lt
       have z_H14_H13 := H13.out.lt
       have z_H14_H12 := cell_lt HB.out.1
       have z_H14_H11 := cell_lt HB.out.2.1
       replace HB := Lib.hid (HB.out.alloc (.cells #[.slice none 0 0] 28))
       replace HO0 := Lib.hid (HO0.out.alloc (.cells #[.slice none 0 0] 28))
       replace R1 := Lib.hid (R1.out.alloc (.cells #[.slice none 0 0] 28))
       replace R2 := Lib.hid (R2.out.alloc (.cells #[.slice none 0 0] 28))
       replace R3 := Lib.hid (R3.out.alloc (.cells #[.slice none 0 0] 28))
       replace H13 := Lib.hid (H13.out.alloc (.cells #[.slice none 0 0] 28))
       replace R4 := Lib.hid (R4.out.alloc (.cells #[.slice none 0 0] 28))
       replace R5 := Lib.hid (R5.out.alloc (.cells #[.slice none 0 0] 28))
       replace R6 := Lib.hid (R6.out.alloc (.cells #[.slice none 0 0] 28))
       replace hbw := nB3 hbw hbw.size (.cells #[.slice none 0 0] 28)
       have H14 := Lib.hid (Own.new' W17 28 [.slice none 0 0] W17.heap.size rfl)
       obtain ⟨bH14, e_H14⟩ : ∃ b, W17.heap.size = b := ⟨_, rfl⟩
       simp only [e_H14] at H14 z_H14 z_H14_HO0 z_H14_H13 z_H14_H12 z_H14_H11 ⊢
       generalize (W17.alloc (.cells #[.slice none 0 0] 28)) = W18 at HB HO0 R1 R2 R3 H13 R4 R5 R6 H14 hbw ⊢
      rotate_left 1
      refine hr_eff rfl (by kernel_rfl) (fun K hK => ?_) ?_
      focus
       go_simp
       refine hK.out _ _ ?_ ?_
       · exact HB.out.alloc _
       clear hK K
       (try (conv => arg 6; simp only [Act.put, gL]))
       have z_H14 := hbw.size
       have z_H14_HO0 := HO0.out.lt
       have z_H14_H13 := H13.out.lt
       have z_H14_H12 := cell_lt HB.out.1
       have z_H14_H11 := cell_lt HB.out.2.1
       replace HB := Lib.hid (HB.out.alloc (.cells #[.slice none 0 0] 28))
       replace HO0 := Lib.hid (HO0.out.alloc (.cells #[.slice none 0 0] 28))
       replace R1 := Lib.hid (R1.out.alloc (.cells #[.slice none 0 0] 28))
       replace R2 := Lib.hid (R2.out.alloc (.cells #[.slice none 0 0] 28))
       replace R3 := Lib.hid (R3.out.alloc (.cells #[.slice none 0 0] 28))
       replace H13 := Lib.hid (H13.out.alloc (.cells #[.slice none 0 0] 28))
       replace R4 := Lib.hid (R4.out.alloc (.cells #[.slice none 0 0] 28))
       replace R5 := Lib.hid (R5.out.alloc (.cells #[.slice none 0 0] 28))
       replace hbw := nB3 hbw hbw.size (.cells #[.slice none 0 0] 28)
       have H14 := Lib.hid (Own.new' W16 28 [.slice none 0 0] W16.heap.size rfl)
       obtain ⟨bH14, e_H14⟩ : ∃ b, W16.heap.size = b := ⟨_, rfl⟩
       simp only [e_H14] at H14 z_H14 z_H14_HO0 z_H14_H13 z_H14_H12 z_H14_H11 ⊢
       generalize (W16.alloc (.cells #[.slice none 0 0] 28)) = W17 at HB HO0 R1 R2 R3 H13 R4 R5 H14 hbw ⊢
       refine hr_one rfl (by kernel_rfl) (fun K hK => ?_)
       refine wp_call (HGH.out _ _ _ (H2.out.ext hbw).num R5.out) (by kernel_rfl) ?_
       rintro v1 W18 hb1 hr1
       obtain ⟨HA, Hc, Hn, rfl, hr1⟩ := hr1.shape
       refine hK.out _ _ ?_ ?_
       · exact HB.out.ext hb1
       clear hK K
       (try (conv => arg 6; simp only [Act.put, gL]))
       replace HB := Lib.hid (HB.out.ext hb1)
       replace HO0 := Lib.hid (HO0.out.ext hb1)
       replace R1 := Lib.hid (R1.out.ext hb1)
       replace R2 := Lib.hid (R2.out.ext hb1)
       replace R3 := Lib.hid (R3.out.ext hb1)
       replace H13 := Lib.hid (H13.out.ext hb1)
       replace R4 := Lib.hid (R4.out.ext hb1)
       replace R5 := Lib.hid (R5.out.ext hb1)
       replace H14 := Lib.hid (H14.out.ext hb1)
       replace hbw := nT hbw hb1
       have R6 := Lib.hid hr1
       clear hr1
       clear hb1
      rotate_left 1
      exact trivial
     rotate_left 2
     refine hr_eff rfl (by kernel_rfl) (fun K hK => ?_) ?_
     focus
      go_simp
      refine hK.out _ _ ?_ ?_
      · exact HB.out.alloc _
      clear hK K
      (try (conv => arg 6; simp only [Act.put, gL]))
      have z_H14 := hbw.size
      have z_H14_HO0 := HO0.out.lt
      have z_H14_H13 := H13.out.lt
      have z_H14_H12 := cell_lt HB.out.1
      have z_H14_H11 := cell_lt HB.out.2.1
      replace HB := Lib.hid (HB.out.alloc (.cells #[.slice none 0 0] 28))
      replace HO0 := Lib.hid (HO0.out.alloc (.cells #[.slice none 0 0] 28))
      replace R1 := Lib.hid (R1.out.alloc (.cells #[.slice none 0 0] 28))
      replace R2 := Lib.hid (R2.out.alloc (.cells #[.slice none 0 0] 28))
      replace R3 := Lib.hid (R3.out.alloc (.cells #[.slice none 0 0] 28))
      replace H13 := Lib.hid (H13.out.alloc (.cells #[.slice none 0 0] 28))
      replace R4 := Lib.hid (R4.out.alloc (.cells #[.slice none 0 0] 28))
      replace hbw := nB3 hbw hbw.size (.cells #[.slice none 0 0] 28)
      have H14 := Lib.hid (Own.new' W15 28 [.slice none 0 0] W15.heap.size rfl)
      obtain ⟨bH14, e_H14⟩ : ∃ b, W15.heap.size = b := ⟨_, rfl⟩
      simp only [e_H14] at H14 z_H14 z_H14_HO0 z_H14_H13 z_H14_H12 z_H14_H11 ⊢
      generalize (W15.alloc (.cells #[.slice none 0 0] 28)) = W16 at HB HO0 R1 R2 R3 H13 R4 H14 hbw ⊢
      refine hr_one rfl (by kernel_rfl) (fun K hK => ?_)
      refine wp_call (HWA.out _ _ R1.out) (by kernel_rfl) ?_
      rintro v1 W17 hb1 hr1
      obtain ⟨Us, UA, Uc, Un, rfl, hr1⟩ := hr1.shape
      refine hK.out _ _ ?_ ?_
      · exact HB.out.ext hb1
      clear hK K
      (try (conv => arg 6; simp only [Act.put, gL]))
      replace HB := Lib.hid (HB.out.ext hb1)
      replace HO0 := Lib.hid (HO0.out.ext hb1)
      replace R1 := Lib.hid (R1.out.ext hb1)
      replace R2 := Lib.hid (R2.out.ext hb1)
      replace R3 := Lib.hid (R3.out.ext hb1)
      replace H13 := Lib.hid (H13.out.ext hb1)
      replace R4 := Lib.hid (R4.out.ext hb1)
      replace H14 := Lib.hid (H14.out.ext hb1)
      replace hbw := nT hbw hb1
      have R5 := Lib.hid hr1
      clear hr1
      clear hb1
      refine hr_one rfl (by kernel_rfl) (fun K hK => ?_)
      refine wp_call (HGH.out _ _ _ (H2.out.ext hbw).num R5.out) (by kernel_rfl) ?_
      rintro v1 W18 hb1 hr1
      obtain ⟨HA, Hc, Hn, rfl, hr1⟩ := hr1.shape
      refine hK.out _ _ ?_ ?_
      · exact HB.out.ext hb1
      clear hK K
      (try (conv => arg 6; simp only [Act.put, gL]))
      replace HB := Lib.hid (HB.out.ext hb1)
      replace HO0 := Lib.hid (HO0.out.ext hb1)
      replace R1 := Lib.hid (R1.out.ext hb1)
      replace R2 := Lib.hid (R2.out.ext hb1)
      replace R3 := Lib.hid (R3.out.ext hb1)
      replace H13 := Lib.hid (H13.out.ext hb1)
      replace R4 := Lib.hid (R4.out.ext hb1)
      replace H14 := Lib.hid (H14.out.ext hb1)
      replace R5 := Lib.hid (R5.out.ext hb1)
      replace hbw := nT hbw hb1
      have R6 := Lib.hid hr1
      clear hr1
      clear hb1
     rotate_left 1
     exact trivial
    rotate_left 3
    refine hr_eff rfl (by kernel_rfl) (fun K hK => ?_) ?_
    focus
     go_simp
     refine hK.out _ _ ?_ ?_
     · exact HB.out.alloc _
     clear hK K
     (try (conv => arg 6; simp only [Act.put, gL]))
     have z_H14 := hbw.size
     have z_H14_HO0 := HO0.out.lt
     have z_H14_H13 := H13.out.lt
     have z_H14_H12 := cell_lt HB.out.1
     have z_H14_H11 := cell_lt HB.out.2.1
     replace HB := Lib.hid (HB.out.alloc (.cells #[.slice none 0 0] 28))
     replace HO0 := Lib.hid (HO0.out.alloc (.cells #[.slice none 0 0] 28))
     replace R1 := Lib.hid (R1.out.alloc (.cells #[.slice none 0 0] 28))
     replace R2 := Lib.hid (R2.out.alloc (.cells #[.slice none 0 0] 28))
     replace R3 := Lib.hid (R3.out.alloc (.cells #[.slice none 0 0] 28))
     replace H13 := Lib.hid (H13.out.alloc (.cells #[.slice none 0 0] 28))
     replace hbw := nB3 hbw hbw.size (.cells #[.slice none 0 0] 28)
     have H14 := Lib.hid (Own.new' W14 28 [.slice none 0 0] W14.heap.size rfl)
     obtain ⟨bH14, e_H14⟩ : ∃ b, W14.heap.size = b := ⟨_, rfl⟩
     simp only [e_H14] at H14 z_H14 z_H14_HO0 z_H14_H13 z_H14_H12 z_H14_H11 ⊢
     generalize (W14.alloc (.cells #[.slice none 0 0] 28)) = W15 at HB HO0 R1 R2 R3 H13 H14 hbw ⊢
     refine hr_one rfl (by kernel_rfl) (fun K hK => ?_)
     refine wp_call (HGG.out _ _ _ (H1.out.ext hbw).num R3.out) (by kernel_rfl) ?_
     rintro v1 W16 hb1 hr1
     obtain ⟨GA, Gc, Gn, rfl, hr1⟩ := hr1.shape
     refine hK.out _ _ ?_ ?_
     · exact HB.out.ext hb1
     clear hK K
     (try (conv => arg 6; simp only [Act.put, gL]))
     replace HB := Lib.hid (HB.out.ext hb1)
     replace HO0 := Lib.hid (HO0.out.ext hb1)
     replace R1 := Lib.hid (R1.out.ext hb1)
     replace R2 := Lib.hid (R2.out.ext hb1)
     replace R3 := Lib.hid (R3.out.ext hb1)
     replace H13 := Lib.hid (H13.out.ext hb1)
     replace H14 := Lib.hid (H14.out.ext hb1)
     replace hbw := nT hbw hb1
     have R4 := Lib.hid hr1
     clear hr1
     clear hb1
     refine hr_one rfl (by kernel_rfl) (fun K hK => ?_)
     refine wp_call (HWA.out _ _ R1.out) (by kernel_rfl) ?_
     rintro v1 W17 hb1 hr1
     obtain ⟨Us, UA, Uc, Un, rfl, hr1⟩ := hr1.shape
     refine hK.out _ _ ?_ ?_
     · exact HB.out.ext hb1
     clear hK K
     (try (conv => arg 6; simp only [Act.put, gL]))
     replace HB := Lib.hid (HB.out.ext hb1)
     replace HO0 := Lib.hid (HO0.out.ext hb1)
     replace R1 := Lib.hid (R1.out.ext hb1)
     replace R2 := Lib.hid (R2.out.ext hb1)
     replace R3 := Lib.hid (R3.out.ext hb1)
     replace H13 := Lib.hid (H13.out.ext hb1)
     replace H14 := Lib.hid (H14.out.ext hb1)
     replace R4 := Lib.hid (R4.out.ext hb1)
     replace hbw := nT hbw hb1
     have R5 := Lib.hid hr1
     clear hr1
     clear hb1
     refine hr_one rfl (by kernel_rfl) (fun K hK => ?_)
     refine wp_call (HGH.out _ _ _ (H2.out.ext hbw).num R5.out) (by kernel_rfl) ?_
     rintro v1 W18 hb1 hr1
     obtain ⟨HA, Hc, Hn, rfl, hr1⟩ := hr1.shape
     refine hK.out _ _ ?_ ?_
     · exact HB.out.ext hb1
     clear hK K
     (try (conv => arg 6; simp only [Act.put, gL]))
     replace HB := Lib.hid (HB.out.ext hb1)
     replace HO0 := Lib.hid (HO0.out.ext hb1)
     replace R1 := Lib.hid (R1.out.ext hb1)
     replace R2 := Lib.hid (R2.out.ext hb1)
     replace R3 := Lib.hid (R3.out.ext hb1)
     replace H13 := Lib.hid (H13.out.ext hb1)
     replace H14 := Lib.hid (H14.out.ext hb1)
     replace R4 := Lib.hid (R4.out.ext hb1)
     replace R5 := Lib.hid (R5.out.ext hb1)
     replace hbw := nT hbw hb1
     have R6 := Lib.hid hr1
     clear hr1
     clear hb1
    rotate_left 1
    exact trivial
   rotate_left 4
   refine hr_eff rfl (by kernel_rfl) (fun K hK => ?_) ?_
   focus
    go_simp
    refine hK.out _ _ ?_ ?_
    · exact HB.out.alloc _
    clear hK K
    (try (conv => arg 6; simp only [Act.put, gL]))
    have z_H14 := hbw.size
    have z_H14_HO0 := HO0.out.lt
    have z_H14_H12 := cell_lt HB.out.1
    have z_H14_H11 := cell_lt HB.out.2.1
    replace HB := Lib.hid (HB.out.alloc (.cells #[.slice none 0 0] 28))
    replace HO0 := Lib.hid (HO0.out.alloc (.cells #[.slice none 0 0] 28))
    replace R1 := Lib.hid (R1.out.alloc (.cells #[.slice none 0 0] 28))
    replace R2 := Lib.hid (R2.out.alloc (.cells #[.slice none 0 0] 28))
    replace R3 := Lib.hid (R3.out.alloc (.cells #[.slice none 0 0] 28))
    replace hbw := nB3 hbw hbw.size (.cells #[.slice none 0 0] 28)
    have H14 := Lib.hid (Own.new' W13 28 [.slice none 0 0] W13.heap.size rfl)
    obtain ⟨bH14, e_H14⟩ : ∃ b, W13.heap.size = b := ⟨_, rfl⟩
    simp only [e_H14] at H14 z_H14 z_H14_HO0 z_H14_H12 z_H14_H11 ⊢
    generalize (W13.alloc (.cells #[.slice none 0 0] 28)) = W14 at HB HO0 R1 R2 R3 H14 hbw ⊢
    refine hr_eff rfl (by kernel_rfl) (fun K hK => ?_) ?_
    focus
     refine wp_call (HGG.out _ _ _ (H1.out.ext hbw).num R3.out) (by kernel_rfl) ?_
     rintro v1 W15 hb1 hr1
     obtain ⟨GA, Gc, Gn, rfl, hr1⟩ := hr1.shape
     refine hK.out _ _ ?_ ?_
     · exact HB.out.ext hb1
     clear hK K
     (try (conv => arg 6; simp only [Act.put, gL]))
     replace HB := Lib.hid (HB.out.ext hb1)
     replace HO0 := Lib.hid (HO0.out.ext hb1)
     replace R1 := Lib.hid (R1.out.ext hb1)
     replace R2 := Lib.hid (R2.out.ext hb1)
     replace R3 := Lib.hid (R3.out.ext hb1)
     replace H14 := Lib.hid (H14.out.ext hb1)
     replace hbw := nT hbw hb1
     have R4 := Lib.hid hr1
     clear hr1
     clear hb1
     refine hr_eff rfl (by kernel_rfl) (fun K hK => ?_) ?_
     focus
      refine wp_call (HWA.out _ _ R1.out) (by kernel_rfl) ?_
      rintro v1 W16 hb1 hr1
      obtain ⟨Us, UA, Uc, Un, rfl, hr1⟩ := hr1.shape
      refine hK.out _ _ ?_ ?_
      · exact HB.out.ext hb1
      clear hK K
      (try (conv => arg 6; simp only [Act.put, gL]))
      replace HB := Lib.hid (HB.out.ext hb1)
      replace HO0 := Lib.hid (HO0.out.ext hb1)
      replace R1 := Lib.hid (R1.out.ext hb1)
      replace R2 := Lib.hid (R2.out.ext hb1)
      replace R3 := Lib.hid (R3.out.ext hb1)
      replace H14 := Lib.hid (H14.out.ext hb1)
      replace R4 := Lib.hid (R4.out.ext hb1)
      replace hbw := nT hbw hb1
      have R5 := Lib.hid hr1
      clear hr1
      clear hb1
      refine hr_eff rfl (by kernel_rfl) (fun K hK => ?_) ?_
      focus
       refine wp_call (HGH.out _ _ _ (H2.out.ext hbw).num R5.out) (by kernel_rfl) ?_
       rintro v1 W17 hb1 hr1
       obtain ⟨HA, Hc, Hn, rfl, hr1⟩ := hr1.shape
       refine hK.out _ _ ?_ ?_
       · exact HB.out.ext hb1
       clear hK K
       (try (conv => arg 6; simp only [Act.put, gL]))
       replace HB := Lib.hid (HB.out.ext hb1)
       replace HO0 := Lib.hid (HO0.out.ext hb1)
       replace R1 := Lib.hid (R1.out.ext hb1)
       replace R2 := Lib.hid (R2.out.ext hb1)
       replace R3 := Lib.hid (R3.out.ext hb1)
       replace H14 := Lib.hid (H14.out.ext hb1)
       replace R4 := Lib.hid (R4.out.ext hb1)
       replace R5 := Lib.hid (R5.out.ext hb1)
       replace hbw := nT hbw hb1
       have R6 := Lib.hid hr1
       clear hr1
       clear hb1
       refine hr_one rfl (by kernel_rfl) (fun K hK => ?_)
       go_simp
       refine hK.out _ _ ?_ ?_
       · exact HB.out.alloc _
       clear hK K
       (try (conv => arg 6; simp only [Act.put, gL]))
       have z_H13 := hbw.size
       have z_H13_HO0 := HO0.out.lt
       have z_H13_H14 := H14.out.lt
       have z_H13_H12 := cell_lt HB.out.1
       have z_H13_H11 := cell_lt HB.out.2.1
       replace HB := Lib.hid (HB.out.alloc (.cells #[.slice none 0 0] 28))
       replace HO0 := Lib.hid (HO0.out.alloc (.cells #[.slice none 0 0] 28))
       replace R1 := Lib.hid (R1.out.alloc (.cells #[.slice none 0 0] 28))
       replace R2 := Lib.hid (R2.out.alloc (.cells #[.slice none 0 0] 28))
       replace R3 := Lib.hid (R3.out.alloc (.cells #[.slice none 0 0] 28))
       replace H14 := Lib.hid (H14.out.alloc (.cells #[.slice none 0 0] 28))
       replace R4 := Lib.hid (R4.out.alloc (.cells #[.slice none 0 0] 28))
       replace R5 := Lib.hid (R5.out.alloc (.cells #[.slice none 0 0] 28))
       replace R6 := Lib.hid (R6.out.alloc (.cells #[.slice none 0 0] 28))
       replace hbw := nB3 hbw hbw.size (.cells #[.slice none 0 0] 28)
       have H13 := Lib.hid (Own.new' W17 28 [.slice none 0 0] W17.heap.size rfl)
       obtain ⟨bH13, e_H13⟩ : ∃ b, W17.heap.size = b := ⟨_, rfl⟩
       simp only [e_H13] at H13 z_H13 z_H13_HO0 z_H13_H14 z_H13_H12 z_H13_H11 ⊢
       generalize (W17.alloc (.cells #[.slice none 0 0] 28)) = W18 at HB HO0 R1 R2 R3 H14 R4 R5 R6 H13 hbw ⊢
      rotate_left 1
      refine hr_eff rfl (by kernel_rfl) (fun K hK => ?_) ?_
      focus
       go_simp
       refine hK.out _ _ ?_ ?_
       · exact HB.out.alloc _
       clear hK K
       (try (conv => arg 6; simp only [Act.put, gL]))
       have z_H13 := hbw.size
       have z_H13_HO0 := HO0.out.lt
       have z_H13_H14 := H14.out.lt
       have z_H13_H12 := cell_lt HB.out.1
       have z_H13_H11 := cell_lt HB.out.2.1
       replace HB := Lib.hid (HB.out.alloc (.cells #[.slice none 0 0] 28))
       replace HO0 := Lib.hid (HO0.out.alloc (.cells #[.slice none 0 0] 28))
       replace R1 := Lib.hid (R1.out.alloc (.cells #[.slice none 0 0] 28))
       replace R2 := Lib.hid (R2.out.alloc (.cells #[.slice none 0 0] 28))
       replace R3 := Lib.hid (R3.out.alloc (.cells #[.slice none 0 0] 28))
       replace H14 := Lib.hid (H14.out.alloc (.cells #[.slice none 0 0] 28))
       replace R4 := Lib.hid (R4.out.alloc (.cells #[.slice none 0 0] 28))
       replace R5 := Lib.hid (R5.out.alloc (.cells #[.slice none 0 0] 28))
       replace hbw := nB3 hbw hbw.size (.cells #[.slice none 0 0] 28)
       have H13 := Lib.hid (Own.new' W16 28 [.slice none 0 0] W16.heap.size rfl)
       obtain ⟨bH13, e_H13⟩ : ∃ b, W16.heap.size = b := ⟨_, rfl⟩
       simp only [e_H13] at H13 z_H13 z_H13_HO0 z_H13_H14 z_H13_H12 z_H13_H11 ⊢
       generalize (W16.alloc (.cells #[.slice none 0 0] 28)) = W17 at HB HO0 R1 R2 R3 H14 R4 R5 H13 hbw ⊢
       refine hr_one rfl (by kernel_rfl) (fun K hK => ?_)
       refine wp_call (HGH.out _ _ _ (H2.out.ext hbw).num R5.out) (by kernel_rfl) ?_
       rintro v1 W18 hb1 hr1
       obtain ⟨HA, Hc, Hn, rfl, hr1⟩ := hr1.shape
       refine hK.out _ _ ?_ ?_
       · exact HB.out.ext hb1
       clear hK K
       (try (conv => arg 6; simp only [Act.put, gL]))
       replace HB := Lib.hid (HB.out.ext hb1)
       replace HO0 := Lib.hid (HO0.out.ext hb1)
       replace R1 := Lib.hid (R1.out.ext hb1)
       replace R2 := Lib.hid (R2.out.ext hb1)
       replace R3 := Lib.hid (R3.out.ext hb1)
       replace H14 := Lib.hid (H14.out.ext hb1)
       replace R4 := Lib.hid (R4.out.ext hb1)
       replace R5 := Lib.hid (R5.out.ext hb1)
       replace H13 := Lib.hid (H13.out.ext hb1)
       replace hbw := nT hbw hb1
       have R6 := Lib.hid hr1
       clear hr1
       clear hb1
      rotate_left 1
      exact trivial
     rotate_left 2
     refine hr_eff rfl (by kernel_rfl) (fun K hK => ?_) ?_
     focus
      go_simp
      refine hK.out _ _ ?_ ?_
      · exact HB.out.alloc _
      clear hK K
      (try (conv => arg 6; simp only [Act.put, gL]))
      have z_H13 := hbw.size
      have z_H13_HO0 := HO0.out.lt
      have z_H13_H14 := H14.out.lt
      have z_H13_H12 := cell_lt HB.out.1
      have z_H13_H11 := cell_lt HB.out.2.1
      replace HB := Lib.hid (HB.out.alloc (.cells #[.slice none 0 0] 28))
      replace HO0 := Lib.hid (HO0.out.alloc (.cells #[.slice none 0 0] 28))
      replace R1 := Lib.hid (R1.out.alloc (.cells #[.slice none 0 0] 28))
      replace R2 := Lib.hid (R2.out.alloc (.cells #[.slice none 0 0] 28))
      replace R3 := Lib.hid (R3.out.alloc (.cells #[.slice none 0 0] 28))
      replace H14 := Lib.hid (H14.out.alloc (.cells #[.slice none 0 0] 28))
      replace R4 := Lib.hid (R4.out.alloc (.cells #[.slice none 0 0] 28))
      replace hbw := nB3 hbw hbw.size (.cells #[.slice none 0 0] 28)
      have H13 := Lib.hid (Own.new' W15 28 [.slice none 0 0] W15.heap.size rfl)
      obtain ⟨bH13, e_H13⟩ : ∃ b, W15.heap.size = b := ⟨_, rfl⟩
      simp only [e_H13] at H13 z_H13 z_H13_HO0 z_H13_H14 z_H13_H12 z_H13_H11 ⊢
      generalize (W15.alloc (.cells #[.slice none 0 0] 28)) = W16 at HB HO0 R1 R2 R3 H14 R4 H13 hbw ⊢
      refine hr_one rfl (by kernel_rfl) (fun K hK => ?_)
      refine wp_call (HWA.out _ _ R1.out) (by kernel_rfl) ?_
      rintro v1 W17 hb1 hr1
      obtain ⟨Us, UA, Uc, Un, rfl, hr1⟩ := hr1.shape
      refine hK.out _ _ ?_ ?_
      · exact HB.out.ext hb1
      clear hK K
      (try (conv => arg 6; simp only [Act.put, gL]))
      replace HB := Lib.hid (HB.out.ext hb1)
      replace HO0 := Lib.hid (HO0.out.ext hb1)
      replace R1 := Lib.hid (R1.out.ext hb1)
      replace R2 := Lib.hid (R2.out.ext hb1)
      replace R3 := Lib.hid (R3.out.ext hb1)
      replace H14 := Lib.hid (H14.out.ext hb1)
      replace R4 := Lib.hid (R4.out.ext hb1)
      replace H13 := Lib.hid (H13.out.ext hb1)
      replace hbw := nT hbw hb1
      have R5 := Lib.hid hr1
      clear hr1
      clear hb1
      refine hr_one rfl (by kernel_rfl) (fun K hK => ?_)
      refine wp_call (HGH.out _ _ _ (H2.out.ext hbw).num R5.out) (by kernel_rfl) ?_
      rintro v1 W18 hb1 hr1
      obtain ⟨HA, Hc, Hn, rfl, hr1⟩ := hr1.shape
      refine hK.out _ _ ?_ ?_
      · exact HB.out.ext hb1
      clear hK K
      (try (conv => arg 6; simp only [Act.put, gL]))
      replace HB := Lib.hid (HB.out.ext hb1)
      replace HO0 := Lib.hid (HO0.out.ext hb1)
      replace R1 := Lib.hid (R1.out.ext hb1)
      replace R2 := Lib.hid (R2.out.ext hb1)
      replace R3 := Lib.hid (R3.out.ext hb1)
      replace H14 := Lib.hid (H14.out.ext hb1)
      replace R4 := Lib.hid (R4.out.ext hb1)
      replace H13 := Lib.hid (H13.out.ext hb1)
      replace R5 := Lib.hid (R5.out.ext hb1)
      replace hbw := nT hbw hb1
      have R6 := Lib.hid hr1
      clear hr1
      clear hb1
     rotate_left 1
     exact trivial
    rotate_left 3
    refine hr_eff rfl (by kernel_rfl) (fun K hK => ?_) ?_
    focus
     go_simp
     refine hK.out _ _ ?_ ?_
     · exact HB.out.alloc _
     clear hK K
     (try (conv => arg 6; simp only [Act.put, gL]))
     have z_H13 := hbw.size
     have z_H13_HO0 := HO0.out.lt
     have z_H13_H14 := H14.out.lt
     have z_H13_H12 := cell_lt HB.out.1
     have z_H13_H11 := cell_lt HB.out.2.1
     replace HB := Lib.hid (HB.out.alloc (.cells #[.slice none 0 0] 28))
     replace HO0 := Lib.hid (HO0.out.alloc (.cells #[.slice none 0 0] 28))
     replace R1 := Lib.hid (R1.out.alloc (.cells #[.slice none 0 0] 28))
     replace R2 := Lib.hid (R2.out.alloc (.cells #[.slice none 0 0] 28))
     replace R3 := Lib.hid (R3.out.alloc (.cells #[.slice none 0 0] 28))
     replace H14 := Lib.hid (H14.out.alloc (.cells #[.slice none 0 0] 28))
     replace hbw := nB3 hbw hbw.size (.cells #[.slice none 0 0] 28)
     have H13 := Lib.hid (Own.new' W14 28 [.slice none 0 0] W14.heap.size rfl)
     obtain ⟨bH13, e_H13⟩ : ∃ b, W14.heap.size = b := ⟨_, rfl⟩
     simp only [e_H13] at H13 z_H13 z_H13_HO0 z_H13_H14 z_H13_H12 z_H13_H11 ⊢
     generalize (W14.alloc (.cells #[.slice none 0 0] 28)) = W15 at HB HO0 R1 R2 R3 H14 H13 hbw ⊢
     refine hr_one rfl (by kernel_rfl) (fun K hK => ?_)
     refine wp_call (HGG.out _ _ _ (H1.out.ext hbw).num R3.out) (by kernel_rfl) ?_
     rintro v1 W16 hb1 hr1
     obtain ⟨GA, Gc, Gn, rfl, hr1⟩ := hr1.shape
     refine hK.out _ _ ?_ ?_
     · exact HB.out.ext hb1
     clear hK K
     (try (conv => arg 6; simp only [Act.put, gL]))
     replace HB := Lib.hid (HB.out.ext hb1)
     replace HO0 := Lib.hid (HO0.out.ext hb1)
     replace R1 := Lib.hid (R1.out.ext hb1)
     replace R2 := Lib.hid (R2.out.ext hb1)
     replace R3 := Lib.hid (R3.out.ext hb1)
     replace H14 := Lib.hid (H14.out.ext hb1)
     replace H13 := Lib.hid (H13.out.ext hb1)
     replace hbw := nT hbw hb1
     have R4 := Lib.hid hr1
     clear hr1
     clear hb1
     refine hr_one rfl (by kernel_rfl) (fun K hK => ?_)
     refine wp_call (HWA.out _ _ R1.out) (by kernel_rfl) ?_
     rintro v1 W17 hb1 hr1
     obtain ⟨Us, UA, Uc, Un, rfl, hr1⟩ := hr1.shape
     refine hK.out _ _ ?_ ?_
     · exact HB.out.ext hb1
     clear hK K
     (try (conv => arg 6; simp only [Act.put, gL]))
     replace HB := Lib.hid (HB.out.ext hb1)
     replace HO0 := Lib.hid (HO0.out.ext hb1)
     replace R1 := Lib.hid (R1.out.ext hb1)
     replace R2 := Lib.hid (R2.out.ext hb1)
     replace R3 := Lib.hid (R3.out.ext hb1)
     replace H14 := Lib.hid (H14.out.ext hb1)
     replace H13 := Lib.hid (H13.out.ext hb1)
     replace R4 := Lib.hid (R4.out.ext hb1)
     replace hbw := nT hbw hb1
     have R5 := Lib.hid hr1
     clear hr1
     clear hb1
     refine hr_one rfl (by kernel_rfl) (fun K hK => ?_)
     refine wp_call (HGH.out _ _ _ (H2.out.ext hbw).num R5.out) (by kernel_rfl) ?_
     rintro v1 W18 hb1 hr1
     obtain ⟨HA, Hc, Hn, rfl, hr1⟩ := hr1.shape
     refine hK.out _ _ ?_ ?_
     · exact HB.out.ext hb1
     clear hK K
     (try (conv => arg 6; simp only [Act.put, gL]))
     replace HB := Lib.hid (HB.out.ext hb1)
     replace HO0 := Lib.hid (HO0.out.ext hb1)
     replace R1 := Lib.hid (R1.out.ext hb1)
     replace R2 := Lib.hid (R2.out.ext hb1)
     replace R3 := Lib.hid (R3.out.ext hb1)
     replace H14 := Lib.hid (H14.out.ext hb1)
     replace H13 := Lib.hid (H13.out.ext hb1)
     replace R4 := Lib.hid (R4.out.ext hb1)
     replace R5 := Lib.hid (R5.out.ext hb1)
     replace hbw := nT hbw hb1
     have R6 := Lib.hid hr1
     clear hr1
     clear hb1
    rotate_left 1
    exact trivial
   rotate_left 4
   exact trivial
  rotate_left 20
  refine hr_eff rfl (by kernel_rfl) (fun K hK => ?_) ?_
  focus
   go_simp
   refine hK.out _ _ ?_ ?_
   · exact HB.out.alloc _
   clear hK K
   (try (conv => arg 6; simp only [Act.put, gL]))
   have z_H13 := hbw.size
   have z_H13_HO0 := HO0.out.lt
   have z_H13_H12 := cell_lt HB.out.1
   have z_H13_H11 := cell_lt HB.out.2.1
   replace HB := Lib.hid (HB.out.alloc (.cells #[.slice none 0 0] 28))
   replace HO0 := Lib.hid (HO0.out.alloc (.cells #[.slice none 0 0] 28))
   replace R1 := Lib.hid (R1.out.alloc (.cells #[.slice none 0 0] 28))
   replace R2 := Lib.hid (R2.out.alloc (.cells #[.slice none 0 0] 28))
   replace hbw := nB3 hbw hbw.size (.cells #[.slice none 0 0] 28)
   have H13 := Lib.hid (Own.new' W12 28 [.slice none 0 0] W12.heap.size rfl)
   obtain ⟨bH13, e_H13⟩ : ∃ b, W12.heap.size = b := ⟨_, rfl⟩
   simp only [e_H13] at H13 z_H13 z_H13_HO0 z_H13_H12 z_H13_H11 ⊢
   generalize (W12.alloc (.cells #[.slice none 0 0] 28)) = W13 at HB HO0 R1 R2 H13 hbw ⊢
   refine hr_eff rfl (by kernel_rfl) (fun K hK => ?_) ?_
   focus
    refine wp_call (HWB.out _ _ R2.out) (by kernel_rfl) ?_
    rintro v1 W14 hb1 hr1
    obtain ⟨Vs, VA, Vc, Vn, rfl, hr1⟩ := hr1.shape
    refine hK.out _ _ ?_ ?_
    · exact HB.out.ext hb1
    clear hK K
    (try (conv => arg 6; simp only [Act.put, gL]))
    replace HB := Lib.hid (HB.out.ext hb1)
    replace HO0 := Lib.hid (HO0.out.ext hb1)
    replace R1 := Lib.hid (R1.out.ext hb1)
    replace R2 := Lib.hid (R2.out.ext hb1)
    replace H13 := Lib.hid (H13.out.ext hb1)
    replace hbw := nT hbw hb1
    have R3 := Lib.hid hr1
    clear hr1
    clear hb1
    refine hr_eff rfl (by kernel_rfl) (fun K hK => ?_) ?_
    focus
     refine wp_call (HGG.out _ _ _ (H1.out.ext hbw).num R3.out) (by kernel_rfl) ?_
     rintro v1 W15 hb1 hr1
     obtain ⟨GA, Gc, Gn, rfl, hr1⟩ := hr1.shape
     refine hK.out _ _ ?_ ?_
     · exact HB.out.ext hb1
     clear hK K
     (try (conv => arg 6; simp only [Act.put, gL]))
     replace HB := Lib.hid (HB.out.ext hb1)
     replace HO0 := Lib.hid (HO0.out.ext hb1)
     replace R1 := Lib.hid (R1.out.ext hb1)
     replace R2 := Lib.hid (R2.out.ext hb1)
     replace H13 := Lib.hid (H13.out.ext hb1)
     replace R3 := Lib.hid (R3.out.ext hb1)
     replace hbw := nT hbw hb1
     have R4 := Lib.hid hr1
     clear hr1
     clear hb1
     refine hr_eff rfl (by kernel_rfl) (fun K hK => ?_) ?_
     focus
      refine wp_call (HWA.out _ _ R1.out) (by kernel_rfl) ?_
      rintro v1 W16 hb1 hr1
      obtain ⟨Us, UA, Uc, Un, rfl, hr1⟩ := hr1.shape
      refine hK.out _ _ ?_ ?_
      · exact HB.out.ext hb1
      clear hK K
      (try (conv => arg 6; simp only [Act.put, gL]))
      replace HB := Lib.hid (HB.out.ext hb1)
      replace HO0 := Lib.hid (HO0.out.ext hb1)
      replace R1 := Lib.hid (R1.out.ext hb1)
      replace R2 := Lib.hid (R2.out.ext hb1)
      replace H13 := Lib.hid (H13.out.ext hb1)
      replace R3 := Lib.hid (R3.out.ext hb1)
      replace R4 := Lib.hid (R4.out.ext hb1)
      replace hbw := nT hbw hb1
      have R5 := Lib.hid hr1
      clear hr1
      clear hb1
      refine hr_eff rfl (by kernel_rfl) (fun K hK => ?_) ?_
      focus
       refine wp_call (HGH.out _ _ _ (H2.out.ext hbw).num R5.out) (by kernel_rfl) ?_
       rintro v1 W17 hb1 hr1
       obtain ⟨HA, Hc, Hn, rfl, hr1⟩ := hr1.shape
       refine hK.out _ _ ?_ ?_
       · exact HB.out.ext hb1
       clear hK K
       (try (conv => arg 6; simp only [Act.put, gL]))
       replace HB := Lib.hid (HB.out.ext hb1)
       replace HO0 := Lib.hid (HO0.out.ext hb1)
       replace R1 := Lib.hid (R1.out.ext hb1)
       replace R2 := Lib.hid (R2.out.ext hb1)
       replace H13 := Lib.hid (H13.out.ext hb1)
       replace R3 := Lib.hid (R3.out.ext hb1)
       replace R4 := Lib.hid (R4.out.ext hb1)
       replace R5 := Lib.hid (R5.out.ext hb1)
       replace hbw := nT hbw hb1
       have R6 := Lib.hid hr1
       clear hr1
       clear hb1
       refine hr_one rfl (by kernel_rfl) (fun K hK => ?_)
       go_simp
       refine hK.out _ _ ?_ ?_
       · exact HB.out.alloc _
       clear hK K
       (try (conv => arg 6; simp only [Act.put, gL]))
       have z_H14 := hbw.size
       have z_H14_HO0 := HO0.out.lt
       have z_H14_H13 := H13.out.lt
       have z_H14_H12 := cell_lt HB.out.1
       have z_H14_H11 := cell_lt HB.out.2.1
       replace HB := Lib.hid (HB.out.alloc (.cells #[.slice none 0 0] 28))
       replace HO0 := Lib.hid (HO0.out.alloc (.cells #[.slice none 0 0] 28))
       replace R1 := Lib.hid (R1.out.alloc (.cells #[.slice none 0 0] 28))
       replace R2 := Lib.hid (R2.out.alloc (.cells #[.slice none 0 0] 28))
       replace H13 := Lib.hid (H13.out.alloc (.cells #[.slice none 0 0] 28))
       replace R3 := Lib.hid (R3.out.alloc (.cells #[.slice none 0 0] 28))
       replace R4 := Lib.hid (R4.out.alloc (.cells #[.slice none 0 0] 28))
       replace R5 := Lib.hid (R5.out.alloc (.cells #[.slice none 0 0] 28))
       replace R6 := Lib.hid (R6.out.alloc (.cells #[.slice none 0 0] 28))
       replace hbw := nB3 hbw hbw.size (.cells #[.slice none 0 0] 28)
       have H14 := Lib.hid (Own.new' W17 28 [.slice none 0 0] W17.heap.size rfl)
       obtain ⟨bH14, e_H14⟩ : ∃ b, W17.heap.size = b := ⟨_, rfl⟩
       simp only [e_H14] at H14 z_H14 z_H14_HO0 z_H14_H13 z_H14_H12 z_H14_H11 ⊢
       generalize (W17.alloc (.cells #[.slice none 0 0] 28)) = W18 at HB HO0 R1 R2 H13 R3 R4 R5 R6 H14 hbw ⊢
      rotate_left 1
      refine hr_eff rfl (by kernel_rfl) (fun K hK => ?_) ?_
      focus
       go_simp
       refine hK.out _ _ ?_ ?_
       · exact HB.out.alloc _
       clear hK K
       (try (conv => arg 6; simp only [Act.put, gL]))
       have z_H14 := hbw.size
       have z_H14_HO0 := HO0.out.lt
       have z_H14_H13 := H13.out.lt
       have z_H14_H12 := cell_lt HB.out.1
       have z_H14_H11 := cell_lt HB.out.2.1
       replace HB := Lib.hid (HB.out.alloc (.cells #[.slice none 0 0] 28))
       replace HO0 := Lib.hid (HO0.out.alloc (.cells #[.slice none 0 0] 28))
       replace R1 := Lib.hid (R1.out.alloc (.cells #[.slice none 0 0] 28))
       replace R2 := Lib.hid (R2.out.alloc (.cells #[.slice none 0 0] 28))
       replace H13 := Lib.hid (H13.out.alloc (.cells #[.slice none 0 0] 28))
       replace R3 := Lib.hid (R3.out.alloc (.cells #[.slice none 0 0] 28))
       replace R4 := Lib.hid (R4.out.alloc (.cells #[.slice none 0 0] 28))
       replace R5 := Lib.hid (R5.out.alloc (.cells #[.slice none 0 0] 28))
       replace hbw := nB3 hbw hbw.size (.cells #[.slice none 0 0] 28)
       have H14 := Lib.hid (Own.new' W16 28 [.slice none 0 0] W16.heap.size rfl)
       obtain ⟨bH14, e_H14⟩ : ∃ b, W16.heap.size = b := ⟨_, rfl⟩
       simp only [e_H14] at H14 z_H14 z_H14_HO0 z_H14_H13 z_H14_H12 z_H14_H11 ⊢
       generalize (W16.alloc (.cells #[.slice none 0 0] 28)) = W17 at HB HO0 R1 R2 H13 R3 R4 R5 H14 hbw ⊢
       refine hr_one rfl (by kernel_rfl) (fun K hK => ?_)
       refine wp_call (HGH.out _ _ _ (H2.out.ext hbw).num R5.out) (by kernel_rfl) ?_
       rintro v1 W18 hb1 hr1
       obtain ⟨HA, Hc, Hn, rfl, hr1⟩ := hr1.shape
       refine hK.out _ _ ?_ ?_
       · exact HB.out.ext hb1
       clear hK K
       (try (conv => arg 6; simp only [Act.put, gL]))
       replace HB := Lib.hid (HB.out.ext hb1)
       replace HO0 := Lib.hid (HO0.out.ext hb1)
       replace R1 := Lib.hid (R1.out.ext hb1)
       replace R2 := Lib.hid (R2.out.ext hb1)
       replace H13 := Lib.hid (H13.out.ext hb1)
       replace R3 := Lib.hid (R3.out.ext hb1)
       replace R4 := Lib.hid (R4.out.ext hb1)
       replace R5 := Lib.hid (R5.out.ext hb1)
       replace H14 := Lib.hid (H14.out.ext hb1)
       replace hbw := nT hbw hb1
       have R6 := Lib.hid hr1
       clear hr1
       clear hb1
      rotate_left 1
      exact trivial
     rotate_left 2
     refine hr_eff rfl (by kernel_rfl) (fun K hK => ?_) ?_
     focus
      go_simp
      refine hK.out _ _ ?_ ?_
      · exact HB.out.alloc _
      clear hK K
      (try (conv => arg 6; simp only [Act.put, gL]))
      have z_H14 := hbw.size
      have z_H14_HO0 := HO0.out.lt
      have z_H14_H13 := H13.out.lt
      have z_H14_H12 := cell_lt HB.out.1
      have z_H14_H11 := cell_lt HB.out.2.1
      replace HB := Lib.hid (HB.out.alloc (.cells #[.slice none 0 0] 28))
      replace HO0 := Lib.hid (HO0.out.alloc (.cells #[.slice none 0 0] 28))
      replace R1 := Lib.hid (R1.out.alloc (.cells #[.slice none 0 0] 28))
      replace R2 := Lib.hid (R2.out.alloc (.cells #[.slice none 0 0] 28))
      replace H13 := Lib.hid (H13.out.alloc (.cells #[.slice none 0 0] 28))
      replace R3 := Lib.hid (R3.out.alloc (.cells #[.slice none 0 0] 28))
      replace R4 := Lib.hid (R4.out.alloc (.cells #[.slice none 0 0] 28))
      replace hbw := nB3 hbw hbw.size (.cells #[.slice none 0 0] 28)
      have H14 := Lib.hid (Own.new' W15 28 [.slice none 0 0] W15.heap.size rfl)
      obtain ⟨bH14, e_H14⟩ : ∃ b, W15.heap.size = b := ⟨_, rfl⟩
      simp only [e_H14] at H14 z_H14 z_H14_HO0 z_H14_H13 z_H14_H12 z_H14_H11 ⊢
      generalize (W15.alloc (.cells #[.slice none 0 0] 28)) = W16 at HB HO0 R1 R2 H13 R3 R4 H14 hbw ⊢
      refine hr_one rfl (by kernel_rfl) (fun K hK => ?_)
      refine wp_call (HWA.out _ _ R1.out) (by kernel_rfl) ?_
      rintro v1 W17 hb1 hr1
      obtain ⟨Us, UA, Uc, Un, rfl, hr1⟩ := hr1.shape
      refine hK.out _ _ ?_ ?_
      · exact HB.out.ext hb1
      clear hK K
      (try (conv => arg 6; simp only [Act.put, gL]))
      replace HB := Lib.hid (HB.out.ext hb1)
      replace HO0 := Lib.hid (HO0.out.ext hb1)
      replace R1 := Lib.hid (R1.out.ext hb1)
      replace R2 := Lib.hid (R2.out.ext hb1)
      replace H13 := Lib.hid (H13.out.ext hb1)
      replace R3 := Lib.hid (R3.out.ext hb1)
      replace R4 := Lib.hid (R4.out.ext hb1)
      replace H14 := Lib.hid (H14.out.ext hb1)
      replace hbw := nT hbw hb1
      have R5 := Lib.hid hr1
      clear hr1
      clear hb1
      refine hr_one rfl (by kernel_rfl) (fun K hK => ?_)
      refine wp_call (HGH.out _ _ _ (H2.out.ext hbw).num R5.out) (by kernel_rfl) ?_
      rintro v1 W18 hb1 hr1
      obtain ⟨HA, Hc, Hn, rfl, hr1⟩ := hr1.shape
      refine hK.out _ _ ?_ ?_
      · exact HB.out.ext hb1
      clear hK K
      (try (conv => arg 6; simp only [Act.put, gL]))
      replace HB := Lib.hid (HB.out.ext hb1)
      replace HO0 := Lib.hid (HO0.out.ext hb1)
      replace R1 := Lib.hid (R1.out.ext hb1)
      replace R2 := Lib.hid (R2.out.ext hb1)
      replace H13 := Lib.hid (H13.out.ext hb1)
      replace R3 := Lib.hid (R3.out.ext hb1)
      replace R4 := Lib.hid (R4.out.ext hb1)
      replace H14 := Lib.hid (H14.out.ext hb1)
      replace R5 := Lib.hid (R5.out.ext hb1)
      replace hbw := nT hbw hb1
      have R6 := Lib.hid hr1
      clear hr1
      clear hb1
     rotate_left 1
     exact trivial
    rotate_left 3
    refine hr_eff rfl (by kernel_rfl) (fun K hK => ?_) ?_
    focus
     go_simp
     refine hK.out _ _ ?_ ?_
     · exact HB.out.alloc _
     clear hK K
     (try (conv => arg 6; simp only [Act.put, gL]))
     have z_H14 := hbw.size
     have z_H14_HO0 := HO0.out.lt
     have z_H14_H13 := H13.out.lt
     have z_H14_H12 := cell_lt HB.out.1
     have z_H14_H11 := cell_lt HB.out.2.1
     replace HB := Lib.hid (HB.out.alloc (.cells #[.slice none 0 0] 28))
     replace HO0 := Lib.hid (HO0.out.alloc (.cells #[.slice none 0 0] 28))
     replace R1 := Lib.hid (R1.out.alloc (.cells #[.slice none 0 0] 28))
     replace R2 := Lib.hid (R2.out.alloc (.cells #[.slice none 0 0] 28))
     replace H13 := Lib.hid (H13.out.alloc (.cells #[.slice none 0 0] 28))
     replace R3 := Lib.hid (R3.out.alloc (.cells #[.slice none 0 0] 28))
     replace hbw := nB3 hbw hbw.size (.cells #[.slice none 0 0] 28)
     have H14 := Lib.hid (Own.new' W14 28 [.slice none 0 0] W14.heap.size rfl)
     obtain ⟨bH14, e_H14⟩ : ∃ b, W14.heap.size = b := ⟨_, rfl⟩
     simp only [e_H14] at H14 z_H14 z_H14_HO0 z_H14_H13 z_H14_H12 z_H14_H11 ⊢
     generalize (W14.alloc (.cells #[.slice none 0 0] 28)) = W15 at HB HO0 R1 R2 H13 R3 H14 hbw ⊢
     refine hr_one rfl (by kernel_rfl) (fun K hK => ?_)
     refine wp_call (HGG.out _ _ _ (H1.out.ext hbw).num R3.out) (by kernel_rfl) ?_
     rintro v1 W16 hb1 hr1
     obtain ⟨GA, Gc, Gn, rfl, hr1⟩ := hr1.shape
     refine hK.out _ _ ?_ ?_
     · exact HB.out.ext hb1
     clear hK K
     (try (conv => arg 6; simp only [Act.put, gL]))
     replace HB := Lib.hid (HB.out.ext hb1)
     replace HO0 := Lib.hid (HO0.out.ext hb1)
     replace R1 := Lib.hid (R1.out.ext hb1)
     replace R2 := Lib.hid (R2.out.ext hb1)
     replace H13 := Lib.hid (H13.out.ext hb1)
     replace R3 := Lib.hid (R3.out.ext hb1)
     replace H14 := Lib.hid (H14.out.ext hb1)
     replace hbw := nT hbw hb1
     have R4 := Lib.hid hr1
     clear hr1
     clear hb1
     refine hr_one rfl (by kernel_rfl) (fun K hK => ?_)
     refine wp_call (HWA.out _ _ R1.out) (by kernel_rfl) ?_
     rintro v1 W17 hb1 hr1
     obtain ⟨Us, UA, Uc, Un, rfl, hr1⟩ := hr1.shape
     refine hK.out _ _ ?_ ?_
     · exact HB.out.ext hb1
     clear hK K
     (try (conv => arg 6; simp only [Act.put, gL]))
     replace HB := Lib.hid (HB.out.ext hb1)
     replace HO0 := Lib.hid (HO0.out.ext hb1)
     replace R1 := Lib.hid (R1.out.ext hb1)
     replace R2 := Lib.hid (R2.out.ext hb1)
     replace H13 := Lib.hid (H13.out.ext hb1)
     replace R3 := Lib.hid (R3.out.ext hb1)
     replace H14 := Lib.hid (H14.out.ext hb1)
     replace R4 := Lib.hid (R4.out.ext hb1)
     replace hbw := nT hbw hb1
     have R5 := Lib.hid hr1
     clear hr1
     clear hb1
     refine hr_one rfl (by kernel_rfl) (fun K hK => ?_)
     refine wp_call (HGH.out _ _ _ (H2.out.ext hbw).num R5.out) (by kernel_rfl) ?_
     rintro v1 W18 hb1 hr1
     obtain ⟨HA, Hc, Hn, rfl, hr1⟩ := hr1.shape
     refine hK.out _ _ ?_ ?_
     · exact HB.out.ext hb1
     clear hK K
     (try (conv => arg 6; simp only [Act.put, gL]))
     replace HB := Lib.hid (HB.out.ext hb1)
     replace HO0 := Lib.hid (HO0.out.ext hb1)
     replace R1 := Lib.hid (R1.out.ext hb1)
     replace R2 := Lib.hid (R2.out.ext hb1)
     replace H13 := Lib.hid (H13.out.ext hb1)
     replace R3 := Lib.hid (R3.out.ext hb1)
     replace H14 := Lib.hid (H14.out.ext hb1)
     replace R4 := Lib.hid (R4.out.ext hb1)
     replace R5 := Lib.hid (R5.out.ext hb1)
     replace hbw := nT hbw hb1
     have R6 := Lib.hid hr1
     clear hr1
     clear hb1
    rotate_left 1
    exact trivial
   rotate_left 4
   refine hr_eff rfl (by kernel_rfl) (fun K hK => ?_) ?_
   focus
    go_simp
    refine hK.out _ _ ?_ ?_
    · exact HB.out.alloc _
    clear hK K
    (try (conv => arg 6; simp only [Act.put, gL]))
    have z_H14 := hbw.size
    have z_H14_HO0 := HO0.out.lt
    have z_H14_H13 := H13.out.lt
    have z_H14_H12 := cell_lt HB.out.1
    have z_H14_H11 := cell_lt HB.out.2.1
    replace HB := Lib.hid (HB.out.alloc (.cells #[.slice none 0 0] 28))
    replace HO0 := Lib.hid (HO0.out.alloc (.cells #[.slice none 0 0] 28))
    replace R1 := Lib.hid (R1.out.alloc (.cells #[.slice none 0 0] 28))
    replace R2 := Lib.hid (R2.out.alloc (.cells #[.slice none 0 0] 28))
    replace H13 := Lib.hid (H13.out.alloc (.cells #[.slice none 0 0] 28))
    replace hbw := nB3 hbw hbw.size (.cells #[.slice none 0 0] 28)
    have H14 := Lib.hid (Own.new' W13 28 [.slice none 0 0] W13.heap.size rfl)
    obtain ⟨bH14, e_H14⟩ : ∃ b, W13.heap.size = b := ⟨_, rfl⟩
    simp only [e_H14] at H14 z_H14 z_H14_HO0 z_H14_H13 z_H14_H12 z_H14_H11 ⊢
    generalize (W13.alloc (.cells #[.slice none 0 0] 28)) = W14 at HB HO0 R1 R2 H13 H14 hbw ⊢
    refine hr_one rfl (by kernel_rfl) (fun K hK => ?_)
    refine wp_call (HWB.out _ _ R2.out) (by kernel_rfl) ?_
    rintro v1 W15 hb1 hr1
    obtain ⟨Vs, VA, Vc, Vn, rfl, hr1⟩ := hr1.shape
    refine hK.out _ _ ?_ ?_
    · exact HB.out.ext hb1
    clear hK K
    (try (conv => arg 6; simp only [Act.put, gL]))
    replace HB := Lib.hid (HB.out.ext hb1)
    replace HO0 := Lib.hid (HO0.out.ext hb1)
    replace R1 := Lib.hid (R1.out.ext hb1)
    replace R2 := Lib.hid (R2.out.ext hb1)
    replace H13 := Lib.hid (H13.out.ext hb1)
    replace H14 := Lib.hid (H14.out.ext hb1)
    replace hbw := nT hbw hb1
    have R3 := Lib.hid hr1
    clear hr1
    clear hb1
    refine hr_one rfl (by kernel_rfl) (fun K hK => ?_)
    refine wp_call (HGG.out _ _ _ (H1.out.ext hbw).num R3.out) (by kernel_rfl) ?_
    rintro v1 W16 hb1 hr1
    obtain ⟨GA, Gc, Gn, rfl, hr1⟩ := hr1.shape
    refine hK.out _ _ ?_ ?_
    · exact HB.out.ext hb1
    clear hK K
    (try (conv => arg 6; simp only [Act.put, gL]))
    replace HB := Lib.hid (HB.out.ext hb1)
    replace HO0 := Lib.hid (HO0.out.ext hb1)
    replace R1 := Lib.hid (R1.out.ext hb1)
    replace R2 := Lib.hid (R2.out.ext hb1)
    replace H13 := Lib.hid (H13.out.ext hb1)
    replace H14 := Lib.hid (H14.out.ext hb1)
    replace R3 := Lib.hid (R3.out.ext hb1)
    replace hbw := nT hbw hb1
    have R4 := Lib.hid hr1
    clear hr1
    clear hb1
    refine hr_one rfl (by kernel_rfl) (fun K hK => ?_)
    refine wp_call (HWA.out _ _ R1.out) (by kernel_rfl) ?_
    rintro v1 W17 hb1 hr1
    obtain ⟨Us, UA, Uc, Un, rfl, hr1⟩ := hr1.shape
    refine hK.out _ _ ?_ ?_
    · exact HB.out.ext hb1
    clear hK K
    (try (conv => arg 6; simp only [Act.put, gL]))
    replace HB := Lib.hid (HB.out.ext hb1)
    replace HO0 := Lib.hid (HO0.out.ext hb1)
    replace R1 := Lib.hid (R1.out.ext hb1)
    replace R2 := Lib.hid (R2.out.ext hb1)
    replace H13 := Lib.hid (H13.out.ext hb1)
    replace H14 := Lib.hid (H14.out.ext hb1)
    replace R3 := Lib.hid (R3.out.ext hb1)
    replace R4 := Lib.hid (R4.out.ext hb1)
    replace hbw := nT hbw hb1
    have R5 := Lib.hid hr1
    clear hr1
    clear hb1
    refine hr_one rfl (by kernel_rfl) (fun K hK => ?_)
    refine wp_call (HGH.out _ _ _ (H2.out.ext hbw).num R5.out) (by kernel_rfl) ?_
    rintro v1 W18 hb1 hr1
    obtain ⟨HA, Hc, Hn, rfl, hr1⟩ := hr1.shape
    refine hK.out _ _ ?_ ?_
    · exact HB.out.ext hb1
    clear hK K
    (try (conv => arg 6; simp only [Act.put, gL]))
    replace HB := Lib.hid (HB.out.ext hb1)
    replace HO0 := Lib.hid (HO0.out.ext hb1)
    replace R1 := Lib.hid (R1.out.ext hb1)
    replace R2 := Lib.hid (R2.out.ext hb1)
    replace H13 := Lib.hid (H13.out.ext hb1)
    replace H14 := Lib.hid (H14.out.ext hb1)
    replace R3 := Lib.hid (R3.out.ext hb1)
    replace R4 := Lib.hid (R4.out.ext hb1)
    replace R5 := Lib.hid (R5.out.ext hb1)
    replace hbw := nT hbw hb1
    have R6 := Lib.hid hr1
    clear hr1
    clear hb1
   rotate_left 1
   exact trivial
  rotate_left 5
  refine hr_eff rfl (by kernel_rfl) (fun K hK => ?_) ?_
  focus
   go_simp
   refine hK.out _ _ ?_ ?_
   · exact HB.out.alloc _
   clear hK K
   (try (conv => arg 6; simp only [Act.put, gL]))
   have z_H14 := hbw.size
   have z_H14_HO0 := HO0.out.lt
   have z_H14_H12 := cell_lt HB.out.1
   have z_H14_H11 := cell_lt HB.out.2.1
   replace HB := Lib.hid (HB.out.alloc (.cells #[.slice none 0 0] 28))
   replace HO0 := Lib.hid (HO0.out.alloc (.cells #[.slice none 0 0] 28))
   replace R1 := Lib.hid (R1.out.alloc (.cells #[.slice none 0 0] 28))
   replace R2 := Lib.hid (R2.out.alloc (.cells #[.slice none 0 0] 28))
   replace hbw := nB3 hbw hbw.size (.cells #[.slice none 0 0] 28)
   have H14 := Lib.hid (Own.new' W12 28 [.slice none 0 0] W12.heap.size rfl)
   obtain ⟨bH14, e_H14⟩ : ∃ b, W12.heap.size = b := ⟨_, rfl⟩
   simp only [e_H14] at H14 z_H14 z_H14_HO0 z_H14_H12 z_H14_H11 ⊢
   generalize (W12.alloc (.cells #[.slice none 0 0] 28)) = W13 at HB HO0 R1 R2 H14 hbw ⊢
   refine hr_eff rfl (by kernel_rfl) (fun K hK => ?_) ?_
   focus
    refine wp_call (HWB.out _ _ R2.out) (by kernel_rfl) ?_
    rintro v1 W14 hb1 hr1
    obtain ⟨Vs, VA, Vc, Vn, rfl, hr1⟩ := hr1.shape
    refine hK.out _ _ ?_ ?_
    · exact HB.out.ext hb1
    clear hK K
    (try (conv => arg 6; simp only [Act.put, gL]))
    replace HB := Lib.hid (HB.out.ext hb1)
    replace HO0 := Lib.hid (HO0.out.ext hb1)
    replace R1 := Lib.hid (R1.out.ext hb1)
    replace R2 := Lib.hid (R2.out.ext hb1)
    replace H14 := Lib.hid (H14.out.ext hb1)
    replace hbw := nT hbw hb1
    have R3 := Lib.hid hr1
    clear hr1
    clear hb1
    refine hr_eff rfl (by kernel_rfl) (fun K hK => ?_) ?_
    focus
     refine wp_call (HGG.out _ _ _ (H1.out.ext hbw).num R3.out) (by kernel_rfl) ?_
     rintro v1 W15 hb1 hr1
     obtain ⟨GA, Gc, Gn, rfl, hr1⟩ := hr1.shape
     refine hK.out _ _ ?_ ?_
     · exact HB.out.ext hb1
     clear hK K
     (try (conv => arg 6; simp only [Act.put, gL]))
     replace HB := Lib.hid (HB.out.ext hb1)
     replace HO0 := Lib.hid (HO0.out.ext hb1)
     replace R1 := Lib.hid (R1.out.ext hb1)
     replace R2 := Lib.hid (R2.out.ext hb1)
     replace H14 := Lib.hid (H14.out.ext hb1)
     replace R3 := Lib.hid (R3.out.ext hb1)
     replace hbw := nT hbw hb1
     have R4 := Lib.hid hr1
     clear hr1
     clear hb1
     refine hr_eff rfl (by kernel_rfl) (fun K hK => ?_) ?_
     focus
      refine wp_call (HWA.out _ _ R1.out) (by kernel_rfl) ?_
      rintro v1 W16 hb1 hr1
      obtain ⟨Us, UA, Uc, Un, rfl, hr1⟩ := hr1.shape
      refine hK.out _ _ ?_ ?_
      · exact HB.out.ext hb1
      clear hK K
      (try (conv => arg 6; simp only [Act.put, gL]))
      replace HB := Lib.hid (HB.out.ext hb1)
      replace HO0 := Lib.hid (HO0.out.ext hb1)
      replace R1 := Lib.hid (R1.out.ext hb1)
      replace R2 := Lib.hid (R2.out.ext hb1)
      replace H14 := Lib.hid (H14.out.ext hb1)
      replace R3 := Lib.hid (R3.out.ext hb1)
      replace R4 := Lib.hid (R4.out.ext hb1)
      replace hbw := nT hbw hb1
      have R5 := Lib.hid hr1
      clear hr1
      clear hb1
      refine hr_eff rfl (by kernel_rfl) (fun K hK => ?_) ?_
      focus
       refine wp_call (HGH.out _ _ _ (H2.out.ext hbw).num R5.out) (by kernel_rfl) ?_
       rintro v1 W17 hb1 hr1
       obtain ⟨HA, Hc, Hn, rfl, hr1⟩ := hr1.shape
       refine hK.out _ _ ?_ ?_
       · exact HB.out.ext hb1
       clear hK K
       (try (conv => arg 6; simp only [Act.put, gL]))
       replace HB := Lib.hid (HB.out.ext hb1)
       replace HO0 := Lib.hid (HO0.out.ext hb1)
       replace R1 := Lib.hid (R1.out.ext hb1)
       replace R2 := Lib.hid (R2.out.ext hb1)
       replace H14 := Lib.hid (H14.out.ext hb1)
       replace R3 := Lib.hid (R3.out.ext hb1)
       replace R4 := Lib.hid (R4.out.ext hb1)
       replace R5 := Lib.hid (R5.out.ext hb1)
       replace hbw := nT hbw hb1
       have R6 := Lib.hid hr1
       clear hr1
       clear hb1
       refine hr_one rfl (by kernel_rfl) (fun K hK => ?_)
       go_simp
       refine hK.out _ _ ?_ ?_
       · exact HB.out.alloc _
       clear hK K
       (try (conv => arg 6; simp only [Act.put, gL]))
       have z_H13 := hbw.size
       have z_H13_HO0 := HO0.out.lt
       have z_H13_H14 := H14.out.lt
       have z_H13_H12 := cell_lt HB.out.1
       have z_H13_H11 := cell_lt HB.out.2.1
       replace HB := Lib.hid (HB.out.alloc (.cells #[.slice none 0 0] 28))
       replace HO0 := Lib.hid (HO0.out.alloc (.cells #[.slice none 0 0] 28))
       replace R1 := Lib.hid (R1.out.alloc (.cells #[.slice none 0 0] 28))
       replace R2 := Lib.hid (R2.out.alloc (.cells #[.slice none 0 0] 28))
       replace H14 := Lib.hid (H14.out.alloc (.cells #[.slice none 0 0] 28))
       replace R3 := Lib.hid (R3.out.alloc (.cells #[.slice none 0 0] 28))
       replace R4 := Lib.hid (R4.out.alloc (.cells #[.slice none 0 0] 28))
       replace R5 := Lib.hid (R5.out.alloc (.cells #[.slice none 0 0] 28))
       replace R6 := Lib.hid (R6.out.alloc (.cells #[.slice none 0 0] 28))
       replace hbw := nB3 hbw hbw.size (.cells #[.slice none 0 0] 28)
       have H13 := Lib.hid (Own.new' W17 28 [.slice none 0 0] W17.heap.size rfl)
       obtain ⟨bH13, e_H13⟩ : ∃ b, W17.heap.size = b := ⟨_, rfl⟩
       simp only [e_H13] at H13 z_H13 z_H13_HO0 z_H13_H14 z_H13_H12 z_H13_H11 ⊢
       generalize (W17.alloc (.cells #[.slice none 0 0] 28)) = W18 at HB HO0 R1 R2 H14 R3 R4 R5 R6 H13 hbw ⊢
      rotate_left 1
      refine hr_eff rfl (by kernel_rfl) (fun K hK => ?_) ?_
      focus
       go_simp
       refine hK.out _ _ ?_ ?_
       · exact HB.out.alloc _
       clear hK K
       (try (conv => arg 6; simp only [Act.put, gL]))
       have z_H13 := hbw.size
       have z_H13_HO0 := HO0.out.lt
       have z_H13_H14 := H14.out.lt
       have z_H13_H12 := cell_lt HB.out.1
       have z_H13_H11 := cell_lt HB.out.2.1
       replace HB := Lib.hid (HB.out.alloc (.cells #[.slice none 0 0] 28))
       replace HO0 := Lib.hid (HO0.out.alloc (.cells #[.slice none 0 0] 28))
       replace R1 := Lib.hid (R1.out.alloc (.cells #[.slice none 0 0] 28))
       replace R2 := Lib.hid (R2.out.alloc (.cells #[.slice none 0 0] 28))
       replace H14 := Lib.hid (H14.out.alloc (.cells #[.slice none 0 0] 28))
       replace R3 := Lib.hid (R3.out.alloc (.cells #[.slice none 0 0] 28))
       replace R4 := Lib.hid (R4.out.alloc (.cells #[.slice none 0 0] 28))
       replace R5 := Lib.hid (R5.out.alloc (.cells #[.slice none 0 0] 28))
       replace hbw := nB3 hbw hbw.size (.cells #[.slice none 0 0] 28)
       have H13 := Lib.hid (Own.new' W16 28 [.slice none 0 0] W16.heap.size rfl)
       obtain ⟨bH13, e_H13⟩ : ∃ b, W16.heap.size = b := ⟨_, rfl⟩
       simp only [e_H13] at H13 z_H13 z_H13_HO0 z_H13_H14 z_H13_H12 z_H13_H11 ⊢
       generalize (W16.alloc (.cells #[.slice none 0 0] 28)) = W17 at HB HO0 R1 R2 H14 R3 R4 R5 H13 hbw ⊢
       refine hr_one rfl (by kernel_rfl) (fun K hK => ?_)
       refine wp_call (HGH.out _ _ _ (H2.out.ext hbw).num R5.out) (by kernel_rfl) ?_
       rintro v1 W18 hb1 hr1
       obtain ⟨HA, Hc, Hn, rfl, hr1⟩ := hr1.shape
       refine hK.out _ _ ?_ ?_
       · exact HB.out.ext hb1
       clear hK K
       (try (conv => arg 6; simp only [Act.put, gL]))
       replace HB := Lib.hid (HB.out.ext hb1)
       replace HO0 := Lib.hid (HO0.out.ext hb1)
       replace R1 := Lib.hid (R1.out.ext hb1)
       replace R2 := Lib.hid (R2.out.ext hb1)
       replace H14 := Lib.hid (H14.out.ext hb1)
       replace R3 := Lib.hid (R3.out.ext hb1)
       replace R4 := Lib.hid (R4.out.ext hb1)
       replace R5 := Lib.hid (R5.out.ext hb1)
       replace H13 := Lib.hid (H13.out.ext hb1)
       replace hbw := nT hbw hb1
       have R6 := Lib.hid hr1
       clear hr1
       clear hb1
      rotate_left 1
      exact trivial
     rotate_left 2
     refine hr_eff rfl (by kernel_rfl) (fun K hK => ?_) ?_
     focus
      go_simp
      refine hK.out _ _ ?_ ?_
      · exact HB.out.alloc _
      clear hK K
      (try (conv => arg 6; simp only [Act.put, gL]))
      have z_H13 := hbw.size
      have z_H13_HO0 := HO0.out.lt
      have z_H13_H14 := H14.out.lt
      have z_H13_H12 := cell_lt HB.out.1
      have z_H13_H11 := cell_lt HB.out.2.1
      replace HB := Lib.hid (HB.out.alloc (.cells #[.slice none 0 0] 28))
      replace HO0 := Lib.hid (HO0.out.alloc (.cells #[.slice none 0 0] 28))
      replace R1 := Lib.hid (R1.out.alloc (.cells #[.slice none 0 0] 28))
      replace R2 := Lib.hid (R2.out.alloc (.cells #[.slice none 0 0] 28))
      replace H14 := Lib.hid (H14.out.alloc (.cells #[.slice none 0 0] 28))
      replace R3 := Lib.hid (R3.out.alloc (.cells #[.slice none 0 0] 28))
      replace R4 := Lib.hid (R4.out.alloc (.cells #[.slice none 0 0] 28))
      replace hbw := nB3 hbw hbw.size (.cells #[.slice none 0 0] 28)
      have H13 := Lib.hid (Own.new' W15 28 [.slice none 0 0] W15.heap.size rfl)
      obtain ⟨bH13, e_H13⟩ : ∃ b, W15.heap.size = b := ⟨_, rfl⟩
      simp only [e_H13] at H13 z_H13 z_H13_HO0 z_H13_H14 z_H13_H12 z_H13_H11 ⊢
      generalize (W15.alloc (.cells #[.slice none 0 0] 28)) = W16 at HB HO0 R1 R2 H14 R3 R4 H13 hbw ⊢
      refine hr_one rfl (by kernel_rfl) (fun K hK => ?_)
      refine wp_call (HWA.out _ _ R1.out) (by kernel_rfl) ?_
      rintro v1 W17 hb1 hr1
      obtain ⟨Us, UA, Uc, Un, rfl, hr1⟩ := hr1.shape
      refine hK.out _ _ ?_ ?_
      · exact HB.out.ext hb1
      clear hK K
      (try (conv => arg 6; simp only [Act.put, gL]))
      replace HB := Lib.hid (HB.out.ext hb1)
      replace HO0 := Lib.hid (HO0.out.ext hb1)
      replace R1 := Lib.hid (R1.out.ext hb1)
      replace R2 := Lib.hid (R2.out.ext hb1)
      replace H14 := Lib.hid (H14.out.ext hb1)
      replace R3 := Lib.hid (R3.out.ext hb1)
      replace R4 := Lib.hid (R4.out.ext hb1)
      replace H13 := Lib.hid (H13.out.ext hb1)
      replace hbw := nT hbw hb1
      have R5 := Lib.hid hr1
      clear hr1
      clear hb1
      refine hr_one rfl (by kernel_rfl) (fun K hK => ?_)
      refine wp_call (HGH.out _ _ _ (H2.out.ext hbw).num R5.out) (by kernel_rfl) ?_
      rintro v1 W18 hb1 hr1
      obtain ⟨HA, Hc, Hn, rfl, hr1⟩ := hr1.shape
      refine hK.out _ _ ?_ ?_
      · exact HB.out.ext hb1
      clear hK K
      (try (conv => arg 6; simp only [Act.put, gL]))
      replace HB := Lib.hid (HB.out.ext hb1)
      replace HO0 := Lib.hid (HO0.out.ext hb1)
      replace R1 := Lib.hid (R1.out.ext hb1)
      replace R2 := Lib.hid (R2.out.ext hb1)
      replace H14 := Lib.hid (H14.out.ext hb1)
      replace R3 := Lib.hid (R3.out.ext hb1)
      replace R4 := Lib.hid (R4.out.ext hb1)
      replace H13 := Lib.hid (H13.out.ext hb1)
      replace R5 := Lib.hid (R5.out.ext hb1)
      replace hbw := nT hbw hb1
      have R6 := Lib.hid hr1
      clear hr1
      clear hb1
     rotate_left 1
     exact trivial
    rotate_left 3
    refine hr_eff rfl (by kernel_rfl) (fun K hK => ?_) ?_
    focus
     go_simp
     refine hK.out _ _ ?_ ?_
     · exact HB.out.alloc _
     clear hK K
     (try (conv => arg 6; simp only [Act.put, gL]))
     have z_H13 := hbw.size
     have z_H13_HO0 := HO0.out.lt
     have z_H13_H14 := H14.out.lt
     have z_H13_H12 := cell_lt HB.out.1
     have z_H13_H11 := cell_lt HB.out.2.1
     replace HB := Lib.hid (HB.out.alloc (.cells #[.slice none 0 0] 28))
     replace HO0 := Lib.hid (HO0.out.alloc (.cells #[.slice none 0 0] 28))
     replace R1 := Lib.hid (R1.out.alloc (.cells #[.slice none 0 0] 28))
     replace R2 := Lib.hid (R2.out.alloc (.cells #[.slice none 0 0] 28))
     replace H14 := Lib.hid (H14.out.alloc (.cells #[.slice none 0 0] 28))
     replace R3 := Lib.hid (R3.out.alloc (.cells #[.slice none 0 0] 28))
     replace hbw := nB3 hbw hbw.size (.cells #[.slice none 0 0] 28)
     have H13 := Lib.hid (Own.new' W14 28 [.slice none 0 0] W14.heap.size rfl)
     obtain ⟨bH13, e_H13⟩ : ∃ b, W14.heap.size = b := ⟨_, rfl⟩
     simp only [e_H13] at H13 z_H13 z_H13_HO0 z_H13_H14 z_H13_H12 z_H13_H11 ⊢
     generalize (W14.alloc (.cells #[.slice none 0 0] 28)) = W15 at HB HO0 R1 R2 H14 R3 H13 hbw ⊢
     refine hr_one rfl (by kernel_rfl) (fun K hK => ?_)
     refine wp_call (HGG.out _ _ _ (H1.out.ext hbw).num R3.out) (by kernel_rfl) ?_
     rintro v1 W16 hb1 hr1
     obtain ⟨GA, Gc, Gn, rfl, hr1⟩ := hr1.shape
     refine hK.out _ _ ?_ ?_
     · exact HB.out.ext hb1
     clear hK K
     (try (conv => arg 6; simp only [Act.put, gL]))
     replace HB := Lib.hid (HB.out.ext hb1)
     replace HO0 := Lib.hid (HO0.out.ext hb1)
     replace R1 := Lib.hid (R1.out.ext hb1)
     replace R2 := Lib.hid (R2.out.ext hb1)
     replace H14 := Lib.hid (H14.out.ext hb1)
     replace R3 := Lib.hid (R3.out.ext hb1)
     replace H13 := Lib.hid (H13.out.ext hb1)
     replace hbw := nT hbw hb1
     have R4 := Lib.hid hr1
     clear hr1
     clear hb1
     refine hr_one rfl (by kernel_rfl) (fun K hK => ?_)
     refine wp_call (HWA.out _ _ R1.out) (by kernel_rfl) ?_
     rintro v1 W17 hb1 hr1
     obtain ⟨Us, UA, Uc, Un, rfl, hr1⟩ := hr1.shape
     refine hK.out _ _ ?_ ?_
     · exact HB.out.ext hb1
     clear hK K
     (try (conv => arg 6; simp only [Act.put, gL]))
     replace HB := Lib.hid (HB.out.ext hb1)
     replace HO0 := Lib.hid (HO0.out.ext hb1)
     replace R1 := Lib.hid (R1.out.ext hb1)
     replace R2 := Lib.hid (R2.out.ext hb1)
     replace H14 := Lib.hid (H14.out.ext hb1)
     replace R3 := Lib.hid (R3.out.ext hb1)
     replace H13 := Lib.hid (H13.out.ext hb1)
     replace R4 := Lib.hid (R4.out.ext hb1)
     replace hbw := nT hbw hb1
     have R5 := Lib.hid hr1
     clear hr1
     clear hb1
     refine hr_one rfl (by kernel_rfl) (fun K hK => ?_)
     refine wp_call (HGH.out _ _ _ (H2.out.ext hbw).num R5.out) (by kernel_rfl) ?_
     rintro v1 W18 hb1 hr1
     obtain ⟨HA, Hc, Hn, rfl, hr1⟩ := hr1.shape
     refine hK.out _ _ ?_ ?_
     · exact HB.out.ext hb1
     clear hK K
     (try (conv => arg 6; simp only [Act.put, gL]))
     replace HB := Lib.hid (HB.out.ext hb1)
     replace HO0 := Lib.hid (HO0.out.ext hb1)
     replace R1 := Lib.hid (R1.out.ext hb1)
     replace R2 := Lib.hid (R2.out.ext hb1)
     replace H14 := Lib.hid (H14.out.ext hb1)
     replace R3 := Lib.hid (R3.out.ext hb1)
     replace H13 := Lib.hid (H13.out.ext hb1)
     replace R4 := Lib.hid (R4.out.ext hb1)
     replace R5 := Lib.hid (R5.out.ext hb1)
     replace hbw := nT hbw hb1
     have R6 := Lib.hid hr1
     clear hr1
     clear hb1
    rotate_left 1
    exact trivial
   rotate_left 4
   refine hr_eff rfl (by kernel_rfl) (fun K hK => ?_) ?_
   focus
    go_simp
    refine hK.out _ _ ?_ ?_
    · exact HB.out.alloc _
    clear hK K
    (try (conv => arg 6; simp only [Act.put, gL]))
    have z_H13 := hbw.size
    have z_H13_HO0 := HO0.out.lt
    have z_H13_H14 := H14.out.lt
    have z_H13_H12 := cell_lt HB.out.1
    have z_H13_H11 := cell_lt HB.out.2.1
    replace HB := Lib.hid (HB.out.alloc (.cells #[.slice none 0 0] 28))
    replace HO0 := Lib.hid (HO0.out.alloc (.cells #[.slice none 0 0] 28))
    replace R1 := Lib.hid (R1.out.alloc (.cells #[.slice none 0 0] 28))
    replace R2 := Lib.hid (R2.out.alloc (.cells #[.slice none 0 0] 28))
    replace H14 := Lib.hid (H14.out.alloc (.cells #[.slice none 0 0] 28))
    replace hbw := nB3 hbw hbw.size (.cells #[.slice none 0 0] 28)
    have H13 := Lib.hid (Own.new' W13 28 [.slice none 0 0] W13.heap.size rfl)
    obtain ⟨bH13, e_H13⟩ : ∃ b, W13.heap.size = b := ⟨_, rfl⟩
    simp only [e_H13] at H13 z_H13 z_H13_HO0 z_H13_H14 z_H13_H12 z_H13_H11 ⊢
    generalize (W13.alloc (.cells #[.slice none 0 0] 28)) = W14 at HB HO0 R1 R2 H14 H13 hbw ⊢
    refine hr_one rfl (by kernel_rfl) (fun K hK => ?_)
    refine wp_call (HWB.out _ _ R2.out) (by kernel_rfl) ?_
    rintro v1 W15 hb1 hr1
    obtain ⟨Vs, VA, Vc, Vn, rfl, hr1⟩ := hr1.shape
    refine hK.out _ _ ?_ ?_
    · exact HB.out.ext hb1
    clear hK K
    (try (conv => arg 6; simp only [Act.put, gL]))
    replace HB := Lib.hid (HB.out.ext hb1)
    replace HO0 := Lib.hid (HO0.out.ext hb1)
    replace R1 := Lib.hid (R1.out.ext hb1)
    replace R2 := Lib.hid (R2.out.ext hb1)
    replace H14 := Lib.hid (H14.out.ext hb1)
    replace H13 := Lib.hid (H13.out.ext hb1)
    replace hbw := nT hbw hb1
    have R3 := Lib.hid hr1
    clear hr1
    clear hb1
    refine hr_one rfl (by kernel_rfl) (fun K hK => ?_)
    refine wp_call (HGG.out _ _ _ (H1.out.ext hbw).num R3.out) (by kernel_rfl) ?_
    rintro v1 W16 hb1 hr1
    obtain ⟨GA, Gc, Gn, rfl, hr1⟩ := hr1.shape
    refine hK.out _ _ ?_ ?_
    · exact HB.out.ext hb1
    clear hK K
    (try (conv => arg 6; simp only [Act.put, gL]))
    replace HB := Lib.hid (HB.out.ext hb1)
    replace HO0 := Lib.hid (HO0.out.ext hb1)
    replace R1 := Lib.hid (R1.out.ext hb1)
    replace R2 := Lib.hid (R2.out.ext hb1)
    replace H14 := Lib.hid (H14.out.ext hb1)
    replace H13 := Lib.hid (H13.out.ext hb1)
    replace R3 := Lib.hid (R3.out.ext hb1)
    replace hbw := nT hbw hb1
    have R4 := Lib.hid hr1
    clear hr1
    clear hb1
    refine hr_one rfl (by kernel_rfl) (fun K hK => ?_)
    refine wp_call (HWA.out _ _ R1.out) (by kernel_rfl) ?_
    rintro v1 W17 hb1 hr1
    obtain ⟨Us, UA, Uc, Un, rfl, hr1⟩ := hr1.shape
    refine hK.out _ _ ?_ ?_
    · exact HB.out.ext hb1
    clear hK K
    (try (conv => arg 6; simp only [Act.put, gL]))
    replace HB := Lib.hid (HB.out.ext hb1)
    replace HO0 := Lib.hid (HO0.out.ext hb1)
    replace R1 := Lib.hid (R1.out.ext hb1)
    replace R2 := Lib.hid (R2.out.ext hb1)
    replace H14 := Lib.hid (H14.out.ext hb1)
    replace H13 := Lib.hid (H13.out.ext hb1)
    replace R3 := Lib.hid (R3.out.ext hb1)
    replace R4 := Lib.hid (R4.out.ext hb1)
    replace hbw := nT hbw hb1
    have R5 := Lib.hid hr1
    clear hr1
    clear hb1
    refine hr_one rfl (by kernel_rfl) (fun K hK => ?_)
    refine wp_call (HGH.out _ _ _ (H2.out.ext hbw).num R5.out) (by kernel_rfl) ?_
    rintro v1 W18 hb1 hr1
    obtain ⟨HA, Hc, Hn, rfl, hr1⟩ := hr1.shape
    refine hK.out _ _ ?_ ?_
    · exact HB.out.ext hb1
    clear hK K
    (try (conv => arg 6; simp only [Act.put, gL]))
    replace HB := Lib.hid (HB.out.ext hb1)
    replace HO0 := Lib.hid (HO0.out.ext hb1)
    replace R1 := Lib.hid (R1.out.ext hb1)
    replace R2 := Lib.hid (R2.out.ext hb1)
    replace H14 := Lib.hid (H14.out.ext hb1)
    replace H13 := Lib.hid (H13.out.ext hb1)
    replace R3 := Lib.hid (R3.out.ext hb1)
    replace R4 := Lib.hid (R4.out.ext hb1)
    replace R5 := Lib.hid (R5.out.ext hb1)
    replace hbw := nT hbw hb1
    have R6 := Lib.hid hr1
    clear hr1
    clear hb1
   rotate_left 1
   exact trivial
  rotate_left 5
  exact trivial
  all_goals
   refine hr_one rfl (by kernel_rfl) (fun K hK => ?_)
   have q0 := H13.out.cell 0 _ rfl
   have f0 := H13.out.frozen 0
   go_simp
   refine hK.out _ _ ?_ ?_
   · exact (HB.out.set (p := ⟨bH13, 0, none⟩) _ (by simp <;> omega))
   clear hK K
   (try (conv => arg 6; simp only [Act.put, gL]))
   replace HB := Lib.hid (HB.out.set (p := ⟨bH13, 0, none⟩) (.slice GA Gn Gc) (by simp <;> omega))
   replace HO0 := Lib.hid (HO0.out.other (p := ⟨bH13, 0, none⟩) (.slice GA Gn Gc) (by simp <;> omega))
   replace R1 := Lib.hid (R1.out.set (x := .slice GA Gn Gc) q0 rfl)
   replace R2 := Lib.hid (R2.out.set (x := .slice GA Gn Gc) q0 rfl)
   replace H14 := Lib.hid (H14.out.other (p := ⟨bH13, 0, none⟩) (.slice GA Gn Gc) (by simp <;> omega))
   replace H13 := Lib.hid (H13.out.set 0 (.slice GA Gn Gc))
   replace R3 := Lib.hid (R3.out.set (x := .slice GA Gn Gc) q0 rfl)
   replace R4 := Lib.hid (R4.out.set (x := .slice GA Gn Gc) q0 rfl)
   replace R5 := Lib.hid (R5.out.set (x := .slice GA Gn Gc) q0 rfl)
   replace R6 := Lib.hid (R6.out.set (x := .slice GA Gn Gc) q0 rfl)
   replace hbw := nB4 hbw (show w.heap.size ≤ (⟨bH13, 0, none⟩ : Addr).block by simp <;> omega) (.slice GA Gn Gc)
   clear q0 f0
   replace H13 : Hid (Own _ _ _ [.slice GA Gn Gc]) := H13
   generalize (W18.setCell ⟨bH13, 0, none⟩ (.slice GA Gn Gc)) = W19 at HB HO0 R1 R2 H14 H13 R3 R4 R5 R6 hbw ⊢
   refine hr_one rfl (by kernel_rfl) (fun K hK => ?_)
   have q0 := H14.out.cell 0 _ rfl
   have f0 := H14.out.frozen 0
   go_simp
   refine hK.out _ _ ?_ ?_
   · exact (HB.out.set (p := ⟨bH14, 0, none⟩) _ (by simp <;> omega))
   clear hK K
   (try (conv => arg 6; simp only [Act.put, gL]))
   replace HB := Lib.hid (HB.out.set (p := ⟨bH14, 0, none⟩) (.slice HA Hn Hc) (by simp <;> omega))
   replace HO0 := Lib.hid (HO0.out.other (p := ⟨bH14, 0, none⟩) (.slice HA Hn Hc) (by simp <;> omega))
   replace R1 := Lib.hid (R1.out.set (x := .slice HA Hn Hc) q0 rfl)
   replace R2 := Lib.hid (R2.out.set (x := .slice HA Hn Hc) q0 rfl)
   replace H14 := Lib.hid (H14.out.set 0 (.slice HA Hn Hc))
   replace H13 := Lib.hid (H13.out.other (p := ⟨bH14, 0, none⟩) (.slice HA Hn Hc) (by simp <;> omega))
   replace R3 := Lib.hid (R3.out.set (x := .slice HA Hn Hc) q0 rfl)
   replace R4 := Lib.hid (R4.out.set (x := .slice HA Hn Hc) q0 rfl)
   replace R5 := Lib.hid (R5.out.set (x := .slice HA Hn Hc) q0 rfl)
   replace R6 := Lib.hid (R6.out.set (x := .slice HA Hn Hc) q0 rfl)
   replace hbw := nB4 hbw (show w.heap.size ≤ (⟨bH14, 0, none⟩ : Addr).block by simp <;> omega) (.slice HA Hn Hc)
   clear q0 f0
   replace H14 : Hid (Own _ _ _ [.slice HA Hn Hc]) := H14
   generalize (W19.setCell ⟨bH14, 0, none⟩ (.slice HA Hn Hc)) = W20 at HB HO0 R1 R2 H14 H13 R3 R4 R5 R6 hbw ⊢
   refine hr_done ?_
   go_wp2
   go_meet
   exact ⟨bH14, bH13, GA, Gc, Gn, HA, Hc, Hn, rfl, rfl, hbw, HB.out, HO0.out, R1.out, R2.out, R4.out, R6.out, H13.out, H14.out, by omega, by omega, by omega, by omega, by omega, by omega, by omega⟩
 obtain ⟨bH14, bH13, GA, Gc, Gn, HA, Hc, Hn, rfl, rfl, hbw, h_HB, h_HO0, h_R1, h_R2, h_R4, h_R6, h_H13, h_H14, z_H13_HO0, z_H13_H12, z_H13_H11, z_H14_HO0, z_H14_H13, z_H14_H12, z_H14_H11⟩ := hcut
 try clear HB HO0 R1 R2 R4 R6 H13 H14
 have HB := Lib.hid h_HB
 clear h_HB
 have HO0 := Lib.hid h_HO0
 clear h_HO0
 have R1 := Lib.hid h_R1
 clear h_R1
 have R2 := Lib.hid h_R2
 clear h_R2
 have R4 := Lib.hid h_R4
 clear h_R4
 have R6 := Lib.hid h_R6
 clear h_R6
 have H13 := Lib.hid h_H13
 clear h_H13
 have H14 := Lib.hid h_H14
 clear h_H14
 replace HB := Lib.hid (Cells.cons (H13.out.cell 0 _ rfl) HB.out)
 replace HB := Lib.hid (Cells.cons (H14.out.cell 0 _ rfl) HB.out)
 go_wp2_with fail
 replace HB := Lib.hid (HB.out.drew)
 replace HO0 := Lib.hid (HO0.out.drew)
 replace R1 := Lib.hid (R1.out.drew)
 replace R2 := Lib.hid (R2.out.drew)
 replace R4 := Lib.hid (R4.out.drew)
 replace R6 := Lib.hid (R6.out.drew)
 replace hbw := Below.drew hbw
 refine wp_hoist [(0, true), (1, true), (2, true), (4, true), (5, true), (6, true), (9, true), (10, true), (12, true), (13, true), (3, false), (7, false), (8, false), (11, false), (14, false), (15, false), (16, false), (17, false)] (Cells [(bH14, 0, .slice HA Hn Hc), (bH13, 0, .slice GA Gn Gc), (bH12, 0, .slice QA Qn Qc), (bH11, 0, .slice PA Pn Pc), (w.heap.size, 0, .bool s1), (w.heap.size, 1, .slice A1 n1 c1), (w.heap.size, 2, .slice B1 m1 k1), (w.heap.size + 1, 0, .bool s2), (w.heap.size + 1, 1, .slice A2 n2 c2), (w.heap.size + 1, 2, .slice B2 m2 k2)]) (by kernel_rfl) (by kernel_rfl) ?_ ?_
 · exact HB.out
 generalize wc.drew = W21 at HB HO0 R1 R2 R4 R6 hbw ⊢
 refine hz_yes (v := ?_) rfl (by kernel_rfl) (fun W hW => ?_) ?_; rotate_left; (go_simp; try with_reducible rfl)
 (try (conv => arg 6; simp only [Act.put, gL]))
 refine hz_yes (v := ?_) rfl (by kernel_rfl) (fun W hW => ?_) ?_; rotate_left; (obtain ⟨y0, y1, y2, y3, y4, y5, y6, y7, y8, y9, _⟩ := hW; go_simp; try with_reducible rfl)
 (try (conv => arg 6; simp only [Act.put, gL]))
 refine hz_yes (v := ?_) rfl (by kernel_rfl) (fun W hW => ?_) ?_; rotate_left; (obtain ⟨y0, y1, y2, y3, y4, y5, y6, y7, y8, y9, _⟩ := hW; go_simp; try with_reducible rfl)
 (try (conv => arg 6; simp only [Act.put, gL]))
 refine hz_yes (v := ?_) rfl (by kernel_rfl) (fun W hW => ?_) ?_; rotate_left; (go_simp; try with_reducible rfl)
 (try (conv => arg 6; simp only [Act.put, gL]))
 refine hz_yes (v := ?_) rfl (by kernel_rfl) (fun W hW => ?_) ?_; rotate_left; (obtain ⟨y0, y1, y2, y3, y4, y5, y6, y7, y8, y9, _⟩ := hW; go_simp; try with_reducible rfl)
 (try (conv => arg 6; simp only [Act.put, gL]))
 refine hz_yes (v := ?_) rfl (by kernel_rfl) (fun W hW => ?_) ?_; rotate_left; (obtain ⟨y0, y1, y2, y3, y4, y5, y6, y7, y8, y9, _⟩ := hW; go_simp; try with_reducible rfl)
 (try (conv => arg 6; simp only [Act.put, gL]))
 refine hz_yes (v := ?_) rfl (by kernel_rfl) (fun W hW => ?_) ?_; rotate_left; (obtain ⟨y0, y1, y2, y3, y4, y5, y6, y7, y8, y9, _⟩ := hW; go_simp; try with_reducible rfl)
 (try (conv => arg 6; simp only [Act.put, gL]))
 refine hz_yes (v := ?_) rfl (by kernel_rfl) (fun W hW => ?_) ?_; rotate_left; (obtain ⟨y0, y1, y2, y3, y4, y5, y6, y7, y8, y9, _⟩ := hW; go_simp; try with_reducible rfl)
 (try (conv => arg 6; simp only [Act.put, gL]))
 refine hz_yes (v := ?_) rfl (by kernel_rfl) (fun W hW => ?_) ?_; rotate_left; (obtain ⟨y0, y1, y2, y3, y4, y5, y6, y7, y8, y9, _⟩ := hW; go_simp; try with_reducible rfl)
 (try (conv => arg 6; simp only [Act.put, gL]))
 refine hz_yes (v := ?_) rfl (by kernel_rfl) (fun W hW => ?_) ?_; rotate_left; (obtain ⟨y0, y1, y2, y3, y4, y5, y6, y7, y8, y9, _⟩ := hW; go_simp; try with_reducible rfl)
 (try (conv => arg 6; simp only [Act.put, gL]))
 refine hz_eff rfl (by kernel_rfl) (fun K hK => ?_)
 refine wp_call (HBP.out _ _ _ (H1.out.ext hbw).num R4.out) (by kernel_rfl) ?_
 rintro v1 W22 hb1 hr1
 obtain ⟨Is, IA, Ic, In, rfl, hr1⟩ := hr1.shape
 refine hK.out _ _ ?_ ?_
 · exact HB.out.ext hb1
 clear hK K
 (try (conv => arg 6; simp only [Act.put, gL]))
 replace HB := Lib.hid (HB.out.ext hb1)
 replace HO0 := Lib.hid (HO0.out.ext hb1)
 replace R1 := Lib.hid (R1.out.ext hb1)
 replace R2 := Lib.hid (R2.out.ext hb1)
 replace R4 := Lib.hid (R4.out.ext hb1)
 replace R6 := Lib.hid (R6.out.ext hb1)
 replace hbw := nT hbw hb1
 have R7 := Lib.hid hr1
 clear hr1
 clear hb1
 refine hz_eff rfl (by kernel_rfl) (fun K hK => ?_)
 refine wp_call (HBQ.out _ _ _ (H2.out.ext hbw).num R6.out) (by kernel_rfl) ?_
 rintro v1 W23 hb1 hr1
 obtain ⟨Js, JA, Jc, Jn, rfl, hr1⟩ := hr1.shape
 refine hK.out _ _ ?_ ?_
 · exact HB.out.ext hb1
 clear hK K
 (try (conv => arg 6; simp only [Act.put, gL]))
 replace HB := Lib.hid (HB.out.ext hb1)
 replace HO0 := Lib.hid (HO0.out.ext hb1)
 replace R1 := Lib.hid (R1.out.ext hb1)
 replace R2 := Lib.hid (R2.out.ext hb1)
 replace R4 := Lib.hid (R4.out.ext hb1)
 replace R6 := Lib.hid (R6.out.ext hb1)
 replace R7 := Lib.hid (R7.out.ext hb1)
 replace hbw := nT hbw hb1
 have R8 := Lib.hid hr1
 clear hr1
 clear hb1
 refine hz_eff rfl (by kernel_rfl) (fun K hK => ?_)
 refine wp_call (HPQ.out _ _ _ R7.out R8.out) (by kernel_rfl) ?_
 rintro v1 W24 hb1 hr1
 obtain ⟨Zs, ZA, Zc, Zn, rfl, hr1⟩ := hr1.shape
 refine hK.out _ _ ?_ ?_
 · exact HB.out.ext hb1
 clear hK K
 (try (conv => arg 6; simp only [Act.put, gL]))
 replace HB := Lib.hid (HB.out.ext hb1)
 replace HO0 := Lib.hid (HO0.out.ext hb1)
 replace R1 := Lib.hid (R1.out.ext hb1)
 replace R2 := Lib.hid (R2.out.ext hb1)
 replace R4 := Lib.hid (R4.out.ext hb1)
 replace R6 := Lib.hid (R6.out.ext hb1)
 replace R7 := Lib.hid (R7.out.ext hb1)
 replace R8 := Lib.hid (R8.out.ext hb1)
 replace hbw := nT hbw hb1
 have R15 := Lib.hid hr1
 clear hr1
 clear hb1
 refine hz_eff rfl (by kernel_rfl) (fun K hK => ?_)
 refine wp_call (HUX.out _ _ _ R1.out R6.out) (by kernel_rfl) ?_
 rintro v1 W25 hb1 hr1
 obtain ⟨XA, Xc, Xn, rfl, hr1⟩ := hr1.shape
 refine hK.out _ _ ?_ ?_
 · exact HB.out.ext hb1
 clear hK K
 (try (conv => arg 6; simp only [Act.put, gL]))
 replace HB := Lib.hid (HB.out.ext hb1)
 replace HO0 := Lib.hid (HO0.out.ext hb1)
 replace R1 := Lib.hid (R1.out.ext hb1)
 replace R2 := Lib.hid (R2.out.ext hb1)
 replace R4 := Lib.hid (R4.out.ext hb1)
 replace R6 := Lib.hid (R6.out.ext hb1)
 replace R7 := Lib.hid (R7.out.ext hb1)
 replace R8 := Lib.hid (R8.out.ext hb1)
 replace R15 := Lib.hid (R15.out.ext hb1)
 replace hbw := nT hbw hb1
 have R9 := Lib.hid hr1
 clear hr1
 clear hb1
 refine hz_eff rfl (by kernel_rfl) (fun K hK => ?_)
 refine wp_call (HUY.out _ _ _ R2.out R4.out) (by kernel_rfl) ?_
 rintro v1 W26 hb1 hr1
 obtain ⟨YA, Yc, Yn, rfl, hr1⟩ := hr1.shape
 refine hK.out _ _ ?_ ?_
 · exact HB.out.ext hb1
 clear hK K
 (try (conv => arg 6; simp only [Act.put, gL]))
 replace HB := Lib.hid (HB.out.ext hb1)
 replace HO0 := Lib.hid (HO0.out.ext hb1)
 replace R1 := Lib.hid (R1.out.ext hb1)
 replace R2 := Lib.hid (R2.out.ext hb1)
 replace R4 := Lib.hid (R4.out.ext hb1)
 replace R6 := Lib.hid (R6.out.ext hb1)
 replace R7 := Lib.hid (R7.out.ext hb1)
 replace R8 := Lib.hid (R8.out.ext hb1)
 replace R15 := Lib.hid (R15.out.ext hb1)
 replace R9 := Lib.hid (R9.out.ext hb1)
 replace hbw := nT hbw hb1
 have R16 := Lib.hid hr1
 clear hr1
 clear hb1
 refine hz_eff rfl (by kernel_rfl) (fun K hK => ?_)
 refine wp_call (HMX.out _ _ _ R9.out R16.out) (by kernel_rfl) ?_
 rintro v1 W27 hb1 hr1
 obtain ⟨EA, Ec, En, rfl, hr1⟩ := hr1.shape
 refine hK.out _ _ ?_ ?_
 · exact HB.out.ext hb1
 clear hK K
 (try (conv => arg 6; simp only [Act.put, gL]))
 replace HB := Lib.hid (HB.out.ext hb1)
 replace HO0 := Lib.hid (HO0.out.ext hb1)
 replace R1 := Lib.hid (R1.out.ext hb1)
 replace R2 := Lib.hid (R2.out.ext hb1)
 replace R4 := Lib.hid (R4.out.ext hb1)
 replace R6 := Lib.hid (R6.out.ext hb1)
 replace R7 := Lib.hid (R7.out.ext hb1)
 replace R8 := Lib.hid (R8.out.ext hb1)
 replace R15 := Lib.hid (R15.out.ext hb1)
 replace R9 := Lib.hid (R9.out.ext hb1)
 replace R16 := Lib.hid (R16.out.ext hb1)
 replace hbw := nT hbw hb1
 have R17 := Lib.hid hr1
 clear hr1
 clear hb1
 refine hz_eff rfl (by kernel_rfl) (fun K hK => ?_)
 refine wp_call (HLW.out _ _ _ R15.out R17.out) (by kernel_rfl) ?_
 rintro v1 W28 hb1 hr1
 obtain ⟨Fs, FA, Fc, Fn, FB, Fd, Fm, rfl, hr1⟩ := hr1.shape
 refine hK.out _ _ ?_ ?_
 · exact HB.out.ext hb1
 clear hK K
 (try (conv => arg 6; simp only [Act.put, gL]))
 replace HB := Lib.hid (HB.out.ext hb1)
 replace HO0 := Lib.hid (HO0.out.ext hb1)
 replace R1 := Lib.hid (R1.out.ext hb1)
 replace R2 := Lib.hid (R2.out.ext hb1)
 replace R4 := Lib.hid (R4.out.ext hb1)
 replace R6 := Lib.hid (R6.out.ext hb1)
 replace R7 := Lib.hid (R7.out.ext hb1)
 replace R8 := Lib.hid (R8.out.ext hb1)
 replace R15 := Lib.hid (R15.out.ext hb1)
 replace R9 := Lib.hid (R9.out.ext hb1)
 replace R16 := Lib.hid (R16.out.ext hb1)
 replace R17 := Lib.hid (R17.out.ext hb1)
 replace hbw := nT hbw hb1
 have R18 := Lib.hid hr1
 clear hr1
 clear hb1
 have q0 := HO0.out.cell 0 _ rfl
 have f0 := HO0.out.frozen 0
 have q1 := HO0.out.cell 1 _ rfl
 have f1 := HO0.out.frozen 1
 have q2 := HO0.out.cell 2 _ rfl
 have f2 := HO0.out.frozen 2
 refine hz_eff rfl (by kernel_rfl) (fun K hK => ?_)
 go_simp
 refine hK.out _ _ ?_ ?_
 · exact (((HB.out.set (p := ⟨w.heap.size + 1 + 1, 0, none⟩) _ (by simp <;> omega)).set (p := ⟨w.heap.size + 1 + 1, 1, none⟩) _ (by simp <;> omega)).set (p := ⟨w.heap.size + 1 + 1, 2, none⟩) _ (by simp <;> omega))
 clear hK K
 (try (conv => arg 6; simp only [Act.put, gL]))
 replace HB := Lib.hid (HB.out.set (p := ⟨w.heap.size + 1 + 1, 0, none⟩) (.bool Fs) (by simp <;> omega))
 replace HO0 := Lib.hid (HO0.out.set 0 (.bool Fs))
 replace R1 := Lib.hid (R1.out.set (x := .bool Fs) q0 rfl)
 replace R2 := Lib.hid (R2.out.set (x := .bool Fs) q0 rfl)
 replace R4 := Lib.hid (R4.out.set (x := .bool Fs) q0 rfl)
 replace R6 := Lib.hid (R6.out.set (x := .bool Fs) q0 rfl)
 replace R7 := Lib.hid (R7.out.set (x := .bool Fs) q0 rfl)
 replace R8 := Lib.hid (R8.out.set (x := .bool Fs) q0 rfl)
 replace R15 := Lib.hid (R15.out.set (x := .bool Fs) q0 rfl)
 replace R9 := Lib.hid (R9.out.set (x := .bool Fs) q0 rfl)
 replace R16 := Lib.hid (R16.out.set (x := .bool Fs) q0 rfl)
 replace R17 := Lib.hid (R17.out.set (x := .bool Fs) q0 rfl)
 replace R18 := Lib.hid (R18.out.set (x := .bool Fs) q0 rfl)
 replace hbw := nB4 hbw (show w.heap.size ≤ (⟨w.heap.size + 1 + 1, 0, none⟩ : Addr).block by simp <;> omega) (.bool Fs)
 replace q1 := (nC W28 ⟨w.heap.size + 1 + 1, 0, none⟩ ⟨w.heap.size + 1 + 1, 1, none⟩ (.bool Fs) (by simp)).trans q1
 replace q2 := (nC W28 ⟨w.heap.size + 1 + 1, 0, none⟩ ⟨w.heap.size + 1 + 1, 2, none⟩ (.bool Fs) (by simp)).trans q2
 replace HB := Lib.hid (HB.out.set (p := ⟨w.heap.size + 1 + 1, 1, none⟩) (.slice FA Fn Fc) (by simp <;> omega))
 replace HO0 := Lib.hid (HO0.out.set 1 (.slice FA Fn Fc))
 replace R1 := Lib.hid (R1.out.set (x := .slice FA Fn Fc) q1 rfl)
 replace R2 := Lib.hid (R2.out.set (x := .slice FA Fn Fc) q1 rfl)
 replace R4 := Lib.hid (R4.out.set (x := .slice FA Fn Fc) q1 rfl)
 replace R6 := Lib.hid (R6.out.set (x := .slice FA Fn Fc) q1 rfl)
 replace R7 := Lib.hid (R7.out.set (x := .slice FA Fn Fc) q1 rfl)
 replace R8 := Lib.hid (R8.out.set (x := .slice FA Fn Fc) q1 rfl)
 replace R15 := Lib.hid (R15.out.set (x := .slice FA Fn Fc) q1 rfl)
 replace R9 := Lib.hid (R9.out.set (x := .slice FA Fn Fc) q1 rfl)
 replace R16 := Lib.hid (R16.out.set (x := .slice FA Fn Fc) q1 rfl)
 replace R17 := Lib.hid (R17.out.set (x := .slice FA Fn Fc) q1 rfl)
 replace R18 := Lib.hid (R18.out.set (x := .slice FA Fn Fc) q1 rfl)
 replace hbw := nB4 hbw (show w.heap.size ≤ (⟨w.heap.size + 1 + 1, 1, none⟩ : Addr).block by simp <;> omega) (.slice FA Fn Fc)
 replace q2 := (nC (W28.setCell ⟨w.heap.size + 1 + 1, 0, none⟩ (.bool Fs)) ⟨w.heap.size + 1 + 1, 1, none⟩ ⟨w.heap.size + 1 + 1, 2, none⟩ (.slice FA Fn Fc) (by simp)).trans q2
 replace HB := Lib.hid (HB.out.set (p := ⟨w.heap.size + 1 + 1, 2, none⟩) (.slice FB Fm Fd) (by simp <;> omega))
 replace HO0 := Lib.hid (HO0.out.set 2 (.slice FB Fm Fd))
 replace R1 := Lib.hid (R1.out.set (x := .slice FB Fm Fd) q2 rfl)
 replace R2 := Lib.hid (R2.out.set (x := .slice FB Fm Fd) q2 rfl)
 replace R4 := Lib.hid (R4.out.set (x := .slice FB Fm Fd) q2 rfl)
 replace R6 := Lib.hid (R6.out.set (x := .slice FB Fm Fd) q2 rfl)
 replace R7 := Lib.hid (R7.out.set (x := .slice FB Fm Fd) q2 rfl)
 replace R8 := Lib.hid (R8.out.set (x := .slice FB Fm Fd) q2 rfl)
 replace R15 := Lib.hid (R15.out.set (x := .slice FB Fm Fd) q2 rfl)
 replace R9 := Lib.hid (R9.out.set (x := .slice FB Fm Fd) q2 rfl)
 replace R16 := Lib.hid (R16.out.set (x := .slice FB Fm Fd) q2 rfl)
 replace R17 := Lib.hid (R17.out.set (x := .slice FB Fm Fd) q2 rfl)
 replace R18 := Lib.hid (R18.out.set (x := .slice FB Fm Fd) q2 rfl)
 replace hbw := nB4 hbw (show w.heap.size ≤ (⟨w.heap.size + 1 + 1, 2, none⟩ : Addr).block by simp <;> omega) (.slice FB Fm Fd)
 clear q0 f0 q1 f1 q2 f2
 replace HO0 : Hid (Own _ _ _ [.bool Fs, .slice FA Fn Fc, .slice FB Fm Fd]) := HO0
 generalize (((W28.setCell ⟨w.heap.size + 1 + 1, 0, none⟩ (.bool Fs)).setCell ⟨w.heap.size + 1 + 1, 1, none⟩ (.slice FA Fn Fc)).setCell ⟨w.heap.size + 1 + 1, 2, none⟩ (.slice FB Fm Fd)) = W29 at HB HO0 R1 R2 R4 R6 R7 R8 R15 R9 R16 R17 R18 hbw ⊢
 refine hz_nil ?_
 go_wp2_with fail
 have kk0 := HO0.out.cell 0 _ rfl
 have kk1 := HO0.out.cell 1 _ rfl
 have kk2 := HO0.out.cell 2 _ rfl
 refine bodyPost_ret (v := .agg #[.bool Fs, .slice FA Fn Fc, .slice FB Fm Fd]) (by simp [results, Tryz.results36, go_sem, kk0, kk1, kk2]) rfl ⟨_, rfl, hbw, ?_⟩
 exact HFI.out _ _ R18.out
end Go.Proofs.YtadpjidakippeaaGreat
