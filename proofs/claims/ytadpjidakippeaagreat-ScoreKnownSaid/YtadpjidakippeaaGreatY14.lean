/- frac.Add. -/
import Derived.Test.YtadpjidakippeaaGreatY12
set_option linter.unusedVariables false
set_option linter.unusedSimpArgs false
namespace Go.Proofs.YtadpjidakippeaaGreat
open Go.RowKit
set_option maxRecDepth 100000 in
set_option maxHeartbeats 8000000 in
/-- frac.Add -/
theorem qadd_c (w : World) (va vb : Value) (a b : Rat) (ha : rQ w va a) (hb : rQ w vb b) (hf : qb a + qb b ≤ 35184372088600) : Calls Tryz.prog 38 #[va, vb] w (Post w fun r w' => rQ w' r (a + b)) := by
 obtain ⟨s1, A1, c1, n1, B1, k1, m1, rfl, ha⟩ := ha.shape
 obtain ⟨s2, A2, c2, n2, B2, k2, m2, rfl, hb⟩ := hb.shape
 have f1 := qb_num a
 have f2 := qb_num b
 have f3 := qb_den a
 have f4 := qb_den b
 obtain ⟨e1, ee1⟩ : ∃ e, bl (if a.den = 1 then 0 else a.den) = e := ⟨_, rfl⟩
 obtain ⟨e2, ee2⟩ : ∃ e, bl (if b.den = 1 then 0 else b.den) = e := ⟨_, rfl⟩
 have fe1 : e1 ≤ 35184372088832 := by rw [← ee1]; exact fit_rest (show Fit a.den by unfold Fit; omega)
 have fe2 : e2 ≤ 35184372088832 := by rw [← ee2]; exact fit_rest (show Fit b.den by unfold Fit; omega)
 have HBT1 := Lib.hid (fun W h => bits_c W (.agg #[.slice B1 m1 k1]) (if a.den = 1 then 0 else a.den) h (fit_rest (by unfold Fit; omega)))
 have HBT2 := Lib.hid (fun W h => bits_c W (.agg #[.slice B2 m2 k2]) (if b.den = 1 then 0 else b.den) h (fit_rest (by unfold Fit; omega)))
 rw [ee1] at HBT1
 rw [ee2] at HBT2
 have d1 := den_bits ee1
 have d2 := den_bits ee2
 have hw : IntKind.i64.wrap ((e1 : Int) + (e2 : Int)) = (e1 : Int) + (e2 : Int) := i64w (by omega) (by omega)
 have HIA := Lib.hid (fun W h h' => iadd_c W (.agg #[.bool s1, .slice A1 n1 c1]) (.agg #[.bool s2, .slice A2 n2 c2]) a.num b.num h h' (by omega) (by omega))
 have HS1 := Lib.hid (fun W h => short_q W (.agg #[.bool s1, .slice A1 n1 c1, .slice B1 m1 k1]) a h)
 have HS2 := Lib.hid (fun W h => short_q W (.agg #[.bool s2, .slice A2 n2 c2, .slice B2 m2 k2]) b h)
 have HD1 := Lib.hid (fun W h => qden_c W (.agg #[.bool s1, .slice A1 n1 c1, .slice B1 m1 k1]) a h (by unfold Fit; omega))
 have HD2 := Lib.hid (fun W h => qden_c W (.agg #[.bool s2, .slice A2 n2 c2, .slice B2 m2 k2]) b h (by unfold Fit; omega))
 have HAB := Lib.hid (show a.den = 1 → b.den = 1 → ∀ W s A n c, rInt W (.agg #[.bool s, .slice A n c]) (a.num + b.num) → rQ W (.agg #[.bool s, .slice A n c, .slice none 0 0]) (a + b) from fun h1 h2 W s A n c h => by
  obtain ⟨p1, p2⟩ := rat_add_whole a b h1 h2
  unfold rQ
  rw [p1, p2]
  exact rQd.mk h (by simpa using rNat.zero _))
 obtain ⟨g, eg⟩ : ∃ g, Nat.gcd a.den b.den = g := ⟨_, rfl⟩
 obtain ⟨x, ex⟩ : ∃ x, a.den / g = x := ⟨_, rfl⟩
 obtain ⟨y, ey⟩ : ∃ y, b.den / g = y := ⟨_, rfl⟩
 obtain ⟨t, et⟩ : ∃ t, a.num * (y : Int) + b.num * (x : Int) = t := ⟨_, rfl⟩
 obtain ⟨h, eh⟩ : ∃ h, Nat.gcd t.natAbs g = h := ⟨_, rfl⟩
 have hparts := rat_add_parts a b g h t eg (by rw [ex, ey]; exact et) eh
 rw [ex] at hparts
 have hx : bl x ≤ qb a := by rw [← ex]; exact Nat.le_trans (bl_mono (Nat.div_le_self _ _)) f3
 have hy : bl y ≤ qb b := by rw [← ey]; exact Nat.le_trans (bl_mono (Nat.div_le_self _ _)) f4
 have hg : bl g ≤ qb a := by rw [← eg]; exact Nat.le_trans (bl_mono (Nat.gcd_le_left _ a.den_pos)) f3
 have hgp : 0 < g := by rw [← eg]; exact Nat.gcd_pos_of_pos_left _ a.den_pos
 have hh : bl h ≤ qb a := by rw [← eh]; exact Nat.le_trans (bl_mono (Nat.gcd_le_right _ hgp)) hg
 have h1y : bl (a.num * (y : Int)).natAbs ≤ qb a + qb b := by rw [Int.natAbs_mul]; exact Nat.le_trans (bl_mul _ _) (by simp only [Int.natAbs_natCast]; omega)
 have h1x : bl (b.num * (x : Int)).natAbs ≤ qb a + qb b := by rw [Int.natAbs_mul]; exact Nat.le_trans (bl_mul _ _) (by simp only [Int.natAbs_natCast]; omega)
 have htb : bl t.natAbs ≤ qb a + qb b + 1 := by
  rw [← et]
  exact Nat.le_trans (bl_mono (Int.natAbs_add_le _ _)) (Nat.le_trans (bl_add _ _) (by omega))
 have hbh : bl (b.den / h) ≤ qb b := Nat.le_trans (bl_mono (Nat.div_le_self _ _)) f4
 have hxd : bl (x * (b.den / h)) ≤ qb a + qb b := Nat.le_trans (bl_mul _ _) (by omega)
 have HFI := Lib.hid (show ∀ W v, rQd W v (Int.fdiv t h) (x * (b.den / h)) → rQ W v (a + b) from fun W v hv => by unfold rQ; rw [hparts.1, hparts.2]; exact hv)
 have HWA := Lib.hid (fun W v hv => wide_c W v a.den hv (by unfold Fit; omega))
 have HWB := Lib.hid (fun W v hv => wide_c W v b.den hv (by unfold Fit; omega))
 have HWX := Lib.hid (fun W v hv => wide_c W v x hv (by unfold Fit; omega))
 have HWY := Lib.hid (fun W v hv => wide_c W v y hv (by unfold Fit; omega))
 have HWG := Lib.hid (fun W v hv => wide_c W v g hv (by unfold Fit; omega))
 have HGG := Lib.hid (fun W v u hv hu => gcd_c W v u (a.den : Int) (b.den : Int) hv hu (by simp only [Int.natAbs_natCast]; omega) (by simp only [Int.natAbs_natCast]; omega))
 simp only [Int.natAbs_natCast] at HGG
 rw [eg] at HGG
 have HGT := Lib.hid (fun W v u hv hu => gcd_c W v u t (g : Int) hv hu (by omega) (by simp only [Int.natAbs_natCast]; omega))
 simp only [Int.natAbs_natCast] at HGT
 rw [eh] at HGT
 have HUX := Lib.hid (fun W v u hv hu => under_c W v u a.den g hv hu (by unfold Fit; omega) (by unfold Fit; omega))
 have HUY := Lib.hid (fun W v u hv hu => under_c W v u b.den g hv hu (by unfold Fit; omega) (by unfold Fit; omega))
 rw [ex] at HUX
 rw [ey] at HUY
 have HUH := Lib.hid (fun W v u hv hu => under_c W v u b.den h hv hu (by unfold Fit; omega) (by unfold Fit; omega))
 have HM1 := Lib.hid (fun W v u hv hu => imul_c W v u a.num (y : Int) hv hu (by simp only [Int.natAbs_natCast]; omega))
 have HM2 := Lib.hid (fun W v u hv hu => imul_c W v u b.num (x : Int) hv hu (by simp only [Int.natAbs_natCast]; omega))
 have HAT := Lib.hid (fun W v u hv hu => iadd_c W v u (a.num * (y : Int)) (b.num * (x : Int)) hv hu (by omega) (by omega))
 rw [et] at HAT
 have HBY := Lib.hid (fun W v u hv hu => by_c W v u t h hv hu (by omega) (by omega))
 have HMX := Lib.hid (fun W v u hv hu => mul_n W v u x (b.den / h) hv hu (by unfold Fit; omega) (by unfold Fit; omega))
 have HLW := Lib.hid (fun W v u hv hu => low_c W v u (Int.fdiv t h) (x * (b.den / h)) hv hu (by unfold Fit; omega))
 have HQK := Lib.hid (show ∀ (W : World) (n1' d1' n2' d2' : Int), (n1' = a.num ∧ d1' = a.den ∧ -2147483648 < n1' ∧ n1' < 2147483648 ∧ 0 < d1' ∧ d1' < 2147483648) → (n2' = b.num ∧ d2' = b.den ∧ -2147483648 < n2' ∧ n2' < 2147483648 ∧ 0 < d2' ∧ d2' < 2147483648) →
    Calls Tryz.prog 73 #[.int .i64 (n1' * d2' + n2' * d1'), .int .i64 (d1' * d2')] W (Post W fun r w' => rQ w' r (a + b)) from by
  rintro W n1' d1' n2' d2' ⟨rfl, rfl, i1, i2, i3, i4⟩ ⟨rfl, rfl, j1, j2, j3, j4⟩
  have q1 := mul31 i1 i2 (b := (b.den : Int)) (by omega) (by omega)
  have q2 := mul31 j1 j2 (b := (a.den : Int)) (by omega) (by omega)
  have q3 := mul31 (a := (a.den : Int)) (b := (b.den : Int)) (by omega) (by omega) (by omega) (by omega)
  have q4 := Nat.mul_pos a.den_pos b.den_pos
  rw [Rat.add_def', ← Int.natCast_mul]
  refine quick_c W _ _ ⟨by omega, by omega⟩ ⟨q4, ?_⟩
  have : ((a.den * b.den : Nat) : Int) < 4611686018427387904 := by rw [Int.natCast_mul]; exact q3.2
  omega)
 have H1 := Lib.hid ha
 have H2 := Lib.hid hb
 have HDD1 := Lib.hid d1
 have HDD2 := Lib.hid d2
 clear ha hb f1 f2 f3 f4 ee1 ee2 d1 d2 eg ex ey et eh hparts hx hy hg hgp hh h1y h1x htb hbh hxd hf
 have HB : Hid (Cells [(w.heap.size, 0, .bool s1), (w.heap.size, 1, .slice A1 n1 c1), (w.heap.size, 2, .slice B1 m1 k1), (w.heap.size + 1, 0, .bool s2), (w.heap.size + 1, 1, .slice A2 n2 c2), (w.heap.size + 1, 2, .slice B2 m2 k2)] (((w.alloc (.cells #[.bool s1, .slice A1 n1 c1, .slice B1 m1 k1] 32)).alloc (.cells #[.bool s2, .slice A2 n2 c2, .slice B2 m2 k2] 32)).alloc (.cells #[.bool false, .slice none 0 0, .slice none 0 0] 32))) := Lib.hid (Cells.cons (by go_simp) (Cells.cons (by go_simp) (Cells.cons (by go_simp) (Cells.cons (by go_simp) (Cells.cons (by go_simp) (Cells.cons (by go_simp) (Cells.nil _)))))))
 have HO0 := Lib.hid (Own.new' ((w.alloc (.cells #[.bool s1, .slice A1 n1 c1, .slice B1 m1 k1] 32)).alloc (.cells #[.bool s2, .slice A2 n2 c2, .slice B2 m2 k2] 32)) 32 [.bool false, .slice none 0 0, .slice none 0 0] (w.heap.size + 1 + 1) (by simp))
 have hbw : Below w.heap.size w (((w.alloc (.cells #[.bool s1, .slice A1 n1 c1, .slice B1 m1 k1] 32)).alloc (.cells #[.bool s2, .slice A2 n2 c2, .slice B2 m2 k2] 32)).alloc (.cells #[.bool false, .slice none 0 0, .slice none 0 0] 32)) := (by repeat (first | assumption | exact nB1 _ _ | refine nB2 ?_ | refine pw_below_drewN ?_ _ | refine nB3 ?_ (by first | omega | (simp <;> omega)) _ | refine nB4 ?_ (by first | omega | (simp <;> omega)) _ | refine nB5 ?_ (by assumption) (by first | omega | (simp <;> omega))))
 go_enter Tryz.func38, Tryz.ntmps38
 go_wp2_with fail
 generalize (((w.alloc (.cells #[.bool s1, .slice A1 n1 c1, .slice B1 m1 k1] 32)).alloc (.cells #[.bool s2, .slice A2 n2 c2, .slice B2 m2 k2] 32)).alloc (.cells #[.bool false, .slice none 0 0, .slice none 0 0] 32)) = W0 at HB HO0 hbw ⊢
 replace HB := Lib.hid (HB.out.drew)
 replace HO0 := Lib.hid (HO0.out.drew)
 replace hbw := Below.drew hbw
 refine wp_hoist [(0, true), (1, true), (3, true), (4, true), (2, false), (5, false), (6, true), (7, true)] (Cells [(w.heap.size, 0, .bool s1), (w.heap.size, 1, .slice A1 n1 c1), (w.heap.size, 2, .slice B1 m1 k1), (w.heap.size + 1, 0, .bool s2), (w.heap.size + 1, 1, .slice A2 n2 c2), (w.heap.size + 1, 2, .slice B2 m2 k2)]) (by kernel_rfl) (by kernel_rfl) ?_ ?_
 · exact HB.out
 generalize W0.drew = W1 at HB HO0 hbw ⊢
 refine hz_yes (v := ?_) rfl (by kernel_rfl) (fun W hW => ?_) ?_; rotate_left; (go_simp; try with_reducible rfl)
 (try (conv => arg 6; simp only [Act.put, gL]))
 refine hz_yes (v := ?_) rfl (by kernel_rfl) (fun W hW => ?_) ?_; rotate_left; (obtain ⟨y0, y1, y2, y3, y4, y5, _⟩ := hW; go_simp; try with_reducible rfl)
 (try (conv => arg 6; simp only [Act.put, gL]))
 refine hz_yes (v := ?_) rfl (by kernel_rfl) (fun W hW => ?_) ?_; rotate_left; (go_simp; try with_reducible rfl)
 (try (conv => arg 6; simp only [Act.put, gL]))
 refine hz_yes (v := ?_) rfl (by kernel_rfl) (fun W hW => ?_) ?_; rotate_left; (obtain ⟨y0, y1, y2, y3, y4, y5, _⟩ := hW; go_simp; try with_reducible rfl)
 (try (conv => arg 6; simp only [Act.put, gL]))
 refine hz_eff rfl (by kernel_rfl) (fun K hK => ?_)
 refine wp_call (HBT1.out _ (H1.out.ext hbw).rest) (by kernel_rfl) ?_
 rintro v1 W2 hb1 rfl
 refine hK.out _ _ ?_ ?_
 · exact HB.out.ext hb1
 clear hK K
 (try (conv => arg 6; simp only [Act.put, gL]))
 replace HB := Lib.hid (HB.out.ext hb1)
 replace HO0 := Lib.hid (HO0.out.ext hb1)
 replace hbw := nT hbw hb1
 clear hb1
 refine hz_eff rfl (by kernel_rfl) (fun K hK => ?_)
 refine wp_call (HBT2.out _ (H2.out.ext hbw).rest) (by kernel_rfl) ?_
 rintro v1 W3 hb1 rfl
 refine hK.out _ _ ?_ ?_
 · exact HB.out.ext hb1
 clear hK K
 (try (conv => arg 6; simp only [Act.put, gL]))
 replace HB := Lib.hid (HB.out.ext hb1)
 replace HO0 := Lib.hid (HO0.out.ext hb1)
 replace hbw := nT hbw hb1
 clear hb1
 refine hz_yes (v := ?_) rfl (by kernel_rfl) (fun W hW => ?_) ?_; rotate_left; (go_simp; try with_reducible rfl)
 (try (conv => arg 6; simp only [Act.put, gL]))
 refine hz_yes (v := ?_) rfl (by kernel_rfl) (fun W hW => ?_) ?_; rotate_left; (go_simp; try with_reducible rfl)
 (try (conv => arg 6; simp only [Act.put, gL]))
 refine hz_nil ?_
 clear HBT1 HBT2
 by_cases h0 : (e1 : Int) + (e2 : Int) = 0
 ·
  have h0b : ((e1 : Int) + (e2 : Int) == 0) = true := by rw [beq_iff_eq]; exact h0
  have z1 := HDD1.out.1 (by omega)
  have z2 := HDD2.out.1 (by omega)
  have HZ := Lib.hid (HAB.out z1 z2)
  clear z1 z2
  obtain ⟨y0, y1, y2, y3, y4, y5, _⟩ := id HB.out
  go_wp2_with fail
  clear y0 y1 y2 y3 y4 y5
  refine (HIA.out _ (H1.out.ext hbw).num (H2.out.ext hbw).num).mono ?_
  rintro e W4 ⟨v1, rfl, hb1, hr1⟩
  obtain ⟨Es, EA, Ec, En, rfl, hr1⟩ := hr1.shape
  replace HB := Lib.hid (HB.out.ext hb1)
  replace HO0 := Lib.hid (HO0.out.ext hb1)
  replace hbw := nT hbw hb1
  have R1 := Lib.hid hr1
  clear hr1
  clear hb1
  have q0 := HO0.out.cell 0 _ rfl
  have f0 := HO0.out.frozen 0
  have q1 := HO0.out.cell 1 _ rfl
  have f1 := HO0.out.frozen 1
  have q2 := HO0.out.cell 2 _ rfl
  have f2 := HO0.out.frozen 2
  go_wp2_with fail
  replace HB := Lib.hid (HB.out.set (p := ⟨w.heap.size + 1 + 1, 0, none⟩) (.bool Es) (by simp <;> omega))
  replace HO0 := Lib.hid (HO0.out.set 0 (.bool Es))
  replace R1 := Lib.hid (R1.out.set (x := .bool Es) q0 rfl)
  replace hbw := nB4 hbw (show w.heap.size ≤ (⟨w.heap.size + 1 + 1, 0, none⟩ : Addr).block by simp <;> omega) (.bool Es)
  replace q1 := (nC W4 ⟨w.heap.size + 1 + 1, 0, none⟩ ⟨w.heap.size + 1 + 1, 1, none⟩ (.bool Es) (by simp)).trans q1
  replace q2 := (nC W4 ⟨w.heap.size + 1 + 1, 0, none⟩ ⟨w.heap.size + 1 + 1, 2, none⟩ (.bool Es) (by simp)).trans q2
  replace HB := Lib.hid (HB.out.set (p := ⟨w.heap.size + 1 + 1, 1, none⟩) (.slice EA En Ec) (by simp <;> omega))
  replace HO0 := Lib.hid (HO0.out.set 1 (.slice EA En Ec))
  replace R1 := Lib.hid (R1.out.set (x := .slice EA En Ec) q1 rfl)
  replace hbw := nB4 hbw (show w.heap.size ≤ (⟨w.heap.size + 1 + 1, 1, none⟩ : Addr).block by simp <;> omega) (.slice EA En Ec)
  replace q2 := (nC (W4.setCell ⟨w.heap.size + 1 + 1, 0, none⟩ (.bool Es)) ⟨w.heap.size + 1 + 1, 1, none⟩ ⟨w.heap.size + 1 + 1, 2, none⟩ (.slice EA En Ec) (by simp)).trans q2
  replace HB := Lib.hid (HB.out.set (p := ⟨w.heap.size + 1 + 1, 2, none⟩) (.slice none 0 0) (by simp <;> omega))
  replace HO0 := Lib.hid (HO0.out.set 2 (.slice none 0 0))
  replace R1 := Lib.hid (R1.out.set (x := .slice none 0 0) q2 rfl)
  replace hbw := nB4 hbw (show w.heap.size ≤ (⟨w.heap.size + 1 + 1, 2, none⟩ : Addr).block by simp <;> omega) (.slice none 0 0)
  clear q0 f0 q1 f1 q2 f2
  replace HO0 : Hid (Own _ _ _ [.bool Es, .slice EA En Ec, .slice none 0 0]) := HO0
  generalize (((W4.setCell ⟨w.heap.size + 1 + 1, 0, none⟩ (.bool Es)).setCell ⟨w.heap.size + 1 + 1, 1, none⟩ (.slice EA En Ec)).setCell ⟨w.heap.size + 1 + 1, 2, none⟩ (.slice none 0 0)) = W5 at HB HO0 R1 hbw ⊢
  have kk0 := HO0.out.cell 0 _ rfl
  have kk1 := HO0.out.cell 1 _ rfl
  have kk2 := HO0.out.cell 2 _ rfl
  refine bodyPost_ret (v := .agg #[.bool Es, .slice EA En Ec, .slice none 0 0]) (by simp [results, Tryz.results38, go_sem, kk0, kk1, kk2]) rfl ⟨_, rfl, hbw, ?_⟩
  exact HZ.out _ _ _ _ _ R1.out
 have h0b : ((e1 : Int) + (e2 : Int) == 0) = false := by rw [beq_eq_false_iff_ne]; exact h0
 obtain ⟨y0, y1, y2, y3, y4, y5, _⟩ := id HB.out
 go_wp2_with fail
 clear y0 y1 y2 y3 y4 y5
 refine (HS1.out _ (H1.out.ext hbw)).mono ?_
 rintro e W4 ⟨v1, rfl, hb1, ⟨n1', d1', ok1, rfl, hs1⟩⟩
 replace HB := Lib.hid (HB.out.ext hb1)
 replace HO0 := Lib.hid (HO0.out.ext hb1)
 replace hbw := nT hbw hb1
 clear hb1
 have HT1 := Lib.hid hs1
 clear hs1
 go_upto_if 38 with (fail)
 go_cut [] (fun WC => Below w.heap.size w WC ∧ Cells [(w.heap.size, 0, .bool s1), (w.heap.size, 1, .slice A1 n1 c1), (w.heap.size, 2, .slice B1 m1 k1), (w.heap.size + 1, 0, .bool s2), (w.heap.size + 1, 1, .slice A2 n2 c2), (w.heap.size + 1, 2, .slice B2 m2 k2)] WC ∧ Own WC (w.heap.size + 1 + 1) 32 [.bool false, .slice none 0 0, .slice none 0 0])
 case first =>
  cases ok1
  ·
    go_wp2_with fail
    go_meet
    exact ⟨hbw, HB.out, HO0.out⟩
  ·
    skip
    obtain ⟨y0, y1, y2, y3, y4, y5, _⟩ := id HB.out
    go_wp2_with fail
    clear y0 y1 y2 y3 y4 y5
    refine (HS2.out _ (H2.out.ext hbw)).mono ?_
    rintro e W5 ⟨v1, rfl, hb1, ⟨n2', d2', ok2, rfl, hs2⟩⟩
    replace HB := Lib.hid (HB.out.ext hb1)
    replace HO0 := Lib.hid (HO0.out.ext hb1)
    replace hbw := nT hbw hb1
    clear hb1
    have HT2 := Lib.hid hs2
    clear hs2
    cases ok2
    ·
      go_wp2_with fail
      go_meet
      exact ⟨hbw, HB.out, HO0.out⟩
    ·
      have i := HT1.out (by simp)
      have j := HT2.out (by simp)
      have HQ := Lib.hid (fun W => HQK.out W _ _ _ _ i j)
      have q1 := mul31 i.2.2.1 i.2.2.2.1 (b := d2') (by omega) (by omega)
      have q2 := mul31 j.2.2.1 j.2.2.2.1 (b := d1') (by omega) (by omega)
      have q3 := mul31 (a := d1') (b := d2') (by omega) (by omega) (by omega) (by omega)
      have w1 : IntKind.i64.wrap (n1' * d2') = n1' * d2' := i64w (by omega) (by omega)
      have w2 : IntKind.i64.wrap (n2' * d1') = n2' * d1' := i64w (by omega) (by omega)
      have w3 : IntKind.i64.wrap (d1' * d2') = d1' * d2' := i64w (by omega) (by omega)
      have w4 : IntKind.i64.wrap (n1' * d2' + n2' * d1') = n1' * d2' + n2' * d1' := i64w (by omega) (by omega)
      clear i j q1 q2 q3
      go_wp2_with fail
      refine (HQ.out _).mono ?_
      rintro e W6 ⟨v1, rfl, hb1, hr1⟩
      obtain ⟨Es, EA, Ec, En, EB, Ed, Em, rfl, hr1⟩ := hr1.shape
      replace HB := Lib.hid (HB.out.ext hb1)
      replace HO0 := Lib.hid (HO0.out.ext hb1)
      replace hbw := nT hbw hb1
      have R1 := Lib.hid hr1
      clear hr1
      clear hb1
      have q0 := HO0.out.cell 0 _ rfl
      have f0 := HO0.out.frozen 0
      have q1 := HO0.out.cell 1 _ rfl
      have f1 := HO0.out.frozen 1
      have q2 := HO0.out.cell 2 _ rfl
      have f2 := HO0.out.frozen 2
      go_wp2_with fail
      replace HB := Lib.hid (HB.out.set (p := ⟨w.heap.size + 1 + 1, 0, none⟩) (.bool Es) (by simp <;> omega))
      replace HO0 := Lib.hid (HO0.out.set 0 (.bool Es))
      replace R1 := Lib.hid (R1.out.set (x := .bool Es) q0 rfl)
      replace hbw := nB4 hbw (show w.heap.size ≤ (⟨w.heap.size + 1 + 1, 0, none⟩ : Addr).block by simp <;> omega) (.bool Es)
      replace q1 := (nC W6 ⟨w.heap.size + 1 + 1, 0, none⟩ ⟨w.heap.size + 1 + 1, 1, none⟩ (.bool Es) (by simp)).trans q1
      replace q2 := (nC W6 ⟨w.heap.size + 1 + 1, 0, none⟩ ⟨w.heap.size + 1 + 1, 2, none⟩ (.bool Es) (by simp)).trans q2
      replace HB := Lib.hid (HB.out.set (p := ⟨w.heap.size + 1 + 1, 1, none⟩) (.slice EA En Ec) (by simp <;> omega))
      replace HO0 := Lib.hid (HO0.out.set 1 (.slice EA En Ec))
      replace R1 := Lib.hid (R1.out.set (x := .slice EA En Ec) q1 rfl)
      replace hbw := nB4 hbw (show w.heap.size ≤ (⟨w.heap.size + 1 + 1, 1, none⟩ : Addr).block by simp <;> omega) (.slice EA En Ec)
      replace q2 := (nC (W6.setCell ⟨w.heap.size + 1 + 1, 0, none⟩ (.bool Es)) ⟨w.heap.size + 1 + 1, 1, none⟩ ⟨w.heap.size + 1 + 1, 2, none⟩ (.slice EA En Ec) (by simp)).trans q2
      replace HB := Lib.hid (HB.out.set (p := ⟨w.heap.size + 1 + 1, 2, none⟩) (.slice EB Em Ed) (by simp <;> omega))
      replace HO0 := Lib.hid (HO0.out.set 2 (.slice EB Em Ed))
      replace R1 := Lib.hid (R1.out.set (x := .slice EB Em Ed) q2 rfl)
      replace hbw := nB4 hbw (show w.heap.size ≤ (⟨w.heap.size + 1 + 1, 2, none⟩ : Addr).block by simp <;> omega) (.slice EB Em Ed)
      clear q0 f0 q1 f1 q2 f2
      replace HO0 : Hid (Own _ _ _ [.bool Es, .slice EA En Ec, .slice EB Em Ed]) := HO0
      generalize (((W6.setCell ⟨w.heap.size + 1 + 1, 0, none⟩ (.bool Es)).setCell ⟨w.heap.size + 1 + 1, 1, none⟩ (.slice EA En Ec)).setCell ⟨w.heap.size + 1 + 1, 2, none⟩ (.slice EB Em Ed)) = W7 at HB HO0 R1 hbw ⊢
      have kk0 := HO0.out.cell 0 _ rfl
      have kk1 := HO0.out.cell 1 _ rfl
      have kk2 := HO0.out.cell 2 _ rfl
      refine bodyPost_ret (v := .agg #[.bool Es, .slice EA En Ec, .slice EB Em Ed]) (by simp [results, Tryz.results38, go_sem, kk0, kk1, kk2]) rfl ⟨_, rfl, hbw, ?_⟩
      exact R1.out
 clear HB HO0 hbw
 obtain ⟨hbw, h_HB, h_HO0⟩ := hcut
 have HB := Lib.hid h_HB
 clear h_HB
 have HO0 := Lib.hid h_HO0
 clear h_HO0
 clear HT1 HS1 HS2 HQK HAB h0 h0b HIA
 go_upto_region 8 with (fail)
 go_cut [11, 12] (fun p11 p12 WC => ∃ bH12 : Nat, ∃ bH11 : Nat, ∃ PA : Option Addr, ∃ Pc : Nat, ∃ Pn : Nat, ∃ QA : Option Addr, ∃ Qc : Nat, ∃ Qn : Nat, p11 = .pointer (some ⟨bH11, 0, none⟩) ∧ p12 = .pointer (some ⟨bH12, 0, none⟩) ∧ Below w.heap.size w WC ∧ Cells [(w.heap.size, 0, .bool s1), (w.heap.size, 1, .slice A1 n1 c1), (w.heap.size, 2, .slice B1 m1 k1), (w.heap.size + 1, 0, .bool s2), (w.heap.size + 1, 1, .slice A2 n2 c2), (w.heap.size + 1, 2, .slice B2 m2 k2)] WC ∧ Own WC (w.heap.size + 1 + 1) 32 [.bool false, .slice none 0 0, .slice none 0 0] ∧ rNat WC (.agg #[.slice PA Pn Pc]) (a.den) ∧ rNat WC (.agg #[.slice QA Qn Qc]) (b.den) ∧ Own WC (bH11) 28 [.slice PA Pn Pc] ∧ Own WC (bH12) 28 [.slice QA Qn Qc] ∧ w.heap.size + 1 + 1 < bH11 ∧ w.heap.size + 1 + 1 < bH12 ∧ bH11 ≠ bH12)
 case first =>
  replace HB := Lib.hid (HB.out.drew)
  replace HO0 := Lib.hid (HO0.out.drew)
  replace hbw := Below.drew hbw
  refine wp_hoistR (.yes 0 (.yes 2 (.act 1 (.act 3 (.act 4 (.act 5 (.act 6 (.act 7 (.done) (.stop)) (.stop)) (.stop)) (.act 5 (.act 4 (.act 6 (.act 7 (.done) (.stop)) (.stop)) (.stop)) (.stop))) (.act 4 (.act 3 (.act 5 (.act 6 (.act 7 (.done) (.stop)) (.stop)) (.stop)) (.act 5 (.act 3 (.act 6 (.act 7 (.done) (.stop)) (.stop)) (.stop)) (.stop))) (.act 5 (.act 3 (.act 4 (.act 6 (.act 7 (.done) (.stop)) (.stop)) (.stop)) (.act 4 (.act 3 (.act 6 (.act 7 (.done) (.stop)) (.stop)) (.stop)) (.stop))) (.stop)))) (.act 4 (.act 1 (.act 3 (.act 5 (.act 6 (.act 7 (.done) (.stop)) (.stop)) (.stop)) (.act 5 (.act 3 (.act 6 (.act 7 (.done) (.stop)) (.stop)) (.stop)) (.stop))) (.act 5 (.act 1 (.act 3 (.act 6 (.act 7 (.done) (.stop)) (.stop)) (.stop)) (.stop)) (.stop))) (.act 5 (.act 1 (.act 3 (.act 4 (.act 6 (.act 7 (.done) (.stop)) (.stop)) (.stop)) (.act 4 (.act 3 (.act 6 (.act 7 (.done) (.stop)) (.stop)) (.stop)) (.stop))) (.act 4 (.act 1 (.act 3 (.act 6 (.act 7 (.done) (.stop)) (.stop)) (.stop)) (.stop)) (.stop))) (.stop)))))) (Cells [(w.heap.size, 0, .bool s1), (w.heap.size, 1, .slice A1 n1 c1), (w.heap.size, 2, .slice B1 m1 k1), (w.heap.size + 1, 0, .bool s2), (w.heap.size + 1, 1, .slice A2 n2 c2), (w.heap.size + 1, 2, .slice B2 m2 k2)]) (by kernel_rfl) (by kernel_rfl) ?_ ?_
  · exact HB.out
  generalize wc.drew = W5 at HB HO0 hbw ⊢
  refine hr_yes (v := ?_) rfl (by kernel_rfl) (fun W hW => ?_) ?_; rotate_left; (obtain ⟨y0, y1, y2, y3, y4, y5, _⟩ := hW; go_simp; try with_reducible rfl)
  (try (conv => arg 6; simp only [Act.put, gL]))
  refine hr_yes (v := ?_) rfl (by kernel_rfl) (fun W hW => ?_) ?_; rotate_left; (obtain ⟨y0, y1, y2, y3, y4, y5, _⟩ := hW; go_simp; try with_reducible rfl)
  (try (conv => arg 6; simp only [Act.put, gL]))
  refine hr_eff rfl (by kernel_rfl) (fun K hK => ?_) ?_
  focus
   refine wp_call (HD1.out _ (H1.out.ext hbw)) (by kernel_rfl) ?_
   rintro v1 W6 hb1 hr1
   obtain ⟨PA, Pc, Pn, rfl, hr1⟩ := hr1.shape
   refine hK.out _ _ ?_ ?_
   · exact HB.out.ext hb1
   clear hK K
   (try (conv => arg 6; simp only [Act.put, gL]))
   replace HB := Lib.hid (HB.out.ext hb1)
   replace HO0 := Lib.hid (HO0.out.ext hb1)
   replace hbw := nT hbw hb1
   have R1 := Lib.hid hr1
   clear hr1
   clear hb1
   refine hr_eff rfl (by kernel_rfl) (fun K hK => ?_) ?_
   focus
    refine wp_call (HD2.out _ (H2.out.ext hbw)) (by kernel_rfl) ?_
    rintro v1 W7 hb1 hr1
    obtain ⟨QA, Qc, Qn, rfl, hr1⟩ := hr1.shape
    refine hK.out _ _ ?_ ?_
    · exact HB.out.ext hb1
    clear hK K
    (try (conv => arg 6; simp only [Act.put, gL]))
    replace HB := Lib.hid (HB.out.ext hb1)
    replace HO0 := Lib.hid (HO0.out.ext hb1)
    replace R1 := Lib.hid (R1.out.ext hb1)
    replace hbw := nT hbw hb1
    have R2 := Lib.hid hr1
    clear hr1
    clear hb1
    refine hr_eff rfl (by kernel_rfl) (fun K hK => ?_) ?_
    focus
     go_simp
     refine hK.out _ _ ?_ ?_
     · exact HB.out.alloc _
     clear hK K
     (try (conv => arg 6; simp only [Act.put, gL]))
     have z_H11 := hbw.size
     have z_H11_HO0 := HO0.out.lt
     replace HB := Lib.hid (HB.out.alloc (.cells #[.slice none 0 0] 28))
     replace HO0 := Lib.hid (HO0.out.alloc (.cells #[.slice none 0 0] 28))
     replace R1 := Lib.hid (R1.out.alloc (.cells #[.slice none 0 0] 28))
     replace R2 := Lib.hid (R2.out.alloc (.cells #[.slice none 0 0] 28))
     replace hbw := nB3 hbw hbw.size (.cells #[.slice none 0 0] 28)
     have H11 := Lib.hid (Own.new' W7 28 [.slice none 0 0] W7.heap.size rfl)
     obtain ⟨bH11, e_H11⟩ : ∃ b, W7.heap.size = b := ⟨_, rfl⟩
     simp only [e_H11] at H11 z_H11 z_H11_HO0 ⊢
     generalize (W7.alloc (.cells #[.slice none 0 0] 28)) = W8 at HB HO0 R1 R2 H11 hbw ⊢
     refine hr_one rfl (by kernel_rfl) (fun K hK => ?_)
     go_simp
     refine hK.out _ _ ?_ ?_
     · exact HB.out.alloc _
     clear hK K
     (try (conv => arg 6; simp only [Act.put, gL]))
     have z_H12 := hbw.size
     have z_H12_HO0 := HO0.out.lt
     have z_H12_H11 := H11.out.lt
     replace HB := Lib.hid (HB.out.alloc (.cells #[.slice none 0 0] 28))
     replace HO0 := Lib.hid (HO0.out.alloc (.cells #[.slice none 0 0] 28))
     replace R1 := Lib.hid (R1.out.alloc (.cells #[.slice none 0 0] 28))
     replace R2 := Lib.hid (R2.out.alloc (.cells #[.slice none 0 0] 28))
     replace H11 := Lib.hid (H11.out.alloc (.cells #[.slice none 0 0] 28))
     replace hbw := nB3 hbw hbw.size (.cells #[.slice none 0 0] 28)
     have H12 := Lib.hid (Own.new' W8 28 [.slice none 0 0] W8.heap.size rfl)
     obtain ⟨bH12, e_H12⟩ : ∃ b, W8.heap.size = b := ⟨_, rfl⟩
     simp only [e_H12] at H12 z_H12 z_H12_HO0 z_H12_H11 ⊢
     generalize (W8.alloc (.cells #[.slice none 0 0] 28)) = W9 at HB HO0 R1 R2 H11 H12 hbw ⊢
    rotate_left 1
    refine hr_eff rfl (by kernel_rfl) (fun K hK => ?_) ?_
    focus
     go_simp
     refine hK.out _ _ ?_ ?_
     · exact HB.out.alloc _
     clear hK K
     (try (conv => arg 6; simp only [Act.put, gL]))
     have z_H12 := hbw.size
     have z_H12_HO0 := HO0.out.lt
     replace HB := Lib.hid (HB.out.alloc (.cells #[.slice none 0 0] 28))
     replace HO0 := Lib.hid (HO0.out.alloc (.cells #[.slice none 0 0] 28))
     replace R1 := Lib.hid (R1.out.alloc (.cells #[.slice none 0 0] 28))
     replace R2 := Lib.hid (R2.out.alloc (.cells #[.slice none 0 0] 28))
     replace hbw := nB3 hbw hbw.size (.cells #[.slice none 0 0] 28)
     have H12 := Lib.hid (Own.new' W7 28 [.slice none 0 0] W7.heap.size rfl)
     obtain ⟨bH12, e_H12⟩ : ∃ b, W7.heap.size = b := ⟨_, rfl⟩
     simp only [e_H12] at H12 z_H12 z_H12_HO0 ⊢
     generalize (W7.alloc (.cells #[.slice none 0 0] 28)) = W8 at HB HO0 R1 R2 H12 hbw ⊢
     refine hr_one rfl (by kernel_rfl) (fun K hK => ?_)
     go_simp
     refine hK.out _ _ ?_ ?_
     · exact HB.out.alloc _
     clear hK K
     (try (conv => arg 6; simp only [Act.put, gL]))
     have z_H11 := hbw.size
     have z_H11_HO0 := HO0.out.lt
     have z_H11_H12 := H12.out.lt
     replace HB := Lib.hid (HB.out.alloc (.cells #[.slice none 0 0] 28))
     replace HO0 := Lib.hid (HO0.out.alloc (.cells #[.slice none 0 0] 28))
     replace R1 := Lib.hid (R1.out.alloc (.cells #[.slice none 0 0] 28))
     replace R2 := Lib.hid (R2.out.alloc (.cells #[.slice none 0 0] 28))
     replace H12 := Lib.hid (H12.out.alloc (.cells #[.slice none 0 0] 28))
     replace hbw := nB3 hbw hbw.size (.cells #[.slice none 0 0] 28)
     have H11 := Lib.hid (Own.new' W8 28 [.slice none 0 0] W8.heap.size rfl)
     obtain ⟨bH11, e_H11⟩ : ∃ b, W8.heap.size = b := ⟨_, rfl⟩
     simp only [e_H11] at H11 z_H11 z_H11_HO0 z_H11_H12 ⊢
     generalize (W8.alloc (.cells #[.slice none 0 0] 28)) = W9 at HB HO0 R1 R2 H12 H11 hbw ⊢
    rotate_left 1
    exact trivial
   rotate_left 2
   refine hr_eff rfl (by kernel_rfl) (fun K hK => ?_) ?_
   focus
    go_simp
    refine hK.out _ _ ?_ ?_
    · exact HB.out.alloc _
    clear hK K
    (try (conv => arg 6; simp only [Act.put, gL]))
    have z_H11 := hbw.size
    have z_H11_HO0 := HO0.out.lt
    replace HB := Lib.hid (HB.out.alloc (.cells #[.slice none 0 0] 28))
    replace HO0 := Lib.hid (HO0.out.alloc (.cells #[.slice none 0 0] 28))
    replace R1 := Lib.hid (R1.out.alloc (.cells #[.slice none 0 0] 28))
    replace hbw := nB3 hbw hbw.size (.cells #[.slice none 0 0] 28)
    have H11 := Lib.hid (Own.new' W6 28 [.slice none 0 0] W6.heap.size rfl)
    obtain ⟨bH11, e_H11⟩ : ∃ b, W6.heap.size = b := ⟨_, rfl⟩
    simp only [e_H11] at H11 z_H11 z_H11_HO0 ⊢
    generalize (W6.alloc (.cells #[.slice none 0 0] 28)) = W7 at HB HO0 R1 H11 hbw ⊢
    refine hr_eff rfl (by kernel_rfl) (fun K hK => ?_) ?_
    focus
     refine wp_call (HD2.out _ (H2.out.ext hbw)) (by kernel_rfl) ?_
     rintro v1 W8 hb1 hr1
     obtain ⟨QA, Qc, Qn, rfl, hr1⟩ := hr1.shape
     refine hK.out _ _ ?_ ?_
     · exact HB.out.ext hb1
     clear hK K
     (try (conv => arg 6; simp only [Act.put, gL]))
     replace HB := Lib.hid (HB.out.ext hb1)
     replace HO0 := Lib.hid (HO0.out.ext hb1)
     replace R1 := Lib.hid (R1.out.ext hb1)
     replace H11 := Lib.hid (H11.out.ext hb1)
     replace hbw := nT hbw hb1
     have R2 := Lib.hid hr1
     clear hr1
     clear hb1
     refine hr_one rfl (by kernel_rfl) (fun K hK => ?_)
     go_simp
     refine hK.out _ _ ?_ ?_
     · exact HB.out.alloc _
     clear hK K
     (try (conv => arg 6; simp only [Act.put, gL]))
     have z_H12 := hbw.size
     have z_H12_HO0 := HO0.out.lt
     have z_H12_H11 := H11.out.lt
     replace HB := Lib.hid (HB.out.alloc (.cells #[.slice none 0 0] 28))
     replace HO0 := Lib.hid (HO0.out.alloc (.cells #[.slice none 0 0] 28))
     replace R1 := Lib.hid (R1.out.alloc (.cells #[.slice none 0 0] 28))
     replace H11 := Lib.hid (H11.out.alloc (.cells #[.slice none 0 0] 28))
     replace R2 := Lib.hid (R2.out.alloc (.cells #[.slice none 0 0] 28))
     replace hbw := nB3 hbw hbw.size (.cells #[.slice none 0 0] 28)
     have H12 := Lib.hid (Own.new' W8 28 [.slice none 0 0] W8.heap.size rfl)
     obtain ⟨bH12, e_H12⟩ : ∃ b, W8.heap.size = b := ⟨_, rfl⟩
     simp only [e_H12] at H12 z_H12 z_H12_HO0 z_H12_H11 ⊢
     generalize (W8.alloc (.cells #[.slice none 0 0] 28)) = W9 at HB HO0 R1 H11 R2 H12 hbw ⊢
    rotate_left 1
    refine hr_eff rfl (by kernel_rfl) (fun K hK => ?_) ?_
    focus
     go_simp
     refine hK.out _ _ ?_ ?_
     · exact HB.out.alloc _
     clear hK K
     (try (conv => arg 6; simp only [Act.put, gL]))
     have z_H12 := hbw.size
     have z_H12_HO0 := HO0.out.lt
     have z_H12_H11 := H11.out.lt
     replace HB := Lib.hid (HB.out.alloc (.cells #[.slice none 0 0] 28))
     replace HO0 := Lib.hid (HO0.out.alloc (.cells #[.slice none 0 0] 28))
     replace R1 := Lib.hid (R1.out.alloc (.cells #[.slice none 0 0] 28))
     replace H11 := Lib.hid (H11.out.alloc (.cells #[.slice none 0 0] 28))
     replace hbw := nB3 hbw hbw.size (.cells #[.slice none 0 0] 28)
     have H12 := Lib.hid (Own.new' W7 28 [.slice none 0 0] W7.heap.size rfl)
     obtain ⟨bH12, e_H12⟩ : ∃ b, W7.heap.size = b := ⟨_, rfl⟩
     simp only [e_H12] at H12 z_H12 z_H12_HO0 z_H12_H11 ⊢
     generalize (W7.alloc (.cells #[.slice none 0 0] 28)) = W8 at HB HO0 R1 H11 H12 hbw ⊢
     refine hr_one rfl (by kernel_rfl) (fun K hK => ?_)
     refine wp_call (HD2.out _ (H2.out.ext hbw)) (by kernel_rfl) ?_
     rintro v1 W9 hb1 hr1
     obtain ⟨QA, Qc, Qn, rfl, hr1⟩ := hr1.shape
     refine hK.out _ _ ?_ ?_
     · exact HB.out.ext hb1
     clear hK K
     (try (conv => arg 6; simp only [Act.put, gL]))
     replace HB := Lib.hid (HB.out.ext hb1)
     replace HO0 := Lib.hid (HO0.out.ext hb1)
     replace R1 := Lib.hid (R1.out.ext hb1)
     replace H11 := Lib.hid (H11.out.ext hb1)
     replace H12 := Lib.hid (H12.out.ext hb1)
     replace hbw := nT hbw hb1
     have R2 := Lib.hid hr1
     clear hr1
     clear hb1
    rotate_left 1
    exact trivial
   rotate_left 2
   refine hr_eff rfl (by kernel_rfl) (fun K hK => ?_) ?_
   focus
    go_simp
    refine hK.out _ _ ?_ ?_
    · exact HB.out.alloc _
    clear hK K
    (try (conv => arg 6; simp only [Act.put, gL]))
    have z_H12 := hbw.size
    have z_H12_HO0 := HO0.out.lt
    replace HB := Lib.hid (HB.out.alloc (.cells #[.slice none 0 0] 28))
    replace HO0 := Lib.hid (HO0.out.alloc (.cells #[.slice none 0 0] 28))
    replace R1 := Lib.hid (R1.out.alloc (.cells #[.slice none 0 0] 28))
    replace hbw := nB3 hbw hbw.size (.cells #[.slice none 0 0] 28)
    have H12 := Lib.hid (Own.new' W6 28 [.slice none 0 0] W6.heap.size rfl)
    obtain ⟨bH12, e_H12⟩ : ∃ b, W6.heap.size = b := ⟨_, rfl⟩
    simp only [e_H12] at H12 z_H12 z_H12_HO0 ⊢
    generalize (W6.alloc (.cells #[.slice none 0 0] 28)) = W7 at HB HO0 R1 H12 hbw ⊢
    refine hr_eff rfl (by kernel_rfl) (fun K hK => ?_) ?_
    focus
     refine wp_call (HD2.out _ (H2.out.ext hbw)) (by kernel_rfl) ?_
     rintro v1 W8 hb1 hr1
     obtain ⟨QA, Qc, Qn, rfl, hr1⟩ := hr1.shape
     refine hK.out _ _ ?_ ?_
     · exact HB.out.ext hb1
     clear hK K
     (try (conv => arg 6; simp only [Act.put, gL]))
     replace HB := Lib.hid (HB.out.ext hb1)
     replace HO0 := Lib.hid (HO0.out.ext hb1)
     replace R1 := Lib.hid (R1.out.ext hb1)
     replace H12 := Lib.hid (H12.out.ext hb1)
     replace hbw := nT hbw hb1
     have R2 := Lib.hid hr1
     clear hr1
     clear hb1
     refine hr_one rfl (by kernel_rfl) (fun K hK => ?_)
     go_simp
     refine hK.out _ _ ?_ ?_
     · exact HB.out.alloc _
     clear hK K
     (try (conv => arg 6; simp only [Act.put, gL]))
     have z_H11 := hbw.size
     have z_H11_HO0 := HO0.out.lt
     have z_H11_H12 := H12.out.lt
     replace HB := Lib.hid (HB.out.alloc (.cells #[.slice none 0 0] 28))
     replace HO0 := Lib.hid (HO0.out.alloc (.cells #[.slice none 0 0] 28))
     replace R1 := Lib.hid (R1.out.alloc (.cells #[.slice none 0 0] 28))
     replace H12 := Lib.hid (H12.out.alloc (.cells #[.slice none 0 0] 28))
     replace R2 := Lib.hid (R2.out.alloc (.cells #[.slice none 0 0] 28))
     replace hbw := nB3 hbw hbw.size (.cells #[.slice none 0 0] 28)
     have H11 := Lib.hid (Own.new' W8 28 [.slice none 0 0] W8.heap.size rfl)
     obtain ⟨bH11, e_H11⟩ : ∃ b, W8.heap.size = b := ⟨_, rfl⟩
     simp only [e_H11] at H11 z_H11 z_H11_HO0 z_H11_H12 ⊢
     generalize (W8.alloc (.cells #[.slice none 0 0] 28)) = W9 at HB HO0 R1 H12 R2 H11 hbw ⊢
    rotate_left 1
    refine hr_eff rfl (by kernel_rfl) (fun K hK => ?_) ?_
    focus
     go_simp
     refine hK.out _ _ ?_ ?_
     · exact HB.out.alloc _
     clear hK K
     (try (conv => arg 6; simp only [Act.put, gL]))
     have z_H11 := hbw.size
     have z_H11_HO0 := HO0.out.lt
     have z_H11_H12 := H12.out.lt
     replace HB := Lib.hid (HB.out.alloc (.cells #[.slice none 0 0] 28))
     replace HO0 := Lib.hid (HO0.out.alloc (.cells #[.slice none 0 0] 28))
     replace R1 := Lib.hid (R1.out.alloc (.cells #[.slice none 0 0] 28))
     replace H12 := Lib.hid (H12.out.alloc (.cells #[.slice none 0 0] 28))
     replace hbw := nB3 hbw hbw.size (.cells #[.slice none 0 0] 28)
     have H11 := Lib.hid (Own.new' W7 28 [.slice none 0 0] W7.heap.size rfl)
     obtain ⟨bH11, e_H11⟩ : ∃ b, W7.heap.size = b := ⟨_, rfl⟩
     simp only [e_H11] at H11 z_H11 z_H11_HO0 z_H11_H12 ⊢
     generalize (W7.alloc (.cells #[.slice none 0 0] 28)) = W8 at HB HO0 R1 H12 H11 hbw ⊢
     refine hr_one rfl (by kernel_rfl) (fun K hK => ?_)
     refine wp_call (HD2.out _ (H2.out.ext hbw)) (by kernel_rfl) ?_
     rintro v1 W9 hb1 hr1
     obtain ⟨QA, Qc, Qn, rfl, hr1⟩ := hr1.shape
     refine hK.out _ _ ?_ ?_
     · exact HB.out.ext hb1
     clear hK K
     (try (conv => arg 6; simp only [Act.put, gL]))
     replace HB := Lib.hid (HB.out.ext hb1)
     replace HO0 := Lib.hid (HO0.out.ext hb1)
     replace R1 := Lib.hid (R1.out.ext hb1)
     replace H12 := Lib.hid (H12.out.ext hb1)
     replace H11 := Lib.hid (H11.out.ext hb1)
     replace hbw := nT hbw hb1
     have R2 := Lib.hid hr1
     clear hr1
     clear hb1
    rotate_left 1
    exact trivial
   rotate_left 2
   exact trivial
  rotate_left 6
  refine hr_eff rfl (by kernel_rfl) (fun K hK => ?_) ?_
  focus
   go_simp
   refine hK.out _ _ ?_ ?_
   · exact HB.out.alloc _
   clear hK K
   (try (conv => arg 6; simp only [Act.put, gL]))
   have z_H11 := hbw.size
   have z_H11_HO0 := HO0.out.lt
   replace HB := Lib.hid (HB.out.alloc (.cells #[.slice none 0 0] 28))
   replace HO0 := Lib.hid (HO0.out.alloc (.cells #[.slice none 0 0] 28))
   replace hbw := nB3 hbw hbw.size (.cells #[.slice none 0 0] 28)
   have H11 := Lib.hid (Own.new' W5 28 [.slice none 0 0] W5.heap.size rfl)
   obtain ⟨bH11, e_H11⟩ : ∃ b, W5.heap.size = b := ⟨_, rfl⟩
   simp only [e_H11] at H11 z_H11 z_H11_HO0 ⊢
   generalize (W5.alloc (.cells #[.slice none 0 0] 28)) = W6 at HB HO0 H11 hbw ⊢
   refine hr_eff rfl (by kernel_rfl) (fun K hK => ?_) ?_
   focus
    refine wp_call (HD1.out _ (H1.out.ext hbw)) (by kernel_rfl) ?_
    rintro v1 W7 hb1 hr1
    obtain ⟨PA, Pc, Pn, rfl, hr1⟩ := hr1.shape
    refine hK.out _ _ ?_ ?_
    · exact HB.out.ext hb1
    clear hK K
    (try (conv => arg 6; simp only [Act.put, gL]))
    replace HB := Lib.hid (HB.out.ext hb1)
    replace HO0 := Lib.hid (HO0.out.ext hb1)
    replace H11 := Lib.hid (H11.out.ext hb1)
    replace hbw := nT hbw hb1
    have R1 := Lib.hid hr1
    clear hr1
    clear hb1
    refine hr_eff rfl (by kernel_rfl) (fun K hK => ?_) ?_
    focus
     refine wp_call (HD2.out _ (H2.out.ext hbw)) (by kernel_rfl) ?_
     rintro v1 W8 hb1 hr1
     obtain ⟨QA, Qc, Qn, rfl, hr1⟩ := hr1.shape
     refine hK.out _ _ ?_ ?_
     · exact HB.out.ext hb1
     clear hK K
     (try (conv => arg 6; simp only [Act.put, gL]))
     replace HB := Lib.hid (HB.out.ext hb1)
     replace HO0 := Lib.hid (HO0.out.ext hb1)
     replace H11 := Lib.hid (H11.out.ext hb1)
     replace R1 := Lib.hid (R1.out.ext hb1)
     replace hbw := nT hbw hb1
     have R2 := Lib.hid hr1
     clear hr1
     clear hb1
     refine hr_one rfl (by kernel_rfl) (fun K hK => ?_)
     go_simp
     refine hK.out _ _ ?_ ?_
     · exact HB.out.alloc _
     clear hK K
     (try (conv => arg 6; simp only [Act.put, gL]))
     have z_H12 := hbw.size
     have z_H12_HO0 := HO0.out.lt
     have z_H12_H11 := H11.out.lt
     replace HB := Lib.hid (HB.out.alloc (.cells #[.slice none 0 0] 28))
     replace HO0 := Lib.hid (HO0.out.alloc (.cells #[.slice none 0 0] 28))
     replace H11 := Lib.hid (H11.out.alloc (.cells #[.slice none 0 0] 28))
     replace R1 := Lib.hid (R1.out.alloc (.cells #[.slice none 0 0] 28))
     replace R2 := Lib.hid (R2.out.alloc (.cells #[.slice none 0 0] 28))
     replace hbw := nB3 hbw hbw.size (.cells #[.slice none 0 0] 28)
     have H12 := Lib.hid (Own.new' W8 28 [.slice none 0 0] W8.heap.size rfl)
     obtain ⟨bH12, e_H12⟩ : ∃ b, W8.heap.size = b := ⟨_, rfl⟩
     simp only [e_H12] at H12 z_H12 z_H12_HO0 z_H12_H11 ⊢
     generalize (W8.alloc (.cells #[.slice none 0 0] 28)) = W9 at HB HO0 H11 R1 R2 H12 hbw ⊢
    rotate_left 1
    refine hr_eff rfl (by kernel_rfl) (fun K hK => ?_) ?_
    focus
     go_simp
     refine hK.out _ _ ?_ ?_
     · exact HB.out.alloc _
     clear hK K
     (try (conv => arg 6; simp only [Act.put, gL]))
     have z_H12 := hbw.size
     have z_H12_HO0 := HO0.out.lt
     have z_H12_H11 := H11.out.lt
     replace HB := Lib.hid (HB.out.alloc (.cells #[.slice none 0 0] 28))
     replace HO0 := Lib.hid (HO0.out.alloc (.cells #[.slice none 0 0] 28))
     replace H11 := Lib.hid (H11.out.alloc (.cells #[.slice none 0 0] 28))
     replace R1 := Lib.hid (R1.out.alloc (.cells #[.slice none 0 0] 28))
     replace hbw := nB3 hbw hbw.size (.cells #[.slice none 0 0] 28)
     have H12 := Lib.hid (Own.new' W7 28 [.slice none 0 0] W7.heap.size rfl)
     obtain ⟨bH12, e_H12⟩ : ∃ b, W7.heap.size = b := ⟨_, rfl⟩
     simp only [e_H12] at H12 z_H12 z_H12_HO0 z_H12_H11 ⊢
     generalize (W7.alloc (.cells #[.slice none 0 0] 28)) = W8 at HB HO0 H11 R1 H12 hbw ⊢
     refine hr_one rfl (by kernel_rfl) (fun K hK => ?_)
     refine wp_call (HD2.out _ (H2.out.ext hbw)) (by kernel_rfl) ?_
     rintro v1 W9 hb1 hr1
     obtain ⟨QA, Qc, Qn, rfl, hr1⟩ := hr1.shape
     refine hK.out _ _ ?_ ?_
     · exact HB.out.ext hb1
     clear hK K
     (try (conv => arg 6; simp only [Act.put, gL]))
     replace HB := Lib.hid (HB.out.ext hb1)
     replace HO0 := Lib.hid (HO0.out.ext hb1)
     replace H11 := Lib.hid (H11.out.ext hb1)
     replace R1 := Lib.hid (R1.out.ext hb1)
     replace H12 := Lib.hid (H12.out.ext hb1)
     replace hbw := nT hbw hb1
     have R2 := Lib.hid hr1
     clear hr1
     clear hb1
    rotate_left 1
    exact trivial
   rotate_left 2
   refine hr_eff rfl (by kernel_rfl) (fun K hK => ?_) ?_
   focus
    go_simp
    refine hK.out _ _ ?_ ?_
    · exact HB.out.alloc _
    clear hK K
    (try (conv => arg 6; simp only [Act.put, gL]))
    have z_H12 := hbw.size
    have z_H12_HO0 := HO0.out.lt
    have z_H12_H11 := H11.out.lt
    replace HB := Lib.hid (HB.out.alloc (.cells #[.slice none 0 0] 28))
    replace HO0 := Lib.hid (HO0.out.alloc (.cells #[.slice none 0 0] 28))
    replace H11 := Lib.hid (H11.out.alloc (.cells #[.slice none 0 0] 28))
    replace hbw := nB3 hbw hbw.size (.cells #[.slice none 0 0] 28)
    have H12 := Lib.hid (Own.new' W6 28 [.slice none 0 0] W6.heap.size rfl)
    obtain ⟨bH12, e_H12⟩ : ∃ b, W6.heap.size = b := ⟨_, rfl⟩
    simp only [e_H12] at H12 z_H12 z_H12_HO0 z_H12_H11 ⊢
    generalize (W6.alloc (.cells #[.slice none 0 0] 28)) = W7 at HB HO0 H11 H12 hbw ⊢
    refine hr_one rfl (by kernel_rfl) (fun K hK => ?_)
    refine wp_call (HD1.out _ (H1.out.ext hbw)) (by kernel_rfl) ?_
    rintro v1 W8 hb1 hr1
    obtain ⟨PA, Pc, Pn, rfl, hr1⟩ := hr1.shape
    refine hK.out _ _ ?_ ?_
    · exact HB.out.ext hb1
    clear hK K
    (try (conv => arg 6; simp only [Act.put, gL]))
    replace HB := Lib.hid (HB.out.ext hb1)
    replace HO0 := Lib.hid (HO0.out.ext hb1)
    replace H11 := Lib.hid (H11.out.ext hb1)
    replace H12 := Lib.hid (H12.out.ext hb1)
    replace hbw := nT hbw hb1
    have R1 := Lib.hid hr1
    clear hr1
    clear hb1
    refine hr_one rfl (by kernel_rfl) (fun K hK => ?_)
    refine wp_call (HD2.out _ (H2.out.ext hbw)) (by kernel_rfl) ?_
    rintro v1 W9 hb1 hr1
    obtain ⟨QA, Qc, Qn, rfl, hr1⟩ := hr1.shape
    refine hK.out _ _ ?_ ?_
    · exact HB.out.ext hb1
    clear hK K
    (try (conv => arg 6; simp only [Act.put, gL]))
    replace HB := Lib.hid (HB.out.ext hb1)
    replace HO0 := Lib.hid (HO0.out.ext hb1)
    replace H11 := Lib.hid (H11.out.ext hb1)
    replace H12 := Lib.hid (H12.out.ext hb1)
    replace R1 := Lib.hid (R1.out.ext hb1)
    replace hbw := nT hbw hb1
    have R2 := Lib.hid hr1
    clear hr1
    clear hb1
   rotate_left 1
   exact trivial
  rotate_left 3
  refine hr_eff rfl (by kernel_rfl) (fun K hK => ?_) ?_
  focus
   go_simp
   refine hK.out _ _ ?_ ?_
   · exact HB.out.alloc _
   clear hK K
   (try (conv => arg 6; simp only [Act.put, gL]))
   have z_H12 := hbw.size
   have z_H12_HO0 := HO0.out.lt
   replace HB := Lib.hid (HB.out.alloc (.cells #[.slice none 0 0] 28))
   replace HO0 := Lib.hid (HO0.out.alloc (.cells #[.slice none 0 0] 28))
   replace hbw := nB3 hbw hbw.size (.cells #[.slice none 0 0] 28)
   have H12 := Lib.hid (Own.new' W5 28 [.slice none 0 0] W5.heap.size rfl)
   obtain ⟨bH12, e_H12⟩ : ∃ b, W5.heap.size = b := ⟨_, rfl⟩
   simp only [e_H12] at H12 z_H12 z_H12_HO0 ⊢
   generalize (W5.alloc (.cells #[.slice none 0 0] 28)) = W6 at HB HO0 H12 hbw ⊢
   refine hr_eff rfl (by kernel_rfl) (fun K hK => ?_) ?_
   focus
    refine wp_call (HD1.out _ (H1.out.ext hbw)) (by kernel_rfl) ?_
    rintro v1 W7 hb1 hr1
    obtain ⟨PA, Pc, Pn, rfl, hr1⟩ := hr1.shape
    refine hK.out _ _ ?_ ?_
    · exact HB.out.ext hb1
    clear hK K
    (try (conv => arg 6; simp only [Act.put, gL]))
    replace HB := Lib.hid (HB.out.ext hb1)
    replace HO0 := Lib.hid (HO0.out.ext hb1)
    replace H12 := Lib.hid (H12.out.ext hb1)
    replace hbw := nT hbw hb1
    have R1 := Lib.hid hr1
    clear hr1
    clear hb1
    refine hr_eff rfl (by kernel_rfl) (fun K hK => ?_) ?_
    focus
     refine wp_call (HD2.out _ (H2.out.ext hbw)) (by kernel_rfl) ?_
     rintro v1 W8 hb1 hr1
     obtain ⟨QA, Qc, Qn, rfl, hr1⟩ := hr1.shape
     refine hK.out _ _ ?_ ?_
     · exact HB.out.ext hb1
     clear hK K
     (try (conv => arg 6; simp only [Act.put, gL]))
     replace HB := Lib.hid (HB.out.ext hb1)
     replace HO0 := Lib.hid (HO0.out.ext hb1)
     replace H12 := Lib.hid (H12.out.ext hb1)
     replace R1 := Lib.hid (R1.out.ext hb1)
     replace hbw := nT hbw hb1
     have R2 := Lib.hid hr1
     clear hr1
     clear hb1
     refine hr_one rfl (by kernel_rfl) (fun K hK => ?_)
     go_simp
     refine hK.out _ _ ?_ ?_
     · exact HB.out.alloc _
     clear hK K
     (try (conv => arg 6; simp only [Act.put, gL]))
     have z_H11 := hbw.size
     have z_H11_HO0 := HO0.out.lt
     have z_H11_H12 := H12.out.lt
     replace HB := Lib.hid (HB.out.alloc (.cells #[.slice none 0 0] 28))
     replace HO0 := Lib.hid (HO0.out.alloc (.cells #[.slice none 0 0] 28))
     replace H12 := Lib.hid (H12.out.alloc (.cells #[.slice none 0 0] 28))
     replace R1 := Lib.hid (R1.out.alloc (.cells #[.slice none 0 0] 28))
     replace R2 := Lib.hid (R2.out.alloc (.cells #[.slice none 0 0] 28))
     replace hbw := nB3 hbw hbw.size (.cells #[.slice none 0 0] 28)
     have H11 := Lib.hid (Own.new' W8 28 [.slice none 0 0] W8.heap.size rfl)
     obtain ⟨bH11, e_H11⟩ : ∃ b, W8.heap.size = b := ⟨_, rfl⟩
     simp only [e_H11] at H11 z_H11 z_H11_HO0 z_H11_H12 ⊢
     generalize (W8.alloc (.cells #[.slice none 0 0] 28)) = W9 at HB HO0 H12 R1 R2 H11 hbw ⊢
    rotate_left 1
    refine hr_eff rfl (by kernel_rfl) (fun K hK => ?_) ?_
    focus
     go_simp
     refine hK.out _ _ ?_ ?_
     · exact HB.out.alloc _
     clear hK K
     (try (conv => arg 6; simp only [Act.put, gL]))
     have z_H11 := hbw.size
     have z_H11_HO0 := HO0.out.lt
     have z_H11_H12 := H12.out.lt
     replace HB := Lib.hid (HB.out.alloc (.cells #[.slice none 0 0] 28))
     replace HO0 := Lib.hid (HO0.out.alloc (.cells #[.slice none 0 0] 28))
     replace H12 := Lib.hid (H12.out.alloc (.cells #[.slice none 0 0] 28))
     replace R1 := Lib.hid (R1.out.alloc (.cells #[.slice none 0 0] 28))
     replace hbw := nB3 hbw hbw.size (.cells #[.slice none 0 0] 28)
     have H11 := Lib.hid (Own.new' W7 28 [.slice none 0 0] W7.heap.size rfl)
     obtain ⟨bH11, e_H11⟩ : ∃ b, W7.heap.size = b := ⟨_, rfl⟩
     simp only [e_H11] at H11 z_H11 z_H11_HO0 z_H11_H12 ⊢
     generalize (W7.alloc (.cells #[.slice none 0 0] 28)) = W8 at HB HO0 H12 R1 H11 hbw ⊢
     refine hr_one rfl (by kernel_rfl) (fun K hK => ?_)
     refine wp_call (HD2.out _ (H2.out.ext hbw)) (by kernel_rfl) ?_
     rintro v1 W9 hb1 hr1
     obtain ⟨QA, Qc, Qn, rfl, hr1⟩ := hr1.shape
     refine hK.out _ _ ?_ ?_
     · exact HB.out.ext hb1
     clear hK K
     (try (conv => arg 6; simp only [Act.put, gL]))
     replace HB := Lib.hid (HB.out.ext hb1)
     replace HO0 := Lib.hid (HO0.out.ext hb1)
     replace H12 := Lib.hid (H12.out.ext hb1)
     replace R1 := Lib.hid (R1.out.ext hb1)
     replace H11 := Lib.hid (H11.out.ext hb1)
     replace hbw := nT hbw hb1
     have R2 := Lib.hid hr1
     clear hr1
     clear hb1
    rotate_left 1
    exact trivial
   rotate_left 2
   refine hr_eff rfl (by kernel_rfl) (fun K hK => ?_) ?_
   focus
    go_simp
    refine hK.out _ _ ?_ ?_
    · exact HB.out.alloc _
    clear hK K
    (try (conv => arg 6; simp only [Act.put, gL]))
    have z_H11 := hbw.size
    have z_H11_HO0 := HO0.out.lt
    have z_H11_H12 := H12.out.lt
    replace HB := Lib.hid (HB.out.alloc (.cells #[.slice none 0 0] 28))
    replace HO0 := Lib.hid (HO0.out.alloc (.cells #[.slice none 0 0] 28))
    replace H12 := Lib.hid (H12.out.alloc (.cells #[.slice none 0 0] 28))
    replace hbw := nB3 hbw hbw.size (.cells #[.slice none 0 0] 28)
    have H11 := Lib.hid (Own.new' W6 28 [.slice none 0 0] W6.heap.size rfl)
    obtain ⟨bH11, e_H11⟩ : ∃ b, W6.heap.size = b := ⟨_, rfl⟩
    simp only [e_H11] at H11 z_H11 z_H11_HO0 z_H11_H12 ⊢
    generalize (W6.alloc (.cells #[.slice none 0 0] 28)) = W7 at HB HO0 H12 H11 hbw ⊢
    refine hr_one rfl (by kernel_rfl) (fun K hK => ?_)
    refine wp_call (HD1.out _ (H1.out.ext hbw)) (by kernel_rfl) ?_
    rintro v1 W8 hb1 hr1
    obtain ⟨PA, Pc, Pn, rfl, hr1⟩ := hr1.shape
    refine hK.out _ _ ?_ ?_
    · exact HB.out.ext hb1
    clear hK K
    (try (conv => arg 6; simp only [Act.put, gL]))
    replace HB := Lib.hid (HB.out.ext hb1)
    replace HO0 := Lib.hid (HO0.out.ext hb1)
    replace H12 := Lib.hid (H12.out.ext hb1)
    replace H11 := Lib.hid (H11.out.ext hb1)
    replace hbw := nT hbw hb1
    have R1 := Lib.hid hr1
    clear hr1
    clear hb1
    refine hr_one rfl (by kernel_rfl) (fun K hK => ?_)
    refine wp_call (HD2.out _ (H2.out.ext hbw)) (by kernel_rfl) ?_
    rintro v1 W9 hb1 hr1
    obtain ⟨QA, Qc, Qn, rfl, hr1⟩ := hr1.shape
    refine hK.out _ _ ?_ ?_
    · exact HB.out.ext hb1
    clear hK K
    (try (conv => arg 6; simp only [Act.put, gL]))
    replace HB := Lib.hid (HB.out.ext hb1)
    replace HO0 := Lib.hid (HO0.out.ext hb1)
    replace H12 := Lib.hid (H12.out.ext hb1)
    replace H11 := Lib.hid (H11.out.ext hb1)
    replace R1 := Lib.hid (R1.out.ext hb1)
    replace hbw := nT hbw hb1
    have R2 := Lib.hid hr1
    clear hr1
    clear hb1
   rotate_left 1
   exact trivial
  rotate_left 3
  exact trivial
  all_goals
   refine hr_one rfl (by kernel_rfl) (fun K hK => ?_)
   have q0 := H11.out.cell 0 _ rfl
   have f0 := H11.out.frozen 0
   go_simp
   refine hK.out _ _ ?_ ?_
   · exact (HB.out.set (p := ⟨bH11, 0, none⟩) _ (by simp <;> omega))
   clear hK K
   (try (conv => arg 6; simp only [Act.put, gL]))
   replace HB := Lib.hid (HB.out.set (p := ⟨bH11, 0, none⟩) (.slice PA Pn Pc) (by simp <;> omega))
   replace HO0 := Lib.hid (HO0.out.other (p := ⟨bH11, 0, none⟩) (.slice PA Pn Pc) (by simp <;> omega))
   replace H12 := Lib.hid (H12.out.other (p := ⟨bH11, 0, none⟩) (.slice PA Pn Pc) (by simp <;> omega))
   replace H11 := Lib.hid (H11.out.set 0 (.slice PA Pn Pc))
   replace R1 := Lib.hid (R1.out.set (x := .slice PA Pn Pc) q0 rfl)
   replace R2 := Lib.hid (R2.out.set (x := .slice PA Pn Pc) q0 rfl)
   replace hbw := nB4 hbw (show w.heap.size ≤ (⟨bH11, 0, none⟩ : Addr).block by simp <;> omega) (.slice PA Pn Pc)
   clear q0 f0
   replace H11 : Hid (Own _ _ _ [.slice PA Pn Pc]) := H11
   generalize (W9.setCell ⟨bH11, 0, none⟩ (.slice PA Pn Pc)) = W10 at HB HO0 H12 H11 R1 R2 hbw ⊢
   refine hr_one rfl (by kernel_rfl) (fun K hK => ?_)
   have q0 := H12.out.cell 0 _ rfl
   have f0 := H12.out.frozen 0
   go_simp
   refine hK.out _ _ ?_ ?_
   · exact (HB.out.set (p := ⟨bH12, 0, none⟩) _ (by simp <;> omega))
   clear hK K
   (try (conv => arg 6; simp only [Act.put, gL]))
   replace HB := Lib.hid (HB.out.set (p := ⟨bH12, 0, none⟩) (.slice QA Qn Qc) (by simp <;> omega))
   replace HO0 := Lib.hid (HO0.out.other (p := ⟨bH12, 0, none⟩) (.slice QA Qn Qc) (by simp <;> omega))
   replace H12 := Lib.hid (H12.out.set 0 (.slice QA Qn Qc))
   replace H11 := Lib.hid (H11.out.other (p := ⟨bH12, 0, none⟩) (.slice QA Qn Qc) (by simp <;> omega))
   replace R1 := Lib.hid (R1.out.set (x := .slice QA Qn Qc) q0 rfl)
   replace R2 := Lib.hid (R2.out.set (x := .slice QA Qn Qc) q0 rfl)
   replace hbw := nB4 hbw (show w.heap.size ≤ (⟨bH12, 0, none⟩ : Addr).block by simp <;> omega) (.slice QA Qn Qc)
   clear q0 f0
   replace H12 : Hid (Own _ _ _ [.slice QA Qn Qc]) := H12
   generalize (W10.setCell ⟨bH12, 0, none⟩ (.slice QA Qn Qc)) = W11 at HB HO0 H12 H11 R1 R2 hbw ⊢
   refine hr_done ?_
   go_wp2
   go_meet
   exact ⟨bH12, bH11, PA, Pc, Pn, QA, Qc, Qn, rfl, rfl, hbw, HB.out, HO0.out, R1.out, R2.out, H11.out, H12.out, by omega, by omega, by omega⟩
 obtain ⟨bH12, bH11, PA, Pc, Pn, QA, Qc, Qn, rfl, rfl, hbw, h_HB, h_HO0, h_R1, h_R2, h_H11, h_H12, z_H11_HO0, z_H12_HO0, z_H12_H11⟩ := hcut
 try clear HB HO0 R1 R2 H11 H12
 have HB := Lib.hid h_HB
 clear h_HB
 have HO0 := Lib.hid h_HO0
 clear h_HO0
 have R1 := Lib.hid h_R1
 clear h_R1
 have R2 := Lib.hid h_R2
 clear h_R2
 have H11 := Lib.hid h_H11
 clear h_H11
 have H12 := Lib.hid h_H12
 clear h_H12
 replace HB := Lib.hid (Cells.cons (H11.out.cell 0 _ rfl) HB.out)
 replace HB := Lib.hid (Cells.cons (H12.out.cell 0 _ rfl) HB.out)
 go_wp2_with fail
 go_upto_region 9 with (fail)
 go_cut [13] (fun p13 WC => ∃ bH13 : Nat, ∃ GA : Option Addr, ∃ Gc : Nat, ∃ Gn : Nat, p13 = .pointer (some ⟨bH13, 0, none⟩) ∧ Below w.heap.size w WC ∧ Cells [(bH12, 0, .slice QA Qn Qc), (bH11, 0, .slice PA Pn Pc), (w.heap.size, 0, .bool s1), (w.heap.size, 1, .slice A1 n1 c1), (w.heap.size, 2, .slice B1 m1 k1), (w.heap.size + 1, 0, .bool s2), (w.heap.size + 1, 1, .slice A2 n2 c2), (w.heap.size + 1, 2, .slice B2 m2 k2)] WC ∧ Own WC (w.heap.size + 1 + 1) 32 [.bool false, .slice none 0 0, .slice none 0 0] ∧ rNat WC (.agg #[.slice PA Pn Pc]) (a.den) ∧ rNat WC (.agg #[.slice QA Qn Qc]) (b.den) ∧ rNat WC (.agg #[.slice GA Gn Gc]) (g) ∧ Own WC (bH13) 28 [.slice GA Gn Gc] ∧ w.heap.size + 1 + 1 < bH13 ∧ bH12 < bH13 ∧ bH11 < bH13)
 case first =>
  replace HB := Lib.hid (HB.out.drew)
  replace HO0 := Lib.hid (HO0.out.drew)
  replace R1 := Lib.hid (R1.out.drew)
  replace R2 := Lib.hid (R2.out.drew)
  replace hbw := Below.drew hbw
  refine wp_hoistR (.yes 0 (.yes 2 (.act 1 (.act 3 (.act 4 (.act 5 (.act 6 (.done) (.stop)) (.stop)) (.act 5 (.act 4 (.act 6 (.done) (.stop)) (.stop)) (.stop))) (.act 5 (.act 3 (.act 4 (.act 6 (.done) (.stop)) (.stop)) (.stop)) (.stop))) (.act 5 (.act 1 (.act 3 (.act 4 (.act 6 (.done) (.stop)) (.stop)) (.stop)) (.stop)) (.stop))))) (Cells [(bH12, 0, .slice QA Qn Qc), (bH11, 0, .slice PA Pn Pc), (w.heap.size, 0, .bool s1), (w.heap.size, 1, .slice A1 n1 c1), (w.heap.size, 2, .slice B1 m1 k1), (w.heap.size + 1, 0, .bool s2), (w.heap.size + 1, 1, .slice A2 n2 c2), (w.heap.size + 1, 2, .slice B2 m2 k2)]) (by kernel_rfl) (by kernel_rfl) ?_ ?_
  · exact HB.out
  generalize wc.drew = W12 at HB HO0 R1 R2 hbw ⊢
  refine hr_yes (v := ?_) rfl (by kernel_rfl) (fun W hW => ?_) ?_; rotate_left; (obtain ⟨y0, y1, y2, y3, y4, y5, y6, y7, _⟩ := hW; go_simp; try with_reducible rfl)
  (try (conv => arg 6; simp only [Act.put, gL]))
  refine hr_yes (v := ?_) rfl (by kernel_rfl) (fun W hW => ?_) ?_; rotate_left; (obtain ⟨y0, y1, y2, y3, y4, y5, y6, y7, _⟩ := hW; go_simp; try with_reducible rfl)
  (try (conv => arg 6; simp only [Act.put, gL]))
  refine hr_eff rfl (by kernel_rfl) (fun K hK => ?_) ?_
  focus
   refine wp_call (HWA.out _ _ R1.out) (by kernel_rfl) ?_
   rintro v1 W13 hb1 hr1
   obtain ⟨Vs, VA, Vc, Vn, rfl, hr1⟩ := hr1.shape
   refine hK.out _ _ ?_ ?_
   · exact HB.out.ext hb1
   clear hK K
   (try (conv => arg 6; simp only [Act.put, gL]))
   replace HB := Lib.hid (HB.out.ext hb1)
   replace HO0 := Lib.hid (HO0.out.ext hb1)
   replace R1 := Lib.hid (R1.out.ext hb1)
   replace R2 := Lib.hid (R2.out.ext hb1)
   replace hbw := nT hbw hb1
   have R3 := Lib.hid hr1
   clear hr1
   clear hb1
   refine hr_eff rfl (by kernel_rfl) (fun K hK => ?_) ?_
   focus
    refine wp_call (HWB.out _ _ R2.out) (by kernel_rfl) ?_
    rintro v1 W14 hb1 hr1
    obtain ⟨Us, UA, Uc, Un, rfl, hr1⟩ := hr1.shape
    refine hK.out _ _ ?_ ?_
    · exact HB.out.ext hb1
    clear hK K
    (try (conv => arg 6; simp only [Act.put, gL]))
    replace HB := Lib.hid (HB.out.ext hb1)
    replace HO0 := Lib.hid (HO0.out.ext hb1)
    replace R1 := Lib.hid (R1.out.ext hb1)
    replace R2 := Lib.hid (R2.out.ext hb1)
    replace R3 := Lib.hid (R3.out.ext hb1)
    replace hbw := nT hbw hb1
    have R4 := Lib.hid hr1
    clear hr1
    clear hb1
    refine hr_eff rfl (by kernel_rfl) (fun K hK => ?_) ?_
    focus
     refine wp_call (HGG.out _ _ _ R3.out R4.out) (by kernel_rfl) ?_
     rintro v1 W15 hb1 hr1
     obtain ⟨GA, Gc, Gn, rfl, hr1⟩ := hr1.shape
     refine hK.out _ _ ?_ ?_
     · exact HB.out.ext hb1
     clear hK K
     (try (conv => arg 6; simp only [Act.put, gL]))
     replace HB := Lib.hid (HB.out.ext hb1)
     replace HO0 := Lib.hid (HO0.out.ext hb1)
     replace R1 := Lib.hid (R1.out.ext hb1)
     replace R2 := Lib.hid (R2.out.ext hb1)
     replace R3 := Lib.hid (R3.out.ext hb1)
     replace R4 := Lib.hid (R4.out.ext hb1)
     replace hbw := nT hbw hb1
     have R5 := Lib.hid hr1
     clear hr1
     clear hb1
     refine hr_one rfl (by kernel_rfl) (fun K hK => ?_)
     go_simp
     refine hK.out _ _ ?_ ?_
     · exact HB.out.alloc _
     clear hK K
     (try (conv => arg 6; simp only [Act.put, gL]))
     have z_H13 := hbw.size
     have z_H13_HO0 := HO0.out.lt
     have z_H13_H12 := cell_lt HB.out.1
     have z_H13_H11 := cell_lt HB.out.2.1
     replace HB := Lib.hid (HB.out.alloc (.cells #[.slice none 0 0] 28))
     replace HO0 := Lib.hid (HO0.out.alloc (.cells #[.slice none 0 0] 28))
     replace R1 := Lib.hid (R1.out.alloc (.cells #[.slice none 0 0] 28))
     replace R2 := Lib.hid (R2.out.alloc (.cells #[.slice none 0 0] 28))
     replace R3 := Lib.hid (R3.out.alloc (.cells #[.slice none 0 0] 28))
     replace R4 := Lib.hid (R4.out.alloc (.cells #[.slice none 0 0] 28))
     replace R5 := Lib.hid (R5.out.alloc (.cells #[.slice none 0 0] 28))
     replace hbw := nB3 hbw hbw.size (.cells #[.slice none 0 0] 28)
     have H13 := Lib.hid (Own.new' W15 28 [.slice none 0 0] W15.heap.size rfl)
     obtain ⟨bH13, e_H13⟩ : ∃ b, W15.heap.size = b := ⟨_, rfl⟩
     simp only [e_H13] at H13 z_H13 z_H13_HO0 z_H13_H12 z_H13_H11 ⊢
     generalize (W15.alloc (.cells #[.slice none 0 0] 28)) = W16 at HB HO0 R1 R2 R3 R4 R5 H13 hbw ⊢
    rotate_left 1
    refine hr_eff rfl (by kernel_rfl) (fun K hK => ?_) ?_
    focus
     go_simp
     refine hK.out _ _ ?_ ?_
     · exact HB.out.alloc _
     clear hK K
     (try (conv => arg 6; simp only [Act.put, gL]))
     have z_H13 := hbw.size
     have z_H13_HO0 := HO0.out.lt
     have z_H13_H12 := cell_lt HB.out.1
     have z_H13_H11 := cell_lt HB.out.2.1
     replace HB := Lib.hid (HB.out.alloc (.cells #[.slice none 0 0] 28))
     replace HO0 := Lib.hid (HO0.out.alloc (.cells #[.slice none 0 0] 28))
     replace R1 := Lib.hid (R1.out.alloc (.cells #[.slice none 0 0] 28))
     replace R2 := Lib.hid (R2.out.alloc (.cells #[.slice none 0 0] 28))
     replace R3 := Lib.hid (R3.out.alloc (.cells #[.slice none 0 0] 28))
     replace R4 := Lib.hid (R4.out.alloc (.cells #[.slice none 0 0] 28))
     replace hbw := nB3 hbw hbw.size (.cells #[.slice none 0 0] 28)
     have H13 := Lib.hid (Own.new' W14 28 [.slice none 0 0] W14.heap.size rfl)
     obtain ⟨bH13, e_H13⟩ : ∃ b, W14.heap.size = b := ⟨_, rfl⟩
     simp only [e_H13] at H13 z_H13 z_H13_HO0 z_H13_H12 z_H13_H11 ⊢
     generalize (W14.alloc (.cells #[.slice none 0 0] 28)) = W15 at HB HO0 R1 R2 R3 R4 H13 hbw ⊢
     refine hr_one rfl (by kernel_rfl) (fun K hK => ?_)
     refine wp_call (HGG.out _ _ _ R3.out R4.out) (by kernel_rfl) ?_
     rintro v1 W16 hb1 hr1
     obtain ⟨GA, Gc, Gn, rfl, hr1⟩ := hr1.shape
     refine hK.out _ _ ?_ ?_
     · exact HB.out.ext hb1
     clear hK K
     (try (conv => arg 6; simp only [Act.put, gL]))
     replace HB := Lib.hid (HB.out.ext hb1)
     replace HO0 := Lib.hid (HO0.out.ext hb1)
     replace R1 := Lib.hid (R1.out.ext hb1)
     replace R2 := Lib.hid (R2.out.ext hb1)
     replace R3 := Lib.hid (R3.out.ext hb1)
     replace R4 := Lib.hid (R4.out.ext hb1)
     replace H13 := Lib.hid (H13.out.ext hb1)
     replace hbw := nT hbw hb1
     have R5 := Lib.hid hr1
     clear hr1
     clear hb1
    rotate_left 1
    exact trivial
   rotate_left 2
   refine hr_eff rfl (by kernel_rfl) (fun K hK => ?_) ?_
   focus
    go_simp
    refine hK.out _ _ ?_ ?_
    · exact HB.out.alloc _
    clear hK K
    (try (conv => arg 6; simp only [Act.put, gL]))
    have z_H13 := hbw.size
    have z_H13_HO0 := HO0.out.lt
    have z_H13_H12 := cell_lt HB.out.1
    have z_H13_H11 := cell_lt HB.out.2.1
    replace HB := Lib.hid (HB.out.alloc (.cells #[.slice none 0 0] 28))
    replace HO0 := Lib.hid (HO0.out.alloc (.cells #[.slice none 0 0] 28))
    replace R1 := Lib.hid (R1.out.alloc (.cells #[.slice none 0 0] 28))
    replace R2 := Lib.hid (R2.out.alloc (.cells #[.slice none 0 0] 28))
    replace R3 := Lib.hid (R3.out.alloc (.cells #[.slice none 0 0] 28))
    replace hbw := nB3 hbw hbw.size (.cells #[.slice none 0 0] 28)
    have H13 := Lib.hid (Own.new' W13 28 [.slice none 0 0] W13.heap.size rfl)
    obtain ⟨bH13, e_H13⟩ : ∃ b, W13.heap.size = b := ⟨_, rfl⟩
    simp only [e_H13] at H13 z_H13 z_H13_HO0 z_H13_H12 z_H13_H11 ⊢
    generalize (W13.alloc (.cells #[.slice none 0 0] 28)) = W14 at HB HO0 R1 R2 R3 H13 hbw ⊢
    refine hr_one rfl (by kernel_rfl) (fun K hK => ?_)
    refine wp_call (HWB.out _ _ R2.out) (by kernel_rfl) ?_
    rintro v1 W15 hb1 hr1
    obtain ⟨Us, UA, Uc, Un, rfl, hr1⟩ := hr1.shape
    refine hK.out _ _ ?_ ?_
    · exact HB.out.ext hb1
    clear hK K
    (try (conv => arg 6; simp only [Act.put, gL]))
    replace HB := Lib.hid (HB.out.ext hb1)
    replace HO0 := Lib.hid (HO0.out.ext hb1)
    replace R1 := Lib.hid (R1.out.ext hb1)
    replace R2 := Lib.hid (R2.out.ext hb1)
    replace R3 := Lib.hid (R3.out.ext hb1)
    replace H13 := Lib.hid (H13.out.ext hb1)
    replace hbw := nT hbw hb1
    have R4 := Lib.hid hr1
    clear hr1
    clear hb1
    refine hr_one rfl (by kernel_rfl) (fun K hK => ?_)
    refine wp_call (HGG.out _ _ _ R3.out R4.out) (by kernel_rfl) ?_
    rintro v1 W16 hb1 hr1
    obtain ⟨GA, Gc, Gn, rfl, hr1⟩ := hr1.shape
    refine hK.out _ _ ?_ ?_
    · exact HB.out.ext hb1
    clear hK K
    (try (conv => arg 6; simp only [Act.put, gL]))
    replace HB := Lib.hid (HB.out.ext hb1)
    replace HO0 := Lib.hid (HO0.out.ext hb1)
    replace R1 := Lib.hid (R1.out.ext hb1)
    replace R2 := Lib.hid (R2.out.ext hb1)
    replace R3 := Lib.hid (R3.out.ext hb1)
    replace H13 := Lib.hid (H13.out.ext hb1)
    replace R4 := Lib.hid (R4.out.ext hb1)
    replace hbw := nT hbw hb1
    have R5 := Lib.hid hr1
    clear hr1
    clear hb1
   rotate_left 1
   exact trivial
  rotate_left 3
  refine hr_eff rfl (by kernel_rfl) (fun K hK => ?_) ?_
  focus
   go_simp
   refine hK.out _ _ ?_ ?_
   · exact HB.out.alloc _
   clear hK K
   (try (conv => arg 6; simp only [Act.put, gL]))
   have z_H13 := hbw.size
   have z_H13_HO0 := HO0.out.lt
   have z_H13_H12 := cell_lt HB.out.1
   have z_H13_H11 := cell_lt HB.out.2.1
   replace HB := Lib.hid (HB.out.alloc (.cells #[.slice none 0 0] 28))
   replace HO0 := Lib.hid (HO0.out.alloc (.cells #[.slice none 0 0] 28))
   replace R1 := Lib.hid (R1.out.alloc (.cells #[.slice none 0 0] 28))
   replace R2 := Lib.hid (R2.out.alloc (.cells #[.slice none 0 0] 28))
   replace hbw := nB3 hbw hbw.size (.cells #[.slice none 0 0] 28)
   have H13 := Lib.hid (Own.new' W12 28 [.slice none 0 0] W12.heap.size rfl)
   obtain ⟨bH13, e_H13⟩ : ∃ b, W12.heap.size = b := ⟨_, rfl⟩
   simp only [e_H13] at H13 z_H13 z_H13_HO0 z_H13_H12 z_H13_H11 ⊢
   generalize (W12.alloc (.cells #[.slice none 0 0] 28)) = W13 at HB HO0 R1 R2 H13 hbw ⊢
   refine hr_one rfl (by kernel_rfl) (fun K hK => ?_)
   refine wp_call (HWA.out _ _ R1.out) (by kernel_rfl) ?_
   rintro v1 W14 hb1 hr1
   obtain ⟨Vs, VA, Vc, Vn, rfl, hr1⟩ := hr1.shape
   refine hK.out _ _ ?_ ?_
   · exact HB.out.ext hb1
   clear hK K
   (try (conv => arg 6; simp only [Act.put, gL]))
   replace HB := Lib.hid (HB.out.ext hb1)
   replace HO0 := Lib.hid (HO0.out.ext hb1)
   replace R1 := Lib.hid (R1.out.ext hb1)
   replace R2 := Lib.hid (R2.out.ext hb1)
   replace H13 := Lib.hid (H13.out.ext hb1)
   replace hbw := nT hbw hb1
   have R3 := Lib.hid hr1
   clear hr1
   clear hb1
   refine hr_one rfl (by kernel_rfl) (fun K hK => ?_)
   refine wp_call (HWB.out _ _ R2.out) (by kernel_rfl) ?_
   rintro v1 W15 hb1 hr1
   obtain ⟨Us, UA, Uc, Un, rfl, hr1⟩ := hr1.shape
   refine hK.out _ _ ?_ ?_
   · exact HB.out.ext hb1
   clear hK K
   (try (conv => arg 6; simp only [Act.put, gL]))
   replace HB := Lib.hid (HB.out.ext hb1)
   replace HO0 := Lib.hid (HO0.out.ext hb1)
   replace R1 := Lib.hid (R1.out.ext hb1)
   replace R2 := Lib.hid (R2.out.ext hb1)
   replace H13 := Lib.hid (H13.out.ext hb1)
   replace R3 := Lib.hid (R3.out.ext hb1)
   replace hbw := nT hbw hb1
   have R4 := Lib.hid hr1
   clear hr1
   clear hb1
   refine hr_one rfl (by kernel_rfl) (fun K hK => ?_)
   refine wp_call (HGG.out _ _ _ R3.out R4.out) (by kernel_rfl) ?_
   rintro v1 W16 hb1 hr1
   obtain ⟨GA, Gc, Gn, rfl, hr1⟩ := hr1.shape
   refine hK.out _ _ ?_ ?_
   · exact HB.out.ext hb1
   clear hK K
   (try (conv => arg 6; simp only [Act.put, gL]))
   replace HB := Lib.hid (HB.out.ext hb1)
   replace HO0 := Lib.hid (HO0.out.ext hb1)
   replace R1 := Lib.hid (R1.out.ext hb1)
   replace R2 := Lib.hid (R2.out.ext hb1)
   replace H13 := Lib.hid (H13.out.ext hb1)
   replace R3 := Lib.hid (R3.out.ext hb1)
   replace R4 := Lib.hid (R4.out.ext hb1)
   replace hbw := nT hbw hb1
   have R5 := Lib.hid hr1
   clear hr1
   clear hb1
  rotate_left 1
  exact trivial
  all_goals
   refine hr_one rfl (by kernel_rfl) (fun K hK => ?_)
   have q0 := H13.out.cell 0 _ rfl
   have f0 := H13.out.frozen 0
   go_simp
   refine hK.out _ _ ?_ ?_
   · exact (HB.out.set (p := ⟨bH13, 0, none⟩) _ (by simp <;> omega))
   clear hK K
   (try (conv => arg 6; simp only [Act.put, gL]))
   replace HB := Lib.hid (HB.out.set (p := ⟨bH13, 0, none⟩) (.slice GA Gn Gc) (by simp <;> omega))
   replace HO0 := Lib.hid (HO0.out.other (p := ⟨bH13, 0, none⟩) (.slice GA Gn Gc) (by simp <;> omega))
   replace R1 := Lib.hid (R1.out.set (x := .slice GA Gn Gc) q0 rfl)
   replace R2 := Lib.hid (R2.out.set (x := .slice GA Gn Gc) q0 rfl)
   replace H13 := Lib.hid (H13.out.set 0 (.slice GA Gn Gc))
   replace R3 := Lib.hid (R3.out.set (x := .slice GA Gn Gc) q0 rfl)
   replace R4 := Lib.hid (R4.out.set (x := .slice GA Gn Gc) q0 rfl)
   replace R5 := Lib.hid (R5.out.set (x := .slice GA Gn Gc) q0 rfl)
   replace hbw := nB4 hbw (show w.heap.size ≤ (⟨bH13, 0, none⟩ : Addr).block by simp <;> omega) (.slice GA Gn Gc)
   clear q0 f0
   replace H13 : Hid (Own _ _ _ [.slice GA Gn Gc]) := H13
   generalize (W16.setCell ⟨bH13, 0, none⟩ (.slice GA Gn Gc)) = W17 at HB HO0 R1 R2 H13 R3 R4 R5 hbw ⊢
   refine hr_done ?_
   go_wp2
   go_meet
   exact ⟨bH13, GA, Gc, Gn, rfl, hbw, HB.out, HO0.out, R1.out, R2.out, R5.out, H13.out, by omega, by omega, by omega⟩
 obtain ⟨bH13, GA, Gc, Gn, rfl, hbw, h_HB, h_HO0, h_R1, h_R2, h_R5, h_H13, z_H13_HO0, z_H13_H12, z_H13_H11⟩ := hcut
 try clear HB HO0 R1 R2 R5 H13
 have HB := Lib.hid h_HB
 clear h_HB
 have HO0 := Lib.hid h_HO0
 clear h_HO0
 have R1 := Lib.hid h_R1
 clear h_R1
 have R2 := Lib.hid h_R2
 clear h_R2
 have R5 := Lib.hid h_R5
 clear h_R5
 have H13 := Lib.hid h_H13
 clear h_H13
 replace HB := Lib.hid (Cells.cons (H13.out.cell 0 _ rfl) HB.out)
 go_upto_region 10 with (fail)
 go_cut [14, 15] (fun p14 p15 WC => ∃ bH15 : Nat, ∃ bH14 : Nat, ∃ XA : Option Addr, ∃ Xc : Nat, ∃ Xn : Nat, ∃ YA : Option Addr, ∃ Yc : Nat, ∃ Yn : Nat, p14 = .pointer (some ⟨bH14, 0, none⟩) ∧ p15 = .pointer (some ⟨bH15, 0, none⟩) ∧ Below w.heap.size w WC ∧ Cells [(bH13, 0, .slice GA Gn Gc), (bH12, 0, .slice QA Qn Qc), (bH11, 0, .slice PA Pn Pc), (w.heap.size, 0, .bool s1), (w.heap.size, 1, .slice A1 n1 c1), (w.heap.size, 2, .slice B1 m1 k1), (w.heap.size + 1, 0, .bool s2), (w.heap.size + 1, 1, .slice A2 n2 c2), (w.heap.size + 1, 2, .slice B2 m2 k2)] WC ∧ Own WC (w.heap.size + 1 + 1) 32 [.bool false, .slice none 0 0, .slice none 0 0] ∧ rNat WC (.agg #[.slice QA Qn Qc]) (b.den) ∧ rNat WC (.agg #[.slice GA Gn Gc]) (g) ∧ rNat WC (.agg #[.slice XA Xn Xc]) (x) ∧ rNat WC (.agg #[.slice YA Yn Yc]) (y) ∧ Own WC (bH14) 28 [.slice XA Xn Xc] ∧ Own WC (bH15) 28 [.slice YA Yn Yc] ∧ w.heap.size + 1 + 1 < bH14 ∧ bH13 < bH14 ∧ bH12 < bH14 ∧ bH11 < bH14 ∧ w.heap.size + 1 + 1 < bH15 ∧ bH14 ≠ bH15 ∧ bH13 < bH15 ∧ bH12 < bH15 ∧ bH11 < bH15)
 case first =>
  replace HB := Lib.hid (HB.out.drew)
  replace HO0 := Lib.hid (HO0.out.drew)
  replace R1 := Lib.hid (R1.out.drew)
  replace R2 := Lib.hid (R2.out.drew)
  replace R5 := Lib.hid (R5.out.drew)
  replace hbw := Below.drew hbw
  refine wp_hoistR (.yes 0 (.yes 1 (.yes 3 (.yes 4 (.act 2 (.act 5 (.act 6 (.act 7 (.act 8 (.act 9 (.done) (.stop)) (.stop)) (.stop)) (.act 7 (.act 6 (.act 8 (.act 9 (.done) (.stop)) (.stop)) (.stop)) (.stop))) (.act 6 (.act 5 (.act 7 (.act 8 (.act 9 (.done) (.stop)) (.stop)) (.stop)) (.act 7 (.act 5 (.act 8 (.act 9 (.done) (.stop)) (.stop)) (.stop)) (.stop))) (.act 7 (.act 5 (.act 6 (.act 8 (.act 9 (.done) (.stop)) (.stop)) (.stop)) (.act 6 (.act 5 (.act 8 (.act 9 (.done) (.stop)) (.stop)) (.stop)) (.stop))) (.stop)))) (.act 6 (.act 2 (.act 5 (.act 7 (.act 8 (.act 9 (.done) (.stop)) (.stop)) (.stop)) (.act 7 (.act 5 (.act 8 (.act 9 (.done) (.stop)) (.stop)) (.stop)) (.stop))) (.act 7 (.act 2 (.act 5 (.act 8 (.act 9 (.done) (.stop)) (.stop)) (.stop)) (.stop)) (.stop))) (.act 7 (.act 2 (.act 5 (.act 6 (.act 8 (.act 9 (.done) (.stop)) (.stop)) (.stop)) (.act 6 (.act 5 (.act 8 (.act 9 (.done) (.stop)) (.stop)) (.stop)) (.stop))) (.act 6 (.act 2 (.act 5 (.act 8 (.act 9 (.done) (.stop)) (.stop)) (.stop)) (.stop)) (.stop))) (.stop)))))))) (Cells [(bH13, 0, .slice GA Gn Gc), (bH12, 0, .slice QA Qn Qc), (bH11, 0, .slice PA Pn Pc), (w.heap.size, 0, .bool s1), (w.heap.size, 1, .slice A1 n1 c1), (w.heap.size, 2, .slice B1 m1 k1), (w.heap.size + 1, 0, .bool s2), (w.heap.size + 1, 1, .slice A2 n2 c2), (w.heap.size + 1, 2, .slice B2 m2 k2)]) (by kernel_rfl) (by kernel_rfl) ?_ ?_
  · exact HB.out
  generalize wc.drew = W18 at HB HO0 R1 R2 R5 hbw ⊢
  refine hr_yes (v := ?_) rfl (by kernel_rfl) (fun W hW => ?_) ?_; rotate_left; (obtain ⟨y0, y1, y2, y3, y4, y5, y6, y7, y8, _⟩ := hW; go_simp; try with_reducible rfl)
  (try (conv => arg 6; simp only [Act.put, gL]))
  refine hr_yes (v := ?_) rfl (by kernel_rfl) (fun W hW => ?_) ?_; rotate_left; (obtain ⟨y0, y1, y2, y3, y4, y5, y6, y7, y8, _⟩ := hW; go_simp; try with_reducible rfl)
  (try (conv => arg 6; simp only [Act.put, gL]))
  refine hr_yes (v := ?_) rfl (by kernel_rfl) (fun W hW => ?_) ?_; rotate_left; (obtain ⟨y0, y1, y2, y3, y4, y5, y6, y7, y8, _⟩ := hW; go_simp; try with_reducible rfl)
  (try (conv => arg 6; simp only [Act.put, gL]))
  refine hr_yes (v := ?_) rfl (by kernel_rfl) (fun W hW => ?_) ?_; rotate_left; (obtain ⟨y0, y1, y2, y3, y4, y5, y6, y7, y8, _⟩ := hW; go_simp; try with_reducible rfl)
  (try (conv => arg 6; simp only [Act.put, gL]))
  refine hr_eff rfl (by kernel_rfl) (fun K hK => ?_) ?_
  focus
   refine wp_call (HUX.out _ _ _ R1.out R5.out) (by kernel_rfl) ?_
   rintro v1 W19 hb1 hr1
   obtain ⟨XA, Xc, Xn, rfl, hr1⟩ := hr1.shape
   refine hK.out _ _ ?_ ?_
   · exact HB.out.ext hb1
   clear hK K
   (try (conv => arg 6; simp only [Act.put, gL]))
   replace HB := Lib.hid (HB.out.ext hb1)
   replace HO0 := Lib.hid (HO0.out.ext hb1)
   replace R1 := Lib.hid (R1.out.ext hb1)
   replace R2 := Lib.hid (R2.out.ext hb1)
   replace R5 := Lib.hid (R5.out.ext hb1)
   replace hbw := nT hbw hb1
   have R6 := Lib.hid hr1
   clear hr1
   clear hb1
   refine hr_eff rfl (by kernel_rfl) (fun K hK => ?_) ?_
   focus
    refine wp_call (HUY.out _ _ _ R2.out R5.out) (by kernel_rfl) ?_
    rintro v1 W20 hb1 hr1
    obtain ⟨YA, Yc, Yn, rfl, hr1⟩ := hr1.shape
    refine hK.out _ _ ?_ ?_
    · exact HB.out.ext hb1
    clear hK K
    (try (conv => arg 6; simp only [Act.put, gL]))
    replace HB := Lib.hid (HB.out.ext hb1)
    replace HO0 := Lib.hid (HO0.out.ext hb1)
    replace R1 := Lib.hid (R1.out.ext hb1)
    replace R2 := Lib.hid (R2.out.ext hb1)
    replace R5 := Lib.hid (R5.out.ext hb1)
    replace R6 := Lib.hid (R6.out.ext hb1)
    replace hbw := nT hbw hb1
    have R7 := Lib.hid hr1
    clear hr1
    clear hb1
    refine hr_eff rfl (by kernel_rfl) (fun K hK => ?_) ?_
    focus
     go_simp
     refine hK.out _ _ ?_ ?_
     · exact HB.out.alloc _
     clear hK K
     (try (conv => arg 6; simp only [Act.put, gL]))
     have z_H14 := hbw.size
     have z_H14_HO0 := HO0.out.lt
     have z_H14_H13 := cell_lt HB.out.1
     have z_H14_H12 := cell_lt HB.out.2.1
     have z_H14_H11 := cell_lt HB.out.2.2.1
     replace HB := Lib.hid (HB.out.alloc (.cells #[.slice none 0 0] 28))
     replace HO0 := Lib.hid (HO0.out.alloc (.cells #[.slice none 0 0] 28))
     replace R1 := Lib.hid (R1.out.alloc (.cells #[.slice none 0 0] 28))
     replace R2 := Lib.hid (R2.out.alloc (.cells #[.slice none 0 0] 28))
     replace R5 := Lib.hid (R5.out.alloc (.cells #[.slice none 0 0] 28))
     replace R6 := Lib.hid (R6.out.alloc (.cells #[.slice none 0 0] 28))
     replace R7 := Lib.hid (R7.out.alloc (.cells #[.slice none 0 0] 28))
     replace hbw := nB3 hbw hbw.size (.cells #[.slice none 0 0] 28)
     have H14 := Lib.hid (Own.new' W20 28 [.slice none 0 0] W20.heap.size rfl)
     obtain ⟨bH14, e_H14⟩ : ∃ b, W20.heap.size = b := ⟨_, rfl⟩
     simp only [e_H14] at H14 z_H14 z_H14_HO0 z_H14_H13 z_H14_H12 z_H14_H11 ⊢
     generalize (W20.alloc (.cells #[.slice none 0 0] 28)) = W21 at HB HO0 R1 R2 R5 R6 R7 H14 hbw ⊢
     refine hr_one rfl (by kernel_rfl) (fun K hK => ?_)
     go_simp
     refine hK.out _ _ ?_ ?_
     · exact HB.out.alloc _
     clear hK K
     (try (conv => arg 6; simp only [Act.put, gL]))
     have z_H15 := hbw.size
     have z_H15_HO0 := HO0.out.lt
     have z_H15_H14 := H14.out.lt
     have z_H15_H13 := cell_lt HB.out.1
     have z_H15_H12 := cell_lt HB.out.2.1
     have z_H15_H11 := cell_lt HB.out.2.2.1
     replace HB := Lib.hid (HB.out.alloc (.cells #[.slice none 0 0] 28))
     replace HO0 := Lib.hid (HO0.out.alloc (.cells #[.slice none 0 0] 28))
     replace R1 := Lib.hid (R1.out.alloc (.cells #[.slice none 0 0] 28))
     replace R2 := Lib.hid (R2.out.alloc (.cells #[.slice none 0 0] 28))
     replace R5 := Lib.hid (R5.out.alloc (.cells #[.slice none 0 0] 28))
     replace R6 := Lib.hid (R6.out.alloc (.cells #[.slice none 0 0] 28))
     replace R7 := Lib.hid (R7.out.alloc (.cells #[.slice none 0 0] 28))
     replace H14 := Lib.hid (H14.out.alloc (.cells #[.slice none 0 0] 28))
     replace hbw := nB3 hbw hbw.size (.cells #[.slice none 0 0] 28)
     have H15 := Lib.hid (Own.new' W21 28 [.slice none 0 0] W21.heap.size rfl)
     obtain ⟨bH15, e_H15⟩ : ∃ b, W21.heap.size = b := ⟨_, rfl⟩
     simp only [e_H15] at H15 z_H15 z_H15_HO0 z_H15_H14 z_H15_H13 z_H15_H12 z_H15_H11 ⊢
     generalize (W21.alloc (.cells #[.slice none 0 0] 28)) = W22 at HB HO0 R1 R2 R5 R6 R7 H14 H15 hbw ⊢
    rotate_left 1
    refine hr_eff rfl (by kernel_rfl) (fun K hK => ?_) ?_
    focus
     go_simp
     refine hK.out _ _ ?_ ?_
     · exact HB.out.alloc _
     clear hK K
     (try (conv => arg 6; simp only [Act.put, gL]))
     have z_H15 := hbw.size
     have z_H15_HO0 := HO0.out.lt
     have z_H15_H13 := cell_lt HB.out.1
     have z_H15_H12 := cell_lt HB.out.2.1
     have z_H15_H11 := cell_lt HB.out.2.2.1
     replace HB := Lib.hid (HB.out.alloc (.cells #[.slice none 0 0] 28))
     replace HO0 := Lib.hid (HO0.out.alloc (.cells #[.slice none 0 0] 28))
     replace R1 := Lib.hid (R1.out.alloc (.cells #[.slice none 0 0] 28))
     replace R2 := Lib.hid (R2.out.alloc (.cells #[.slice none 0 0] 28))
     replace R5 := Lib.hid (R5.out.alloc (.cells #[.slice none 0 0] 28))
     replace R6 := Lib.hid (R6.out.alloc (.cells #[.slice none 0 0] 28))
     replace R7 := Lib.hid (R7.out.alloc (.cells #[.slice none 0 0] 28))
     replace hbw := nB3 hbw hbw.size (.cells #[.slice none 0 0] 28)
     have H15 := Lib.hid (Own.new' W20 28 [.slice none 0 0] W20.heap.size rfl)
     obtain ⟨bH15, e_H15⟩ : ∃ b, W20.heap.size = b := ⟨_, rfl⟩
     simp only [e_H15] at H15 z_H15 z_H15_HO0 z_H15_H13 z_H15_H12 z_H15_H11 ⊢
     generalize (W20.alloc (.cells #[.slice none 0 0] 28)) = W21 at HB HO0 R1 R2 R5 R6 R7 H15 hbw ⊢
     refine hr_one rfl (by kernel_rfl) (fun K hK => ?_)
     go_simp
     refine hK.out _ _ ?_ ?_
     · exact HB.out.alloc _
     clear hK K
     (try (conv => arg 6; simp only [Act.put, gL]))
     have z_H14 := hbw.size
     have z_H14_HO0 := HO0.out.lt
     have z_H14_H15 := H15.out.lt
     have z_H14_H13 := cell_lt HB.out.1
     have z_H14_H12 := cell_lt HB.out.2.1
     have z_H14_H11 := cell_lt HB.out.2.2.1
     replace HB := Lib.hid (HB.out.alloc (.cells #[.slice none 0 0] 28))
     replace HO0 := Lib.hid (HO0.out.alloc (.cells #[.slice none 0 0] 28))
     replace R1 := Lib.hid (R1.out.alloc (.cells #[.slice none 0 0] 28))
     replace R2 := Lib.hid (R2.out.alloc (.cells #[.slice none 0 0] 28))
     replace R5 := Lib.hid (R5.out.alloc (.cells #[.slice none 0 0] 28))
     replace R6 := Lib.hid (R6.out.alloc (.cells #[.slice none 0 0] 28))
     replace R7 := Lib.hid (R7.out.alloc (.cells #[.slice none 0 0] 28))
     replace H15 := Lib.hid (H15.out.alloc (.cells #[.slice none 0 0] 28))
     replace hbw := nB3 hbw hbw.size (.cells #[.slice none 0 0] 28)
     have H14 := Lib.hid (Own.new' W21 28 [.slice none 0 0] W21.heap.size rfl)
     obtain ⟨bH14, e_H14⟩ : ∃ b, W21.heap.size = b := ⟨_, rfl⟩
     simp only [e_H14] at H14 z_H14 z_H14_HO0 z_H14_H15 z_H14_H13 z_H14_H12 z_H14_H11 ⊢
     generalize (W21.alloc (.cells #[.slice none 0 0] 28)) = W22 at HB HO0 R1 R2 R5 R6 R7 H15 H14 hbw ⊢
    rotate_left 1
    exact trivial
   rotate_left 2
   refine hr_eff rfl (by kernel_rfl) (fun K hK => ?_) ?_
   focus
    go_simp
    refine hK.out _ _ ?_ ?_
    · exact HB.out.alloc _
    clear hK K
    (try (conv => arg 6; simp only [Act.put, gL]))
    have z_H14 := hbw.size
    have z_H14_HO0 := HO0.out.lt
    have z_H14_H13 := cell_lt HB.out.1
    have z_H14_H12 := cell_lt HB.out.2.1
    have z_H14_H11 := cell_lt HB.out.2.2.1
    replace HB := Lib.hid (HB.out.alloc (.cells #[.slice none 0 0] 28))
    replace HO0 := Lib.hid (HO0.out.alloc (.cells #[.slice none 0 0] 28))
    replace R1 := Lib.hid (R1.out.alloc (.cells #[.slice none 0 0] 28))
    replace R2 := Lib.hid (R2.out.alloc (.cells #[.slice none 0 0] 28))
    replace R5 := Lib.hid (R5.out.alloc (.cells #[.slice none 0 0] 28))
    replace R6 := Lib.hid (R6.out.alloc (.cells #[.slice none 0 0] 28))
    replace hbw := nB3 hbw hbw.size (.cells #[.slice none 0 0] 28)
    have H14 := Lib.hid (Own.new' W19 28 [.slice none 0 0] W19.heap.size rfl)
    obtain ⟨bH14, e_H14⟩ : ∃ b, W19.heap.size = b := ⟨_, rfl⟩
    simp only [e_H14] at H14 z_H14 z_H14_HO0 z_H14_H13 z_H14_H12 z_H14_H11 ⊢
    generalize (W19.alloc (.cells #[.slice none 0 0] 28)) = W20 at HB HO0 R1 R2 R5 R6 H14 hbw ⊢
    refine hr_eff rfl (by kernel_rfl) (fun K hK => ?_) ?_
    focus
     refine wp_call (HUY.out _ _ _ R2.out R5.out) (by kernel_rfl) ?_
     rintro v1 W21 hb1 hr1
     obtain ⟨YA, Yc, Yn, rfl, hr1⟩ := hr1.shape
     refine hK.out _ _ ?_ ?_
     · exact HB.out.ext hb1
     clear hK K
     (try (conv => arg 6; simp only [Act.put, gL]))
     replace HB := Lib.hid (HB.out.ext hb1)
     replace HO0 := Lib.hid (HO0.out.ext hb1)
     replace R1 := Lib.hid (R1.out.ext hb1)
     replace R2 := Lib.hid (R2.out.ext hb1)
     replace R5 := Lib.hid (R5.out.ext hb1)
     replace R6 := Lib.hid (R6.out.ext hb1)
     replace H14 := Lib.hid (H14.out.ext hb1)
     replace hbw := nT hbw hb1
     have R7 := Lib.hid hr1
     clear hr1
     clear hb1
     refine hr_one rfl (by kernel_rfl) (fun K hK => ?_)
     go_simp
     refine hK.out _ _ ?_ ?_
     · exact HB.out.alloc _
     clear hK K
     (try (conv => arg 6; simp only [Act.put, gL]))
     have z_H15 := hbw.size
     have z_H15_HO0 := HO0.out.lt
     have z_H15_H14 := H14.out.lt
     have z_H15_H13 := cell_lt HB.out.1
     have z_H15_H12 := cell_lt HB.out.2.1
     have z_H15_H11 := cell_lt HB.out.2.2.1
     replace HB := Lib.hid (HB.out.alloc (.cells #[.slice none 0 0] 28))
     replace HO0 := Lib.hid (HO0.out.alloc (.cells #[.slice none 0 0] 28))
     replace R1 := Lib.hid (R1.out.alloc (.cells #[.slice none 0 0] 28))
     replace R2 := Lib.hid (R2.out.alloc (.cells #[.slice none 0 0] 28))
     replace R5 := Lib.hid (R5.out.alloc (.cells #[.slice none 0 0] 28))
     replace R6 := Lib.hid (R6.out.alloc (.cells #[.slice none 0 0] 28))
     replace H14 := Lib.hid (H14.out.alloc (.cells #[.slice none 0 0] 28))
     replace R7 := Lib.hid (R7.out.alloc (.cells #[.slice none 0 0] 28))
     replace hbw := nB3 hbw hbw.size (.cells #[.slice none 0 0] 28)
     have H15 := Lib.hid (Own.new' W21 28 [.slice none 0 0] W21.heap.size rfl)
     obtain ⟨bH15, e_H15⟩ : ∃ b, W21.heap.size = b := ⟨_, rfl⟩
     simp only [e_H15] at H15 z_H15 z_H15_HO0 z_H15_H14 z_H15_H13 z_H15_H12 z_H15_H11 ⊢
     generalize (W21.alloc (.cells #[.slice none 0 0] 28)) = W22 at HB HO0 R1 R2 R5 R6 H14 R7 H15 hbw ⊢
    rotate_left 1
    refine hr_eff rfl (by kernel_rfl) (fun K hK => ?_) ?_
    focus
     go_simp
     refine hK.out _ _ ?_ ?_
     · exact HB.out.alloc _
     clear hK K
     (try (conv => arg 6; simp only [Act.put, gL]))
     have z_H15 := hbw.size
     have z_H15_HO0 := HO0.out.lt
     have z_H15_H14 := H14.out.lt
     have z_H15_H13 := cell_lt HB.out.1
     have z_H15_H12 := cell_lt HB.out.2.1
     have z_H15_H11 := cell_lt HB.out.2.2.1
     replace HB := Lib.hid (HB.out.alloc (.cells #[.slice none 0 0] 28))
     replace HO0 := Lib.hid (HO0.out.alloc (.cells #[.slice none 0 0] 28))
     replace R1 := Lib.hid (R1.out.alloc (.cells #[.slice none 0 0] 28))
     replace R2 := Lib.hid (R2.out.alloc (.cells #[.slice none 0 0] 28))
     replace R5 := Lib.hid (R5.out.alloc (.cells #[.slice none 0 0] 28))
     replace R6 := Lib.hid (R6.out.alloc (.cells #[.slice none 0 0] 28))
     replace H14 := Lib.hid (H14.out.alloc (.cells #[.slice none 0 0] 28))
     replace hbw := nB3 hbw hbw.size (.cells #[.slice none 0 0] 28)
     have H15 := Lib.hid (Own.new' W20 28 [.slice none 0 0] W20.heap.size rfl)
     obtain ⟨bH15, e_H15⟩ : ∃ b, W20.heap.size = b := ⟨_, rfl⟩
     simp only [e_H15] at H15 z_H15 z_H15_HO0 z_H15_H14 z_H15_H13 z_H15_H12 z_H15_H11 ⊢
     generalize (W20.alloc (.cells #[.slice none 0 0] 28)) = W21 at HB HO0 R1 R2 R5 R6 H14 H15 hbw ⊢
     refine hr_one rfl (by kernel_rfl) (fun K hK => ?_)
     refine wp_call (HUY.out _ _ _ R2.out R5.out) (by kernel_rfl) ?_
     rintro v1 W22 hb1 hr1
     obtain ⟨YA, Yc, Yn, rfl, hr1⟩ := hr1.shape
     refine hK.out _ _ ?_ ?_
     · exact HB.out.ext hb1
     clear hK K
     (try (conv => arg 6; simp only [Act.put, gL]))
     replace HB := Lib.hid (HB.out.ext hb1)
     replace HO0 := Lib.hid (HO0.out.ext hb1)
     replace R1 := Lib.hid (R1.out.ext hb1)
     replace R2 := Lib.hid (R2.out.ext hb1)
     replace R5 := Lib.hid (R5.out.ext hb1)
     replace R6 := Lib.hid (R6.out.ext hb1)
     replace H14 := Lib.hid (H14.out.ext hb1)
     replace H15 := Lib.hid (H15.out.ext hb1)
     replace hbw := nT hbw hb1
     have R7 := Lib.hid hr1
     clear hr1
     clear hb1
    rotate_left 1
    exact trivial
   rotate_left 2
   refine hr_eff rfl (by kernel_rfl) (fun K hK => ?_) ?_
   focus
    go_simp
    refine hK.out _ _ ?_ ?_
    · exact HB.out.alloc _
    clear hK K
    (try (conv => arg 6; simp only [Act.put, gL]))
    have z_H15 := hbw.size
    have z_H15_HO0 := HO0.out.lt
    have z_H15_H13 := cell_lt HB.out.1
    have z_H15_H12 := cell_lt HB.out.2.1
    have z_H15_H11 := cell_lt HB.out.2.2.1
    replace HB := Lib.hid (HB.out.alloc (.cells #[.slice none 0 0] 28))
    replace HO0 := Lib.hid (HO0.out.alloc (.cells #[.slice none 0 0] 28))
    replace R1 := Lib.hid (R1.out.alloc (.cells #[.slice none 0 0] 28))
    replace R2 := Lib.hid (R2.out.alloc (.cells #[.slice none 0 0] 28))
    replace R5 := Lib.hid (R5.out.alloc (.cells #[.slice none 0 0] 28))
    replace R6 := Lib.hid (R6.out.alloc (.cells #[.slice none 0 0] 28))
    replace hbw := nB3 hbw hbw.size (.cells #[.slice none 0 0] 28)
    have H15 := Lib.hid (Own.new' W19 28 [.slice none 0 0] W19.heap.size rfl)
    obtain ⟨bH15, e_H15⟩ : ∃ b, W19.heap.size = b := ⟨_, rfl⟩
    simp only [e_H15] at H15 z_H15 z_H15_HO0 z_H15_H13 z_H15_H12 z_H15_H11 ⊢
    generalize (W19.alloc (.cells #[.slice none 0 0] 28)) = W20 at HB HO0 R1 R2 R5 R6 H15 hbw ⊢
    refine hr_eff rfl (by kernel_rfl) (fun K hK => ?_) ?_
    focus
     refine wp_call (HUY.out _ _ _ R2.out R5.out) (by kernel_rfl) ?_
     rintro v1 W21 hb1 hr1
     obtain ⟨YA, Yc, Yn, rfl, hr1⟩ := hr1.shape
     refine hK.out _ _ ?_ ?_
     · exact HB.out.ext hb1
     clear hK K
     (try (conv => arg 6; simp only [Act.put, gL]))
     replace HB := Lib.hid (HB.out.ext hb1)
     replace HO0 := Lib.hid (HO0.out.ext hb1)
     replace R1 := Lib.hid (R1.out.ext hb1)
     replace R2 := Lib.hid (R2.out.ext hb1)
     replace R5 := Lib.hid (R5.out.ext hb1)
     replace R6 := Lib.hid (R6.out.ext hb1)
     replace H15 := Lib.hid (H15.out.ext hb1)
     replace hbw := nT hbw hb1
     have R7 := Lib.hid hr1
     clear hr1
     clear hb1
     refine hr_one rfl (by kernel_rfl) (fun K hK => ?_)
     go_simp
     refine hK.out _ _ ?_ ?_
     · exact HB.out.alloc _
     clear hK K
     (try (conv => arg 6; simp only [Act.put, gL]))
     have z_H14 := hbw.size
     have z_H14_HO0 := HO0.out.lt
     have z_H14_H15 := H15.out.lt
     have z_H14_H13 := cell_lt HB.out.1
     have z_H14_H12 := cell_lt HB.out.2.1
     have z_H14_H11 := cell_lt HB.out.2.2.1
     replace HB := Lib.hid (HB.out.alloc (.cells #[.slice none 0 0] 28))
     replace HO0 := Lib.hid (HO0.out.alloc (.cells #[.slice none 0 0] 28))
     replace R1 := Lib.hid (R1.out.alloc (.cells #[.slice none 0 0] 28))
     replace R2 := Lib.hid (R2.out.alloc (.cells #[.slice none 0 0] 28))
     replace R5 := Lib.hid (R5.out.alloc (.cells #[.slice none 0 0] 28))
     replace R6 := Lib.hid (R6.out.alloc (.cells #[.slice none 0 0] 28))
     replace H15 := Lib.hid (H15.out.alloc (.cells #[.slice none 0 0] 28))
     replace R7 := Lib.hid (R7.out.alloc (.cells #[.slice none 0 0] 28))
     replace hbw := nB3 hbw hbw.size (.cells #[.slice none 0 0] 28)
     have H14 := Lib.hid (Own.new' W21 28 [.slice none 0 0] W21.heap.size rfl)
     obtain ⟨bH14, e_H14⟩ : ∃ b, W21.heap.size = b := ⟨_, rfl⟩
     simp only [e_H14] at H14 z_H14 z_H14_HO0 z_H14_H15 z_H14_H13 z_H14_H12 z_H14_H11 ⊢
     generalize (W21.alloc (.cells #[.slice none 0 0] 28)) = W22 at HB HO0 R1 R2 R5 R6 H15 R7 H14 hbw ⊢
    rotate_left 1
    refine hr_eff rfl (by kernel_rfl) (fun K hK => ?_) ?_
    focus
     go_simp
     refine hK.out _ _ ?_ ?_
     · exact HB.out.alloc _
     clear hK K
     (try (conv => arg 6; simp only [Act.put, gL]))
     have z_H14 := hbw.size
     have z_H14_HO0 := HO0.out.lt
     have z_H14_H15 := H15.out.lt
     have z_H14_H13 := cell_lt HB.out.1
     have z_H14_H12 := cell_lt HB.out.2.1
     have z_H14_H11 := cell_lt HB.out.2.2.1
     replace HB := Lib.hid (HB.out.alloc (.cells #[.slice none 0 0] 28))
     replace HO0 := Lib.hid (HO0.out.alloc (.cells #[.slice none 0 0] 28))
     replace R1 := Lib.hid (R1.out.alloc (.cells #[.slice none 0 0] 28))
     replace R2 := Lib.hid (R2.out.alloc (.cells #[.slice none 0 0] 28))
     replace R5 := Lib.hid (R5.out.alloc (.cells #[.slice none 0 0] 28))
     replace R6 := Lib.hid (R6.out.alloc (.cells #[.slice none 0 0] 28))
     replace H15 := Lib.hid (H15.out.alloc (.cells #[.slice none 0 0] 28))
     replace hbw := nB3 hbw hbw.size (.cells #[.slice none 0 0] 28)
     have H14 := Lib.hid (Own.new' W20 28 [.slice none 0 0] W20.heap.size rfl)
     obtain ⟨bH14, e_H14⟩ : ∃ b, W20.heap.size = b := ⟨_, rfl⟩
     simp only [e_H14] at H14 z_H14 z_H14_HO0 z_H14_H15 z_H14_H13 z_H14_H12 z_H14_H11 ⊢
     generalize (W20.alloc (.cells #[.slice none 0 0] 28)) = W21 at HB HO0 R1 R2 R5 R6 H15 H14 hbw ⊢
     refine hr_one rfl (by kernel_rfl) (fun K hK => ?_)
     refine wp_call (HUY.out _ _ _ R2.out R5.out) (by kernel_rfl) ?_
     rintro v1 W22 hb1 hr1
     obtain ⟨YA, Yc, Yn, rfl, hr1⟩ := hr1.shape
     refine hK.out _ _ ?_ ?_
     · exact HB.out.ext hb1
     clear hK K
     (try (conv => arg 6; simp only [Act.put, gL]))
     replace HB := Lib.hid (HB.out.ext hb1)
     replace HO0 := Lib.hid (HO0.out.ext hb1)
     replace R1 := Lib.hid (R1.out.ext hb1)
     replace R2 := Lib.hid (R2.out.ext hb1)
     replace R5 := Lib.hid (R5.out.ext hb1)
     replace R6 := Lib.hid (R6.out.ext hb1)
     replace H15 := Lib.hid (H15.out.ext hb1)
     replace H14 := Lib.hid (H14.out.ext hb1)
     replace hbw := nT hbw hb1
     have R7 := Lib.hid hr1
     clear hr1
     clear hb1
    rotate_left 1
    exact trivial
   rotate_left 2
   exact trivial
  rotate_left 6
  refine hr_eff rfl (by kernel_rfl) (fun K hK => ?_) ?_
  focus
   go_simp
   refine hK.out _ _ ?_ ?_
   · exact HB.out.alloc _
   clear hK K
   (try (conv => arg 6; simp only [Act.put, gL]))
   have z_H14 := hbw.size
   have z_H14_HO0 := HO0.out.lt
   have z_H14_H13 := cell_lt HB.out.1
   have z_H14_H12 := cell_lt HB.out.2.1
   have z_H14_H11 := cell_lt HB.out.2.2.1
   replace HB := Lib.hid (HB.out.alloc (.cells #[.slice none 0 0] 28))
   replace HO0 := Lib.hid (HO0.out.alloc (.cells #[.slice none 0 0] 28))
   replace R1 := Lib.hid (R1.out.alloc (.cells #[.slice none 0 0] 28))
   replace R2 := Lib.hid (R2.out.alloc (.cells #[.slice none 0 0] 28))
   replace R5 := Lib.hid (R5.out.alloc (.cells #[.slice none 0 0] 28))
   replace hbw := nB3 hbw hbw.size (.cells #[.slice none 0 0] 28)
   have H14 := Lib.hid (Own.new' W18 28 [.slice none 0 0] W18.heap.size rfl)
   obtain ⟨bH14, e_H14⟩ : ∃ b, W18.heap.size = b := ⟨_, rfl⟩
   simp only [e_H14] at H14 z_H14 z_H14_HO0 z_H14_H13 z_H14_H12 z_H14_H11 ⊢
   generalize (W18.alloc (.cells #[.slice none 0 0] 28)) = W19 at HB HO0 R1 R2 R5 H14 hbw ⊢
   refine hr_eff rfl (by kernel_rfl) (fun K hK => ?_) ?_
   focus
    refine wp_call (HUX.out _ _ _ R1.out R5.out) (by kernel_rfl) ?_
    rintro v1 W20 hb1 hr1
    obtain ⟨XA, Xc, Xn, rfl, hr1⟩ := hr1.shape
    refine hK.out _ _ ?_ ?_
    · exact HB.out.ext hb1
    clear hK K
    (try (conv => arg 6; simp only [Act.put, gL]))
    replace HB := Lib.hid (HB.out.ext hb1)
    replace HO0 := Lib.hid (HO0.out.ext hb1)
    replace R1 := Lib.hid (R1.out.ext hb1)
    replace R2 := Lib.hid (R2.out.ext hb1)
    replace R5 := Lib.hid (R5.out.ext hb1)
    replace H14 := Lib.hid (H14.out.ext hb1)
    replace hbw := nT hbw hb1
    have R6 := Lib.hid hr1
    clear hr1
    clear hb1
    refine hr_eff rfl (by kernel_rfl) (fun K hK => ?_) ?_
    focus
     refine wp_call (HUY.out _ _ _ R2.out R5.out) (by kernel_rfl) ?_
     rintro v1 W21 hb1 hr1
     obtain ⟨YA, Yc, Yn, rfl, hr1⟩ := hr1.shape
     refine hK.out _ _ ?_ ?_
     · exact HB.out.ext hb1
     clear hK K
     (try (conv => arg 6; simp only [Act.put, gL]))
     replace HB := Lib.hid (HB.out.ext hb1)
     replace HO0 := Lib.hid (HO0.out.ext hb1)
     replace R1 := Lib.hid (R1.out.ext hb1)
     replace R2 := Lib.hid (R2.out.ext hb1)
     replace R5 := Lib.hid (R5.out.ext hb1)
     replace H14 := Lib.hid (H14.out.ext hb1)
     replace R6 := Lib.hid (R6.out.ext hb1)
     replace hbw := nT hbw hb1
     have R7 := Lib.hid hr1
     clear hr1
     clear hb1
     refine hr_one rfl (by kernel_rfl) (fun K hK => ?_)
     go_simp
     refine hK.out _ _ ?_ ?_
     · exact HB.out.alloc _
     clear hK K
     (try (conv => arg 6; simp only [Act.put, gL]))
     have z_H15 := hbw.size
     have z_H15_HO0 := HO0.out.lt
     have z_H15_H14 := H14.out.lt
     have z_H15_H13 := cell_lt HB.out.1
     have z_H15_H12 := cell_lt HB.out.2.1
     have z_H15_H11 := cell_lt HB.out.2.2.1
     replace HB := Lib.hid (HB.out.alloc (.cells #[.slice none 0 0] 28))
     replace HO0 := Lib.hid (HO0.out.alloc (.cells #[.slice none 0 0] 28))
     replace R1 := Lib.hid (R1.out.alloc (.cells #[.slice none 0 0] 28))
     replace R2 := Lib.hid (R2.out.alloc (.cells #[.slice none 0 0] 28))
     replace R5 := Lib.hid (R5.out.alloc (.cells #[.slice none 0 0] 28))
     replace H14 := Lib.hid (H14.out.alloc (.cells #[.slice none 0 0] 28))
     replace R6 := Lib.hid (R6.out.alloc (.cells #[.slice none 0 0] 28))
     replace R7 := Lib.hid (R7.out.alloc (.cells #[.slice none 0 0] 28))
     replace hbw := nB3 hbw hbw.size (.cells #[.slice none 0 0] 28)
     have H15 := Lib.hid (Own.new' W21 28 [.slice none 0 0] W21.heap.size rfl)
     obtain ⟨bH15, e_H15⟩ : ∃ b, W21.heap.size = b := ⟨_, rfl⟩
     simp only [e_H15] at H15 z_H15 z_H15_HO0 z_H15_H14 z_H15_H13 z_H15_H12 z_H15_H11 ⊢
     generalize (W21.alloc (.cells #[.slice none 0 0] 28)) = W22 at HB HO0 R1 R2 R5 H14 R6 R7 H15 hbw ⊢
    rotate_left 1
    refine hr_eff rfl (by kernel_rfl) (fun K hK => ?_) ?_
    focus
     go_simp
     refine hK.out _ _ ?_ ?_
     · exact HB.out.alloc _
     clear hK K
     (try (conv => arg 6; simp only [Act.put, gL]))
     have z_H15 := hbw.size
     have z_H15_HO0 := HO0.out.lt
     have z_H15_H14 := H14.out.lt
     have z_H15_H13 := cell_lt HB.out.1
     have z_H15_H12 := cell_lt HB.out.2.1
     have z_H15_H11 := cell_lt HB.out.2.2.1
     replace HB := Lib.hid (HB.out.alloc (.cells #[.slice none 0 0] 28))
     replace HO0 := Lib.hid (HO0.out.alloc (.cells #[.slice none 0 0] 28))
     replace R1 := Lib.hid (R1.out.alloc (.cells #[.slice none 0 0] 28))
     replace R2 := Lib.hid (R2.out.alloc (.cells #[.slice none 0 0] 28))
     replace R5 := Lib.hid (R5.out.alloc (.cells #[.slice none 0 0] 28))
     replace H14 := Lib.hid (H14.out.alloc (.cells #[.slice none 0 0] 28))
     replace R6 := Lib.hid (R6.out.alloc (.cells #[.slice none 0 0] 28))
     replace hbw := nB3 hbw hbw.size (.cells #[.slice none 0 0] 28)
     have H15 := Lib.hid (Own.new' W20 28 [.slice none 0 0] W20.heap.size rfl)
     obtain ⟨bH15, e_H15⟩ : ∃ b, W20.heap.size = b := ⟨_, rfl⟩
     simp only [e_H15] at H15 z_H15 z_H15_HO0 z_H15_H14 z_H15_H13 z_H15_H12 z_H15_H11 ⊢
     generalize (W20.alloc (.cells #[.slice none 0 0] 28)) = W21 at HB HO0 R1 R2 R5 H14 R6 H15 hbw ⊢
     refine hr_one rfl (by kernel_rfl) (fun K hK => ?_)
     refine wp_call (HUY.out _ _ _ R2.out R5.out) (by kernel_rfl) ?_
     rintro v1 W22 hb1 hr1
     obtain ⟨YA, Yc, Yn, rfl, hr1⟩ := hr1.shape
     refine hK.out _ _ ?_ ?_
     · exact HB.out.ext hb1
     clear hK K
     (try (conv => arg 6; simp only [Act.put, gL]))
     replace HB := Lib.hid (HB.out.ext hb1)
     replace HO0 := Lib.hid (HO0.out.ext hb1)
     replace R1 := Lib.hid (R1.out.ext hb1)
     replace R2 := Lib.hid (R2.out.ext hb1)
     replace R5 := Lib.hid (R5.out.ext hb1)
     replace H14 := Lib.hid (H14.out.ext hb1)
     replace R6 := Lib.hid (R6.out.ext hb1)
     replace H15 := Lib.hid (H15.out.ext hb1)
     replace hbw := nT hbw hb1
     have R7 := Lib.hid hr1
     clear hr1
     clear hb1
    rotate_left 1
    exact trivial
   rotate_left 2
   refine hr_eff rfl (by kernel_rfl) (fun K hK => ?_) ?_
   focus
    go_simp
    refine hK.out _ _ ?_ ?_
    · exact HB.out.alloc _
    clear hK K
    (try (conv => arg 6; simp only [Act.put, gL]))
    have z_H15 := hbw.size
    have z_H15_HO0 := HO0.out.lt
    have z_H15_H14 := H14.out.lt
    have z_H15_H13 := cell_lt HB.out.1
    have z_H15_H12 := cell_lt HB.out.2.1
    have z_H15_H11 := cell_lt HB.out.2.2.1
    replace HB := Lib.hid (HB.out.alloc (.cells #[.slice none 0 0] 28))
    replace HO0 := Lib.hid (HO0.out.alloc (.cells #[.slice none 0 0] 28))
    replace R1 := Lib.hid (R1.out.alloc (.cells #[.slice none 0 0] 28))
    replace R2 := Lib.hid (R2.out.alloc (.cells #[.slice none 0 0] 28))
    replace R5 := Lib.hid (R5.out.alloc (.cells #[.slice none 0 0] 28))
    replace H14 := Lib.hid (H14.out.alloc (.cells #[.slice none 0 0] 28))
    replace hbw := nB3 hbw hbw.size (.cells #[.slice none 0 0] 28)
    have H15 := Lib.hid (Own.new' W19 28 [.slice none 0 0] W19.heap.size rfl)
    obtain ⟨bH15, e_H15⟩ : ∃ b, W19.heap.size = b := ⟨_, rfl⟩
    simp only [e_H15] at H15 z_H15 z_H15_HO0 z_H15_H14 z_H15_H13 z_H15_H12 z_H15_H11 ⊢
    generalize (W19.alloc (.cells #[.slice none 0 0] 28)) = W20 at HB HO0 R1 R2 R5 H14 H15 hbw ⊢
    refine hr_one rfl (by kernel_rfl) (fun K hK => ?_)
    refine wp_call (HUX.out _ _ _ R1.out R5.out) (by kernel_rfl) ?_
    rintro v1 W21 hb1 hr1
    obtain ⟨XA, Xc, Xn, rfl, hr1⟩ := hr1.shape
    refine hK.out _ _ ?_ ?_
    · exact HB.out.ext hb1
    clear hK K
    (try (conv => arg 6; simp only [Act.put, gL]))
    replace HB := Lib.hid (HB.out.ext hb1)
    replace HO0 := Lib.hid (HO0.out.ext hb1)
    replace R1 := Lib.hid (R1.out.ext hb1)
    replace R2 := Lib.hid (R2.out.ext hb1)
    replace R5 := Lib.hid (R5.out.ext hb1)
    replace H14 := Lib.hid (H14.out.ext hb1)
    replace H15 := Lib.hid (H15.out.ext hb1)
    replace hbw := nT hbw hb1
    have R6 := Lib.hid hr1
    clear hr1
    clear hb1
    refine hr_one rfl (by kernel_rfl) (fun K hK => ?_)
    refine wp_call (HUY.out _ _ _ R2.out R5.out) (by kernel_rfl) ?_
    rintro v1 W22 hb1 hr1
    obtain ⟨YA, Yc, Yn, rfl, hr1⟩ := hr1.shape
    refine hK.out _ _ ?_ ?_
    · exact HB.out.ext hb1
    clear hK K
    (try (conv => arg 6; simp only [Act.put, gL]))
    replace HB := Lib.hid (HB.out.ext hb1)
    replace HO0 := Lib.hid (HO0.out.ext hb1)
    replace R1 := Lib.hid (R1.out.ext hb1)
    replace R2 := Lib.hid (R2.out.ext hb1)
    replace R5 := Lib.hid (R5.out.ext hb1)
    replace H14 := Lib.hid (H14.out.ext hb1)
    replace H15 := Lib.hid (H15.out.ext hb1)
    replace R6 := Lib.hid (R6.out.ext hb1)
    replace hbw := nT hbw hb1
    have R7 := Lib.hid hr1
    clear hr1
    clear hb1
   rotate_left 1
   exact trivial
  rotate_left 3
  refine hr_eff rfl (by kernel_rfl) (fun K hK => ?_) ?_
  focus
   go_simp
   refine hK.out _ _ ?_ ?_
   · exact HB.out.alloc _
   clear hK K
   (try (conv => arg 6; simp only [Act.put, gL]))
   have z_H15 := hbw.size
   have z_H15_HO0 := HO0.out.lt
   have z_H15_H13 := cell_lt HB.out.1
   have z_H15_H12 := cell_lt HB.out.2.1
   have z_H15_H11 := cell_lt HB.out.2.2.1
   replace HB := Lib.hid (HB.out.alloc (.cells #[.slice none 0 0] 28))
   replace HO0 := Lib.hid (HO0.out.alloc (.cells #[.slice none 0 0] 28))
   replace R1 := Lib.hid (R1.out.alloc (.cells #[.slice none 0 0] 28))
   replace R2 := Lib.hid (R2.out.alloc (.cells #[.slice none 0 0] 28))
   replace R5 := Lib.hid (R5.out.alloc (.cells #[.slice none 0 0] 28))
   replace hbw := nB3 hbw hbw.size (.cells #[.slice none 0 0] 28)
   have H15 := Lib.hid (Own.new' W18 28 [.slice none 0 0] W18.heap.size rfl)
   obtain ⟨bH15, e_H15⟩ : ∃ b, W18.heap.size = b := ⟨_, rfl⟩
   simp only [e_H15] at H15 z_H15 z_H15_HO0 z_H15_H13 z_H15_H12 z_H15_H11 ⊢
   generalize (W18.alloc (.cells #[.slice none 0 0] 28)) = W19 at HB HO0 R1 R2 R5 H15 hbw ⊢
   refine hr_eff rfl (by kernel_rfl) (fun K hK => ?_) ?_
   focus
    refine wp_call (HUX.out _ _ _ R1.out R5.out) (by kernel_rfl) ?_
    rintro v1 W20 hb1 hr1
    obtain ⟨XA, Xc, Xn, rfl, hr1⟩ := hr1.shape
    refine hK.out _ _ ?_ ?_
    · exact HB.out.ext hb1
    clear hK K
    (try (conv => arg 6; simp only [Act.put, gL]))
    replace HB := Lib.hid (HB.out.ext hb1)
    replace HO0 := Lib.hid (HO0.out.ext hb1)
    replace R1 := Lib.hid (R1.out.ext hb1)
    replace R2 := Lib.hid (R2.out.ext hb1)
    replace R5 := Lib.hid (R5.out.ext hb1)
    replace H15 := Lib.hid (H15.out.ext hb1)
    replace hbw := nT hbw hb1
    have R6 := Lib.hid hr1
    clear hr1
    clear hb1
    refine hr_eff rfl (by kernel_rfl) (fun K hK => ?_) ?_
    focus
     refine wp_call (HUY.out _ _ _ R2.out R5.out) (by kernel_rfl) ?_
     rintro v1 W21 hb1 hr1
     obtain ⟨YA, Yc, Yn, rfl, hr1⟩ := hr1.shape
     refine hK.out _ _ ?_ ?_
     · exact HB.out.ext hb1
     clear hK K
     (try (conv => arg 6; simp only [Act.put, gL]))
     replace HB := Lib.hid (HB.out.ext hb1)
     replace HO0 := Lib.hid (HO0.out.ext hb1)
     replace R1 := Lib.hid (R1.out.ext hb1)
     replace R2 := Lib.hid (R2.out.ext hb1)
     replace R5 := Lib.hid (R5.out.ext hb1)
     replace H15 := Lib.hid (H15.out.ext hb1)
     replace R6 := Lib.hid (R6.out.ext hb1)
     replace hbw := nT hbw hb1
     have R7 := Lib.hid hr1
     clear hr1
     clear hb1
     refine hr_one rfl (by kernel_rfl) (fun K hK => ?_)
     go_simp
     refine hK.out _ _ ?_ ?_
     · exact HB.out.alloc _
     clear hK K
     (try (conv => arg 6; simp only [Act.put, gL]))
     have z_H14 := hbw.size
     have z_H14_HO0 := HO0.out.lt
     have z_H14_H15 := H15.out.lt
     have z_H14_H13 := cell_lt HB.out.1
     have z_H14_H12 := cell_lt HB.out.2.1
     have z_H14_H11 := cell_lt HB.out.2.2.1
     replace HB := Lib.hid (HB.out.alloc (.cells #[.slice none 0 0] 28))
     replace HO0 := Lib.hid (HO0.out.alloc (.cells #[.slice none 0 0] 28))
     replace R1 := Lib.hid (R1.out.alloc (.cells #[.slice none 0 0] 28))
     replace R2 := Lib.hid (R2.out.alloc (.cells #[.slice none 0 0] 28))
     replace R5 := Lib.hid (R5.out.alloc (.cells #[.slice none 0 0] 28))
     replace H15 := Lib.hid (H15.out.alloc (.cells #[.slice none 0 0] 28))
     replace R6 := Lib.hid (R6.out.alloc (.cells #[.slice none 0 0] 28))
     replace R7 := Lib.hid (R7.out.alloc (.cells #[.slice none 0 0] 28))
     replace hbw := nB3 hbw hbw.size (.cells #[.slice none 0 0] 28)
     have H14 := Lib.hid (Own.new' W21 28 [.slice none 0 0] W21.heap.size rfl)
     obtain ⟨bH14, e_H14⟩ : ∃ b, W21.heap.size = b := ⟨_, rfl⟩
     simp only [e_H14] at H14 z_H14 z_H14_HO0 z_H14_H15 z_H14_H13 z_H14_H12 z_H14_H11 ⊢
     generalize (W21.alloc (.cells #[.slice none 0 0] 28)) = W22 at HB HO0 R1 R2 R5 H15 R6 R7 H14 hbw ⊢
    rotate_left 1
    refine hr_eff rfl (by kernel_rfl) (fun K hK => ?_) ?_
    focus
     go_simp
     refine hK.out _ _ ?_ ?_
     · exact HB.out.alloc _
     clear hK K
     (try (conv => arg 6; simp only [Act.put, gL]))
     have z_H14 := hbw.size
     have z_H14_HO0 := HO0.out.lt
     have z_H14_H15 := H15.out.lt
     have z_H14_H13 := cell_lt HB.out.1
     have z_H14_H12 := cell_lt HB.out.2.1
     have z_H14_H11 := cell_lt HB.out.2.2.1
     replace HB := Lib.hid (HB.out.alloc (.cells #[.slice none 0 0] 28))
     replace HO0 := Lib.hid (HO0.out.alloc (.cells #[.slice none 0 0] 28))
     replace R1 := Lib.hid (R1.out.alloc (.cells #[.slice none 0 0] 28))
     replace R2 := Lib.hid (R2.out.alloc (.cells #[.slice none 0 0] 28))
     replace R5 := Lib.hid (R5.out.alloc (.cells #[.slice none 0 0] 28))
     replace H15 := Lib.hid (H15.out.alloc (.cells #[.slice none 0 0] 28))
     replace R6 := Lib.hid (R6.out.alloc (.cells #[.slice none 0 0] 28))
     replace hbw := nB3 hbw hbw.size (.cells #[.slice none 0 0] 28)
     have H14 := Lib.hid (Own.new' W20 28 [.slice none 0 0] W20.heap.size rfl)
     obtain ⟨bH14, e_H14⟩ : ∃ b, W20.heap.size = b := ⟨_, rfl⟩
     simp only [e_H14] at H14 z_H14 z_H14_HO0 z_H14_H15 z_H14_H13 z_H14_H12 z_H14_H11 ⊢
     generalize (W20.alloc (.cells #[.slice none 0 0] 28)) = W21 at HB HO0 R1 R2 R5 H15 R6 H14 hbw ⊢
     refine hr_one rfl (by kernel_rfl) (fun K hK => ?_)
     refine wp_call (HUY.out _ _ _ R2.out R5.out) (by kernel_rfl) ?_
     rintro v1 W22 hb1 hr1
     obtain ⟨YA, Yc, Yn, rfl, hr1⟩ := hr1.shape
     refine hK.out _ _ ?_ ?_
     · exact HB.out.ext hb1
     clear hK K
     (try (conv => arg 6; simp only [Act.put, gL]))
     replace HB := Lib.hid (HB.out.ext hb1)
     replace HO0 := Lib.hid (HO0.out.ext hb1)
     replace R1 := Lib.hid (R1.out.ext hb1)
     replace R2 := Lib.hid (R2.out.ext hb1)
     replace R5 := Lib.hid (R5.out.ext hb1)
     replace H15 := Lib.hid (H15.out.ext hb1)
     replace R6 := Lib.hid (R6.out.ext hb1)
     replace H14 := Lib.hid (H14.out.ext hb1)
     replace hbw := nT hbw hb1
     have R7 := Lib.hid hr1
     clear hr1
     clear hb1
    rotate_left 1
    exact trivial
   rotate_left 2
   refine hr_eff rfl (by kernel_rfl) (fun K hK => ?_) ?_
   focus
    go_simp
    refine hK.out _ _ ?_ ?_
    · exact HB.out.alloc _
    clear hK K
    (try (conv => arg 6; simp only [Act.put, gL]))
    have z_H14 := hbw.size
    have z_H14_HO0 := HO0.out.lt
    have z_H14_H15 := H15.out.lt
    have z_H14_H13 := cell_lt HB.out.1
    have z_H14_H12 := cell_lt HB.out.2.1
    have z_H14_H11 := cell_lt HB.out.2.2.1
    replace HB := Lib.hid (HB.out.alloc (.cells #[.slice none 0 0] 28))
    replace HO0 := Lib.hid (HO0.out.alloc (.cells #[.slice none 0 0] 28))
    replace R1 := Lib.hid (R1.out.alloc (.cells #[.slice none 0 0] 28))
    replace R2 := Lib.hid (R2.out.alloc (.cells #[.slice none 0 0] 28))
    replace R5 := Lib.hid (R5.out.alloc (.cells #[.slice none 0 0] 28))
    replace H15 := Lib.hid (H15.out.alloc (.cells #[.slice none 0 0] 28))
    replace hbw := nB3 hbw hbw.size (.cells #[.slice none 0 0] 28)
    have H14 := Lib.hid (Own.new' W19 28 [.slice none 0 0] W19.heap.size rfl)
    obtain ⟨bH14, e_H14⟩ : ∃ b, W19.heap.size = b := ⟨_, rfl⟩
    simp only [e_H14] at H14 z_H14 z_H14_HO0 z_H14_H15 z_H14_H13 z_H14_H12 z_H14_H11 ⊢
    generalize (W19.alloc (.cells #[.slice none 0 0] 28)) = W20 at HB HO0 R1 R2 R5 H15 H14 hbw ⊢
    refine hr_one rfl (by kernel_rfl) (fun K hK => ?_)
    refine wp_call (HUX.out _ _ _ R1.out R5.out) (by kernel_rfl) ?_
    rintro v1 W21 hb1 hr1
    obtain ⟨XA, Xc, Xn, rfl, hr1⟩ := hr1.shape
    refine hK.out _ _ ?_ ?_
    · exact HB.out.ext hb1
    clear hK K
    (try (conv => arg 6; simp only [Act.put, gL]))
    replace HB := Lib.hid (HB.out.ext hb1)
    replace HO0 := Lib.hid (HO0.out.ext hb1)
    replace R1 := Lib.hid (R1.out.ext hb1)
    replace R2 := Lib.hid (R2.out.ext hb1)
    replace R5 := Lib.hid (R5.out.ext hb1)
    replace H15 := Lib.hid (H15.out.ext hb1)
    replace H14 := Lib.hid (H14.out.ext hb1)
    replace hbw := nT hbw hb1
    have R6 := Lib.hid hr1
    clear hr1
    clear hb1
    refine hr_one rfl (by kernel_rfl) (fun K hK => ?_)
    refine wp_call (HUY.out _ _ _ R2.out R5.out) (by kernel_rfl) ?_
    rintro v1 W22 hb1 hr1
    obtain ⟨YA, Yc, Yn, rfl, hr1⟩ := hr1.shape
    refine hK.out _ _ ?_ ?_
    · exact HB.out.ext hb1
    clear hK K
    (try (conv => arg 6; simp only [Act.put, gL]))
    replace HB := Lib.hid (HB.out.ext hb1)
    replace HO0 := Lib.hid (HO0.out.ext hb1)
    replace R1 := Lib.hid (R1.out.ext hb1)
    replace R2 := Lib.hid (R2.out.ext hb1)
    replace R5 := Lib.hid (R5.out.ext hb1)
    replace H15 := Lib.hid (H15.out.ext hb1)
    replace H14 := Lib.hid (H14.out.ext hb1)
    replace R6 := Lib.hid (R6.out.ext hb1)
    replace hbw := nT hbw hb1
    have R7 := Lib.hid hr1
    clear hr1
    clear hb1
   rotate_left 1
   exact trivial
  rotate_left 3
  exact trivial
  all_goals
   refine hr_one rfl (by kernel_rfl) (fun K hK => ?_)
   have q0 := H14.out.cell 0 _ rfl
   have f0 := H14.out.frozen 0
   go_simp
   refine hK.out _ _ ?_ ?_
   · exact (HB.out.set (p := ⟨bH14, 0, none⟩) _ (by simp <;> omega))
   clear hK K
   (try (conv => arg 6; simp only [Act.put, gL]))
   replace HB := Lib.hid (HB.out.set (p := ⟨bH14, 0, none⟩) (.slice XA Xn Xc) (by simp <;> omega))
   replace HO0 := Lib.hid (HO0.out.other (p := ⟨bH14, 0, none⟩) (.slice XA Xn Xc) (by simp <;> omega))
   replace R1 := Lib.hid (R1.out.set (x := .slice XA Xn Xc) q0 rfl)
   replace R2 := Lib.hid (R2.out.set (x := .slice XA Xn Xc) q0 rfl)
   replace R5 := Lib.hid (R5.out.set (x := .slice XA Xn Xc) q0 rfl)
   replace H15 := Lib.hid (H15.out.other (p := ⟨bH14, 0, none⟩) (.slice XA Xn Xc) (by simp <;> omega))
   replace H14 := Lib.hid (H14.out.set 0 (.slice XA Xn Xc))
   replace R6 := Lib.hid (R6.out.set (x := .slice XA Xn Xc) q0 rfl)
   replace R7 := Lib.hid (R7.out.set (x := .slice XA Xn Xc) q0 rfl)
   replace hbw := nB4 hbw (show w.heap.size ≤ (⟨bH14, 0, none⟩ : Addr).block by simp <;> omega) (.slice XA Xn Xc)
   clear q0 f0
   replace H14 : Hid (Own _ _ _ [.slice XA Xn Xc]) := H14
   generalize (W22.setCell ⟨bH14, 0, none⟩ (.slice XA Xn Xc)) = W23 at HB HO0 R1 R2 R5 H15 H14 R6 R7 hbw ⊢
   refine hr_one rfl (by kernel_rfl) (fun K hK => ?_)
   have q0 := H15.out.cell 0 _ rfl
   have f0 := H15.out.frozen 0
   go_simp
   refine hK.out _ _ ?_ ?_
   · exact (HB.out.set (p := ⟨bH15, 0, none⟩) _ (by simp <;> omega))
   clear hK K
   (try (conv => arg 6; simp only [Act.put, gL]))
   replace HB := Lib.hid (HB.out.set (p := ⟨bH15, 0, none⟩) (.slice YA Yn Yc) (by simp <;> omega))
   replace HO0 := Lib.hid (HO0.out.other (p := ⟨bH15, 0, none⟩) (.slice YA Yn Yc) (by simp <;> omega))
   replace R1 := Lib.hid (R1.out.set (x := .slice YA Yn Yc) q0 rfl)
   replace R2 := Lib.hid (R2.out.set (x := .slice YA Yn Yc) q0 rfl)
   replace R5 := Lib.hid (R5.out.set (x := .slice YA Yn Yc) q0 rfl)
   replace H15 := Lib.hid (H15.out.set 0 (.slice YA Yn Yc))
   replace H14 := Lib.hid (H14.out.other (p := ⟨bH15, 0, none⟩) (.slice YA Yn Yc) (by simp <;> omega))
   replace R6 := Lib.hid (R6.out.set (x := .slice YA Yn Yc) q0 rfl)
   replace R7 := Lib.hid (R7.out.set (x := .slice YA Yn Yc) q0 rfl)
   replace hbw := nB4 hbw (show w.heap.size ≤ (⟨bH15, 0, none⟩ : Addr).block by simp <;> omega) (.slice YA Yn Yc)
   clear q0 f0
   replace H15 : Hid (Own _ _ _ [.slice YA Yn Yc]) := H15
   generalize (W23.setCell ⟨bH15, 0, none⟩ (.slice YA Yn Yc)) = W24 at HB HO0 R1 R2 R5 H15 H14 R6 R7 hbw ⊢
   refine hr_done ?_
   go_wp2
   go_meet
   exact ⟨bH15, bH14, XA, Xc, Xn, YA, Yc, Yn, rfl, rfl, hbw, HB.out, HO0.out, R2.out, R5.out, R6.out, R7.out, H14.out, H15.out, by omega, by omega, by omega, by omega, by omega, by omega, by omega, by omega, by omega⟩
 obtain ⟨bH15, bH14, XA, Xc, Xn, YA, Yc, Yn, rfl, rfl, hbw, h_HB, h_HO0, h_R2, h_R5, h_R6, h_R7, h_H14, h_H15, z_H14_HO0, z_H14_H13, z_H14_H12, z_H14_H11, z_H15_HO0, z_H15_H14, z_H15_H13, z_H15_H12, z_H15_H11⟩ := hcut
 try clear HB HO0 R2 R5 R6 R7 H14 H15
 have HB := Lib.hid h_HB
 clear h_HB
 have HO0 := Lib.hid h_HO0
 clear h_HO0
 have R2 := Lib.hid h_R2
 clear h_R2
 have R5 := Lib.hid h_R5
 clear h_R5
 have R6 := Lib.hid h_R6
 clear h_R6
 have R7 := Lib.hid h_R7
 clear h_R7
 have H14 := Lib.hid h_H14
 clear h_H14
 have H15 := Lib.hid h_H15
 clear h_H15
 replace HB := Lib.hid (Cells.cons (H14.out.cell 0 _ rfl) HB.out)
 replace HB := Lib.hid (Cells.cons (H15.out.cell 0 _ rfl) HB.out)
 go_upto_region 11 with (fail)
 go_cut [16] (fun p16 WC => ∃ bH16 : Nat, ∃ Ts : Bool, ∃ TA : Option Addr, ∃ Tc : Nat, ∃ Tn : Nat, p16 = .pointer (some ⟨bH16, 0, none⟩) ∧ Below w.heap.size w WC ∧ Cells [(bH15, 0, .slice YA Yn Yc), (bH14, 0, .slice XA Xn Xc), (bH13, 0, .slice GA Gn Gc), (bH12, 0, .slice QA Qn Qc), (bH11, 0, .slice PA Pn Pc), (w.heap.size, 0, .bool s1), (w.heap.size, 1, .slice A1 n1 c1), (w.heap.size, 2, .slice B1 m1 k1), (w.heap.size + 1, 0, .bool s2), (w.heap.size + 1, 1, .slice A2 n2 c2), (w.heap.size + 1, 2, .slice B2 m2 k2)] WC ∧ Own WC (w.heap.size + 1 + 1) 32 [.bool false, .slice none 0 0, .slice none 0 0] ∧ rNat WC (.agg #[.slice QA Qn Qc]) (b.den) ∧ rNat WC (.agg #[.slice GA Gn Gc]) (g) ∧ rNat WC (.agg #[.slice XA Xn Xc]) (x) ∧ rInt WC (.agg #[.bool Ts, .slice TA Tn Tc]) (t) ∧ Own WC (bH16) 30 [.bool Ts, .slice TA Tn Tc] ∧ w.heap.size + 1 + 1 < bH16 ∧ bH15 < bH16 ∧ bH14 < bH16 ∧ bH13 < bH16 ∧ bH12 < bH16 ∧ bH11 < bH16)
 case first =>
  replace HB := Lib.hid (HB.out.drew)
  replace HO0 := Lib.hid (HO0.out.drew)
  replace R2 := Lib.hid (R2.out.drew)
  replace R5 := Lib.hid (R5.out.drew)
  replace R6 := Lib.hid (R6.out.drew)
  replace R7 := Lib.hid (R7.out.drew)
  replace hbw := Below.drew hbw
  refine wp_hoistR (.yes 0 (.yes 1 (.yes 2 (.yes 5 (.yes 6 (.yes 7 (.act 3 (.act 4 (.act 8 (.act 9 (.act 10 (.act 11 (.act 12 (.done) (.stop)) (.stop)) (.act 11 (.act 10 (.act 12 (.done) (.stop)) (.stop)) (.stop))) (.act 11 (.act 9 (.act 10 (.act 12 (.done) (.stop)) (.stop)) (.stop)) (.stop))) (.act 11 (.act 8 (.act 9 (.act 10 (.act 12 (.done) (.stop)) (.stop)) (.stop)) (.stop)) (.stop))) (.act 11 (.act 4 (.act 8 (.act 9 (.act 10 (.act 12 (.done) (.stop)) (.stop)) (.stop)) (.stop)) (.stop)) (.stop))) (.act 11 (.act 3 (.act 4 (.act 8 (.act 9 (.act 10 (.act 12 (.done) (.stop)) (.stop)) (.stop)) (.stop)) (.stop)) (.stop)) (.stop))))))))) (Cells [(bH15, 0, .slice YA Yn Yc), (bH14, 0, .slice XA Xn Xc), (bH13, 0, .slice GA Gn Gc), (bH12, 0, .slice QA Qn Qc), (bH11, 0, .slice PA Pn Pc), (w.heap.size, 0, .bool s1), (w.heap.size, 1, .slice A1 n1 c1), (w.heap.size, 2, .slice B1 m1 k1), (w.heap.size + 1, 0, .bool s2), (w.heap.size + 1, 1, .slice A2 n2 c2), (w.heap.size + 1, 2, .slice B2 m2 k2)]) (by kernel_rfl) (by kernel_rfl) ?_ ?_
  · exact HB.out
  generalize wc.drew = W25 at HB HO0 R2 R5 R6 R7 hbw ⊢
  refine hr_yes (v := ?_) rfl (by kernel_rfl) (fun W hW => ?_) ?_; rotate_left; (go_simp; try with_reducible rfl)
  (try (conv => arg 6; simp only [Act.put, gL]))
  refine hr_yes (v := ?_) rfl (by kernel_rfl) (fun W hW => ?_) ?_; rotate_left; (obtain ⟨y0, y1, y2, y3, y4, y5, y6, y7, y8, y9, y10, _⟩ := hW; go_simp; try with_reducible rfl)
  (try (conv => arg 6; simp only [Act.put, gL]))
  refine hr_yes (v := ?_) rfl (by kernel_rfl) (fun W hW => ?_) ?_; rotate_left; (obtain ⟨y0, y1, y2, y3, y4, y5, y6, y7, y8, y9, y10, _⟩ := hW; go_simp; try with_reducible rfl)
  (try (conv => arg 6; simp only [Act.put, gL]))
  refine hr_yes (v := ?_) rfl (by kernel_rfl) (fun W hW => ?_) ?_; rotate_left; (go_simp; try with_reducible rfl)
  (try (conv => arg 6; simp only [Act.put, gL]))
  refine hr_yes (v := ?_) rfl (by kernel_rfl) (fun W hW => ?_) ?_; rotate_left; (obtain ⟨y0, y1, y2, y3, y4, y5, y6, y7, y8, y9, y10, _⟩ := hW; go_simp; try with_reducible rfl)
  (try (conv => arg 6; simp only [Act.put, gL]))
  refine hr_yes (v := ?_) rfl (by kernel_rfl) (fun W hW => ?_) ?_; rotate_left; (obtain ⟨y0, y1, y2, y3, y4, y5, y6, y7, y8, y9, y10, _⟩ := hW; go_simp; try with_reducible rfl)
  (try (conv => arg 6; simp only [Act.put, gL]))
  refine hr_eff rfl (by kernel_rfl) (fun K hK => ?_) ?_
  focus
   refine wp_call (HWY.out _ _ R7.out) (by kernel_rfl) ?_
   rintro v1 W26 hb1 hr1
   obtain ⟨Vs, VA, Vc, Vn, rfl, hr1⟩ := hr1.shape
   refine hK.out _ _ ?_ ?_
   · exact HB.out.ext hb1
   clear hK K
   (try (conv => arg 6; simp only [Act.put, gL]))
   replace HB := Lib.hid (HB.out.ext hb1)
   replace HO0 := Lib.hid (HO0.out.ext hb1)
   replace R2 := Lib.hid (R2.out.ext hb1)
   replace R5 := Lib.hid (R5.out.ext hb1)
   replace R6 := Lib.hid (R6.out.ext hb1)
   replace R7 := Lib.hid (R7.out.ext hb1)
   replace hbw := nT hbw hb1
   have R8 := Lib.hid hr1
   clear hr1
   clear hb1
   refine hr_eff rfl (by kernel_rfl) (fun K hK => ?_) ?_
   focus
    refine wp_call (HM1.out _ _ _ (H1.out.ext hbw).num R8.out) (by kernel_rfl) ?_
    rintro v1 W27 hb1 hr1
    obtain ⟨Ms, MA, Mc, Mn, rfl, hr1⟩ := hr1.shape
    refine hK.out _ _ ?_ ?_
    · exact HB.out.ext hb1
    clear hK K
    (try (conv => arg 6; simp only [Act.put, gL]))
    replace HB := Lib.hid (HB.out.ext hb1)
    replace HO0 := Lib.hid (HO0.out.ext hb1)
    replace R2 := Lib.hid (R2.out.ext hb1)
    replace R5 := Lib.hid (R5.out.ext hb1)
    replace R6 := Lib.hid (R6.out.ext hb1)
    replace R7 := Lib.hid (R7.out.ext hb1)
    replace R8 := Lib.hid (R8.out.ext hb1)
    replace hbw := nT hbw hb1
    have R9 := Lib.hid hr1
    clear hr1
    clear hb1
    refine hr_eff rfl (by kernel_rfl) (fun K hK => ?_) ?_
    focus
     refine wp_call (HWX.out _ _ R6.out) (by kernel_rfl) ?_
     rintro v1 W28 hb1 hr1
     obtain ⟨Us, UA, Uc, Un, rfl, hr1⟩ := hr1.shape
     refine hK.out _ _ ?_ ?_
     · exact HB.out.ext hb1
     clear hK K
     (try (conv => arg 6; simp only [Act.put, gL]))
     replace HB := Lib.hid (HB.out.ext hb1)
     replace HO0 := Lib.hid (HO0.out.ext hb1)
     replace R2 := Lib.hid (R2.out.ext hb1)
     replace R5 := Lib.hid (R5.out.ext hb1)
     replace R6 := Lib.hid (R6.out.ext hb1)
     replace R7 := Lib.hid (R7.out.ext hb1)
     replace R8 := Lib.hid (R8.out.ext hb1)
     replace R9 := Lib.hid (R9.out.ext hb1)
     replace hbw := nT hbw hb1
     have R10 := Lib.hid hr1
     clear hr1
     clear hb1
     refine hr_eff rfl (by kernel_rfl) (fun K hK => ?_) ?_
     focus
      refine wp_call (HM2.out _ _ _ (H2.out.ext hbw).num R10.out) (by kernel_rfl) ?_
      rintro v1 W29 hb1 hr1
      obtain ⟨Os, OA, Oc, On, rfl, hr1⟩ := hr1.shape
      refine hK.out _ _ ?_ ?_
      · exact HB.out.ext hb1
      clear hK K
      (try (conv => arg 6; simp only [Act.put, gL]))
      replace HB := Lib.hid (HB.out.ext hb1)
      replace HO0 := Lib.hid (HO0.out.ext hb1)
      replace R2 := Lib.hid (R2.out.ext hb1)
      replace R5 := Lib.hid (R5.out.ext hb1)
      replace R6 := Lib.hid (R6.out.ext hb1)
      replace R7 := Lib.hid (R7.out.ext hb1)
      replace R8 := Lib.hid (R8.out.ext hb1)
      replace R9 := Lib.hid (R9.out.ext hb1)
      replace R10 := Lib.hid (R10.out.ext hb1)
      replace hbw := nT hbw hb1
      have R11 := Lib.hid hr1
      clear hr1
      clear hb1
      refine hr_eff rfl (by kernel_rfl) (fun K hK => ?_) ?_
      focus
       refine wp_call (HAT.out _ _ _ R9.out R11.out) (by kernel_rfl) ?_
       rintro v1 W30 hb1 hr1
       obtain ⟨Ts, TA, Tc, Tn, rfl, hr1⟩ := hr1.shape
       refine hK.out _ _ ?_ ?_
       · exact HB.out.ext hb1
       clear hK K
       (try (conv => arg 6; simp only [Act.put, gL]))
       replace HB := Lib.hid (HB.out.ext hb1)
       replace HO0 := Lib.hid (HO0.out.ext hb1)
       replace R2 := Lib.hid (R2.out.ext hb1)
       replace R5 := Lib.hid (R5.out.ext hb1)
       replace R6 := Lib.hid (R6.out.ext hb1)
       replace R7 := Lib.hid (R7.out.ext hb1)
       replace R8 := Lib.hid (R8.out.ext hb1)
       replace R9 := Lib.hid (R9.out.ext hb1)
       replace R10 := Lib.hid (R10.out.ext hb1)
       replace R11 := Lib.hid (R11.out.ext hb1)
       replace hbw := nT hbw hb1
       have R12 := Lib.hid hr1
       clear hr1
       clear hb1
       refine hr_one rfl (by kernel_rfl) (fun K hK => ?_)
       go_simp
       refine hK.out _ _ ?_ ?_
       · exact HB.out.alloc _
       clear hK K
       (try (conv => arg 6; simp only [Act.put, gL]))
       have z_H16 := hbw.size
       have z_H16_HO0 := HO0.out.lt
       have z_H16_H15 := cell_lt HB.out.1
       have z_H16_H14 := cell_lt HB.out.2.1
       have z_H16_H13 := cell_lt HB.out.2.2.1
       have z_H16_H12 := cell_lt HB.out.2.2.2.1
       have z_H16_H11 := cell_lt HB.out.2.2.2.2.1
       replace HB := Lib.hid (HB.out.alloc (.cells #[.bool false, .slice none 0 0] 30))
       replace HO0 := Lib.hid (HO0.out.alloc (.cells #[.bool false, .slice none 0 0] 30))
       replace R2 := Lib.hid (R2.out.alloc (.cells #[.bool false, .slice none 0 0] 30))
       replace R5 := Lib.hid (R5.out.alloc (.cells #[.bool false, .slice none 0 0] 30))
       replace R6 := Lib.hid (R6.out.alloc (.cells #[.bool false, .slice none 0 0] 30))
       replace R7 := Lib.hid (R7.out.alloc (.cells #[.bool false, .slice none 0 0] 30))
       replace R8 := Lib.hid (R8.out.alloc (.cells #[.bool false, .slice none 0 0] 30))
       replace R9 := Lib.hid (R9.out.alloc (.cells #[.bool false, .slice none 0 0] 30))
       replace R10 := Lib.hid (R10.out.alloc (.cells #[.bool false, .slice none 0 0] 30))
       replace R11 := Lib.hid (R11.out.alloc (.cells #[.bool false, .slice none 0 0] 30))
       replace R12 := Lib.hid (R12.out.alloc (.cells #[.bool false, .slice none 0 0] 30))
       replace hbw := nB3 hbw hbw.size (.cells #[.bool false, .slice none 0 0] 30)
       have H16 := Lib.hid (Own.new' W30 30 [.bool false, .slice none 0 0] W30.heap.size rfl)
       obtain ⟨bH16, e_H16⟩ : ∃ b, W30.heap.size = b := ⟨_, rfl⟩
       simp only [e_H16] at H16 z_H16 z_H16_HO0 z_H16_H15 z_H16_H14 z_H16_H13 z_H16_H12 z_H16_H11 ⊢
       generalize (W30.alloc (.cells #[.bool false, .slice none 0 0] 30)) = W31 at HB HO0 R2 R5 R6 R7 R8 R9 R10 R11 R12 H16 hbw ⊢
      rotate_left 1
      refine hr_eff rfl (by kernel_rfl) (fun K hK => ?_) ?_
      focus
       go_simp
       refine hK.out _ _ ?_ ?_
       · exact HB.out.alloc _
       clear hK K
       (try (conv => arg 6; simp only [Act.put, gL]))
       have z_H16 := hbw.size
       have z_H16_HO0 := HO0.out.lt
       have z_H16_H15 := cell_lt HB.out.1
       have z_H16_H14 := cell_lt HB.out.2.1
       have z_H16_H13 := cell_lt HB.out.2.2.1
       have z_H16_H12 := cell_lt HB.out.2.2.2.1
       have z_H16_H11 := cell_lt HB.out.2.2.2.2.1
       replace HB := Lib.hid (HB.out.alloc (.cells #[.bool false, .slice none 0 0] 30))
       replace HO0 := Lib.hid (HO0.out.alloc (.cells #[.bool false, .slice none 0 0] 30))
       replace R2 := Lib.hid (R2.out.alloc (.cells #[.bool false, .slice none 0 0] 30))
       replace R5 := Lib.hid (R5.out.alloc (.cells #[.bool false, .slice none 0 0] 30))
       replace R6 := Lib.hid (R6.out.alloc (.cells #[.bool false, .slice none 0 0] 30))
       replace R7 := Lib.hid (R7.out.alloc (.cells #[.bool false, .slice none 0 0] 30))
       replace R8 := Lib.hid (R8.out.alloc (.cells #[.bool false, .slice none 0 0] 30))
       replace R9 := Lib.hid (R9.out.alloc (.cells #[.bool false, .slice none 0 0] 30))
       replace R10 := Lib.hid (R10.out.alloc (.cells #[.bool false, .slice none 0 0] 30))
       replace R11 := Lib.hid (R11.out.alloc (.cells #[.bool false, .slice none 0 0] 30))
       replace hbw := nB3 hbw hbw.size (.cells #[.bool false, .slice none 0 0] 30)
       have H16 := Lib.hid (Own.new' W29 30 [.bool false, .slice none 0 0] W29.heap.size rfl)
       obtain ⟨bH16, e_H16⟩ : ∃ b, W29.heap.size = b := ⟨_, rfl⟩
       simp only [e_H16] at H16 z_H16 z_H16_HO0 z_H16_H15 z_H16_H14 z_H16_H13 z_H16_H12 z_H16_H11 ⊢
       generalize (W29.alloc (.cells #[.bool false, .slice none 0 0] 30)) = W30 at HB HO0 R2 R5 R6 R7 R8 R9 R10 R11 H16 hbw ⊢
       refine hr_one rfl (by kernel_rfl) (fun K hK => ?_)
       refine wp_call (HAT.out _ _ _ R9.out R11.out) (by kernel_rfl) ?_
       rintro v1 W31 hb1 hr1
       obtain ⟨Ts, TA, Tc, Tn, rfl, hr1⟩ := hr1.shape
       refine hK.out _ _ ?_ ?_
       · exact HB.out.ext hb1
       clear hK K
       (try (conv => arg 6; simp only [Act.put, gL]))
       replace HB := Lib.hid (HB.out.ext hb1)
       replace HO0 := Lib.hid (HO0.out.ext hb1)
       replace R2 := Lib.hid (R2.out.ext hb1)
       replace R5 := Lib.hid (R5.out.ext hb1)
       replace R6 := Lib.hid (R6.out.ext hb1)
       replace R7 := Lib.hid (R7.out.ext hb1)
       replace R8 := Lib.hid (R8.out.ext hb1)
       replace R9 := Lib.hid (R9.out.ext hb1)
       replace R10 := Lib.hid (R10.out.ext hb1)
       replace R11 := Lib.hid (R11.out.ext hb1)
       replace H16 := Lib.hid (H16.out.ext hb1)
       replace hbw := nT hbw hb1
       have R12 := Lib.hid hr1
       clear hr1
       clear hb1
      rotate_left 1
      exact trivial
     rotate_left 2
     refine hr_eff rfl (by kernel_rfl) (fun K hK => ?_) ?_
     focus
      go_simp
      refine hK.out _ _ ?_ ?_
      · exact HB.out.alloc _
      clear hK K
      (try (conv => arg 6; simp only [Act.put, gL]))
      have z_H16 := hbw.size
      have z_H16_HO0 := HO0.out.lt
      have z_H16_H15 := cell_lt HB.out.1
      have z_H16_H14 := cell_lt HB.out.2.1
      have z_H16_H13 := cell_lt HB.out.2.2.1
      have z_H16_H12 := cell_lt HB.out.2.2.2.1
      have z_H16_H11 := cell_lt HB.out.2.2.2.2.1
      replace HB := Lib.hid (HB.out.alloc (.cells #[.bool false, .slice none 0 0] 30))
      replace HO0 := Lib.hid (HO0.out.alloc (.cells #[.bool false, .slice none 0 0] 30))
      replace R2 := Lib.hid (R2.out.alloc (.cells #[.bool false, .slice none 0 0] 30))
      replace R5 := Lib.hid (R5.out.alloc (.cells #[.bool false, .slice none 0 0] 30))
      replace R6 := Lib.hid (R6.out.alloc (.cells #[.bool false, .slice none 0 0] 30))
      replace R7 := Lib.hid (R7.out.alloc (.cells #[.bool false, .slice none 0 0] 30))
      replace R8 := Lib.hid (R8.out.alloc (.cells #[.bool false, .slice none 0 0] 30))
      replace R9 := Lib.hid (R9.out.alloc (.cells #[.bool false, .slice none 0 0] 30))
      replace R10 := Lib.hid (R10.out.alloc (.cells #[.bool false, .slice none 0 0] 30))
      replace hbw := nB3 hbw hbw.size (.cells #[.bool false, .slice none 0 0] 30)
      have H16 := Lib.hid (Own.new' W28 30 [.bool false, .slice none 0 0] W28.heap.size rfl)
      obtain ⟨bH16, e_H16⟩ : ∃ b, W28.heap.size = b := ⟨_, rfl⟩
      simp only [e_H16] at H16 z_H16 z_H16_HO0 z_H16_H15 z_H16_H14 z_H16_H13 z_H16_H12 z_H16_H11 ⊢
      generalize (W28.alloc (.cells #[.bool false, .slice none 0 0] 30)) = W29 at HB HO0 R2 R5 R6 R7 R8 R9 R10 H16 hbw ⊢
      refine hr_one rfl (by kernel_rfl) (fun K hK => ?_)
      refine wp_call (HM2.out _ _ _ (H2.out.ext hbw).num R10.out) (by kernel_rfl) ?_
      rintro v1 W30 hb1 hr1
      obtain ⟨Os, OA, Oc, On, rfl, hr1⟩ := hr1.shape
      refine hK.out _ _ ?_ ?_
      · exact HB.out.ext hb1
      clear hK K
      (try (conv => arg 6; simp only [Act.put, gL]))
      replace HB := Lib.hid (HB.out.ext hb1)
      replace HO0 := Lib.hid (HO0.out.ext hb1)
      replace R2 := Lib.hid (R2.out.ext hb1)
      replace R5 := Lib.hid (R5.out.ext hb1)
      replace R6 := Lib.hid (R6.out.ext hb1)
      replace R7 := Lib.hid (R7.out.ext hb1)
      replace R8 := Lib.hid (R8.out.ext hb1)
      replace R9 := Lib.hid (R9.out.ext hb1)
      replace R10 := Lib.hid (R10.out.ext hb1)
      replace H16 := Lib.hid (H16.out.ext hb1)
      replace hbw := nT hbw hb1
      have R11 := Lib.hid hr1
      clear hr1
      clear hb1
      refine hr_one rfl (by kernel_rfl) (fun K hK => ?_)
      refine wp_call (HAT.out _ _ _ R9.out R11.out) (by kernel_rfl) ?_
      rintro v1 W31 hb1 hr1
      obtain ⟨Ts, TA, Tc, Tn, rfl, hr1⟩ := hr1.shape
      refine hK.out _ _ ?_ ?_
      · exact HB.out.ext hb1
      clear hK K
      (try (conv => arg 6; simp only [Act.put, gL]))
      replace HB := Lib.hid (HB.out.ext hb1)
      replace HO0 := Lib.hid (HO0.out.ext hb1)
      replace R2 := Lib.hid (R2.out.ext hb1)
      replace R5 := Lib.hid (R5.out.ext hb1)
      replace R6 := Lib.hid (R6.out.ext hb1)
      replace R7 := Lib.hid (R7.out.ext hb1)
      replace R8 := Lib.hid (R8.out.ext hb1)
      replace R9 := Lib.hid (R9.out.ext hb1)
      replace R10 := Lib.hid (R10.out.ext hb1)
      replace H16 := Lib.hid (H16.out.ext hb1)
      replace R11 := Lib.hid (R11.out.ext hb1)
      replace hbw := nT hbw hb1
      have R12 := Lib.hid hr1
      clear hr1
      clear hb1
     rotate_left 1
     exact trivial
    rotate_left 3
    refine hr_eff rfl (by kernel_rfl) (fun K hK => ?_) ?_
    focus
     go_simp
     refine hK.out _ _ ?_ ?_
     · exact HB.out.alloc _
     clear hK K
     (try (conv => arg 6; simp only [Act.put, gL]))
     have z_H16 := hbw.size
     have z_H16_HO0 := HO0.out.lt
     have z_H16_H15 := cell_lt HB.out.1
     have z_H16_H14 := cell_lt HB.out.2.1
     have z_H16_H13 := cell_lt HB.out.2.2.1
     have z_H16_H12 := cell_lt HB.out.2.2.2.1
     have z_H16_H11 := cell_lt HB.out.2.2.2.2.1
     replace HB := Lib.hid (HB.out.alloc (.cells #[.bool false, .slice none 0 0] 30))
     replace HO0 := Lib.hid (HO0.out.alloc (.cells #[.bool false, .slice none 0 0] 30))
     replace R2 := Lib.hid (R2.out.alloc (.cells #[.bool false, .slice none 0 0] 30))
     replace R5 := Lib.hid (R5.out.alloc (.cells #[.bool false, .slice none 0 0] 30))
     replace R6 := Lib.hid (R6.out.alloc (.cells #[.bool false, .slice none 0 0] 30))
     replace R7 := Lib.hid (R7.out.alloc (.cells #[.bool false, .slice none 0 0] 30))
     replace R8 := Lib.hid (R8.out.alloc (.cells #[.bool false, .slice none 0 0] 30))
     replace R9 := Lib.hid (R9.out.alloc (.cells #[.bool false, .slice none 0 0] 30))
     replace hbw := nB3 hbw hbw.size (.cells #[.bool false, .slice none 0 0] 30)
     have H16 := Lib.hid (Own.new' W27 30 [.bool false, .slice none 0 0] W27.heap.size rfl)
     obtain ⟨bH16, e_H16⟩ : ∃ b, W27.heap.size = b := ⟨_, rfl⟩
     simp only [e_H16] at H16 z_H16 z_H16_HO0 z_H16_H15 z_H16_H14 z_H16_H13 z_H16_H12 z_H16_H11 ⊢
     generalize (W27.alloc (.cells #[.bool false, .slice none 0 0] 30)) = W28 at HB HO0 R2 R5 R6 R7 R8 R9 H16 hbw ⊢
     refine hr_one rfl (by kernel_rfl) (fun K hK => ?_)
     refine wp_call (HWX.out _ _ R6.out) (by kernel_rfl) ?_
     rintro v1 W29 hb1 hr1
     obtain ⟨Us, UA, Uc, Un, rfl, hr1⟩ := hr1.shape
     refine hK.out _ _ ?_ ?_
     · exact HB.out.ext hb1
     clear hK K
     (try (conv => arg 6; simp only [Act.put, gL]))
     replace HB := Lib.hid (HB.out.ext hb1)
     replace HO0 := Lib.hid (HO0.out.ext hb1)
     replace R2 := Lib.hid (R2.out.ext hb1)
     replace R5 := Lib.hid (R5.out.ext hb1)
     replace R6 := Lib.hid (R6.out.ext hb1)
     replace R7 := Lib.hid (R7.out.ext hb1)
     replace R8 := Lib.hid (R8.out.ext hb1)
     replace R9 := Lib.hid (R9.out.ext hb1)
     replace H16 := Lib.hid (H16.out.ext hb1)
     replace hbw := nT hbw hb1
     have R10 := Lib.hid hr1
     clear hr1
     clear hb1
     refine hr_one rfl (by kernel_rfl) (fun K hK => ?_)
     refine wp_call (HM2.out _ _ _ (H2.out.ext hbw).num R10.out) (by kernel_rfl) ?_
     rintro v1 W30 hb1 hr1
     obtain ⟨Os, OA, Oc, On, rfl, hr1⟩ := hr1.shape
     refine hK.out _ _ ?_ ?_
     · exact HB.out.ext hb1
     clear hK K
     (try (conv => arg 6; simp only [Act.put, gL]))
     replace HB := Lib.hid (HB.out.ext hb1)
     replace HO0 := Lib.hid (HO0.out.ext hb1)
     replace R2 := Lib.hid (R2.out.ext hb1)
     replace R5 := Lib.hid (R5.out.ext hb1)
     replace R6 := Lib.hid (R6.out.ext hb1)
     replace R7 := Lib.hid (R7.out.ext hb1)
     replace R8 := Lib.hid (R8.out.ext hb1)
     replace R9 := Lib.hid (R9.out.ext hb1)
     replace H16 := Lib.hid (H16.out.ext hb1)
     replace R10 := Lib.hid (R10.out.ext hb1)
     replace hbw := nT hbw hb1
     have R11 := Lib.hid hr1
     clear hr1
     clear hb1
     refine hr_one rfl (by kernel_rfl) (fun K hK => ?_)
     refine wp_call (HAT.out _ _ _ R9.out R11.out) (by kernel_rfl) ?_
     rintro v1 W31 hb1 hr1
     obtain ⟨Ts, TA, Tc, Tn, rfl, hr1⟩ := hr1.shape
     refine hK.out _ _ ?_ ?_
     · exact HB.out.ext hb1
     clear hK K
     (try (conv => arg 6; simp only [Act.put, gL]))
     replace HB := Lib.hid (HB.out.ext hb1)
     replace HO0 := Lib.hid (HO0.out.ext hb1)
     replace R2 := Lib.hid (R2.out.ext hb1)
     replace R5 := Lib.hid (R5.out.ext hb1)
     replace R6 := Lib.hid (R6.out.ext hb1)
     replace R7 := Lib.hid (R7.out.ext hb1)
     replace R8 := Lib.hid (R8.out.ext hb1)
     replace R9 := Lib.hid (R9.out.ext hb1)
     replace H16 := Lib.hid (H16.out.ext hb1)
     replace R10 := Lib.hid (R10.out.ext hb1)
     replace R11 := Lib.hid (R11.out.ext hb1)
     replace hbw := nT hbw hb1
     have R12 := Lib.hid hr1
     clear hr1
     clear hb1
    rotate_left 1
    exact trivial
   rotate_left 4
   refine hr_eff rfl (by kernel_rfl) (fun K hK => ?_) ?_
   focus
    go_simp
    refine hK.out _ _ ?_ ?_
    · exact HB.out.alloc _
    clear hK K
    (try (conv => arg 6; simp only [Act.put, gL]))
    have z_H16 := hbw.size
    have z_H16_HO0 := HO0.out.lt
    have z_H16_H15 := cell_lt HB.out.1
    have z_H16_H14 := cell_lt HB.out.2.1
    have z_H16_H13 := cell_lt HB.out.2.2.1
    have z_H16_H12 := cell_lt HB.out.2.2.2.1
    have z_H16_H11 := cell_lt HB.out.2.2.2.2.1
    replace HB := Lib.hid (HB.out.alloc (.cells #[.bool false, .slice none 0 0] 30))
    replace HO0 := Lib.hid (HO0.out.alloc (.cells #[.bool false, .slice none 0 0] 30))
    replace R2 := Lib.hid (R2.out.alloc (.cells #[.bool false, .slice none 0 0] 30))
    replace R5 := Lib.hid (R5.out.alloc (.cells #[.bool false, .slice none 0 0] 30))
    replace R6 := Lib.hid (R6.out.alloc (.cells #[.bool false, .slice none 0 0] 30))
    replace R7 := Lib.hid (R7.out.alloc (.cells #[.bool false, .slice none 0 0] 30))
    replace R8 := Lib.hid (R8.out.alloc (.cells #[.bool false, .slice none 0 0] 30))
    replace hbw := nB3 hbw hbw.size (.cells #[.bool false, .slice none 0 0] 30)
    have H16 := Lib.hid (Own.new' W26 30 [.bool false, .slice none 0 0] W26.heap.size rfl)
    obtain ⟨bH16, e_H16⟩ : ∃ b, W26.heap.size = b := ⟨_, rfl⟩
    simp only [e_H16] at H16 z_H16 z_H16_HO0 z_H16_H15 z_H16_H14 z_H16_H13 z_H16_H12 z_H16_H11 ⊢
    generalize (W26.alloc (.cells #[.bool false, .slice none 0 0] 30)) = W27 at HB HO0 R2 R5 R6 R7 R8 H16 hbw ⊢
    refine hr_one rfl (by kernel_rfl) (fun K hK => ?_)
    refine wp_call (HM1.out _ _ _ (H1.out.ext hbw).num R8.out) (by kernel_rfl) ?_
    rintro v1 W28 hb1 hr1
    obtain ⟨Ms, MA, Mc, Mn, rfl, hr1⟩ := hr1.shape
    refine hK.out _ _ ?_ ?_
    · exact HB.out.ext hb1
    clear hK K
    (try (conv => arg 6; simp only [Act.put, gL]))
    replace HB := Lib.hid (HB.out.ext hb1)
    replace HO0 := Lib.hid (HO0.out.ext hb1)
    replace R2 := Lib.hid (R2.out.ext hb1)
    replace R5 := Lib.hid (R5.out.ext hb1)
    replace R6 := Lib.hid (R6.out.ext hb1)
    replace R7 := Lib.hid (R7.out.ext hb1)
    replace R8 := Lib.hid (R8.out.ext hb1)
    replace H16 := Lib.hid (H16.out.ext hb1)
    replace hbw := nT hbw hb1
    have R9 := Lib.hid hr1
    clear hr1
    clear hb1
    refine hr_one rfl (by kernel_rfl) (fun K hK => ?_)
    refine wp_call (HWX.out _ _ R6.out) (by kernel_rfl) ?_
    rintro v1 W29 hb1 hr1
    obtain ⟨Us, UA, Uc, Un, rfl, hr1⟩ := hr1.shape
    refine hK.out _ _ ?_ ?_
    · exact HB.out.ext hb1
    clear hK K
    (try (conv => arg 6; simp only [Act.put, gL]))
    replace HB := Lib.hid (HB.out.ext hb1)
    replace HO0 := Lib.hid (HO0.out.ext hb1)
    replace R2 := Lib.hid (R2.out.ext hb1)
    replace R5 := Lib.hid (R5.out.ext hb1)
    replace R6 := Lib.hid (R6.out.ext hb1)
    replace R7 := Lib.hid (R7.out.ext hb1)
    replace R8 := Lib.hid (R8.out.ext hb1)
    replace H16 := Lib.hid (H16.out.ext hb1)
    replace R9 := Lib.hid (R9.out.ext hb1)
    replace hbw := nT hbw hb1
    have R10 := Lib.hid hr1
    clear hr1
    clear hb1
    refine hr_one rfl (by kernel_rfl) (fun K hK => ?_)
    refine wp_call (HM2.out _ _ _ (H2.out.ext hbw).num R10.out) (by kernel_rfl) ?_
    rintro v1 W30 hb1 hr1
    obtain ⟨Os, OA, Oc, On, rfl, hr1⟩ := hr1.shape
    refine hK.out _ _ ?_ ?_
    · exact HB.out.ext hb1
    clear hK K
    (try (conv => arg 6; simp only [Act.put, gL]))
    replace HB := Lib.hid (HB.out.ext hb1)
    replace HO0 := Lib.hid (HO0.out.ext hb1)
    replace R2 := Lib.hid (R2.out.ext hb1)
    replace R5 := Lib.hid (R5.out.ext hb1)
    replace R6 := Lib.hid (R6.out.ext hb1)
    replace R7 := Lib.hid (R7.out.ext hb1)
    replace R8 := Lib.hid (R8.out.ext hb1)
    replace H16 := Lib.hid (H16.out.ext hb1)
    replace R9 := Lib.hid (R9.out.ext hb1)
    replace R10 := Lib.hid (R10.out.ext hb1)
    replace hbw := nT hbw hb1
    have R11 := Lib.hid hr1
    clear hr1
    clear hb1
    refine hr_one rfl (by kernel_rfl) (fun K hK => ?_)
    refine wp_call (HAT.out _ _ _ R9.out R11.out) (by kernel_rfl) ?_
    rintro v1 W31 hb1 hr1
    obtain ⟨Ts, TA, Tc, Tn, rfl, hr1⟩ := hr1.shape
    refine hK.out _ _ ?_ ?_
    · exact HB.out.ext hb1
    clear hK K
    (try (conv => arg 6; simp only [Act.put, gL]))
    replace HB := Lib.hid (HB.out.ext hb1)
    replace HO0 := Lib.hid (HO0.out.ext hb1)
    replace R2 := Lib.hid (R2.out.ext hb1)
    replace R5 := Lib.hid (R5.out.ext hb1)
    replace R6 := Lib.hid (R6.out.ext hb1)
    replace R7 := Lib.hid (R7.out.ext hb1)
    replace R8 := Lib.hid (R8.out.ext hb1)
    replace H16 := Lib.hid (H16.out.ext hb1)
    replace R9 := Lib.hid (R9.out.ext hb1)
    replace R10 := Lib.hid (R10.out.ext hb1)
    replace R11 := Lib.hid (R11.out.ext hb1)
    replace hbw := nT hbw hb1
    have R12 := Lib.hid hr1
    clear hr1
    clear hb1
   rotate_left 1
   exact trivial
  rotate_left 5
  refine hr_eff rfl (by kernel_rfl) (fun K hK => ?_) ?_
  focus
   go_simp
   refine hK.out _ _ ?_ ?_
   · exact HB.out.alloc _
   clear hK K
   (try (conv => arg 6; simp only [Act.put, gL]))
   have z_H16 := hbw.size
   have z_H16_HO0 := HO0.out.lt
   have z_H16_H15 := cell_lt HB.out.1
   have z_H16_H14 := cell_lt HB.out.2.1
   have z_H16_H13 := cell_lt HB.out.2.2.1
   have z_H16_H12 := cell_lt HB.out.2.2.2.1
   have z_H16_H11 := cell_lt HB.out.2.2.2.2.1
   replace HB := Lib.hid (HB.out.alloc (.cells #[.bool false, .slice none 0 0] 30))
   replace HO0 := Lib.hid (HO0.out.alloc (.cells #[.bool false, .slice none 0 0] 30))
   replace R2 := Lib.hid (R2.out.alloc (.cells #[.bool false, .slice none 0 0] 30))
   replace R5 := Lib.hid (R5.out.alloc (.cells #[.bool false, .slice none 0 0] 30))
   replace R6 := Lib.hid (R6.out.alloc (.cells #[.bool false, .slice none 0 0] 30))
   replace R7 := Lib.hid (R7.out.alloc (.cells #[.bool false, .slice none 0 0] 30))
   replace hbw := nB3 hbw hbw.size (.cells #[.bool false, .slice none 0 0] 30)
   have H16 := Lib.hid (Own.new' W25 30 [.bool false, .slice none 0 0] W25.heap.size rfl)
   obtain ⟨bH16, e_H16⟩ : ∃ b, W25.heap.size = b := ⟨_, rfl⟩
   simp only [e_H16] at H16 z_H16 z_H16_HO0 z_H16_H15 z_H16_H14 z_H16_H13 z_H16_H12 z_H16_H11 ⊢
   generalize (W25.alloc (.cells #[.bool false, .slice none 0 0] 30)) = W26 at HB HO0 R2 R5 R6 R7 H16 hbw ⊢
   refine hr_one rfl (by kernel_rfl) (fun K hK => ?_)
   refine wp_call (HWY.out _ _ R7.out) (by kernel_rfl) ?_
   rintro v1 W27 hb1 hr1
   obtain ⟨Vs, VA, Vc, Vn, rfl, hr1⟩ := hr1.shape
   refine hK.out _ _ ?_ ?_
   · exact HB.out.ext hb1
   clear hK K
   (try (conv => arg 6; simp only [Act.put, gL]))
   replace HB := Lib.hid (HB.out.ext hb1)
   replace HO0 := Lib.hid (HO0.out.ext hb1)
   replace R2 := Lib.hid (R2.out.ext hb1)
   replace R5 := Lib.hid (R5.out.ext hb1)
   replace R6 := Lib.hid (R6.out.ext hb1)
   replace R7 := Lib.hid (R7.out.ext hb1)
   replace H16 := Lib.hid (H16.out.ext hb1)
   replace hbw := nT hbw hb1
   have R8 := Lib.hid hr1
   clear hr1
   clear hb1
   refine hr_one rfl (by kernel_rfl) (fun K hK => ?_)
   refine wp_call (HM1.out _ _ _ (H1.out.ext hbw).num R8.out) (by kernel_rfl) ?_
   rintro v1 W28 hb1 hr1
   obtain ⟨Ms, MA, Mc, Mn, rfl, hr1⟩ := hr1.shape
   refine hK.out _ _ ?_ ?_
   · exact HB.out.ext hb1
   clear hK K
   (try (conv => arg 6; simp only [Act.put, gL]))
   replace HB := Lib.hid (HB.out.ext hb1)
   replace HO0 := Lib.hid (HO0.out.ext hb1)
   replace R2 := Lib.hid (R2.out.ext hb1)
   replace R5 := Lib.hid (R5.out.ext hb1)
   replace R6 := Lib.hid (R6.out.ext hb1)
   replace R7 := Lib.hid (R7.out.ext hb1)
   replace H16 := Lib.hid (H16.out.ext hb1)
   replace R8 := Lib.hid (R8.out.ext hb1)
   replace hbw := nT hbw hb1
   have R9 := Lib.hid hr1
   clear hr1
   clear hb1
   refine hr_one rfl (by kernel_rfl) (fun K hK => ?_)
   refine wp_call (HWX.out _ _ R6.out) (by kernel_rfl) ?_
   rintro v1 W29 hb1 hr1
   obtain ⟨Us, UA, Uc, Un, rfl, hr1⟩ := hr1.shape
   refine hK.out _ _ ?_ ?_
   · exact HB.out.ext hb1
   clear hK K
   (try (conv => arg 6; simp only [Act.put, gL]))
   replace HB := Lib.hid (HB.out.ext hb1)
   replace HO0 := Lib.hid (HO0.out.ext hb1)
   replace R2 := Lib.hid (R2.out.ext hb1)
   replace R5 := Lib.hid (R5.out.ext hb1)
   replace R6 := Lib.hid (R6.out.ext hb1)
   replace R7 := Lib.hid (R7.out.ext hb1)
   replace H16 := Lib.hid (H16.out.ext hb1)
   replace R8 := Lib.hid (R8.out.ext hb1)
   replace R9 := Lib.hid (R9.out.ext hb1)
   replace hbw := nT hbw hb1
   have R10 := Lib.hid hr1
   clear hr1
   clear hb1
   refine hr_one rfl (by kernel_rfl) (fun K hK => ?_)
   refine wp_call (HM2.out _ _ _ (H2.out.ext hbw).num R10.out) (by kernel_rfl) ?_
   rintro v1 W30 hb1 hr1
   obtain ⟨Os, OA, Oc, On, rfl, hr1⟩ := hr1.shape
   refine hK.out _ _ ?_ ?_
   · exact HB.out.ext hb1
   clear hK K
   (try (conv => arg 6; simp only [Act.put, gL]))
   replace HB := Lib.hid (HB.out.ext hb1)
   replace HO0 := Lib.hid (HO0.out.ext hb1)
   replace R2 := Lib.hid (R2.out.ext hb1)
   replace R5 := Lib.hid (R5.out.ext hb1)
   replace R6 := Lib.hid (R6.out.ext hb1)
   replace R7 := Lib.hid (R7.out.ext hb1)
   replace H16 := Lib.hid (H16.out.ext hb1)
   replace R8 := Lib.hid (R8.out.ext hb1)
   replace R9 := Lib.hid (R9.out.ext hb1)
   replace R10 := Lib.hid (R10.out.ext hb1)
   replace hbw := nT hbw hb1
   have R11 := Lib.hid hr1
   clear hr1
   clear hb1
   refine hr_one rfl (by kernel_rfl) (fun K hK => ?_)
   refine wp_call (HAT.out _ _ _ R9.out R11.out) (by kernel_rfl) ?_
   rintro v1 W31 hb1 hr1
   obtain ⟨Ts, TA, Tc, Tn, rfl, hr1⟩ := hr1.shape
   refine hK.out _ _ ?_ ?_
   · exact HB.out.ext hb1
   clear hK K
   (try (conv => arg 6; simp only [Act.put, gL]))
   replace HB := Lib.hid (HB.out.ext hb1)
   replace HO0 := Lib.hid (HO0.out.ext hb1)
   replace R2 := Lib.hid (R2.out.ext hb1)
   replace R5 := Lib.hid (R5.out.ext hb1)
   replace R6 := Lib.hid (R6.out.ext hb1)
   replace R7 := Lib.hid (R7.out.ext hb1)
   replace H16 := Lib.hid (H16.out.ext hb1)
   replace R8 := Lib.hid (R8.out.ext hb1)
   replace R9 := Lib.hid (R9.out.ext hb1)
   replace R10 := Lib.hid (R10.out.ext hb1)
   replace R11 := Lib.hid (R11.out.ext hb1)
   replace hbw := nT hbw hb1
   have R12 := Lib.hid hr1
   clear hr1
   clear hb1
  rotate_left 1
  exact trivial
  all_goals
   refine hr_one rfl (by kernel_rfl) (fun K hK => ?_)
   have q0 := H16.out.cell 0 _ rfl
   have f0 := H16.out.frozen 0
   have q1 := H16.out.cell 1 _ rfl
   have f1 := H16.out.frozen 1
   go_simp
   refine hK.out _ _ ?_ ?_
   · exact ((HB.out.set (p := ⟨bH16, 0, none⟩) _ (by simp <;> omega)).set (p := ⟨bH16, 1, none⟩) _ (by simp <;> omega))
   clear hK K
   (try (conv => arg 6; simp only [Act.put, gL]))
   replace HB := Lib.hid (HB.out.set (p := ⟨bH16, 0, none⟩) (.bool Ts) (by simp <;> omega))
   replace HO0 := Lib.hid (HO0.out.other (p := ⟨bH16, 0, none⟩) (.bool Ts) (by simp <;> omega))
   replace R2 := Lib.hid (R2.out.set (x := .bool Ts) q0 rfl)
   replace R5 := Lib.hid (R5.out.set (x := .bool Ts) q0 rfl)
   replace R6 := Lib.hid (R6.out.set (x := .bool Ts) q0 rfl)
   replace R7 := Lib.hid (R7.out.set (x := .bool Ts) q0 rfl)
   replace H16 := Lib.hid (H16.out.set 0 (.bool Ts))
   replace R8 := Lib.hid (R8.out.set (x := .bool Ts) q0 rfl)
   replace R9 := Lib.hid (R9.out.set (x := .bool Ts) q0 rfl)
   replace R10 := Lib.hid (R10.out.set (x := .bool Ts) q0 rfl)
   replace R11 := Lib.hid (R11.out.set (x := .bool Ts) q0 rfl)
   replace R12 := Lib.hid (R12.out.set (x := .bool Ts) q0 rfl)
   replace hbw := nB4 hbw (show w.heap.size ≤ (⟨bH16, 0, none⟩ : Addr).block by simp <;> omega) (.bool Ts)
   replace q1 := (nC W31 ⟨bH16, 0, none⟩ ⟨bH16, 1, none⟩ (.bool Ts) (by simp)).trans q1
   replace HB := Lib.hid (HB.out.set (p := ⟨bH16, 1, none⟩) (.slice TA Tn Tc) (by simp <;> omega))
   replace HO0 := Lib.hid (HO0.out.other (p := ⟨bH16, 1, none⟩) (.slice TA Tn Tc) (by simp <;> omega))
   replace R2 := Lib.hid (R2.out.set (x := .slice TA Tn Tc) q1 rfl)
   replace R5 := Lib.hid (R5.out.set (x := .slice TA Tn Tc) q1 rfl)
   replace R6 := Lib.hid (R6.out.set (x := .slice TA Tn Tc) q1 rfl)
   replace R7 := Lib.hid (R7.out.set (x := .slice TA Tn Tc) q1 rfl)
   replace H16 := Lib.hid (H16.out.set 1 (.slice TA Tn Tc))
   replace R8 := Lib.hid (R8.out.set (x := .slice TA Tn Tc) q1 rfl)
   replace R9 := Lib.hid (R9.out.set (x := .slice TA Tn Tc) q1 rfl)
   replace R10 := Lib.hid (R10.out.set (x := .slice TA Tn Tc) q1 rfl)
   replace R11 := Lib.hid (R11.out.set (x := .slice TA Tn Tc) q1 rfl)
   replace R12 := Lib.hid (R12.out.set (x := .slice TA Tn Tc) q1 rfl)
   replace hbw := nB4 hbw (show w.heap.size ≤ (⟨bH16, 1, none⟩ : Addr).block by simp <;> omega) (.slice TA Tn Tc)
   clear q0 f0 q1 f1
   replace H16 : Hid (Own _ _ _ [.bool Ts, .slice TA Tn Tc]) := H16
   generalize ((W31.setCell ⟨bH16, 0, none⟩ (.bool Ts)).setCell ⟨bH16, 1, none⟩ (.slice TA Tn Tc)) = W32 at HB HO0 R2 R5 R6 R7 H16 R8 R9 R10 R11 R12 hbw ⊢
   refine hr_done ?_
   go_wp2
   go_meet
   exact ⟨bH16, Ts, TA, Tc, Tn, rfl, hbw, HB.out, HO0.out, R2.out, R5.out, R6.out, R12.out, H16.out, by omega, by omega, by omega, by omega, by omega, by omega⟩
 obtain ⟨bH16, Ts, TA, Tc, Tn, rfl, hbw, h_HB, h_HO0, h_R2, h_R5, h_R6, h_R12, h_H16, z_H16_HO0, z_H16_H15, z_H16_H14, z_H16_H13, z_H16_H12, z_H16_H11⟩ := hcut
 try clear HB HO0 R2 R5 R6 R12 H16
 have HB := Lib.hid h_HB
 clear h_HB
 have HO0 := Lib.hid h_HO0
 clear h_HO0
 have R2 := Lib.hid h_R2
 clear h_R2
 have R5 := Lib.hid h_R5
 clear h_R5
 have R6 := Lib.hid h_R6
 clear h_R6
 have R12 := Lib.hid h_R12
 clear h_R12
 have H16 := Lib.hid h_H16
 clear h_H16
 replace HB := Lib.hid (Cells.cons (H16.out.cell 1 _ rfl) HB.out)
 replace HB := Lib.hid (Cells.cons (H16.out.cell 0 _ rfl) HB.out)
 go_upto_region 12 with (fail)
 go_cut [17] (fun p17 WC => ∃ bH17 : Nat, ∃ HA : Option Addr, ∃ Hc : Nat, ∃ Hn : Nat, p17 = .pointer (some ⟨bH17, 0, none⟩) ∧ Below w.heap.size w WC ∧ Cells [(bH16, 0, .bool Ts), (bH16, 1, .slice TA Tn Tc), (bH15, 0, .slice YA Yn Yc), (bH14, 0, .slice XA Xn Xc), (bH13, 0, .slice GA Gn Gc), (bH12, 0, .slice QA Qn Qc), (bH11, 0, .slice PA Pn Pc), (w.heap.size, 0, .bool s1), (w.heap.size, 1, .slice A1 n1 c1), (w.heap.size, 2, .slice B1 m1 k1), (w.heap.size + 1, 0, .bool s2), (w.heap.size + 1, 1, .slice A2 n2 c2), (w.heap.size + 1, 2, .slice B2 m2 k2)] WC ∧ Own WC (w.heap.size + 1 + 1) 32 [.bool false, .slice none 0 0, .slice none 0 0] ∧ rNat WC (.agg #[.slice QA Qn Qc]) (b.den) ∧ rNat WC (.agg #[.slice XA Xn Xc]) (x) ∧ rInt WC (.agg #[.bool Ts, .slice TA Tn Tc]) (t) ∧ rNat WC (.agg #[.slice HA Hn Hc]) (h) ∧ Own WC (bH17) 28 [.slice HA Hn Hc] ∧ w.heap.size + 1 + 1 < bH17 ∧ bH16 < bH17 ∧ bH15 < bH17 ∧ bH14 < bH17 ∧ bH13 < bH17 ∧ bH12 < bH17 ∧ bH11 < bH17)
 case first =>
  replace HB := Lib.hid (HB.out.drew)
  replace HO0 := Lib.hid (HO0.out.drew)
  replace R2 := Lib.hid (R2.out.drew)
  replace R5 := Lib.hid (R5.out.drew)
  replace R6 := Lib.hid (R6.out.drew)
  replace R12 := Lib.hid (R12.out.drew)
  replace hbw := Below.drew hbw
  refine wp_hoistR (.yes 0 (.yes 1 (.act 2 (.act 3 (.act 4 (.act 5 (.done) (.stop)) (.stop)) (.act 4 (.act 3 (.act 5 (.done) (.stop)) (.stop)) (.stop))) (.act 4 (.act 2 (.act 3 (.act 5 (.done) (.stop)) (.stop)) (.stop)) (.stop))))) (Cells [(bH16, 0, .bool Ts), (bH16, 1, .slice TA Tn Tc), (bH15, 0, .slice YA Yn Yc), (bH14, 0, .slice XA Xn Xc), (bH13, 0, .slice GA Gn Gc), (bH12, 0, .slice QA Qn Qc), (bH11, 0, .slice PA Pn Pc), (w.heap.size, 0, .bool s1), (w.heap.size, 1, .slice A1 n1 c1), (w.heap.size, 2, .slice B1 m1 k1), (w.heap.size + 1, 0, .bool s2), (w.heap.size + 1, 1, .slice A2 n2 c2), (w.heap.size + 1, 2, .slice B2 m2 k2)]) (by kernel_rfl) (by kernel_rfl) ?_ ?_
  · exact HB.out
  generalize wc.drew = W33 at HB HO0 R2 R5 R6 R12 hbw ⊢
  refine hr_yes (v := ?_) rfl (by kernel_rfl) (fun W hW => ?_) ?_; rotate_left; (obtain ⟨y0, y1, y2, y3, y4, y5, y6, y7, y8, y9, y10, y11, y12, _⟩ := hW; go_simp; try with_reducible rfl)
  (try (conv => arg 6; simp only [Act.put, gL]))
  refine hr_yes (v := ?_) rfl (by kernel_rfl) (fun W hW => ?_) ?_; rotate_left; (obtain ⟨y0, y1, y2, y3, y4, y5, y6, y7, y8, y9, y10, y11, y12, _⟩ := hW; go_simp; try with_reducible rfl)
  (try (conv => arg 6; simp only [Act.put, gL]))
  refine hr_eff rfl (by kernel_rfl) (fun K hK => ?_) ?_
  focus
   refine wp_call (HWG.out _ _ R5.out) (by kernel_rfl) ?_
   rintro v1 W34 hb1 hr1
   obtain ⟨Vs, VA, Vc, Vn, rfl, hr1⟩ := hr1.shape
   refine hK.out _ _ ?_ ?_
   · exact HB.out.ext hb1
   clear hK K
   (try (conv => arg 6; simp only [Act.put, gL]))
   replace HB := Lib.hid (HB.out.ext hb1)
   replace HO0 := Lib.hid (HO0.out.ext hb1)
   replace R2 := Lib.hid (R2.out.ext hb1)
   replace R5 := Lib.hid (R5.out.ext hb1)
   replace R6 := Lib.hid (R6.out.ext hb1)
   replace R12 := Lib.hid (R12.out.ext hb1)
   replace hbw := nT hbw hb1
   have R13 := Lib.hid hr1
   clear hr1
   clear hb1
   refine hr_eff rfl (by kernel_rfl) (fun K hK => ?_) ?_
   focus
    refine wp_call (HGT.out _ _ _ R12.out R13.out) (by kernel_rfl) ?_
    rintro v1 W35 hb1 hr1
    obtain ⟨HA, Hc, Hn, rfl, hr1⟩ := hr1.shape
    refine hK.out _ _ ?_ ?_
    · exact HB.out.ext hb1
    clear hK K
    (try (conv => arg 6; simp only [Act.put, gL]))
    replace HB := Lib.hid (HB.out.ext hb1)
    replace HO0 := Lib.hid (HO0.out.ext hb1)
    replace R2 := Lib.hid (R2.out.ext hb1)
    replace R5 := Lib.hid (R5.out.ext hb1)
    replace R6 := Lib.hid (R6.out.ext hb1)
    replace R12 := Lib.hid (R12.out.ext hb1)
    replace R13 := Lib.hid (R13.out.ext hb1)
    replace hbw := nT hbw hb1
    have R14 := Lib.hid hr1
    clear hr1
    clear hb1
    refine hr_one rfl (by kernel_rfl) (fun K hK => ?_)
    go_simp
    refine hK.out _ _ ?_ ?_
    · exact HB.out.alloc _
    clear hK K
    (try (conv => arg 6; simp only [Act.put, gL]))
    have z_H17 := hbw.size
    have z_H17_HO0 := HO0.out.lt
    have z_H17_H16 := cell_lt HB.out.1
    have z_H17_H15 := cell_lt HB.out.2.2.1
    have z_H17_H14 := cell_lt HB.out.2.2.2.1
    have z_H17_H13 := cell_lt HB.out.2.2.2.2.1
    have z_H17_H12 := cell_lt HB.out.2.2.2.2.2.1
    have z_H17_H11 := cell_lt HB.out.2.2.2.2.2.2.1
    replace HB := Lib.hid (HB.out.alloc (.cells #[.slice none 0 0] 28))
    replace HO0 := Lib.hid (HO0.out.alloc (.cells #[.slice none 0 0] 28))
    replace R2 := Lib.hid (R2.out.alloc (.cells #[.slice none 0 0] 28))
    replace R5 := Lib.hid (R5.out.alloc (.cells #[.slice none 0 0] 28))
    replace R6 := Lib.hid (R6.out.alloc (.cells #[.slice none 0 0] 28))
    replace R12 := Lib.hid (R12.out.alloc (.cells #[.slice none 0 0] 28))
    replace R13 := Lib.hid (R13.out.alloc (.cells #[.slice none 0 0] 28))
    replace R14 := Lib.hid (R14.out.alloc (.cells #[.slice none 0 0] 28))
    replace hbw := nB3 hbw hbw.size (.cells #[.slice none 0 0] 28)
    have H17 := Lib.hid (Own.new' W35 28 [.slice none 0 0] W35.heap.size rfl)
    obtain ⟨bH17, e_H17⟩ : ∃ b, W35.heap.size = b := ⟨_, rfl⟩
    simp only [e_H17] at H17 z_H17 z_H17_HO0 z_H17_H16 z_H17_H15 z_H17_H14 z_H17_H13 z_H17_H12 z_H17_H11 ⊢
    generalize (W35.alloc (.cells #[.slice none 0 0] 28)) = W36 at HB HO0 R2 R5 R6 R12 R13 R14 H17 hbw ⊢
   rotate_left 1
   refine hr_eff rfl (by kernel_rfl) (fun K hK => ?_) ?_
   focus
    go_simp
    refine hK.out _ _ ?_ ?_
    · exact HB.out.alloc _
    clear hK K
    (try (conv => arg 6; simp only [Act.put, gL]))
    have z_H17 := hbw.size
    have z_H17_HO0 := HO0.out.lt
    have z_H17_H16 := cell_lt HB.out.1
    have z_H17_H15 := cell_lt HB.out.2.2.1
    have z_H17_H14 := cell_lt HB.out.2.2.2.1
    have z_H17_H13 := cell_lt HB.out.2.2.2.2.1
    have z_H17_H12 := cell_lt HB.out.2.2.2.2.2.1
    have z_H17_H11 := cell_lt HB.out.2.2.2.2.2.2.1
    replace HB := Lib.hid (HB.out.alloc (.cells #[.slice none 0 0] 28))
    replace HO0 := Lib.hid (HO0.out.alloc (.cells #[.slice none 0 0] 28))
    replace R2 := Lib.hid (R2.out.alloc (.cells #[.slice none 0 0] 28))
    replace R5 := Lib.hid (R5.out.alloc (.cells #[.slice none 0 0] 28))
    replace R6 := Lib.hid (R6.out.alloc (.cells #[.slice none 0 0] 28))
    replace R12 := Lib.hid (R12.out.alloc (.cells #[.slice none 0 0] 28))
    replace R13 := Lib.hid (R13.out.alloc (.cells #[.slice none 0 0] 28))
    replace hbw := nB3 hbw hbw.size (.cells #[.slice none 0 0] 28)
    have H17 := Lib.hid (Own.new' W34 28 [.slice none 0 0] W34.heap.size rfl)
    obtain ⟨bH17, e_H17⟩ : ∃ b, W34.heap.size = b := ⟨_, rfl⟩
    simp only [e_H17] at H17 z_H17 z_H17_HO0 z_H17_H16 z_H17_H15 z_H17_H14 z_H17_H13 z_H17_H12 z_H17_H11 ⊢
    generalize (W34.alloc (.cells #[.slice none 0 0] 28)) = W35 at HB HO0 R2 R5 R6 R12 R13 H17 hbw ⊢
    refine hr_one rfl (by kernel_rfl) (fun K hK => ?_)
    refine wp_call (HGT.out _ _ _ R12.out R13.out) (by kernel_rfl) ?_
    rintro v1 W36 hb1 hr1
    obtain ⟨HA, Hc, Hn, rfl, hr1⟩ := hr1.shape
    refine hK.out _ _ ?_ ?_
    · exact HB.out.ext hb1
    clear hK K
    (try (conv => arg 6; simp only [Act.put, gL]))
    replace HB := Lib.hid (HB.out.ext hb1)
    replace HO0 := Lib.hid (HO0.out.ext hb1)
    replace R2 := Lib.hid (R2.out.ext hb1)
    replace R5 := Lib.hid (R5.out.ext hb1)
    replace R6 := Lib.hid (R6.out.ext hb1)
    replace R12 := Lib.hid (R12.out.ext hb1)
    replace R13 := Lib.hid (R13.out.ext hb1)
    replace H17 := Lib.hid (H17.out.ext hb1)
    replace hbw := nT hbw hb1
    have R14 := Lib.hid hr1
    clear hr1
    clear hb1
   rotate_left 1
   exact trivial
  rotate_left 2
  refine hr_eff rfl (by kernel_rfl) (fun K hK => ?_) ?_
  focus
   go_simp
   refine hK.out _ _ ?_ ?_
   · exact HB.out.alloc _
   clear hK K
   (try (conv => arg 6; simp only [Act.put, gL]))
   have z_H17 := hbw.size
   have z_H17_HO0 := HO0.out.lt
   have z_H17_H16 := cell_lt HB.out.1
   have z_H17_H15 := cell_lt HB.out.2.2.1
   have z_H17_H14 := cell_lt HB.out.2.2.2.1
   have z_H17_H13 := cell_lt HB.out.2.2.2.2.1
   have z_H17_H12 := cell_lt HB.out.2.2.2.2.2.1
   have z_H17_H11 := cell_lt HB.out.2.2.2.2.2.2.1
   replace HB := Lib.hid (HB.out.alloc (.cells #[.slice none 0 0] 28))
   replace HO0 := Lib.hid (HO0.out.alloc (.cells #[.slice none 0 0] 28))
   replace R2 := Lib.hid (R2.out.alloc (.cells #[.slice none 0 0] 28))
   replace R5 := Lib.hid (R5.out.alloc (.cells #[.slice none 0 0] 28))
   replace R6 := Lib.hid (R6.out.alloc (.cells #[.slice none 0 0] 28))
   replace R12 := Lib.hid (R12.out.alloc (.cells #[.slice none 0 0] 28))
   replace hbw := nB3 hbw hbw.size (.cells #[.slice none 0 0] 28)
   have H17 := Lib.hid (Own.new' W33 28 [.slice none 0 0] W33.heap.size rfl)
   obtain ⟨bH17, e_H17⟩ : ∃ b, W33.heap.size = b := ⟨_, rfl⟩
   simp only [e_H17] at H17 z_H17 z_H17_HO0 z_H17_H16 z_H17_H15 z_H17_H14 z_H17_H13 z_H17_H12 z_H17_H11 ⊢
   generalize (W33.alloc (.cells #[.slice none 0 0] 28)) = W34 at HB HO0 R2 R5 R6 R12 H17 hbw ⊢
   refine hr_one rfl (by kernel_rfl) (fun K hK => ?_)
   refine wp_call (HWG.out _ _ R5.out) (by kernel_rfl) ?_
   rintro v1 W35 hb1 hr1
   obtain ⟨Vs, VA, Vc, Vn, rfl, hr1⟩ := hr1.shape
   refine hK.out _ _ ?_ ?_
   · exact HB.out.ext hb1
   clear hK K
   (try (conv => arg 6; simp only [Act.put, gL]))
   replace HB := Lib.hid (HB.out.ext hb1)
   replace HO0 := Lib.hid (HO0.out.ext hb1)
   replace R2 := Lib.hid (R2.out.ext hb1)
   replace R5 := Lib.hid (R5.out.ext hb1)
   replace R6 := Lib.hid (R6.out.ext hb1)
   replace R12 := Lib.hid (R12.out.ext hb1)
   replace H17 := Lib.hid (H17.out.ext hb1)
   replace hbw := nT hbw hb1
   have R13 := Lib.hid hr1
   clear hr1
   clear hb1
   refine hr_one rfl (by kernel_rfl) (fun K hK => ?_)
   refine wp_call (HGT.out _ _ _ R12.out R13.out) (by kernel_rfl) ?_
   rintro v1 W36 hb1 hr1
   obtain ⟨HA, Hc, Hn, rfl, hr1⟩ := hr1.shape
   refine hK.out _ _ ?_ ?_
   · exact HB.out.ext hb1
   clear hK K
   (try (conv => arg 6; simp only [Act.put, gL]))
   replace HB := Lib.hid (HB.out.ext hb1)
   replace HO0 := Lib.hid (HO0.out.ext hb1)
   replace R2 := Lib.hid (R2.out.ext hb1)
   replace R5 := Lib.hid (R5.out.ext hb1)
   replace R6 := Lib.hid (R6.out.ext hb1)
   replace R12 := Lib.hid (R12.out.ext hb1)
   replace H17 := Lib.hid (H17.out.ext hb1)
   replace R13 := Lib.hid (R13.out.ext hb1)
   replace hbw := nT hbw hb1
   have R14 := Lib.hid hr1
   clear hr1
   clear hb1
  rotate_left 1
  exact trivial
  all_goals
   refine hr_one rfl (by kernel_rfl) (fun K hK => ?_)
   have q0 := H17.out.cell 0 _ rfl
   have f0 := H17.out.frozen 0
   go_simp
   refine hK.out _ _ ?_ ?_
   · exact (HB.out.set (p := ⟨bH17, 0, none⟩) _ (by simp <;> omega))
   clear hK K
   (try (conv => arg 6; simp only [Act.put, gL]))
   replace HB := Lib.hid (HB.out.set (p := ⟨bH17, 0, none⟩) (.slice HA Hn Hc) (by simp <;> omega))
   replace HO0 := Lib.hid (HO0.out.other (p := ⟨bH17, 0, none⟩) (.slice HA Hn Hc) (by simp <;> omega))
   replace R2 := Lib.hid (R2.out.set (x := .slice HA Hn Hc) q0 rfl)
   replace R5 := Lib.hid (R5.out.set (x := .slice HA Hn Hc) q0 rfl)
   replace R6 := Lib.hid (R6.out.set (x := .slice HA Hn Hc) q0 rfl)
   replace R12 := Lib.hid (R12.out.set (x := .slice HA Hn Hc) q0 rfl)
   replace H17 := Lib.hid (H17.out.set 0 (.slice HA Hn Hc))
   replace R13 := Lib.hid (R13.out.set (x := .slice HA Hn Hc) q0 rfl)
   replace R14 := Lib.hid (R14.out.set (x := .slice HA Hn Hc) q0 rfl)
   replace hbw := nB4 hbw (show w.heap.size ≤ (⟨bH17, 0, none⟩ : Addr).block by simp <;> omega) (.slice HA Hn Hc)
   clear q0 f0
   replace H17 : Hid (Own _ _ _ [.slice HA Hn Hc]) := H17
   generalize (W36.setCell ⟨bH17, 0, none⟩ (.slice HA Hn Hc)) = W37 at HB HO0 R2 R5 R6 R12 H17 R13 R14 hbw ⊢
   refine hr_done ?_
   go_wp2
   go_meet
   exact ⟨bH17, HA, Hc, Hn, rfl, hbw, HB.out, HO0.out, R2.out, R6.out, R12.out, R14.out, H17.out, by omega, by omega, by omega, by omega, by omega, by omega, by omega⟩
 obtain ⟨bH17, HA, Hc, Hn, rfl, hbw, h_HB, h_HO0, h_R2, h_R6, h_R12, h_R14, h_H17, z_H17_HO0, z_H17_H16, z_H17_H15, z_H17_H14, z_H17_H13, z_H17_H12, z_H17_H11⟩ := hcut
 try clear HB HO0 R2 R6 R12 R14 H17
 have HB := Lib.hid h_HB
 clear h_HB
 have HO0 := Lib.hid h_HO0
 clear h_HO0
 have R2 := Lib.hid h_R2
 clear h_R2
 have R6 := Lib.hid h_R6
 clear h_R6
 have R12 := Lib.hid h_R12
 clear h_R12
 have R14 := Lib.hid h_R14
 clear h_R14
 have H17 := Lib.hid h_H17
 clear h_H17
 replace HB := Lib.hid (Cells.cons (H17.out.cell 0 _ rfl) HB.out)
 go_wp2_with fail
 replace HB := Lib.hid (HB.out.drew)
 replace HO0 := Lib.hid (HO0.out.drew)
 replace R2 := Lib.hid (R2.out.drew)
 replace R6 := Lib.hid (R6.out.drew)
 replace R12 := Lib.hid (R12.out.drew)
 replace R14 := Lib.hid (R14.out.drew)
 replace hbw := Below.drew hbw
 refine wp_hoist [(0, true), (1, true), (3, true), (4, true), (5, true), (2, false), (6, false), (7, false), (8, false), (9, false)] (Cells [(bH17, 0, .slice HA Hn Hc), (bH16, 0, .bool Ts), (bH16, 1, .slice TA Tn Tc), (bH15, 0, .slice YA Yn Yc), (bH14, 0, .slice XA Xn Xc), (bH13, 0, .slice GA Gn Gc), (bH12, 0, .slice QA Qn Qc), (bH11, 0, .slice PA Pn Pc), (w.heap.size, 0, .bool s1), (w.heap.size, 1, .slice A1 n1 c1), (w.heap.size, 2, .slice B1 m1 k1), (w.heap.size + 1, 0, .bool s2), (w.heap.size + 1, 1, .slice A2 n2 c2), (w.heap.size + 1, 2, .slice B2 m2 k2)]) (by kernel_rfl) (by kernel_rfl) ?_ ?_
 · exact HB.out
 generalize wc.drew = W38 at HB HO0 R2 R6 R12 R14 hbw ⊢
 refine hz_yes (v := ?_) rfl (by kernel_rfl) (fun W hW => ?_) ?_; rotate_left; (obtain ⟨y0, y1, y2, y3, y4, y5, y6, y7, y8, y9, y10, y11, y12, y13, _⟩ := hW; go_simp; try with_reducible rfl)
 (try (conv => arg 6; simp only [Act.put, gL]))
 refine hz_yes (v := ?_) rfl (by kernel_rfl) (fun W hW => ?_) ?_; rotate_left; (obtain ⟨y0, y1, y2, y3, y4, y5, y6, y7, y8, y9, y10, y11, y12, y13, _⟩ := hW; go_simp; try with_reducible rfl)
 (try (conv => arg 6; simp only [Act.put, gL]))
 refine hz_yes (v := ?_) rfl (by kernel_rfl) (fun W hW => ?_) ?_; rotate_left; (obtain ⟨y0, y1, y2, y3, y4, y5, y6, y7, y8, y9, y10, y11, y12, y13, _⟩ := hW; go_simp; try with_reducible rfl)
 (try (conv => arg 6; simp only [Act.put, gL]))
 refine hz_yes (v := ?_) rfl (by kernel_rfl) (fun W hW => ?_) ?_; rotate_left; (obtain ⟨y0, y1, y2, y3, y4, y5, y6, y7, y8, y9, y10, y11, y12, y13, _⟩ := hW; go_simp; try with_reducible rfl)
 (try (conv => arg 6; simp only [Act.put, gL]))
 refine hz_yes (v := ?_) rfl (by kernel_rfl) (fun W hW => ?_) ?_; rotate_left; (obtain ⟨y0, y1, y2, y3, y4, y5, y6, y7, y8, y9, y10, y11, y12, y13, _⟩ := hW; go_simp; try with_reducible rfl)
 (try (conv => arg 6; simp only [Act.put, gL]))
 refine hz_eff rfl (by kernel_rfl) (fun K hK => ?_)
 refine wp_call (HBY.out _ _ _ R12.out R14.out) (by kernel_rfl) ?_
 rintro v1 W39 hb1 hr1
 obtain ⟨Zs, ZA, Zc, Zn, rfl, hr1⟩ := hr1.shape
 refine hK.out _ _ ?_ ?_
 · exact HB.out.ext hb1
 clear hK K
 (try (conv => arg 6; simp only [Act.put, gL]))
 replace HB := Lib.hid (HB.out.ext hb1)
 replace HO0 := Lib.hid (HO0.out.ext hb1)
 replace R2 := Lib.hid (R2.out.ext hb1)
 replace R6 := Lib.hid (R6.out.ext hb1)
 replace R12 := Lib.hid (R12.out.ext hb1)
 replace R14 := Lib.hid (R14.out.ext hb1)
 replace hbw := nT hbw hb1
 have R15 := Lib.hid hr1
 clear hr1
 clear hb1
 refine hz_eff rfl (by kernel_rfl) (fun K hK => ?_)
 refine wp_call (HUH.out _ _ _ R2.out R14.out) (by kernel_rfl) ?_
 rintro v1 W40 hb1 hr1
 obtain ⟨DA, Dc, Dn, rfl, hr1⟩ := hr1.shape
 refine hK.out _ _ ?_ ?_
 · exact HB.out.ext hb1
 clear hK K
 (try (conv => arg 6; simp only [Act.put, gL]))
 replace HB := Lib.hid (HB.out.ext hb1)
 replace HO0 := Lib.hid (HO0.out.ext hb1)
 replace R2 := Lib.hid (R2.out.ext hb1)
 replace R6 := Lib.hid (R6.out.ext hb1)
 replace R12 := Lib.hid (R12.out.ext hb1)
 replace R14 := Lib.hid (R14.out.ext hb1)
 replace R15 := Lib.hid (R15.out.ext hb1)
 replace hbw := nT hbw hb1
 have R16 := Lib.hid hr1
 clear hr1
 clear hb1
 refine hz_eff rfl (by kernel_rfl) (fun K hK => ?_)
 refine wp_call (HMX.out _ _ _ R6.out R16.out) (by kernel_rfl) ?_
 rintro v1 W41 hb1 hr1
 obtain ⟨EA, Ec, En, rfl, hr1⟩ := hr1.shape
 refine hK.out _ _ ?_ ?_
 · exact HB.out.ext hb1
 clear hK K
 (try (conv => arg 6; simp only [Act.put, gL]))
 replace HB := Lib.hid (HB.out.ext hb1)
 replace HO0 := Lib.hid (HO0.out.ext hb1)
 replace R2 := Lib.hid (R2.out.ext hb1)
 replace R6 := Lib.hid (R6.out.ext hb1)
 replace R12 := Lib.hid (R12.out.ext hb1)
 replace R14 := Lib.hid (R14.out.ext hb1)
 replace R15 := Lib.hid (R15.out.ext hb1)
 replace R16 := Lib.hid (R16.out.ext hb1)
 replace hbw := nT hbw hb1
 have R17 := Lib.hid hr1
 clear hr1
 clear hb1
 refine hz_eff rfl (by kernel_rfl) (fun K hK => ?_)
 refine wp_call (HLW.out _ _ _ R15.out R17.out) (by kernel_rfl) ?_
 rintro v1 W42 hb1 hr1
 obtain ⟨Fs, FA, Fc, Fn, FB, Fd, Fm, rfl, hr1⟩ := hr1.shape
 refine hK.out _ _ ?_ ?_
 · exact HB.out.ext hb1
 clear hK K
 (try (conv => arg 6; simp only [Act.put, gL]))
 replace HB := Lib.hid (HB.out.ext hb1)
 replace HO0 := Lib.hid (HO0.out.ext hb1)
 replace R2 := Lib.hid (R2.out.ext hb1)
 replace R6 := Lib.hid (R6.out.ext hb1)
 replace R12 := Lib.hid (R12.out.ext hb1)
 replace R14 := Lib.hid (R14.out.ext hb1)
 replace R15 := Lib.hid (R15.out.ext hb1)
 replace R16 := Lib.hid (R16.out.ext hb1)
 replace R17 := Lib.hid (R17.out.ext hb1)
 replace hbw := nT hbw hb1
 have R18 := Lib.hid hr1
 clear hr1
 clear hb1
 have q0 := HO0.out.cell 0 _ rfl
 have f0 := HO0.out.frozen 0
 have q1 := HO0.out.cell 1 _ rfl
 have f1 := HO0.out.frozen 1
 have q2 := HO0.out.cell 2 _ rfl
 have f2 := HO0.out.frozen 2
 refine hz_eff rfl (by kernel_rfl) (fun K hK => ?_)
 go_simp
 refine hK.out _ _ ?_ ?_
 · exact (((HB.out.set (p := ⟨w.heap.size + 1 + 1, 0, none⟩) _ (by simp <;> omega)).set (p := ⟨w.heap.size + 1 + 1, 1, none⟩) _ (by simp <;> omega)).set (p := ⟨w.heap.size + 1 + 1, 2, none⟩) _ (by simp <;> omega))
 clear hK K
 (try (conv => arg 6; simp only [Act.put, gL]))
 replace HB := Lib.hid (HB.out.set (p := ⟨w.heap.size + 1 + 1, 0, none⟩) (.bool Fs) (by simp <;> omega))
 replace HO0 := Lib.hid (HO0.out.set 0 (.bool Fs))
 replace R2 := Lib.hid (R2.out.set (x := .bool Fs) q0 rfl)
 replace R6 := Lib.hid (R6.out.set (x := .bool Fs) q0 rfl)
 replace R12 := Lib.hid (R12.out.set (x := .bool Fs) q0 rfl)
 replace R14 := Lib.hid (R14.out.set (x := .bool Fs) q0 rfl)
 replace R15 := Lib.hid (R15.out.set (x := .bool Fs) q0 rfl)
 replace R16 := Lib.hid (R16.out.set (x := .bool Fs) q0 rfl)
 replace R17 := Lib.hid (R17.out.set (x := .bool Fs) q0 rfl)
 replace R18 := Lib.hid (R18.out.set (x := .bool Fs) q0 rfl)
 replace hbw := nB4 hbw (show w.heap.size ≤ (⟨w.heap.size + 1 + 1, 0, none⟩ : Addr).block by simp <;> omega) (.bool Fs)
 replace q1 := (nC W42 ⟨w.heap.size + 1 + 1, 0, none⟩ ⟨w.heap.size + 1 + 1, 1, none⟩ (.bool Fs) (by simp)).trans q1
 replace q2 := (nC W42 ⟨w.heap.size + 1 + 1, 0, none⟩ ⟨w.heap.size + 1 + 1, 2, none⟩ (.bool Fs) (by simp)).trans q2
 replace HB := Lib.hid (HB.out.set (p := ⟨w.heap.size + 1 + 1, 1, none⟩) (.slice FA Fn Fc) (by simp <;> omega))
 replace HO0 := Lib.hid (HO0.out.set 1 (.slice FA Fn Fc))
 replace R2 := Lib.hid (R2.out.set (x := .slice FA Fn Fc) q1 rfl)
 replace R6 := Lib.hid (R6.out.set (x := .slice FA Fn Fc) q1 rfl)
 replace R12 := Lib.hid (R12.out.set (x := .slice FA Fn Fc) q1 rfl)
 replace R14 := Lib.hid (R14.out.set (x := .slice FA Fn Fc) q1 rfl)
 replace R15 := Lib.hid (R15.out.set (x := .slice FA Fn Fc) q1 rfl)
 replace R16 := Lib.hid (R16.out.set (x := .slice FA Fn Fc) q1 rfl)
 replace R17 := Lib.hid (R17.out.set (x := .slice FA Fn Fc) q1 rfl)
 replace R18 := Lib.hid (R18.out.set (x := .slice FA Fn Fc) q1 rfl)
 replace hbw := nB4 hbw (show w.heap.size ≤ (⟨w.heap.size + 1 + 1, 1, none⟩ : Addr).block by simp <;> omega) (.slice FA Fn Fc)
 replace q2 := (nC (W42.setCell ⟨w.heap.size + 1 + 1, 0, none⟩ (.bool Fs)) ⟨w.heap.size + 1 + 1, 1, none⟩ ⟨w.heap.size + 1 + 1, 2, none⟩ (.slice FA Fn Fc) (by simp)).trans q2
 replace HB := Lib.hid (HB.out.set (p := ⟨w.heap.size + 1 + 1, 2, none⟩) (.slice FB Fm Fd) (by simp <;> omega))
 replace HO0 := Lib.hid (HO0.out.set 2 (.slice FB Fm Fd))
 replace R2 := Lib.hid (R2.out.set (x := .slice FB Fm Fd) q2 rfl)
 replace R6 := Lib.hid (R6.out.set (x := .slice FB Fm Fd) q2 rfl)
 replace R12 := Lib.hid (R12.out.set (x := .slice FB Fm Fd) q2 rfl)
 replace R14 := Lib.hid (R14.out.set (x := .slice FB Fm Fd) q2 rfl)
 replace R15 := Lib.hid (R15.out.set (x := .slice FB Fm Fd) q2 rfl)
 replace R16 := Lib.hid (R16.out.set (x := .slice FB Fm Fd) q2 rfl)
 replace R17 := Lib.hid (R17.out.set (x := .slice FB Fm Fd) q2 rfl)
 replace R18 := Lib.hid (R18.out.set (x := .slice FB Fm Fd) q2 rfl)
 replace hbw := nB4 hbw (show w.heap.size ≤ (⟨w.heap.size + 1 + 1, 2, none⟩ : Addr).block by simp <;> omega) (.slice FB Fm Fd)
 clear q0 f0 q1 f1 q2 f2
 replace HO0 : Hid (Own _ _ _ [.bool Fs, .slice FA Fn Fc, .slice FB Fm Fd]) := HO0
 generalize (((W42.setCell ⟨w.heap.size + 1 + 1, 0, none⟩ (.bool Fs)).setCell ⟨w.heap.size + 1 + 1, 1, none⟩ (.slice FA Fn Fc)).setCell ⟨w.heap.size + 1 + 1, 2, none⟩ (.slice FB Fm Fd)) = W43 at HB HO0 R2 R6 R12 R14 R15 R16 R17 R18 hbw ⊢
 refine hz_nil ?_
 go_wp2_with fail
 have kk0 := HO0.out.cell 0 _ rfl
 have kk1 := HO0.out.cell 1 _ rfl
 have kk2 := HO0.out.cell 2 _ rfl
 refine bodyPost_ret (v := .agg #[.bool Fs, .slice FA Fn Fc, .slice FB Fm Fd]) (by simp [results, Tryz.results38, go_sem, kk0, kk1, kk2]) rfl ⟨_, rfl, hbw, ?_⟩
 exact HFI.out _ _ R18.out
end Go.Proofs.YtadpjidakippeaaGreat
