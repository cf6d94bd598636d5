/- frac.Sub, Div, Make. -/
import Derived.Test.YtlaocmhcilhlbaaY14
import Derived.Test.YtlaocmhcilhlbaaY15
set_option linter.unusedVariables false
set_option linter.unusedSimpArgs false
namespace Go.Proofs.Ytlaocmhcilhlbaa
open Go.RowKit
set_option maxRecDepth 100000 in
set_option maxHeartbeats 2000000 in
/-- frac.Sub -/
theorem qsub_c (w : World) (va vb : Value) (a b : Rat) (ha : rQ w va a) (hb : rQ w vb b) (hf : qb a + qb b ≤ 35184372088600) : Calls Try.prog 13 #[va, vb] w (Post w fun r w' => rQ w' r (a - b)) := by
 obtain ⟨s1, A1, c1, n1, B1, k1, m1, rfl, ha⟩ := ha.shape
 obtain ⟨s2, A2, c2, n2, B2, k2, m2, rfl, hb⟩ := hb.shape
 have HN := Lib.hid (fun W h => qneg_c W (.agg #[.bool s2, .slice A2 n2 c2, .slice B2 m2 k2]) b h (by have := qb_num b; unfold Fit; omega))
 have HA := Lib.hid (fun W u h h' => qadd_c W (.agg #[.bool s1, .slice A1 n1 c1, .slice B1 m1 k1]) u a (-b) h h' (by rw [qb_neg]; exact hf))
 rw [← Rat.sub_eq_add_neg] at HA
 have H1 := Lib.hid ha
 have H2 := Lib.hid hb
 have HB : Hid (Cells [(w.heap.size, 0, .bool s1), (w.heap.size, 1, .slice A1 n1 c1), (w.heap.size, 2, .slice B1 m1 k1), (w.heap.size + 1, 0, .bool s2), (w.heap.size + 1, 1, .slice A2 n2 c2), (w.heap.size + 1, 2, .slice B2 m2 k2)] (((w.alloc (.cells #[.bool s1, .slice A1 n1 c1, .slice B1 m1 k1] 34)).alloc (.cells #[.bool s2, .slice A2 n2 c2, .slice B2 m2 k2] 34)).alloc (.cells #[.bool false, .slice none 0 0, .slice none 0 0] 34))) := Lib.hid (Cells.cons (by go_simp) (Cells.cons (by go_simp) (Cells.cons (by go_simp) (Cells.cons (by go_simp) (Cells.cons (by go_simp) (Cells.cons (by go_simp) (Cells.nil _)))))))
 have HO0 := Lib.hid (Own.new' ((w.alloc (.cells #[.bool s1, .slice A1 n1 c1, .slice B1 m1 k1] 34)).alloc (.cells #[.bool s2, .slice A2 n2 c2, .slice B2 m2 k2] 34)) 34 [.bool false, .slice none 0 0, .slice none 0 0] (w.heap.size + 1 + 1) (by simp))
 have hbw : Below w.heap.size w (((w.alloc (.cells #[.bool s1, .slice A1 n1 c1, .slice B1 m1 k1] 34)).alloc (.cells #[.bool s2, .slice A2 n2 c2, .slice B2 m2 k2] 34)).alloc (.cells #[.bool false, .slice none 0 0, .slice none 0 0] 34)) := (by repeat (first | assumption | exact Below.refl _ _ | refine Below.drew ?_ | refine pw_below_drewN ?_ _ | refine Below.alloc ?_ (by first | omega | (simp <;> omega)) _ | refine Below.setCell ?_ (by first | omega | (simp <;> omega)) _ | refine Below.trans ?_ (Below.mono (by assumption) (by first | omega | (simp <;> omega)))))
 clear ha hb hf
 go_enter Try.func13, Try.ntmps13
 go_wp2_with fail
 generalize (((w.alloc (.cells #[.bool s1, .slice A1 n1 c1, .slice B1 m1 k1] 34)).alloc (.cells #[.bool s2, .slice A2 n2 c2, .slice B2 m2 k2] 34)).alloc (.cells #[.bool false, .slice none 0 0, .slice none 0 0] 34)) = W0 at HB HO0 hbw ⊢
 replace HB := Lib.hid (HB.out.drew)
 replace HO0 := Lib.hid (HO0.out.drew)
 replace hbw := Below.drew hbw
 refine wp_hoist [(0, true), (1, true), (2, false), (3, false), (4, false)] (Cells [(w.heap.size, 0, .bool s1), (w.heap.size, 1, .slice A1 n1 c1), (w.heap.size, 2, .slice B1 m1 k1), (w.heap.size + 1, 0, .bool s2), (w.heap.size + 1, 1, .slice A2 n2 c2), (w.heap.size + 1, 2, .slice B2 m2 k2)]) (by kernel_rfl) (by kernel_rfl) ?_ ?_
 · exact HB.out
 generalize W0.drew = W1 at HB HO0 hbw ⊢
 refine hz_yes (v := ?_) rfl (by kernel_rfl) (fun W hW => ?_) ?_; rotate_left; (obtain ⟨y0, y1, y2, y3, y4, y5, _⟩ := hW; go_simp; try with_reducible rfl)
 (try (conv => arg 6; simp only [Act.put, gL]))
 refine hz_yes (v := ?_) rfl (by kernel_rfl) (fun W hW => ?_) ?_; rotate_left; (obtain ⟨y0, y1, y2, y3, y4, y5, _⟩ := hW; go_simp; try with_reducible rfl)
 (try (conv => arg 6; simp only [Act.put, gL]))
 refine hz_eff rfl (by kernel_rfl) (fun K hK => ?_)
 refine wp_call (HN.out _ (H2.out.ext hbw)) (by kernel_rfl) ?_
 rintro v1 W2 hb1 hr1
 obtain ⟨Es, EA, Ec, En, EB, Ed, Em, rfl, hr1⟩ := hr1.shape
 refine hK.out _ _ ?_ ?_
 · exact HB.out.ext hb1
 clear hK K
 (try (conv => arg 6; simp only [Act.put, gL]))
 replace HB := Lib.hid (HB.out.ext hb1)
 replace HO0 := Lib.hid (HO0.out.ext hb1)
 replace hbw := nT hbw hb1
 have R1 := Lib.hid hr1
 clear hr1
 clear hb1
 refine hz_eff rfl (by kernel_rfl) (fun K hK => ?_)
 refine wp_call (HA.out _ _ (H1.out.ext hbw) R1.out) (by kernel_rfl) ?_
 rintro v1 W3 hb1 hr1
 obtain ⟨Fs, FA, Fc, Fn, FB, Fd, Fm, rfl, hr1⟩ := hr1.shape
 refine hK.out _ _ ?_ ?_
 · exact HB.out.ext hb1
 clear hK K
 (try (conv => arg 6; simp only [Act.put, gL]))
 replace HB := Lib.hid (HB.out.ext hb1)
 replace HO0 := Lib.hid (HO0.out.ext hb1)
 replace R1 := Lib.hid (R1.out.ext hb1)
 replace hbw := nT hbw hb1
 have R2 := Lib.hid hr1
 clear hr1
 clear hb1
 have q0 := HO0.out.cell 0 _ rfl
 have f0 := HO0.out.frozen 0
 have q1 := HO0.out.cell 1 _ rfl
 have f1 := HO0.out.frozen 1
 have q2 := HO0.out.cell 2 _ rfl
 have f2 := HO0.out.frozen 2
 refine hz_eff rfl (by kernel_rfl) (fun K hK => ?_)
 go_simp
 refine hK.out _ _ ?_ ?_
 · exact (((HB.out.set (p := ⟨w.heap.size + 1 + 1, 0, none⟩) _ (by simp <;> omega)).set (p := ⟨w.heap.size + 1 + 1, 1, none⟩) _ (by simp <;> omega)).set (p := ⟨w.heap.size + 1 + 1, 2, none⟩) _ (by simp <;> omega))
 clear hK K
 (try (conv => arg 6; simp only [Act.put, gL]))
 replace HB := Lib.hid (HB.out.set (p := ⟨w.heap.size + 1 + 1, 0, none⟩) (.bool Fs) (by simp <;> omega))
 replace HO0 := Lib.hid (HO0.out.set 0 (.bool Fs))
 replace R1 := Lib.hid (R1.out.set (x := .bool Fs) q0 rfl)
 replace R2 := Lib.hid (R2.out.set (x := .bool Fs) q0 rfl)
 replace hbw := Below.setCell hbw (show w.heap.size ≤ (⟨w.heap.size + 1 + 1, 0, none⟩ : Addr).block by simp <;> omega) (.bool Fs)
 replace q1 := (World.cell?_setCell_other W3 ⟨w.heap.size + 1 + 1, 0, none⟩ ⟨w.heap.size + 1 + 1, 1, none⟩ (.bool Fs) (by simp)).trans q1
 replace q2 := (World.cell?_setCell_other W3 ⟨w.heap.size + 1 + 1, 0, none⟩ ⟨w.heap.size + 1 + 1, 2, none⟩ (.bool Fs) (by simp)).trans q2
 replace HB := Lib.hid (HB.out.set (p := ⟨w.heap.size + 1 + 1, 1, none⟩) (.slice FA Fn Fc) (by simp <;> omega))
 replace HO0 := Lib.hid (HO0.out.set 1 (.slice FA Fn Fc))
 replace R1 := Lib.hid (R1.out.set (x := .slice FA Fn Fc) q1 rfl)
 replace R2 := Lib.hid (R2.out.set (x := .slice FA Fn Fc) q1 rfl)
 replace hbw := Below.setCell hbw (show w.heap.size ≤ (⟨w.heap.size + 1 + 1, 1, none⟩ : Addr).block by simp <;> omega) (.slice FA Fn Fc)
 replace q2 := (World.cell?_setCell_other (W3.setCell ⟨w.heap.size + 1 + 1, 0, none⟩ (.bool Fs)) ⟨w.heap.size + 1 + 1, 1, none⟩ ⟨w.heap.size + 1 + 1, 2, none⟩ (.slice FA Fn Fc) (by simp)).trans q2
 replace HB := Lib.hid (HB.out.set (p := ⟨w.heap.size + 1 + 1, 2, none⟩) (.slice FB Fm Fd) (by simp <;> omega))
 replace HO0 := Lib.hid (HO0.out.set 2 (.slice FB Fm Fd))
 replace R1 := Lib.hid (R1.out.set (x := .slice FB Fm Fd) q2 rfl)
 replace R2 := Lib.hid (R2.out.set (x := .slice FB Fm Fd) q2 rfl)
 replace hbw := Below.setCell hbw (show w.heap.size ≤ (⟨w.heap.size + 1 + 1, 2, none⟩ : Addr).block by simp <;> omega) (.slice FB Fm Fd)
 clear q0 f0 q1 f1 q2 f2
 replace HO0 : Hid (Own _ _ _ [.bool Fs, .slice FA Fn Fc, .slice FB Fm Fd]) := HO0
 generalize (((W3.setCell ⟨w.heap.size + 1 + 1, 0, none⟩ (.bool Fs)).setCell ⟨w.heap.size + 1 + 1, 1, none⟩ (.slice FA Fn Fc)).setCell ⟨w.heap.size + 1 + 1, 2, none⟩ (.slice FB Fm Fd)) = W4 at HB HO0 R1 R2 hbw ⊢
 refine hz_nil ?_
 go_wp2_with fail
 have kk0 := HO0.out.cell 0 _ rfl
 have kk1 := HO0.out.cell 1 _ rfl
 have kk2 := HO0.out.cell 2 _ rfl
 refine bodyPost_ret (v := .agg #[.bool Fs, .slice FA Fn Fc, .slice FB Fm Fd]) (by simp [results, Try.results13, go_sem, kk0, kk1, kk2]) rfl ⟨_, rfl, hbw, ?_⟩
 exact R2.out
def QDivSaid (w' : World) (v : Value) (a b : Rat) : Prop := ∃ q, v = .tuple #[q, .bool (decide (b ≠ 0))] ∧ rQ w' q (a / b)
theorem qb_lowinv (b : Rat) (W : World) (v : Value) (h : b ≠ 0) (hv : rQd W v (sg (decide (b.num.sign < 0)) b.den) b.num.natAbs) : rQ W v b⁻¹ := by
 unfold rQ
 have hn : b.num ≠ 0 := by rw [ne_eq, Rat.num_eq_zero]; exact h
 rw [Rat.num_inv, Rat.den_inv, if_neg hn]
 have e : sg (decide (b.num.sign < 0)) b.den = b.num.sign * b.den := by
  unfold sg
  rcases Int.lt_trichotomy b.num 0 with h | h | h
  · simp [Int.sign_eq_neg_one_of_neg h]
  · exact absurd h hn
  · simp [Int.sign_eq_one_of_pos h]
 rw [← e]
 exact hv
set_option maxRecDepth 100000 in
set_option maxHeartbeats 2000000 in
/-- frac.Div -/
theorem qdiv_c (w : World) (va vb : Value) (a b : Rat) (ha : rQ w va a) (hb : rQ w vb b) (hf : qb a + qb b ≤ 35184372088600) : Calls Try.prog 22 #[va, vb] w (Post w fun r w' => QDivSaid w' r a b) := by
 obtain ⟨s1, A1, c1, n1, B1, k1, m1, rfl, ha⟩ := ha.shape
 obtain ⟨s2, A2, c2, n2, B2, k2, m2, rfl, hb⟩ := hb.shape
 have f2 := qb_num b
 have f4 := qb_den b
 have HS := Lib.hid (fun W h => qsign_c W (.agg #[.bool s2, .slice A2 n2 c2, .slice B2 m2 k2]) b h (by unfold Fit; omega))
 have HD := Lib.hid (fun W h => qden_c W (.agg #[.bool s2, .slice A2 n2 c2, .slice B2 m2 k2]) b h (by unfold Fit; omega))
 have HF := Lib.hid (fun W v h => from_c W (decide (b.num.sign < 0)) v b.den h (by unfold Fit; omega))
 have HB := Lib.hid (fun W h => abs_c W (.agg #[.bool s2, .slice A2 n2 c2]) b.num h)
 have HL := Lib.hid (fun W v u h h' => low_c W v u (sg (decide (b.num.sign < 0)) b.den) b.num.natAbs h h' (by unfold Fit; omega))
 have HM := Lib.hid (fun W u h h' => qmul_c W (.agg #[.bool s1, .slice A1 n1 c1, .slice B1 m1 k1]) u a b⁻¹ h h' (by have := qb_inv b; omega))
 rw [← Rat.div_def] at HM
 have HI := Lib.hid (fun W v h hv => qb_lowinv b W v h hv)
 have hz : b.num.sign = 0 ↔ b = 0 := by rw [Int.sign_eq_zero_iff_zero, Rat.num_eq_zero]
 obtain ⟨t, et⟩ : ∃ t, b.num.sign = t := ⟨_, rfl⟩
 rw [et] at HS HF HL HI hz
 have H1 := Lib.hid ha
 have H2 := Lib.hid hb
 have HZ := Lib.hid hz
 have HAB := HB
 clear HB
 have HB : Hid (Cells [(w.heap.size, 0, .bool s1), (w.heap.size, 1, .slice A1 n1 c1), (w.heap.size, 2, .slice B1 m1 k1), (w.heap.size + 1, 0, .bool s2), (w.heap.size + 1, 1, .slice A2 n2 c2), (w.heap.size + 1, 2, .slice B2 m2 k2)] (((w.alloc (.cells #[.bool s1, .slice A1 n1 c1, .slice B1 m1 k1] 34)).alloc (.cells #[.bool s2, .slice A2 n2 c2, .slice B2 m2 k2] 34)).alloc (.cells #[.bool false, .slice none 0 0, .slice none 0 0] 34))) := Lib.hid (Cells.cons (by go_simp) (Cells.cons (by go_simp) (Cells.cons (by go_simp) (Cells.cons (by go_simp) (Cells.cons (by go_simp) (Cells.cons (by go_simp) (Cells.nil _)))))))
 have HO0 := Lib.hid (Own.new' ((w.alloc (.cells #[.bool s1, .slice A1 n1 c1, .slice B1 m1 k1] 34)).alloc (.cells #[.bool s2, .slice A2 n2 c2, .slice B2 m2 k2] 34)) 34 [.bool false, .slice none 0 0, .slice none 0 0] (w.heap.size + 1 + 1) (by simp))
 have hbw : Below w.heap.size w (((w.alloc (.cells #[.bool s1, .slice A1 n1 c1, .slice B1 m1 k1] 34)).alloc (.cells #[.bool s2, .slice A2 n2 c2, .slice B2 m2 k2] 34)).alloc (.cells #[.bool false, .slice none 0 0, .slice none 0 0] 34)) := (by repeat (first | assumption | exact Below.refl _ _ | refine Below.drew ?_ | refine pw_below_drewN ?_ _ | refine Below.alloc ?_ (by first | omega | (simp <;> omega)) _ | refine Below.setCell ?_ (by first | omega | (simp <;> omega)) _ | refine Below.trans ?_ (Below.mono (by assumption) (by first | omega | (simp <;> omega)))))
 clear ha hb hf f2 f4 et hz
 go_enter Try.func22, Try.ntmps22
 go_wp2_with fail
 generalize (((w.alloc (.cells #[.bool s1, .slice A1 n1 c1, .slice B1 m1 k1] 34)).alloc (.cells #[.bool s2, .slice A2 n2 c2, .slice B2 m2 k2] 34)).alloc (.cells #[.bool false, .slice none 0 0, .slice none 0 0] 34)) = W0 at HB HO0 hbw ⊢
 obtain ⟨y0, y1, y2, y3, y4, y5, _⟩ := id HB.out
 go_wp2_with fail
 clear y0 y1 y2 y3 y4 y5
 refine (HS.out _ (H2.out.ext hbw)).mono ?_
 rintro e W1 ⟨v1, rfl, hb1, rfl⟩
 replace HB := Lib.hid (HB.out.ext hb1)
 replace HO0 := Lib.hid (HO0.out.ext hb1)
 replace hbw := nT hbw hb1
 clear hb1
 by_cases h0 : t = 0
 ·
  have hb0 := HZ.out.1 h0
  subst h0
  have HB0 := Lib.hid hb0
  clear hb0
  have q0 := HO0.out.cell 0 _ rfl
  have f0 := HO0.out.frozen 0
  have q1 := HO0.out.cell 1 _ rfl
  have f1 := HO0.out.frozen 1
  have q2 := HO0.out.cell 2 _ rfl
  have f2 := HO0.out.frozen 2
  go_wp2_with fail
  replace HB := Lib.hid (HB.out.set (p := ⟨w.heap.size + 1 + 1, 0, none⟩) (.bool false) (by simp <;> omega))
  replace HO0 := Lib.hid (HO0.out.set 0 (.bool false))
  replace hbw := Below.setCell hbw (show w.heap.size ≤ (⟨w.heap.size + 1 + 1, 0, none⟩ : Addr).block by simp <;> omega) (.bool false)
  replace q1 := (World.cell?_setCell_other W1 ⟨w.heap.size + 1 + 1, 0, none⟩ ⟨w.heap.size + 1 + 1, 1, none⟩ (.bool false) (by simp)).trans q1
  replace q2 := (World.cell?_setCell_other W1 ⟨w.heap.size + 1 + 1, 0, none⟩ ⟨w.heap.size + 1 + 1, 2, none⟩ (.bool false) (by simp)).trans q2
  replace HB := Lib.hid (HB.out.set (p := ⟨w.heap.size + 1 + 1, 1, none⟩) (.slice none 0 0) (by simp <;> omega))
  replace HO0 := Lib.hid (HO0.out.set 1 (.slice none 0 0))
  replace hbw := Below.setCell hbw (show w.heap.size ≤ (⟨w.heap.size + 1 + 1, 1, none⟩ : Addr).block by simp <;> omega) (.slice none 0 0)
  replace q2 := (World.cell?_setCell_other (W1.setCell ⟨w.heap.size + 1 + 1, 0, none⟩ (.bool false)) ⟨w.heap.size + 1 + 1, 1, none⟩ ⟨w.heap.size + 1 + 1, 2, none⟩ (.slice none 0 0) (by simp)).trans q2
  replace HB := Lib.hid (HB.out.set (p := ⟨w.heap.size + 1 + 1, 2, none⟩) (.slice none 0 0) (by simp <;> omega))
  replace HO0 := Lib.hid (HO0.out.set 2 (.slice none 0 0))
  replace hbw := Below.setCell hbw (show w.heap.size ≤ (⟨w.heap.size + 1 + 1, 2, none⟩ : Addr).block by simp <;> omega) (.slice none 0 0)
  clear q0 f0 q1 f1 q2 f2
  replace HO0 : Hid (Own _ _ _ [.bool false, .slice none 0 0, .slice none 0 0]) := HO0
  generalize (((W1.setCell ⟨w.heap.size + 1 + 1, 0, none⟩ (.bool false)).setCell ⟨w.heap.size + 1 + 1, 1, none⟩ (.slice none 0 0)).setCell ⟨w.heap.size + 1 + 1, 2, none⟩ (.slice none 0 0)) = W2 at HB HO0 hbw ⊢
  have kk0 := HO0.out.cell 0 _ rfl
  have kk1 := HO0.out.cell 1 _ rfl
  have kk2 := HO0.out.cell 2 _ rfl
  refine bodyPost_ret (v := .tuple #[.agg #[.bool false, .slice none 0 0, .slice none 0 0], .bool false]) (by simp [results, Try.results22, go_sem, kk0, kk1, kk2]) rfl ⟨_, rfl, hbw, ?_⟩
  rw [HB0.out]
  exact ⟨.agg #[.bool false, .slice none 0 0, .slice none 0 0], by simp, by rw [Rat.div_def, Rat.inv_zero, Rat.mul_zero]; exact rQd.mk (by exact ⟨_, rNat.zero _, rfl⟩) (rNat.zero _)⟩
 have h0b : (t == 0) = false := by rw [beq_eq_false_iff_ne]; exact h0
 have HBN := Lib.hid (show b ≠ 0 from fun e => h0 (HZ.out.2 e))
 go_wp2_with fail
 replace HB := Lib.hid (HB.out.drew)
 replace HO0 := Lib.hid (HO0.out.drew)
 replace hbw := Below.drew hbw
 refine wp_hoist [(0, true), (1, true), (4, true), (7, true), (8, true), (2, false), (3, true), (5, false), (6, false), (9, false), (10, false), (11, false), (12, false), (13, false)] (Cells [(w.heap.size, 0, .bool s1), (w.heap.size, 1, .slice A1 n1 c1), (w.heap.size, 2, .slice B1 m1 k1), (w.heap.size + 1, 0, .bool s2), (w.heap.size + 1, 1, .slice A2 n2 c2), (w.heap.size + 1, 2, .slice B2 m2 k2)]) (by kernel_rfl) (by kernel_rfl) ?_ ?_
 · exact HB.out
 generalize W1.drew = W2 at HB HO0 hbw ⊢
 refine hz_yes (v := ?_) rfl (by kernel_rfl) (fun W hW => ?_) ?_; rotate_left; (obtain ⟨y0, y1, y2, y3, y4, y5, _⟩ := hW; go_simp; try with_reducible rfl)
 (try (conv => arg 6; simp only [Act.put, gL]))
 refine hz_yes (v := ?_) rfl (by kernel_rfl) (fun W hW => ?_) ?_; rotate_left; (obtain ⟨y0, y1, y2, y3, y4, y5, _⟩ := hW; go_simp; try with_reducible rfl)
 (try (conv => arg 6; simp only [Act.put, gL]))
 refine hz_yes (v := ?_) rfl (by kernel_rfl) (fun W hW => ?_) ?_; rotate_left; (obtain ⟨y0, y1, y2, y3, y4, y5, _⟩ := hW; go_simp; try with_reducible rfl)
 (try (conv => arg 6; simp only [Act.put, gL]))
 refine hz_yes (v := ?_) rfl (by kernel_rfl) (fun W hW => ?_) ?_; rotate_left; (go_simp; try with_reducible rfl)
 (try (conv => arg 6; simp only [Act.put, gL]))
 refine hz_yes (v := ?_) rfl (by kernel_rfl) (fun W hW => ?_) ?_; rotate_left; (obtain ⟨y0, y1, y2, y3, y4, y5, _⟩ := hW; go_simp; try with_reducible rfl)
 (try (conv => arg 6; simp only [Act.put, gL]))
 refine hz_eff rfl (by kernel_rfl) (fun K hK => ?_)
 refine wp_call (HS.out _ (H2.out.ext hbw)) (by kernel_rfl) ?_
 rintro v1 W3 hb1 rfl
 refine hK.out _ _ ?_ ?_
 · exact HB.out.ext hb1
 clear hK K
 (try (conv => arg 6; simp only [Act.put, gL]))
 replace HB := Lib.hid (HB.out.ext hb1)
 replace HO0 := Lib.hid (HO0.out.ext hb1)
 replace hbw := nT hbw hb1
 clear hb1
 refine hz_yes (v := ?_) rfl (by kernel_rfl) (fun W hW => ?_) ?_; rotate_left; (go_simp; try with_reducible rfl)
 (try (conv => arg 6; simp only [Act.put, gL]))
 refine hz_eff rfl (by kernel_rfl) (fun K hK => ?_)
 refine wp_call (HD.out _ (H2.out.ext hbw)) (by kernel_rfl) ?_
 rintro v1 W4 hb1 hr1
 obtain ⟨EA, Ec, En, rfl, hr1⟩ := hr1.shape
 refine hK.out _ _ ?_ ?_
 · exact HB.out.ext hb1
 clear hK K
 (try (conv => arg 6; simp only [Act.put, gL]))
 replace HB := Lib.hid (HB.out.ext hb1)
 replace HO0 := Lib.hid (HO0.out.ext hb1)
 replace hbw := nT hbw hb1
 have R1 := Lib.hid hr1
 clear hr1
 clear hb1
 refine hz_eff rfl (by kernel_rfl) (fun K hK => ?_)
 refine wp_call (HF.out _ _ R1.out) (by kernel_rfl) ?_
 rintro v1 W5 hb1 hr1
 obtain ⟨Fs, FA, Fc, Fn, rfl, hr1⟩ := hr1.shape
 refine hK.out _ _ ?_ ?_
 · exact HB.out.ext hb1
 clear hK K
 (try (conv => arg 6; simp only [Act.put, gL]))
 replace HB := Lib.hid (HB.out.ext hb1)
 replace HO0 := Lib.hid (HO0.out.ext hb1)
 replace R1 := Lib.hid (R1.out.ext hb1)
 replace hbw := nT hbw hb1
 have R2 := Lib.hid hr1
 clear hr1
 clear hb1
 refine hz_eff rfl (by kernel_rfl) (fun K hK => ?_)
 refine wp_call (HAB.out _ (H2.out.ext hbw).num) (by kernel_rfl) ?_
 rintro v1 W6 hb1 hr1
 obtain ⟨GA, Gc, Gn, rfl, hr1⟩ := hr1.shape
 refine hK.out _ _ ?_ ?_
 · exact HB.out.ext hb1
 clear hK K
 (try (conv => arg 6; simp only [Act.put, gL]))
 replace HB := Lib.hid (HB.out.ext hb1)
 replace HO0 := Lib.hid (HO0.out.ext hb1)
 replace R1 := Lib.hid (R1.out.ext hb1)
 replace R2 := Lib.hid (R2.out.ext hb1)
 replace hbw := nT hbw hb1
 have R3 := Lib.hid hr1
 clear hr1
 clear hb1
 refine hz_eff rfl (by kernel_rfl) (fun K hK => ?_)
 refine wp_call ((HL.out _ _ _ R2.out R3.out).mono (fun _ _ h => h.map (fun _ _ h => HI.out _ _ HBN.out h))) (by kernel_rfl) ?_
 rintro v1 W7 hb1 hr1
 obtain ⟨Is, IA, Ic, In, IB, Id, Im, rfl, hr1⟩ := hr1.shape
 refine hK.out _ _ ?_ ?_
 · exact HB.out.ext hb1
 clear hK K
 (try (conv => arg 6; simp only [Act.put, gL]))
 replace HB := Lib.hid (HB.out.ext hb1)
 replace HO0 := Lib.hid (HO0.out.ext hb1)
 replace R1 := Lib.hid (R1.out.ext hb1)
 replace R2 := Lib.hid (R2.out.ext hb1)
 replace R3 := Lib.hid (R3.out.ext hb1)
 replace hbw := nT hbw hb1
 have R4 := Lib.hid hr1
 clear hr1
 clear hb1
 refine hz_eff rfl (by kernel_rfl) (fun K hK => ?_)
 refine wp_call (HM.out _ _ (H1.out.ext hbw) R4.out) (by kernel_rfl) ?_
 rintro v1 W8 hb1 hr1
 obtain ⟨Js, JA, Jc, Jn, JB, Jd, Jm, rfl, hr1⟩ := hr1.shape
 refine hK.out _ _ ?_ ?_
 · exact HB.out.ext hb1
 clear hK K
 (try (conv => arg 6; simp only [Act.put, gL]))
 replace HB := Lib.hid (HB.out.ext hb1)
 replace HO0 := Lib.hid (HO0.out.ext hb1)
 replace R1 := Lib.hid (R1.out.ext hb1)
 replace R2 := Lib.hid (R2.out.ext hb1)
 replace R3 := Lib.hid (R3.out.ext hb1)
 replace R4 := Lib.hid (R4.out.ext hb1)
 replace hbw := nT hbw hb1
 have R5 := Lib.hid hr1
 clear hr1
 clear hb1
 have q0 := HO0.out.cell 0 _ rfl
 have f0 := HO0.out.frozen 0
 have q1 := HO0.out.cell 1 _ rfl
 have f1 := HO0.out.frozen 1
 have q2 := HO0.out.cell 2 _ rfl
 have f2 := HO0.out.frozen 2
 refine hz_eff rfl (by kernel_rfl) (fun K hK => ?_)
 go_simp
 refine hK.out _ _ ?_ ?_
 · exact (((HB.out.set (p := ⟨w.heap.size + 1 + 1, 0, none⟩) _ (by simp <;> omega)).set (p := ⟨w.heap.size + 1 + 1, 1, none⟩) _ (by simp <;> omega)).set (p := ⟨w.heap.size + 1 + 1, 2, none⟩) _ (by simp <;> omega))
 clear hK K
 (try (conv => arg 6; simp only [Act.put, gL]))
 replace HB := Lib.hid (HB.out.set (p := ⟨w.heap.size + 1 + 1, 0, none⟩) (.bool Js) (by simp <;> omega))
 replace HO0 := Lib.hid (HO0.out.set 0 (.bool Js))
 replace R1 := Lib.hid (R1.out.set (x := .bool Js) q0 rfl)
 replace R2 := Lib.hid (R2.out.set (x := .bool Js) q0 rfl)
 replace R3 := Lib.hid (R3.out.set (x := .bool Js) q0 rfl)
 replace R4 := Lib.hid (R4.out.set (x := .bool Js) q0 rfl)
 replace R5 := Lib.hid (R5.out.set (x := .bool Js) q0 rfl)
 replace hbw := Below.setCell hbw (show w.heap.size ≤ (⟨w.heap.size + 1 + 1, 0, none⟩ : Addr).block by simp <;> omega) (.bool Js)
 replace q1 := (World.cell?_setCell_other W8 ⟨w.heap.size + 1 + 1, 0, none⟩ ⟨w.heap.size + 1 + 1, 1, none⟩ (.bool Js) (by simp)).trans q1
 replace q2 := (World.cell?_setCell_other W8 ⟨w.heap.size + 1 + 1, 0, none⟩ ⟨w.heap.size + 1 + 1, 2, none⟩ (.bool Js) (by simp)).trans q2
 replace HB := Lib.hid (HB.out.set (p := ⟨w.heap.size + 1 + 1, 1, none⟩) (.slice JA Jn Jc) (by simp <;> omega))
 replace HO0 := Lib.hid (HO0.out.set 1 (.slice JA Jn Jc))
 replace R1 := Lib.hid (R1.out.set (x := .slice JA Jn Jc) q1 rfl)
 replace R2 := Lib.hid (R2.out.set (x := .slice JA Jn Jc) q1 rfl)
 replace R3 := Lib.hid (R3.out.set (x := .slice JA Jn Jc) q1 rfl)
 replace R4 := Lib.hid (R4.out.set (x := .slice JA Jn Jc) q1 rfl)
 replace R5 := Lib.hid (R5.out.set (x := .slice JA Jn Jc) q1 rfl)
 replace hbw := Below.setCell hbw (show w.heap.size ≤ (⟨w.heap.size + 1 + 1, 1, none⟩ : Addr).block by simp <;> omega) (.slice JA Jn Jc)
 replace q2 := (World.cell?_setCell_other (W8.setCell ⟨w.heap.size + 1 + 1, 0, none⟩ (.bool Js)) ⟨w.heap.size + 1 + 1, 1, none⟩ ⟨w.heap.size + 1 + 1, 2, none⟩ (.slice JA Jn Jc) (by simp)).trans q2
 replace HB := Lib.hid (HB.out.set (p := ⟨w.heap.size + 1 + 1, 2, none⟩) (.slice JB Jm Jd) (by simp <;> omega))
 replace HO0 := Lib.hid (HO0.out.set 2 (.slice JB Jm Jd))
 replace R1 := Lib.hid (R1.out.set (x := .slice JB Jm Jd) q2 rfl)
 replace R2 := Lib.hid (R2.out.set (x := .slice JB Jm Jd) q2 rfl)
 replace R3 := Lib.hid (R3.out.set (x := .slice JB Jm Jd) q2 rfl)
 replace R4 := Lib.hid (R4.out.set (x := .slice JB Jm Jd) q2 rfl)
 replace R5 := Lib.hid (R5.out.set (x := .slice JB Jm Jd) q2 rfl)
 replace hbw := Below.setCell hbw (show w.heap.size ≤ (⟨w.heap.size + 1 + 1, 2, none⟩ : Addr).block by simp <;> omega) (.slice JB Jm Jd)
 clear q0 f0 q1 f1 q2 f2
 replace HO0 : Hid (Own _ _ _ [.bool Js, .slice JA Jn Jc, .slice JB Jm Jd]) := HO0
 generalize (((W8.setCell ⟨w.heap.size + 1 + 1, 0, none⟩ (.bool Js)).setCell ⟨w.heap.size + 1 + 1, 1, none⟩ (.slice JA Jn Jc)).setCell ⟨w.heap.size + 1 + 1, 2, none⟩ (.slice JB Jm Jd)) = W9 at HB HO0 R1 R2 R3 R4 R5 hbw ⊢
 refine hz_eff rfl (by kernel_rfl) (fun K hK => ?_)
 go_simp
 refine hK.out _ _ ?_ ?_
 · exact HB.out
 clear hK K
 (try (conv => arg 6; simp only [Act.put, gL]))
 refine hz_nil ?_
 go_wp2_with fail
 have kk0 := HO0.out.cell 0 _ rfl
 have kk1 := HO0.out.cell 1 _ rfl
 have kk2 := HO0.out.cell 2 _ rfl
 refine bodyPost_ret (v := .tuple #[.agg #[.bool Js, .slice JA Jn Jc, .slice JB Jm Jd], .bool true]) (by simp [results, Try.results22, go_sem, kk0, kk1, kk2]) rfl ⟨_, rfl, hbw, ?_⟩
 exact ⟨_, by rw [decide_eq_true HBN.out], R5.out⟩
def QMakeSaid (w' : World) (v : Value) (n : Int) (d : Nat) : Prop := ∃ q, v = .tuple #[q, .bool true] ∧ rQ w' q (mkRat n d)
set_option maxRecDepth 100000 in
set_option maxHeartbeats 2000000 in
/-- frac.Make, of a lower part above 0 -/
theorem qmake_c (w : World) (vn vd : Value) (n : Int) (d : Nat) (ha : rInt w vn n) (hb : rInt w vd (d : Int)) (hd : 0 < d) (f1 : bl n.natAbs ≤ 35184372088600) (f2 : bl d ≤ 35184372088600) :
  Calls Try.prog 56 #[vn, vd] w (Post w fun r w' => QMakeSaid w' r n d) := by
 obtain ⟨s1, A1, c1, n1, rfl, ha⟩ := ha.shape
 obtain ⟨s2, A2, c2, n2, rfl, hb⟩ := hb.shape
 obtain ⟨g, eg⟩ : ∃ g, Nat.gcd n.natAbs d = g := ⟨_, rfl⟩
 have hgd : g ≤ d := by rw [← eg]; exact Nat.gcd_le_right _ hd
 have hgb := bl_mono hgd
 have HS := Lib.hid (fun W h => sign_c W (.agg #[.bool s2, .slice A2 n2 c2]) (d : Int) h (by unfold Fit; simp only [Int.natAbs_natCast]; omega))
 rw [Int.sign_eq_one_of_pos (by omega)] at HS
 have HG := Lib.hid (fun W h h' => gcd_c W (.agg #[.bool s1, .slice A1 n1 c1]) (.agg #[.bool s2, .slice A2 n2 c2]) n (d : Int) h h' (by omega) (by simp only [Int.natAbs_natCast]; omega))
 simp only [Int.natAbs_natCast] at HG
 rw [eg] at HG
 have HY := Lib.hid (fun W u h h' => by_c W (.agg #[.bool s1, .slice A1 n1 c1]) u n g h h' (by omega) (by omega))
 have HAB := Lib.hid (fun W h => abs_c W (.agg #[.bool s2, .slice A2 n2 c2]) (d : Int) h)
 simp only [Int.natAbs_natCast] at HAB
 have HU := Lib.hid (fun W v u h h' => under_c W v u d g h h' (by unfold Fit; omega) (by unfold Fit; omega))
 have hdg : bl (d / g) ≤ bl d := bl_mono (Nat.div_le_self _ _)
 have HL := Lib.hid (fun W v u h h' => low_c W v u (Int.fdiv n g) (d / g) h h' (by unfold Fit; omega))
 obtain ⟨p1, p2⟩ := mkRat_parts n d (by omega)
 rw [eg] at p1 p2
 have HFI := Lib.hid (show ∀ W v, rQd W v (Int.fdiv n g) (d / g) → rQ W v (mkRat n d) from fun W v hv => by unfold rQ; rw [p1, p2, ← Int.fdiv_eq_ediv_of_nonneg _ (by omega)]; exact hv)
 have H1 := Lib.hid ha
 have H2 := Lib.hid hb
 clear eg hgd hgb hdg p1 p2 f1 f2
 have HB : Hid (Cells [(w.heap.size, 0, .bool s1), (w.heap.size, 1, .slice A1 n1 c1), (w.heap.size + 1, 0, .bool s2), (w.heap.size + 1, 1, .slice A2 n2 c2)] (((w.alloc (.cells #[.bool s1, .slice A1 n1 c1] 32)).alloc (.cells #[.bool s2, .slice A2 n2 c2] 32)).alloc (.cells #[.bool false, .slice none 0 0, .slice none 0 0] 34))) := Lib.hid (Cells.cons (by go_simp) (Cells.cons (by go_simp) (Cells.cons (by go_simp) (Cells.cons (by go_simp) (Cells.nil _)))))
 have HO0 := Lib.hid (Own.new' ((w.alloc (.cells #[.bool s1, .slice A1 n1 c1] 32)).alloc (.cells #[.bool s2, .slice A2 n2 c2] 32)) 34 [.bool false, .slice none 0 0, .slice none 0 0] (w.heap.size + 1 + 1) (by simp))
 have hbw : Below w.heap.size w (((w.alloc (.cells #[.bool s1, .slice A1 n1 c1] 32)).alloc (.cells #[.bool s2, .slice A2 n2 c2] 32)).alloc (.cells #[.bool false, .slice none 0 0, .slice none 0 0] 34)) := (by repeat (first | assumption | exact Below.refl _ _ | refine Below.drew ?_ | refine pw_below_drewN ?_ _ | refine Below.alloc ?_ (by first | omega | (simp <;> omega)) _ | refine Below.setCell ?_ (by first | omega | (simp <;> omega)) _ | refine Below.trans ?_ (Below.mono (by assumption) (by first | omega | (simp <;> omega)))))
 clear ha hb
 go_enter Try.func56, Try.ntmps56
 go_wp2_with fail
 generalize (((w.alloc (.cells #[.bool s1, .slice A1 n1 c1] 32)).alloc (.cells #[.bool s2, .slice A2 n2 c2] 32)).alloc (.cells #[.bool false, .slice none 0 0, .slice none 0 0] 34)) = W0 at HB HO0 hbw ⊢
 obtain ⟨y0, y1, y2, y3, _⟩ := id HB.out
 go_wp2_with fail
 clear y0 y1 y2 y3
 refine (HS.out _ (H2.out.ext hbw)).mono ?_
 rintro e W1 ⟨v1, rfl, hb1, rfl⟩
 replace HB := Lib.hid (HB.out.ext hb1)
 replace HO0 := Lib.hid (HO0.out.ext hb1)
 replace hbw := nT hbw hb1
 clear hb1
 obtain ⟨y0, y1, y2, y3, _⟩ := id HB.out
 go_wp2_with fail
 clear y0 y1 y2 y3
 refine (HG.out _ (H1.out.ext hbw) (H2.out.ext hbw)).mono ?_
 rintro e W2 ⟨v1, rfl, hb1, hr1⟩
 obtain ⟨GA, Gc, Gn, rfl, hr1⟩ := hr1.shape
 replace HB := Lib.hid (HB.out.ext hb1)
 replace HO0 := Lib.hid (HO0.out.ext hb1)
 replace hbw := nT hbw hb1
 have R1 := Lib.hid hr1
 clear hr1
 clear hb1
 go_upto_region 7 with (fail)
 have z_H6 := hbw.size
 have z_H6_HO0 := HO0.out.lt
 replace HB := Lib.hid (HB.out.alloc (.cells #[.slice GA Gn Gc] 30))
 replace HO0 := Lib.hid (HO0.out.alloc (.cells #[.slice GA Gn Gc] 30))
 replace R1 := Lib.hid (R1.out.alloc (.cells #[.slice GA Gn Gc] 30))
 replace hbw := Below.alloc hbw hbw.size (.cells #[.slice GA Gn Gc] 30)
 have H6 := Lib.hid (Own.new' W2 30 [.slice GA Gn Gc] W2.heap.size rfl)
 obtain ⟨bH6, e_H6⟩ : ∃ b, W2.heap.size = b := ⟨_, rfl⟩
 simp only [e_H6] at H6 z_H6 z_H6_HO0 ⊢
 generalize (W2.alloc (.cells #[.slice GA Gn Gc] 30)) = W3 at HB HO0 R1 H6 hbw ⊢
 replace HB := Lib.hid (Cells.cons (H6.out.cell 0 _ rfl) HB.out)
 replace HB := Lib.hid (HB.out.drew)
 replace HO0 := Lib.hid (HO0.out.drew)
 replace R1 := Lib.hid (R1.out.drew)
 replace hbw := Below.drew hbw
 refine wp_hoist [(0, true), (1, true), (3, true), (5, true), (2, false), (4, false), (6, false), (7, false), (8, false), (9, false)] (Cells [(bH6, 0, .slice GA Gn Gc), (w.heap.size, 0, .bool s1), (w.heap.size, 1, .slice A1 n1 c1), (w.heap.size + 1, 0, .bool s2), (w.heap.size + 1, 1, .slice A2 n2 c2)]) (by kernel_rfl) (by kernel_rfl) ?_ ?_
 · exact HB.out
 generalize W3.drew = W4 at HB HO0 R1 hbw ⊢
 refine hz_yes (v := ?_) rfl (by kernel_rfl) (fun W hW => ?_) ?_; rotate_left; (obtain ⟨y0, y1, y2, y3, y4, _⟩ := hW; go_simp; try with_reducible rfl)
 (try (conv => arg 6; simp only [Act.put, gL]))
 refine hz_yes (v := ?_) rfl (by kernel_rfl) (fun W hW => ?_) ?_; rotate_left; (obtain ⟨y0, y1, y2, y3, y4, _⟩ := hW; go_simp; try with_reducible rfl)
 (try (conv => arg 6; simp only [Act.put, gL]))
 refine hz_yes (v := ?_) rfl (by kernel_rfl) (fun W hW => ?_) ?_; rotate_left; (obtain ⟨y0, y1, y2, y3, y4, _⟩ := hW; go_simp; try with_reducible rfl)
 (try (conv => arg 6; simp only [Act.put, gL]))
 refine hz_yes (v := ?_) rfl (by kernel_rfl) (fun W hW => ?_) ?_; rotate_left; (obtain ⟨y0, y1, y2, y3, y4, _⟩ := hW; go_simp; try with_reducible rfl)
 (try (conv => arg 6; simp only [Act.put, gL]))
 refine hz_eff rfl (by kernel_rfl) (fun K hK => ?_)
 refine wp_call (HY.out _ _ (H1.out.ext hbw) R1.out) (by kernel_rfl) ?_
 rintro v1 W5 hb1 hr1
 obtain ⟨Is, IA, Ic, In, rfl, hr1⟩ := hr1.shape
 refine hK.out _ _ ?_ ?_
 · exact HB.out.ext hb1
 clear hK K
 (try (conv => arg 6; simp only [Act.put, gL]))
 replace HB := Lib.hid (HB.out.ext hb1)
 replace HO0 := Lib.hid (HO0.out.ext hb1)
 replace R1 := Lib.hid (R1.out.ext hb1)
 replace hbw := nT hbw hb1
 have R2 := Lib.hid hr1
 clear hr1
 clear hb1
 refine hz_eff rfl (by kernel_rfl) (fun K hK => ?_)
 refine wp_call (HAB.out _ (H2.out.ext hbw)) (by kernel_rfl) ?_
 rintro v1 W6 hb1 hr1
 obtain ⟨JA, Jc, Jn, rfl, hr1⟩ := hr1.shape
 refine hK.out _ _ ?_ ?_
 · exact HB.out.ext hb1
 clear hK K
 (try (conv => arg 6; simp only [Act.put, gL]))
 replace HB := Lib.hid (HB.out.ext hb1)
 replace HO0 := Lib.hid (HO0.out.ext hb1)
 replace R1 := Lib.hid (R1.out.ext hb1)
 replace R2 := Lib.hid (R2.out.ext hb1)
 replace hbw := nT hbw hb1
 have R3 := Lib.hid hr1
 clear hr1
 clear hb1
 refine hz_eff rfl (by kernel_rfl) (fun K hK => ?_)
 refine wp_call (HU.out _ _ _ R3.out R1.out) (by kernel_rfl) ?_
 rintro v1 W7 hb1 hr1
 obtain ⟨MA, Mc, Mn, rfl, hr1⟩ := hr1.shape
 refine hK.out _ _ ?_ ?_
 · exact HB.out.ext hb1
 clear hK K
 (try (conv => arg 6; simp only [Act.put, gL]))
 replace HB := Lib.hid (HB.out.ext hb1)
 replace HO0 := Lib.hid (HO0.out.ext hb1)
 replace R1 := Lib.hid (R1.out.ext hb1)
 replace R2 := Lib.hid (R2.out.ext hb1)
 replace R3 := Lib.hid (R3.out.ext hb1)
 replace hbw := nT hbw hb1
 have R4 := Lib.hid hr1
 clear hr1
 clear hb1
 refine hz_eff rfl (by kernel_rfl) (fun K hK => ?_)
 refine wp_call (HL.out _ _ _ R2.out R4.out) (by kernel_rfl) ?_
 rintro v1 W8 hb1 hr1
 obtain ⟨Fs, FA, Fc, Fn, FB, Fd, Fm, rfl, hr1⟩ := hr1.shape
 refine hK.out _ _ ?_ ?_
 · exact HB.out.ext hb1
 clear hK K
 (try (conv => arg 6; simp only [Act.put, gL]))
 replace HB := Lib.hid (HB.out.ext hb1)
 replace HO0 := Lib.hid (HO0.out.ext hb1)
 replace R1 := Lib.hid (R1.out.ext hb1)
 replace R2 := Lib.hid (R2.out.ext hb1)
 replace R3 := Lib.hid (R3.out.ext hb1)
 replace R4 := Lib.hid (R4.out.ext hb1)
 replace hbw := nT hbw hb1
 have R5 := Lib.hid hr1
 clear hr1
 clear hb1
 have q0 := HO0.out.cell 0 _ rfl
 have f0 := HO0.out.frozen 0
 have q1 := HO0.out.cell 1 _ rfl
 have f1 := HO0.out.frozen 1
 have q2 := HO0.out.cell 2 _ rfl
 have f2 := HO0.out.frozen 2
 refine hz_eff rfl (by kernel_rfl) (fun K hK => ?_)
 go_simp
 refine hK.out _ _ ?_ ?_
 · exact (((HB.out.set (p := ⟨w.heap.size + 1 + 1, 0, none⟩) _ (by simp <;> omega)).set (p := ⟨w.heap.size + 1 + 1, 1, none⟩) _ (by simp <;> omega)).set (p := ⟨w.heap.size + 1 + 1, 2, none⟩) _ (by simp <;> omega))
 clear hK K
 (try (conv => arg 6; simp only [Act.put, gL]))
 replace HB := Lib.hid (HB.out.set (p := ⟨w.heap.size + 1 + 1, 0, none⟩) (.bool Fs) (by simp <;> omega))
 replace HO0 := Lib.hid (HO0.out.set 0 (.bool Fs))
 replace R1 := Lib.hid (R1.out.set (x := .bool Fs) q0 rfl)
 replace R2 := Lib.hid (R2.out.set (x := .bool Fs) q0 rfl)
 replace R3 := Lib.hid (R3.out.set (x := .bool Fs) q0 rfl)
 replace R4 := Lib.hid (R4.out.set (x := .bool Fs) q0 rfl)
 replace R5 := Lib.hid (R5.out.set (x := .bool Fs) q0 rfl)
 replace hbw := Below.setCell hbw (show w.heap.size ≤ (⟨w.heap.size + 1 + 1, 0, none⟩ : Addr).block by simp <;> omega) (.bool Fs)
 replace q1 := (World.cell?_setCell_other W8 ⟨w.heap.size + 1 + 1, 0, none⟩ ⟨w.heap.size + 1 + 1, 1, none⟩ (.bool Fs) (by simp)).trans q1
 replace q2 := (World.cell?_setCell_other W8 ⟨w.heap.size + 1 + 1, 0, none⟩ ⟨w.heap.size + 1 + 1, 2, none⟩ (.bool Fs) (by simp)).trans q2
 replace HB := Lib.hid (HB.out.set (p := ⟨w.heap.size + 1 + 1, 1, none⟩) (.slice FA Fn Fc) (by simp <;> omega))
 replace HO0 := Lib.hid (HO0.out.set 1 (.slice FA Fn Fc))
 replace R1 := Lib.hid (R1.out.set (x := .slice FA Fn Fc) q1 rfl)
 replace R2 := Lib.hid (R2.out.set (x := .slice FA Fn Fc) q1 rfl)
 replace R3 := Lib.hid (R3.out.set (x := .slice FA Fn Fc) q1 rfl)
 replace R4 := Lib.hid (R4.out.set (x := .slice FA Fn Fc) q1 rfl)
 replace R5 := Lib.hid (R5.out.set (x := .slice FA Fn Fc) q1 rfl)
 replace hbw := Below.setCell hbw (show w.heap.size ≤ (⟨w.heap.size + 1 + 1, 1, none⟩ : Addr).block by simp <;> omega) (.slice FA Fn Fc)
 replace q2 := (World.cell?_setCell_other (W8.setCell ⟨w.heap.size + 1 + 1, 0, none⟩ (.bool Fs)) ⟨w.heap.size + 1 + 1, 1, none⟩ ⟨w.heap.size + 1 + 1, 2, none⟩ (.slice FA Fn Fc) (by simp)).trans q2
 replace HB := Lib.hid (HB.out.set (p := ⟨w.heap.size + 1 + 1, 2, none⟩) (.slice FB Fm Fd) (by simp <;> omega))
 replace HO0 := Lib.hid (HO0.out.set 2 (.slice FB Fm Fd))
 replace R1 := Lib.hid (R1.out.set (x := .slice FB Fm Fd) q2 rfl)
 replace R2 := Lib.hid (R2.out.set (x := .slice FB Fm Fd) q2 rfl)
 replace R3 := Lib.hid (R3.out.set (x := .slice FB Fm Fd) q2 rfl)
 replace R4 := Lib.hid (R4.out.set (x := .slice FB Fm Fd) q2 rfl)
 replace R5 := Lib.hid (R5.out.set (x := .slice FB Fm Fd) q2 rfl)
 replace hbw := Below.setCell hbw (show w.heap.size ≤ (⟨w.heap.size + 1 + 1, 2, none⟩ : Addr).block by simp <;> omega) (.slice FB Fm Fd)
 clear q0 f0 q1 f1 q2 f2
 replace HO0 : Hid (Own _ _ _ [.bool Fs, .slice FA Fn Fc, .slice FB Fm Fd]) := HO0
 generalize (((W8.setCell ⟨w.heap.size + 1 + 1, 0, none⟩ (.bool Fs)).setCell ⟨w.heap.size + 1 + 1, 1, none⟩ (.slice FA Fn Fc)).setCell ⟨w.heap.size + 1 + 1, 2, none⟩ (.slice FB Fm Fd)) = W9 at HB HO0 R1 R2 R3 R4 R5 hbw ⊢
 refine hz_eff rfl (by kernel_rfl) (fun K hK => ?_)
 go_simp
 refine hK.out _ _ ?_ ?_
 · exact HB.out
 clear hK K
 (try (conv => arg 6; simp only [Act.put, gL]))
 refine hz_nil ?_
 go_wp2_with fail
 have kk0 := HO0.out.cell 0 _ rfl
 have kk1 := HO0.out.cell 1 _ rfl
 have kk2 := HO0.out.cell 2 _ rfl
 refine bodyPost_ret (v := .tuple #[.agg #[.bool Fs, .slice FA Fn Fc, .slice FB Fm Fd], .bool true]) (by simp [results, Try.results56, go_sem, kk0, kk1, kk2]) rfl ⟨_, rfl, hbw, ?_⟩
 exact ⟨_, rfl, HFI.out _ _ R5.out⟩
end Go.Proofs.Ytlaocmhcilhlbaa

/- frac.Make by 0; frac.Over, score.over, of counts. -/
namespace Go.Proofs.Ytlaocmhcilhlbaa
open Go.RowKit
def QOverSaid (w' : World) (v : Value) (n : Int) (d : Nat) : Prop := ∃ s A c k B e m, v = .tuple #[.agg #[.bool s, .slice A k c, .slice B m e], .bool (decide (d ≠ 0))] ∧ rQ w' (.agg #[.bool s, .slice A k c, .slice B m e]) (mkRat n d)
theorem QOverSaid.of_make {W : World} {v : Value} {n : Int} {d : Nat} (hd : d ≠ 0) (h : QMakeSaid W v n d) : QOverSaid W v n d := by
 obtain ⟨q, hv, h⟩ := h
 obtain ⟨s, A, c, k, B, e, m, rfl, h⟩ := h.shape
 exact ⟨s, A, c, k, B, e, m, by rw [hv, decide_eq_true hd], h⟩
set_option maxRecDepth 100000 in
set_option maxHeartbeats 2000000 in
/-- frac.Make, of a lower part 0 -/
theorem qmake0_c (w : World) (vn vd : Value) (n : Int) (ha : rInt w vn n) (hb : rInt w vd 0) :
  Calls Try.prog 56 #[vn, vd] w (Post w fun r w' => QOverSaid w' r n 0) := by
 obtain ⟨s1, A1, c1, n1, rfl, ha⟩ := ha.shape
 obtain ⟨s2, A2, c2, n2, rfl, hb⟩ := hb.shape
 have HS := Lib.hid (fun W h => sign_c W (.agg #[.bool s2, .slice A2 n2 c2]) 0 h (by unfold Fit; rw [Int.natAbs_zero, bl_zero]; omega))
 rw [show (0 : Int).sign = 0 from rfl] at HS
 have H1 := Lib.hid ha
 have H2 := Lib.hid hb
 have HB : Hid (Cells [(w.heap.size, 0, .bool s1), (w.heap.size, 1, .slice A1 n1 c1), (w.heap.size + 1, 0, .bool s2), (w.heap.size + 1, 1, .slice A2 n2 c2)] (((w.alloc (.cells #[.bool s1, .slice A1 n1 c1] 32)).alloc (.cells #[.bool s2, .slice A2 n2 c2] 32)).alloc (.cells #[.bool false, .slice none 0 0, .slice none 0 0] 34))) := Lib.hid (Cells.cons (by go_simp) (Cells.cons (by go_simp) (Cells.cons (by go_simp) (Cells.cons (by go_simp) (Cells.nil _)))))
 have HO0 := Lib.hid (Own.new' ((w.alloc (.cells #[.bool s1, .slice A1 n1 c1] 32)).alloc (.cells #[.bool s2, .slice A2 n2 c2] 32)) 34 [.bool false, .slice none 0 0, .slice none 0 0] (w.heap.size + 1 + 1) (by simp))
 have hbw : Below w.heap.size w (((w.alloc (.cells #[.bool s1, .slice A1 n1 c1] 32)).alloc (.cells #[.bool s2, .slice A2 n2 c2] 32)).alloc (.cells #[.bool false, .slice none 0 0, .slice none 0 0] 34)) := (by repeat (first | assumption | exact Below.refl _ _ | refine Below.drew ?_ | refine pw_below_drewN ?_ _ | refine Below.alloc ?_ (by first | omega | (simp <;> omega)) _ | refine Below.setCell ?_ (by first | omega | (simp <;> omega)) _ | refine Below.trans ?_ (Below.mono (by assumption) (by first | omega | (simp <;> omega)))))
 clear ha hb
 go_enter Try.func56, Try.ntmps56
 go_wp2_with fail
 generalize (((w.alloc (.cells #[.bool s1, .slice A1 n1 c1] 32)).alloc (.cells #[.bool s2, .slice A2 n2 c2] 32)).alloc (.cells #[.bool false, .slice none 0 0, .slice none 0 0] 34)) = W0 at HB HO0 hbw ⊢
 obtain ⟨y0, y1, y2, y3, _⟩ := id HB.out
 go_wp2_with fail
 clear y0 y1 y2 y3
 refine (HS.out _ (H2.out.ext hbw)).mono ?_
 rintro e W1 ⟨v1, rfl, hb1, rfl⟩
 replace HB := Lib.hid (HB.out.ext hb1)
 replace HO0 := Lib.hid (HO0.out.ext hb1)
 replace hbw := nT hbw hb1
 clear hb1
 have q0 := HO0.out.cell 0 _ rfl
 have f0 := HO0.out.frozen 0
 have q1 := HO0.out.cell 1 _ rfl
 have f1 := HO0.out.frozen 1
 have q2 := HO0.out.cell 2 _ rfl
 have f2 := HO0.out.frozen 2
 go_wp2_with fail
 replace HB := Lib.hid (HB.out.set (p := ⟨w.heap.size + 1 + 1, 0, none⟩) (.bool false) (by simp <;> omega))
 replace HO0 := Lib.hid (HO0.out.set 0 (.bool false))
 replace hbw := Below.setCell hbw (show w.heap.size ≤ (⟨w.heap.size + 1 + 1, 0, none⟩ : Addr).block by simp <;> omega) (.bool false)
 replace q1 := (World.cell?_setCell_other W1 ⟨w.heap.size + 1 + 1, 0, none⟩ ⟨w.heap.size + 1 + 1, 1, none⟩ (.bool false) (by simp)).trans q1
 replace q2 := (World.cell?_setCell_other W1 ⟨w.heap.size + 1 + 1, 0, none⟩ ⟨w.heap.size + 1 + 1, 2, none⟩ (.bool false) (by simp)).trans q2
 replace HB := Lib.hid (HB.out.set (p := ⟨w.heap.size + 1 + 1, 1, none⟩) (.slice none 0 0) (by simp <;> omega))
 replace HO0 := Lib.hid (HO0.out.set 1 (.slice none 0 0))
 replace hbw := Below.setCell hbw (show w.heap.size ≤ (⟨w.heap.size + 1 + 1, 1, none⟩ : Addr).block by simp <;> omega) (.slice none 0 0)
 replace q2 := (World.cell?_setCell_other (W1.setCell ⟨w.heap.size + 1 + 1, 0, none⟩ (.bool false)) ⟨w.heap.size + 1 + 1, 1, none⟩ ⟨w.heap.size + 1 + 1, 2, none⟩ (.slice none 0 0) (by simp)).trans q2
 replace HB := Lib.hid (HB.out.set (p := ⟨w.heap.size + 1 + 1, 2, none⟩) (.slice none 0 0) (by simp <;> omega))
 replace HO0 := Lib.hid (HO0.out.set 2 (.slice none 0 0))
 replace hbw := Below.setCell hbw (show w.heap.size ≤ (⟨w.heap.size + 1 + 1, 2, none⟩ : Addr).block by simp <;> omega) (.slice none 0 0)
 clear q0 f0 q1 f1 q2 f2
 replace HO0 : Hid (Own _ _ _ [.bool false, .slice none 0 0, .slice none 0 0]) := HO0
 generalize (((W1.setCell ⟨w.heap.size + 1 + 1, 0, none⟩ (.bool false)).setCell ⟨w.heap.size + 1 + 1, 1, none⟩ (.slice none 0 0)).setCell ⟨w.heap.size + 1 + 1, 2, none⟩ (.slice none 0 0)) = W2 at HB HO0 hbw ⊢
 have kk0 := HO0.out.cell 0 _ rfl
 have kk1 := HO0.out.cell 1 _ rfl
 have kk2 := HO0.out.cell 2 _ rfl
 refine bodyPost_ret (v := .tuple #[.agg #[.bool false, .slice none 0 0, .slice none 0 0], .bool false]) (by simp [results, Try.results56, go_sem, kk0, kk1, kk2]) rfl ⟨_, rfl, hbw, ?_⟩
 refine ⟨false, none, 0, 0, none, 0, 0, rfl, ?_⟩
 rw [show mkRat n 0 = 0 from by simp [mkRat]]
 exact rQd.mk (by exact ⟨_, rNat.zero _, rfl⟩) (rNat.zero _)
theorem qmakez_c (w : World) (vn vd : Value) (n : Int) (d : Nat) (ha : rInt w vn n) (hb : rInt w vd (d : Int)) (f1 : bl n.natAbs ≤ 35184372088600) (f2 : bl d ≤ 35184372088600) :
  Calls Try.prog 56 #[vn, vd] w (Post w fun r w' => QOverSaid w' r n d) := by
 rcases Nat.eq_zero_or_pos d with rfl | hd
 · exact qmake0_c w vn vd n ha (by simpa using hb)
 · exact (qmake_c w vn vd n d ha hb hd f1 f2).mono (fun _ _ h => h.map (fun _ _ h => QOverSaid.of_make (by omega) h))
set_option maxRecDepth 100000 in
set_option maxHeartbeats 2000000 in
/-- frac.Over, d not below 0 -/
theorem qover_c (w : World) (n : Int) (d : Nat) (hn : I64 n) (hd : d < 9223372036854775808) : Calls Try.prog 78 #[.int .i64 n, .int .i64 (d : Nat)] w (Post w fun r w' => QOverSaid w' r n d) := by
 have f1 : bl n.natAbs ≤ 35184372088600 := Nat.le_trans (bl_le_of_lt (k := 64) (by unfold I64 at hn; omega)) (by omega)
 have f2 : bl d ≤ 35184372088600 := Nat.le_trans (bl_le_of_lt (k := 64) (by omega)) (by omega)
 have HN := Lib.hid (fun W => iof_c W n hn.1 hn.2)
 have HD := Lib.hid (fun W => iof_c W (d : Int) (by omega) (by omega))
 have HM := Lib.hid (fun W v u h h' => qmakez_c W v u n d h h' f1 f2)
 clear f1 f2 hd hn
 have HB : Hid (Cells [] (w.alloc (.cells #[.bool false, .slice none 0 0, .slice none 0 0] 34))) := Lib.hid (Cells.nil _)
 have HO0 := Lib.hid (Own.new' w 34 [.bool false, .slice none 0 0, .slice none 0 0] (w.heap.size) (by simp))
 have hbw : Below w.heap.size w (w.alloc (.cells #[.bool false, .slice none 0 0, .slice none 0 0] 34)) := (by repeat (first | assumption | exact Below.refl _ _ | refine Below.drew ?_ | refine pw_below_drewN ?_ _ | refine Below.alloc ?_ (by first | omega | (simp <;> omega)) _ | refine Below.setCell ?_ (by first | omega | (simp <;> omega)) _ | refine Below.trans ?_ (Below.mono (by assumption) (by first | omega | (simp <;> omega)))))
 go_enter Try.func78, Try.ntmps78
 go_wp2_with fail
 generalize (w.alloc (.cells #[.bool false, .slice none 0 0, .slice none 0 0] 34)) = W0 at HB HO0 hbw ⊢
 refine (HN.out _).mono ?_
 rintro e W1 ⟨v1, rfl, hb1, hr1⟩
 obtain ⟨Es, EA, Ec, En, rfl, hr1⟩ := hr1.shape
 replace HB := Lib.hid (HB.out.ext hb1)
 replace HO0 := Lib.hid (HO0.out.ext hb1)
 replace hbw := nT hbw hb1
 have R1 := Lib.hid hr1
 clear hr1
 clear hb1
 go_wp2_with fail
 refine (HD.out _).mono ?_
 rintro e W2 ⟨v1, rfl, hb1, hr1⟩
 obtain ⟨Fs, FA, Fc, Fn, rfl, hr1⟩ := hr1.shape
 replace HB := Lib.hid (HB.out.ext hb1)
 replace HO0 := Lib.hid (HO0.out.ext hb1)
 replace R1 := Lib.hid (R1.out.ext hb1)
 replace hbw := nT hbw hb1
 have R2 := Lib.hid hr1
 clear hr1
 clear hb1
 go_wp2_with fail
 refine (HM.out _ _ _ R1.out R2.out).mono ?_
 rintro e W3 ⟨v1, rfl, hb1, s1, A1, c1, n1, B1, k1, m1, rfl, hr1⟩
 replace HB := Lib.hid (HB.out.ext hb1)
 replace HO0 := Lib.hid (HO0.out.ext hb1)
 replace R1 := Lib.hid (R1.out.ext hb1)
 replace R2 := Lib.hid (R2.out.ext hb1)
 replace hbw := nT hbw hb1
 have R3 := Lib.hid hr1
 clear hr1
 clear hb1
 have q0 := HO0.out.cell 0 _ rfl
 have f0 := HO0.out.frozen 0
 have q1 := HO0.out.cell 1 _ rfl
 have f1 := HO0.out.frozen 1
 have q2 := HO0.out.cell 2 _ rfl
 have f2 := HO0.out.frozen 2
 go_wp2_with fail
 replace HB := Lib.hid (HB.out.set (p := ⟨w.heap.size, 0, none⟩) (.bool s1) (by simp <;> omega))
 replace HO0 := Lib.hid (HO0.out.set 0 (.bool s1))
 replace R1 := Lib.hid (R1.out.set (x := .bool s1) q0 rfl)
 replace R2 := Lib.hid (R2.out.set (x := .bool s1) q0 rfl)
 replace R3 := Lib.hid (R3.out.set (x := .bool s1) q0 rfl)
 replace hbw := Below.setCell hbw (show w.heap.size ≤ (⟨w.heap.size, 0, none⟩ : Addr).block by simp <;> omega) (.bool s1)
 replace q1 := (World.cell?_setCell_other W3 ⟨w.heap.size, 0, none⟩ ⟨w.heap.size, 1, none⟩ (.bool s1) (by simp)).trans q1
 replace q2 := (World.cell?_setCell_other W3 ⟨w.heap.size, 0, none⟩ ⟨w.heap.size, 2, none⟩ (.bool s1) (by simp)).trans q2
 replace HB := Lib.hid (HB.out.set (p := ⟨w.heap.size, 1, none⟩) (.slice A1 n1 c1) (by simp <;> omega))
 replace HO0 := Lib.hid (HO0.out.set 1 (.slice A1 n1 c1))
 replace R1 := Lib.hid (R1.out.set (x := .slice A1 n1 c1) q1 rfl)
 replace R2 := Lib.hid (R2.out.set (x := .slice A1 n1 c1) q1 rfl)
 replace R3 := Lib.hid (R3.out.set (x := .slice A1 n1 c1) q1 rfl)
 replace hbw := Below.setCell hbw (show w.heap.size ≤ (⟨w.heap.size, 1, none⟩ : Addr).block by simp <;> omega) (.slice A1 n1 c1)
 replace q2 := (World.cell?_setCell_other (W3.setCell ⟨w.heap.size, 0, none⟩ (.bool s1)) ⟨w.heap.size, 1, none⟩ ⟨w.heap.size, 2, none⟩ (.slice A1 n1 c1) (by simp)).trans q2
 replace HB := Lib.hid (HB.out.set (p := ⟨w.heap.size, 2, none⟩) (.slice B1 m1 k1) (by simp <;> omega))
 replace HO0 := Lib.hid (HO0.out.set 2 (.slice B1 m1 k1))
 replace R1 := Lib.hid (R1.out.set (x := .slice B1 m1 k1) q2 rfl)
 replace R2 := Lib.hid (R2.out.set (x := .slice B1 m1 k1) q2 rfl)
 replace R3 := Lib.hid (R3.out.set (x := .slice B1 m1 k1) q2 rfl)
 replace hbw := Below.setCell hbw (show w.heap.size ≤ (⟨w.heap.size, 2, none⟩ : Addr).block by simp <;> omega) (.slice B1 m1 k1)
 clear q0 f0 q1 f1 q2 f2
 replace HO0 : Hid (Own _ _ _ [.bool s1, .slice A1 n1 c1, .slice B1 m1 k1]) := HO0
 generalize (((W3.setCell ⟨w.heap.size, 0, none⟩ (.bool s1)).setCell ⟨w.heap.size, 1, none⟩ (.slice A1 n1 c1)).setCell ⟨w.heap.size, 2, none⟩ (.slice B1 m1 k1)) = W4 at HB HO0 R1 R2 R3 hbw ⊢
 have kk0 := HO0.out.cell 0 _ rfl
 have kk1 := HO0.out.cell 1 _ rfl
 have kk2 := HO0.out.cell 2 _ rfl
 refine bodyPost_ret (v := .tuple #[.agg #[.bool s1, .slice A1 n1 c1, .slice B1 m1 k1], .bool (decide (d ≠ 0))]) (by simp [results, Try.results78, go_sem, kk0, kk1, kk2]) rfl ⟨_, rfl, hbw, ?_⟩
 exact ⟨_, _, _, _, _, _, _, rfl, R3.out⟩
set_option maxRecDepth 100000 in
set_option maxHeartbeats 2000000 in
/-- score.over, d not below 0 -/
theorem over_c (w : World) (n : Int) (d : Nat) (hn : I64 n) (hd : d < 9223372036854775808) : Calls Try.prog 48 #[.int .i64 n, .int .i64 (d : Nat)] w (Post w fun r w' => rQ w' r (mkRat n d)) := by
 have HO := Lib.hid (fun W => qover_c W n d hn hd)
 clear hd hn
 have HB : Hid (Cells [] (w.alloc (.cells #[.bool false, .slice none 0 0, .slice none 0 0] 34))) := Lib.hid (Cells.nil _)
 have HO0 := Lib.hid (Own.new' w 34 [.bool false, .slice none 0 0, .slice none 0 0] (w.heap.size) (by simp))
 have hbw : Below w.heap.size w (w.alloc (.cells #[.bool false, .slice none 0 0, .slice none 0 0] 34)) := (by repeat (first | assumption | exact Below.refl _ _ | refine Below.drew ?_ | refine pw_below_drewN ?_ _ | refine Below.alloc ?_ (by first | omega | (simp <;> omega)) _ | refine Below.setCell ?_ (by first | omega | (simp <;> omega)) _ | refine Below.trans ?_ (Below.mono (by assumption) (by first | omega | (simp <;> omega)))))
 go_enter Try.func48, Try.ntmps48
 go_wp2_with fail
 generalize (w.alloc (.cells #[.bool false, .slice none 0 0, .slice none 0 0] 34)) = W0 at HB HO0 hbw ⊢
 refine (HO.out _).mono ?_
 rintro e W1 ⟨v1, rfl, hb1, s1, A1, c1, n1, B1, k1, m1, rfl, hr1⟩
 replace HB := Lib.hid (HB.out.ext hb1)
 replace HO0 := Lib.hid (HO0.out.ext hb1)
 replace hbw := nT hbw hb1
 have R3 := Lib.hid hr1
 clear hr1
 clear hb1
 go_upto_region 2 with (fail)
 have z_H5 := hbw.size
 have z_H5_HO0 := HO0.out.lt
 replace HB := Lib.hid (HB.out.alloc (.cells #[.bool s1, .slice A1 n1 c1, .slice B1 m1 k1] 34))
 replace HO0 := Lib.hid (HO0.out.alloc (.cells #[.bool s1, .slice A1 n1 c1, .slice B1 m1 k1] 34))
 replace R3 := Lib.hid (R3.out.alloc (.cells #[.bool s1, .slice A1 n1 c1, .slice B1 m1 k1] 34))
 replace hbw := Below.alloc hbw hbw.size (.cells #[.bool s1, .slice A1 n1 c1, .slice B1 m1 k1] 34)
 have H5 := Lib.hid (Own.new' W1 34 [.bool s1, .slice A1 n1 c1, .slice B1 m1 k1] W1.heap.size rfl)
 obtain ⟨bH5, e_H5⟩ : ∃ b, W1.heap.size = b := ⟨_, rfl⟩
 simp only [e_H5] at H5 z_H5 z_H5_HO0 ⊢
 generalize (W1.alloc (.cells #[.bool s1, .slice A1 n1 c1, .slice B1 m1 k1] 34)) = W2 at HB HO0 R3 H5 hbw ⊢
 have x_H5_0 := H5.out.cell 0 _ rfl
 have f_H5_0 := H5.out.frozen 0
 have x_H5_1 := H5.out.cell 1 _ rfl
 have f_H5_1 := H5.out.frozen 1
 have x_H5_2 := H5.out.cell 2 _ rfl
 have f_H5_2 := H5.out.frozen 2
 have q0 := HO0.out.cell 0 _ rfl
 have f0 := HO0.out.frozen 0
 have q1 := HO0.out.cell 1 _ rfl
 have f1 := HO0.out.frozen 1
 have q2 := HO0.out.cell 2 _ rfl
 have f2 := HO0.out.frozen 2
 go_wp2_with fail
 replace HB := Lib.hid (HB.out.set (p := ⟨w.heap.size, 0, none⟩) (.bool s1) (by simp <;> omega))
 replace HO0 := Lib.hid (HO0.out.set 0 (.bool s1))
 replace R3 := Lib.hid (R3.out.set (x := .bool s1) q0 rfl)
 replace H5 := Lib.hid (H5.out.other (p := ⟨w.heap.size, 0, none⟩) (.bool s1) (by simp <;> omega))
 replace hbw := Below.setCell hbw (show w.heap.size ≤ (⟨w.heap.size, 0, none⟩ : Addr).block by simp <;> omega) (.bool s1)
 replace q1 := (World.cell?_setCell_other W2 ⟨w.heap.size, 0, none⟩ ⟨w.heap.size, 1, none⟩ (.bool s1) (by simp)).trans q1
 replace q2 := (World.cell?_setCell_other W2 ⟨w.heap.size, 0, none⟩ ⟨w.heap.size, 2, none⟩ (.bool s1) (by simp)).trans q2
 replace HB := Lib.hid (HB.out.set (p := ⟨w.heap.size, 1, none⟩) (.slice A1 n1 c1) (by simp <;> omega))
 replace HO0 := Lib.hid (HO0.out.set 1 (.slice A1 n1 c1))
 replace R3 := Lib.hid (R3.out.set (x := .slice A1 n1 c1) q1 rfl)
 replace H5 := Lib.hid (H5.out.other (p := ⟨w.heap.size, 1, none⟩) (.slice A1 n1 c1) (by simp <;> omega))
 replace hbw := Below.setCell hbw (show w.heap.size ≤ (⟨w.heap.size, 1, none⟩ : Addr).block by simp <;> omega) (.slice A1 n1 c1)
 replace q2 := (World.cell?_setCell_other (W2.setCell ⟨w.heap.size, 0, none⟩ (.bool s1)) ⟨w.heap.size, 1, none⟩ ⟨w.heap.size, 2, none⟩ (.slice A1 n1 c1) (by simp)).trans q2
 replace HB := Lib.hid (HB.out.set (p := ⟨w.heap.size, 2, none⟩) (.slice B1 m1 k1) (by simp <;> omega))
 replace HO0 := Lib.hid (HO0.out.set 2 (.slice B1 m1 k1))
 replace R3 := Lib.hid (R3.out.set (x := .slice B1 m1 k1) q2 rfl)
 replace H5 := Lib.hid (H5.out.other (p := ⟨w.heap.size, 2, none⟩) (.slice B1 m1 k1) (by simp <;> omega))
 replace hbw := Below.setCell hbw (show w.heap.size ≤ (⟨w.heap.size, 2, none⟩ : Addr).block by simp <;> omega) (.slice B1 m1 k1)
 clear q0 f0 q1 f1 q2 f2
 replace HO0 : Hid (Own _ _ _ [.bool s1, .slice A1 n1 c1, .slice B1 m1 k1]) := HO0
 generalize (((W2.setCell ⟨w.heap.size, 0, none⟩ (.bool s1)).setCell ⟨w.heap.size, 1, none⟩ (.slice A1 n1 c1)).setCell ⟨w.heap.size, 2, none⟩ (.slice B1 m1 k1)) = W3 at HB HO0 R3 H5 hbw ⊢
 have kk0 := HO0.out.cell 0 _ rfl
 have kk1 := HO0.out.cell 1 _ rfl
 have kk2 := HO0.out.cell 2 _ rfl
 refine bodyPost_ret (v := .agg #[.bool s1, .slice A1 n1 c1, .slice B1 m1 k1]) (by simp [results, Try.results48, go_sem, kk0, kk1, kk2]) rfl ⟨_, rfl, hbw, ?_⟩
 exact R3.out
end Go.Proofs.Ytlaocmhcilhlbaa

/- What Div says, opened; stores beside a number. -/
namespace Go.Proofs.Ytlaocmhcilhlbaa
open Go.RowKit
theorem qb_zero : qb 0 = 1 := rfl
theorem QDivSaid.open {W : World} {v : Value} {a b : Rat} (h : QDivSaid W v a b) : ∃ s A c n B k m, v = .tuple #[.agg #[.bool s, .slice A n c, .slice B m k], .bool (decide (b ≠ 0))] ∧ rQ W (.agg #[.bool s, .slice A n c, .slice B m k]) (a / b) := by
 obtain ⟨q, hv, h⟩ := h
 obtain ⟨s, A, c, n, B, k, m, rfl, h⟩ := h.shape
 exact ⟨s, A, c, n, B, k, m, hv, h⟩
theorem sets3 {W : World} {b i : Nat} {v0 v1 v2 x0 x1 x2 : Value} (h0 : W.cell? ⟨b, i, none⟩ = some v0) (h1 : W.cell? ⟨b, i + 1, none⟩ = some v1) (h2 : W.cell? ⟨b, i + 2, none⟩ = some v2) (n0 : noInt v0 = true) (n1 : noInt v1 = true) (n2 : noInt v2 = true)
  {v : Value} {q : Rat} (h : rQ W v q) : rQ (((W.setCell ⟨b, i, none⟩ x0).setCell ⟨b, i + 1, none⟩ x1).setCell ⟨b, i + 2, none⟩ x2) v q := by
 have e1 := (World.cell?_setCell_other W ⟨b, i, none⟩ ⟨b, i + 1, none⟩ x0 (by simp)).trans h1
 have e2 := (World.cell?_setCell_other W ⟨b, i, none⟩ ⟨b, i + 2, none⟩ x0 (by simp)).trans h2
 have e3 := (World.cell?_setCell_other (W.setCell ⟨b, i, none⟩ x0) ⟨b, i + 1, none⟩ ⟨b, i + 2, none⟩ x1 (by simp)).trans e2
 exact ((h.set h0 n0).set e1 n1).set e3 n2
end Go.Proofs.Ytlaocmhcilhlbaa
