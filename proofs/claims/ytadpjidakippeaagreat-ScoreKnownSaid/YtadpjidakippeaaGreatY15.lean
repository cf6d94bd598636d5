/- frac.Sub, Div, Make. -/
import Derived.Test.YtadpjidakippeaaGreatY13
import Derived.Test.YtadpjidakippeaaGreatY14
set_option linter.unusedVariables false
set_option linter.unusedSimpArgs false
namespace Go.Proofs.YtadpjidakippeaaGreat
open Go.RowKit
set_option maxRecDepth 100000 in
set_option maxHeartbeats 2000000 in
/-- frac.Sub -/
theorem qsub_c (w : World) (va vb : Value) (a b : Rat) (ha : rQ w va a) (hb : rQ w vb b) (hf : qb a + qb b ≤ 35184372088600) : Calls Tryz.prog 44 #[va, vb] w (Post w fun r w' => rQ w' r (a - b)) := by
 obtain ⟨s1, A1, c1, n1, B1, k1, m1, rfl, ha⟩ := ha.shape
 obtain ⟨s2, A2, c2, n2, B2, k2, m2, rfl, hb⟩ := hb.shape
 have HN := Lib.hid (fun W h => qneg_c W (.agg #[.bool s2, .slice A2 n2 c2, .slice B2 m2 k2]) b h (by have := qb_num b; unfold Fit; omega))
 have HA := Lib.hid (fun W u h h' => qadd_c W (.agg #[.bool s1, .slice A1 n1 c1, .slice B1 m1 k1]) u a (-b) h h' (by rw [qb_neg]; exact hf))
 rw [← Rat.sub_eq_add_neg] at HA
 have H1 := Lib.hid ha
 have H2 := Lib.hid hb
 have HB : Hid (Cells [(w.heap.size, 0, .bool s1), (w.heap.size, 1, .slice A1 n1 c1), (w.heap.size, 2, .slice B1 m1 k1), (w.heap.size + 1, 0, .bool s2), (w.heap.size + 1, 1, .slice A2 n2 c2), (w.heap.size + 1, 2, .slice B2 m2 k2)] (((w.alloc (.cells #[.bool s1, .slice A1 n1 c1, .slice B1 m1 k1] 32)).alloc (.cells #[.bool s2, .slice A2 n2 c2, .slice B2 m2 k2] 32)).alloc (.cells #[.bool false, .slice none 0 0, .slice none 0 0] 32))) := Lib.hid (Cells.cons (by go_simp) (Cells.cons (by go_simp) (Cells.cons (by go_simp) (Cells.cons (by go_simp) (Cells.cons (by go_simp) (Cells.cons (by go_simp) (Cells.nil _)))))))
 have HO0 := Lib.hid (Own.new' ((w.alloc (.cells #[.bool s1, .slice A1 n1 c1, .slice B1 m1 k1] 32)).alloc (.cells #[.bool s2, .slice A2 n2 c2, .slice B2 m2 k2] 32)) 32 [.bool false, .slice none 0 0, .slice none 0 0] (w.heap.size + 1 + 1) (by simp))
 have hbw : Below w.heap.size w (((w.alloc (.cells #[.bool s1, .slice A1 n1 c1, .slice B1 m1 k1] 32)).alloc (.cells #[.bool s2, .slice A2 n2 c2, .slice B2 m2 k2] 32)).alloc (.cells #[.bool false, .slice none 0 0, .slice none 0 0] 32)) := (by repeat (first | assumption | exact nB1 _ _ | refine nB2 ?_ | refine pw_below_drewN ?_ _ | refine nB3 ?_ (by first | omega | (simp <;> omega)) _ | refine nB4 ?_ (by first | omega | (simp <;> omega)) _ | refine nB5 ?_ (by assumption) (by first | omega | (simp <;> omega))))
 clear ha hb hf
 go_enter Tryz.func44, Tryz.ntmps44
 go_wp2_with fail
 generalize (((w.alloc (.cells #[.bool s1, .slice A1 n1 c1, .slice B1 m1 k1] 32)).alloc (.cells #[.bool s2, .slice A2 n2 c2, .slice B2 m2 k2] 32)).alloc (.cells #[.bool false, .slice none 0 0, .slice none 0 0] 32)) = W0 at HB HO0 hbw ⊢
 replace HB := Lib.hid (HB.out.drew)
 replace HO0 := Lib.hid (HO0.out.drew)
 replace hbw := Below.drew hbw
 refine wp_hoist [(0, true), (1, true), (2, false), (3, false), (4, false)] (Cells [(w.heap.size, 0, .bool s1), (w.heap.size, 1, .slice A1 n1 c1), (w.heap.size, 2, .slice B1 m1 k1), (w.heap.size + 1, 0, .bool s2), (w.heap.size + 1, 1, .slice A2 n2 c2), (w.heap.size + 1, 2, .slice B2 m2 k2)]) (by kernel_rfl) (by kernel_rfl) ?_ ?_
 · exact HB.out
 generalize W0.drew = W1 at HB HO0 hbw ⊢
 refine hz_yes (v := ?_) rfl (by kernel_rfl) (fun W hW => ?_) ?_; rotate_left; (obtain ⟨y0, y1, y2, y3, y4, y5, _⟩ := hW; go_simp; try with_reducible rfl)
 (try (conv => arg 6; simp only [Act.put, gL]))
 refine hz_yes (v := ?_) rfl (by kernel_rfl) (fun W hW => ?_) ?_; rotate_left; (obtain ⟨y0, y1, y2, y3, y4, y5, _⟩ := hW; go_simp; try with_reducible rfl)
 (try (conv => arg 6; simp only [Act.put, gL]))
 refine hz_eff rfl (by kernel_rfl) (fun K hK => ?_)
 refine wp_call (HN.out _ (H2.out.ext hbw)) (by kernel_rfl) ?_
 rintro v1 W2 hb1 hr1
 obtain ⟨Es, EA, Ec, En, EB, Ed, Em, rfl, hr1⟩ := hr1.shape
 refine hK.out _ _ ?_ ?_
 · exact HB.out.ext hb1
 clear hK K
 (try (conv => arg 6; simp only [Act.put, gL]))
 replace HB := Lib.hid (HB.out.ext hb1)
 replace HO0 := Lib.hid (HO0.out.ext hb1)
 replace hbw := nT hbw hb1
 have R1 := Lib.hid hr1
 clear hr1
 clear hb1
 refine hz_eff rfl (by kernel_rfl) (fun K hK => ?_)
 refine wp_call (HA.out _ _ (H1.out.ext hbw) R1.out) (by kernel_rfl) ?_
 rintro v1 W3 hb1 hr1
 obtain ⟨Fs, FA, Fc, Fn, FB, Fd, Fm, rfl, hr1⟩ := hr1.shape
 refine hK.out _ _ ?_ ?_
 · exact HB.out.ext hb1
 clear hK K
 (try (conv => arg 6; simp only [Act.put, gL]))
 replace HB := Lib.hid (HB.out.ext hb1)
 replace HO0 := Lib.hid (HO0.out.ext hb1)
 replace R1 := Lib.hid (R1.out.ext hb1)
 replace hbw := nT hbw hb1
 have R2 := Lib.hid hr1
 clear hr1
 clear hb1
 have q0 := HO0.out.cell 0 _ rfl
 have f0 := HO0.out.frozen 0
 have q1 := HO0.out.cell 1 _ rfl
 have f1 := HO0.out.frozen 1
 have q2 := HO0.out.cell 2 _ rfl
 have f2 := HO0.out.frozen 2
 refine hz_eff rfl (by kernel_rfl) (fun K hK => ?_)
 go_simp
 refine hK.out _ _ ?_ ?_
 · exact (((HB.out.set (p := ⟨w.heap.size + 1 + 1, 0, none⟩) _ (by simp <;> omega)).set (p := ⟨w.heap.size + 1 + 1, 1, none⟩) _ (by simp <;> omega)).set (p := ⟨w.heap.size + 1 + 1, 2, none⟩) _ (by simp <;> omega))
 clear hK K
 (try (conv => arg 6; simp only [Act.put, gL]))
 replace HB := Lib.hid (HB.out.set (p := ⟨w.heap.size + 1 + 1, 0, none⟩) (.bool Fs) (by simp <;> omega))
 replace HO0 := Lib.hid (HO0.out.set 0 (.bool Fs))
 replace R1 := Lib.hid (R1.out.set (x := .bool Fs) q0 rfl)
 replace R2 := Lib.hid (R2.out.set (x := .bool Fs) q0 rfl)
 replace hbw := nB4 hbw (show w.heap.size ≤ (⟨w.heap.size + 1 + 1, 0, none⟩ : Addr).block by simp <;> omega) (.bool Fs)
 replace q1 := (nC W3 ⟨w.heap.size + 1 + 1, 0, none⟩ ⟨w.heap.size + 1 + 1, 1, none⟩ (.bool Fs) (by simp)).trans q1
 replace q2 := (nC W3 ⟨w.heap.size + 1 + 1, 0, none⟩ ⟨w.heap.size + 1 + 1, 2, none⟩ (.bool Fs) (by simp)).trans q2
 replace HB := Lib.hid (HB.out.set (p := ⟨w.heap.size + 1 + 1, 1, none⟩) (.slice FA Fn Fc) (by simp <;> omega))
 replace HO0 := Lib.hid (HO0.out.set 1 (.slice FA Fn Fc))
 replace R1 := Lib.hid (R1.out.set (x := .slice FA Fn Fc) q1 rfl)
 replace R2 := Lib.hid (R2.out.set (x := .slice FA Fn Fc) q1 rfl)
 replace hbw := nB4 hbw (show w.heap.size ≤ (⟨w.heap.size + 1 + 1, 1, none⟩ : Addr).block by simp <;> omega) (.slice FA Fn Fc)
 replace q2 := (nC (W3.setCell ⟨w.heap.size + 1 + 1, 0, none⟩ (.bool Fs)) ⟨w.heap.size + 1 + 1, 1, none⟩ ⟨w.heap.size + 1 + 1, 2, none⟩ (.slice FA Fn Fc) (by simp)).trans q2
 replace HB := Lib.hid (HB.out.set (p := ⟨w.heap.size + 1 + 1, 2, none⟩) (.slice FB Fm Fd) (by simp <;> omega))
 replace HO0 := Lib.hid (HO0.out.set 2 (.slice FB Fm Fd))
 replace R1 := Lib.hid (R1.out.set (x := .slice FB Fm Fd) q2 rfl)
 replace R2 := Lib.hid (R2.out.set (x := .slice FB Fm Fd) q2 rfl)
 replace hbw := nB4 hbw (show w.heap.size ≤ (⟨w.heap.size + 1 + 1, 2, none⟩ : Addr).block by simp <;> omega) (.slice FB Fm Fd)
 clear q0 f0 q1 f1 q2 f2
 replace HO0 : Hid (Own _ _ _ [.bool Fs, .slice FA Fn Fc, .slice FB Fm Fd]) := HO0
 generalize (((W3.setCell ⟨w.heap.size + 1 + 1, 0, none⟩ (.bool Fs)).setCell ⟨w.heap.size + 1 + 1, 1, none⟩ (.slice FA Fn Fc)).setCell ⟨w.heap.size + 1 + 1, 2, none⟩ (.slice FB Fm Fd)) = W4 at HB HO0 R1 R2 hbw ⊢
 refine hz_nil ?_
 go_wp2_with fail
 have kk0 := HO0.out.cell 0 _ rfl
 have kk1 := HO0.out.cell 1 _ rfl
 have kk2 := HO0.out.cell 2 _ rfl
 refine bodyPost_ret (v := .agg #[.bool Fs, .slice FA Fn Fc, .slice FB Fm Fd]) (by simp [results, Tryz.results44, go_sem, kk0, kk1, kk2]) rfl ⟨_, rfl, hbw, ?_⟩
 exact R2.out
def QDivSaid (w' : World) (v : Value) (a b : Rat) : Prop := ∃ q, v = .tuple #[q, .bool (decide (b ≠ 0))] ∧ rQ w' q (a / b)
theorem qb_lowinv (b : Rat) (W : World) (v : Value) (h : b ≠ 0) (hv : rQd W v (sg (decide (b.num.sign < 0)) b.den) b.num.natAbs) : rQ W v b⁻¹ := by
 unfold rQ
 have hn : b.num ≠ 0 := by rw [ne_eq, Rat.num_eq_zero]; exact h
 rw [Rat.num_inv, Rat.den_inv, if_neg hn]
 have e : sg (decide (b.num.sign < 0)) b.den = b.num.sign * b.den := by
  unfold sg
  rcases Int.lt_trichotomy b.num 0 with h | h | h
  · simp [Int.sign_eq_neg_one_of_neg h]
  · exact absurd h hn
  · simp [Int.sign_eq_one_of_pos h]
 rw [← e]
 exact hv
set_option maxRecDepth 100000 in
set_option maxHeartbeats 2000000 in
/-- frac.Div -/
theorem qdiv_c (w : World) (va vb : Value) (a b : Rat) (ha : rQ w va a) (hb : rQ w vb b) (hf : qb a + qb b ≤ 35184372088600) : Calls Tryz.prog 37 #[va, vb] w (Post w fun r w' => QDivSaid w' r a b) := by
 obtain ⟨s1, A1, c1, n1, B1, k1, m1, rfl, ha⟩ := ha.shape
 obtain ⟨s2, A2, c2, n2, B2, k2, m2, rfl, hb⟩ := hb.shape
 have f2 := qb_num b
 have f4 := qb_den b
 have HS := Lib.hid (fun W h => qsign_c W (.agg #[.bool s2, .slice A2 n2 c2, .slice B2 m2 k2]) b h (by unfold Fit; omega))
 have HD := Lib.hid (fun W h => qden_c W (.agg #[.bool s2, .slice A2 n2 c2, .slice B2 m2 k2]) b h (by unfold Fit; omega))
 have HF := Lib.hid (fun W v h => from_c W (decide (b.num.sign < 0)) v b.den h (by unfold Fit; omega))
 have HB := Lib.hid (fun W h => abs_c W (.agg #[.bool s2, .slice A2 n2 c2]) b.num h)
 have HL := Lib.hid (fun W v u h h' => low_c W v u (sg (decide (b.num.sign < 0)) b.den) b.num.natAbs h h' (by unfold Fit; omega))
 have HM := Lib.hid (fun W u h h' => qmul_c W (.agg #[.bool s1, .slice A1 n1 c1, .slice B1 m1 k1]) u a b⁻¹ h h' (by have := qb_inv b; omega))
 rw [← Rat.div_def] at HM
 have HI := Lib.hid (fun W v h hv => qb_lowinv b W v h hv)
 have hz : b.num.sign = 0 ↔ b = 0 := by rw [Int.sign_eq_zero_iff_zero, Rat.num_eq_zero]
 obtain ⟨t, et⟩ : ∃ t, b.num.sign = t := ⟨_, rfl⟩
 rw [et] at HS HF HL HI hz
 have H1 := Lib.hid ha
 have H2 := Lib.hid hb
 have HZ := Lib.hid hz
 have HAB := HB
 clear HB
 have HB : Hid (Cells [(w.heap.size, 0, .bool s1), (w.heap.size, 1, .slice A1 n1 c1), (w.heap.size, 2, .slice B1 m1 k1), (w.heap.size + 1, 0, .bool s2), (w.heap.size + 1, 1, .slice A2 n2 c2), (w.heap.size + 1, 2, .slice B2 m2 k2)] (((w.alloc (.cells #[.bool s1, .slice A1 n1 c1, .slice B1 m1 k1] 32)).alloc (.cells #[.bool s2, .slice A2 n2 c2, .slice B2 m2 k2] 32)).alloc (.cells #[.bool false, .slice none 0 0, .slice none 0 0] 32))) := Lib.hid (Cells.cons (by go_simp) (Cells.cons (by go_simp) (Cells.cons (by go_simp) (Cells.cons (by go_simp) (Cells.cons (by go_simp) (Cells.cons (by go_simp) (Cells.nil _)))))))
 have HO0 := Lib.hid (Own.new' ((w.alloc (.cells #[.bool s1, .slice A1 n1 c1, .slice B1 m1 k1] 32)).alloc (.cells #[.bool s2, .slice A2 n2 c2, .slice B2 m2 k2] 32)) 32 [.bool false, .slice none 0 0, .slice none 0 0] (w.heap.size + 1 + 1) (by simp))
 have hbw : Below w.heap.size w (((w.alloc (.cells #[.bool s1, .slice A1 n1 c1, .slice B1 m1 k1] 32)).alloc (.cells #[.bool s2, .slice A2 n2 c2, .slice B2 m2 k2] 32)).alloc (.cells #[.bool false, .slice none 0 0, .slice none 0 0] 32)) := (by repeat (first | assumption | exact nB1 _ _ | refine nB2 ?_ | refine pw_below_drewN ?_ _ | refine nB3 ?_ (by first | omega | (simp <;> omega)) _ | refine nB4 ?_ (by first | omega | (simp <;> omega)) _ | refine nB5 ?_ (by assumption) (by first | omega | (simp <;> omega))))
 clear ha hb hf f2 f4 et hz
 go_enter Tryz.func37, Tryz.ntmps37
 go_wp2_with fail
 generalize (((w.alloc (.cells #[.bool s1, .slice A1 n1 c1, .slice B1 m1 k1] 32)).alloc (.cells #[.bool s2, .slice A2 n2 c2, .slice B2 m2 k2] 32)).alloc (.cells #[.bool false, .slice none 0 0, .slice none 0 0] 32)) = W0 at HB HO0 hbw ⊢
 obtain ⟨y0, y1, y2, y3, y4, y5, _⟩ := id HB.out
 go_wp2_with fail
 clear y0 y1 y2 y3 y4 y5
 refine (HS.out _ (H2.out.ext hbw)).mono ?_
 rintro e W1 ⟨v1, rfl, hb1, rfl⟩
 replace HB := Lib.hid (HB.out.ext hb1)
 replace HO0 := Lib.hid (HO0.out.ext hb1)
 replace hbw := nT hbw hb1
 clear hb1
 by_cases h0 : t = 0
 ·
  have hb0 := HZ.out.1 h0
  subst h0
  have HB0 := Lib.hid hb0
  clear hb0
  have q0 := HO0.out.cell 0 _ rfl
  have f0 := HO0.out.frozen 0
  have q1 := HO0.out.cell 1 _ rfl
  have f1 := HO0.out.frozen 1
  have q2 := HO0.out.cell 2 _ rfl
  have f2 := HO0.out.frozen 2
  go_wp2_with fail
  replace HB := Lib.hid (HB.out.set (p := ⟨w.heap.size + 1 + 1, 0, none⟩) (.bool false) (by simp <;> omega))
  replace HO0 := Lib.hid (HO0.out.set 0 (.bool false))
  replace hbw := nB4 hbw (show w.heap.size ≤ (⟨w.heap.size + 1 + 1, 0, none⟩ : Addr).block by simp <;> omega) (.bool false)
  replace q1 := (nC W1 ⟨w.heap.size + 1 + 1, 0, none⟩ ⟨w.heap.size + 1 + 1, 1, none⟩ (.bool false) (by simp)).trans q1
  replace q2 := (nC W1 ⟨w.heap.size + 1 + 1, 0, none⟩ ⟨w.heap.size + 1 + 1, 2, none⟩ (.bool false) (by simp)).trans q2
  replace HB := Lib.hid (HB.out.set (p := ⟨w.heap.size + 1 + 1, 1, none⟩) (.slice none 0 0) (by simp <;> omega))
  replace HO0 := Lib.hid (HO0.out.set 1 (.slice none 0 0))
  replace hbw := nB4 hbw (show w.heap.size ≤ (⟨w.heap.size + 1 + 1, 1, none⟩ : Addr).block by simp <;> omega) (.slice none 0 0)
  replace q2 := (nC (W1.setCell ⟨w.heap.size + 1 + 1, 0, none⟩ (.bool false)) ⟨w.heap.size + 1 + 1, 1, none⟩ ⟨w.heap.size + 1 + 1, 2, none⟩ (.slice none 0 0) (by simp)).trans q2
  replace HB := Lib.hid (HB.out.set (p := ⟨w.heap.size + 1 + 1, 2, none⟩) (.slice none 0 0) (by simp <;> omega))
  replace HO0 := Lib.hid (HO0.out.set 2 (.slice none 0 0))
  replace hbw := nB4 hbw (show w.heap.size ≤ (⟨w.heap.size + 1 + 1, 2, none⟩ : Addr).block by simp <;> omega) (.slice none 0 0)
  clear q0 f0 q1 f1 q2 f2
  replace HO0 : Hid (Own _ _ _ [.bool false, .slice none 0 0, .slice none 0 0]) := HO0
  generalize (((W1.setCell ⟨w.heap.size + 1 + 1, 0, none⟩ (.bool false)).setCell ⟨w.heap.size + 1 + 1, 1, none⟩ (.slice none 0 0)).setCell ⟨w.heap.size + 1 + 1, 2, none⟩ (.slice none 0 0)) = W2 at HB HO0 hbw ⊢
  have kk0 := HO0.out.cell 0 _ rfl
  have kk1 := HO0.out.cell 1 _ rfl
  have kk2 := HO0.out.cell 2 _ rfl
  refine bodyPost_ret (v := .tuple #[.agg #[.bool false, .slice none 0 0, .slice none 0 0], .bool false]) (by simp [results, Tryz.results37, go_sem, kk0, kk1, kk2]) rfl ⟨_, rfl, hbw, ?_⟩
  rw [HB0.out]
  exact ⟨.agg #[.bool false, .slice none 0 0, .slice none 0 0], by simp, by rw [Rat.div_def, Rat.inv_zero, Rat.mul_zero]; exact rQd.mk (by exact ⟨_, rNat.zero _, rfl⟩) (rNat.zero _)⟩
 have h0b : (t == 0) = false := by rw [beq_eq_false_iff_ne]; exact h0
 have HBN := Lib.hid (show b ≠ 0 from fun e => h0 (HZ.out.2 e))
 go_wp2_with fail
 replace HB := Lib.hid (HB.out.drew)
 replace HO0 := Lib.hid (HO0.out.drew)
 replace hbw := Below.drew hbw
 refine wp_hoist [(0, true), (1, true), (4, true), (7, true), (8, true), (2, false), (3, true), (5, false), (6, false), (9, false), (10, false), (11, false), (12, false), (13, false)] (Cells [(w.heap.size, 0, .bool s1), (w.heap.size, 1, .slice A1 n1 c1), (w.heap.size, 2, .slice B1 m1 k1), (w.heap.size + 1, 0, .bool s2), (w.heap.size + 1, 1, .slice A2 n2 c2), (w.heap.size + 1, 2, .slice B2 m2 k2)]) (by kernel_rfl) (by kernel_rfl) ?_ ?_
 · exact HB.out
 generalize W1.drew = W2 at HB HO0 hbw ⊢
 refine hz_yes (v := ?_) rfl (by kernel_rfl) (fun W hW => ?_) ?_; rotate_left; (obtain ⟨y0, y1, y2, y3, y4, y5, _⟩ := hW; go_simp; try with_reducible rfl)
 (try (conv => arg 6; simp only [Act.put, gL]))
 refine hz_yes (v := ?_) rfl (by kernel_rfl) (fun W hW => ?_) ?_; rotate_left; (obtain ⟨y0, y1, y2, y3, y4, y5, _⟩ := hW; go_simp; try with_reducible rfl)
 (try (conv => arg 6; simp only [Act.put, gL]))
 refine hz_yes (v := ?_) rfl (by kernel_rfl) (fun W hW => ?_) ?_; rotate_left; (obtain ⟨y0, y1, y2, y3, y4, y5, _⟩ := hW; go_simp; try with_reducible rfl)
 (try (conv => arg 6; simp only [Act.put, gL]))
 refine hz_yes (v := ?_) rfl (by kernel_rfl) (fun W hW => ?_) ?_; rotate_left; (go_simp; try with_reducible rfl)
 (try (conv => arg 6; simp only [Act.put, gL]))
 refine hz_yes (v := ?_) rfl (by kernel_rfl) (fun W hW => ?_) ?_; rotate_left; (obtain ⟨y0, y1, y2, y3, y4, y5, _⟩ := hW; go_simp; try with_reducible rfl)
 (try (conv => arg 6; simp only [Act.put, gL]))
 refine hz_eff rfl (by kernel_rfl) (fun K hK => ?_)
 refine wp_call (HS.out _ (H2.out.ext hbw)) (by kernel_rfl) ?_
 rintro v1 W3 hb1 rfl
 refine hK.out _ _ ?_ ?_
 · exact HB.out.ext hb1
 clear hK K
 (try (conv => arg 6; simp only [Act.put, gL]))
 replace HB := Lib.hid (HB.out.ext hb1)
 replace HO0 := Lib.hid (HO0.out.ext hb1)
 replace hbw := nT hbw hb1
 clear hb1
 refine hz_yes (v := ?_) rfl (by kernel_rfl) (fun W hW => ?_) ?_; rotate_left; (go_simp; try with_reducible rfl)
 (try (conv => arg 6; simp only [Act.put, gL]))
 refine hz_eff rfl (by kernel_rfl) (fun K hK => ?_)
 refine wp_call (HD.out _ (H2.out.ext hbw)) (by kernel_rfl) ?_
 rintro v1 W4 hb1 hr1
 obtain ⟨EA, Ec, En, rfl, hr1⟩ := hr1.shape
 refine hK.out _ _ ?_ ?_
 · exact HB.out.ext hb1
 clear hK K
 (try (conv => arg 6; simp only [Act.put, gL]))
 replace HB := Lib.hid (HB.out.ext hb1)
 replace HO0 := Lib.hid (HO0.out.ext hb1)
 replace hbw := nT hbw hb1
 have R1 := Lib.hid hr1
 clear hr1
 clear hb1
 refine hz_eff rfl (by kernel_rfl) (fun K hK => ?_)
 refine wp_call (HF.out _ _ R1.out) (by kernel_rfl) ?_
 rintro v1 W5 hb1 hr1
 obtain ⟨Fs, FA, Fc, Fn, rfl, hr1⟩ := hr1.shape
 refine hK.out _ _ ?_ ?_
 · exact HB.out.ext hb1
 clear hK K
 (try (conv => arg 6; simp only [Act.put, gL]))
 replace HB := Lib.hid (HB.out.ext hb1)
 replace HO0 := Lib.hid (HO0.out.ext hb1)
 replace R1 := Lib.hid (R1.out.ext hb1)
 replace hbw := nT hbw hb1
 have R2 := Lib.hid hr1
 clear hr1
 clear hb1
 refine hz_eff rfl (by kernel_rfl) (fun K hK => ?_)
 refine wp_call (HAB.out _ (H2.out.ext hbw).num) (by kernel_rfl) ?_
 rintro v1 W6 hb1 hr1
 obtain ⟨GA, Gc, Gn, rfl, hr1⟩ := hr1.shape
 refine hK.out _ _ ?_ ?_
 · exact HB.out.ext hb1
 clear hK K
 (try (conv => arg 6; simp only [Act.put, gL]))
 replace HB := Lib.hid (HB.out.ext hb1)
 replace HO0 := Lib.hid (HO0.out.ext hb1)
 replace R1 := Lib.hid (R1.out.ext hb1)
 replace R2 := Lib.hid (R2.out.ext hb1)
 replace hbw := nT hbw hb1
 have R3 := Lib.hid hr1
 clear hr1
 clear hb1
 refine hz_eff rfl (by kernel_rfl) (fun K hK => ?_)
 refine wp_call ((HL.out _ _ _ R2.out R3.out).mono (fun _ _ h => h.map (fun _ _ h => HI.out _ _ HBN.out h))) (by kernel_rfl) ?_
 rintro v1 W7 hb1 hr1
 obtain ⟨Is, IA, Ic, In, IB, Id, Im, rfl, hr1⟩ := hr1.shape
 refine hK.out _ _ ?_ ?_
 · exact HB.out.ext hb1
 clear hK K
 (try (conv => arg 6; simp only [Act.put, gL]))
 replace HB := Lib.hid (HB.out.ext hb1)
 replace HO0 := Lib.hid (HO0.out.ext hb1)
 replace R1 := Lib.hid (R1.out.ext hb1)
 replace R2 := Lib.hid (R2.out.ext hb1)
 replace R3 := Lib.hid (R3.out.ext hb1)
 replace hbw := nT hbw hb1
 have R4 := Lib.hid hr1
 clear hr1
 clear hb1
 refine hz_eff rfl (by kernel_rfl) (fun K hK => ?_)
 refine wp_call (HM.out _ _ (H1.out.ext hbw) R4.out) (by kernel_rfl) ?_
 rintro v1 W8 hb1 hr1
 obtain ⟨Js, JA, Jc, Jn, JB, Jd, Jm, rfl, hr1⟩ := hr1.shape
 refine hK.out _ _ ?_ ?_
 · exact HB.out.ext hb1
 clear hK K
 (try (conv => arg 6; simp only [Act.put, gL]))
 replace HB := Lib.hid (HB.out.ext hb1)
 replace HO0 := Lib.hid (HO0.out.ext hb1)
 replace R1 := Lib.hid (R1.out.ext hb1)
 replace R2 := Lib.hid (R2.out.ext hb1)
 replace R3 := Lib.hid (R3.out.ext hb1)
 replace R4 := Lib.hid (R4.out.ext hb1)
 replace hbw := nT hbw hb1
 have R5 := Lib.hid hr1
 clear hr1
 clear hb1
 have q0 := HO0.out.cell 0 _ rfl
 have f0 := HO0.out.frozen 0
 have q1 := HO0.out.cell 1 _ rfl
 have f1 := HO0.out.frozen 1
 have q2 := HO0.out.cell 2 _ rfl
 have f2 := HO0.out.frozen 2
 refine hz_eff rfl (by kernel_rfl) (fun K hK => ?_)
 go_simp
 refine hK.out _ _ ?_ ?_
 · exact (((HB.out.set (p := ⟨w.heap.size + 1 + 1, 0, none⟩) _ (by simp <;> omega)).set (p := ⟨w.heap.size + 1 + 1, 1, none⟩) _ (by simp <;> omega)).set (p := ⟨w.heap.size + 1 + 1, 2, none⟩) _ (by simp <;> omega))
 clear hK K
 (try (conv => arg 6; simp only [Act.put, gL]))
 replace HB := Lib.hid (HB.out.set (p := ⟨w.heap.size + 1 + 1, 0, none⟩) (.bool Js) (by simp <;> omega))
 replace HO0 := Lib.hid (HO0.out.set 0 (.bool Js))
 replace R1 := Lib.hid (R1.out.set (x := .bool Js) q0 rfl)
 replace R2 := Lib.hid (R2.out.set (x := .bool Js) q0 rfl)
 replace R3 := Lib.hid (R3.out.set (x := .bool Js) q0 rfl)
 replace R4 := Lib.hid (R4.out.set (x := .bool Js) q0 rfl)
 replace R5 := Lib.hid (R5.out.set (x := .bool Js) q0 rfl)
 replace hbw := nB4 hbw (show w.heap.size ≤ (⟨w.heap.size + 1 + 1, 0, none⟩ : Addr).block by simp <;> omega) (.bool Js)
 replace q1 := (nC W8 ⟨w.heap.size + 1 + 1, 0, none⟩ ⟨w.heap.size + 1 + 1, 1, none⟩ (.bool Js) (by simp)).trans q1
 replace q2 := (nC W8 ⟨w.heap.size + 1 + 1, 0, none⟩ ⟨w.heap.size + 1 + 1, 2, none⟩ (.bool Js) (by simp)).trans q2
 replace HB := Lib.hid (HB.out.set (p := ⟨w.heap.size + 1 + 1, 1, none⟩) (.slice JA Jn Jc) (by simp <;> omega))
 replace HO0 := Lib.hid (HO0.out.set 1 (.slice JA Jn Jc))
 replace R1 := Lib.hid (R1.out.set (x := .slice JA Jn Jc) q1 rfl)
 replace R2 := Lib.hid (R2.out.set (x := .slice JA Jn Jc) q1 rfl)
 replace R3 := Lib.hid (R3.out.set (x := .slice JA Jn Jc) q1 rfl)
 replace R4 := Lib.hid (R4.out.set (x := .slice JA Jn Jc) q1 rfl)
 replace R5 := Lib.hid (R5.out.set (x := .slice JA Jn Jc) q1 rfl)
 replace hbw := nB4 hbw (show w.heap.size ≤ (⟨w.heap.size + 1 + 1, 1, none⟩ : Addr).block by simp <;> omega) (.slice JA Jn Jc)
 replace q2 := (nC (W8.setCell ⟨w.heap.size + 1 + 1, 0, none⟩ (.bool Js)) ⟨w.heap.size + 1 + 1, 1, none⟩ ⟨w.heap.size + 1 + 1, 2, none⟩ (.slice JA Jn Jc) (by simp)).trans q2
 replace HB := Lib.hid (HB.out.set (p := ⟨w.heap.size + 1 + 1, 2, none⟩) (.slice JB Jm Jd) (by simp <;> omega))
 replace HO0 := Lib.hid (HO0.out.set 2 (.slice JB Jm Jd))
 replace R1 := Lib.hid (R1.out.set (x := .slice JB Jm Jd) q2 rfl)
 replace R2 := Lib.hid (R2.out.set (x := .slice JB Jm Jd) q2 rfl)
 replace R3 := Lib.hid (R3.out.set (x := .slice JB Jm Jd) q2 rfl)
 replace R4 := Lib.hid (R4.out.set (x := .slice JB Jm Jd) q2 rfl)
 replace R5 := Lib.hid (R5.out.set (x := .slice JB Jm Jd) q2 rfl)
 replace hbw := nB4 hbw (show w.heap.size ≤ (⟨w.heap.size + 1 + 1, 2, none⟩ : Addr).block by simp <;> omega) (.slice JB Jm Jd)
 clear q0 f0 q1 f1 q2 f2
 replace HO0 : Hid (Own _ _ _ [.bool Js, .slice JA Jn Jc, .slice JB Jm Jd]) := HO0
 generalize (((W8.setCell ⟨w.heap.size + 1 + 1, 0, none⟩ (.bool Js)).setCell ⟨w.heap.size + 1 + 1, 1, none⟩ (.slice JA Jn Jc)).setCell ⟨w.heap.size + 1 + 1, 2, none⟩ (.slice JB Jm Jd)) = W9 at HB HO0 R1 R2 R3 R4 R5 hbw ⊢
 refine hz_eff rfl (by kernel_rfl) (fun K hK => ?_)
 go_simp
 refine hK.out _ _ ?_ ?_
 · exact HB.out
 clear hK K
 (try (conv => arg 6; simp only [Act.put, gL]))
 refine hz_nil ?_
 go_wp2_with fail
 have kk0 := HO0.out.cell 0 _ rfl
 have kk1 := HO0.out.cell 1 _ rfl
 have kk2 := HO0.out.cell 2 _ rfl
 refine bodyPost_ret (v := .tuple #[.agg #[.bool Js, .slice JA Jn Jc, .slice JB Jm Jd], .bool true]) (by simp [results, Tryz.results37, go_sem, kk0, kk1, kk2]) rfl ⟨_, rfl, hbw, ?_⟩
 exact ⟨_, by rw [decide_eq_true HBN.out], R5.out⟩
def QMakeSaid (w' : World) (v : Value) (n : Int) (d : Nat) : Prop := ∃ q, v = .tuple #[q, .bool true] ∧ rQ w' q (mkRat n d)
set_option maxRecDepth 100000 in
set_option maxHeartbeats 2000000 in
/-- frac.Make, of a lower part above 0 -/
theorem qmake_c (w : World) (vn vd : Value) (n : Int) (d : Nat) (ha : rInt w vn n) (hb : rInt w vd (d : Int)) (hd : 0 < d) (f1 : bl n.natAbs ≤ 35184372088600) (f2 : bl d ≤ 35184372088600) :
  Calls Tryz.prog 93 #[vn, vd] w (Post w fun r w' => QMakeSaid w' r n d) := by
 obtain ⟨s1, A1, c1, n1, rfl, ha⟩ := ha.shape
 obtain ⟨s2, A2, c2, n2, rfl, hb⟩ := hb.shape
 obtain ⟨g, eg⟩ : ∃ g, Nat.gcd n.natAbs d = g := ⟨_, rfl⟩
 have hgd : g ≤ d := by rw [← eg]; exact Nat.gcd_le_right _ hd
 have hgb := bl_mono hgd
 have HS := Lib.hid (fun W h => sign_c W (.agg #[.bool s2, .slice A2 n2 c2]) (d : Int) h (by unfold Fit; simp only [Int.natAbs_natCast]; omega))
 rw [Int.sign_eq_one_of_pos (by omega)] at HS
 have HG := Lib.hid (fun W h h' => gcd_c W (.agg #[.bool s1, .slice A1 n1 c1]) (.agg #[.bool s2, .slice A2 n2 c2]) n (d : Int) h h' (by omega) (by simp only [Int.natAbs_natCast]; omega))
 simp only [Int.natAbs_natCast] at HG
 rw [eg] at HG
 have HY := Lib.hid (fun W u h h' => by_c W (.agg #[.bool s1, .slice A1 n1 c1]) u n g h h' (by omega) (by omega))
 have HAB := Lib.hid (fun W h => abs_c W (.agg #[.bool s2, .slice A2 n2 c2]) (d : Int) h)
 simp only [Int.natAbs_natCast] at HAB
 have HU := Lib.hid (fun W v u h h' => under_c W v u d g h h' (by unfold Fit; omega) (by unfold Fit; omega))
 have hdg : bl (d / g) ≤ bl d := bl_mono (Nat.div_le_self _ _)
 have HL := Lib.hid (fun W v u h h' => low_c W v u (Int.fdiv n g) (d / g) h h' (by unfold Fit; omega))
 obtain ⟨p1, p2⟩ := mkRat_parts n d (by omega)
 rw [eg] at p1 p2
 have HFI := Lib.hid (show ∀ W v, rQd W v (Int.fdiv n g) (d / g) → rQ W v (mkRat n d) from fun W v hv => by unfold rQ; rw [p1, p2, ← Int.fdiv_eq_ediv_of_nonneg _ (by omega)]; exact hv)
 have H1 := Lib.hid ha
 have H2 := Lib.hid hb
 clear eg hgd hgb hdg p1 p2 f1 f2
 have HB : Hid (Cells [(w.heap.size, 0, .bool s1), (w.heap.size, 1, .slice A1 n1 c1), (w.heap.size + 1, 0, .bool s2), (w.heap.size + 1, 1, .slice A2 n2 c2)] (((w.alloc (.cells #[.bool s1, .slice A1 n1 c1] 30)).alloc (.cells #[.bool s2, .slice A2 n2 c2] 30)).alloc (.cells #[.bool false, .slice none 0 0, .slice none 0 0] 32))) := Lib.hid (Cells.cons (by go_simp) (Cells.cons (by go_simp) (Cells.cons (by go_simp) (Cells.cons (by go_simp) (Cells.nil _)))))
 have HO0 := Lib.hid (Own.new' ((w.alloc (.cells #[.bool s1, .slice A1 n1 c1] 30)).alloc (.cells #[.bool s2, .slice A2 n2 c2] 30)) 32 [.bool false, .slice none 0 0, .slice none 0 0] (w.heap.size + 1 + 1) (by simp))
 have hbw : Below w.heap.size w (((w.alloc (.cells #[.bool s1, .slice A1 n1 c1] 30)).alloc (.cells #[.bool s2, .slice A2 n2 c2] 30)).alloc (.cells #[.bool false, .slice none 0 0, .slice none 0 0] 32)) := (by repeat (first | assumption | exact nB1 _ _ | refine nB2 ?_ | refine pw_below_drewN ?_ _ | refine nB3 ?_ (by first | omega | (simp <;> omega)) _ | refine nB4 ?_ (by first | omega | (simp <;> omega)) _ | refine nB5 ?_ (by assumption) (by first | omega | (simp <;> omega))))
 clear ha hb
 go_enter Tryz.func93, Tryz.ntmps93
 go_wp2_with fail
 generalize (((w.alloc (.cells #[.bool s1, .slice A1 n1 c1] 30)).alloc (.cells #[.bool s2, .slice A2 n2 c2] 30)).alloc (.cells #[.bool false, .slice none 0 0, .slice none 0 0] 32)) = W0 at HB HO0 hbw ⊢
 obtain ⟨y0, y1, y2, y3, _⟩ := id HB.out
 go_wp2_with fail
 clear y0 y1 y2 y3
 refine (HS.out _ (H2.out.ext hbw)).mono ?_
 rintro e W1 ⟨v1, rfl, hb1, rfl⟩
 replace HB := Lib.hid (HB.out.ext hb1)
 replace HO0 := Lib.hid (HO0.out.ext hb1)
 replace hbw := nT hbw hb1
 clear hb1
 obtain ⟨y0, y1, y2, y3, _⟩ := id HB.out
 go_wp2_with fail
 clear y0 y1 y2 y3
 refine (HG.out _ (H1.out.ext hbw) (H2.out.ext hbw)).mono ?_
 rintro e W2 ⟨v1, rfl, hb1, hr1⟩
 obtain ⟨GA, Gc, Gn, rfl, hr1⟩ := hr1.shape
 replace HB := Lib.hid (HB.out.ext hb1)
 replace HO0 := Lib.hid (HO0.out.ext hb1)
 replace hbw := nT hbw hb1
 have R1 := Lib.hid hr1
 clear hr1
 clear hb1
 go_upto_region 7 with (fail)
 have z_H6 := hbw.size
 have z_H6_HO0 := HO0.out.lt
 replace HB := Lib.hid (HB.out.alloc (.cells #[.slice GA Gn Gc] 28))
 replace HO0 := Lib.hid (HO0.out.alloc (.cells #[.slice GA Gn Gc] 28))
 replace R1 := Lib.hid (R1.out.alloc (.cells #[.slice GA Gn Gc] 28))
 replace hbw := nB3 hbw hbw.size (.cells #[.slice GA Gn Gc] 28)
 have H6 := Lib.hid (Own.new' W2 28 [.slice GA Gn Gc] W2.heap.size rfl)
 obtain ⟨bH6, e_H6⟩ : ∃ b, W2.heap.size = b := ⟨_, rfl⟩
 simp only [e_H6] at H6 z_H6 z_H6_HO0 ⊢
 generalize (W2.alloc (.cells #[.slice GA Gn Gc] 28)) = W3 at HB HO0 R1 H6 hbw ⊢
 replace HB := Lib.hid (Cells.cons (H6.out.cell 0 _ rfl) HB.out)
 replace HB := Lib.hid (HB.out.drew)
 replace HO0 := Lib.hid (HO0.out.drew)
 replace R1 := Lib.hid (R1.out.drew)
 replace hbw := Below.drew hbw
 refine wp_hoist [(0, true), (1, true), (3, true), (5, true), (2, false), (4, false), (6, false), (7, false), (8, false), (9, false)] (Cells [(bH6, 0, .slice GA Gn Gc), (w.heap.size, 0, .bool s1), (w.heap.size, 1, .slice A1 n1 c1), (w.heap.size + 1, 0, .bool s2), (w.heap.size + 1, 1, .slice A2 n2 c2)]) (by kernel_rfl) (by kernel_rfl) ?_ ?_
 · exact HB.out
 generalize W3.drew = W4 at HB HO0 R1 hbw ⊢
 refine hz_yes (v := ?_) rfl (by kernel_rfl) (fun W hW => ?_) ?_; rotate_left; (obtain ⟨y0, y1, y2, y3, y4, _⟩ := hW; go_simp; try with_reducible rfl)
 (try (conv => arg 6; simp only [Act.put, gL]))
 refine hz_yes (v := ?_) rfl (by kernel_rfl) (fun W hW => ?_) ?_; rotate_left; (obtain ⟨y0, y1, y2, y3, y4, _⟩ := hW; go_simp; try with_reducible rfl)
 (try (conv => arg 6; simp only [Act.put, gL]))
 refine hz_yes (v := ?_) rfl (by kernel_rfl) (fun W hW => ?_) ?_; rotate_left; (obtain ⟨y0, y1, y2, y3, y4, _⟩ := hW; go_simp; try with_reducible rfl)
 (try (conv => arg 6; simp only [Act.put, gL]))
 refine hz_yes (v := ?_) rfl (by kernel_rfl) (fun W hW => ?_) ?_; rotate_left; (obtain ⟨y0, y1, y2, y3, y4, _⟩ := hW; go_simp; try with_reducible rfl)
 (try (conv => arg 6; simp only [Act.put, gL]))
 refine hz_eff rfl (by kernel_rfl) (fun K hK => ?_)
 refine wp_call (HY.out _ _ (H1.out.ext hbw) R1.out) (by kernel_rfl) ?_
 rintro v1 W5 hb1 hr1
 obtain ⟨Is, IA, Ic, In, rfl, hr1⟩ := hr1.shape
 refine hK.out _ _ ?_ ?_
 · exact HB.out.ext hb1
 clear hK K
 (try (conv => arg 6; simp only [Act.put, gL]))
 replace HB := Lib.hid (HB.out.ext hb1)
 replace HO0 := Lib.hid (HO0.out.ext hb1)
 replace R1 := Lib.hid (R1.out.ext hb1)
 replace hbw := nT hbw hb1
 have R2 := Lib.hid hr1
 clear hr1
 clear hb1
 refine hz_eff rfl (by kernel_rfl) (fun K hK => ?_)
 refine wp_call (HAB.out _ (H2.out.ext hbw)) (by kernel_rfl) ?_
 rintro v1 W6 hb1 hr1
 obtain ⟨JA, Jc, Jn, rfl, hr1⟩ := hr1.shape
 refine hK.out _ _ ?_ ?_
 · exact HB.out.ext hb1
 clear hK K
 (try (conv => arg 6; simp only [Act.put, gL]))
 replace HB := Lib.hid (HB.out.ext hb1)
 replace HO0 := Lib.hid (HO0.out.ext hb1)
 replace R1 := Lib.hid (R1.out.ext hb1)
 replace R2 := Lib.hid (R2.out.ext hb1)
 replace hbw := nT hbw hb1
 have R3 := Lib.hid hr1
 clear hr1
 clear hb1
 refine hz_eff rfl (by kernel_rfl) (fun K hK => ?_)
 refine wp_call (HU.out _ _ _ R3.out R1.out) (by kernel_rfl) ?_
 rintro v1 W7 hb1 hr1
 obtain ⟨MA, Mc, Mn, rfl, hr1⟩ := hr1.shape
 refine hK.out _ _ ?_ ?_
 · exact HB.out.ext hb1
 clear hK K
 (try (conv => arg 6; simp only [Act.put, gL]))
 replace HB := Lib.hid (HB.out.ext hb1)
 replace HO0 := Lib.hid (HO0.out.ext hb1)
 replace R1 := Lib.hid (R1.out.ext hb1)
 replace R2 := Lib.hid (R2.out.ext hb1)
 replace R3 := Lib.hid (R3.out.ext hb1)
 replace hbw := nT hbw hb1
 have R4 := Lib.hid hr1
 clear hr1
 clear hb1
 refine hz_eff rfl (by kernel_rfl) (fun K hK => ?_)
 refine wp_call (HL.out _ _ _ R2.out R4.out) (by kernel_rfl) ?_
 rintro v1 W8 hb1 hr1
 obtain ⟨Fs, FA, Fc, Fn, FB, Fd, Fm, rfl, hr1⟩ := hr1.shape
 refine hK.out _ _ ?_ ?_
 · exact HB.out.ext hb1
 clear hK K
 (try (conv => arg 6; simp only [Act.put, gL]))
 replace HB := Lib.hid (HB.out.ext hb1)
 replace HO0 := Lib.hid (HO0.out.ext hb1)
 replace R1 := Lib.hid (R1.out.ext hb1)
 replace R2 := Lib.hid (R2.out.ext hb1)
 replace R3 := Lib.hid (R3.out.ext hb1)
 replace R4 := Lib.hid (R4.out.ext hb1)
 replace hbw := nT hbw hb1
 have R5 := Lib.hid hr1
 clear hr1
 clear hb1
 have q0 := HO0.out.cell 0 _ rfl
 have f0 := HO0.out.frozen 0
 have q1 := HO0.out.cell 1 _ rfl
 have f1 := HO0.out.frozen 1
 have q2 := HO0.out.cell 2 _ rfl
 have f2 := HO0.out.frozen 2
 refine hz_eff rfl (by kernel_rfl) (fun K hK => ?_)
 go_simp
 refine hK.out _ _ ?_ ?_
 · exact (((HB.out.set (p := ⟨w.heap.size + 1 + 1, 0, none⟩) _ (by simp <;> omega)).set (p := ⟨w.heap.size + 1 + 1, 1, none⟩) _ (by simp <;> omega)).set (p := ⟨w.heap.size + 1 + 1, 2, none⟩) _ (by simp <;> omega))
 clear hK K
 (try (conv => arg 6; simp only [Act.put, gL]))
 replace HB := Lib.hid (HB.out.set (p := ⟨w.heap.size + 1 + 1, 0, none⟩) (.bool Fs) (by simp <;> omega))
 replace HO0 := Lib.hid (HO0.out.set 0 (.bool Fs))
 replace R1 := Lib.hid (R1.out.set (x := .bool Fs) q0 rfl)
 replace R2 := Lib.hid (R2.out.set (x := .bool Fs) q0 rfl)
 replace R3 := Lib.hid (R3.out.set (x := .bool Fs) q0 rfl)
 replace R4 := Lib.hid (R4.out.set (x := .bool Fs) q0 rfl)
 replace R5 := Lib.hid (R5.out.set (x := .bool Fs) q0 rfl)
 replace hbw := nB4 hbw (show w.heap.size ≤ (⟨w.heap.size + 1 + 1, 0, none⟩ : Addr).block by simp <;> omega) (.bool Fs)
 replace q1 := (nC W8 ⟨w.heap.size + 1 + 1, 0, none⟩ ⟨w.heap.size + 1 + 1, 1, none⟩ (.bool Fs) (by simp)).trans q1
 replace q2 := (nC W8 ⟨w.heap.size + 1 + 1, 0, none⟩ ⟨w.heap.size + 1 + 1, 2, none⟩ (.bool Fs) (by simp)).trans q2
 replace HB := Lib.hid (HB.out.set (p := ⟨w.heap.size + 1 + 1, 1, none⟩) (.slice FA Fn Fc) (by simp <;> omega))
 replace HO0 := Lib.hid (HO0.out.set 1 (.slice FA Fn Fc))
 replace R1 := Lib.hid (R1.out.set (x := .slice FA Fn Fc) q1 rfl)
 replace R2 := Lib.hid (R2.out.set (x := .slice FA Fn Fc) q1 rfl)
 replace R3 := Lib.hid (R3.out.set (x := .slice FA Fn Fc) q1 rfl)
 replace R4 := Lib.hid (R4.out.set (x := .slice FA Fn Fc) q1 rfl)
 replace R5 := Lib.hid (R5.out.set (x := .slice FA Fn Fc) q1 rfl)
 replace hbw := nB4 hbw (show w.heap.size ≤ (⟨w.heap.size + 1 + 1, 1, none⟩ : Addr).block by simp <;> omega) (.slice FA Fn Fc)
 replace q2 := (nC (W8.setCell ⟨w.heap.size + 1 + 1, 0, none⟩ (.bool Fs)) ⟨w.heap.size + 1 + 1, 1, none⟩ ⟨w.heap.size + 1 + 1, 2, none⟩ (.slice FA Fn Fc) (by simp)).trans q2
 replace HB := Lib.hid (HB.out.set (p := ⟨w.heap.size + 1 + 1, 2, none⟩) (.slice FB Fm Fd) (by simp <;> omega))
 replace HO0 := Lib.hid (HO0.out.set 2 (.slice FB Fm Fd))
 replace R1 := Lib.hid (R1.out.set (x := .slice FB Fm Fd) q2 rfl)
 replace R2 := Lib.hid (R2.out.set (x := .slice FB Fm Fd) q2 rfl)
 replace R3 := Lib.hid (R3.out.set (x := .slice FB Fm Fd) q2 rfl)
 replace R4 := Lib.hid (R4.out.set (x := .slice FB Fm Fd) q2 rfl)
 replace R5 := Lib.hid (R5.out.set (x := .slice FB Fm Fd) q2 rfl)
 replace hbw := nB4 hbw (show w.heap.size ≤ (⟨w.heap.size + 1 + 1, 2, none⟩ : Addr).block by simp <;> omega) (.slice FB Fm Fd)
 clear q0 f0 q1 f1 q2 f2
 replace HO0 : Hid (Own _ _ _ [.bool Fs, .slice FA Fn Fc, .slice FB Fm Fd]) := HO0
 generalize (((W8.setCell ⟨w.heap.size + 1 + 1, 0, none⟩ (.bool Fs)).setCell ⟨w.heap.size + 1 + 1, 1, none⟩ (.slice FA Fn Fc)).setCell ⟨w.heap.size + 1 + 1, 2, none⟩ (.slice FB Fm Fd)) = W9 at HB HO0 R1 R2 R3 R4 R5 hbw ⊢
 refine hz_eff rfl (by kernel_rfl) (fun K hK => ?_)
 go_simp
 refine hK.out _ _ ?_ ?_
 · exact HB.out
 clear hK K
 (try (conv => arg 6; simp only [Act.put, gL]))
 refine hz_nil ?_
 go_wp2_with fail
 have kk0 := HO0.out.cell 0 _ rfl
 have kk1 := HO0.out.cell 1 _ rfl
 have kk2 := HO0.out.cell 2 _ rfl
 refine bodyPost_ret (v := .tuple #[.agg #[.bool Fs, .slice FA Fn Fc, .slice FB Fm Fd], .bool true]) (by simp [results, Tryz.results93, go_sem, kk0, kk1, kk2]) rfl ⟨_, rfl, hbw, ?_⟩
 exact ⟨_, rfl, HFI.out _ _ R5.out⟩
end Go.Proofs.YtadpjidakippeaaGreat

/- What Div says, opened; stores beside a number. -/
namespace Go.Proofs.YtadpjidakippeaaGreat
open Go.RowKit
theorem qb_zero : qb 0 = 1 := rfl
theorem QDivSaid.open {W : World} {v : Value} {a b : Rat} (h : QDivSaid W v a b) : ∃ s A c n B k m, v = .tuple #[.agg #[.bool s, .slice A n c, .slice B m k], .bool (decide (b ≠ 0))] ∧ rQ W (.agg #[.bool s, .slice A n c, .slice B m k]) (a / b) := by
 obtain ⟨q, hv, h⟩ := h
 obtain ⟨s, A, c, n, B, k, m, rfl, h⟩ := h.shape
 exact ⟨s, A, c, n, B, k, m, hv, h⟩
theorem sets3 {W : World} {b i : Nat} {v0 v1 v2 x0 x1 x2 : Value} (h0 : W.cell? ⟨b, i, none⟩ = some v0) (h1 : W.cell? ⟨b, i + 1, none⟩ = some v1) (h2 : W.cell? ⟨b, i + 2, none⟩ = some v2) (n0 : noInt v0 = true) (n1 : noInt v1 = true) (n2 : noInt v2 = true)
  {v : Value} {q : Rat} (h : rQ W v q) : rQ (((W.setCell ⟨b, i, none⟩ x0).setCell ⟨b, i + 1, none⟩ x1).setCell ⟨b, i + 2, none⟩ x2) v q := by
 have e1 := (nC W ⟨b, i, none⟩ ⟨b, i + 1, none⟩ x0 (by simp)).trans h1
 have e2 := (nC W ⟨b, i, none⟩ ⟨b, i + 2, none⟩ x0 (by simp)).trans h2
 have e3 := (nC (W.setCell ⟨b, i, none⟩ x0) ⟨b, i + 1, none⟩ ⟨b, i + 2, none⟩ x1 (by simp)).trans e2
 exact ((h.set h0 n0).set e1 n1).set e3 n2
end Go.Proofs.YtadpjidakippeaaGreat

/- Lists of fractions in memory; their sums. -/
namespace Go.Proofs.YtadpjidakippeaaGreat
open Go.RowKit
/-- A list of fractions. -/
def rQs (w : World) (v : Value) (l : List Rat) : Prop := ∃ A c, v = .slice A l.length c ∧ l.length ≤ c ∧ (l ≠ [] → ∃ g o, A = some ⟨g, o, none⟩ ∧
 ∀ j (hj : j < l.length), ∃ s u r, w.cell? ⟨g, o + j * 3, none⟩ = some (.bool s) ∧ w.cell? ⟨g, o + j * 3 + 1, none⟩ = some u ∧ w.cell? ⟨g, o + j * 3 + 2, none⟩ = some r ∧ rQ w (.agg #[.bool s, u, r]) l[j])
theorem rQs.ext {w w' : World} {v : Value} {l : List Rat} (h : rQs w v l) (he : Ext w w') : rQs w' v l := by
 obtain ⟨A, c, hv, hc, h⟩ := h
 refine ⟨A, c, hv, hc, fun hl => ?_⟩
 obtain ⟨g, o, hA, h⟩ := h hl
 refine ⟨g, o, hA, fun j hj => ?_⟩
 obtain ⟨s, u, r, h1, h2, h3, h4⟩ := h j hj
 exact ⟨s, u, r, ext_cell he h1, ext_cell he h2, ext_cell he h3, h4.ext he⟩
theorem rQs.drew {w : World} {v : Value} {l : List Rat} (h : rQs w v l) : rQs w.drew v l := h
theorem rQs.alloc {w : World} {v : Value} {l : List Rat} (h : rQs w v l) (o : Obj) : rQs (w.alloc o) v l := h.ext (ext_alloc _ _)
theorem rQs.shape {w : World} {v : Value} {l : List Rat} (h : rQs w v l) : ∃ A c, v = .slice A l.length c ∧ rQs w (.slice A l.length c) l := by
 obtain ⟨A, c, rfl, h⟩ := h
 exact ⟨A, c, rfl, A, c, rfl, h⟩
theorem rQs.nil (w : World) : rQs w (.slice none 0 0) [] := ⟨none, 0, rfl, Nat.le_refl _, fun h => absurd rfl h⟩
theorem rQs.at {w : World} {A : Option Addr} {n c : Nat} {l : List Rat} (h : rQs w (.slice A n c) l) {j : Nat} (hj : j < l.length) :
  ∃ g o s A1 c1 n1 B1 k1 m1, A = some ⟨g, o, none⟩ ∧ w.cell? ⟨g, o + j * 3, none⟩ = some (.bool s) ∧ w.cell? ⟨g, o + j * 3 + 1, none⟩ = some (.slice A1 n1 c1) ∧ w.cell? ⟨g, o + j * 3 + 2, none⟩ = some (.slice B1 m1 k1) ∧
   rQ w (.agg #[.bool s, .slice A1 n1 c1, .slice B1 m1 k1]) l[j] := by
 obtain ⟨A', c', hv, hc, h⟩ := h
 simp only [Value.slice.injEq] at hv
 obtain ⟨rfl, rfl, rfl⟩ := hv
 obtain ⟨g, o, hA, h⟩ := h (by intro e; rw [e] at hj; simp at hj)
 obtain ⟨s, u, r, h1, h2, h3, h4⟩ := h j hj
 obtain ⟨s', A1, c1, n1, B1, k1, m1, e, h4⟩ := h4.shape
 simp only [Value.agg.injEq, Array.mk.injEq, List.cons.injEq, Value.bool.injEq, and_true] at e
 obtain ⟨rfl, rfl, rfl⟩ := e
 exact ⟨g, o, s, A1, c1, n1, B1, k1, m1, hA, h1, h2, h3, h4⟩
/-- The sum of the products of the first k. -/
def dotTo (a b : List Rat) : Nat → Rat
 | 0 => 0
 | k + 1 => dotTo a b k + a.getD k 0 * b.getD k 0
def dot (a b : List Rat) : Rat := dotTo a b a.length
/-- How much a list weighs. -/
def wt (l : List Rat) : Nat := (l.map (fun q => qb q + 1)).sum
theorem wt_take (l : List Rat) (k : Nat) (h : k < l.length) : wt (l.take (k + 1)) = wt (l.take k) + qb l[k] + 1 := by
 unfold wt
 rw [List.take_succ_eq_append_getElem h, List.map_append, List.sum_append]
 simp; omega
theorem wt_take_le (l : List Rat) (k : Nat) : wt (l.take k) ≤ wt l := by
 unfold wt
 conv => rhs; rw [← List.take_append_drop k l, List.map_append, List.sum_append]
 omega
theorem wt_at (l : List Rat) (k : Nat) (h : k < l.length) : qb l[k] + 1 ≤ wt l := by
 have h1 := wt_take l k h
 have h2 := wt_take_le l (k + 1)
 omega
theorem qb_dotTo (a b : List Rat) (hab : a.length = b.length) : ∀ k, k ≤ a.length → qb (dotTo a b k) ≤ 1 + wt (a.take k) + wt (b.take k)
 | 0, _ => by simp only [dotTo, qb_zero]; omega
 | k + 1, h => by
  have ih := qb_dotTo a b hab k (by omega)
  have h1 := wt_take a k (by omega)
  have h2 := wt_take b k (by omega)
  simp only [dotTo]
  have h3 := qb_add (dotTo a b k) (a.getD k 0 * b.getD k 0)
  have h4 := qb_mul (a.getD k 0) (b.getD k 0)
  rw [List.getD_eq_getElem?_getD, List.getD_eq_getElem?_getD, List.getElem?_eq_getElem (by omega), List.getElem?_eq_getElem (by omega), Option.getD_some, Option.getD_some] at *
  omega
end Go.Proofs.YtadpjidakippeaaGreat

/- A list of fractions that is being filled. -/
namespace Go.Proofs.YtadpjidakippeaaGreat
open Go.RowKit
/-- A list of fractions that is being filled: k of n are there. -/
structure FillQ (W : World) (b n k : Nat) (f : Nat → Rat) : Prop where
 own : ∃ cs : List Value, Own W b 32 cs ∧ cs.length = 3 * n ∧ ∀ (i : Nat) (v : Value), cs[i]? = some v → noInt v = true
 got : ∀ j, j < k → ∃ s u r, W.cell? ⟨b, j * 3, none⟩ = some (.bool s) ∧ W.cell? ⟨b, j * 3 + 1, none⟩ = some u ∧ W.cell? ⟨b, j * 3 + 2, none⟩ = some r ∧ rQ W (.agg #[.bool s, u, r]) (f j)
theorem FillQ.ext {W W' : World} {b n k : Nat} {f : Nat → Rat} (h : FillQ W b n k f) (he : Ext W W') : FillQ W' b n k f := by
 obtain ⟨⟨cs, h1, h2⟩, h3⟩ := h
 refine ⟨⟨cs, h1.ext he, h2⟩, fun j hj => ?_⟩
 obtain ⟨s, u, r, e1, e2, e3, e4⟩ := h3 j hj
 exact ⟨s, u, r, ext_cell he e1, ext_cell he e2, ext_cell he e3, e4.ext he⟩
theorem FillQ.drew {W : World} {b n k : Nat} {f : Nat → Rat} (h : FillQ W b n k f) : FillQ W.drew b n k f := ⟨h.own, h.got⟩
theorem FillQ.alloc {W : World} {b n k : Nat} {f : Nat → Rat} (h : FillQ W b n k f) (o : Obj) : FillQ (W.alloc o) b n k f := h.ext (ext_alloc _ _)
theorem FillQ.lt {W : World} {b n k : Nat} {f : Nat → Rat} (h : FillQ W b n k f) : b < W.heap.size := by obtain ⟨⟨cs, h1, _⟩, _⟩ := h; exact h1.lt
theorem FillQ.cell {W : World} {b n k : Nat} {f : Nat → Rat} (h : FillQ W b n k f) (i : Nat) (hi : i < 3 * n) : ∃ v, W.cell? ⟨b, i, none⟩ = some v ∧ noInt v = true ∧ W.frozen? ⟨b, i, none⟩ = false := by
 obtain ⟨⟨cs, h1, h2, h3⟩, _⟩ := h
 have hi' : i < cs.length := by omega
 refine ⟨cs[i], h1.cell i _ (List.getElem?_eq_getElem hi'), h3 i _ (List.getElem?_eq_getElem hi'), h1.frozen i⟩
theorem FillQ.other {W : World} {b n k : Nat} {f : Nat → Rat} (h : FillQ W b n k f) {p : Addr} (v : Value) {u : Value} (hp : b ≠ p.block) (hc : W.cell? p = some u) (hu : noInt u = true) : FillQ (W.setCell p v) b n k f := by
 obtain ⟨⟨cs, h1, h2⟩, h3⟩ := h
 refine ⟨⟨cs, h1.other v hp, h2⟩, fun j hj => ?_⟩
 obtain ⟨s, u, r, e1, e2, e3, e4⟩ := h3 j hj
 have ne : ∀ i, p ≠ (⟨b, i, none⟩ : Addr) := fun i e => hp (by rw [e])
 exact ⟨s, u, r, (nC _ _ _ _ (ne _)).trans e1, (nC _ _ _ _ (ne _)).trans e2, (nC _ _ _ _ (ne _)).trans e3, e4.set hc hu⟩
theorem FillQ.set1 {W : World} {b n k : Nat} {f : Nat → Rat} (h : FillQ W b n k f) (i : Nat) (v : Value) (h1 : k * 3 ≤ i) (h2 : i < 3 * n) (hv : noInt v = true) : FillQ (W.setCell ⟨b, i, none⟩ v) b n k f := by
 obtain ⟨u, hc, hu, _⟩ := h.cell i h2
 obtain ⟨⟨cs, o1, o2, o3⟩, h3⟩ := h
 refine ⟨⟨cs.set i v, o1.set i v, by simpa using o2, fun j x hx => ?_⟩, fun j hj => ?_⟩
 ·
  rw [List.getElem?_set] at hx
  split at hx
  ·
   split at hx
   · injection hx with hx; rw [← hx]; exact hv
   · cases hx
  · exact o3 _ _ hx
 ·
  obtain ⟨s, u', r, e1, e2, e3, e4⟩ := h3 j hj
  have ne : ∀ m, m < k * 3 → (⟨b, i, none⟩ : Addr) ≠ ⟨b, m, none⟩ := fun m hm e => by injection e with _ e; omega
  exact ⟨s, u', r, (nC _ _ _ _ (ne _ (by omega))).trans e1, (nC _ _ _ _ (ne _ (by omega))).trans e2, (nC _ _ _ _ (ne _ (by omega))).trans e3, e4.set hc hu⟩
theorem FillQ.set3 {W : World} {b n k : Nat} {f : Nat → Rat} (h : FillQ W b n k f) (hk : k < n) {s : Bool} {A B : Option Addr} {x c m d : Nat} (hq : rQ W (.agg #[.bool s, .slice A x c, .slice B m d]) (f k)) :
  FillQ (((W.setCell ⟨b, k * 3, none⟩ (.bool s)).setCell ⟨b, k * 3 + 1, none⟩ (.slice A x c)).setCell ⟨b, k * 3 + 2, none⟩ (.slice B m d)) b n (k + 1) f := by
 have g1 := h.set1 (k * 3) (.bool s) (by omega) (by omega) rfl
 have g2 := g1.set1 (k * 3 + 1) (.slice A x c) (by omega) (by omega) rfl
 have g3 := g2.set1 (k * 3 + 2) (.slice B m d) (by omega) (by omega) rfl
 obtain ⟨u0, c0, n0, _⟩ := h.cell (k * 3) (by omega)
 obtain ⟨u1, c1, n1, _⟩ := g1.cell (k * 3 + 1) (by omega)
 obtain ⟨u2, c2, n2, _⟩ := g2.cell (k * 3 + 2) (by omega)
 refine ⟨g3.own, fun j hj => ?_⟩
 rcases Nat.lt_or_ge j k with hjk | hjk
 · exact g3.got j hjk
 ·
  obtain rfl : j = k := by omega
  obtain ⟨⟨cs, o1, o2, _⟩, _⟩ := h
  have s1 := o1.set (j * 3) (.bool s)
  have s2 := s1.set (j * 3 + 1) (.slice A x c)
  have s3 := s2.set (j * 3 + 2) (.slice B m d)
  refine ⟨s, _, _, s3.cell _ _ ?_, s3.cell _ _ ?_, s3.cell _ _ ?_, ((hq.set c0 n0).set c1 n1).set c2 n2⟩
  · rw [List.getElem?_set_ne (by omega), List.getElem?_set_ne (by omega), List.getElem?_set_self (by omega)]
  · rw [List.getElem?_set_ne (by omega), List.getElem?_set_self (by simp; omega)]
  · rw [List.getElem?_set_self (by simp; omega)]
def zeroQ : Array Value := #[.bool false, .slice none 0 0, .slice none 0 0]
theorem undQs : Tryz.prog.underlying 58 = some (.slice 32) := by kernel_rfl
theorem infoQ2 : ∃ i z, Tryz.prog.info? 32 = some i ∧ i.zero = some z ∧ z.cells = zeroQ ∧ i.size = 3 ∧ i.bytes ≤ 64 := by
 have h : (Tryz.prog.info? 32).map (fun i => (i.zero.map Value.cells, i.size, decide (i.bytes ≤ 64))) = some (some zeroQ, 3, true) := by kernel_rfl
 obtain ⟨i, hi, he⟩ := Option.map_eq_some_iff.1 h
 simp only [Prod.mk.injEq] at he
 obtain ⟨z, hz, hc⟩ := Option.map_eq_some_iff.1 he.1
 exact ⟨i, z, hi, hz, hc, he.2.1, of_decide_eq_true he.2.2⟩
theorem mkQ (n : Int) (m : Nat) (e : n = m) (hn : m ≤ 1099511627776) (W : World) : (Instr.makeSlice 58 (.int .i64 n) (.int .i64 n)).run Tryz.prog W = .ok (.slice (some ⟨W.heap.size, 0, none⟩) m m) (W.alloc (.cells (madeCells zeroQ (m * 3)) 32)) := by
 subst e
 obtain ⟨i, z, hi, hz, h1, h2, h3⟩ := infoQ2
 have hb : (i.bytes : Int) * (m : Int) ≤ 64 * m := Int.mul_le_mul_of_nonneg_right (by omega) (by omega)
 have h := run_make (P := Tryz.prog) W _ _ i z undQs hi hz .i64 .i64 m m (by omega) (by omega) (by omega) (by omega)
 rw [h, h1, h2]
 simp
theorem FillQ.start (w : World) (n : Nat) (f : Nat → Rat) : FillQ (w.alloc (.cells (madeCells zeroQ (n * 3)) 32)) w.heap.size n 0 f := by
 refine ⟨⟨(madeCells zeroQ (n * 3)).toList, by have := Own.new w 32 (madeCells zeroQ (n * 3)).toList; simpa using this, by rw [Array.length_toList, size_madeCells]; omega, fun i v h => ?_⟩, fun j hj => absurd hj (by omega)⟩
 have h2 : v ∈ (madeCells zeroQ (n * 3)).toList := List.mem_of_getElem? h
 simp only [madeCells, Array.toList_map, List.mem_map] at h2
 obtain ⟨j, _, rfl⟩ := h2
 have h3 : j % zeroQ.size < 3 := Nat.mod_lt _ (by decide)
 generalize j % zeroQ.size = x at h3
 match x, h3 with
 | 0, _ => rfl
 | 1, _ => rfl
 | 2, _ => rfl
theorem FillQ.done {W : World} {b n : Nat} {f : Nat → Rat} (h : FillQ W b n n f) (l : List Rat) (hl : l.length = n) (hf : ∀ j (hj : j < l.length), f j = l[j]) : rQs W (.slice (some ⟨b, 0, none⟩) n n) l := by
 refine ⟨_, n, by rw [hl], by omega, fun _ => ⟨b, 0, rfl, fun j hj => ?_⟩⟩
 obtain ⟨s, u, r, e1, e2, e3, e4⟩ := h.got j (by omega)
 simp only [Nat.zero_add]
 exact ⟨s, u, r, e1, e2, e3, by rw [← hf j hj]; exact e4⟩
theorem Own.others3 {W : World} {b b' i : Nat} {t : TypeId} {cs : List Value} {x0 x1 x2 : Value} (h : Own W b' t cs) (hne : b' ≠ b) : Own (((W.setCell ⟨b, i, none⟩ x0).setCell ⟨b, i + 1, none⟩ x1).setCell ⟨b, i + 2, none⟩ x2) b' t cs :=
 ((h.other _ hne).other _ hne).other _ hne
theorem FillQ.others3 {W : World} {b b' n k i : Nat} {f : Nat → Rat} {v0 v1 v2 x0 x1 x2 : Value} (h : FillQ W b n k f) (hne : b ≠ b') (h0 : W.cell? ⟨b', i, none⟩ = some v0) (h1 : W.cell? ⟨b', i + 1, none⟩ = some v1) (h2 : W.cell? ⟨b', i + 2, none⟩ = some v2) (n0 : noInt v0 = true) (n1 : noInt v1 = true) (n2 : noInt v2 = true) :
  FillQ (((W.setCell ⟨b', i, none⟩ x0).setCell ⟨b', i + 1, none⟩ x1).setCell ⟨b', i + 2, none⟩ x2) b n k f := by
 have e1 := (nC W ⟨b', i, none⟩ ⟨b', i + 1, none⟩ x0 (by simp)).trans h1
 have e2 := (nC W ⟨b', i, none⟩ ⟨b', i + 2, none⟩ x0 (by simp)).trans h2
 have e3 := (nC (W.setCell ⟨b', i, none⟩ x0) ⟨b', i + 1, none⟩ ⟨b', i + 2, none⟩ x1 (by simp)).trans e2
 exact ((h.other x0 hne h0 n0).other x1 hne e1 n1).other x2 hne e3 n2
theorem below3 {w W : World} {b i : Nat} {x0 x1 x2 : Value} (h : Below w.heap.size w W) (hb : w.heap.size ≤ b) : Below w.heap.size w (((W.setCell ⟨b, i, none⟩ x0).setCell ⟨b, i + 1, none⟩ x1).setCell ⟨b, i + 2, none⟩ x2) :=
 ((h.setCell hb _).setCell hb _).setCell hb _
end Go.Proofs.YtadpjidakippeaaGreat
