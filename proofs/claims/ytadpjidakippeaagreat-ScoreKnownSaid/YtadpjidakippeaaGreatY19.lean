/- frac.Make by 0; frac.Over, score.over, of counts. -/
import Derived.Test.YtadpjidakippeaaGreatY15
import Derived.Test.YtadpjidakippeaaGreatY18
set_option linter.unusedVariables false
set_option linter.unusedSimpArgs false
namespace Go.Proofs.YtadpjidakippeaaGreat
open Go.RowKit
def QOverSaid (w' : World) (v : Value) (n : Int) (d : Nat) : Prop := ∃ s A c k B e m, v = .tuple #[.agg #[.bool s, .slice A k c, .slice B m e], .bool (decide (d ≠ 0))] ∧ rQ w' (.agg #[.bool s, .slice A k c, .slice B m e]) (mkRat n d)
theorem QOverSaid.of_make {W : World} {v : Value} {n : Int} {d : Nat} (hd : d ≠ 0) (h : QMakeSaid W v n d) : QOverSaid W v n d := by
 obtain ⟨q, hv, h⟩ := h
 obtain ⟨s, A, c, k, B, e, m, rfl, h⟩ := h.shape
 exact ⟨s, A, c, k, B, e, m, by rw [hv, decide_eq_true hd], h⟩
set_option maxRecDepth 100000 in
set_option maxHeartbeats 2000000 in
/-- frac.Make, of a lower part 0 -/
theorem qmake0_c (w : World) (vn vd : Value) (n : Int) (ha : rInt w vn n) (hb : rInt w vd 0) :
  Calls Tryz.prog 93 #[vn, vd] w (Post w fun r w' => QOverSaid w' r n 0) := by
 obtain ⟨s1, A1, c1, n1, rfl, ha⟩ := ha.shape
 obtain ⟨s2, A2, c2, n2, rfl, hb⟩ := hb.shape
 have HS := Lib.hid (fun W h => sign_c W (.agg #[.bool s2, .slice A2 n2 c2]) 0 h (by unfold Fit; rw [Int.natAbs_zero, bl_zero]; omega))
 rw [show (0 : Int).sign = 0 from rfl] at HS
 have H1 := Lib.hid ha
 have H2 := Lib.hid hb
 have HB : Hid (Cells [(w.heap.size, 0, .bool s1), (w.heap.size, 1, .slice A1 n1 c1), (w.heap.size + 1, 0, .bool s2), (w.heap.size + 1, 1, .slice A2 n2 c2)] (((w.alloc (.cells #[.bool s1, .slice A1 n1 c1] 30)).alloc (.cells #[.bool s2, .slice A2 n2 c2] 30)).alloc (.cells #[.bool false, .slice none 0 0, .slice none 0 0] 32))) := Lib.hid (Cells.cons (by go_simp) (Cells.cons (by go_simp) (Cells.cons (by go_simp) (Cells.cons (by go_simp) (Cells.nil _)))))
 have HO0 := Lib.hid (Own.new' ((w.alloc (.cells #[.bool s1, .slice A1 n1 c1] 30)).alloc (.cells #[.bool s2, .slice A2 n2 c2] 30)) 32 [.bool false, .slice none 0 0, .slice none 0 0] (w.heap.size + 1 + 1) (by simp))
 have hbw : Below w.heap.size w (((w.alloc (.cells #[.bool s1, .slice A1 n1 c1] 30)).alloc (.cells #[.bool s2, .slice A2 n2 c2] 30)).alloc (.cells #[.bool false, .slice none 0 0, .slice none 0 0] 32)) := (by repeat (first | assumption | exact nB1 _ _ | refine nB2 ?_ | refine pw_below_drewN ?_ _ | refine nB3 ?_ (by first | omega | (simp <;> omega)) _ | refine nB4 ?_ (by first | omega | (simp <;> omega)) _ | refine nB5 ?_ (by assumption) (by first | omega | (simp <;> omega))))
 clear ha hb
 go_enter Tryz.func93, Tryz.ntmps93
 go_wp2_with fail
 generalize (((w.alloc (.cells #[.bool s1, .slice A1 n1 c1] 30)).alloc (.cells #[.bool s2, .slice A2 n2 c2] 30)).alloc (.cells #[.bool false, .slice none 0 0, .slice none 0 0] 32)) = W0 at HB HO0 hbw ⊢
 obtain ⟨y0, y1, y2, y3, _⟩ := id HB.out
 go_wp2_with fail
 clear y0 y1 y2 y3
 refine (HS.out _ (H2.out.ext hbw)).mono ?_
 rintro e W1 ⟨v1, rfl, hb1, rfl⟩
 replace HB := Lib.hid (HB.out.ext hb1)
 replace HO0 := Lib.hid (HO0.out.ext hb1)
 replace hbw := nT hbw hb1
 clear hb1
 have q0 := HO0.out.cell 0 _ rfl
 have f0 := HO0.out.frozen 0
 have q1 := HO0.out.cell 1 _ rfl
 have f1 := HO0.out.frozen 1
 have q2 := HO0.out.cell 2 _ rfl
 have f2 := HO0.out.frozen 2
 go_wp2_with fail
 replace HB := Lib.hid (HB.out.set (p := ⟨w.heap.size + 1 + 1, 0, none⟩) (.bool false) (by simp <;> omega))
 replace HO0 := Lib.hid (HO0.out.set 0 (.bool false))
 replace hbw := nB4 hbw (show w.heap.size ≤ (⟨w.heap.size + 1 + 1, 0, none⟩ : Addr).block by simp <;> omega) (.bool false)
 replace q1 := (nC W1 ⟨w.heap.size + 1 + 1, 0, none⟩ ⟨w.heap.size + 1 + 1, 1, none⟩ (.bool false) (by simp)).trans q1
 replace q2 := (nC W1 ⟨w.heap.size + 1 + 1, 0, none⟩ ⟨w.heap.size + 1 + 1, 2, none⟩ (.bool false) (by simp)).trans q2
 replace HB := Lib.hid (HB.out.set (p := ⟨w.heap.size + 1 + 1, 1, none⟩) (.slice none 0 0) (by simp <;> omega))
 replace HO0 := Lib.hid (HO0.out.set 1 (.slice none 0 0))
 replace hbw := nB4 hbw (show w.heap.size ≤ (⟨w.heap.size + 1 + 1, 1, none⟩ : Addr).block by simp <;> omega) (.slice none 0 0)
 replace q2 := (nC (W1.setCell ⟨w.heap.size + 1 + 1, 0, none⟩ (.bool false)) ⟨w.heap.size + 1 + 1, 1, none⟩ ⟨w.heap.size + 1 + 1, 2, none⟩ (.slice none 0 0) (by simp)).trans q2
 replace HB := Lib.hid (HB.out.set (p := ⟨w.heap.size + 1 + 1, 2, none⟩) (.slice none 0 0) (by simp <;> omega))
 replace HO0 := Lib.hid (HO0.out.set 2 (.slice none 0 0))
 replace hbw := nB4 hbw (show w.heap.size ≤ (⟨w.heap.size + 1 + 1, 2, none⟩ : Addr).block by simp <;> omega) (.slice none 0 0)
 clear q0 f0 q1 f1 q2 f2
 replace HO0 : Hid (Own _ _ _ [.bool false, .slice none 0 0, .slice none 0 0]) := HO0
 generalize (((W1.setCell ⟨w.heap.size + 1 + 1, 0, none⟩ (.bool false)).setCell ⟨w.heap.size + 1 + 1, 1, none⟩ (.slice none 0 0)).setCell ⟨w.heap.size + 1 + 1, 2, none⟩ (.slice none 0 0)) = W2 at HB HO0 hbw ⊢
 have kk0 := HO0.out.cell 0 _ rfl
 have kk1 := HO0.out.cell 1 _ rfl
 have kk2 := HO0.out.cell 2 _ rfl
 refine bodyPost_ret (v := .tuple #[.agg #[.bool false, .slice none 0 0, .slice none 0 0], .bool false]) (by simp [results, Tryz.results93, go_sem, kk0, kk1, kk2]) rfl ⟨_, rfl, hbw, ?_⟩
 refine ⟨false, none, 0, 0, none, 0, 0, rfl, ?_⟩
 rw [show mkRat n 0 = 0 from by simp [mkRat]]
 exact rQd.mk (by exact ⟨_, rNat.zero _, rfl⟩) (rNat.zero _)
theorem qmakez_c (w : World) (vn vd : Value) (n : Int) (d : Nat) (ha : rInt w vn n) (hb : rInt w vd (d : Int)) (f1 : bl n.natAbs ≤ 35184372088600) (f2 : bl d ≤ 35184372088600) :
  Calls Tryz.prog 93 #[vn, vd] w (Post w fun r w' => QOverSaid w' r n d) := by
 rcases Nat.eq_zero_or_pos d with rfl | hd
 · exact qmake0_c w vn vd n ha (by simpa using hb)
 · exact (qmake_c w vn vd n d ha hb hd f1 f2).mono (fun _ _ h => h.map (fun _ _ h => QOverSaid.of_make (by omega) h))
set_option maxRecDepth 100000 in
set_option maxHeartbeats 2000000 in
/-- frac.Over, d not below 0 -/
theorem qover_c (w : World) (n : Int) (d : Nat) (hn : I64 n) (hd : d < 9223372036854775808) : Calls Tryz.prog 57 #[.int .i64 n, .int .i64 (d : Nat)] w (Post w fun r w' => QOverSaid w' r n d) := by
 have f1 : bl n.natAbs ≤ 35184372088600 := Nat.le_trans (bl_le_of_lt (k := 64) (by unfold I64 at hn; omega)) (by omega)
 have f2 : bl d ≤ 35184372088600 := Nat.le_trans (bl_le_of_lt (k := 64) (by omega)) (by omega)
 have HN := Lib.hid (fun W => iof_c W n hn.1 hn.2)
 have HD := Lib.hid (fun W => iof_c W (d : Int) (by omega) (by omega))
 have HM := Lib.hid (fun W v u h h' => qmakez_c W v u n d h h' f1 f2)
 clear f1 f2 hd hn
 have HB : Hid (Cells [] (w.alloc (.cells #[.bool false, .slice none 0 0, .slice none 0 0] 32))) := Lib.hid (Cells.nil _)
 have HO0 := Lib.hid (Own.new' w 32 [.bool false, .slice none 0 0, .slice none 0 0] (w.heap.size) (by simp))
 have hbw : Below w.heap.size w (w.alloc (.cells #[.bool false, .slice none 0 0, .slice none 0 0] 32)) := (by repeat (first | assumption | exact nB1 _ _ | refine nB2 ?_ | refine pw_below_drewN ?_ _ | refine nB3 ?_ (by first | omega | (simp <;> omega)) _ | refine nB4 ?_ (by first | omega | (simp <;> omega)) _ | refine nB5 ?_ (by assumption) (by first | omega | (simp <;> omega))))
 go_enter Tryz.func57, Tryz.ntmps57
 go_wp2_with fail
 generalize (w.alloc (.cells #[.bool false, .slice none 0 0, .slice none 0 0] 32)) = W0 at HB HO0 hbw ⊢
 refine (HN.out _).mono ?_
 rintro e W1 ⟨v1, rfl, hb1, hr1⟩
 obtain ⟨Es, EA, Ec, En, rfl, hr1⟩ := hr1.shape
 replace HB := Lib.hid (HB.out.ext hb1)
 replace HO0 := Lib.hid (HO0.out.ext hb1)
 replace hbw := nT hbw hb1
 have R1 := Lib.hid hr1
 clear hr1
 clear hb1
 go_wp2_with fail
 refine (HD.out _).mono ?_
 rintro e W2 ⟨v1, rfl, hb1, hr1⟩
 obtain ⟨Fs, FA, Fc, Fn, rfl, hr1⟩ := hr1.shape
 replace HB := Lib.hid (HB.out.ext hb1)
 replace HO0 := Lib.hid (HO0.out.ext hb1)
 replace R1 := Lib.hid (R1.out.ext hb1)
 replace hbw := nT hbw hb1
 have R2 := Lib.hid hr1
 clear hr1
 clear hb1
 go_wp2_with fail
 refine (HM.out _ _ _ R1.out R2.out).mono ?_
 rintro e W3 ⟨v1, rfl, hb1, s1, A1, c1, n1, B1, k1, m1, rfl, hr1⟩
 replace HB := Lib.hid (HB.out.ext hb1)
 replace HO0 := Lib.hid (HO0.out.ext hb1)
 replace R1 := Lib.hid (R1.out.ext hb1)
 replace R2 := Lib.hid (R2.out.ext hb1)
 replace hbw := nT hbw hb1
 have R3 := Lib.hid hr1
 clear hr1
 clear hb1
 have q0 := HO0.out.cell 0 _ rfl
 have f0 := HO0.out.frozen 0
 have q1 := HO0.out.cell 1 _ rfl
 have f1 := HO0.out.frozen 1
 have q2 := HO0.out.cell 2 _ rfl
 have f2 := HO0.out.frozen 2
 go_wp2_with fail
 replace HB := Lib.hid (HB.out.set (p := ⟨w.heap.size, 0, none⟩) (.bool s1) (by simp <;> omega))
 replace HO0 := Lib.hid (HO0.out.set 0 (.bool s1))
 replace R1 := Lib.hid (R1.out.set (x := .bool s1) q0 rfl)
 replace R2 := Lib.hid (R2.out.set (x := .bool s1) q0 rfl)
 replace R3 := Lib.hid (R3.out.set (x := .bool s1) q0 rfl)
 replace hbw := nB4 hbw (show w.heap.size ≤ (⟨w.heap.size, 0, none⟩ : Addr).block by simp <;> omega) (.bool s1)
 replace q1 := (nC W3 ⟨w.heap.size, 0, none⟩ ⟨w.heap.size, 1, none⟩ (.bool s1) (by simp)).trans q1
 replace q2 := (nC W3 ⟨w.heap.size, 0, none⟩ ⟨w.heap.size, 2, none⟩ (.bool s1) (by simp)).trans q2
 replace HB := Lib.hid (HB.out.set (p := ⟨w.heap.size, 1, none⟩) (.slice A1 n1 c1) (by simp <;> omega))
 replace HO0 := Lib.hid (HO0.out.set 1 (.slice A1 n1 c1))
 replace R1 := Lib.hid (R1.out.set (x := .slice A1 n1 c1) q1 rfl)
 replace R2 := Lib.hid (R2.out.set (x := .slice A1 n1 c1) q1 rfl)
 replace R3 := Lib.hid (R3.out.set (x := .slice A1 n1 c1) q1 rfl)
 replace hbw := nB4 hbw (show w.heap.size ≤ (⟨w.heap.size, 1, none⟩ : Addr).block by simp <;> omega) (.slice A1 n1 c1)
 replace q2 := (nC (W3.setCell ⟨w.heap.size, 0, none⟩ (.bool s1)) ⟨w.heap.size, 1, none⟩ ⟨w.heap.size, 2, none⟩ (.slice A1 n1 c1) (by simp)).trans q2
 replace HB := Lib.hid (HB.out.set (p := ⟨w.heap.size, 2, none⟩) (.slice B1 m1 k1) (by simp <;> omega))
 replace HO0 := Lib.hid (HO0.out.set 2 (.slice B1 m1 k1))
 replace R1 := Lib.hid (R1.out.set (x := .slice B1 m1 k1) q2 rfl)
 replace R2 := Lib.hid (R2.out.set (x := .slice B1 m1 k1) q2 rfl)
 replace R3 := Lib.hid (R3.out.set (x := .slice B1 m1 k1) q2 rfl)
 replace hbw := nB4 hbw (show w.heap.size ≤ (⟨w.heap.size, 2, none⟩ : Addr).block by simp <;> omega) (.slice B1 m1 k1)
 clear q0 f0 q1 f1 q2 f2
 replace HO0 : Hid (Own _ _ _ [.bool s1, .slice A1 n1 c1, .slice B1 m1 k1]) := HO0
 generalize (((W3.setCell ⟨w.heap.size, 0, none⟩ (.bool s1)).setCell ⟨w.heap.size, 1, none⟩ (.slice A1 n1 c1)).setCell ⟨w.heap.size, 2, none⟩ (.slice B1 m1 k1)) = W4 at HB HO0 R1 R2 R3 hbw ⊢
 have kk0 := HO0.out.cell 0 _ rfl
 have kk1 := HO0.out.cell 1 _ rfl
 have kk2 := HO0.out.cell 2 _ rfl
 refine bodyPost_ret (v := .tuple #[.agg #[.bool s1, .slice A1 n1 c1, .slice B1 m1 k1], .bool (decide (d ≠ 0))]) (by simp [results, Tryz.results57, go_sem, kk0, kk1, kk2]) rfl ⟨_, rfl, hbw, ?_⟩
 exact ⟨_, _, _, _, _, _, _, rfl, R3.out⟩
set_option maxRecDepth 100000 in
set_option maxHeartbeats 2000000 in
/-- score.over, d not below 0 -/
theorem over_c (w : World) (n : Int) (d : Nat) (hn : I64 n) (hd : d < 9223372036854775808) : Calls Tryz.prog 23 #[.int .i64 n, .int .i64 (d : Nat)] w (Post w fun r w' => rQ w' r (mkRat n d)) := by
 have HO := Lib.hid (fun W => qover_c W n d hn hd)
 clear hd hn
 have HB : Hid (Cells [] (w.alloc (.cells #[.bool false, .slice none 0 0, .slice none 0 0] 32))) := Lib.hid (Cells.nil _)
 have HO0 := Lib.hid (Own.new' w 32 [.bool false, .slice none 0 0, .slice none 0 0] (w.heap.size) (by simp))
 have hbw : Below w.heap.size w (w.alloc (.cells #[.bool false, .slice none 0 0, .slice none 0 0] 32)) := (by repeat (first | assumption | exact nB1 _ _ | refine nB2 ?_ | refine pw_below_drewN ?_ _ | refine nB3 ?_ (by first | omega | (simp <;> omega)) _ | refine nB4 ?_ (by first | omega | (simp <;> omega)) _ | refine nB5 ?_ (by assumption) (by first | omega | (simp <;> omega))))
 go_enter Tryz.func23, Tryz.ntmps23
 go_wp2_with fail
 generalize (w.alloc (.cells #[.bool false, .slice none 0 0, .slice none 0 0] 32)) = W0 at HB HO0 hbw ⊢
 refine (HO.out _).mono ?_
 rintro e W1 ⟨v1, rfl, hb1, s1, A1, c1, n1, B1, k1, m1, rfl, hr1⟩
 replace HB := Lib.hid (HB.out.ext hb1)
 replace HO0 := Lib.hid (HO0.out.ext hb1)
 replace hbw := nT hbw hb1
 have R3 := Lib.hid hr1
 clear hr1
 clear hb1
 go_upto_region 2 with (fail)
 have z_H5 := hbw.size
 have z_H5_HO0 := HO0.out.lt
 replace HB := Lib.hid (HB.out.alloc (.cells #[.bool s1, .slice A1 n1 c1, .slice B1 m1 k1] 32))
 replace HO0 := Lib.hid (HO0.out.alloc (.cells #[.bool s1, .slice A1 n1 c1, .slice B1 m1 k1] 32))
 replace R3 := Lib.hid (R3.out.alloc (.cells #[.bool s1, .slice A1 n1 c1, .slice B1 m1 k1] 32))
 replace hbw := nB3 hbw hbw.size (.cells #[.bool s1, .slice A1 n1 c1, .slice B1 m1 k1] 32)
 have H5 := Lib.hid (Own.new' W1 32 [.bool s1, .slice A1 n1 c1, .slice B1 m1 k1] W1.heap.size rfl)
 obtain ⟨bH5, e_H5⟩ : ∃ b, W1.heap.size = b := ⟨_, rfl⟩
 simp only [e_H5] at H5 z_H5 z_H5_HO0 ⊢
 generalize (W1.alloc (.cells #[.bool s1, .slice A1 n1 c1, .slice B1 m1 k1] 32)) = W2 at HB HO0 R3 H5 hbw ⊢
 have x_H5_0 := H5.out.cell 0 _ rfl
 have f_H5_0 := H5.out.frozen 0
 have x_H5_1 := H5.out.cell 1 _ rfl
 have f_H5_1 := H5.out.frozen 1
 have x_H5_2 := H5.out.cell 2 _ rfl
 have f_H5_2 := H5.out.frozen 2
 have q0 := HO0.out.cell 0 _ rfl
 have f0 := HO0.out.frozen 0
 have q1 := HO0.out.cell 1 _ rfl
 have f1 := HO0.out.frozen 1
 have q2 := HO0.out.cell 2 _ rfl
 have f2 := HO0.out.frozen 2
 go_wp2_with fail
 replace HB := Lib.hid (HB.out.set (p := ⟨w.heap.size, 0, none⟩) (.bool s1) (by simp <;> omega))
 replace HO0 := Lib.hid (HO0.out.set 0 (.bool s1))
 replace R3 := Lib.hid (R3.out.set (x := .bool s1) q0 rfl)
 replace H5 := Lib.hid (H5.out.other (p := ⟨w.heap.size, 0, none⟩) (.bool s1) (by simp <;> omega))
 replace hbw := nB4 hbw (show w.heap.size ≤ (⟨w.heap.size, 0, none⟩ : Addr).block by simp <;> omega) (.bool s1)
 replace q1 := (nC W2 ⟨w.heap.size, 0, none⟩ ⟨w.heap.size, 1, none⟩ (.bool s1) (by simp)).trans q1
 replace q2 := (nC W2 ⟨w.heap.size, 0, none⟩ ⟨w.heap.size, 2, none⟩ (.bool s1) (by simp)).trans q2
 replace HB := Lib.hid (HB.out.set (p := ⟨w.heap.size, 1, none⟩) (.slice A1 n1 c1) (by simp <;> omega))
 replace HO0 := Lib.hid (HO0.out.set 1 (.slice A1 n1 c1))
 replace R3 := Lib.hid (R3.out.set (x := .slice A1 n1 c1) q1 rfl)
 replace H5 := Lib.hid (H5.out.other (p := ⟨w.heap.size, 1, none⟩) (.slice A1 n1 c1) (by simp <;> omega))
 replace hbw := nB4 hbw (show w.heap.size ≤ (⟨w.heap.size, 1, none⟩ : Addr).block by simp <;> omega) (.slice A1 n1 c1)
 replace q2 := (nC (W2.setCell ⟨w.heap.size, 0, none⟩ (.bool s1)) ⟨w.heap.size, 1, none⟩ ⟨w.heap.size, 2, none⟩ (.slice A1 n1 c1) (by simp)).trans q2
 replace HB := Lib.hid (HB.out.set (p := ⟨w.heap.size, 2, none⟩) (.slice B1 m1 k1) (by simp <;> omega))
 replace HO0 := Lib.hid (HO0.out.set 2 (.slice B1 m1 k1))
 replace R3 := Lib.hid (R3.out.set (x := .slice B1 m1 k1) q2 rfl)
 replace H5 := Lib.hid (H5.out.other (p := ⟨w.heap.size, 2, none⟩) (.slice B1 m1 k1) (by simp <;> omega))
 replace hbw := nB4 hbw (show w.heap.size ≤ (⟨w.heap.size, 2, none⟩ : Addr).block by simp <;> omega) (.slice B1 m1 k1)
 clear q0 f0 q1 f1 q2 f2
 replace HO0 : Hid (Own _ _ _ [.bool s1, .slice A1 n1 c1, .slice B1 m1 k1]) := HO0
 generalize (((W2.setCell ⟨w.heap.size, 0, none⟩ (.bool s1)).setCell ⟨w.heap.size, 1, none⟩ (.slice A1 n1 c1)).setCell ⟨w.heap.size, 2, none⟩ (.slice B1 m1 k1)) = W3 at HB HO0 R3 H5 hbw ⊢
 have kk0 := HO0.out.cell 0 _ rfl
 have kk1 := HO0.out.cell 1 _ rfl
 have kk2 := HO0.out.cell 2 _ rfl
 refine bodyPost_ret (v := .agg #[.bool s1, .slice A1 n1 c1, .slice B1 m1 k1]) (by simp [results, Tryz.results23, go_sem, kk0, kk1, kk2]) rfl ⟨_, rfl, hbw, ?_⟩
 exact R3.out
end Go.Proofs.YtadpjidakippeaaGreat

/- score.Rates: what it computes; a list that is being filled, of elements of several fractions. -/
namespace Go.Proofs.YtadpjidakippeaaGreat
open Go.RowKit
/-- A list of fractions that is being filled, in a block of whatever type: k of n are there. -/
structure FillT (t : TypeId) (W : World) (b n k : Nat) (f : Nat → Rat) : Prop where
 own : ∃ cs : List Value, Own W b t cs ∧ cs.length = 3 * n ∧ ∀ (i : Nat) (v : Value), cs[i]? = some v → noInt v = true
 got : ∀ j, j < k → ∃ s u r, W.cell? ⟨b, j * 3, none⟩ = some (.bool s) ∧ W.cell? ⟨b, j * 3 + 1, none⟩ = some u ∧ W.cell? ⟨b, j * 3 + 2, none⟩ = some r ∧ rQ W (.agg #[.bool s, u, r]) (f j)
theorem FillT.ext {t : TypeId} {W W' : World} {b n k : Nat} {f : Nat → Rat} (h : FillT t W b n k f) (he : Ext W W') : FillT t W' b n k f := by
 obtain ⟨⟨cs, h1, h2⟩, h3⟩ := h
 refine ⟨⟨cs, h1.ext he, h2⟩, fun j hj => ?_⟩
 obtain ⟨s, u, r, e1, e2, e3, e4⟩ := h3 j hj
 exact ⟨s, u, r, ext_cell he e1, ext_cell he e2, ext_cell he e3, e4.ext he⟩
theorem FillT.drew {t : TypeId} {W : World} {b n k : Nat} {f : Nat → Rat} (h : FillT t W b n k f) : FillT t W.drew b n k f := ⟨h.own, h.got⟩
theorem FillT.alloc {t : TypeId} {W : World} {b n k : Nat} {f : Nat → Rat} (h : FillT t W b n k f) (o : Obj) : FillT t (W.alloc o) b n k f := h.ext (ext_alloc _ _)
theorem FillT.lt {t : TypeId} {W : World} {b n k : Nat} {f : Nat → Rat} (h : FillT t W b n k f) : b < W.heap.size := by obtain ⟨⟨cs, h1, _⟩, _⟩ := h; exact h1.lt
theorem FillT.cell {t : TypeId} {W : World} {b n k : Nat} {f : Nat → Rat} (h : FillT t W b n k f) (i : Nat) (hi : i < 3 * n) : ∃ v, W.cell? ⟨b, i, none⟩ = some v ∧ noInt v = true ∧ W.frozen? ⟨b, i, none⟩ = false := by
 obtain ⟨⟨cs, h1, h2, h3⟩, _⟩ := h
 have hi' : i < cs.length := by omega
 refine ⟨cs[i], h1.cell i _ (List.getElem?_eq_getElem hi'), h3 i _ (List.getElem?_eq_getElem hi'), h1.frozen i⟩
theorem FillT.other {t : TypeId} {W : World} {b n k : Nat} {f : Nat → Rat} (h : FillT t W b n k f) {p : Addr} (v : Value) {u : Value} (hp : b ≠ p.block) (hc : W.cell? p = some u) (hu : noInt u = true) : FillT t (W.setCell p v) b n k f := by
 obtain ⟨⟨cs, h1, h2⟩, h3⟩ := h
 refine ⟨⟨cs, h1.other v hp, h2⟩, fun j hj => ?_⟩
 obtain ⟨s, u, r, e1, e2, e3, e4⟩ := h3 j hj
 have ne : ∀ i, p ≠ (⟨b, i, none⟩ : Addr) := fun i e => hp (by rw [e])
 exact ⟨s, u, r, (nC _ _ _ _ (ne _)).trans e1, (nC _ _ _ _ (ne _)).trans e2, (nC _ _ _ _ (ne _)).trans e3, e4.set hc hu⟩
theorem FillT.set1 {t : TypeId} {W : World} {b n k : Nat} {f : Nat → Rat} (h : FillT t W b n k f) (i : Nat) (v : Value) (h1 : k * 3 ≤ i) (h2 : i < 3 * n) (hv : noInt v = true) : FillT t (W.setCell ⟨b, i, none⟩ v) b n k f := by
 obtain ⟨u, hc, hu, _⟩ := h.cell i h2
 obtain ⟨⟨cs, o1, o2, o3⟩, h3⟩ := h
 refine ⟨⟨cs.set i v, o1.set i v, by simpa using o2, fun j x hx => ?_⟩, fun j hj => ?_⟩
 ·
  rw [List.getElem?_set] at hx
  split at hx
  ·
   split at hx
   · injection hx with hx; rw [← hx]; exact hv
   · cases hx
  · exact o3 _ _ hx
 ·
  obtain ⟨s, u', r, e1, e2, e3, e4⟩ := h3 j hj
  have ne : ∀ m, m < k * 3 → (⟨b, i, none⟩ : Addr) ≠ ⟨b, m, none⟩ := fun m hm e => by injection e with _ e; omega
  exact ⟨s, u', r, (nC _ _ _ _ (ne _ (by omega))).trans e1, (nC _ _ _ _ (ne _ (by omega))).trans e2, (nC _ _ _ _ (ne _ (by omega))).trans e3, e4.set hc hu⟩
theorem FillT.set3 {t : TypeId} {W : World} {b n k : Nat} {f : Nat → Rat} (h : FillT t W b n k f) (hk : k < n) {s : Bool} {A B : Option Addr} {x c m d : Nat} (hq : rQ W (.agg #[.bool s, .slice A x c, .slice B m d]) (f k)) :
  FillT t (((W.setCell ⟨b, k * 3, none⟩ (.bool s)).setCell ⟨b, k * 3 + 1, none⟩ (.slice A x c)).setCell ⟨b, k * 3 + 2, none⟩ (.slice B m d)) b n (k + 1) f := by
 have g1 := h.set1 (k * 3) (.bool s) (by omega) (by omega) rfl
 have g2 := g1.set1 (k * 3 + 1) (.slice A x c) (by omega) (by omega) rfl
 have g3 := g2.set1 (k * 3 + 2) (.slice B m d) (by omega) (by omega) rfl
 obtain ⟨u0, c0, n0, _⟩ := h.cell (k * 3) (by omega)
 obtain ⟨u1, c1, n1, _⟩ := g1.cell (k * 3 + 1) (by omega)
 obtain ⟨u2, c2, n2, _⟩ := g2.cell (k * 3 + 2) (by omega)
 refine ⟨g3.own, fun j hj => ?_⟩
 rcases Nat.lt_or_ge j k with hjk | hjk
 · exact g3.got j hjk
 ·
  obtain rfl : j = k := by omega
  obtain ⟨⟨cs, o1, o2, _⟩, _⟩ := h
  have s1 := o1.set (j * 3) (.bool s)
  have s2 := s1.set (j * 3 + 1) (.slice A x c)
  have s3 := s2.set (j * 3 + 2) (.slice B m d)
  refine ⟨s, _, _, s3.cell _ _ ?_, s3.cell _ _ ?_, s3.cell _ _ ?_, ((hq.set c0 n0).set c1 n1).set c2 n2⟩
  · rw [List.getElem?_set_ne (by omega), List.getElem?_set_ne (by omega), List.getElem?_set_self (by omega)]
  · rw [List.getElem?_set_ne (by omega), List.getElem?_set_self (by simp; omega)]
  · rw [List.getElem?_set_self (by simp; omega)]
theorem FillT.set9 {t : TypeId} {W : World} {b k i : Nat} {f : Nat → Rat} (h : FillT t W b (3 * k) (3 * i) f) (hi : i < k) {s0 s1 s2 : Bool} {A0 B0 A1 B1 A2 B2 : Option Addr} {x0 c0 m0 d0 x1 c1 m1 d1 x2 c2 m2 d2 : Nat}
  (h0 : rQ W (.agg #[.bool s0, .slice A0 x0 c0, .slice B0 m0 d0]) (f (3 * i))) (h1 : rQ W (.agg #[.bool s1, .slice A1 x1 c1, .slice B1 m1 d1]) (f (3 * i + 1))) (h2 : rQ W (.agg #[.bool s2, .slice A2 x2 c2, .slice B2 m2 d2]) (f (3 * i + 2))) :
  FillT t (((((((((W.setCell ⟨b, i * 9, none⟩ (.bool s0)).setCell ⟨b, i * 9 + 1, none⟩ (.slice A0 x0 c0)).setCell ⟨b, i * 9 + 2, none⟩ (.slice B0 m0 d0)).setCell ⟨b, i * 9 + 3, none⟩ (.bool s1)).setCell ⟨b, i * 9 + 4, none⟩ (.slice A1 x1 c1)).setCell ⟨b, i * 9 + 5, none⟩ (.slice B1 m1 d1)).setCell ⟨b, i * 9 + 6, none⟩ (.bool s2)).setCell ⟨b, i * 9 + 7, none⟩ (.slice A2 x2 c2)).setCell ⟨b, i * 9 + 8, none⟩ (.slice B2 m2 d2)) b (3 * k) (3 * (i + 1)) f := by
 have e0 : 3 * i * 3 = i * 9 := by omega
 have e1 : (3 * i + 1) * 3 = i * 9 + 3 := by omega
 have e2 : (3 * i + 1 + 1) * 3 = i * 9 + 6 := by omega
 obtain ⟨v0, q0, n0, _⟩ := h.cell (3 * i * 3) (by omega)
 obtain ⟨v1, q1, n1, _⟩ := h.cell (3 * i * 3 + 1) (by omega)
 obtain ⟨v2, q2, n2, _⟩ := h.cell (3 * i * 3 + 2) (by omega)
 have g1 := h.set3 (by omega) h0
 have h1' := sets3 (x0 := .bool s0) (x1 := .slice A0 x0 c0) (x2 := .slice B0 m0 d0) q0 q1 q2 n0 n1 n2 h1
 have h2' := sets3 (x0 := .bool s0) (x1 := .slice A0 x0 c0) (x2 := .slice B0 m0 d0) q0 q1 q2 n0 n1 n2 h2
 obtain ⟨v3, q3, n3, _⟩ := g1.cell ((3 * i + 1) * 3) (by omega)
 obtain ⟨v4, q4, n4, _⟩ := g1.cell ((3 * i + 1) * 3 + 1) (by omega)
 obtain ⟨v5, q5, n5, _⟩ := g1.cell ((3 * i + 1) * 3 + 2) (by omega)
 have g2 := g1.set3 (by omega) h1'
 have h2'' := sets3 (x0 := .bool s1) (x1 := .slice A1 x1 c1) (x2 := .slice B1 m1 d1) q3 q4 q5 n3 n4 n5 h2'
 have g3 := g2.set3 (by omega) h2''
 rw [e0, e1, e2] at g3
 exact g3
theorem below9 {w W : World} {b i : Nat} {x0 x1 x2 x3 x4 x5 x6 x7 x8 : Value} {n : Nat} (h : Below n w W) (hb : n ≤ b) : Below n w (((((((((W.setCell ⟨b, i * 9, none⟩ x0).setCell ⟨b, i * 9 + 1, none⟩ x1).setCell ⟨b, i * 9 + 2, none⟩ x2).setCell ⟨b, i * 9 + 3, none⟩ x3).setCell ⟨b, i * 9 + 4, none⟩ x4).setCell ⟨b, i * 9 + 5, none⟩ x5).setCell ⟨b, i * 9 + 6, none⟩ x6).setCell ⟨b, i * 9 + 7, none⟩ x7).setCell ⟨b, i * 9 + 8, none⟩ x8) :=
 ((((((((h.setCell hb _).setCell hb _).setCell hb _).setCell hb _).setCell hb _).setCell hb _).setCell hb _).setCell hb _).setCell hb _
theorem cell9 {W : World} {b i g o : Nat} {x0 x1 x2 x3 x4 x5 x6 x7 x8 v : Value} (h : W.cell? ⟨g, o, none⟩ = some v) (hb : g ≠ b) : (((((((((W.setCell ⟨b, i * 9, none⟩ x0).setCell ⟨b, i * 9 + 1, none⟩ x1).setCell ⟨b, i * 9 + 2, none⟩ x2).setCell ⟨b, i * 9 + 3, none⟩ x3).setCell ⟨b, i * 9 + 4, none⟩ x4).setCell ⟨b, i * 9 + 5, none⟩ x5).setCell ⟨b, i * 9 + 6, none⟩ x6).setCell ⟨b, i * 9 + 7, none⟩ x7).setCell ⟨b, i * 9 + 8, none⟩ x8).cell? ⟨g, o, none⟩ = some v := by
 have ne : ∀ m : Nat, (⟨b, m, none⟩ : Addr) ≠ ⟨g, o, none⟩ := fun m e => by injection e with e; exact hb e.symm
 rw [nC _ _ _ _ (ne _), nC _ _ _ _ (ne _), nC _ _ _ _ (ne _), nC _ _ _ _ (ne _), nC _ _ _ _ (ne _), nC _ _ _ _ (ne _), nC _ _ _ _ (ne _), nC _ _ _ _ (ne _), nC _ _ _ _ (ne _)]
 exact h
def ratP (T : List (List Int)) (k i : Nat) : Rat := mkRat (at2 T i i) (sumF (fun i' => at2 T i' i) k).toNat
def ratR (T : List (List Int)) (k i : Nat) : Rat := mkRat (at2 T i i) (sumF (at2 T i) k).toNat
def ratB (T : List (List Int)) (k i : Nat) : Rat := (2 * ratP T k i * ratR T k i) / (ratP T k i + ratR T k i)
def rateQ (T : List (List Int)) (k m : Nat) : Rat := if m % 3 = 0 then ratP T k (m / 3) else if m % 3 = 1 then ratR T k (m / 3) else ratB T k (m / 3)
theorem rateQ_0 (T : List (List Int)) (k i : Nat) : rateQ T k (3 * i) = ratP T k i := by
 unfold rateQ
 rw [if_pos (by omega), show 3 * i / 3 = i by omega]
theorem rateQ_1 (T : List (List Int)) (k i : Nat) : rateQ T k (3 * i + 1) = ratR T k i := by
 unfold rateQ
 rw [if_neg (by omega), if_pos (by omega), show (3 * i + 1) / 3 = i by omega]
theorem rateQ_2 (T : List (List Int)) (k i : Nat) : rateQ T k (3 * i + 2) = ratB T k i := by
 unfold rateQ
 rw [if_neg (by omega), if_neg (by omega), show (3 * i + 2) / 3 = i by omega]
theorem qb_mkRat (n : Int) (d : Nat) (h1 : n.natAbs < 18446744073709551616) (h2 : d < 18446744073709551616) : qb (mkRat n d) ≤ 64 := by
 rcases Nat.eq_zero_or_pos d with rfl | hd
 ·
  rw [show mkRat n 0 = 0 from by simp [mkRat]]
  show qb 0 ≤ 64
  rw [qb_zero]; omega
 ·
  obtain ⟨p1, p2⟩ := mkRat_parts n d (by omega)
  unfold qb
  rw [p1, p2]
  have a1 : (n / ((Nat.gcd n.natAbs d : Nat) : Int)).natAbs ≤ n.natAbs := by
   have hg : ((Nat.gcd n.natAbs d : Nat) : Int) ∣ n := Int.ofNat_dvd_left.2 (Nat.gcd_dvd_left _ _)
   rw [Int.natAbs_ediv_of_dvd hg, Int.natAbs_natCast]
   exact Nat.div_le_self _ _
  have a2 := Nat.div_le_self d (Nat.gcd n.natAbs d)
  have b1 : bl (n / ((Nat.gcd n.natAbs d : Nat) : Int)).natAbs ≤ 64 := bl_le_of_lt (k := 64) (by omega)
  have b2 : bl (d / Nat.gcd n.natAbs d) ≤ 64 := bl_le_of_lt (k := 64) (by omega)
  omega
theorem sumF_le {f g : Nat → Int} {k : Nat} (h : ∀ j, j < k → f j ≤ g j) : ∀ n, n ≤ k → sumF f n ≤ sumF g n
 | 0, _ => Int.le_refl _
 | n + 1, hn => by have := sumF_le h n (by omega); have := h n (by omega); simp only [sumF]; omega
/-- Rows, columns and entries of a table of counts. -/
theorem OkT.row {T : List (List Int)} {k : Nat} (h : OkT T k) {i : Nat} (hi : i < k) (j : Nat) (hj : j ≤ k) : 0 ≤ sumF (at2 T i) j ∧ sumF (at2 T i) j ≤ 2147483647 := by
 have e0 : ∀ i j, i < k → j ≤ k → 0 ≤ sumF (at2 T i) j := fun i j hi hj => sumF_nonneg (fun j hj => h.pos i j hi hj) j hj
 refine ⟨e0 i j hi hj, ?_⟩
 have h1 := sumF_mono (fun j hj => h.pos i j hi hj) j k hj (Nat.le_refl _)
 have h2 := sumF_term (f := fun i => sumF (at2 T i) k) (fun i hi => e0 i k hi (Nat.le_refl _)) i hi
 have h3 := h.all
 omega
theorem OkT.col {T : List (List Int)} {k : Nat} (h : OkT T k) {i : Nat} (hi : i < k) (j : Nat) (hj : j ≤ k) : 0 ≤ sumF (fun i' => at2 T i' i) j ∧ sumF (fun i' => at2 T i' i) j ≤ 2147483647 := by
 refine ⟨sumF_nonneg (fun j hj => h.pos j i hj hi) j hj, ?_⟩
 have h1 := sumF_mono (f := fun i' => at2 T i' i) (fun j hj => h.pos j i hj hi) j k hj (Nat.le_refl _)
 have h2 := sumF_le (f := fun i' => at2 T i' i) (g := fun i' => sumF (at2 T i') k) (k := k) (fun j hj => sumF_term (fun m hm => h.pos j m hj hm) i hi) k (Nat.le_refl _)
 have h3 := h.all
 omega
theorem OkT.entry {T : List (List Int)} {k : Nat} (h : OkT T k) {i j : Nat} (hi : i < k) (hj : j < k) : 0 ≤ at2 T i j ∧ at2 T i j ≤ 2147483647 := by
 have h1 := sumF_term (fun m hm => h.pos i m hi hm) j hj
 have h2 := h.row hi k (Nat.le_refl _)
 have h3 := h.pos i j hi hj
 omega
def zeroR : Array Value := #[.bool false, .slice none 0 0, .slice none 0 0, .bool false, .slice none 0 0, .slice none 0 0, .bool false, .slice none 0 0, .slice none 0 0]
theorem undRates : Tryz.prog.underlying 53 = some (.slice 66) := by kernel_rfl
theorem infoRate : ∃ i z, Tryz.prog.info? 66 = some i ∧ i.zero = some z ∧ z.cells = zeroR ∧ i.size = 9 ∧ i.bytes ≤ 256 := by
 have h : (Tryz.prog.info? 66).map (fun i => (i.zero.map Value.cells, i.size, decide (i.bytes ≤ 256))) = some (some zeroR, 9, true) := by kernel_rfl
 obtain ⟨i, hi, he⟩ := Option.map_eq_some_iff.1 h
 simp only [Prod.mk.injEq] at he
 obtain ⟨z, hz, hc⟩ := Option.map_eq_some_iff.1 he.1
 exact ⟨i, z, hi, hz, hc, he.2.1, of_decide_eq_true he.2.2⟩
theorem mkRates (n : Int) (m : Nat) (e : n = m) (hn : m ≤ 1099511627775) (W : World) : (Instr.makeSlice 53 (.int .i64 n) (.int .i64 n)).run Tryz.prog W = .ok (.slice (some ⟨W.heap.size, 0, none⟩) m m) (W.alloc (.cells (madeCells zeroR (m * 9)) 66)) := by
 subst e
 obtain ⟨i, z, hi, hz, h1, h2, h3⟩ := infoRate
 have hb : (i.bytes : Int) * (m : Int) ≤ 256 * m := Int.mul_le_mul_of_nonneg_right (by omega) (by omega)
 have h := run_make (P := Tryz.prog) W _ _ i z undRates hi hz .i64 .i64 m m (by omega) (by omega) (by omega) (by omega)
 rw [h, h1, h2]
 simp
theorem FillT.startR (w : World) (n : Nat) (f : Nat → Rat) : FillT 66 (w.alloc (.cells (madeCells zeroR (n * 9)) 66)) w.heap.size (3 * n) (3 * 0) f := by
 refine ⟨⟨(madeCells zeroR (n * 9)).toList, by have := Own.new w 66 (madeCells zeroR (n * 9)).toList; simpa using this, by rw [Array.length_toList, size_madeCells]; omega, fun i v h => ?_⟩, fun j hj => absurd hj (by omega)⟩
 have h2 : v ∈ (madeCells zeroR (n * 9)).toList := List.mem_of_getElem? h
 simp only [madeCells, Array.toList_map, List.mem_map] at h2
 obtain ⟨j, _, rfl⟩ := h2
 have h3 : j % zeroR.size < 9 := Nat.mod_lt _ (by decide)
 generalize j % zeroR.size = x at h3
 match x, h3 with
 | 0, _ => rfl
 | 1, _ => rfl
 | 2, _ => rfl
 | 3, _ => rfl
 | 4, _ => rfl
 | 5, _ => rfl
 | 6, _ => rfl
 | 7, _ => rfl
 | 8, _ => rfl
def RatesSaid (w' : World) (r : Value) (T : List (List Int)) (k : Nat) : Prop := ∃ g c, r = .tuple #[.slice (some ⟨g, 0, none⟩) k c, .int .i64 0] ∧ FillT 66 w' g (3 * k) (3 * k) (rateQ T k)
end Go.Proofs.YtadpjidakippeaaGreat
