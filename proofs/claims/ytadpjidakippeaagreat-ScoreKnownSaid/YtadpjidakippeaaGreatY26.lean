/- ScoreKnown. -/
import Derived.Test.YtadpjidakippeaaGreatY17
import Derived.Test.YtadpjidakippeaaGreatY21
import Derived.Test.YtadpjidakippeaaGreatY22
import Derived.Test.YtadpjidakippeaaGreatY25
set_option linter.unusedVariables false
set_option linter.unusedSimpArgs false
namespace Go.Proofs.YtadpjidakippeaaGreat
open Go.RowKit
theorem rIs_1 {W : World} {b : Nat} {x : Int} (h : Own W b 3 [.int .i64 x]) (hx : I64 x) : rIs W (.slice (some ⟨b, 0, none⟩) 1 1) [x] := by
 refine ⟨_, 1, rfl, Nat.le_refl _, ?_, fun _ => ⟨b, 0, rfl, fun j hj => ?_⟩⟩
 ·
  intro u hu
  simp only [List.mem_cons, List.not_mem_nil, or_false] at hu
  rw [hu]; exact hx
 ·
  match j, hj with
  | 0, _ => exact h.cell 0 _ rfl
theorem rIs_2 {W : World} {b : Nat} {x y : Int} (h : Own W b 3 [.int .i64 x, .int .i64 y]) (hx : I64 x) (hy : I64 y) : rIs W (.slice (some ⟨b, 0, none⟩) 2 2) [x, y] := by
 refine ⟨_, 2, rfl, Nat.le_refl _, ?_, fun _ => ⟨b, 0, rfl, fun j hj => ?_⟩⟩
 ·
  intro u hu
  simp only [List.mem_cons, List.not_mem_nil, or_false] at hu
  rcases hu with rfl | rfl <;> assumption
 ·
  match j, hj with
  | 0, _ => exact h.cell 0 _ rfl
  | 1, _ => exact h.cell 1 _ rfl
theorem rIss_1 {W : World} {b : Nat} {u : Value} {l : List Int} (h : Own W b 22 [u]) (hu : rIs W u l) : rIss W (.slice (some ⟨b, 0, none⟩) 1 1) [l] := by
 refine ⟨_, 1, rfl, Nat.le_refl _, fun _ => ⟨b, 0, rfl, fun j hj => ?_⟩⟩
 match j, hj with
 | 0, _ => exact ⟨u, h.cell 0 _ rfl, hu⟩
theorem rIss_2 {W : World} {b : Nat} {u v : Value} {l m : List Int} (h : Own W b 22 [u, v]) (hu : rIs W u l) (hv : rIs W v m) : rIss W (.slice (some ⟨b, 0, none⟩) 2 2) [l, m] := by
 refine ⟨_, 2, rfl, Nat.le_refl _, fun _ => ⟨b, 0, rfl, fun j hj => ?_⟩⟩
 match j, hj with
 | 0, _ => exact ⟨u, h.cell 0 _ rfl, hu⟩
 | 1, _ => exact ⟨v, h.cell 1 _ rfl, hv⟩
theorem rQs_1 {W : World} {b : Nat} {s : Bool} {u v : Value} {q : Rat} (h : Own W b 32 [.bool s, u, v]) (h1 : rQ W (.agg #[.bool s, u, v]) q) : rQs W (.slice (some ⟨b, 0, none⟩) 1 1) [q] := by
 refine ⟨_, 1, rfl, Nat.le_refl _, fun _ => ⟨b, 0, rfl, fun j hj => ?_⟩⟩
 match j, hj with
 | 0, _ => exact ⟨s, u, v, h.cell 0 _ rfl, h.cell 1 _ rfl, h.cell 2 _ rfl, h1⟩
theorem rQs_2 {W : World} {b : Nat} {s s' : Bool} {u v u' v' : Value} {q q' : Rat} (h : Own W b 32 [.bool s, u, v, .bool s', u', v']) (h1 : rQ W (.agg #[.bool s, u, v]) q) (h2 : rQ W (.agg #[.bool s', u', v']) q') : rQs W (.slice (some ⟨b, 0, none⟩) 2 2) [q, q'] := by
 refine ⟨_, 2, rfl, Nat.le_refl _, fun _ => ⟨b, 0, rfl, fun j hj => ?_⟩⟩
 match j, hj with
 | 0, _ => exact ⟨s, u, v, h.cell 0 _ rfl, h.cell 1 _ rfl, h.cell 2 _ rfl, h1⟩
 | 1, _ => exact ⟨s', u', v', h.cell 3 _ rfl, h.cell 4 _ rfl, h.cell 5 _ rfl, h2⟩
theorem rQs_3 {W : World} {b : Nat} {s s' s2 : Bool} {u v u' v' u2 v2 : Value} {q q' q2 : Rat} (h : Own W b 32 [.bool s, u, v, .bool s', u', v', .bool s2, u2, v2]) (h1 : rQ W (.agg #[.bool s, u, v]) q) (h2 : rQ W (.agg #[.bool s', u', v']) q') (h3 : rQ W (.agg #[.bool s2, u2, v2]) q2) : rQs W (.slice (some ⟨b, 0, none⟩) 3 3) [q, q', q2] := by
 refine ⟨_, 3, rfl, Nat.le_refl _, fun _ => ⟨b, 0, rfl, fun j hj => ?_⟩⟩
 match j, hj with
 | 0, _ => exact ⟨s, u, v, h.cell 0 _ rfl, h.cell 1 _ rfl, h.cell 2 _ rfl, h1⟩
 | 1, _ => exact ⟨s', u', v', h.cell 3 _ rfl, h.cell 4 _ rfl, h.cell 5 _ rfl, h2⟩
 | 2, _ => exact ⟨s2, u2, v2, h.cell 6 _ rfl, h.cell 7 _ rfl, h.cell 8 _ rfl, h3⟩
theorem rQss_1 {W : World} {b : Nat} {u : Value} {l : List Rat} (h : Own W b 58 [u]) (hu : rQs W u l) : rQss W (.slice (some ⟨b, 0, none⟩) 1 1) [l] := by
 refine ⟨_, 1, rfl, Nat.le_refl _, fun _ => ⟨b, 0, rfl, fun j hj => ?_⟩⟩
 match j, hj with
 | 0, _ => exact ⟨u, h.cell 0 _ rfl, hu⟩
theorem rBs_1 {W : World} {b : Nat} {x : Bool} (h : Own W b 4 [.bool x]) : rBs W (.slice (some ⟨b, 0, none⟩) 1 1) [x] := by
 refine ⟨_, 1, rfl, Nat.le_refl _, fun _ => ⟨b, 0, rfl, fun j hj => ?_⟩⟩
 match j, hj with
 | 0, _ => exact h.cell 0 _ rfl
theorem rBs_3 {W : World} {b : Nat} {x y z : Bool} (h : Own W b 4 [.bool x, .bool y, .bool z]) : rBs W (.slice (some ⟨b, 0, none⟩) 3 3) [x, y, z] := by
 refine ⟨_, 3, rfl, Nat.le_refl _, fun _ => ⟨b, 0, rfl, fun j hj => ?_⟩⟩
 match j, hj with
 | 0, _ => exact h.cell 0 _ rfl
 | 1, _ => exact h.cell 1 _ rfl
 | 2, _ => exact h.cell 2 _ rfl
/-! ### what the parts come to -/
theorem kn_v : toldV [1] = 0 := by kernel_rfl
theorem kn_area : mkRat (halfTo [true, false, true] [3, 2, 2] [true, false, true].length [true, false, true].length) (2 * yesN [true, false, true] * ([true, false, true].length - yesN [true, false, true])) = mkRat 3 4 := by kernel_rfl
theorem kn_p : ratP [[0, 0], [1, 1]] 2 0 = mkRat 0 1 := by kernel_rfl
theorem kn_r : ratR [[0, 0], [1, 1]] 2 1 = mkRat 1 2 := by kernel_rfl
theorem kn_b : ratB [[0, 0], [1, 1]] 2 1 = mkRat 2 3 := by kernel_rfl
theorem kn_sq : Sq [[0, 0], [1, 1]] 2 := ⟨rfl, by intro l hl; simp only [List.mem_cons, List.not_mem_nil, or_false] at hl; rcases hl with rfl | rfl <;> rfl⟩
theorem kn_ok : OkT [[0, 0], [1, 1]] 2 := ⟨fun i j hi hj => by
 match i, hi, j, hj with
 | 0, _, 0, _ => decide
 | 0, _, 1, _ => decide
 | 1, _, 0, _ => decide
 | 1, _, 1, _ => decide, by decide⟩
end Go.Proofs.YtadpjidakippeaaGreat

/- ScoreKnown: the walk. -/
namespace Go.Proofs.YtadpjidakippeaaGreat
open Go.RowKit
theorem FillT.atN {t : TypeId} {W : World} {b n k : Nat} {f : Nat → Rat} (h : FillT t W b n k f) (m i i1 i2 : Nat) (hm : m < k) (e0 : m * 3 = i) (e1 : i + 1 = i1) (e2 : i + 2 = i2) :
  ∃ s A c n B k m', W.cell? ⟨b, i, none⟩ = some (.bool s) ∧ W.cell? ⟨b, i1, none⟩ = some (.slice A n c) ∧ W.cell? ⟨b, i2, none⟩ = some (.slice B m' k) ∧ rQ W (.agg #[.bool s, .slice A n c, .slice B m' k]) (f m) := by
 subst e0 e1 e2
 obtain ⟨s, u, r, h1, h2, h3, h4⟩ := h.got m hm
 obtain ⟨s', A, c, n, B, d, m', e, h4⟩ := h4.shape
 simp only [Value.agg.injEq, Array.mk.injEq, List.cons.injEq, Value.bool.injEq, and_true] at e
 obtain ⟨rfl, rfl, rfl⟩ := e
 exact ⟨s, A, c, n, B, d, m', h1, h2, h3, h4⟩
theorem any_2 : [(2 : Int)].any (badC (2 : Int)) = true := by decide
theorem kn_wt (q : Rat) (h : qb q ≤ 64) : wt [q] ≤ 65 := by
 unfold wt
 simp only [List.map_cons, List.map_nil, List.sum_cons, List.sum_nil]
 omega
set_option maxRecDepth 100000 in
set_option maxHeartbeats 8000000 in
/-- ScoreKnown -/
theorem known_c (w : World) : Calls Tryz.prog 4 #[] w (Post w fun r _ => r = .bool true) := by
 have H1 := Lib.hid (fun W => right_no W none none 0 0 0 0 (by omega))
 have H2 := Lib.hid (fun W v u h h' => table_bad W v u [0] [2] 2 h h' rfl (by decide) (by decide) (.inr (.inr (.inr any_2))))
 have H3 := Lib.hid (fun W v h => rates_no W v [[1, 2]] h (by decide) (.inr (by decide)))
 have H4 := Lib.hid (fun W v u h h' => (told_ok W v u [1] [1] h h' rfl (by decide) (by decide) (by intro i hi; match i, hi with | 0, _ => exact of_decide_eq_true (by kernel_rfl)) (of_decide_eq_true (by kernel_rfl)) (by intro i hi; match i, hi with | 0, _ => exact of_decide_eq_true (by kernel_rfl)) (of_decide_eq_true (by kernel_rfl)) (of_decide_eq_true (by kernel_rfl))).mono (fun _ _ h => h.map (fun _ _ h => (show ScSaid _ _ 6 0 from by unfold ToldSaid at h; rw [if_pos kn_v] at h; exact h))))
 have H5 := Lib.hid (fun W A B c d v h => tilt_high W A B 1 c d v 2 h (of_decide_eq_true (by kernel_rfl)) (by decide) (by kernel_rfl) (of_decide_eq_true (by kernel_rfl)))
 have H6 := Lib.hid (fun W v B d h => area_none W v B 1 d [true] h rfl (by decide) (by decide) (.inr (by decide)))
 have H7 := Lib.hid (fun W v u h h' => area_ok W v u [true, false, true] [3, 2, 2] h h' rfl (by decide) (by decide) (by decide) (by
  intro i k hi hk
  have e : ∀ i, i < 3 → qb ([(3 : Rat), 2, 2].getD i 0) ≤ 4 := fun i hi => by match i, hi with | 0, _ => exact of_decide_eq_true (by kernel_rfl) | 1, _ => exact of_decide_eq_true (by kernel_rfl) | 2, _ => exact of_decide_eq_true (by kernel_rfl)
  have := e i hi
  have := e k hk
  omega))
 rw [kn_area] at H7
 have H8 := Lib.hid (fun W v h => rates_c W v [[0, 0], [1, 1]] 2 h kn_sq (by decide) (by decide) kn_ok)
 have H9 := Lib.hid (fun W v u h h' => brier_bad W v u [2] [[1, 0]] h h' rfl (by decide) (by decide) 2 (by intro l hl; simp only [List.mem_cons, List.not_mem_nil, or_false] at hl; rw [hl]; rfl) (by decide) (by decide))
 have HKN := Lib.hid known9_c
 have HO0' := Lib.hid (fun W => qof_c W 0 ⟨by omega, by omega⟩)
 have HO1 := Lib.hid (fun W => qof_c W 1 ⟨by omega, by omega⟩)
 have HO2 := Lib.hid (fun W => qof_c W 2 ⟨by omega, by omega⟩)
 have HO3 := Lib.hid (fun W => qof_c W 3 ⟨by omega, by omega⟩)
 rw [show ((0 : Int) : Rat) = 0 from rfl] at HO0'
 rw [show ((1 : Int) : Rat) = 1 from rfl] at HO1
 rw [show ((2 : Int) : Rat) = 2 from rfl] at HO2
 rw [show ((3 : Int) : Rat) = 3 from rfl] at HO3
 have HI1 := Lib.hid (fun W v h => is_c W v (mkRat 3 4) 3 4 h (by decide) (by decide) (by decide) (by decide))
 have HI2 := Lib.hid (fun W v h => is_c W v (mkRat 0 1) 0 1 h (by decide) (by decide) (by decide) (by decide))
 have HI3 := Lib.hid (fun W v h => is_c W v (mkRat 1 2) 1 2 h (by decide) (by decide) (by decide) (by decide))
 have HI4 := Lib.hid (fun W v h => is_c W v (mkRat 2 3) 2 3 h (by decide) (by decide) (by decide) (by decide))
 rw [show decide (mkRat 3 4 = mkRat ((3 : Int)) 4) = true from by kernel_rfl] at HI1
 rw [show decide (mkRat 0 1 = mkRat ((0 : Int)) 1) = true from by kernel_rfl] at HI2
 rw [show decide (mkRat 1 2 = mkRat ((1 : Int)) 2) = true from by kernel_rfl] at HI3
 rw [show decide (mkRat 2 3 = mkRat ((2 : Int)) 3) = true from by kernel_rfl] at HI4
 have HB : Hid (Cells [] w) := Lib.hid (Cells.nil _)
 have hbw : Below w.heap.size w w := Below.refl _ _
 go_enter Tryz.func4, Tryz.ntmps4
 go_wp2_with fail
 refine (H1.out _).mono ?_
 rintro e W1 ⟨v1, rfl, hb1, s1, A1, c1, n1, B1, k1, m1, rfl, hr1⟩
 replace HB := Lib.hid (HB.out.ext hb1)
 replace hbw := nT hbw hb1
 have Q1 := Lib.hid hr1
 clear hr1
 clear hb1
 go_upto_region 2 with (fail)
 have z_G1 := hbw.size
 replace HB := Lib.hid (HB.out.alloc (.cells #[.bool s1, .slice A1 n1 c1, .slice B1 m1 k1] 32))
 replace Q1 := Lib.hid (Q1.out.alloc (.cells #[.bool s1, .slice A1 n1 c1, .slice B1 m1 k1] 32))
 replace hbw := nB3 hbw hbw.size (.cells #[.bool s1, .slice A1 n1 c1, .slice B1 m1 k1] 32)
 have G1 := Lib.hid (Own.new' W1 32 [.bool s1, .slice A1 n1 c1, .slice B1 m1 k1] W1.heap.size rfl)
 obtain ⟨bG1, e_G1⟩ : ∃ b, W1.heap.size = b := ⟨_, rfl⟩
 simp only [e_G1] at G1 z_G1 ⊢
 generalize (W1.alloc (.cells #[.bool s1, .slice A1 n1 c1, .slice B1 m1 k1] 32)) = W2 at HB Q1 G1 hbw ⊢
 clear G1 Q1
 go_wp2_with fail
 have z_L1 := hbw.size
 replace HB := Lib.hid (HB.out.alloc (.cells #[.int .i64 0] 3))
 replace hbw := nB3 hbw hbw.size (.cells #[.int .i64 0] 3)
 have L1 := Lib.hid (Own.new' W2 3 [.int .i64 0] W2.heap.size rfl)
 obtain ⟨bL1, e_L1⟩ : ∃ b, W2.heap.size = b := ⟨_, rfl⟩
 simp only [e_L1] at L1 z_L1 ⊢
 have s_L1 : ((W2.alloc (.cells #[.int .i64 0] 3))).heap.size = bL1 + 1 := by rw [← e_L1]; exact Array.size_push ..
 generalize (W2.alloc (.cells #[.int .i64 0] 3)) = W3 at HB L1 s_L1 hbw ⊢
 have z_L2 := hbw.size
 have z_L2_L1 := L1.out.lt
 replace HB := Lib.hid (HB.out.alloc (.cells #[.int .i64 2] 3))
 replace L1 := Lib.hid (L1.out.alloc (.cells #[.int .i64 2] 3))
 replace hbw := nB3 hbw hbw.size (.cells #[.int .i64 2] 3)
 have L2 := Lib.hid (Own.new' W3 3 [.int .i64 2] W3.heap.size rfl)
 obtain ⟨bL2, e_L2⟩ : ∃ b, W3.heap.size = b := ⟨_, rfl⟩
 simp only [show bL1 + 1 = bL2 from s_L1.symm.trans e_L2]
 simp only [e_L2] at L2 z_L2 z_L2_L1 ⊢
 have s_L2 : ((W3.alloc (.cells #[.int .i64 2] 3))).heap.size = bL2 + 1 := by rw [← e_L2]; exact Array.size_push ..
 generalize (W3.alloc (.cells #[.int .i64 2] 3)) = W4 at HB L1 L2 s_L2 hbw ⊢
 refine (H2.out _ _ _ (rIs_1 L1.out ⟨by omega, by omega⟩) (rIs_1 L2.out ⟨by omega, by omega⟩)).mono ?_
 rintro e W5 ⟨v1, rfl, hb1, rfl⟩
 replace HB := Lib.hid (HB.out.ext hb1)
 replace L1 := Lib.hid (L1.out.ext hb1)
 replace L2 := Lib.hid (L2.out.ext hb1)
 replace hbw := nT hbw hb1
 clear hb1
 clear L1 L2
 go_wp2_with fail
 have z_L3 := hbw.size
 replace HB := Lib.hid (HB.out.alloc (.cells #[.int .i64 1, .int .i64 2] 3))
 replace hbw := nB3 hbw hbw.size (.cells #[.int .i64 1, .int .i64 2] 3)
 have L3 := Lib.hid (Own.new' W5 3 [.int .i64 1, .int .i64 2] W5.heap.size rfl)
 obtain ⟨bL3, e_L3⟩ : ∃ b, W5.heap.size = b := ⟨_, rfl⟩
 simp only [e_L3] at L3 z_L3 ⊢
 have s_L3 : ((W5.alloc (.cells #[.int .i64 1, .int .i64 2] 3))).heap.size = bL3 + 1 := by rw [← e_L3]; exact Array.size_push ..
 generalize (W5.alloc (.cells #[.int .i64 1, .int .i64 2] 3)) = W6 at HB L3 s_L3 hbw ⊢
 have z_L4 := hbw.size
 have z_L4_L3 := L3.out.lt
 replace HB := Lib.hid (HB.out.alloc (.cells #[.slice (some ⟨bL3, 0, none⟩) 2 2] 22))
 replace L3 := Lib.hid (L3.out.alloc (.cells #[.slice (some ⟨bL3, 0, none⟩) 2 2] 22))
 replace hbw := nB3 hbw hbw.size (.cells #[.slice (some ⟨bL3, 0, none⟩) 2 2] 22)
 have L4 := Lib.hid (Own.new' W6 22 [.slice (some ⟨bL3, 0, none⟩) 2 2] W6.heap.size rfl)
 obtain ⟨bL4, e_L4⟩ : ∃ b, W6.heap.size = b := ⟨_, rfl⟩
 simp only [show bL3 + 1 = bL4 from s_L3.symm.trans e_L4]
 simp only [e_L4] at L4 z_L4 z_L4_L3 ⊢
 have s_L4 : ((W6.alloc (.cells #[.slice (some ⟨bL3, 0, none⟩) 2 2] 22))).heap.size = bL4 + 1 := by rw [← e_L4]; exact Array.size_push ..
 generalize (W6.alloc (.cells #[.slice (some ⟨bL3, 0, none⟩) 2 2] 22)) = W7 at HB L3 L4 s_L4 hbw ⊢
 refine (H3.out _ _ (rIss_1 L4.out (rIs_2 L3.out ⟨by omega, by omega⟩ ⟨by omega, by omega⟩))).mono ?_
 rintro e W8 ⟨v1, rfl, hb1, rfl⟩
 replace HB := Lib.hid (HB.out.ext hb1)
 replace L3 := Lib.hid (L3.out.ext hb1)
 replace L4 := Lib.hid (L4.out.ext hb1)
 replace hbw := nT hbw hb1
 clear hb1
 clear L3 L4
 go_wp2_with fail
 refine (HO1.out _).mono ?_
 rintro e W9 ⟨v1, rfl, hb1, hr1⟩
 obtain ⟨Qs, QA, Qc, Qn, QB, Qd, Qm, rfl, hr1⟩ := hr1.shape
 replace HB := Lib.hid (HB.out.ext hb1)
 replace hbw := nT hbw hb1
 have R1 := Lib.hid hr1
 clear hr1
 clear hb1
 go_wp2_with fail
 have z_L5 := hbw.size
 replace HB := Lib.hid (HB.out.alloc (.cells #[.bool Qs, .slice QA Qn Qc, .slice QB Qm Qd] 32))
 replace R1 := Lib.hid (R1.out.alloc (.cells #[.bool Qs, .slice QA Qn Qc, .slice QB Qm Qd] 32))
 replace hbw := nB3 hbw hbw.size (.cells #[.bool Qs, .slice QA Qn Qc, .slice QB Qm Qd] 32)
 have L5 := Lib.hid (Own.new' W9 32 [.bool Qs, .slice QA Qn Qc, .slice QB Qm Qd] W9.heap.size rfl)
 obtain ⟨bL5, e_L5⟩ : ∃ b, W9.heap.size = b := ⟨_, rfl⟩
 simp only [e_L5] at L5 z_L5 ⊢
 generalize (W9.alloc (.cells #[.bool Qs, .slice QA Qn Qc, .slice QB Qm Qd] 32)) = W10 at HB R1 L5 hbw ⊢
 refine (HO1.out _).mono ?_
 rintro e W11 ⟨v1, rfl, hb1, hr1⟩
 obtain ⟨Ps, PA, Pc, Pn, PB, Pd, Pm, rfl, hr1⟩ := hr1.shape
 replace HB := Lib.hid (HB.out.ext hb1)
 replace R1 := Lib.hid (R1.out.ext hb1)
 replace L5 := Lib.hid (L5.out.ext hb1)
 replace hbw := nT hbw hb1
 have R2 := Lib.hid hr1
 clear hr1
 clear hb1
 go_wp2_with fail
 have z_L6 := hbw.size
 have z_L6_L5 := L5.out.lt
 replace HB := Lib.hid (HB.out.alloc (.cells #[.bool Ps, .slice PA Pn Pc, .slice PB Pm Pd] 32))
 replace R1 := Lib.hid (R1.out.alloc (.cells #[.bool Ps, .slice PA Pn Pc, .slice PB Pm Pd] 32))
 replace L5 := Lib.hid (L5.out.alloc (.cells #[.bool Ps, .slice PA Pn Pc, .slice PB Pm Pd] 32))
 replace R2 := Lib.hid (R2.out.alloc (.cells #[.bool Ps, .slice PA Pn Pc, .slice PB Pm Pd] 32))
 replace hbw := nB3 hbw hbw.size (.cells #[.bool Ps, .slice PA Pn Pc, .slice PB Pm Pd] 32)
 have L6 := Lib.hid (Own.new' W11 32 [.bool Ps, .slice PA Pn Pc, .slice PB Pm Pd] W11.heap.size rfl)
 obtain ⟨bL6, e_L6⟩ : ∃ b, W11.heap.size = b := ⟨_, rfl⟩
 simp only [e_L6] at L6 z_L6 z_L6_L5 ⊢
 generalize (W11.alloc (.cells #[.bool Ps, .slice PA Pn Pc, .slice PB Pm Pd] 32)) = W12 at HB R1 L5 R2 L6 hbw ⊢
 refine (H4.out _ _ _ (rQs_1 L5.out R1.out) (rQs_1 L6.out R2.out)).mono ?_
 rintro e W13 ⟨v1, rfl, hb1, s2, A2, c2, n2, B2, k2, m2, rfl, hr1⟩
 replace HB := Lib.hid (HB.out.ext hb1)
 replace R1 := Lib.hid (R1.out.ext hb1)
 replace L5 := Lib.hid (L5.out.ext hb1)
 replace R2 := Lib.hid (R2.out.ext hb1)
 replace L6 := Lib.hid (L6.out.ext hb1)
 replace hbw := nT hbw hb1
 have Q2 := Lib.hid hr1
 clear hr1
 clear hb1
 go_upto_region 5 with (fail)
 have z_G2 := hbw.size
 have z_G2_L5 := L5.out.lt
 have z_G2_L6 := L6.out.lt
 replace HB := Lib.hid (HB.out.alloc (.cells #[.bool s2, .slice A2 n2 c2, .slice B2 m2 k2] 32))
 replace R1 := Lib.hid (R1.out.alloc (.cells #[.bool s2, .slice A2 n2 c2, .slice B2 m2 k2] 32))
 replace L5 := Lib.hid (L5.out.alloc (.cells #[.bool s2, .slice A2 n2 c2, .slice B2 m2 k2] 32))
 replace R2 := Lib.hid (R2.out.alloc (.cells #[.bool s2, .slice A2 n2 c2, .slice B2 m2 k2] 32))
 replace L6 := Lib.hid (L6.out.alloc (.cells #[.bool s2, .slice A2 n2 c2, .slice B2 m2 k2] 32))
 replace Q2 := Lib.hid (Q2.out.alloc (.cells #[.bool s2, .slice A2 n2 c2, .slice B2 m2 k2] 32))
 replace hbw := nB3 hbw hbw.size (.cells #[.bool s2, .slice A2 n2 c2, .slice B2 m2 k2] 32)
 have G2 := Lib.hid (Own.new' W13 32 [.bool s2, .slice A2 n2 c2, .slice B2 m2 k2] W13.heap.size rfl)
 obtain ⟨bG2, e_G2⟩ : ∃ b, W13.heap.size = b := ⟨_, rfl⟩
 simp only [e_G2] at G2 z_G2 z_G2_L5 z_G2_L6 ⊢
 generalize (W13.alloc (.cells #[.bool s2, .slice A2 n2 c2, .slice B2 m2 k2] 32)) = W14 at HB R1 L5 R2 L6 Q2 G2 hbw ⊢
 clear G2 Q2 L5 L6 R1 R2
 go_wp2_with fail
 refine (HO1.out _).mono ?_
 rintro e W15 ⟨v1, rfl, hb1, hr1⟩
 obtain ⟨Ps, PA, Pc, Pn, PB, Pd, Pm, rfl, hr1⟩ := hr1.shape
 replace HB := Lib.hid (HB.out.ext hb1)
 replace hbw := nT hbw hb1
 have R1 := Lib.hid hr1
 clear hr1
 clear hb1
 go_wp2_with fail
 have z_L5 := hbw.size
 replace HB := Lib.hid (HB.out.alloc (.cells #[.bool Ps, .slice PA Pn Pc, .slice PB Pm Pd] 32))
 replace R1 := Lib.hid (R1.out.alloc (.cells #[.bool Ps, .slice PA Pn Pc, .slice PB Pm Pd] 32))
 replace hbw := nB3 hbw hbw.size (.cells #[.bool Ps, .slice PA Pn Pc, .slice PB Pm Pd] 32)
 have L5 := Lib.hid (Own.new' W15 32 [.bool Ps, .slice PA Pn Pc, .slice PB Pm Pd] W15.heap.size rfl)
 obtain ⟨bL5, e_L5⟩ : ∃ b, W15.heap.size = b := ⟨_, rfl⟩
 simp only [e_L5] at L5 z_L5 ⊢
 generalize (W15.alloc (.cells #[.bool Ps, .slice PA Pn Pc, .slice PB Pm Pd] 32)) = W16 at HB R1 L5 hbw ⊢
 refine (HO1.out _).mono ?_
 rintro e W17 ⟨v1, rfl, hb1, hr1⟩
 obtain ⟨Ts, TA, Tc, Tn, TB, Td, Tm, rfl, hr1⟩ := hr1.shape
 replace HB := Lib.hid (HB.out.ext hb1)
 replace R1 := Lib.hid (R1.out.ext hb1)
 replace L5 := Lib.hid (L5.out.ext hb1)
 replace hbw := nT hbw hb1
 have R2 := Lib.hid hr1
 clear hr1
 clear hb1
 go_wp2_with fail
 have z_L6 := hbw.size
 have z_L6_L5 := L5.out.lt
 replace HB := Lib.hid (HB.out.alloc (.cells #[.bool Ts, .slice TA Tn Tc, .slice TB Tm Td] 32))
 replace R1 := Lib.hid (R1.out.alloc (.cells #[.bool Ts, .slice TA Tn Tc, .slice TB Tm Td] 32))
 replace L5 := Lib.hid (L5.out.alloc (.cells #[.bool Ts, .slice TA Tn Tc, .slice TB Tm Td] 32))
 replace R2 := Lib.hid (R2.out.alloc (.cells #[.bool Ts, .slice TA Tn Tc, .slice TB Tm Td] 32))
 replace hbw := nB3 hbw hbw.size (.cells #[.bool Ts, .slice TA Tn Tc, .slice TB Tm Td] 32)
 have L6 := Lib.hid (Own.new' W17 32 [.bool Ts, .slice TA Tn Tc, .slice TB Tm Td] W17.heap.size rfl)
 obtain ⟨bL6, e_L6⟩ : ∃ b, W17.heap.size = b := ⟨_, rfl⟩
 simp only [e_L6] at L6 z_L6 z_L6_L5 ⊢
 generalize (W17.alloc (.cells #[.bool Ts, .slice TA Tn Tc, .slice TB Tm Td] 32)) = W18 at HB R1 L5 R2 L6 hbw ⊢
 refine (HO2.out _).mono ?_
 rintro e W19 ⟨v1, rfl, hb1, hr1⟩
 obtain ⟨Us, UA, Uc, Un, UB, Ud, Um, rfl, hr1⟩ := hr1.shape
 replace HB := Lib.hid (HB.out.ext hb1)
 replace R1 := Lib.hid (R1.out.ext hb1)
 replace L5 := Lib.hid (L5.out.ext hb1)
 replace R2 := Lib.hid (R2.out.ext hb1)
 replace L6 := Lib.hid (L6.out.ext hb1)
 replace hbw := nT hbw hb1
 have R3 := Lib.hid hr1
 clear hr1
 clear hb1
 go_wp2_with fail
 refine (H5.out _ _ _ _ _ _ R3.out).mono ?_
 rintro e W20 ⟨v1, rfl, hb1, s2, A2, c2, n2, B2, k2, m2, rfl, hr1⟩
 replace HB := Lib.hid (HB.out.ext hb1)
 replace R1 := Lib.hid (R1.out.ext hb1)
 replace L5 := Lib.hid (L5.out.ext hb1)
 replace R2 := Lib.hid (R2.out.ext hb1)
 replace L6 := Lib.hid (L6.out.ext hb1)
 replace R3 := Lib.hid (R3.out.ext hb1)
 replace hbw := nT hbw hb1
 have Q2 := Lib.hid hr1
 clear hr1
 clear hb1
 go_upto_region 6 with (fail)
 have z_G2 := hbw.size
 have z_G2_L5 := L5.out.lt
 have z_G2_L6 := L6.out.lt
 replace HB := Lib.hid (HB.out.alloc (.cells #[.bool s2, .slice A2 n2 c2, .slice B2 m2 k2] 32))
 replace R1 := Lib.hid (R1.out.alloc (.cells #[.bool s2, .slice A2 n2 c2, .slice B2 m2 k2] 32))
 replace L5 := Lib.hid (L5.out.alloc (.cells #[.bool s2, .slice A2 n2 c2, .slice B2 m2 k2] 32))
 replace R2 := Lib.hid (R2.out.alloc (.cells #[.bool s2, .slice A2 n2 c2, .slice B2 m2 k2] 32))
 replace L6 := Lib.hid (L6.out.alloc (.cells #[.bool s2, .slice A2 n2 c2, .slice B2 m2 k2] 32))
 replace R3 := Lib.hid (R3.out.alloc (.cells #[.bool s2, .slice A2 n2 c2, .slice B2 m2 k2] 32))
 replace Q2 := Lib.hid (Q2.out.alloc (.cells #[.bool s2, .slice A2 n2 c2, .slice B2 m2 k2] 32))
 replace hbw := nB3 hbw hbw.size (.cells #[.bool s2, .slice A2 n2 c2, .slice B2 m2 k2] 32)
 have G2 := Lib.hid (Own.new' W20 32 [.bool s2, .slice A2 n2 c2, .slice B2 m2 k2] W20.heap.size rfl)
 obtain ⟨bG2, e_G2⟩ : ∃ b, W20.heap.size = b := ⟨_, rfl⟩
 simp only [e_G2] at G2 z_G2 z_G2_L5 z_G2_L6 ⊢
 generalize (W20.alloc (.cells #[.bool s2, .slice A2 n2 c2, .slice B2 m2 k2] 32)) = W21 at HB R1 L5 R2 L6 R3 Q2 G2 hbw ⊢
 clear G2 Q2 L5 L6 R1 R2 R3
 go_wp2_with fail
 have z_L5 := hbw.size
 replace HB := Lib.hid (HB.out.alloc (.cells #[.bool true] 4))
 replace hbw := nB3 hbw hbw.size (.cells #[.bool true] 4)
 have L5 := Lib.hid (Own.new' W21 4 [.bool true] W21.heap.size rfl)
 obtain ⟨bL5, e_L5⟩ : ∃ b, W21.heap.size = b := ⟨_, rfl⟩
 simp only [e_L5] at L5 z_L5 ⊢
 generalize (W21.alloc (.cells #[.bool true] 4)) = W22 at HB L5 hbw ⊢
 refine (HO1.out _).mono ?_
 rintro e W23 ⟨v1, rfl, hb1, hr1⟩
 obtain ⟨Ps, PA, Pc, Pn, PB, Pd, Pm, rfl, hr1⟩ := hr1.shape
 replace HB := Lib.hid (HB.out.ext hb1)
 replace L5 := Lib.hid (L5.out.ext hb1)
 replace hbw := nT hbw hb1
 have R1 := Lib.hid hr1
 clear hr1
 clear hb1
 go_wp2_with fail
 have z_L6 := hbw.size
 have z_L6_L5 := L5.out.lt
 replace HB := Lib.hid (HB.out.alloc (.cells #[.bool Ps, .slice PA Pn Pc, .slice PB Pm Pd] 32))
 replace L5 := Lib.hid (L5.out.alloc (.cells #[.bool Ps, .slice PA Pn Pc, .slice PB Pm Pd] 32))
 replace R1 := Lib.hid (R1.out.alloc (.cells #[.bool Ps, .slice PA Pn Pc, .slice PB Pm Pd] 32))
 replace hbw := nB3 hbw hbw.size (.cells #[.bool Ps, .slice PA Pn Pc, .slice PB Pm Pd] 32)
 have L6 := Lib.hid (Own.new' W23 32 [.bool Ps, .slice PA Pn Pc, .slice PB Pm Pd] W23.heap.size rfl)
 obtain ⟨bL6, e_L6⟩ : ∃ b, W23.heap.size = b := ⟨_, rfl⟩
 simp only [e_L6] at L6 z_L6 z_L6_L5 ⊢
 generalize (W23.alloc (.cells #[.bool Ps, .slice PA Pn Pc, .slice PB Pm Pd] 32)) = W24 at HB L5 R1 L6 hbw ⊢
 refine (H6.out _ _ _ _ (rBs_1 L5.out)).mono ?_
 rintro e W25 ⟨v1, rfl, hb1, s2, A2, c2, n2, B2, k2, m2, rfl, hr1⟩
 replace HB := Lib.hid (HB.out.ext hb1)
 replace L5 := Lib.hid (L5.out.ext hb1)
 replace R1 := Lib.hid (R1.out.ext hb1)
 replace L6 := Lib.hid (L6.out.ext hb1)
 replace hbw := nT hbw hb1
 have Q2 := Lib.hid hr1
 clear hr1
 clear hb1
 go_upto_region 7 with (fail)
 have z_G2 := hbw.size
 have z_G2_L5 := L5.out.lt
 have z_G2_L6 := L6.out.lt
 replace HB := Lib.hid (HB.out.alloc (.cells #[.bool s2, .slice A2 n2 c2, .slice B2 m2 k2] 32))
 replace L5 := Lib.hid (L5.out.alloc (.cells #[.bool s2, .slice A2 n2 c2, .slice B2 m2 k2] 32))
 replace R1 := Lib.hid (R1.out.alloc (.cells #[.bool s2, .slice A2 n2 c2, .slice B2 m2 k2] 32))
 replace L6 := Lib.hid (L6.out.alloc (.cells #[.bool s2, .slice A2 n2 c2, .slice B2 m2 k2] 32))
 replace Q2 := Lib.hid (Q2.out.alloc (.cells #[.bool s2, .slice A2 n2 c2, .slice B2 m2 k2] 32))
 replace hbw := nB3 hbw hbw.size (.cells #[.bool s2, .slice A2 n2 c2, .slice B2 m2 k2] 32)
 have G2 := Lib.hid (Own.new' W25 32 [.bool s2, .slice A2 n2 c2, .slice B2 m2 k2] W25.heap.size rfl)
 obtain ⟨bG2, e_G2⟩ : ∃ b, W25.heap.size = b := ⟨_, rfl⟩
 simp only [e_G2] at G2 z_G2 z_G2_L5 z_G2_L6 ⊢
 generalize (W25.alloc (.cells #[.bool s2, .slice A2 n2 c2, .slice B2 m2 k2] 32)) = W26 at HB L5 R1 L6 Q2 G2 hbw ⊢
 clear G2 Q2 L5 L6 R1
 go_wp2_with fail
 have z_L5 := hbw.size
 replace HB := Lib.hid (HB.out.alloc (.cells #[.bool true, .bool false, .bool true] 4))
 replace hbw := nB3 hbw hbw.size (.cells #[.bool true, .bool false, .bool true] 4)
 have L5 := Lib.hid (Own.new' W26 4 [.bool true, .bool false, .bool true] W26.heap.size rfl)
 obtain ⟨bL5, e_L5⟩ : ∃ b, W26.heap.size = b := ⟨_, rfl⟩
 simp only [e_L5] at L5 z_L5 ⊢
 generalize (W26.alloc (.cells #[.bool true, .bool false, .bool true] 4)) = W27 at HB L5 hbw ⊢
 refine (HO3.out _).mono ?_
 rintro e W28 ⟨v1, rfl, hb1, hr1⟩
 obtain ⟨Ps, PA, Pc, Pn, PB, Pd, Pm, rfl, hr1⟩ := hr1.shape
 replace HB := Lib.hid (HB.out.ext hb1)
 replace L5 := Lib.hid (L5.out.ext hb1)
 replace hbw := nT hbw hb1
 have R1 := Lib.hid hr1
 clear hr1
 clear hb1
 go_wp2_with fail
 refine (HO2.out _).mono ?_
 rintro e W29 ⟨v1, rfl, hb1, hr1⟩
 obtain ⟨Ts, TA, Tc, Tn, TB, Td, Tm, rfl, hr1⟩ := hr1.shape
 replace HB := Lib.hid (HB.out.ext hb1)
 replace L5 := Lib.hid (L5.out.ext hb1)
 replace R1 := Lib.hid (R1.out.ext hb1)
 replace hbw := nT hbw hb1
 have R2 := Lib.hid hr1
 clear hr1
 clear hb1
 go_wp2_with fail
 refine (HO2.out _).mono ?_
 rintro e W30 ⟨v1, rfl, hb1, hr1⟩
 obtain ⟨Us, UA, Uc, Un, UB, Ud, Um, rfl, hr1⟩ := hr1.shape
 replace HB := Lib.hid (HB.out.ext hb1)
 replace L5 := Lib.hid (L5.out.ext hb1)
 replace R1 := Lib.hid (R1.out.ext hb1)
 replace R2 := Lib.hid (R2.out.ext hb1)
 replace hbw := nT hbw hb1
 have R3 := Lib.hid hr1
 clear hr1
 clear hb1
 go_wp2_with fail
 have z_L6 := hbw.size
 have z_L6_L5 := L5.out.lt
 replace HB := Lib.hid (HB.out.alloc (.cells #[.bool Ps, .slice PA Pn Pc, .slice PB Pm Pd, .bool Ts, .slice TA Tn Tc, .slice TB Tm Td, .bool Us, .slice UA Un Uc, .slice UB Um Ud] 32))
 replace L5 := Lib.hid (L5.out.alloc (.cells #[.bool Ps, .slice PA Pn Pc, .slice PB Pm Pd, .bool Ts, .slice TA Tn Tc, .slice TB Tm Td, .bool Us, .slice UA Un Uc, .slice UB Um Ud] 32))
 replace R1 := Lib.hid (R1.out.alloc (.cells #[.bool Ps, .slice PA Pn Pc, .slice PB Pm Pd, .bool Ts, .slice TA Tn Tc, .slice TB Tm Td, .bool Us, .slice UA Un Uc, .slice UB Um Ud] 32))
 replace R2 := Lib.hid (R2.out.alloc (.cells #[.bool Ps, .slice PA Pn Pc, .slice PB Pm Pd, .bool Ts, .slice TA Tn Tc, .slice TB Tm Td, .bool Us, .slice UA Un Uc, .slice UB Um Ud] 32))
 replace R3 := Lib.hid (R3.out.alloc (.cells #[.bool Ps, .slice PA Pn Pc, .slice PB Pm Pd, .bool Ts, .slice TA Tn Tc, .slice TB Tm Td, .bool Us, .slice UA Un Uc, .slice UB Um Ud] 32))
 replace hbw := nB3 hbw hbw.size (.cells #[.bool Ps, .slice PA Pn Pc, .slice PB Pm Pd, .bool Ts, .slice TA Tn Tc, .slice TB Tm Td, .bool Us, .slice UA Un Uc, .slice UB Um Ud] 32)
 have L6 := Lib.hid (Own.new' W30 32 [.bool Ps, .slice PA Pn Pc, .slice PB Pm Pd, .bool Ts, .slice TA Tn Tc, .slice TB Tm Td, .bool Us, .slice UA Un Uc, .slice UB Um Ud] W30.heap.size rfl)
 obtain ⟨bL6, e_L6⟩ : ∃ b, W30.heap.size = b := ⟨_, rfl⟩
 simp only [e_L6] at L6 z_L6 z_L6_L5 ⊢
 generalize (W30.alloc (.cells #[.bool Ps, .slice PA Pn Pc, .slice PB Pm Pd, .bool Ts, .slice TA Tn Tc, .slice TB Tm Td, .bool Us, .slice UA Un Uc, .slice UB Um Ud] 32)) = W31 at HB L5 R1 R2 R3 L6 hbw ⊢
 refine (H7.out _ _ _ (rBs_3 L5.out) (rQs_3 L6.out R1.out R2.out R3.out)).mono ?_
 rintro e W32 ⟨v1, rfl, hb1, s7, A7, c7, n7, B7, k7, m7, rfl, hr1⟩
 replace HB := Lib.hid (HB.out.ext hb1)
 replace L5 := Lib.hid (L5.out.ext hb1)
 replace R1 := Lib.hid (R1.out.ext hb1)
 replace R2 := Lib.hid (R2.out.ext hb1)
 replace R3 := Lib.hid (R3.out.ext hb1)
 replace L6 := Lib.hid (L6.out.ext hb1)
 replace hbw := nT hbw hb1
 have Q7 := Lib.hid hr1
 clear hr1
 clear hb1
 go_upto_region 8 with (fail)
 have z_G7 := hbw.size
 have z_G7_L5 := L5.out.lt
 have z_G7_L6 := L6.out.lt
 replace HB := Lib.hid (HB.out.alloc (.cells #[.bool s7, .slice A7 n7 c7, .slice B7 m7 k7] 32))
 replace L5 := Lib.hid (L5.out.alloc (.cells #[.bool s7, .slice A7 n7 c7, .slice B7 m7 k7] 32))
 replace R1 := Lib.hid (R1.out.alloc (.cells #[.bool s7, .slice A7 n7 c7, .slice B7 m7 k7] 32))
 replace R2 := Lib.hid (R2.out.alloc (.cells #[.bool s7, .slice A7 n7 c7, .slice B7 m7 k7] 32))
 replace R3 := Lib.hid (R3.out.alloc (.cells #[.bool s7, .slice A7 n7 c7, .slice B7 m7 k7] 32))
 replace L6 := Lib.hid (L6.out.alloc (.cells #[.bool s7, .slice A7 n7 c7, .slice B7 m7 k7] 32))
 replace Q7 := Lib.hid (Q7.out.alloc (.cells #[.bool s7, .slice A7 n7 c7, .slice B7 m7 k7] 32))
 replace hbw := nB3 hbw hbw.size (.cells #[.bool s7, .slice A7 n7 c7, .slice B7 m7 k7] 32)
 have G7 := Lib.hid (Own.new' W32 32 [.bool s7, .slice A7 n7 c7, .slice B7 m7 k7] W32.heap.size rfl)
 obtain ⟨bG7, e_G7⟩ : ∃ b, W32.heap.size = b := ⟨_, rfl⟩
 simp only [e_G7] at G7 z_G7 z_G7_L5 z_G7_L6 ⊢
 generalize (W32.alloc (.cells #[.bool s7, .slice A7 n7 c7, .slice B7 m7 k7] 32)) = W33 at HB L5 R1 R2 R3 L6 Q7 G7 hbw ⊢
 clear L5 L6 R1 R2 R3
 go_wp2_with fail
 have z_L5 := hbw.size
 have z_L5_G7 := G7.out.lt
 replace HB := Lib.hid (HB.out.alloc (.cells #[.int .i64 0, .int .i64 0] 3))
 replace Q7 := Lib.hid (Q7.out.alloc (.cells #[.int .i64 0, .int .i64 0] 3))
 replace G7 := Lib.hid (G7.out.alloc (.cells #[.int .i64 0, .int .i64 0] 3))
 replace hbw := nB3 hbw hbw.size (.cells #[.int .i64 0, .int .i64 0] 3)
 have L5 := Lib.hid (Own.new' W33 3 [.int .i64 0, .int .i64 0] W33.heap.size rfl)
 obtain ⟨bL5, e_L5⟩ : ∃ b, W33.heap.size = b := ⟨_, rfl⟩
 simp only [e_L5] at L5 z_L5 z_L5_G7 ⊢
 have s_L5 : ((W33.alloc (.cells #[.int .i64 0, .int .i64 0] 3))).heap.size = bL5 + 1 := by rw [← e_L5]; exact Array.size_push ..
 generalize (W33.alloc (.cells #[.int .i64 0, .int .i64 0] 3)) = W34 at HB Q7 G7 L5 s_L5 hbw ⊢
 have z_L6 := hbw.size
 have z_L6_G7 := G7.out.lt
 have z_L6_L5 := L5.out.lt
 replace HB := Lib.hid (HB.out.alloc (.cells #[.int .i64 1, .int .i64 1] 3))
 replace Q7 := Lib.hid (Q7.out.alloc (.cells #[.int .i64 1, .int .i64 1] 3))
 replace G7 := Lib.hid (G7.out.alloc (.cells #[.int .i64 1, .int .i64 1] 3))
 replace L5 := Lib.hid (L5.out.alloc (.cells #[.int .i64 1, .int .i64 1] 3))
 replace hbw := nB3 hbw hbw.size (.cells #[.int .i64 1, .int .i64 1] 3)
 have L6 := Lib.hid (Own.new' W34 3 [.int .i64 1, .int .i64 1] W34.heap.size rfl)
 obtain ⟨bL6, e_L6⟩ : ∃ b, W34.heap.size = b := ⟨_, rfl⟩
 simp only [show bL5 + 1 = bL6 from s_L5.symm.trans e_L6]
 simp only [e_L6] at L6 z_L6 z_L6_G7 z_L6_L5 ⊢
 have s_L6 : ((W34.alloc (.cells #[.int .i64 1, .int .i64 1] 3))).heap.size = bL6 + 1 := by rw [← e_L6]; exact Array.size_push ..
 generalize (W34.alloc (.cells #[.int .i64 1, .int .i64 1] 3)) = W35 at HB Q7 G7 L5 L6 s_L6 hbw ⊢
 have z_L8 := hbw.size
 have z_L8_G7 := G7.out.lt
 have z_L8_L5 := L5.out.lt
 have z_L8_L6 := L6.out.lt
 replace HB := Lib.hid (HB.out.alloc (.cells #[.slice (some ⟨bL5, 0, none⟩) 2 2, .slice (some ⟨bL6, 0, none⟩) 2 2] 22))
 replace Q7 := Lib.hid (Q7.out.alloc (.cells #[.slice (some ⟨bL5, 0, none⟩) 2 2, .slice (some ⟨bL6, 0, none⟩) 2 2] 22))
 replace G7 := Lib.hid (G7.out.alloc (.cells #[.slice (some ⟨bL5, 0, none⟩) 2 2, .slice (some ⟨bL6, 0, none⟩) 2 2] 22))
 replace L5 := Lib.hid (L5.out.alloc (.cells #[.slice (some ⟨bL5, 0, none⟩) 2 2, .slice (some ⟨bL6, 0, none⟩) 2 2] 22))
 replace L6 := Lib.hid (L6.out.alloc (.cells #[.slice (some ⟨bL5, 0, none⟩) 2 2, .slice (some ⟨bL6, 0, none⟩) 2 2] 22))
 replace hbw := nB3 hbw hbw.size (.cells #[.slice (some ⟨bL5, 0, none⟩) 2 2, .slice (some ⟨bL6, 0, none⟩) 2 2] 22)
 have L8 := Lib.hid (Own.new' W35 22 [.slice (some ⟨bL5, 0, none⟩) 2 2, .slice (some ⟨bL6, 0, none⟩) 2 2] W35.heap.size rfl)
 obtain ⟨bL8, e_L8⟩ : ∃ b, W35.heap.size = b := ⟨_, rfl⟩
 simp only [show bL6 + 1 = bL8 from s_L6.symm.trans e_L8]
 simp only [e_L8] at L8 z_L8 z_L8_G7 z_L8_L5 z_L8_L6 ⊢
 have s_L8 : ((W35.alloc (.cells #[.slice (some ⟨bL5, 0, none⟩) 2 2, .slice (some ⟨bL6, 0, none⟩) 2 2] 22))).heap.size = bL8 + 1 := by rw [← e_L8]; exact Array.size_push ..
 generalize (W35.alloc (.cells #[.slice (some ⟨bL5, 0, none⟩) 2 2, .slice (some ⟨bL6, 0, none⟩) 2 2] 22)) = W36 at HB Q7 G7 L5 L6 L8 s_L8 hbw ⊢
 refine (H8.out _ _ (rIss_2 L8.out (rIs_2 L5.out ⟨by omega, by omega⟩ ⟨by omega, by omega⟩) (rIs_2 L6.out ⟨by omega, by omega⟩ ⟨by omega, by omega⟩))).mono ?_
 rintro e W37 ⟨v1, rfl, hb1, ⟨gR, cR, rfl, hr⟩⟩
 replace HB := Lib.hid (HB.out.ext hb1)
 replace Q7 := Lib.hid (Q7.out.ext hb1)
 replace G7 := Lib.hid (G7.out.ext hb1)
 replace L5 := Lib.hid (L5.out.ext hb1)
 replace L6 := Lib.hid (L6.out.ext hb1)
 replace L8 := Lib.hid (L8.out.ext hb1)
 replace hbw := nT hbw hb1
 have RR := Lib.hid hr
 clear hr
 clear hb1
 clear L5 L6 L8
 go_wp2_with fail
 have z_L5 := hbw.size
 have z_L5_G7 := G7.out.lt
 replace HB := Lib.hid (HB.out.alloc (.cells #[.int .i64 2] 3))
 replace Q7 := Lib.hid (Q7.out.alloc (.cells #[.int .i64 2] 3))
 replace G7 := Lib.hid (G7.out.alloc (.cells #[.int .i64 2] 3))
 replace RR := Lib.hid (RR.out.alloc (.cells #[.int .i64 2] 3))
 replace hbw := nB3 hbw hbw.size (.cells #[.int .i64 2] 3)
 have L5 := Lib.hid (Own.new' W37 3 [.int .i64 2] W37.heap.size rfl)
 obtain ⟨bL5, e_L5⟩ : ∃ b, W37.heap.size = b := ⟨_, rfl⟩
 simp only [e_L5] at L5 z_L5 z_L5_G7 ⊢
 generalize (W37.alloc (.cells #[.int .i64 2] 3)) = W38 at HB Q7 G7 RR L5 hbw ⊢
 refine (HO1.out _).mono ?_
 rintro e W39 ⟨v1, rfl, hb1, hr1⟩
 obtain ⟨Ps, PA, Pc, Pn, PB, Pd, Pm, rfl, hr1⟩ := hr1.shape
 replace HB := Lib.hid (HB.out.ext hb1)
 replace Q7 := Lib.hid (Q7.out.ext hb1)
 replace G7 := Lib.hid (G7.out.ext hb1)
 replace RR := Lib.hid (RR.out.ext hb1)
 replace L5 := Lib.hid (L5.out.ext hb1)
 replace hbw := nT hbw hb1
 have R1 := Lib.hid hr1
 clear hr1
 clear hb1
 go_wp2_with fail
 refine (HO0'.out _).mono ?_
 rintro e W40 ⟨v1, rfl, hb1, hr1⟩
 obtain ⟨Ts, TA, Tc, Tn, TB, Td, Tm, rfl, hr1⟩ := hr1.shape
 replace HB := Lib.hid (HB.out.ext hb1)
 replace Q7 := Lib.hid (Q7.out.ext hb1)
 replace G7 := Lib.hid (G7.out.ext hb1)
 replace RR := Lib.hid (RR.out.ext hb1)
 replace L5 := Lib.hid (L5.out.ext hb1)
 replace R1 := Lib.hid (R1.out.ext hb1)
 replace hbw := nT hbw hb1
 have R2 := Lib.hid hr1
 clear hr1
 clear hb1
 go_wp2_with fail
 have z_L6 := hbw.size
 have z_L6_G7 := G7.out.lt
 have z_L6_L5 := L5.out.lt
 replace HB := Lib.hid (HB.out.alloc (.cells #[.bool Ps, .slice PA Pn Pc, .slice PB Pm Pd, .bool Ts, .slice TA Tn Tc, .slice TB Tm Td] 32))
 replace Q7 := Lib.hid (Q7.out.alloc (.cells #[.bool Ps, .slice PA Pn Pc, .slice PB Pm Pd, .bool Ts, .slice TA Tn Tc, .slice TB Tm Td] 32))
 replace G7 := Lib.hid (G7.out.alloc (.cells #[.bool Ps, .slice PA Pn Pc, .slice PB Pm Pd, .bool Ts, .slice TA Tn Tc, .slice TB Tm Td] 32))
 replace RR := Lib.hid (RR.out.alloc (.cells #[.bool Ps, .slice PA Pn Pc, .slice PB Pm Pd, .bool Ts, .slice TA Tn Tc, .slice TB Tm Td] 32))
 replace L5 := Lib.hid (L5.out.alloc (.cells #[.bool Ps, .slice PA Pn Pc, .slice PB Pm Pd, .bool Ts, .slice TA Tn Tc, .slice TB Tm Td] 32))
 replace R1 := Lib.hid (R1.out.alloc (.cells #[.bool Ps, .slice PA Pn Pc, .slice PB Pm Pd, .bool Ts, .slice TA Tn Tc, .slice TB Tm Td] 32))
 replace R2 := Lib.hid (R2.out.alloc (.cells #[.bool Ps, .slice PA Pn Pc, .slice PB Pm Pd, .bool Ts, .slice TA Tn Tc, .slice TB Tm Td] 32))
 replace hbw := nB3 hbw hbw.size (.cells #[.bool Ps, .slice PA Pn Pc, .slice PB Pm Pd, .bool Ts, .slice TA Tn Tc, .slice TB Tm Td] 32)
 have L6 := Lib.hid (Own.new' W40 32 [.bool Ps, .slice PA Pn Pc, .slice PB Pm Pd, .bool Ts, .slice TA Tn Tc, .slice TB Tm Td] W40.heap.size rfl)
 obtain ⟨bL6, e_L6⟩ : ∃ b, W40.heap.size = b := ⟨_, rfl⟩
 simp only [e_L6] at L6 z_L6 z_L6_G7 z_L6_L5 ⊢
 have s_L6 : ((W40.alloc (.cells #[.bool Ps, .slice PA Pn Pc, .slice PB Pm Pd, .bool Ts, .slice TA Tn Tc, .slice TB Tm Td] 32))).heap.size = bL6 + 1 := by rw [← e_L6]; exact Array.size_push ..
 generalize (W40.alloc (.cells #[.bool Ps, .slice PA Pn Pc, .slice PB Pm Pd, .bool Ts, .slice TA Tn Tc, .slice TB Tm Td] 32)) = W41 at HB Q7 G7 RR L5 R1 R2 L6 s_L6 hbw ⊢
 have z_L8 := hbw.size
 have z_L8_G7 := G7.out.lt
 have z_L8_L5 := L5.out.lt
 have z_L8_L6 := L6.out.lt
 replace HB := Lib.hid (HB.out.alloc (.cells #[.slice (some ⟨bL6, 0, none⟩) 2 2] 58))
 replace Q7 := Lib.hid (Q7.out.alloc (.cells #[.slice (some ⟨bL6, 0, none⟩) 2 2] 58))
 replace G7 := Lib.hid (G7.out.alloc (.cells #[.slice (some ⟨bL6, 0, none⟩) 2 2] 58))
 replace RR := Lib.hid (RR.out.alloc (.cells #[.slice (some ⟨bL6, 0, none⟩) 2 2] 58))
 replace L5 := Lib.hid (L5.out.alloc (.cells #[.slice (some ⟨bL6, 0, none⟩) 2 2] 58))
 replace R1 := Lib.hid (R1.out.alloc (.cells #[.slice (some ⟨bL6, 0, none⟩) 2 2] 58))
 replace R2 := Lib.hid (R2.out.alloc (.cells #[.slice (some ⟨bL6, 0, none⟩) 2 2] 58))
 replace L6 := Lib.hid (L6.out.alloc (.cells #[.slice (some ⟨bL6, 0, none⟩) 2 2] 58))
 replace hbw := nB3 hbw hbw.size (.cells #[.slice (some ⟨bL6, 0, none⟩) 2 2] 58)
 have L8 := Lib.hid (Own.new' W41 58 [.slice (some ⟨bL6, 0, none⟩) 2 2] W41.heap.size rfl)
 obtain ⟨bL8, e_L8⟩ : ∃ b, W41.heap.size = b := ⟨_, rfl⟩
 simp only [show bL6 + 1 = bL8 from s_L6.symm.trans e_L8]
 simp only [e_L8] at L8 z_L8 z_L8_G7 z_L8_L5 z_L8_L6 ⊢
 have s_L8 : ((W41.alloc (.cells #[.slice (some ⟨bL6, 0, none⟩) 2 2] 58))).heap.size = bL8 + 1 := by rw [← e_L8]; exact Array.size_push ..
 generalize (W41.alloc (.cells #[.slice (some ⟨bL6, 0, none⟩) 2 2] 58)) = W42 at HB Q7 G7 RR L5 R1 R2 L6 L8 s_L8 hbw ⊢
 refine (H9.out _ _ _ (rIs_1 L5.out ⟨by omega, by omega⟩) (rQss_1 L8.out (rQs_2 L6.out R1.out R2.out))).mono ?_
 rintro e W43 ⟨v1, rfl, hb1, s2, A2, c2, n2, B2, k2, m2, rfl, hr1⟩
 replace HB := Lib.hid (HB.out.ext hb1)
 replace Q7 := Lib.hid (Q7.out.ext hb1)
 replace G7 := Lib.hid (G7.out.ext hb1)
 replace RR := Lib.hid (RR.out.ext hb1)
 replace L5 := Lib.hid (L5.out.ext hb1)
 replace R1 := Lib.hid (R1.out.ext hb1)
 replace R2 := Lib.hid (R2.out.ext hb1)
 replace L6 := Lib.hid (L6.out.ext hb1)
 replace L8 := Lib.hid (L8.out.ext hb1)
 replace hbw := nT hbw hb1
 have Q2 := Lib.hid hr1
 clear hr1
 clear hb1
 go_upto_region 10 with (fail)
 have z_G2 := hbw.size
 have z_G2_G7 := G7.out.lt
 have z_G2_L5 := L5.out.lt
 have z_G2_L6 := L6.out.lt
 have z_G2_L8 := L8.out.lt
 replace HB := Lib.hid (HB.out.alloc (.cells #[.bool s2, .slice A2 n2 c2, .slice B2 m2 k2] 32))
 replace Q7 := Lib.hid (Q7.out.alloc (.cells #[.bool s2, .slice A2 n2 c2, .slice B2 m2 k2] 32))
 replace G7 := Lib.hid (G7.out.alloc (.cells #[.bool s2, .slice A2 n2 c2, .slice B2 m2 k2] 32))
 replace RR := Lib.hid (RR.out.alloc (.cells #[.bool s2, .slice A2 n2 c2, .slice B2 m2 k2] 32))
 replace L5 := Lib.hid (L5.out.alloc (.cells #[.bool s2, .slice A2 n2 c2, .slice B2 m2 k2] 32))
 replace R1 := Lib.hid (R1.out.alloc (.cells #[.bool s2, .slice A2 n2 c2, .slice B2 m2 k2] 32))
 replace R2 := Lib.hid (R2.out.alloc (.cells #[.bool s2, .slice A2 n2 c2, .slice B2 m2 k2] 32))
 replace L6 := Lib.hid (L6.out.alloc (.cells #[.bool s2, .slice A2 n2 c2, .slice B2 m2 k2] 32))
 replace L8 := Lib.hid (L8.out.alloc (.cells #[.bool s2, .slice A2 n2 c2, .slice B2 m2 k2] 32))
 replace Q2 := Lib.hid (Q2.out.alloc (.cells #[.bool s2, .slice A2 n2 c2, .slice B2 m2 k2] 32))
 replace hbw := nB3 hbw hbw.size (.cells #[.bool s2, .slice A2 n2 c2, .slice B2 m2 k2] 32)
 have G2 := Lib.hid (Own.new' W43 32 [.bool s2, .slice A2 n2 c2, .slice B2 m2 k2] W43.heap.size rfl)
 obtain ⟨bG2, e_G2⟩ : ∃ b, W43.heap.size = b := ⟨_, rfl⟩
 simp only [e_G2] at G2 z_G2 z_G2_G7 z_G2_L5 z_G2_L6 z_G2_L8 ⊢
 generalize (W43.alloc (.cells #[.bool s2, .slice A2 n2 c2, .slice B2 m2 k2] 32)) = W44 at HB Q7 G7 RR L5 R1 R2 L6 L8 Q2 G2 hbw ⊢
 clear G2 Q2 L5 L6 L8 R1 R2
 go_wp2_with fail
 refine (HKN.out _).mono ?_
 rintro e W45 ⟨v1, rfl, hb1, rfl⟩
 replace HB := Lib.hid (HB.out.ext hb1)
 replace Q7 := Lib.hid (Q7.out.ext hb1)
 replace G7 := Lib.hid (G7.out.ext hb1)
 replace RR := Lib.hid (RR.out.ext hb1)
 replace hbw := nT hbw hb1
 clear hb1
 have x_G7_0 := G7.out.cell 0 _ rfl
 have f_G7_0 := G7.out.frozen 0
 have x_G7_1 := G7.out.cell 1 _ rfl
 have f_G7_1 := G7.out.frozen 1
 have x_G7_2 := G7.out.cell 2 _ rfl
 have f_G7_2 := G7.out.frozen 2
 go_wp2_with fail
 clear x_G7_0 f_G7_0 x_G7_1 f_G7_1 x_G7_2 f_G7_2
 refine (HI1.out _ _ Q7.out).mono ?_
 rintro e W46 ⟨v1, rfl, hb1, rfl⟩
 replace HB := Lib.hid (HB.out.ext hb1)
 replace Q7 := Lib.hid (Q7.out.ext hb1)
 replace G7 := Lib.hid (G7.out.ext hb1)
 replace RR := Lib.hid (RR.out.ext hb1)
 replace hbw := nT hbw hb1
 clear hb1
 obtain ⟨sa, Aa, ca, na, Ba, ka, ma, ya, yb, yc, yq⟩ := RR.out.atN 0 0 1 2 (by omega) rfl rfl rfl
 have YA := Lib.hid yq
 rw [show rateQ [[0, 0], [1, 1]] 2 0 = mkRat 0 1 from (rateQ_0 _ _ 0).trans kn_p] at YA
 clear yq
 go_wp2_with fail
 clear ya yb yc
 refine (HI2.out _ _ YA.out).mono ?_
 rintro e W47 ⟨v1, rfl, hb1, rfl⟩
 replace HB := Lib.hid (HB.out.ext hb1)
 replace Q7 := Lib.hid (Q7.out.ext hb1)
 replace G7 := Lib.hid (G7.out.ext hb1)
 replace RR := Lib.hid (RR.out.ext hb1)
 replace hbw := nT hbw hb1
 clear hb1
 clear YA
 obtain ⟨sb, Ab, cb, nb, Bb, kb, mb, ya, yb, yc, yq⟩ := RR.out.atN 4 12 13 14 (by omega) rfl rfl rfl
 have YA := Lib.hid yq
 rw [show rateQ [[0, 0], [1, 1]] 2 4 = mkRat 1 2 from (rateQ_1 _ _ 1).trans kn_r] at YA
 clear yq
 go_wp2_with fail
 clear ya yb yc
 refine (HI3.out _ _ YA.out).mono ?_
 rintro e W48 ⟨v1, rfl, hb1, rfl⟩
 replace HB := Lib.hid (HB.out.ext hb1)
 replace Q7 := Lib.hid (Q7.out.ext hb1)
 replace G7 := Lib.hid (G7.out.ext hb1)
 replace RR := Lib.hid (RR.out.ext hb1)
 replace hbw := nT hbw hb1
 clear hb1
 clear YA
 obtain ⟨sd, Ad, cd, nd, Bd, kd, md, ya, yb, yc, yq⟩ := RR.out.atN 5 15 16 17 (by omega) rfl rfl rfl
 have YA := Lib.hid yq
 rw [show rateQ [[0, 0], [1, 1]] 2 5 = mkRat 2 3 from (rateQ_2 _ _ 1).trans kn_b] at YA
 clear yq
 go_wp2_with fail
 clear ya yb yc
 refine (HI4.out _ _ YA.out).mono ?_
 rintro e W49 ⟨v1, rfl, hb1, rfl⟩
 replace HB := Lib.hid (HB.out.ext hb1)
 replace Q7 := Lib.hid (Q7.out.ext hb1)
 replace G7 := Lib.hid (G7.out.ext hb1)
 replace RR := Lib.hid (RR.out.ext hb1)
 replace hbw := nT hbw hb1
 clear hb1
 go_wp2_with fail
 go_ret
 exact ⟨_, rfl, hbw, rfl⟩
end Go.Proofs.YtadpjidakippeaaGreat
