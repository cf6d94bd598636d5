/- frac.under, Of, Num, Sign, Neg, Den. -/
import Derived.Test.YtadpjidakippeaaGreatY11
set_option linter.unusedVariables false
set_option linter.unusedSimpArgs false
namespace Go.Proofs.YtadpjidakippeaaGreat
open Go.RowKit
set_option maxRecDepth 100000 in
set_option maxHeartbeats 1000000 in
/-- frac.under -/
theorem under_c (w : World) (vn vd : Value) (a d : Nat) (hn : rNat w vn a) (hd : rNat w vd d) (fa : Fit a) (fd : Fit d) :
  Calls Tryz.prog 78 #[vn, vd] w (Post w fun r w' => rNat w' r (a / d)) := by
 obtain ⟨A, c, n, rfl, hn⟩ := hn.shape
 obtain ⟨B, k, m, rfl, hd⟩ := hd.shape
 have HD := Lib.hid (fun W h h' => (div_n W (.agg #[.slice A n c]) (.agg #[.slice B m k]) a d h h' fa fd))
 have HS := Lib.hid (show ∀ W v, DivSaid W v a d → ∃ A1 c1 n1 A2 c2 n2, v = .tuple #[.agg #[.slice A1 n1 c1], .agg #[.slice A2 n2 c2], .bool (decide (d ≠ 0))] ∧ rNat W (.agg #[.slice A1 n1 c1]) (a / d) from fun W v ⟨q, r, hv, h1, h2⟩ => by
  obtain ⟨A1, c1, n1, rfl, h1⟩ := h1.shape
  obtain ⟨A2, c2, n2, rfl, h2⟩ := h2.shape
  exact ⟨A1, c1, n1, A2, c2, n2, hv, h1⟩)
 have H1 := Lib.hid hn
 have H2 := Lib.hid hd
 have HB : Hid (Cells [(w.heap.size, 0, .slice A n c), (w.heap.size + 1, 0, .slice B m k)] (((w.alloc (.cells #[.slice A n c] 28)).alloc (.cells #[.slice B m k] 28)).alloc (.cells #[.slice none 0 0] 28))) := Lib.hid (Cells.cons (by go_simp) (Cells.cons (by go_simp) (Cells.nil _)))
 have HO0 := Lib.hid (Own.new' ((w.alloc (.cells #[.slice A n c] 28)).alloc (.cells #[.slice B m k] 28)) 28 [.slice none 0 0] (w.heap.size + 1 + 1) (by simp))
 have hbw : Below w.heap.size w (((w.alloc (.cells #[.slice A n c] 28)).alloc (.cells #[.slice B m k] 28)).alloc (.cells #[.slice none 0 0] 28)) := (by repeat (first | assumption | exact nB1 _ _ | refine nB2 ?_ | refine pw_below_drewN ?_ _ | refine nB3 ?_ (by first | omega | (simp <;> omega)) _ | refine nB4 ?_ (by first | omega | (simp <;> omega)) _ | refine nB5 ?_ (by assumption) (by first | omega | (simp <;> omega))))
 clear hn hd fa fd
 go_enter Tryz.func78, Tryz.ntmps78
 go_wp2_with fail
 generalize (((w.alloc (.cells #[.slice A n c] 28)).alloc (.cells #[.slice B m k] 28)).alloc (.cells #[.slice none 0 0] 28)) = W0 at HB HO0 hbw ⊢
 obtain ⟨y0, y1, _⟩ := id HB.out
 go_wp2_with fail
 clear y0 y1
 refine ((HD.out _ (H1.out.ext hbw) (H2.out.ext hbw)).mono (fun _ _ h => h.map HS.out)).mono ?_
 rintro e W1 ⟨v1, rfl, hb1, A1, c1, n1, A2, c2, n2, rfl, hr1⟩
 replace HB := Lib.hid (HB.out.ext hb1)
 replace HO0 := Lib.hid (HO0.out.ext hb1)
 replace hbw := nT hbw hb1
 have R2 := Lib.hid hr1
 clear hr1
 clear hb1
 go_upto_region 2 with (fail)
 have z_H5 := hbw.size
 have z_H5_HO0 := HO0.out.lt
 replace HB := Lib.hid (HB.out.alloc (.cells #[.slice A1 n1 c1] 28))
 replace HO0 := Lib.hid (HO0.out.alloc (.cells #[.slice A1 n1 c1] 28))
 replace R2 := Lib.hid (R2.out.alloc (.cells #[.slice A1 n1 c1] 28))
 replace hbw := nB3 hbw hbw.size (.cells #[.slice A1 n1 c1] 28)
 have H5 := Lib.hid (Own.new' W1 28 [.slice A1 n1 c1] W1.heap.size rfl)
 obtain ⟨bH5, e_H5⟩ : ∃ b, W1.heap.size = b := ⟨_, rfl⟩
 simp only [e_H5] at H5 z_H5 z_H5_HO0 ⊢
 generalize (W1.alloc (.cells #[.slice A1 n1 c1] 28)) = W2 at HB HO0 R2 H5 hbw ⊢
 have z_H6 := hbw.size
 have z_H6_HO0 := HO0.out.lt
 have z_H6_H5 := H5.out.lt
 replace HB := Lib.hid (HB.out.alloc (.cells #[.slice A2 n2 c2] 28))
 replace HO0 := Lib.hid (HO0.out.alloc (.cells #[.slice A2 n2 c2] 28))
 replace R2 := Lib.hid (R2.out.alloc (.cells #[.slice A2 n2 c2] 28))
 replace H5 := Lib.hid (H5.out.alloc (.cells #[.slice A2 n2 c2] 28))
 replace hbw := nB3 hbw hbw.size (.cells #[.slice A2 n2 c2] 28)
 have H6 := Lib.hid (Own.new' W2 28 [.slice A2 n2 c2] W2.heap.size rfl)
 obtain ⟨bH6, e_H6⟩ : ∃ b, W2.heap.size = b := ⟨_, rfl⟩
 simp only [e_H6] at H6 z_H6 z_H6_HO0 z_H6_H5 ⊢
 generalize (W2.alloc (.cells #[.slice A2 n2 c2] 28)) = W3 at HB HO0 R2 H5 H6 hbw ⊢
 obtain ⟨y0, y1, _⟩ := id HB.out
 have x_H5_0 := H5.out.cell 0 _ rfl
 have f_H5_0 := H5.out.frozen 0
 have q0 := HO0.out.cell 0 _ rfl
 have f0 := HO0.out.frozen 0
 go_wp2_with fail
 replace HB := Lib.hid (HB.out.set (p := ⟨w.heap.size + 1 + 1, 0, none⟩) (.slice A1 n1 c1) (by simp <;> omega))
 replace HO0 := Lib.hid (HO0.out.set 0 (.slice A1 n1 c1))
 replace R2 := Lib.hid (R2.out.set (x := .slice A1 n1 c1) q0 rfl)
 replace H5 := Lib.hid (H5.out.other (p := ⟨w.heap.size + 1 + 1, 0, none⟩) (.slice A1 n1 c1) (by simp <;> omega))
 replace H6 := Lib.hid (H6.out.other (p := ⟨w.heap.size + 1 + 1, 0, none⟩) (.slice A1 n1 c1) (by simp <;> omega))
 replace hbw := nB4 hbw (show w.heap.size ≤ (⟨w.heap.size + 1 + 1, 0, none⟩ : Addr).block by simp <;> omega) (.slice A1 n1 c1)
 clear q0 f0
 replace HO0 : Hid (Own _ _ _ [.slice A1 n1 c1]) := HO0
 generalize (W3.setCell ⟨w.heap.size + 1 + 1, 0, none⟩ (.slice A1 n1 c1)) = W4 at HB HO0 R2 H5 H6 hbw ⊢
 have kk0 := HO0.out.cell 0 _ rfl
 refine bodyPost_ret (v := .agg #[.slice A1 n1 c1]) (by simp [results, Tryz.results78, go_sem, kk0]) rfl ⟨_, rfl, hbw, ?_⟩
 exact R2.out
set_option maxRecDepth 100000 in
set_option maxHeartbeats 1000000 in
/-- frac.Of -/
theorem qof_c (w : World) (z : Int) (hz : I64 z) : Calls Tryz.prog 17 #[.int .i64 z] w (Post w fun r w' => rQ w' r (z : Rat)) := by
 have HO := Lib.hid (fun W => iof_c W z hz.1 hz.2)
 have HB : Hid (Cells [] (w.alloc (.cells #[.bool false, .slice none 0 0, .slice none 0 0] 32))) := Lib.hid (Cells.nil _)
 have HO0 := Lib.hid (Own.new' w 32 [.bool false, .slice none 0 0, .slice none 0 0] (w.heap.size) (by simp))
 have hbw : Below w.heap.size w (w.alloc (.cells #[.bool false, .slice none 0 0, .slice none 0 0] 32)) := (by repeat (first | assumption | exact nB1 _ _ | refine nB2 ?_ | refine pw_below_drewN ?_ _ | refine nB3 ?_ (by first | omega | (simp <;> omega)) _ | refine nB4 ?_ (by first | omega | (simp <;> omega)) _ | refine nB5 ?_ (by assumption) (by first | omega | (simp <;> omega))))
 clear hz
 go_enter Tryz.func17, Tryz.ntmps17
 go_wp2_with fail
 generalize (w.alloc (.cells #[.bool false, .slice none 0 0, .slice none 0 0] 32)) = W0 at HB HO0 hbw ⊢
 refine (HO.out _).mono ?_
 rintro e W1 ⟨v1, rfl, hb1, hr1⟩
 obtain ⟨Es, EA, Ec, En, rfl, hr1⟩ := hr1.shape
 replace HB := Lib.hid (HB.out.ext hb1)
 replace HO0 := Lib.hid (HO0.out.ext hb1)
 replace hbw := nT hbw hb1
 have R1 := Lib.hid hr1
 clear hr1
 clear hb1
 have q0 := HO0.out.cell 0 _ rfl
 have f0 := HO0.out.frozen 0
 have q1 := HO0.out.cell 1 _ rfl
 have f1 := HO0.out.frozen 1
 have q2 := HO0.out.cell 2 _ rfl
 have f2 := HO0.out.frozen 2
 go_wp2_with fail
 replace HB := Lib.hid (HB.out.set (p := ⟨w.heap.size, 0, none⟩) (.bool Es) (by simp <;> omega))
 replace HO0 := Lib.hid (HO0.out.set 0 (.bool Es))
 replace R1 := Lib.hid (R1.out.set (x := .bool Es) q0 rfl)
 replace hbw := nB4 hbw (show w.heap.size ≤ (⟨w.heap.size, 0, none⟩ : Addr).block by simp <;> omega) (.bool Es)
 replace q1 := (nC W1 ⟨w.heap.size, 0, none⟩ ⟨w.heap.size, 1, none⟩ (.bool Es) (by simp)).trans q1
 replace q2 := (nC W1 ⟨w.heap.size, 0, none⟩ ⟨w.heap.size, 2, none⟩ (.bool Es) (by simp)).trans q2
 replace HB := Lib.hid (HB.out.set (p := ⟨w.heap.size, 1, none⟩) (.slice EA En Ec) (by simp <;> omega))
 replace HO0 := Lib.hid (HO0.out.set 1 (.slice EA En Ec))
 replace R1 := Lib.hid (R1.out.set (x := .slice EA En Ec) q1 rfl)
 replace hbw := nB4 hbw (show w.heap.size ≤ (⟨w.heap.size, 1, none⟩ : Addr).block by simp <;> omega) (.slice EA En Ec)
 replace q2 := (nC (W1.setCell ⟨w.heap.size, 0, none⟩ (.bool Es)) ⟨w.heap.size, 1, none⟩ ⟨w.heap.size, 2, none⟩ (.slice EA En Ec) (by simp)).trans q2
 replace HB := Lib.hid (HB.out.set (p := ⟨w.heap.size, 2, none⟩) (.slice none 0 0) (by simp <;> omega))
 replace HO0 := Lib.hid (HO0.out.set 2 (.slice none 0 0))
 replace R1 := Lib.hid (R1.out.set (x := .slice none 0 0) q2 rfl)
 replace hbw := nB4 hbw (show w.heap.size ≤ (⟨w.heap.size, 2, none⟩ : Addr).block by simp <;> omega) (.slice none 0 0)
 clear q0 f0 q1 f1 q2 f2
 replace HO0 : Hid (Own _ _ _ [.bool Es, .slice EA En Ec, .slice none 0 0]) := HO0
 generalize (((W1.setCell ⟨w.heap.size, 0, none⟩ (.bool Es)).setCell ⟨w.heap.size, 1, none⟩ (.slice EA En Ec)).setCell ⟨w.heap.size, 2, none⟩ (.slice none 0 0)) = W2 at HB HO0 R1 hbw ⊢
 have kk0 := HO0.out.cell 0 _ rfl
 have kk1 := HO0.out.cell 1 _ rfl
 have kk2 := HO0.out.cell 2 _ rfl
 refine bodyPost_ret (v := .agg #[.bool Es, .slice EA En Ec, .slice none 0 0]) (by simp [results, Tryz.results17, go_sem, kk0, kk1, kk2]) rfl ⟨_, rfl, hbw, ?_⟩
 exact rQd.mk (by simpa using R1.out) (by simpa using rNat.zero _)
set_option maxRecDepth 100000 in
set_option maxHeartbeats 1000000 in
/-- frac.Num -/
theorem qnum_c (w : World) (v : Value) (q : Rat) (h : rQ w v q) : Calls Tryz.prog 62 #[v] w (Post w fun r w' => rInt w' r q.num) := by
 obtain ⟨s, A, c, n, B, k, m, rfl, h⟩ := h.shape
 have H1 := Lib.hid h
 have HB : Hid (Cells [(w.heap.size, 0, .bool s), (w.heap.size, 1, .slice A n c), (w.heap.size, 2, .slice B m k)] ((w.alloc (.cells #[.bool s, .slice A n c, .slice B m k] 32)).alloc (.cells #[.bool false, .slice none 0 0] 30))) := Lib.hid (Cells.cons (by go_simp) (Cells.cons (by go_simp) (Cells.cons (by go_simp) (Cells.nil _))))
 have HO0 := Lib.hid (Own.new' (w.alloc (.cells #[.bool s, .slice A n c, .slice B m k] 32)) 30 [.bool false, .slice none 0 0] (w.heap.size + 1) (by simp))
 have hbw : Below w.heap.size w ((w.alloc (.cells #[.bool s, .slice A n c, .slice B m k] 32)).alloc (.cells #[.bool false, .slice none 0 0] 30)) := (by repeat (first | assumption | exact nB1 _ _ | refine nB2 ?_ | refine pw_below_drewN ?_ _ | refine nB3 ?_ (by first | omega | (simp <;> omega)) _ | refine nB4 ?_ (by first | omega | (simp <;> omega)) _ | refine nB5 ?_ (by assumption) (by first | omega | (simp <;> omega))))
 clear h
 go_enter Tryz.func62, Tryz.ntmps62
 go_upto_region 1 with (fail)
 generalize ((w.alloc (.cells #[.bool s, .slice A n c, .slice B m k] 32)).alloc (.cells #[.bool false, .slice none 0 0] 30)) = W0 at HB HO0 hbw ⊢
 obtain ⟨y0, y1, y2, _⟩ := id HB.out
 have q0 := HO0.out.cell 0 _ rfl
 have f0 := HO0.out.frozen 0
 have q1 := HO0.out.cell 1 _ rfl
 have f1 := HO0.out.frozen 1
 go_wp2_with fail
 replace HB := Lib.hid (HB.out.set (p := ⟨w.heap.size + 1, 0, none⟩) (.bool s) (by simp <;> omega))
 replace HO0 := Lib.hid (HO0.out.set 0 (.bool s))
 replace hbw := nB4 hbw (show w.heap.size ≤ (⟨w.heap.size + 1, 0, none⟩ : Addr).block by simp <;> omega) (.bool s)
 replace q1 := (nC W0 ⟨w.heap.size + 1, 0, none⟩ ⟨w.heap.size + 1, 1, none⟩ (.bool s) (by simp)).trans q1
 replace HB := Lib.hid (HB.out.set (p := ⟨w.heap.size + 1, 1, none⟩) (.slice A n c) (by simp <;> omega))
 replace HO0 := Lib.hid (HO0.out.set 1 (.slice A n c))
 replace hbw := nB4 hbw (show w.heap.size ≤ (⟨w.heap.size + 1, 1, none⟩ : Addr).block by simp <;> omega) (.slice A n c)
 clear q0 f0 q1 f1
 replace HO0 : Hid (Own _ _ _ [.bool s, .slice A n c]) := HO0
 generalize ((W0.setCell ⟨w.heap.size + 1, 0, none⟩ (.bool s)).setCell ⟨w.heap.size + 1, 1, none⟩ (.slice A n c)) = W1 at HB HO0 hbw ⊢
 have kk0 := HO0.out.cell 0 _ rfl
 have kk1 := HO0.out.cell 1 _ rfl
 refine bodyPost_ret (v := .agg #[.bool s, .slice A n c]) (by simp [results, Tryz.results62, go_sem, kk0, kk1]) rfl ⟨_, rfl, hbw, ?_⟩
 exact (H1.out.ext hbw).num
set_option maxRecDepth 100000 in
set_option maxHeartbeats 1000000 in
/-- frac.Sign -/
theorem qsign_c (w : World) (v : Value) (q : Rat) (h : rQ w v q) (hf : Fit q.num.natAbs) : Calls Tryz.prog 47 #[v] w (Post w fun r _ => r = .int .i64 q.num.sign) := by
 obtain ⟨s, A, c, n, B, k, m, rfl, h⟩ := h.shape
 have H1 := Lib.hid h
 have HS := Lib.hid (fun W h => sign_c W (.agg #[.bool s, .slice A n c]) q.num h hf)
 have HB : Hid (Cells [(w.heap.size, 0, .bool s), (w.heap.size, 1, .slice A n c), (w.heap.size, 2, .slice B m k)] (w.alloc (.cells #[.bool s, .slice A n c, .slice B m k] 32))) := Lib.hid (Cells.cons (by go_simp) (Cells.cons (by go_simp) (Cells.cons (by go_simp) (Cells.nil _))))
 have hbw : Below w.heap.size w (w.alloc (.cells #[.bool s, .slice A n c, .slice B m k] 32)) := (by repeat (first | assumption | exact nB1 _ _ | refine nB2 ?_ | refine pw_below_drewN ?_ _ | refine nB3 ?_ (by first | omega | (simp <;> omega)) _ | refine nB4 ?_ (by first | omega | (simp <;> omega)) _ | refine nB5 ?_ (by assumption) (by first | omega | (simp <;> omega))))
 clear h hf
 go_enter Tryz.func47, Tryz.ntmps47
 go_wp2_with fail
 generalize (w.alloc (.cells #[.bool s, .slice A n c, .slice B m k] 32)) = W0 at HB hbw ⊢
 obtain ⟨y0, y1, y2, _⟩ := id HB.out
 go_wp2_with fail
 clear y0 y1 y2
 refine (HS.out _ (H1.out.ext hbw).num).mono ?_
 rintro e W1 ⟨v1, rfl, hb1, rfl⟩
 replace HB := Lib.hid (HB.out.ext hb1)
 replace hbw := nT hbw hb1
 clear hb1
 go_wp2_with fail
 go_ret
 exact ⟨_, rfl, hbw, rfl⟩
set_option maxRecDepth 100000 in
set_option maxHeartbeats 1000000 in
/-- frac.Den -/
theorem qden_c (w : World) (v : Value) (q : Rat) (h : rQ w v q) (hf : Fit q.den) : Calls Tryz.prog 64 #[v] w (Post w fun r w' => rNat w' r q.den) := by
 obtain ⟨s, A, c, n, B, k, m, rfl, h⟩ := h.shape
 have H1 := Lib.hid h
 have HB0 := Lib.hid (fun W h => bits_c W (.agg #[.slice B m k]) (if q.den = 1 then 0 else q.den) h (by split <;> first | exact hf | (unfold Fit; simp [bl_zero])))
 obtain ⟨b, eb⟩ : ∃ b : Nat, bl (if q.den = 1 then 0 else q.den) = b := ⟨_, rfl⟩
 rw [eb] at HB0
 have hb : b = 0 ↔ q.den = 1 := by
  have := q.den_pos
  rw [← eb]
  have h := @bl_pos (if q.den = 1 then 0 else q.den)
  split at h <;> simp_all <;> omega
 have HOF := Lib.hid (fun W => of_c 1 (by decide) W)
 have HB : Hid (Cells [(w.heap.size, 0, .bool s), (w.heap.size, 1, .slice A n c), (w.heap.size, 2, .slice B m k)] ((w.alloc (.cells #[.bool s, .slice A n c, .slice B m k] 32)).alloc (.cells #[.slice none 0 0] 28))) := Lib.hid (Cells.cons (by go_simp) (Cells.cons (by go_simp) (Cells.cons (by go_simp) (Cells.nil _))))
 have HO0 := Lib.hid (Own.new' (w.alloc (.cells #[.bool s, .slice A n c, .slice B m k] 32)) 28 [.slice none 0 0] (w.heap.size + 1) (by simp))
 have hbw : Below w.heap.size w ((w.alloc (.cells #[.bool s, .slice A n c, .slice B m k] 32)).alloc (.cells #[.slice none 0 0] 28)) := (by repeat (first | assumption | exact nB1 _ _ | refine nB2 ?_ | refine pw_below_drewN ?_ _ | refine nB3 ?_ (by first | omega | (simp <;> omega)) _ | refine nB4 ?_ (by first | omega | (simp <;> omega)) _ | refine nB5 ?_ (by assumption) (by first | omega | (simp <;> omega))))
 clear h hf eb
 go_enter Tryz.func64, Tryz.ntmps64
 go_wp2_with fail
 generalize ((w.alloc (.cells #[.bool s, .slice A n c, .slice B m k] 32)).alloc (.cells #[.slice none 0 0] 28)) = W0 at HB HO0 hbw ⊢
 obtain ⟨y0, y1, y2, _⟩ := id HB.out
 go_wp2_with fail
 clear y0 y1 y2
 refine (HB0.out _ (H1.out.ext hbw).rest).mono ?_
 rintro e W1 ⟨v1, rfl, hb1, rfl⟩
 replace HB := Lib.hid (HB.out.ext hb1)
 replace HO0 := Lib.hid (HO0.out.ext hb1)
 replace hbw := nT hbw hb1
 clear hb1
 by_cases h0 : b = 0
 ·
  have hd := hb.1 h0
  subst h0
  clear hb
  go_wp2_with fail
  refine (HOF.out _).mono ?_
  rintro e W2 ⟨v1, rfl, hb1, hr1⟩
  obtain ⟨EA, Ec, En, rfl, hr1⟩ := hr1.shape
  replace HB := Lib.hid (HB.out.ext hb1)
  replace HO0 := Lib.hid (HO0.out.ext hb1)
  replace hbw := nT hbw hb1
  have R1 := Lib.hid hr1
  clear hr1
  clear hb1
  have q0 := HO0.out.cell 0 _ rfl
  have f0 := HO0.out.frozen 0
  go_wp2_with fail
  replace HB := Lib.hid (HB.out.set (p := ⟨w.heap.size + 1, 0, none⟩) (.slice EA En Ec) (by simp <;> omega))
  replace HO0 := Lib.hid (HO0.out.set 0 (.slice EA En Ec))
  replace R1 := Lib.hid (R1.out.set (x := .slice EA En Ec) q0 rfl)
  replace hbw := nB4 hbw (show w.heap.size ≤ (⟨w.heap.size + 1, 0, none⟩ : Addr).block by simp <;> omega) (.slice EA En Ec)
  clear q0 f0
  replace HO0 : Hid (Own _ _ _ [.slice EA En Ec]) := HO0
  generalize (W2.setCell ⟨w.heap.size + 1, 0, none⟩ (.slice EA En Ec)) = W3 at HB HO0 R1 hbw ⊢
  have kk0 := HO0.out.cell 0 _ rfl
  refine bodyPost_ret (v := .agg #[.slice EA En Ec]) (by simp [results, Tryz.results64, go_sem, kk0]) rfl ⟨_, rfl, hbw, ?_⟩
  rw [hd]
  exact R1.out
 ·
  have hd : q.den ≠ 1 := fun e => h0 (hb.2 e)
  have h1 : ((b : Int) == 0) = false := by rw [beq_eq_false_iff_ne]; omega
  have h2 : ¬ (b : Int) = 0 := by omega
  have HD := Lib.hid hd
  clear hb hd
  obtain ⟨y0, y1, y2, _⟩ := id HB.out
  have q0 := HO0.out.cell 0 _ rfl
  have f0 := HO0.out.frozen 0
  go_wp2_with fail
  replace HB := Lib.hid (HB.out.set (p := ⟨w.heap.size + 1, 0, none⟩) (.slice B m k) (by simp <;> omega))
  replace HO0 := Lib.hid (HO0.out.set 0 (.slice B m k))
  replace hbw := nB4 hbw (show w.heap.size ≤ (⟨w.heap.size + 1, 0, none⟩ : Addr).block by simp <;> omega) (.slice B m k)
  clear q0 f0
  replace HO0 : Hid (Own _ _ _ [.slice B m k]) := HO0
  generalize (W1.setCell ⟨w.heap.size + 1, 0, none⟩ (.slice B m k)) = W2 at HB HO0 hbw ⊢
  have kk0 := HO0.out.cell 0 _ rfl
  refine bodyPost_ret (v := .agg #[.slice B m k]) (by simp [results, Tryz.results64, go_sem, kk0]) rfl ⟨_, rfl, hbw, ?_⟩
  have := (H1.out.ext hbw).rest
  rw [if_neg HD.out] at this
  exact this
set_option maxRecDepth 100000 in
set_option maxHeartbeats 1000000 in
/-- frac.Neg -/
theorem qneg_c (w : World) (v : Value) (q : Rat) (h : rQ w v q) (hf : Fit q.num.natAbs) : Calls Tryz.prog 85 #[v] w (Post w fun r w' => rQ w' r (-q)) := by
 obtain ⟨s, A, c, n, B, k, m, rfl, h⟩ := h.shape
 have H1 := Lib.hid h
 have HN := Lib.hid (fun W h => neg_c W (.agg #[.bool s, .slice A n c]) q.num h hf)
 have HB : Hid (Cells [(w.heap.size, 0, .bool s), (w.heap.size, 1, .slice A n c), (w.heap.size, 2, .slice B m k)] ((w.alloc (.cells #[.bool s, .slice A n c, .slice B m k] 32)).alloc (.cells #[.bool false, .slice none 0 0, .slice none 0 0] 32))) := Lib.hid (Cells.cons (by go_simp) (Cells.cons (by go_simp) (Cells.cons (by go_simp) (Cells.nil _))))
 have HO0 := Lib.hid (Own.new' (w.alloc (.cells #[.bool s, .slice A n c, .slice B m k] 32)) 32 [.bool false, .slice none 0 0, .slice none 0 0] (w.heap.size + 1) (by simp))
 have hbw : Below w.heap.size w ((w.alloc (.cells #[.bool s, .slice A n c, .slice B m k] 32)).alloc (.cells #[.bool false, .slice none 0 0, .slice none 0 0] 32)) := (by repeat (first | assumption | exact nB1 _ _ | refine nB2 ?_ | refine pw_below_drewN ?_ _ | refine nB3 ?_ (by first | omega | (simp <;> omega)) _ | refine nB4 ?_ (by first | omega | (simp <;> omega)) _ | refine nB5 ?_ (by assumption) (by first | omega | (simp <;> omega))))
 clear h hf
 go_enter Tryz.func85, Tryz.ntmps85
 go_wp2_with fail
 generalize ((w.alloc (.cells #[.bool s, .slice A n c, .slice B m k] 32)).alloc (.cells #[.bool false, .slice none 0 0, .slice none 0 0] 32)) = W0 at HB HO0 hbw ⊢
 replace HB := Lib.hid (HB.out.drew)
 replace HO0 := Lib.hid (HO0.out.drew)
 replace hbw := Below.drew hbw
 refine wp_hoist [(0, true), (1, true), (3, true), (4, true), (2, false), (5, true), (6, false)] (Cells [(w.heap.size, 0, .bool s), (w.heap.size, 1, .slice A n c), (w.heap.size, 2, .slice B m k)]) (by kernel_rfl) (by kernel_rfl) ?_ ?_
 · exact HB.out
 generalize W0.drew = W1 at HB HO0 hbw ⊢
 refine hz_yes (v := ?_) rfl (by kernel_rfl) (fun W hW => ?_) ?_; rotate_left; (go_simp; try with_reducible rfl)
 (try (conv => arg 6; simp only [Act.put, gL]))
 refine hz_yes (v := ?_) rfl (by kernel_rfl) (fun W hW => ?_) ?_; rotate_left; (obtain ⟨y0, y1, y2, _⟩ := hW; go_simp; try with_reducible rfl)
 (try (conv => arg 6; simp only [Act.put, gL]))
 refine hz_yes (v := ?_) rfl (by kernel_rfl) (fun W hW => ?_) ?_; rotate_left; (go_simp; try with_reducible rfl)
 (try (conv => arg 6; simp only [Act.put, gL]))
 refine hz_yes (v := ?_) rfl (by kernel_rfl) (fun W hW => ?_) ?_; rotate_left; (obtain ⟨y0, y1, y2, _⟩ := hW; go_simp; try with_reducible rfl)
 (try (conv => arg 6; simp only [Act.put, gL]))
 refine hz_eff rfl (by kernel_rfl) (fun K hK => ?_)
 refine wp_call (HN.out _ (H1.out.ext hbw).num) (by kernel_rfl) ?_
 rintro v1 W2 hb1 hr1
 obtain ⟨Es, EA, Ec, En, rfl, hr1⟩ := hr1.shape
 refine hK.out _ _ ?_ ?_
 · exact HB.out.ext hb1
 clear hK K
 (try (conv => arg 6; simp only [Act.put, gL]))
 replace HB := Lib.hid (HB.out.ext hb1)
 replace HO0 := Lib.hid (HO0.out.ext hb1)
 replace hbw := nT hbw hb1
 have R1 := Lib.hid hr1
 clear hr1
 clear hb1
 refine hz_yes (v := ?_) rfl (by kernel_rfl) (fun W hW => ?_) ?_; rotate_left; (go_simp; try with_reducible rfl)
 (try (conv => arg 6; simp only [Act.put, gL]))
 have q0 := HO0.out.cell 0 _ rfl
 have f0 := HO0.out.frozen 0
 have q1 := HO0.out.cell 1 _ rfl
 have f1 := HO0.out.frozen 1
 have q2 := HO0.out.cell 2 _ rfl
 have f2 := HO0.out.frozen 2
 refine hz_eff rfl (by kernel_rfl) (fun K hK => ?_)
 go_simp
 refine hK.out _ _ ?_ ?_
 · exact (((HB.out.set (p := ⟨w.heap.size + 1, 0, none⟩) _ (by simp <;> omega)).set (p := ⟨w.heap.size + 1, 1, none⟩) _ (by simp <;> omega)).set (p := ⟨w.heap.size + 1, 2, none⟩) _ (by simp <;> omega))
 clear hK K
 (try (conv => arg 6; simp only [Act.put, gL]))
 replace HB := Lib.hid (HB.out.set (p := ⟨w.heap.size + 1, 0, none⟩) (.bool Es) (by simp <;> omega))
 replace HO0 := Lib.hid (HO0.out.set 0 (.bool Es))
 replace R1 := Lib.hid (R1.out.set (x := .bool Es) q0 rfl)
 replace hbw := nB4 hbw (show w.heap.size ≤ (⟨w.heap.size + 1, 0, none⟩ : Addr).block by simp <;> omega) (.bool Es)
 replace q1 := (nC W2 ⟨w.heap.size + 1, 0, none⟩ ⟨w.heap.size + 1, 1, none⟩ (.bool Es) (by simp)).trans q1
 replace q2 := (nC W2 ⟨w.heap.size + 1, 0, none⟩ ⟨w.heap.size + 1, 2, none⟩ (.bool Es) (by simp)).trans q2
 replace HB := Lib.hid (HB.out.set (p := ⟨w.heap.size + 1, 1, none⟩) (.slice EA En Ec) (by simp <;> omega))
 replace HO0 := Lib.hid (HO0.out.set 1 (.slice EA En Ec))
 replace R1 := Lib.hid (R1.out.set (x := .slice EA En Ec) q1 rfl)
 replace hbw := nB4 hbw (show w.heap.size ≤ (⟨w.heap.size + 1, 1, none⟩ : Addr).block by simp <;> omega) (.slice EA En Ec)
 replace q2 := (nC (W2.setCell ⟨w.heap.size + 1, 0, none⟩ (.bool Es)) ⟨w.heap.size + 1, 1, none⟩ ⟨w.heap.size + 1, 2, none⟩ (.slice EA En Ec) (by simp)).trans q2
 replace HB := Lib.hid (HB.out.set (p := ⟨w.heap.size + 1, 2, none⟩) (.slice B m k) (by simp <;> omega))
 replace HO0 := Lib.hid (HO0.out.set 2 (.slice B m k))
 replace R1 := Lib.hid (R1.out.set (x := .slice B m k) q2 rfl)
 replace hbw := nB4 hbw (show w.heap.size ≤ (⟨w.heap.size + 1, 2, none⟩ : Addr).block by simp <;> omega) (.slice B m k)
 clear q0 f0 q1 f1 q2 f2
 replace HO0 : Hid (Own _ _ _ [.bool Es, .slice EA En Ec, .slice B m k]) := HO0
 generalize (((W2.setCell ⟨w.heap.size + 1, 0, none⟩ (.bool Es)).setCell ⟨w.heap.size + 1, 1, none⟩ (.slice EA En Ec)).setCell ⟨w.heap.size + 1, 2, none⟩ (.slice B m k)) = W3 at HB HO0 R1 hbw ⊢
 refine hz_nil ?_
 go_wp2_with fail
 have kk0 := HO0.out.cell 0 _ rfl
 have kk1 := HO0.out.cell 1 _ rfl
 have kk2 := HO0.out.cell 2 _ rfl
 refine bodyPost_ret (v := .agg #[.bool Es, .slice EA En Ec, .slice B m k]) (by simp [results, Tryz.results85, go_sem, kk0, kk1, kk2]) rfl ⟨_, rfl, hbw, ?_⟩
 exact rQd.mk (by rw [Rat.neg_num]; exact R1.out) (by rw [Rat.neg_den]; exact (H1.out.ext hbw).rest)
end Go.Proofs.YtadpjidakippeaaGreat

/- Fractions: plain laws: the parts of sums and products; sizes. -/
namespace Go.Proofs.YtadpjidakippeaaGreat
open Go.RowKit
theorem rat_add_parts (a b : Rat) (g h : Nat) (t : Int) (hg : Nat.gcd a.den b.den = g) (ht : a.num * ((b.den / g : Nat) : Int) + b.num * ((a.den / g : Nat) : Int) = t) (hh : Nat.gcd t.natAbs g = h) :
  (a + b).num = Int.fdiv t h ∧ (a + b).den = a.den / g * (b.den / h) := by
 have e : a + b = Rat.add a b := rfl
 rw [e]
 delta Rat.add
 subst hg
 dsimp only
 split
 ·
  rename_i hg
  rw [hg] at ht hh
  simp only [Nat.div_one] at ht
  rw [Nat.gcd_one_right] at hh
  subst hh
  rw [hg]
  simp [ht]
 ·
  rw [Rat.maybeNormalize_eq]
  dsimp only
  rw [Int.divExact_eq_ediv, Int.fdiv_eq_ediv_of_nonneg _ (by omega), ht, hh, Nat.mul_div_assoc]
  · exact ⟨rfl, rfl⟩
  ·
   rw [← hh]
   exact Nat.dvd_trans (Nat.gcd_dvd_right _ _) (Nat.gcd_dvd_right _ _)
theorem rat_mul_parts (a b : Rat) (g h : Nat) (hg : Nat.gcd a.num.natAbs b.den = g) (hh : Nat.gcd b.num.natAbs a.den = h) :
  (a * b).num = Int.fdiv a.num g * Int.fdiv b.num h ∧ (a * b).den = a.den / h * (b.den / g) := by
 have e : a * b = Rat.mul a b := rfl
 rw [e]
 delta Rat.mul
 subst hg
 subst hh
 dsimp only
 rw [Int.divExact_eq_ediv, Int.divExact_eq_ediv, Int.fdiv_eq_ediv_of_nonneg _ (by omega), Int.fdiv_eq_ediv_of_nonneg _ (by omega)]
 exact ⟨rfl, rfl⟩
theorem int_parts (z : Int) : ((z : Int) : Rat).num = z ∧ ((z : Int) : Rat).den = 1 := ⟨rfl, rfl⟩
theorem rat_whole {a : Rat} (h : a.den = 1) : a = (a.num : Rat) := Rat.ext (by simp) (by simp [h])
theorem rat_add_whole (a b : Rat) (h1 : a.den = 1) (h2 : b.den = 1) : (a + b).num = a.num + b.num ∧ (a + b).den = 1 := by
 have e : a + b = ((a.num + b.num : Int) : Rat) := by rw [Rat.intCast_add, ← rat_whole h1, ← rat_whole h2]
 rw [e]
 exact int_parts _
theorem rat_mul_whole (a b : Rat) (h1 : a.den = 1) (h2 : b.den = 1) : (a * b).num = a.num * b.num ∧ (a * b).den = 1 := by
 have e : a * b = ((a.num * b.num : Int) : Rat) := by rw [Rat.intCast_mul, ← rat_whole h1, ← rat_whole h2]
 rw [e]
 exact int_parts _
theorem mkRat_parts (n : Int) (d : Nat) (hd : d ≠ 0) : (mkRat n d).num = n / (Nat.gcd n.natAbs d : Nat) ∧ (mkRat n d).den = d / Nat.gcd n.natAbs d := by
 rw [← Rat.normalize_eq_mkRat hd, Rat.num_normalize, Rat.den_normalize]
 exact ⟨rfl, rfl⟩
/-- How large the parts of a fraction are. -/
def qb (q : Rat) : Nat := max (bl q.num.natAbs) (bl q.den)
theorem qb_num (q : Rat) : bl q.num.natAbs ≤ qb q := Nat.le_max_left _ _
theorem qb_den (q : Rat) : bl q.den ≤ qb q := Nat.le_max_right _ _
theorem natAbs_ediv_le (z : Int) (n : Nat) : (z / (n : Int)).natAbs ≤ z.natAbs := by
 rcases Nat.eq_zero_or_pos n with rfl | hn
 · simp
 rcases Int.natAbs_eq z with h | h
 · rw [h, ← Int.natCast_ediv]; simp only [Int.natAbs_natCast]; exact Nat.div_le_self _ _
 ·
  generalize z.natAbs = k at *
  subst h
  have h1 : (-(k : Int)) / (n : Int) ≤ 0 := by
   have := Int.ediv_le_ediv (c := (n : Int)) (by omega) (show -(k : Int) ≤ 0 by omega)
   simpa using this
  have h2 : -(k : Int) ≤ (-(k : Int)) / (n : Int) := by
   rw [Int.le_ediv_iff_mul_le (by omega)]
   have : (k : Int) * 1 ≤ (k : Int) * n := Int.mul_le_mul_of_nonneg_left (by omega) (by omega)
   rw [Int.neg_mul]; omega
  omega
theorem qb_mul (a b : Rat) : qb (a * b) ≤ qb a + qb b := by
 have h1 : bl (a * b).num.natAbs ≤ bl a.num.natAbs + bl b.num.natAbs := by
  rw [Rat.num_mul]
  refine Nat.le_trans (bl_mono (natAbs_ediv_le _ _)) ?_
  rw [Int.natAbs_mul]
  exact bl_mul _ _
 have h2 : bl (a * b).den ≤ bl a.den + bl b.den := by
  rw [Rat.den_mul]
  exact Nat.le_trans (bl_mono (Nat.div_le_self _ _)) (bl_mul _ _)
 have := qb_num a
 have := qb_num b
 have := qb_den a
 have := qb_den b
 unfold qb at *
 omega
theorem qb_add (a b : Rat) : qb (a + b) ≤ qb a + qb b + 1 := by
 have h1 : bl (a + b).num.natAbs ≤ max (bl a.num.natAbs + bl b.den) (bl b.num.natAbs + bl a.den) + 1 := by
  rw [Rat.num_add]
  refine Nat.le_trans (bl_mono (natAbs_ediv_le _ _)) ?_
  refine Nat.le_trans (bl_mono (Int.natAbs_add_le _ _)) ?_
  rw [Int.natAbs_mul, Int.natAbs_mul]
  refine Nat.le_trans (bl_add _ _) ?_
  have h3 := bl_mul a.num.natAbs (b.den : Int).natAbs
  have h4 := bl_mul b.num.natAbs (a.den : Int).natAbs
  simp only [Int.natAbs_natCast] at h3 h4 ⊢
  omega
 have h2 : bl (a + b).den ≤ bl a.den + bl b.den := by
  rw [Rat.den_add]
  exact Nat.le_trans (bl_mono (Nat.div_le_self _ _)) (bl_mul _ _)
 have := qb_num a
 have := qb_num b
 have := qb_den a
 have := qb_den b
 unfold qb at *
 omega
theorem qb_neg (a : Rat) : qb (-a) = qb a := by unfold qb; rw [Rat.neg_num, Rat.neg_den, Int.natAbs_neg]
theorem qb_pos (q : Rat) : 1 ≤ qb q := by
 have := qb_den q
 have := bl_pos.2 q.den_nz
 omega
theorem qb_sub (a b : Rat) : qb (a - b) ≤ qb a + qb b + 1 := by
 rw [Rat.sub_eq_add_neg, ← qb_neg b]; exact qb_add _ _
theorem qb_inv (a : Rat) : qb a⁻¹ ≤ qb a := by
 by_cases h : a = 0
 · subst h; rw [Rat.inv_zero]; exact Nat.le_refl _
 ·
  have h1 : bl a⁻¹.num.natAbs ≤ bl a.den := by 
   rw [Rat.num_inv]
   refine bl_mono ?_
   rw [Int.natAbs_mul]
   have : a.num.sign.natAbs ≤ 1 := by rcases Int.lt_trichotomy a.num 0 with h | h | h <;> simp [Int.sign_eq_neg_one_of_neg, Int.sign_eq_one_of_pos, h]
   have h2 := Nat.mul_le_mul_right a.den this
   simpa using h2
  have h2 : bl a⁻¹.den ≤ max (bl a.num.natAbs) 1 := by 
   rw [Rat.den_inv]
   split
   · rw [show bl 1 = 1 from rfl]; omega
   · omega
  have := qb_pos a
  unfold qb at *
  omega
theorem qb_div (a b : Rat) : qb (a / b) ≤ qb a + qb b := by
 rw [Rat.div_def]
 have := qb_mul a b⁻¹
 have := qb_inv b
 omega
end Go.Proofs.YtadpjidakippeaaGreat

/- frac.quick, short. -/
namespace Go.Proofs.YtadpjidakippeaaGreat
open Go.RowKit
def QShort (r : Value) (q : Rat) : Prop := ∃ (n d : Int) (ok : Bool), r = .tuple #[.int .i64 n, .int .i64 d, .bool ok] ∧ (ok = true → n = q.num ∧ d = q.den ∧ -2147483648 < n ∧ n < 2147483648 ∧ 0 < d ∧ d < 2147483648)
set_option maxRecDepth 100000 in
set_option maxHeartbeats 1000000 in
/-- frac.short -/
theorem short_q (w : World) (v : Value) (q : Rat) (h : rQ w v q) : Calls Tryz.prog 72 #[v] w (Post w fun r _ => QShort r q) := by
 obtain ⟨s, A, c, n, B, k, m, rfl, h⟩ := h.shape
 have H1 := Lib.hid h
 obtain ⟨z, ez⟩ : ∃ z, (if I64 q.num then q.num else 0) = z := ⟨_, rfl⟩
 obtain ⟨o1, eo1⟩ : ∃ o, decide (I64 q.num) = o := ⟨_, rfl⟩
 obtain ⟨u, eu⟩ : ∃ u : Nat, (if (if q.den = 1 then 0 else q.den) < B64 then (if q.den = 1 then 0 else q.den) else 0) = u := ⟨_, rfl⟩
 obtain ⟨o2, eo2⟩ : ∃ o, decide ((if q.den = 1 then 0 else q.den) < B64) = o := ⟨_, rfl⟩
 have HS1 := Lib.hid (fun W h => ismall_c W (.agg #[.bool s, .slice A n c]) q.num h)
 have HS2 := Lib.hid (fun W h => small_c W (.agg #[.slice B m k]) (if q.den = 1 then 0 else q.den) h)
 unfold ISmallSaid at HS1
 unfold SmallSaid at HS2
 rw [ez, eo1] at HS1
 rw [eu, eo2] at HS2
 have hkey : o1 = true → o2 = true → -2147483648 < z → z < 2147483648 → u < 2147483648 → z = q.num ∧ ((max u 1 : Nat) : Int) = q.den := by
  intro h1 h2 h3 h4 h5
  subst h1
  subst h2
  rw [if_pos (of_decide_eq_true eo1)] at ez
  rw [if_pos (of_decide_eq_true eo2)] at eu
  refine ⟨ez.symm, ?_⟩
  have := q.den_pos
  split at eu <;> omega
 have HK := Lib.hid hkey
 have hub : u < B64 := by
  rw [← eu]
  by_cases hx : (if q.den = 1 then 0 else q.den) < B64
  · rw [if_pos hx]; exact hx
  · rw [if_neg hx]; exact B64_pos
 clear h ez eo1 eu eo2 hkey
 have HB : Hid (Cells [(w.heap.size, 0, .bool s), (w.heap.size, 1, .slice A n c), (w.heap.size, 2, .slice B m k)] (w.alloc (.cells #[.bool s, .slice A n c, .slice B m k] 32))) := Lib.hid (Cells.cons (by go_simp) (Cells.cons (by go_simp) (Cells.cons (by go_simp) (Cells.nil _))))
 have hbw : Below w.heap.size w (w.alloc (.cells #[.bool s, .slice A n c, .slice B m k] 32)) := (by repeat (first | assumption | exact nB1 _ _ | refine nB2 ?_ | refine pw_below_drewN ?_ _ | refine nB3 ?_ (by first | omega | (simp <;> omega)) _ | refine nB4 ?_ (by first | omega | (simp <;> omega)) _ | refine nB5 ?_ (by assumption) (by first | omega | (simp <;> omega))))
 go_enter Tryz.func72, Tryz.ntmps72
 go_wp2_with fail
 generalize (w.alloc (.cells #[.bool s, .slice A n c, .slice B m k] 32)) = W0 at HB hbw ⊢
 obtain ⟨y0, y1, y2, _⟩ := id HB.out
 go_wp2_with fail
 clear y0 y1 y2
 refine (HS1.out _ (H1.out.ext hbw).num).mono ?_
 rintro e W1 ⟨v1, rfl, hb1, rfl⟩
 replace HB := Lib.hid (HB.out.ext hb1)
 replace hbw := nT hbw hb1
 clear hb1
 obtain ⟨y0, y1, y2, _⟩ := id HB.out
 go_wp2_with fail
 clear y0 y1 y2
 refine (HS2.out _ (H1.out.ext hbw).rest).mono ?_
 rintro e W2 ⟨v1, rfl, hb1, rfl⟩
 replace HB := Lib.hid (HB.out.ext hb1)
 replace hbw := nT hbw hb1
 clear hb1
 have hub2 : (u : Int) < 18446744073709551616 := by unfold B64 at hub; omega
 obtain ⟨dd, ed⟩ : ∃ dd, IntKind.i64.wrap (max (u : Int) 1) = dd := ⟨_, rfl⟩
 have hdd : u < 2147483648 → dd = ((max u 1 : Nat) : Int) := by
  intro h
  rw [← ed]
  have : max (u : Int) 1 = ((max u 1 : Nat) : Int) := by omega
  rw [this]
  exact i64w (by omega) (by omega)
 have HD := Lib.hid hdd
 clear hdd
 cases o1
 ·
  go_wp2_with fail
  refine bodyPost_ret (v := .tuple #[.int .i64 z, .int .i64 dd, .bool false]) (by simp [results, Tryz.results72, go_sem]) rfl ⟨_, rfl, hbw, _, _, _, rfl, fun h => by cases h⟩
 ·
  cases o2
  ·
   go_wp2_with fail
   refine bodyPost_ret (v := .tuple #[.int .i64 z, .int .i64 dd, .bool false]) (by simp [results, Tryz.results72, go_sem]) rfl ⟨_, rfl, hbw, _, _, _, rfl, fun h => by cases h⟩
  ·
   by_cases h1 : -2147483648 < z
   ·
    by_cases h2 : z < 2147483648
    ·
     go_wp2_with fail
     refine bodyPost_ret (v := .tuple #[.int .i64 z, .int .i64 dd, .bool (decide ((u : Int) < 2147483648))]) (by simp [results, Tryz.results72, go_sem]) rfl ⟨_, rfl, hbw, _, _, _, rfl, fun h => ?_⟩
     have h5 : u < 2147483648 := by have := of_decide_eq_true h; omega
     obtain ⟨e1, e2⟩ := HK.out (by simp) (by simp) h1 h2 h5
     have e3 := HD.out h5
     exact ⟨e1, by rw [e3, e2], h1, h2, by omega, by omega⟩
    ·
     have e2 : decide (z < 2147483648) = false := decide_eq_false h2
     clear h2 HK
     go_wp2_with fail
     refine bodyPost_ret (v := .tuple #[.int .i64 z, .int .i64 dd, .bool false]) (by simp [results, Tryz.results72, go_sem]) rfl ⟨_, rfl, hbw, _, _, _, rfl, fun h => by cases h⟩
   ·
    have e2 : decide (-2147483648 < z) = false := decide_eq_false h1
    clear h1 HK
    go_wp2_with fail
    refine bodyPost_ret (v := .tuple #[.int .i64 z, .int .i64 dd, .bool false]) (by simp [results, Tryz.results72, go_sem]) rfl ⟨_, rfl, hbw, _, _, _, rfl, fun h => by cases h⟩
set_option maxRecDepth 100000 in
set_option maxHeartbeats 1000000 in
/-- frac.quick -/
theorem quick_c (w : World) (n : Int) (d : Nat) (hn : -9223372036854775808 < n ∧ n < 9223372036854775808) (hd : 0 < d ∧ d < 9223372036854775808) :
  Calls Tryz.prog 73 #[.int .i64 n, .int .i64 (d : Nat)] w (Post w fun r w' => rQ w' r (mkRat n d)) := by
 obtain ⟨g, eg⟩ : ∃ g, Nat.gcd n.natAbs d = g := ⟨_, rfl⟩
 have hw1 : IntKind.i64.wrap (-n) = -n := i64w (by omega) (by omega)
 have hmx : max n (-n) = (n.natAbs : Int) := by omega
 have HB : Hid (Cells [] (w.alloc (.cells #[.bool false, .slice none 0 0, .slice none 0 0] 32))) := Lib.hid (Cells.nil _)
 have HO0 := Lib.hid (Own.new' w 32 [.bool false, .slice none 0 0, .slice none 0 0] (w.heap.size) (by simp))
 have hbw : Below w.heap.size w (w.alloc (.cells #[.bool false, .slice none 0 0, .slice none 0 0] 32)) := (by repeat (first | assumption | exact nB1 _ _ | refine nB2 ?_ | refine pw_below_drewN ?_ _ | refine nB3 ?_ (by first | omega | (simp <;> omega)) _ | refine nB4 ?_ (by first | omega | (simp <;> omega)) _ | refine nB5 ?_ (by assumption) (by first | omega | (simp <;> omega))))
 go_enter Tryz.func73, Tryz.ntmps73
 go_upto_block 0 with (fail)
 generalize (w.alloc (.cells #[.bool false, .slice none 0 0, .slice none 0 0] 32)) = W0 at HB HO0 hbw ⊢
 have HG := Lib.hid eg
 have HN := Lib.hid hn
 have HD := Lib.hid hd
 clear eg hn hd
 go_cut [5, 6] (fun ta tb W => ∃ g' : Nat, ta = .int .i64 (g' : Nat) ∧ g' = g ∧ Below w.heap.size w W ∧ Own W w.heap.size 32 [.bool false, .slice none 0 0, .slice none 0 0])
 case first =>
  go_wp2_with fail
  go_loopw [5, 6] (fun ta tb W => ∃ p q : Nat, p < 9223372036854775808 ∧ q < 9223372036854775808 ∧ ta = .int .i64 (p : Nat) ∧ tb = .int .i64 (q : Nat) ∧ Nat.gcd p q = g ∧ Below w.heap.size w W ∧ Own W w.heap.size 32 [.bool false, .slice none 0 0, .slice none 0 0]) (fun _ tb _ => (intOf tb).toNat)
  case atStart =>
   have := HN.out
   exact ⟨n.natAbs, d, by omega, HD.out.2, rfl, rfl, HG.out, hbw, HO0.out⟩
  case round =>
   obtain ⟨p, q, hp, hq, rfl, rfl, hg, hbe, ho⟩ := hrel
   have HG' := Lib.hid hg
   have HP := Lib.hid hp
   have HQ := Lib.hid hq
   clear hg hp hq
   rcases Nat.eq_zero_or_pos q with rfl | hq0
   ·
    go_wp2
    go_meet
    exact ⟨p, rfl, by rw [← HG'.out, Nat.gcd_zero_right], hbe, ho⟩
   ·
    have hne : ((q : Int) == 0) = false := by rw [beq_eq_false_iff_ne]; omega
    have hne2 : (q : Int) ≠ 0 := by omega
    have hne3 : ¬ (q : Int) = 0 := by omega
    have htm : Int.tmod (p : Int) (q : Int) = ((p % q : Nat) : Int) := by rw [Int.tmod_eq_emod_of_nonneg (by omega)]; rfl
    obtain ⟨r, er⟩ : ∃ r, p % q = r := ⟨_, rfl⟩
    have hrq : r < q := by rw [← er]; exact Nat.mod_lt _ hq0
    rw [er] at htm
    have ER := Lib.hid er
    have HQ0 := Lib.hid hq0
    clear er hq0
    have hrw : IntKind.i64.wrap (r : Int) = (r : Int) := i64w (by omega) (by have := HQ.out; omega)
    go_wp2_with fail
    go_quiet (fail)
    go_wp2
    go_roundw
    case rel => exact ⟨q, r, HQ.out, Nat.lt_trans hrq HQ.out, rfl, rfl, by rw [← HG'.out, ← ER.out]; exact (words_step (by have := HQ0.out; omega)).symm, pw_below_drewN hbe _, ho.drewN _⟩
    case measure => simp [intOf]; omega
 case rest =>
  obtain ⟨g', rfl, rfl, hbe, ho⟩ := hcut
  have hg0 : 0 < g' := by rw [← HG.out]; exact Nat.gcd_pos_of_pos_right _ HD.out.1
  have hgd : g' ∣ d := by rw [← HG.out]; exact Nat.gcd_dvd_right _ _
  have hgn : (g' : Int) ∣ n := by rw [← HG.out]; exact Int.ofNat_dvd_left.2 (Nat.gcd_dvd_left _ _)
  obtain ⟨a, ea⟩ := hgn
  obtain ⟨b, eb⟩ := hgd
  have hq1 : Int.tdiv n (g' : Int) = a := by rw [ea, Int.mul_tdiv_cancel_left _ (by omega)]
  have hq2 : Int.tdiv (d : Int) (g' : Int) = (b : Int) := by rw [eb, Int.natCast_mul, Int.mul_tdiv_cancel_left _ (by omega)]
  have hparts := mkRat_parts n d (by have := HD.out.1; omega)
  rw [HG.out] at hparts
  have ha : a.natAbs ≤ n.natAbs := by rw [ea, Int.natAbs_mul]; exact Nat.le_mul_of_pos_left _ (by omega)
  have hb : b ≤ d := by rw [eb]; exact Nat.le_mul_of_pos_left _ hg0
  have hb0 : 0 < b := by have := HD.out.1; rcases Nat.eq_zero_or_pos b with rfl | h <;> simp_all
  have hp1 : (mkRat n d).num = a := by rw [hparts.1, ea, Int.mul_ediv_cancel_left _ (by omega)]
  have hp2 : (mkRat n d).den = b := by rw [hparts.2, eb, Nat.mul_div_cancel_left _ hg0]
  have hw1 : IntKind.i64.wrap a = a := i64w (by have := HN.out; omega) (by have := HN.out; omega)
  have hw2 : IntKind.i64.wrap (b : Int) = (b : Int) := i64w (by omega) (by have := HD.out; omega)
  have hw3 : IntKind.u64.wrap (b : Int) = (b : Int) := by rw [IntKind.wrap_u64]; have := HD.out; omega
  have hne : ((g' : Int) == 0) = false := by rw [beq_eq_false_iff_ne]; omega
  have hne2 : ¬ (g' : Int) = 0 := by omega
  have hne4 : ¬ g' = 0 := by omega
  have hbB : b < B64 := by have := HD.out; unfold B64; omega
  have HO := Lib.hid (fun W => iof_c W a (by have := HN.out; omega) (by have := HN.out; omega))
  have HF := Lib.hid (fun W => of_c b hbB W)
  have HL := Lib.hid (fun W v u h h' => low_c W v u a b h h' (Nat.le_trans (bl_le_of_lt (k := 64) hbB) (by omega)))
  have HP := Lib.hid (show ∀ W v, rQd W v a b → rQ W v (mkRat n d) from fun W v h => by unfold rQ; rw [hp1, hp2]; exact h)
  clear hparts ha hb hp1 hp2 hbB hb0 ea eb
  have hb := HB
  clear HB HO0
  have HB : Hid (Cells [] wc) := Lib.hid trivial
  have HO0 := Lib.hid ho
  have hbw := hbe
  clear hb hbe ho
  go_wp2_with fail
  replace HB := Lib.hid (HB.out.drew)
  replace HO0 := Lib.hid (HO0.out.drew)
  replace hbw := Below.drew hbw
  refine wp_hoist [(0, true), (1, true), (2, true), (4, true), (5, true), (6, true), (7, true), (3, false), (8, false), (9, false), (10, false)] (Cells []) (by kernel_rfl) (by kernel_rfl) ?_ ?_
  · exact HB.out
  generalize wc.drew = W1 at HB HO0 hbw ⊢
  refine hz_yes (v := ?_) rfl (by kernel_rfl) (fun W hW => ?_) ?_; rotate_left; (go_simp; try with_reducible rfl)
  (try (conv => arg 6; simp only [Act.put, gL]))
  refine hz_yes (v := ?_) rfl (by kernel_rfl) (fun W hW => ?_) ?_; rotate_left; (go_simp; try with_reducible rfl)
  (try (conv => arg 6; simp only [Act.put, gL]))
  refine hz_yes (v := ?_) rfl (by kernel_rfl) (fun W hW => ?_) ?_; rotate_left; (go_simp; try with_reducible rfl)
  (try (conv => arg 6; simp only [Act.put, gL]))
  refine hz_yes (v := ?_) rfl (by kernel_rfl) (fun W hW => ?_) ?_; rotate_left; (go_simp; try with_reducible rfl)
  (try (conv => arg 6; simp only [Act.put, gL]))
  refine hz_yes (v := ?_) rfl (by kernel_rfl) (fun W hW => ?_) ?_; rotate_left; (go_simp; try with_reducible rfl)
  (try (conv => arg 6; simp only [Act.put, gL]))
  refine hz_yes (v := ?_) rfl (by kernel_rfl) (fun W hW => ?_) ?_; rotate_left; (go_simp; try with_reducible rfl)
  (try (conv => arg 6; simp only [Act.put, gL]))
  refine hz_yes (v := ?_) rfl (by kernel_rfl) (fun W hW => ?_) ?_; rotate_left; (go_simp; try with_reducible rfl)
  (try (conv => arg 6; simp only [Act.put, gL]))
  refine hz_eff rfl (by kernel_rfl) (fun K hK => ?_)
  refine wp_call (HO.out _) (by kernel_rfl) ?_
  rintro v1 W2 hb1 hr1
  obtain ⟨Es, EA, Ec, En, rfl, hr1⟩ := hr1.shape
  refine hK.out _ _ ?_ ?_
  · exact HB.out.ext hb1
  clear hK K
  (try (conv => arg 6; simp only [Act.put, gL]))
  replace HB := Lib.hid (HB.out.ext hb1)
  replace HO0 := Lib.hid (HO0.out.ext hb1)
  replace hbw := nT hbw hb1
  have R1 := Lib.hid hr1
  clear hr1
  clear hb1
  refine hz_eff rfl (by kernel_rfl) (fun K hK => ?_)
  refine wp_call (HF.out _) (by kernel_rfl) ?_
  rintro v1 W3 hb1 hr1
  obtain ⟨FA, Fc, Fn, rfl, hr1⟩ := hr1.shape
  refine hK.out _ _ ?_ ?_
  · exact HB.out.ext hb1
  clear hK K
  (try (conv => arg 6; simp only [Act.put, gL]))
  replace HB := Lib.hid (HB.out.ext hb1)
  replace HO0 := Lib.hid (HO0.out.ext hb1)
  replace R1 := Lib.hid (R1.out.ext hb1)
  replace hbw := nT hbw hb1
  have R2 := Lib.hid hr1
  clear hr1
  clear hb1
  refine hz_eff rfl (by kernel_rfl) (fun K hK => ?_)
  refine wp_call (HL.out _ _ _ R1.out R2.out) (by kernel_rfl) ?_
  rintro v1 W4 hb1 hr1
  obtain ⟨Zs, ZA, Zc, Zn, ZB, Zd, Zm, rfl, hr1⟩ := hr1.shape
  refine hK.out _ _ ?_ ?_
  · exact HB.out.ext hb1
  clear hK K
  (try (conv => arg 6; simp only [Act.put, gL]))
  replace HB := Lib.hid (HB.out.ext hb1)
  replace HO0 := Lib.hid (HO0.out.ext hb1)
  replace R1 := Lib.hid (R1.out.ext hb1)
  replace R2 := Lib.hid (R2.out.ext hb1)
  replace hbw := nT hbw hb1
  have R3 := Lib.hid hr1
  clear hr1
  clear hb1
  have q0 := HO0.out.cell 0 _ rfl
  have f0 := HO0.out.frozen 0
  have q1 := HO0.out.cell 1 _ rfl
  have f1 := HO0.out.frozen 1
  have q2 := HO0.out.cell 2 _ rfl
  have f2 := HO0.out.frozen 2
  refine hz_eff rfl (by kernel_rfl) (fun K hK => ?_)
  go_simp
  refine hK.out _ _ ?_ ?_
  · exact (((HB.out.set (p := ⟨w.heap.size, 0, none⟩) _ (by simp <;> omega)).set (p := ⟨w.heap.size, 1, none⟩) _ (by simp <;> omega)).set (p := ⟨w.heap.size, 2, none⟩) _ (by simp <;> omega))
  clear hK K
  (try (conv => arg 6; simp only [Act.put, gL]))
  replace HB := Lib.hid (HB.out.set (p := ⟨w.heap.size, 0, none⟩) (.bool Zs) (by simp <;> omega))
  replace HO0 := Lib.hid (HO0.out.set 0 (.bool Zs))
  replace R1 := Lib.hid (R1.out.set (x := .bool Zs) q0 rfl)
  replace R2 := Lib.hid (R2.out.set (x := .bool Zs) q0 rfl)
  replace R3 := Lib.hid (R3.out.set (x := .bool Zs) q0 rfl)
  replace hbw := nB4 hbw (show w.heap.size ≤ (⟨w.heap.size, 0, none⟩ : Addr).block by simp <;> omega) (.bool Zs)
  replace q1 := (nC W4 ⟨w.heap.size, 0, none⟩ ⟨w.heap.size, 1, none⟩ (.bool Zs) (by simp)).trans q1
  replace q2 := (nC W4 ⟨w.heap.size, 0, none⟩ ⟨w.heap.size, 2, none⟩ (.bool Zs) (by simp)).trans q2
  replace HB := Lib.hid (HB.out.set (p := ⟨w.heap.size, 1, none⟩) (.slice ZA Zn Zc) (by simp <;> omega))
  replace HO0 := Lib.hid (HO0.out.set 1 (.slice ZA Zn Zc))
  replace R1 := Lib.hid (R1.out.set (x := .slice ZA Zn Zc) q1 rfl)
  replace R2 := Lib.hid (R2.out.set (x := .slice ZA Zn Zc) q1 rfl)
  replace R3 := Lib.hid (R3.out.set (x := .slice ZA Zn Zc) q1 rfl)
  replace hbw := nB4 hbw (show w.heap.size ≤ (⟨w.heap.size, 1, none⟩ : Addr).block by simp <;> omega) (.slice ZA Zn Zc)
  replace q2 := (nC (W4.setCell ⟨w.heap.size, 0, none⟩ (.bool Zs)) ⟨w.heap.size, 1, none⟩ ⟨w.heap.size, 2, none⟩ (.slice ZA Zn Zc) (by simp)).trans q2
  replace HB := Lib.hid (HB.out.set (p := ⟨w.heap.size, 2, none⟩) (.slice ZB Zm Zd) (by simp <;> omega))
  replace HO0 := Lib.hid (HO0.out.set 2 (.slice ZB Zm Zd))
  replace R1 := Lib.hid (R1.out.set (x := .slice ZB Zm Zd) q2 rfl)
  replace R2 := Lib.hid (R2.out.set (x := .slice ZB Zm Zd) q2 rfl)
  replace R3 := Lib.hid (R3.out.set (x := .slice ZB Zm Zd) q2 rfl)
  replace hbw := nB4 hbw (show w.heap.size ≤ (⟨w.heap.size, 2, none⟩ : Addr).block by simp <;> omega) (.slice ZB Zm Zd)
  clear q0 f0 q1 f1 q2 f2
  replace HO0 : Hid (Own _ _ _ [.bool Zs, .slice ZA Zn Zc, .slice ZB Zm Zd]) := HO0
  generalize (((W4.setCell ⟨w.heap.size, 0, none⟩ (.bool Zs)).setCell ⟨w.heap.size, 1, none⟩ (.slice ZA Zn Zc)).setCell ⟨w.heap.size, 2, none⟩ (.slice ZB Zm Zd)) = W5 at HB HO0 R1 R2 R3 hbw ⊢
  refine hz_nil ?_
  go_wp2_with fail
  have kk0 := HO0.out.cell 0 _ rfl
  have kk1 := HO0.out.cell 1 _ rfl
  have kk2 := HO0.out.cell 2 _ rfl
  refine bodyPost_ret (v := .agg #[.bool Zs, .slice ZA Zn Zc, .slice ZB Zm Zd]) (by simp [results, Tryz.results73, go_sem, kk0, kk1, kk2]) rfl ⟨_, rfl, hbw, ?_⟩
  exact HP.out _ _ R3.out
end Go.Proofs.YtadpjidakippeaaGreat

/- Small laws for frac.Add and frac.Mul. -/
namespace Go.Proofs.YtadpjidakippeaaGreat
open Go.RowKit
theorem den_bits {q : Rat} {e : Nat} (h : bl (if q.den = 1 then 0 else q.den) = e) : e = 0 ↔ q.den = 1 := by
 have := q.den_pos
 rw [← h]
 have h := @bl_pos (if q.den = 1 then 0 else q.den)
 split at h <;> simp_all <;> omega
theorem fit_rest {q : Rat} (h : Fit q.den) : Fit (if q.den = 1 then 0 else q.den) := by
 split
 · unfold Fit; rw [bl_zero]; omega
 · exact h
theorem mul31 {a b : Int} (h1 : -2147483648 < a) (h2 : a < 2147483648) (h3 : -2147483648 < b) (h4 : b < 2147483648) : -4611686018427387904 < a * b ∧ a * b < 4611686018427387904 := by
 have h : (a * b).natAbs ≤ 2147483647 * 2147483647 := by
  rw [Int.natAbs_mul]
  exact Nat.mul_le_mul (by omega) (by omega)
 omega
end Go.Proofs.YtadpjidakippeaaGreat
