/- frac.under, Of, Num, Sign, Neg, Den. -/
import Derived.Test.YtlaocmhcilhlbaaY10
set_option linter.unusedVariables false
set_option linter.unusedSimpArgs false
namespace Go.Proofs.Ytlaocmhcilhlbaa
open Go.RowKit
set_option maxRecDepth 100000 in
set_option maxHeartbeats 1000000 in
/-- frac.under -/
theorem under_c (w : World) (vn vd : Value) (a d : Nat) (hn : rNat w vn a) (hd : rNat w vd d) (fa : Fit a) (fd : Fit d) :
    Calls Try.prog 38 #[vn, vd] w (Post w fun r w' => rNat w' r (a / d)) := by
  obtain ⟨A, c, n, rfl, hn⟩ := hn.shape
  obtain ⟨B, k, m, rfl, hd⟩ := hd.shape
  have HD := Lib.hid (fun W h h' => (div_n W (.agg #[.slice A n c]) (.agg #[.slice B m k]) a d h h' fa fd))
  have HS := Lib.hid (show ∀ W v, DivSaid W v a d → ∃ A1 c1 n1 A2 c2 n2, v = .tuple #[.agg #[.slice A1 n1 c1], .agg #[.slice A2 n2 c2], .bool (decide (d ≠ 0))] ∧ rNat W (.agg #[.slice A1 n1 c1]) (a / d) from fun W v ⟨q, r, hv, h1, h2⟩ => by
    obtain ⟨A1, c1, n1, rfl, h1⟩ := h1.shape
    obtain ⟨A2, c2, n2, rfl, h2⟩ := h2.shape
    exact ⟨A1, c1, n1, A2, c2, n2, hv, h1⟩)
  have H1 := Lib.hid hn
  have H2 := Lib.hid hd
  have HB : Hid (Cells [(w.heap.size, 0, .slice A n c), (w.heap.size + 1, 0, .slice B m k)] (((w.alloc (.cells #[.slice A n c] 30)).alloc (.cells #[.slice B m k] 30)).alloc (.cells #[.slice none 0 0] 30))) := Lib.hid (Cells.cons (by go_simp) (Cells.cons (by go_simp) (Cells.nil _)))
  have HO0 := Lib.hid (Own.new' ((w.alloc (.cells #[.slice A n c] 30)).alloc (.cells #[.slice B m k] 30)) 30 [.slice none 0 0] (w.heap.size + 1 + 1) (by simp))
  have hbw : Below w.heap.size w (((w.alloc (.cells #[.slice A n c] 30)).alloc (.cells #[.slice B m k] 30)).alloc (.cells #[.slice none 0 0] 30)) := (by repeat (first | assumption | exact Below.refl _ _ | refine Below.drew ?_ | refine pw_below_drewN ?_ _ | refine Below.alloc ?_ (by first | omega | (simp <;> omega)) _ | refine Below.setCell ?_ (by first | omega | (simp <;> omega)) _ | refine Below.trans ?_ (Below.mono (by assumption) (by first | omega | (simp <;> omega)))))
  clear hn hd fa fd
  go_enter Try.func38, Try.ntmps38
  go_wp2_with fail
  generalize (((w.alloc (.cells #[.slice A n c] 30)).alloc (.cells #[.slice B m k] 30)).alloc (.cells #[.slice none 0 0] 30)) = W0 at HB HO0 hbw ⊢
  obtain ⟨y0, y1, _⟩ := id HB.out
  go_wp2_with fail
  clear y0 y1
  refine ((HD.out _ (H1.out.ext hbw) (H2.out.ext hbw)).mono (fun _ _ h => h.map HS.out)).mono ?_
  rintro e W1 ⟨v1, rfl, hb1, A1, c1, n1, A2, c2, n2, rfl, hr1⟩
  replace HB := Lib.hid (HB.out.ext hb1)
  replace HO0 := Lib.hid (HO0.out.ext hb1)
  replace hbw := Below.trans hbw (Below.mono hb1 hbw.size)
  have R2 := Lib.hid hr1
  clear hr1
  clear hb1
  go_upto_region 2 with (fail)
  have z_H5 := hbw.size
  have z_H5_HO0 := HO0.out.lt
  replace HB := Lib.hid (HB.out.alloc (.cells #[.slice A1 n1 c1] 30))
  replace HO0 := Lib.hid (HO0.out.alloc (.cells #[.slice A1 n1 c1] 30))
  replace R2 := Lib.hid (R2.out.alloc (.cells #[.slice A1 n1 c1] 30))
  replace hbw := Below.alloc hbw hbw.size (.cells #[.slice A1 n1 c1] 30)
  have H5 := Lib.hid (Own.new' W1 30 [.slice A1 n1 c1] W1.heap.size rfl)
  obtain ⟨bH5, e_H5⟩ : ∃ b, W1.heap.size = b := ⟨_, rfl⟩
  simp only [e_H5] at H5 z_H5 z_H5_HO0 ⊢
  generalize (W1.alloc (.cells #[.slice A1 n1 c1] 30)) = W2 at HB HO0 R2 H5 hbw ⊢
  have z_H6 := hbw.size
  have z_H6_HO0 := HO0.out.lt
  have z_H6_H5 := H5.out.lt
  replace HB := Lib.hid (HB.out.alloc (.cells #[.slice A2 n2 c2] 30))
  replace HO0 := Lib.hid (HO0.out.alloc (.cells #[.slice A2 n2 c2] 30))
  replace R2 := Lib.hid (R2.out.alloc (.cells #[.slice A2 n2 c2] 30))
  replace H5 := Lib.hid (H5.out.alloc (.cells #[.slice A2 n2 c2] 30))
  replace hbw := Below.alloc hbw hbw.size (.cells #[.slice A2 n2 c2] 30)
  have H6 := Lib.hid (Own.new' W2 30 [.slice A2 n2 c2] W2.heap.size rfl)
  obtain ⟨bH6, e_H6⟩ : ∃ b, W2.heap.size = b := ⟨_, rfl⟩
  simp only [e_H6] at H6 z_H6 z_H6_HO0 z_H6_H5 ⊢
  generalize (W2.alloc (.cells #[.slice A2 n2 c2] 30)) = W3 at HB HO0 R2 H5 H6 hbw ⊢
  obtain ⟨y0, y1, _⟩ := id HB.out
  have x_H5_0 := H5.out.cell 0 _ rfl
  have f_H5_0 := H5.out.frozen 0
  have q0 := HO0.out.cell 0 _ rfl
  have f0 := HO0.out.frozen 0
  go_wp2_with fail
  replace HB := Lib.hid (HB.out.set (p := ⟨w.heap.size + 1 + 1, 0, none⟩) (.slice A1 n1 c1) (by simp <;> omega))
  replace HO0 := Lib.hid (HO0.out.set 0 (.slice A1 n1 c1))
  replace R2 := Lib.hid (R2.out.set (x := .slice A1 n1 c1) q0 rfl)
  replace H5 := Lib.hid (H5.out.other (p := ⟨w.heap.size + 1 + 1, 0, none⟩) (.slice A1 n1 c1) (by simp <;> omega))
  replace H6 := Lib.hid (H6.out.other (p := ⟨w.heap.size + 1 + 1, 0, none⟩) (.slice A1 n1 c1) (by simp <;> omega))
  replace hbw := Below.setCell hbw (show w.heap.size ≤ (⟨w.heap.size + 1 + 1, 0, none⟩ : Addr).block by simp <;> omega) (.slice A1 n1 c1)
  clear q0 f0
  replace HO0 : Hid (Own _ _ _ [.slice A1 n1 c1]) := HO0
  generalize (W3.setCell ⟨w.heap.size + 1 + 1, 0, none⟩ (.slice A1 n1 c1)) = W4 at HB HO0 R2 H5 H6 hbw ⊢
  have kk0 := HO0.out.cell 0 _ rfl
  refine bodyPost_ret (v := .agg #[.slice A1 n1 c1]) (by simp [results, Try.results38, go_sem, kk0]) rfl ⟨_, rfl, hbw, ?_⟩
  exact R2.out
set_option maxRecDepth 100000 in
set_option maxHeartbeats 1000000 in
/-- frac.Of -/
theorem qof_c (w : World) (z : Int) (hz : I64 z) : Calls Try.prog 21 #[.int .i64 z] w (Post w fun r w' => rQ w' r (z : Rat)) := by
  have HO := Lib.hid (fun W => iof_c W z hz.1 hz.2)
  have HB : Hid (Cells [] (w.alloc (.cells #[.bool false, .slice none 0 0, .slice none 0 0] 34))) := Lib.hid (Cells.nil _)
  have HO0 := Lib.hid (Own.new' w 34 [.bool false, .slice none 0 0, .slice none 0 0] (w.heap.size) (by simp))
  have hbw : Below w.heap.size w (w.alloc (.cells #[.bool false, .slice none 0 0, .slice none 0 0] 34)) := (by repeat (first | assumption | exact Below.refl _ _ | refine Below.drew ?_ | refine pw_below_drewN ?_ _ | refine Below.alloc ?_ (by first | omega | (simp <;> omega)) _ | refine Below.setCell ?_ (by first | omega | (simp <;> omega)) _ | refine Below.trans ?_ (Below.mono (by assumption) (by first | omega | (simp <;> omega)))))
  clear hz
  go_enter Try.func21, Try.ntmps21
  go_wp2_with fail
  generalize (w.alloc (.cells #[.bool false, .slice none 0 0, .slice none 0 0] 34)) = W0 at HB HO0 hbw ⊢
  refine (HO.out _).mono ?_
  rintro e W1 ⟨v1, rfl, hb1, hr1⟩
  obtain ⟨Es, EA, Ec, En, rfl, hr1⟩ := hr1.shape
  replace HB := Lib.hid (HB.out.ext hb1)
  replace HO0 := Lib.hid (HO0.out.ext hb1)
  replace hbw := Below.trans hbw (Below.mono hb1 hbw.size)
  have R1 := Lib.hid hr1
  clear hr1
  clear hb1
  have q0 := HO0.out.cell 0 _ rfl
  have f0 := HO0.out.frozen 0
  have q1 := HO0.out.cell 1 _ rfl
  have f1 := HO0.out.frozen 1
  have q2 := HO0.out.cell 2 _ rfl
  have f2 := HO0.out.frozen 2
  go_wp2_with fail
  replace HB := Lib.hid (HB.out.set (p := ⟨w.heap.size, 0, none⟩) (.bool Es) (by simp <;> omega))
  replace HO0 := Lib.hid (HO0.out.set 0 (.bool Es))
  replace R1 := Lib.hid (R1.out.set (x := .bool Es) q0 rfl)
  replace hbw := Below.setCell hbw (show w.heap.size ≤ (⟨w.heap.size, 0, none⟩ : Addr).block by simp <;> omega) (.bool Es)
  replace q1 := (World.cell?_setCell_other W1 ⟨w.heap.size, 0, none⟩ ⟨w.heap.size, 1, none⟩ (.bool Es) (by simp)).trans q1
  replace q2 := (World.cell?_setCell_other W1 ⟨w.heap.size, 0, none⟩ ⟨w.heap.size, 2, none⟩ (.bool Es) (by simp)).trans q2
  replace HB := Lib.hid (HB.out.set (p := ⟨w.heap.size, 1, none⟩) (.slice EA En Ec) (by simp <;> omega))
  replace HO0 := Lib.hid (HO0.out.set 1 (.slice EA En Ec))
  replace R1 := Lib.hid (R1.out.set (x := .slice EA En Ec) q1 rfl)
  replace hbw := Below.setCell hbw (show w.heap.size ≤ (⟨w.heap.size, 1, none⟩ : Addr).block by simp <;> omega) (.slice EA En Ec)
  replace q2 := (World.cell?_setCell_other (W1.setCell ⟨w.heap.size, 0, none⟩ (.bool Es)) ⟨w.heap.size, 1, none⟩ ⟨w.heap.size, 2, none⟩ (.slice EA En Ec) (by simp)).trans q2
  replace HB := Lib.hid (HB.out.set (p := ⟨w.heap.size, 2, none⟩) (.slice none 0 0) (by simp <;> omega))
  replace HO0 := Lib.hid (HO0.out.set 2 (.slice none 0 0))
  replace R1 := Lib.hid (R1.out.set (x := .slice none 0 0) q2 rfl)
  replace hbw := Below.setCell hbw (show w.heap.size ≤ (⟨w.heap.size, 2, none⟩ : Addr).block by simp <;> omega) (.slice none 0 0)
  clear q0 f0 q1 f1 q2 f2
  replace HO0 : Hid (Own _ _ _ [.bool Es, .slice EA En Ec, .slice none 0 0]) := HO0
  generalize (((W1.setCell ⟨w.heap.size, 0, none⟩ (.bool Es)).setCell ⟨w.heap.size, 1, none⟩ (.slice EA En Ec)).setCell ⟨w.heap.size, 2, none⟩ (.slice none 0 0)) = W2 at HB HO0 R1 hbw ⊢
  have kk0 := HO0.out.cell 0 _ rfl
  have kk1 := HO0.out.cell 1 _ rfl
  have kk2 := HO0.out.cell 2 _ rfl
  refine bodyPost_ret (v := .agg #[.bool Es, .slice EA En Ec, .slice none 0 0]) (by simp [results, Try.results21, go_sem, kk0, kk1, kk2]) rfl ⟨_, rfl, hbw, ?_⟩
  exact rQd.mk (by simpa using R1.out) (by simpa using rNat.zero _)
set_option maxRecDepth 100000 in
set_option maxHeartbeats 1000000 in
/-- frac.Num -/
theorem qnum_c (w : World) (v : Value) (q : Rat) (h : rQ w v q) : Calls Try.prog 92 #[v] w (Post w fun r w' => rInt w' r q.num) := by
  obtain ⟨s, A, c, n, B, k, m, rfl, h⟩ := h.shape
  have H1 := Lib.hid h
  have HB : Hid (Cells [(w.heap.size, 0, .bool s), (w.heap.size, 1, .slice A n c), (w.heap.size, 2, .slice B m k)] ((w.alloc (.cells #[.bool s, .slice A n c, .slice B m k] 34)).alloc (.cells #[.bool false, .slice none 0 0] 32))) := Lib.hid (Cells.cons (by go_simp) (Cells.cons (by go_simp) (Cells.cons (by go_simp) (Cells.nil _))))
  have HO0 := Lib.hid (Own.new' (w.alloc (.cells #[.bool s, .slice A n c, .slice B m k] 34)) 32 [.bool false, .slice none 0 0] (w.heap.size + 1) (by simp))
  have hbw : Below w.heap.size w ((w.alloc (.cells #[.bool s, .slice A n c, .slice B m k] 34)).alloc (.cells #[.bool false, .slice none 0 0] 32)) := (by repeat (first | assumption | exact Below.refl _ _ | refine Below.drew ?_ | refine pw_below_drewN ?_ _ | refine Below.alloc ?_ (by first | omega | (simp <;> omega)) _ | refine Below.setCell ?_ (by first | omega | (simp <;> omega)) _ | refine Below.trans ?_ (Below.mono (by assumption) (by first | omega | (simp <;> omega)))))
  clear h
  go_enter Try.func92, Try.ntmps92
  go_upto_region 1 with (fail)
  generalize ((w.alloc (.cells #[.bool s, .slice A n c, .slice B m k] 34)).alloc (.cells #[.bool false, .slice none 0 0] 32)) = W0 at HB HO0 hbw ⊢
  obtain ⟨y0, y1, y2, _⟩ := id HB.out
  have q0 := HO0.out.cell 0 _ rfl
  have f0 := HO0.out.frozen 0
  have q1 := HO0.out.cell 1 _ rfl
  have f1 := HO0.out.frozen 1
  go_wp2_with fail
  replace HB := Lib.hid (HB.out.set (p := ⟨w.heap.size + 1, 0, none⟩) (.bool s) (by simp <;> omega))
  replace HO0 := Lib.hid (HO0.out.set 0 (.bool s))
  replace hbw := Below.setCell hbw (show w.heap.size ≤ (⟨w.heap.size + 1, 0, none⟩ : Addr).block by simp <;> omega) (.bool s)
  replace q1 := (World.cell?_setCell_other W0 ⟨w.heap.size + 1, 0, none⟩ ⟨w.heap.size + 1, 1, none⟩ (.bool s) (by simp)).trans q1
  replace HB := Lib.hid (HB.out.set (p := ⟨w.heap.size + 1, 1, none⟩) (.slice A n c) (by simp <;> omega))
  replace HO0 := Lib.hid (HO0.out.set 1 (.slice A n c))
  replace hbw := Below.setCell hbw (show w.heap.size ≤ (⟨w.heap.size + 1, 1, none⟩ : Addr).block by simp <;> omega) (.slice A n c)
  clear q0 f0 q1 f1
  replace HO0 : Hid (Own _ _ _ [.bool s, .slice A n c]) := HO0
  generalize ((W0.setCell ⟨w.heap.size + 1, 0, none⟩ (.bool s)).setCell ⟨w.heap.size + 1, 1, none⟩ (.slice A n c)) = W1 at HB HO0 hbw ⊢
  have kk0 := HO0.out.cell 0 _ rfl
  have kk1 := HO0.out.cell 1 _ rfl
  refine bodyPost_ret (v := .agg #[.bool s, .slice A n c]) (by simp [results, Try.results92, go_sem, kk0, kk1]) rfl ⟨_, rfl, hbw, ?_⟩
  exact (H1.out.ext hbw).num
set_option maxRecDepth 100000 in
set_option maxHeartbeats 1000000 in
/-- frac.Sign -/
theorem qsign_c (w : World) (v : Value) (q : Rat) (h : rQ w v q) (hf : Fit q.num.natAbs) : Calls Try.prog 11 #[v] w (Post w fun r _ => r = .int .i64 q.num.sign) := by
  obtain ⟨s, A, c, n, B, k, m, rfl, h⟩ := h.shape
  have H1 := Lib.hid h
  have HS := Lib.hid (fun W h => sign_c W (.agg #[.bool s, .slice A n c]) q.num h hf)
  have HB : Hid (Cells [(w.heap.size, 0, .bool s), (w.heap.size, 1, .slice A n c), (w.heap.size, 2, .slice B m k)] (w.alloc (.cells #[.bool s, .slice A n c, .slice B m k] 34))) := Lib.hid (Cells.cons (by go_simp) (Cells.cons (by go_simp) (Cells.cons (by go_simp) (Cells.nil _))))
  have hbw : Below w.heap.size w (w.alloc (.cells #[.bool s, .slice A n c, .slice B m k] 34)) := (by repeat (first | assumption | exact Below.refl _ _ | refine Below.drew ?_ | refine pw_below_drewN ?_ _ | refine Below.alloc ?_ (by first | omega | (simp <;> omega)) _ | refine Below.setCell ?_ (by first | omega | (simp <;> omega)) _ | refine Below.trans ?_ (Below.mono (by assumption) (by first | omega | (simp <;> omega)))))
  clear h hf
  go_enter Try.func11, Try.ntmps11
  go_wp2_with fail
  generalize (w.alloc (.cells #[.bool s, .slice A n c, .slice B m k] 34)) = W0 at HB hbw ⊢
  obtain ⟨y0, y1, y2, _⟩ := id HB.out
  go_wp2_with fail
  clear y0 y1 y2
  refine (HS.out _ (H1.out.ext hbw).num).mono ?_
  rintro e W1 ⟨v1, rfl, hb1, rfl⟩
  replace HB := Lib.hid (HB.out.ext hb1)
  replace hbw := Below.trans hbw (Below.mono hb1 hbw.size)
  clear hb1
  go_wp2_with fail
  go_ret
  exact ⟨_, rfl, hbw, rfl⟩
set_option maxRecDepth 100000 in
set_option maxHeartbeats 1000000 in
/-- frac.Den -/
theorem qden_c (w : World) (v : Value) (q : Rat) (h : rQ w v q) (hf : Fit q.den) : Calls Try.prog 33 #[v] w (Post w fun r w' => rNat w' r q.den) := by
  obtain ⟨s, A, c, n, B, k, m, rfl, h⟩ := h.shape
  have H1 := Lib.hid h
  have HB0 := Lib.hid (fun W h => bits_c W (.agg #[.slice B m k]) (if q.den = 1 then 0 else q.den) h (by split <;> first | exact hf | (unfold Fit; simp [bl_zero])))
  obtain ⟨b, eb⟩ : ∃ b : Nat, bl (if q.den = 1 then 0 else q.den) = b := ⟨_, rfl⟩
  rw [eb] at HB0
  have hb : b = 0 ↔ q.den = 1 := by
    have := q.den_pos
    rw [← eb]
    have h := @bl_pos (if q.den = 1 then 0 else q.den)
    split at h <;> simp_all <;> omega
  have HOF := Lib.hid (fun W => of_c 1 (by decide) W)
  have HB : Hid (Cells [(w.heap.size, 0, .bool s), (w.heap.size, 1, .slice A n c), (w.heap.size, 2, .slice B m k)] ((w.alloc (.cells #[.bool s, .slice A n c, .slice B m k] 34)).alloc (.cells #[.slice none 0 0] 30))) := Lib.hid (Cells.cons (by go_simp) (Cells.cons (by go_simp) (Cells.cons (by go_simp) (Cells.nil _))))
  have HO0 := Lib.hid (Own.new' (w.alloc (.cells #[.bool s, .slice A n c, .slice B m k] 34)) 30 [.slice none 0 0] (w.heap.size + 1) (by simp))
  have hbw : Below w.heap.size w ((w.alloc (.cells #[.bool s, .slice A n c, .slice B m k] 34)).alloc (.cells #[.slice none 0 0] 30)) := (by repeat (first | assumption | exact Below.refl _ _ | refine Below.drew ?_ | refine pw_below_drewN ?_ _ | refine Below.alloc ?_ (by first | omega | (simp <;> omega)) _ | refine Below.setCell ?_ (by first | omega | (simp <;> omega)) _ | refine Below.trans ?_ (Below.mono (by assumption) (by first | omega | (simp <;> omega)))))
  clear h hf eb
  go_enter Try.func33, Try.ntmps33
  go_wp2_with fail
  generalize ((w.alloc (.cells #[.bool s, .slice A n c, .slice B m k] 34)).alloc (.cells #[.slice none 0 0] 30)) = W0 at HB HO0 hbw ⊢
  obtain ⟨y0, y1, y2, _⟩ := id HB.out
  go_wp2_with fail
  clear y0 y1 y2
  refine (HB0.out _ (H1.out.ext hbw).rest).mono ?_
  rintro e W1 ⟨v1, rfl, hb1, rfl⟩
  replace HB := Lib.hid (HB.out.ext hb1)
  replace HO0 := Lib.hid (HO0.out.ext hb1)
  replace hbw := Below.trans hbw (Below.mono hb1 hbw.size)
  clear hb1
  by_cases h0 : b = 0
  · have hd := hb.1 h0
    subst h0
    clear hb
    go_wp2_with fail
    refine (HOF.out _).mono ?_
    rintro e W2 ⟨v1, rfl, hb1, hr1⟩
    obtain ⟨EA, Ec, En, rfl, hr1⟩ := hr1.shape
    replace HB := Lib.hid (HB.out.ext hb1)
    replace HO0 := Lib.hid (HO0.out.ext hb1)
    replace hbw := Below.trans hbw (Below.mono hb1 hbw.size)
    have R1 := Lib.hid hr1
    clear hr1
    clear hb1
    have q0 := HO0.out.cell 0 _ rfl
    have f0 := HO0.out.frozen 0
    go_wp2_with fail
    replace HB := Lib.hid (HB.out.set (p := ⟨w.heap.size + 1, 0, none⟩) (.slice EA En Ec) (by simp <;> omega))
    replace HO0 := Lib.hid (HO0.out.set 0 (.slice EA En Ec))
    replace R1 := Lib.hid (R1.out.set (x := .slice EA En Ec) q0 rfl)
    replace hbw := Below.setCell hbw (show w.heap.size ≤ (⟨w.heap.size + 1, 0, none⟩ : Addr).block by simp <;> omega) (.slice EA En Ec)
    clear q0 f0
    replace HO0 : Hid (Own _ _ _ [.slice EA En Ec]) := HO0
    generalize (W2.setCell ⟨w.heap.size + 1, 0, none⟩ (.slice EA En Ec)) = W3 at HB HO0 R1 hbw ⊢
    have kk0 := HO0.out.cell 0 _ rfl
    refine bodyPost_ret (v := .agg #[.slice EA En Ec]) (by simp [results, Try.results33, go_sem, kk0]) rfl ⟨_, rfl, hbw, ?_⟩
    rw [hd]
    exact R1.out
  · have hd : q.den ≠ 1 := fun e => h0 (hb.2 e)
    have h1 : ((b : Int) == 0) = false := by rw [beq_eq_false_iff_ne]; omega
    have h2 : ¬ (b : Int) = 0 := by omega
    have HD := Lib.hid hd
    clear hb hd
    obtain ⟨y0, y1, y2, _⟩ := id HB.out
    have q0 := HO0.out.cell 0 _ rfl
    have f0 := HO0.out.frozen 0
    go_wp2_with fail
    replace HB := Lib.hid (HB.out.set (p := ⟨w.heap.size + 1, 0, none⟩) (.slice B m k) (by simp <;> omega))
    replace HO0 := Lib.hid (HO0.out.set 0 (.slice B m k))
    replace hbw := Below.setCell hbw (show w.heap.size ≤ (⟨w.heap.size + 1, 0, none⟩ : Addr).block by simp <;> omega) (.slice B m k)
    clear q0 f0
    replace HO0 : Hid (Own _ _ _ [.slice B m k]) := HO0
    generalize (W1.setCell ⟨w.heap.size + 1, 0, none⟩ (.slice B m k)) = W2 at HB HO0 hbw ⊢
    have kk0 := HO0.out.cell 0 _ rfl
    refine bodyPost_ret (v := .agg #[.slice B m k]) (by simp [results, Try.results33, go_sem, kk0]) rfl ⟨_, rfl, hbw, ?_⟩
    have := (H1.out.ext hbw).rest
    rw [if_neg HD.out] at this
    exact this
set_option maxRecDepth 100000 in
set_option maxHeartbeats 1000000 in
/-- frac.Neg -/
theorem qneg_c (w : World) (v : Value) (q : Rat) (h : rQ w v q) (hf : Fit q.num.natAbs) : Calls Try.prog 28 #[v] w (Post w fun r w' => rQ w' r (-q)) := by
  obtain ⟨s, A, c, n, B, k, m, rfl, h⟩ := h.shape
  have H1 := Lib.hid h
  have HN := Lib.hid (fun W h => neg_c W (.agg #[.bool s, .slice A n c]) q.num h hf)
  have HB : Hid (Cells [(w.heap.size, 0, .bool s), (w.heap.size, 1, .slice A n c), (w.heap.size, 2, .slice B m k)] ((w.alloc (.cells #[.bool s, .slice A n c, .slice B m k] 34)).alloc (.cells #[.bool false, .slice none 0 0, .slice none 0 0] 34))) := Lib.hid (Cells.cons (by go_simp) (Cells.cons (by go_simp) (Cells.cons (by go_simp) (Cells.nil _))))
  have HO0 := Lib.hid (Own.new' (w.alloc (.cells #[.bool s, .slice A n c, .slice B m k] 34)) 34 [.bool false, .slice none 0 0, .slice none 0 0] (w.heap.size + 1) (by simp))
  have hbw : Below w.heap.size w ((w.alloc (.cells #[.bool s, .slice A n c, .slice B m k] 34)).alloc (.cells #[.bool false, .slice none 0 0, .slice none 0 0] 34)) := (by repeat (first | assumption | exact Below.refl _ _ | refine Below.drew ?_ | refine pw_below_drewN ?_ _ | refine Below.alloc ?_ (by first | omega | (simp <;> omega)) _ | refine Below.setCell ?_ (by first | omega | (simp <;> omega)) _ | refine Below.trans ?_ (Below.mono (by assumption) (by first | omega | (simp <;> omega)))))
  clear h hf
  go_enter Try.func28, Try.ntmps28
  go_wp2_with fail
  generalize ((w.alloc (.cells #[.bool s, .slice A n c, .slice B m k] 34)).alloc (.cells #[.bool false, .slice none 0 0, .slice none 0 0] 34)) = W0 at HB HO0 hbw ⊢
  replace HB := Lib.hid (HB.out.drew)
  replace HO0 := Lib.hid (HO0.out.drew)
  replace hbw := Below.drew hbw
  refine wp_hoist [(0, true), (1, true), (3, true), (4, true), (2, false), (5, true), (6, false)] (Cells [(w.heap.size, 0, .bool s), (w.heap.size, 1, .slice A n c), (w.heap.size, 2, .slice B m k)]) (by kernel_rfl) (by kernel_rfl) ?_ ?_
  · exact HB.out
  generalize W0.drew = W1 at HB HO0 hbw ⊢
  refine hz_yes (v := ?_) rfl (by kernel_rfl) (fun W hW => ?_) ?_; rotate_left; (go_simp; try with_reducible rfl)
  (try (conv => arg 6; simp only [Act.put, gL1, gL2, gL3, gL4, gL5, gL6]))
  refine hz_yes (v := ?_) rfl (by kernel_rfl) (fun W hW => ?_) ?_; rotate_left; (obtain ⟨y0, y1, y2, _⟩ := hW; go_simp; try with_reducible rfl)
  (try (conv => arg 6; simp only [Act.put, gL1, gL2, gL3, gL4, gL5, gL6]))
  refine hz_yes (v := ?_) rfl (by kernel_rfl) (fun W hW => ?_) ?_; rotate_left; (go_simp; try with_reducible rfl)
  (try (conv => arg 6; simp only [Act.put, gL1, gL2, gL3, gL4, gL5, gL6]))
  refine hz_yes (v := ?_) rfl (by kernel_rfl) (fun W hW => ?_) ?_; rotate_left; (obtain ⟨y0, y1, y2, _⟩ := hW; go_simp; try with_reducible rfl)
  (try (conv => arg 6; simp only [Act.put, gL1, gL2, gL3, gL4, gL5, gL6]))
  refine hz_eff rfl (by kernel_rfl) (fun K hK => ?_)
  refine wp_call (HN.out _ (H1.out.ext hbw).num) (by kernel_rfl) ?_
  rintro v1 W2 hb1 hr1
  obtain ⟨Es, EA, Ec, En, rfl, hr1⟩ := hr1.shape
  refine hK.out _ _ ?_ ?_
  · exact HB.out.ext hb1
  clear hK K
  (try (conv => arg 6; simp only [Act.put, gL1, gL2, gL3, gL4, gL5, gL6]))
  replace HB := Lib.hid (HB.out.ext hb1)
  replace HO0 := Lib.hid (HO0.out.ext hb1)
  replace hbw := Below.trans hbw (Below.mono hb1 hbw.size)
  have R1 := Lib.hid hr1
  clear hr1
  clear hb1
  refine hz_yes (v := ?_) rfl (by kernel_rfl) (fun W hW => ?_) ?_; rotate_left; (go_simp; try with_reducible rfl)
  (try (conv => arg 6; simp only [Act.put, gL1, gL2, gL3, gL4, gL5, gL6]))
  have q0 := HO0.out.cell 0 _ rfl
  have f0 := HO0.out.frozen 0
  have q1 := HO0.out.cell 1 _ rfl
  have f1 := HO0.out.frozen 1
  have q2 := HO0.out.cell 2 _ rfl
  have f2 := HO0.out.frozen 2
  refine hz_eff rfl (by kernel_rfl) (fun K hK => ?_)
  go_simp
  refine hK.out _ _ ?_ ?_
  · exact (((HB.out.set (p := ⟨w.heap.size + 1, 0, none⟩) _ (by simp <;> omega)).set (p := ⟨w.heap.size + 1, 1, none⟩) _ (by simp <;> omega)).set (p := ⟨w.heap.size + 1, 2, none⟩) _ (by simp <;> omega))
  clear hK K
  (try (conv => arg 6; simp only [Act.put, gL1, gL2, gL3, gL4, gL5, gL6]))
  replace HB := Lib.hid (HB.out.set (p := ⟨w.heap.size + 1, 0, none⟩) (.bool Es) (by simp <;> omega))
  replace HO0 := Lib.hid (HO0.out.set 0 (.bool Es))
  replace R1 := Lib.hid (R1.out.set (x := .bool Es) q0 rfl)
  replace hbw := Below.setCell hbw (show w.heap.size ≤ (⟨w.heap.size + 1, 0, none⟩ : Addr).block by simp <;> omega) (.bool Es)
  replace q1 := (World.cell?_setCell_other W2 ⟨w.heap.size + 1, 0, none⟩ ⟨w.heap.size + 1, 1, none⟩ (.bool Es) (by simp)).trans q1
  replace q2 := (World.cell?_setCell_other W2 ⟨w.heap.size + 1, 0, none⟩ ⟨w.heap.size + 1, 2, none⟩ (.bool Es) (by simp)).trans q2
  replace HB := Lib.hid (HB.out.set (p := ⟨w.heap.size + 1, 1, none⟩) (.slice EA En Ec) (by simp <;> omega))
  replace HO0 := Lib.hid (HO0.out.set 1 (.slice EA En Ec))
  replace R1 := Lib.hid (R1.out.set (x := .slice EA En Ec) q1 rfl)
  replace hbw := Below.setCell hbw (show w.heap.size ≤ (⟨w.heap.size + 1, 1, none⟩ : Addr).block by simp <;> omega) (.slice EA En Ec)
  replace q2 := (World.cell?_setCell_other (W2.setCell ⟨w.heap.size + 1, 0, none⟩ (.bool Es)) ⟨w.heap.size + 1, 1, none⟩ ⟨w.heap.size + 1, 2, none⟩ (.slice EA En Ec) (by simp)).trans q2
  replace HB := Lib.hid (HB.out.set (p := ⟨w.heap.size + 1, 2, none⟩) (.slice B m k) (by simp <;> omega))
  replace HO0 := Lib.hid (HO0.out.set 2 (.slice B m k))
  replace R1 := Lib.hid (R1.out.set (x := .slice B m k) q2 rfl)
  replace hbw := Below.setCell hbw (show w.heap.size ≤ (⟨w.heap.size + 1, 2, none⟩ : Addr).block by simp <;> omega) (.slice B m k)
  clear q0 f0 q1 f1 q2 f2
  replace HO0 : Hid (Own _ _ _ [.bool Es, .slice EA En Ec, .slice B m k]) := HO0
  generalize (((W2.setCell ⟨w.heap.size + 1, 0, none⟩ (.bool Es)).setCell ⟨w.heap.size + 1, 1, none⟩ (.slice EA En Ec)).setCell ⟨w.heap.size + 1, 2, none⟩ (.slice B m k)) = W3 at HB HO0 R1 hbw ⊢
  refine hz_nil ?_
  go_wp2_with fail
  have kk0 := HO0.out.cell 0 _ rfl
  have kk1 := HO0.out.cell 1 _ rfl
  have kk2 := HO0.out.cell 2 _ rfl
  refine bodyPost_ret (v := .agg #[.bool Es, .slice EA En Ec, .slice B m k]) (by simp [results, Try.results28, go_sem, kk0, kk1, kk2]) rfl ⟨_, rfl, hbw, ?_⟩
  exact rQd.mk (by rw [Rat.neg_num]; exact R1.out) (by rw [Rat.neg_den]; exact (H1.out.ext hbw).rest)
end Go.Proofs.Ytlaocmhcilhlbaa

/- The document's numbers: what it is for a value to be one; trim, NatOf, I, IntOf. -/
namespace Go.Proofs.Ytlaocmhcilhlbaa
open Go.RowKit
/-- abaculusref1.Nat -/
def rR (w : World) (v : Value) (n : Nat) : Prop := ∃ A c l, v = .slice A l.length c ∧ Words .u32 B32 w A c l ∧ Norm l ∧ vl B32 l = n
theorem rR.ext {w w' : World} {v : Value} {n : Nat} (h : rR w v n) (he : Ext w w') : rR w' v n := by
  obtain ⟨A, c, l, hv, hw, hn, hl⟩ := h
  exact ⟨A, c, l, hv, hw.ext he, hn, hl⟩
theorem rR.drew {w : World} {v : Value} {n : Nat} (h : rR w v n) : rR w.drew v n := h
theorem rR.alloc {w : World} {v : Value} {n : Nat} (h : rR w v n) (o : Obj) : rR (w.alloc o) v n := h.ext (ext_alloc _ _)
theorem rR.set {w : World} {v : Value} {n : Nat} (h : rR w v n) {a : Addr} {u x : Value} (hc : w.cell? a = some u) (hu : noInt u = true) : rR (w.setCell a x) v n := by
  obtain ⟨A, c, l, hv, hw, hn, hl⟩ := h
  exact ⟨A, c, l, hv, hw.set hc hu, hn, hl⟩
theorem rR.shape {w : World} {v : Value} {n : Nat} (h : rR w v n) : ∃ A c m, v = .slice A m c ∧ rR w (.slice A m c) n := by
  obtain ⟨A, c, l, rfl, h⟩ := h
  exact ⟨A, c, _, rfl, A, c, l, rfl, h⟩
theorem rR.zero (w : World) : rR w (.slice none 0 0) 0 := ⟨none, 0, [], rfl, Words.nil _ _ _ _ _, by simp [Norm], rfl⟩
theorem rR.len0 {w : World} {A : Option Addr} {m c n : Nat} (h : rR w (.slice A m c) n) : m = 0 ↔ n = 0 := by
  obtain ⟨A', c', l, hv, hw, hn, rfl⟩ := h
  simp only [Value.slice.injEq] at hv
  obtain ⟨rfl, rfl, rfl⟩ := hv
  constructor
  · intro h; rw [List.eq_nil_of_length_eq_zero h]; rfl
  · intro h
    rcases Nat.eq_zero_or_pos l.length with h0 | h0
    · exact h0
    · have := vl_ge B32 l hn (by intro e; rw [e] at h0; simp at h0)
      have h2 : 0 < B32 ^ (l.length - 1) := Nat.pow_pos B32_pos
      omega
/-- A number of one limb at most. -/
theorem rR.one {w : World} {A : Option Addr} {m c n : Nat} (h : rR w (.slice A m c) n) (hn : n < B32) (h0 : 0 < n) : m = 1 ∧ 1 ≤ c ∧ ∃ g o, A = some ⟨g, o, none⟩ ∧ w.cell? ⟨g, o, none⟩ = some (.int .u32 (n : Nat)) := by
  obtain ⟨A', c', l, hv, hw, hnn, rfl⟩ := h
  simp only [Value.slice.injEq] at hv
  obtain ⟨rfl, rfl, rfl⟩ := hv
  have hl : l ≠ [] := by intro e; rw [e] at h0; simp [vl] at h0
  have h1 := vl_ge B32 l hnn hl
  have h2 : l.length = 1 := by
    have h3 : 0 < l.length := List.length_pos_iff.2 hl
    rcases Nat.lt_or_ge 1 l.length with h4 | h4
    · exfalso
      have : B32 ^ 1 ≤ B32 ^ (l.length - 1) := Nat.pow_le_pow_right B32_pos (by omega)
      rw [Nat.pow_one] at this
      omega
    · omega
  obtain ⟨x, rfl⟩ : ∃ x, l = [x] := List.length_eq_one_iff.1 h2
  obtain ⟨g, o, hA, hc⟩ := hw.2.2 hl
  refine ⟨rfl, by have := hw.1; simpa using this, g, o, hA, ?_⟩
  have := hc 0 (by simp)
  simpa [vl] using this
theorem rR.nat {w : World} {A : Option Addr} {m c n : Nat} (h : rR w (.slice A m c) n) : m ≤ c := by
  obtain ⟨A', c', l, hv, hw, _⟩ := h
  simp only [Value.slice.injEq] at hv
  obtain ⟨rfl, rfl, rfl⟩ := hv
  exact hw.1
set_option maxHeartbeats 400000 in
/-- trim -/
theorem rtrim_c (w : World) (A : Option Addr) (c : Nat) (l : List Nat) (h : Words .u32 B32 w A c l) (hm : l.length ≤ 17592186044416) :
    Calls Try.prog 85 #[.slice A l.length c] w (Post w fun v w' => rR w' v (vl B32 l)) := by
  have Hw := Lib.hid h
  have hlc := h.1
  clear h
  go_enter Try.func85, Try.ntmps85
  go_wp2_with fail
  go_loop [3] (fun t => ∃ k : Nat, k ≤ l.length ∧ t = .int .i64 (k : Nat) ∧ vl B32 l = vl B32 (l.take k)) (fun t => (intOf t).toNat)
  case atStart => exact ⟨l.length, Nat.le_refl _, rfl, by simp⟩
  case round =>
    obtain ⟨k, hk, rfl, hv⟩ := hrel
    have HV := Lib.hid hv
    clear hv
    rcases Nat.eq_zero_or_pos k with rfl | hk0
    · go_wp2
      go_ret
      exact ⟨_, rfl, Below.refl _ _, A, c, l.take 0, by simp, (Hw.out.take 0), by simp [Norm], HV.out.symm⟩
    · obtain ⟨m, rfl⟩ : ∃ m, k = m + 1 := ⟨k - 1, by omega⟩
      have hne : l ≠ [] := by intro e; rw [e] at hk; simp at hk
      obtain ⟨g, o, rfl, hcl⟩ := Hw.out.2.2 hne
      have hcm := hcl m (by omega)
      have hg : g < w.heap.size := World.block_lt_of_cell? w _ hcm
      have hmi : (m : Int) + 1 - 1 = (m : Int) := by omega
      have hmw : IntKind.i64.wrap (m : Int) = (m : Int) := i64w (by omega) (by omega)
      clear hcl hk0 hne
      by_cases hz : l.getD m 0 = 0
      · have Hz := Lib.hid hz
        rw [hz] at hcm
        clear hz
        go_wp2
        go_round
        case rel => exact ⟨m, by omega, rfl, HV.out.trans (vl_take_zero (by omega) Hz.out)⟩
        case measure => simp [intOf]
      · have Hz := Lib.hid hz
        have hzb : (((l[m]?.getD 0 : Nat) : Int) == 0) = false := by simpa using hz
        clear hz
        go_wp2
        go_ret
        exact ⟨_, rfl, Below.refl _ _, some ⟨g, o, none⟩, c, l.take (m + 1), by simp [Nat.min_eq_left hk], (Hw.out.take (m + 1)), norm_take_pos (by omega) Hz.out, HV.out.symm⟩
end Go.Proofs.Ytlaocmhcilhlbaa

/- The document's numbers: NatOf, I, IntOf. -/
namespace Go.Proofs.Ytlaocmhcilhlbaa
open Go.RowKit
set_option maxRecDepth 100000 in
set_option maxHeartbeats 1000000 in
/-- NatOf, of a number of one limb -/
theorem rof_c (w : World) (n : Nat) (hn : n < B32) : Calls Try.prog 60 #[.int .u64 (n : Nat)] w (Post w fun v w' => rR w' v n) := by
  have hw1 : IntKind.u32.wrap (n : Int) = (n : Int) := by rw [IntKind.wrap_u32]; unfold B32 at hn; omega
  have hs : n >>> 32 = 0 := by rw [Nat.shiftRight_eq_div_pow]; exact Nat.div_eq_of_lt hn
  have HT := Lib.hid (fun W h => rtrim_c W (some ⟨w.heap.size, 0, none⟩) 2 [n, 0] h (by simp))
  have HB := Lib.hid hn
  have hdv : (n : Int) / 4294967296 = 0 := by unfold B32 at hn; omega
  clear hn
  go_enter Try.func60, Try.ntmps60
  go_wp2_with fail
  have hwd : Words .u32 B32 (w.alloc (.cells #[.int .u32 (n : Nat), .int .u32 0] 132)) (some ⟨w.heap.size, 0, none⟩) 2 [n, 0] := by
    have := own_words (B := B32) (Own.new w 132 (wv .u32 [n, 0])) (by intro x hx; simp at hx; rcases hx with rfl | rfl; exact HB.out; exact B32_pos) 2 (by simp)
    simpa [wv] using this
  refine (HT.out _ hwd).mono ?_
  rintro e w1 ⟨v1, rfl, hb1, hr1⟩
  have hbe : Below w.heap.size w w1 := (by repeat (first | assumption | exact Below.refl _ _ | refine Below.drew ?_ | refine pw_below_drewN ?_ _ | refine Below.alloc ?_ (by first | omega | (simp <;> omega)) _ | refine Below.setCell ?_ (by first | omega | (simp <;> omega)) _ | refine Below.trans ?_ (Below.mono (by assumption) (by first | omega | (simp <;> omega)))))
  have HR := Lib.hid (show rR w1 v1 n by simpa [vl] using hr1)
  clear hr1 hb1 hwd
  go_wp2_with fail
  go_ret
  exact ⟨_, rfl, hbe, HR.out⟩
set_option maxRecDepth 100000 in
set_option maxHeartbeats 1000000 in
/-- I -/
theorem ri_c (w : World) (neg : Bool) (A : Option Addr) (m c n : Nat) (h : rR w (.slice A m c) n) : Calls Try.prog 84 #[.bool neg, .slice A m c] w (Post w fun r w' => r = .agg #[.bool (neg && decide (0 < n)), .slice A m c]) := by
  have h0 := h.len0
  have hd : decide (0 < n) = decide (0 < m) := by
    by_cases hm : m = 0
    · have := h0.1 hm; rw [hm, this]
    · have : ¬ n = 0 := fun e => hm (h0.2 e)
      rw [decide_eq_true (show 0 < n by omega), decide_eq_true (show 0 < m by omega)]
  rw [hd]
  clear hd h0 h
  cases neg
  · skip
    have HB : Hid (Cells [] (w.alloc (.cells #[.bool false, .slice none 0 0] 63))) := Lib.hid (Cells.nil _)
    have HO0 := Lib.hid (Own.new' w 63 [.bool false, .slice none 0 0] (w.heap.size) (by simp))
    have hbw : Below w.heap.size w (w.alloc (.cells #[.bool false, .slice none 0 0] 63)) := (by repeat (first | assumption | exact Below.refl _ _ | refine Below.drew ?_ | refine pw_below_drewN ?_ _ | refine Below.alloc ?_ (by first | omega | (simp <;> omega)) _ | refine Below.setCell ?_ (by first | omega | (simp <;> omega)) _ | refine Below.trans ?_ (Below.mono (by assumption) (by first | omega | (simp <;> omega)))))
    go_enter Try.func84, Try.ntmps84
    go_upto_region 1 with (fail)
    generalize (w.alloc (.cells #[.bool false, .slice none 0 0] 63)) = W0 at HB HO0 hbw ⊢
    have q0 := HO0.out.cell 0 _ rfl
    have f0 := HO0.out.frozen 0
    have q1 := HO0.out.cell 1 _ rfl
    have f1 := HO0.out.frozen 1
    go_wp2_with fail
    replace HB := Lib.hid (HB.out.set (p := ⟨w.heap.size, 0, none⟩) (.bool false) (by simp <;> omega))
    replace HO0 := Lib.hid (HO0.out.set 0 (.bool false))
    replace hbw := Below.setCell hbw (show w.heap.size ≤ (⟨w.heap.size, 0, none⟩ : Addr).block by simp <;> omega) (.bool false)
    replace q1 := (World.cell?_setCell_other W0 ⟨w.heap.size, 0, none⟩ ⟨w.heap.size, 1, none⟩ (.bool false) (by simp)).trans q1
    replace HB := Lib.hid (HB.out.set (p := ⟨w.heap.size, 1, none⟩) (.slice A m c) (by simp <;> omega))
    replace HO0 := Lib.hid (HO0.out.set 1 (.slice A m c))
    replace hbw := Below.setCell hbw (show w.heap.size ≤ (⟨w.heap.size, 1, none⟩ : Addr).block by simp <;> omega) (.slice A m c)
    clear q0 f0 q1 f1
    replace HO0 : Hid (Own _ _ _ [.bool false, .slice A m c]) := HO0
    generalize ((W0.setCell ⟨w.heap.size, 0, none⟩ (.bool false)).setCell ⟨w.heap.size, 1, none⟩ (.slice A m c)) = W1 at HB HO0 hbw ⊢
    have kk0 := HO0.out.cell 0 _ rfl
    have kk1 := HO0.out.cell 1 _ rfl
    refine bodyPost_ret (v := .agg #[.bool false, .slice A m c]) (by simp [results, Try.results84, go_sem, kk0, kk1]) rfl ⟨_, rfl, hbw, ?_⟩
    rfl
  · by_cases hm : m = 0
    · have hm' : ¬ (0 : Int) < (m : Int) := by omega
      have hm2 : ¬ 0 < m := by omega
      have HM := Lib.hid hm
      clear hm
      have HB : Hid (Cells [] (w.alloc (.cells #[.bool false, .slice none 0 0] 63))) := Lib.hid (Cells.nil _)
      have HO0 := Lib.hid (Own.new' w 63 [.bool false, .slice none 0 0] (w.heap.size) (by simp))
      have hbw : Below w.heap.size w (w.alloc (.cells #[.bool false, .slice none 0 0] 63)) := (by repeat (first | assumption | exact Below.refl _ _ | refine Below.drew ?_ | refine pw_below_drewN ?_ _ | refine Below.alloc ?_ (by first | omega | (simp <;> omega)) _ | refine Below.setCell ?_ (by first | omega | (simp <;> omega)) _ | refine Below.trans ?_ (Below.mono (by assumption) (by first | omega | (simp <;> omega)))))
      go_enter Try.func84, Try.ntmps84
      go_upto_region 1 with (fail)
      generalize (w.alloc (.cells #[.bool false, .slice none 0 0] 63)) = W0 at HB HO0 hbw ⊢
      have q0 := HO0.out.cell 0 _ rfl
      have f0 := HO0.out.frozen 0
      have q1 := HO0.out.cell 1 _ rfl
      have f1 := HO0.out.frozen 1
      go_wp2_with fail
      replace HB := Lib.hid (HB.out.set (p := ⟨w.heap.size, 0, none⟩) (.bool false) (by simp <;> omega))
      replace HO0 := Lib.hid (HO0.out.set 0 (.bool false))
      replace hbw := Below.setCell hbw (show w.heap.size ≤ (⟨w.heap.size, 0, none⟩ : Addr).block by simp <;> omega) (.bool false)
      replace q1 := (World.cell?_setCell_other W0 ⟨w.heap.size, 0, none⟩ ⟨w.heap.size, 1, none⟩ (.bool false) (by simp)).trans q1
      replace HB := Lib.hid (HB.out.set (p := ⟨w.heap.size, 1, none⟩) (.slice A m c) (by simp <;> omega))
      replace HO0 := Lib.hid (HO0.out.set 1 (.slice A m c))
      replace hbw := Below.setCell hbw (show w.heap.size ≤ (⟨w.heap.size, 1, none⟩ : Addr).block by simp <;> omega) (.slice A m c)
      clear q0 f0 q1 f1
      replace HO0 : Hid (Own _ _ _ [.bool false, .slice A m c]) := HO0
      generalize ((W0.setCell ⟨w.heap.size, 0, none⟩ (.bool false)).setCell ⟨w.heap.size, 1, none⟩ (.slice A m c)) = W1 at HB HO0 hbw ⊢
      have kk0 := HO0.out.cell 0 _ rfl
      have kk1 := HO0.out.cell 1 _ rfl
      refine bodyPost_ret (v := .agg #[.bool false, .slice A m c]) (by simp [results, Try.results84, go_sem, kk0, kk1]) rfl ⟨_, rfl, hbw, ?_⟩
      rfl
    · have hm' : (0 : Int) < (m : Int) := by omega
      have hm2 : 0 < m := by omega
      have HM := Lib.hid hm
      clear hm
      have HB : Hid (Cells [] (w.alloc (.cells #[.bool false, .slice none 0 0] 63))) := Lib.hid (Cells.nil _)
      have HO0 := Lib.hid (Own.new' w 63 [.bool false, .slice none 0 0] (w.heap.size) (by simp))
      have hbw : Below w.heap.size w (w.alloc (.cells #[.bool false, .slice none 0 0] 63)) := (by repeat (first | assumption | exact Below.refl _ _ | refine Below.drew ?_ | refine pw_below_drewN ?_ _ | refine Below.alloc ?_ (by first | omega | (simp <;> omega)) _ | refine Below.setCell ?_ (by first | omega | (simp <;> omega)) _ | refine Below.trans ?_ (Below.mono (by assumption) (by first | omega | (simp <;> omega)))))
      go_enter Try.func84, Try.ntmps84
      go_upto_region 1 with (fail)
      generalize (w.alloc (.cells #[.bool false, .slice none 0 0] 63)) = W0 at HB HO0 hbw ⊢
      have q0 := HO0.out.cell 0 _ rfl
      have f0 := HO0.out.frozen 0
      have q1 := HO0.out.cell 1 _ rfl
      have f1 := HO0.out.frozen 1
      go_wp2_with fail
      replace HB := Lib.hid (HB.out.set (p := ⟨w.heap.size, 0, none⟩) (.bool true) (by simp <;> omega))
      replace HO0 := Lib.hid (HO0.out.set 0 (.bool true))
      replace hbw := Below.setCell hbw (show w.heap.size ≤ (⟨w.heap.size, 0, none⟩ : Addr).block by simp <;> omega) (.bool true)
      replace q1 := (World.cell?_setCell_other W0 ⟨w.heap.size, 0, none⟩ ⟨w.heap.size, 1, none⟩ (.bool true) (by simp)).trans q1
      replace HB := Lib.hid (HB.out.set (p := ⟨w.heap.size, 1, none⟩) (.slice A m c) (by simp <;> omega))
      replace HO0 := Lib.hid (HO0.out.set 1 (.slice A m c))
      replace hbw := Below.setCell hbw (show w.heap.size ≤ (⟨w.heap.size, 1, none⟩ : Addr).block by simp <;> omega) (.slice A m c)
      clear q0 f0 q1 f1
      replace HO0 : Hid (Own _ _ _ [.bool true, .slice A m c]) := HO0
      generalize ((W0.setCell ⟨w.heap.size, 0, none⟩ (.bool true)).setCell ⟨w.heap.size, 1, none⟩ (.slice A m c)) = W1 at HB HO0 hbw ⊢
      have kk0 := HO0.out.cell 0 _ rfl
      have kk1 := HO0.out.cell 1 _ rfl
      refine bodyPost_ret (v := .agg #[.bool true, .slice A m c]) (by simp [results, Try.results84, go_sem, kk0, kk1]) rfl ⟨_, rfl, hbw, ?_⟩
      first | rfl | (rw [decide_eq_true hm2]; rfl)
/-- abaculusref1.Int -/
def rRI (w : World) (v : Value) (z : Int) : Prop := ∃ s, v = .agg #[.bool (decide (z < 0)), s] ∧ rR w s z.natAbs
theorem rRI.ext {w w' : World} {v : Value} {z : Int} (h : rRI w v z) (he : Ext w w') : rRI w' v z := by
  obtain ⟨s, hv, h⟩ := h
  exact ⟨s, hv, h.ext he⟩
theorem rRI.drew {w : World} {v : Value} {z : Int} (h : rRI w v z) : rRI w.drew v z := h
theorem rRI.alloc {w : World} {v : Value} {z : Int} (h : rRI w v z) (o : Obj) : rRI (w.alloc o) v z := h.ext (ext_alloc _ _)
theorem rRI.set {w : World} {v : Value} {z : Int} (h : rRI w v z) {a : Addr} {u x : Value} (hc : w.cell? a = some u) (hu : noInt u = true) : rRI (w.setCell a x) v z := by
  obtain ⟨s, hv, h⟩ := h
  exact ⟨s, hv, h.set hc hu⟩
theorem rRI.open {w : World} {v : Value} {z : Int} (h : rRI w v z) : ∃ A c m, v = .agg #[.bool (decide (z < 0)), .slice A m c] ∧ rR w (.slice A m c) z.natAbs := by
  obtain ⟨s, hv, h⟩ := h
  obtain ⟨A, c, m, rfl, h⟩ := h.shape
  exact ⟨A, c, m, hv, h⟩
theorem rRI.shape {w : World} {v : Value} {z : Int} (h : rRI w v z) : ∃ s A c n, v = .agg #[.bool s, .slice A n c] ∧ rRI w (.agg #[.bool s, .slice A n c]) z := by
  obtain ⟨s, hv, h⟩ := h
  obtain ⟨A, c, m, rfl, h⟩ := h.shape
  exact ⟨_, A, c, m, hv, _, rfl, h⟩
theorem rRI.mk {w : World} {s : Bool} {A : Option Addr} {m c : Nat} {z : Int} (hs : s = decide (z < 0)) (h : rR w (.slice A m c) z.natAbs) : rRI w (.agg #[.bool s, .slice A m c]) z := ⟨_, by rw [hs], h⟩
set_option maxRecDepth 100000 in
set_option maxHeartbeats 1000000 in
/-- IntOf, of a small number -/
theorem riof_c (w : World) (z : Int) (hz : -2147483648 < z ∧ z < 2147483648) : Calls Try.prog 59 #[.int .i64 z] w (Post w fun v w' => rRI w' v z) := by
  have HO := Lib.hid (fun W => rof_c W z.natAbs (by unfold B32; omega))
  have HI := Lib.hid (fun W neg A m c h => ri_c W neg A m c z.natAbs h)
  have HT := Lib.hid (show z < 0 → ∀ W A m c, rR W (.slice A m c) z.natAbs → Calls Try.prog 84 #[.bool true, .slice A m c] W (Post W fun r w' => r = .agg #[.bool true, .slice A m c]) from fun hz0 W A m c h => by
    have h1 := ri_c W true A m c z.natAbs h
    rw [decide_eq_true (show 0 < z.natAbs by omega)] at h1
    exact h1)
  have HZ := Lib.hid hz
  by_cases h : z < 0
  · have h1 : IntKind.u64.wrap z = z + 18446744073709551616 := by rw [IntKind.wrap_u64]; omega
    have h2 : IntKind.u64.wrap (-(z + 18446744073709551616)) = (z.natAbs : Int) := by rw [IntKind.wrap_u64]; omega
    clear hz
    have HB : Hid (Cells [] (w.alloc (.cells #[.bool false, .slice none 0 0] 63))) := Lib.hid (Cells.nil _)
    have HO0 := Lib.hid (Own.new' w 63 [.bool false, .slice none 0 0] (w.heap.size) (by simp))
    have hbw : Below w.heap.size w (w.alloc (.cells #[.bool false, .slice none 0 0] 63)) := (by repeat (first | assumption | exact Below.refl _ _ | refine Below.drew ?_ | refine pw_below_drewN ?_ _ | refine Below.alloc ?_ (by first | omega | (simp <;> omega)) _ | refine Below.setCell ?_ (by first | omega | (simp <;> omega)) _ | refine Below.trans ?_ (Below.mono (by assumption) (by first | omega | (simp <;> omega)))))
    go_enter Try.func59, Try.ntmps59
    go_wp2_with fail
    generalize (w.alloc (.cells #[.bool false, .slice none 0 0] 63)) = W0 at HB HO0 hbw ⊢
    refine (HO.out _).mono ?_
    rintro e W1 ⟨v1, rfl, hb1, hr1⟩
    replace HB := Lib.hid (HB.out.ext hb1)
    replace HO0 := Lib.hid (HO0.out.ext hb1)
    replace hbw := Below.trans hbw (Below.mono hb1 hbw.size)
    have R1 := Lib.hid hr1
    clear hr1
    clear hb1
    obtain ⟨A, c, m, rfl, h3⟩ := R1.out.shape
    clear R1
    have R1 := Lib.hid h3
    clear h3
    go_wp2_with fail
    refine (HT.out h _ _ _ _ R1.out).mono ?_
    rintro e W2 ⟨v1, rfl, hb1, rfl⟩
    replace HB := Lib.hid (HB.out.ext hb1)
    replace HO0 := Lib.hid (HO0.out.ext hb1)
    replace R1 := Lib.hid (R1.out.ext hb1)
    replace hbw := Below.trans hbw (Below.mono hb1 hbw.size)
    clear hb1
    have q0 := HO0.out.cell 0 _ rfl
    have f0 := HO0.out.frozen 0
    have q1 := HO0.out.cell 1 _ rfl
    have f1 := HO0.out.frozen 1
    go_wp2_with fail
    replace HB := Lib.hid (HB.out.set (p := ⟨w.heap.size, 0, none⟩) (.bool true) (by simp <;> omega))
    replace HO0 := Lib.hid (HO0.out.set 0 (.bool true))
    replace R1 := Lib.hid (R1.out.set (x := .bool true) q0 rfl)
    replace hbw := Below.setCell hbw (show w.heap.size ≤ (⟨w.heap.size, 0, none⟩ : Addr).block by simp <;> omega) (.bool true)
    replace q1 := (World.cell?_setCell_other W2 ⟨w.heap.size, 0, none⟩ ⟨w.heap.size, 1, none⟩ (.bool true) (by simp)).trans q1
    replace HB := Lib.hid (HB.out.set (p := ⟨w.heap.size, 1, none⟩) (.slice A m c) (by simp <;> omega))
    replace HO0 := Lib.hid (HO0.out.set 1 (.slice A m c))
    replace R1 := Lib.hid (R1.out.set (x := .slice A m c) q1 rfl)
    replace hbw := Below.setCell hbw (show w.heap.size ≤ (⟨w.heap.size, 1, none⟩ : Addr).block by simp <;> omega) (.slice A m c)
    clear q0 f0 q1 f1
    replace HO0 : Hid (Own _ _ _ [.bool true, .slice A m c]) := HO0
    generalize ((W2.setCell ⟨w.heap.size, 0, none⟩ (.bool true)).setCell ⟨w.heap.size, 1, none⟩ (.slice A m c)) = W3 at HB HO0 R1 hbw ⊢
    have kk0 := HO0.out.cell 0 _ rfl
    have kk1 := HO0.out.cell 1 _ rfl
    refine bodyPost_ret (v := .agg #[.bool true, .slice A m c]) (by simp [results, Try.results59, go_sem, kk0, kk1]) rfl ⟨_, rfl, hbw, ?_⟩
    exact rRI.mk (by simp [h]) R1.out
  · have h1 : IntKind.u64.wrap z = (z.natAbs : Int) := by rw [IntKind.wrap_u64]; omega
    clear hz
    have HB : Hid (Cells [] (w.alloc (.cells #[.bool false, .slice none 0 0] 63))) := Lib.hid (Cells.nil _)
    have HO0 := Lib.hid (Own.new' w 63 [.bool false, .slice none 0 0] (w.heap.size) (by simp))
    have hbw : Below w.heap.size w (w.alloc (.cells #[.bool false, .slice none 0 0] 63)) := (by repeat (first | assumption | exact Below.refl _ _ | refine Below.drew ?_ | refine pw_below_drewN ?_ _ | refine Below.alloc ?_ (by first | omega | (simp <;> omega)) _ | refine Below.setCell ?_ (by first | omega | (simp <;> omega)) _ | refine Below.trans ?_ (Below.mono (by assumption) (by first | omega | (simp <;> omega)))))
    go_enter Try.func59, Try.ntmps59
    go_wp2_with fail
    generalize (w.alloc (.cells #[.bool false, .slice none 0 0] 63)) = W0 at HB HO0 hbw ⊢
    refine (HO.out _).mono ?_
    rintro e W1 ⟨v1, rfl, hb1, hr1⟩
    replace HB := Lib.hid (HB.out.ext hb1)
    replace HO0 := Lib.hid (HO0.out.ext hb1)
    replace hbw := Below.trans hbw (Below.mono hb1 hbw.size)
    have R1 := Lib.hid hr1
    clear hr1
    clear hb1
    obtain ⟨A, c, m, rfl, h3⟩ := R1.out.shape
    clear R1
    have R1 := Lib.hid h3
    clear h3
    go_wp2_with fail
    refine (HI.out _ _ _ _ _ R1.out).mono ?_
    rintro e W2 ⟨v1, rfl, hb1, rfl⟩
    replace HB := Lib.hid (HB.out.ext hb1)
    replace HO0 := Lib.hid (HO0.out.ext hb1)
    replace R1 := Lib.hid (R1.out.ext hb1)
    replace hbw := Below.trans hbw (Below.mono hb1 hbw.size)
    clear hb1
    have q0 := HO0.out.cell 0 _ rfl
    have f0 := HO0.out.frozen 0
    have q1 := HO0.out.cell 1 _ rfl
    have f1 := HO0.out.frozen 1
    go_wp2_with fail
    replace HB := Lib.hid (HB.out.set (p := ⟨w.heap.size, 0, none⟩) (.bool false) (by simp <;> omega))
    replace HO0 := Lib.hid (HO0.out.set 0 (.bool false))
    replace R1 := Lib.hid (R1.out.set (x := .bool false) q0 rfl)
    replace hbw := Below.setCell hbw (show w.heap.size ≤ (⟨w.heap.size, 0, none⟩ : Addr).block by simp <;> omega) (.bool false)
    replace q1 := (World.cell?_setCell_other W2 ⟨w.heap.size, 0, none⟩ ⟨w.heap.size, 1, none⟩ (.bool false) (by simp)).trans q1
    replace HB := Lib.hid (HB.out.set (p := ⟨w.heap.size, 1, none⟩) (.slice A m c) (by simp <;> omega))
    replace HO0 := Lib.hid (HO0.out.set 1 (.slice A m c))
    replace R1 := Lib.hid (R1.out.set (x := .slice A m c) q1 rfl)
    replace hbw := Below.setCell hbw (show w.heap.size ≤ (⟨w.heap.size, 1, none⟩ : Addr).block by simp <;> omega) (.slice A m c)
    clear q0 f0 q1 f1
    replace HO0 : Hid (Own _ _ _ [.bool false, .slice A m c]) := HO0
    generalize ((W2.setCell ⟨w.heap.size, 0, none⟩ (.bool false)).setCell ⟨w.heap.size, 1, none⟩ (.slice A m c)) = W3 at HB HO0 R1 hbw ⊢
    have kk0 := HO0.out.cell 0 _ rfl
    have kk1 := HO0.out.cell 1 _ rfl
    refine bodyPost_ret (v := .agg #[.bool false, .slice A m c]) (by simp [results, Try.results59, go_sem, kk0, kk1]) rfl ⟨_, rfl, hbw, ?_⟩
    exact rRI.mk (by simp [h]) R1.out
end Go.Proofs.Ytlaocmhcilhlbaa
