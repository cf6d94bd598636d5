/- abaculushand.Pick, R, Q. -/
import Derived.Test.YtlaocmhcilhlbaaY19
set_option linter.unusedVariables false
set_option linter.unusedSimpArgs false
namespace Go.Proofs.Ytlaocmhcilhlbaa
open Go.RowKit
set_option maxRecDepth 100000 in
set_option maxHeartbeats 1000000 in
/-- Pick -/
theorem pick_c (w : World) (n m : Int) (hn : I64 n) (hm : 0 < m ∧ m ≤ 1073741824) : Calls Try.prog 5 #[.int .i64 n, .int .i64 m] w (Post w fun r _ => r = .int .i64 (n % m)) := by
 obtain ⟨t, et⟩ : ∃ t, Int.tmod n m = t := ⟨_, rfl⟩
 have h1 : t = if 0 ≤ n then n % m else -((-n) % m) := by
  rw [← et]
  split
  · rw [Int.tmod_eq_emod_of_nonneg (by assumption)]
  · rw [show n = -(-n) by omega, Int.neg_tmod, Int.tmod_eq_emod_of_nonneg (by omega)]; simp
 have p1 := Int.emod_nonneg n (show m ≠ 0 by omega)
 have p2 := Int.emod_lt_of_pos n hm.1
 have p3 := Int.emod_nonneg (-n) (show m ≠ 0 by omega)
 have p4 := Int.emod_lt_of_pos (-n) hm.1
 have hw : IntKind.i64.wrap t = t := i64w (by split at h1 <;> omega) (by split at h1 <;> omega)
 have hw2 : IntKind.i64.wrap (t + m) = t + m := i64w (by split at h1 <;> omega) (by split at h1 <;> omega)
 have hm1 : (m == 0) = false := by rw [beq_eq_false_iff_ne]; omega
 have hm2 : ¬ m = 0 := by omega
 have key : (if t < 0 then t + m else t) = n % m := by
  split at h1
  · rw [if_neg (by omega)]; exact h1
  ·
   split
   ·
    rename_i h2 h3
    have : (n - (t + m)) % m = 0 := by
     rw [h1]
     have h4 := Int.mul_ediv_add_emod (-n) m
     have h5 : n - (-(-n % m) + m) = m * (-((-n) / m) - 1) := by rw [Int.mul_sub, Int.mul_neg]; omega
     rw [h5, Int.mul_emod_right]
    have h6 := Int.emod_emod_of_dvd n (Int.dvd_refl m)
    have h7 : n % m = (t + m) % m := by
     rw [Int.emod_eq_emod_iff_emod_sub_eq_zero]; exact this
    rw [h7, Int.emod_eq_of_lt (by omega) (by omega)]
   ·
    rename_i h2 h3
    have h4 : (-n) % m = 0 := by omega
    have h5 : n % m = 0 := by
     have := Int.emod_eq_zero_of_dvd (Int.dvd_neg.1 (Int.dvd_of_emod_eq_zero h4))
     exact this
    omega
 have HK := Lib.hid key
 have hw3 : Go.RowKit.wrap64 (t + m) = t + m := (w64_is _).trans hw2
 clear hn hm h1 p1 p2 p3 p4 key
 by_cases ht : t < 0
 ·
  have HT := Lib.hid ht
  have HB : Hid (Cells [] w) := Lib.hid (Cells.nil _)
  have hbw : Below w.heap.size w w := Below.refl _ _
  go_enter Try.func5, Try.ntmps5
  go_wp2_with fail
  go_ret
  exact ⟨_, rfl, hbw, by rw [← HK.out, if_pos HT.out]; rfl⟩
 ·
  have HT := Lib.hid ht
  have HB : Hid (Cells [] w) := Lib.hid (Cells.nil _)
  have hbw : Below w.heap.size w w := Below.refl _ _
  go_enter Try.func5, Try.ntmps5
  go_wp2_with fail
  go_ret
  exact ⟨_, rfl, hbw, by rw [← HK.out, if_neg (by have := HT.out; omega)]; rfl⟩
/-- The lower part that R takes. -/
def tab (p : Int) : Nat := if p < 3 then 1 else if p = 3 then 2 else if p = 4 then 3 else 4
/-- The fraction of a raw number. -/
def rawQ (n : Int) : Rat := mkRat (n % 41 - 20) (tab (Int.tdiv n 41 % 6))
theorem tab_pos (p : Int) : 0 < tab p ∧ tab p ≤ 4 := by unfold tab; split <;> (try split) <;> (try split) <;> omega
theorem rawQ_small (n : Int) : (rawQ n).num.natAbs < 256 ∧ (rawQ n).den < 256 := by
 unfold rawQ
 have h1 := tab_pos (Int.tdiv n 41 % 6)
 obtain ⟨p1, p2⟩ := mkRat_parts (n % 41 - 20) (tab (Int.tdiv n 41 % 6)) (by omega)
 rw [p1, p2]
 have h2 := natAbs_ediv_le (n % 41 - 20) (Nat.gcd (n % 41 - 20).natAbs (tab (Int.tdiv n 41 % 6)))
 have h3 := Nat.div_le_self (tab (Int.tdiv n 41 % 6)) (Nat.gcd (n % 41 - 20).natAbs (tab (Int.tdiv n 41 % 6)))
 omega
theorem idx_tab0 (W : World) : (Instr.index 96 (.agg #[.int .i64 1, .int .i64 1, .int .i64 1, .int .i64 2, .int .i64 3, .int .i64 4]) (.int .i64 0)).run Try.prog W = .ok (.int .i64 1) W := by kernel_rfl
theorem idx_tab1 (W : World) : (Instr.index 96 (.agg #[.int .i64 1, .int .i64 1, .int .i64 1, .int .i64 2, .int .i64 3, .int .i64 4]) (.int .i64 1)).run Try.prog W = .ok (.int .i64 1) W := by kernel_rfl
theorem idx_tab2 (W : World) : (Instr.index 96 (.agg #[.int .i64 1, .int .i64 1, .int .i64 1, .int .i64 2, .int .i64 3, .int .i64 4]) (.int .i64 2)).run Try.prog W = .ok (.int .i64 1) W := by kernel_rfl
theorem idx_tab3 (W : World) : (Instr.index 96 (.agg #[.int .i64 1, .int .i64 1, .int .i64 1, .int .i64 2, .int .i64 3, .int .i64 4]) (.int .i64 3)).run Try.prog W = .ok (.int .i64 2) W := by kernel_rfl
theorem idx_tab4 (W : World) : (Instr.index 96 (.agg #[.int .i64 1, .int .i64 1, .int .i64 1, .int .i64 2, .int .i64 3, .int .i64 4]) (.int .i64 4)).run Try.prog W = .ok (.int .i64 3) W := by kernel_rfl
theorem idx_tab5 (W : World) : (Instr.index 96 (.agg #[.int .i64 1, .int .i64 1, .int .i64 1, .int .i64 2, .int .i64 3, .int .i64 4]) (.int .i64 5)).run Try.prog W = .ok (.int .i64 4) W := by kernel_rfl
set_option maxRecDepth 100000 in
set_option maxHeartbeats 2000000 in
/-- R -/
theorem hr_c (w : World) (n : Int) (hn : I64 n) : Calls Try.prog 25 #[.int .i64 n] w (Post w fun r w' => rRQ w' r (rawQ n)) := by
 obtain ⟨u, eu⟩ : ∃ u, Int.tdiv n 41 = u := ⟨_, rfl⟩
 have hu : u.natAbs ≤ n.natAbs := by rw [← eu, Int.natAbs_tdiv]; exact Nat.div_le_self _ _
 have hu2 : u.natAbs ≤ 9223372036854775808 / 41 := by
  rw [← eu, Int.natAbs_tdiv]
  exact Nat.div_le_div_right (by unfold I64 at hn; omega)
 have hw : IntKind.i64.wrap u = u := i64w (by omega) (by omega)
 have h1 := pick_c
 obtain ⟨q, eq⟩ : ∃ q, n % 41 = q := ⟨_, rfl⟩
 have q1 := Int.emod_nonneg n (show (41 : Int) ≠ 0 by omega)
 have q2 := Int.emod_lt_of_pos n (show (0 : Int) < 41 by omega)
 rw [eq] at q1 q2
 obtain ⟨p, ep⟩ : ∃ p, u % 6 = p := ⟨_, rfl⟩
 have p1 := Int.emod_nonneg u (show (6 : Int) ≠ 0 by omega)
 have p2 := Int.emod_lt_of_pos u (show (0 : Int) < 6 by omega)
 rw [ep] at p1 p2
 have hw2 : IntKind.i64.wrap (q - 20) = q - 20 := i64w (by omega) (by omega)
 have HP := Lib.hid (fun W => pick_c W n 41 hn (by omega))
 rw [eq] at HP
 have HU := Lib.hid (fun W => pick_c W u 6 (by unfold I64; omega) (by omega))
 rw [ep] at HU
 have hq : rawQ n = mkRat (q - 20) (tab p) := by unfold rawQ; rw [eq, eu, ep]
 rw [hq]
 have HO := Lib.hid (fun W d (hd : 0 < d ∧ d < 2147483648) => rover_c W (q - 20) d (by omega) hd)
 have hp : p = 0 ∨ p = 1 ∨ p = 2 ∨ p = 3 ∨ p = 4 ∨ p = 5 := by omega
 clear hn hu hu2 h1 q1 q2 p1 p2 eq ep hq
 rcases hp with rfl | rfl | rfl | rfl | rfl | rfl
 ·
  skip
  have hix := idx_tab0
  have HT := Lib.hid (show ∀ W, Calls Try.prog 55 #[.int .i64 (q - 20), .int .i64 1] W (Post W fun r w' => rRQ w' r (mkRat (q - 20) (tab 0))) from fun W => HO.out W 1 (by omega))
  have HB : Hid (Cells [] (w.alloc (.cells #[.bool false, .slice none 0 0, .slice none 0 0] 65))) := Lib.hid (Cells.nil _)
  have HO0 := Lib.hid (Own.new' w 65 [.bool false, .slice none 0 0, .slice none 0 0] (w.heap.size) (by simp))
  have hbw : Below w.heap.size w (w.alloc (.cells #[.bool false, .slice none 0 0, .slice none 0 0] 65)) := (by repeat (first | assumption | exact Below.refl _ _ | refine Below.drew ?_ | refine pw_below_drewN ?_ _ | refine Below.alloc ?_ (by first | omega | (simp <;> omega)) _ | refine Below.setCell ?_ (by first | omega | (simp <;> omega)) _ | refine Below.trans ?_ (Below.mono (by assumption) (by first | omega | (simp <;> omega)))))
  go_enter Try.func25, Try.ntmps25
  go_wp2_with fail
  generalize (w.alloc (.cells #[.bool false, .slice none 0 0, .slice none 0 0] 65)) = W0 at HB HO0 hbw ⊢
  refine (HP.out _).mono ?_
  rintro e W1 ⟨v1, rfl, hb1, rfl⟩
  replace HB := Lib.hid (HB.out.ext hb1)
  replace HO0 := Lib.hid (HO0.out.ext hb1)
  replace hbw := nT hbw hb1
  clear hb1
  go_wp2_with fail
  refine (HU.out _).mono ?_
  rintro e W2 ⟨v1, rfl, hb1, rfl⟩
  replace HB := Lib.hid (HB.out.ext hb1)
  replace HO0 := Lib.hid (HO0.out.ext hb1)
  replace hbw := nT hbw hb1
  clear hb1
  go_wp2_with fail
  refine (HT.out _).mono ?_
  rintro e W3 ⟨v1, rfl, hb1, hr1⟩
  replace HB := Lib.hid (HB.out.ext hb1)
  replace HO0 := Lib.hid (HO0.out.ext hb1)
  replace hbw := nT hbw hb1
  have R3 := Lib.hid hr1
  clear hr1
  clear hb1
  obtain ⟨s, A, c, n', B, k, m, rfl, h⟩ := R3.out.shape
  have R4 := Lib.hid h
  clear h R3
  have q0 := HO0.out.cell 0 _ rfl
  have f0 := HO0.out.frozen 0
  have q1 := HO0.out.cell 1 _ rfl
  have f1 := HO0.out.frozen 1
  have q2 := HO0.out.cell 2 _ rfl
  have f2 := HO0.out.frozen 2
  go_wp2_with fail
  replace HB := Lib.hid (HB.out.set (p := ⟨w.heap.size, 0, none⟩) (.bool s) (by simp <;> omega))
  replace HO0 := Lib.hid (HO0.out.set 0 (.bool s))
  replace R4 := Lib.hid (R4.out.set (x := .bool s) q0 rfl)
  replace hbw := Below.setCell hbw (show w.heap.size ≤ (⟨w.heap.size, 0, none⟩ : Addr).block by simp <;> omega) (.bool s)
  replace q1 := (World.cell?_setCell_other W3 ⟨w.heap.size, 0, none⟩ ⟨w.heap.size, 1, none⟩ (.bool s) (by simp)).trans q1
  replace q2 := (World.cell?_setCell_other W3 ⟨w.heap.size, 0, none⟩ ⟨w.heap.size, 2, none⟩ (.bool s) (by simp)).trans q2
  replace HB := Lib.hid (HB.out.set (p := ⟨w.heap.size, 1, none⟩) (.slice A n' c) (by simp <;> omega))
  replace HO0 := Lib.hid (HO0.out.set 1 (.slice A n' c))
  replace R4 := Lib.hid (R4.out.set (x := .slice A n' c) q1 rfl)
  replace hbw := Below.setCell hbw (show w.heap.size ≤ (⟨w.heap.size, 1, none⟩ : Addr).block by simp <;> omega) (.slice A n' c)
  replace q2 := (World.cell?_setCell_other (W3.setCell ⟨w.heap.size, 0, none⟩ (.bool s)) ⟨w.heap.size, 1, none⟩ ⟨w.heap.size, 2, none⟩ (.slice A n' c) (by simp)).trans q2
  replace HB := Lib.hid (HB.out.set (p := ⟨w.heap.size, 2, none⟩) (.slice B m k) (by simp <;> omega))
  replace HO0 := Lib.hid (HO0.out.set 2 (.slice B m k))
  replace R4 := Lib.hid (R4.out.set (x := .slice B m k) q2 rfl)
  replace hbw := Below.setCell hbw (show w.heap.size ≤ (⟨w.heap.size, 2, none⟩ : Addr).block by simp <;> omega) (.slice B m k)
  clear q0 f0 q1 f1 q2 f2
  replace HO0 : Hid (Own _ _ _ [.bool s, .slice A n' c, .slice B m k]) := HO0
  generalize (((W3.setCell ⟨w.heap.size, 0, none⟩ (.bool s)).setCell ⟨w.heap.size, 1, none⟩ (.slice A n' c)).setCell ⟨w.heap.size, 2, none⟩ (.slice B m k)) = W4 at HB HO0 R4 hbw ⊢
  have kk0 := HO0.out.cell 0 _ rfl
  have kk1 := HO0.out.cell 1 _ rfl
  have kk2 := HO0.out.cell 2 _ rfl
  refine bodyPost_ret (v := .agg #[.bool s, .slice A n' c, .slice B m k]) (by simp [results, Try.results25, go_sem, kk0, kk1, kk2]) rfl ⟨_, rfl, hbw, ?_⟩
  exact R4.out
 ·
  skip
  have hix := idx_tab1
  have HT := Lib.hid (show ∀ W, Calls Try.prog 55 #[.int .i64 (q - 20), .int .i64 1] W (Post W fun r w' => rRQ w' r (mkRat (q - 20) (tab 1))) from fun W => HO.out W 1 (by omega))
  have HB : Hid (Cells [] (w.alloc (.cells #[.bool false, .slice none 0 0, .slice none 0 0] 65))) := Lib.hid (Cells.nil _)
  have HO0 := Lib.hid (Own.new' w 65 [.bool false, .slice none 0 0, .slice none 0 0] (w.heap.size) (by simp))
  have hbw : Below w.heap.size w (w.alloc (.cells #[.bool false, .slice none 0 0, .slice none 0 0] 65)) := (by repeat (first | assumption | exact Below.refl _ _ | refine Below.drew ?_ | refine pw_below_drewN ?_ _ | refine Below.alloc ?_ (by first | omega | (simp <;> omega)) _ | refine Below.setCell ?_ (by first | omega | (simp <;> omega)) _ | refine Below.trans ?_ (Below.mono (by assumption) (by first | omega | (simp <;> omega)))))
  go_enter Try.func25, Try.ntmps25
  go_wp2_with fail
  generalize (w.alloc (.cells #[.bool false, .slice none 0 0, .slice none 0 0] 65)) = W0 at HB HO0 hbw ⊢
  refine (HP.out _).mono ?_
  rintro e W1 ⟨v1, rfl, hb1, rfl⟩
  replace HB := Lib.hid (HB.out.ext hb1)
  replace HO0 := Lib.hid (HO0.out.ext hb1)
  replace hbw := nT hbw hb1
  clear hb1
  go_wp2_with fail
  refine (HU.out _).mono ?_
  rintro e W2 ⟨v1, rfl, hb1, rfl⟩
  replace HB := Lib.hid (HB.out.ext hb1)
  replace HO0 := Lib.hid (HO0.out.ext hb1)
  replace hbw := nT hbw hb1
  clear hb1
  go_wp2_with fail
  refine (HT.out _).mono ?_
  rintro e W3 ⟨v1, rfl, hb1, hr1⟩
  replace HB := Lib.hid (HB.out.ext hb1)
  replace HO0 := Lib.hid (HO0.out.ext hb1)
  replace hbw := nT hbw hb1
  have R3 := Lib.hid hr1
  clear hr1
  clear hb1
  obtain ⟨s, A, c, n', B, k, m, rfl, h⟩ := R3.out.shape
  have R4 := Lib.hid h
  clear h R3
  have q0 := HO0.out.cell 0 _ rfl
  have f0 := HO0.out.frozen 0
  have q1 := HO0.out.cell 1 _ rfl
  have f1 := HO0.out.frozen 1
  have q2 := HO0.out.cell 2 _ rfl
  have f2 := HO0.out.frozen 2
  go_wp2_with fail
  replace HB := Lib.hid (HB.out.set (p := ⟨w.heap.size, 0, none⟩) (.bool s) (by simp <;> omega))
  replace HO0 := Lib.hid (HO0.out.set 0 (.bool s))
  replace R4 := Lib.hid (R4.out.set (x := .bool s) q0 rfl)
  replace hbw := Below.setCell hbw (show w.heap.size ≤ (⟨w.heap.size, 0, none⟩ : Addr).block by simp <;> omega) (.bool s)
  replace q1 := (World.cell?_setCell_other W3 ⟨w.heap.size, 0, none⟩ ⟨w.heap.size, 1, none⟩ (.bool s) (by simp)).trans q1
  replace q2 := (World.cell?_setCell_other W3 ⟨w.heap.size, 0, none⟩ ⟨w.heap.size, 2, none⟩ (.bool s) (by simp)).trans q2
  replace HB := Lib.hid (HB.out.set (p := ⟨w.heap.size, 1, none⟩) (.slice A n' c) (by simp <;> omega))
  replace HO0 := Lib.hid (HO0.out.set 1 (.slice A n' c))
  replace R4 := Lib.hid (R4.out.set (x := .slice A n' c) q1 rfl)
  replace hbw := Below.setCell hbw (show w.heap.size ≤ (⟨w.heap.size, 1, none⟩ : Addr).block by simp <;> omega) (.slice A n' c)
  replace q2 := (World.cell?_setCell_other (W3.setCell ⟨w.heap.size, 0, none⟩ (.bool s)) ⟨w.heap.size, 1, none⟩ ⟨w.heap.size, 2, none⟩ (.slice A n' c) (by simp)).trans q2
  replace HB := Lib.hid (HB.out.set (p := ⟨w.heap.size, 2, none⟩) (.slice B m k) (by simp <;> omega))
  replace HO0 := Lib.hid (HO0.out.set 2 (.slice B m k))
  replace R4 := Lib.hid (R4.out.set (x := .slice B m k) q2 rfl)
  replace hbw := Below.setCell hbw (show w.heap.size ≤ (⟨w.heap.size, 2, none⟩ : Addr).block by simp <;> omega) (.slice B m k)
  clear q0 f0 q1 f1 q2 f2
  replace HO0 : Hid (Own _ _ _ [.bool s, .slice A n' c, .slice B m k]) := HO0
  generalize (((W3.setCell ⟨w.heap.size, 0, none⟩ (.bool s)).setCell ⟨w.heap.size, 1, none⟩ (.slice A n' c)).setCell ⟨w.heap.size, 2, none⟩ (.slice B m k)) = W4 at HB HO0 R4 hbw ⊢
  have kk0 := HO0.out.cell 0 _ rfl
  have kk1 := HO0.out.cell 1 _ rfl
  have kk2 := HO0.out.cell 2 _ rfl
  refine bodyPost_ret (v := .agg #[.bool s, .slice A n' c, .slice B m k]) (by simp [results, Try.results25, go_sem, kk0, kk1, kk2]) rfl ⟨_, rfl, hbw, ?_⟩
  exact R4.out
 ·
  skip
  have hix := idx_tab2
  have HT := Lib.hid (show ∀ W, Calls Try.prog 55 #[.int .i64 (q - 20), .int .i64 1] W (Post W fun r w' => rRQ w' r (mkRat (q - 20) (tab 2))) from fun W => HO.out W 1 (by omega))
  have HB : Hid (Cells [] (w.alloc (.cells #[.bool false, .slice none 0 0, .slice none 0 0] 65))) := Lib.hid (Cells.nil _)
  have HO0 := Lib.hid (Own.new' w 65 [.bool false, .slice none 0 0, .slice none 0 0] (w.heap.size) (by simp))
  have hbw : Below w.heap.size w (w.alloc (.cells #[.bool false, .slice none 0 0, .slice none 0 0] 65)) := (by repeat (first | assumption | exact Below.refl _ _ | refine Below.drew ?_ | refine pw_below_drewN ?_ _ | refine Below.alloc ?_ (by first | omega | (simp <;> omega)) _ | refine Below.setCell ?_ (by first | omega | (simp <;> omega)) _ | refine Below.trans ?_ (Below.mono (by assumption) (by first | omega | (simp <;> omega)))))
  go_enter Try.func25, Try.ntmps25
  go_wp2_with fail
  generalize (w.alloc (.cells #[.bool false, .slice none 0 0, .slice none 0 0] 65)) = W0 at HB HO0 hbw ⊢
  refine (HP.out _).mono ?_
  rintro e W1 ⟨v1, rfl, hb1, rfl⟩
  replace HB := Lib.hid (HB.out.ext hb1)
  replace HO0 := Lib.hid (HO0.out.ext hb1)
  replace hbw := nT hbw hb1
  clear hb1
  go_wp2_with fail
  refine (HU.out _).mono ?_
  rintro e W2 ⟨v1, rfl, hb1, rfl⟩
  replace HB := Lib.hid (HB.out.ext hb1)
  replace HO0 := Lib.hid (HO0.out.ext hb1)
  replace hbw := nT hbw hb1
  clear hb1
  go_wp2_with fail
  refine (HT.out _).mono ?_
  rintro e W3 ⟨v1, rfl, hb1, hr1⟩
  replace HB := Lib.hid (HB.out.ext hb1)
  replace HO0 := Lib.hid (HO0.out.ext hb1)
  replace hbw := nT hbw hb1
  have R3 := Lib.hid hr1
  clear hr1
  clear hb1
  obtain ⟨s, A, c, n', B, k, m, rfl, h⟩ := R3.out.shape
  have R4 := Lib.hid h
  clear h R3
  have q0 := HO0.out.cell 0 _ rfl
  have f0 := HO0.out.frozen 0
  have q1 := HO0.out.cell 1 _ rfl
  have f1 := HO0.out.frozen 1
  have q2 := HO0.out.cell 2 _ rfl
  have f2 := HO0.out.frozen 2
  go_wp2_with fail
  replace HB := Lib.hid (HB.out.set (p := ⟨w.heap.size, 0, none⟩) (.bool s) (by simp <;> omega))
  replace HO0 := Lib.hid (HO0.out.set 0 (.bool s))
  replace R4 := Lib.hid (R4.out.set (x := .bool s) q0 rfl)
  replace hbw := Below.setCell hbw (show w.heap.size ≤ (⟨w.heap.size, 0, none⟩ : Addr).block by simp <;> omega) (.bool s)
  replace q1 := (World.cell?_setCell_other W3 ⟨w.heap.size, 0, none⟩ ⟨w.heap.size, 1, none⟩ (.bool s) (by simp)).trans q1
  replace q2 := (World.cell?_setCell_other W3 ⟨w.heap.size, 0, none⟩ ⟨w.heap.size, 2, none⟩ (.bool s) (by simp)).trans q2
  replace HB := Lib.hid (HB.out.set (p := ⟨w.heap.size, 1, none⟩) (.slice A n' c) (by simp <;> omega))
  replace HO0 := Lib.hid (HO0.out.set 1 (.slice A n' c))
  replace R4 := Lib.hid (R4.out.set (x := .slice A n' c) q1 rfl)
  replace hbw := Below.setCell hbw (show w.heap.size ≤ (⟨w.heap.size, 1, none⟩ : Addr).block by simp <;> omega) (.slice A n' c)
  replace q2 := (World.cell?_setCell_other (W3.setCell ⟨w.heap.size, 0, none⟩ (.bool s)) ⟨w.heap.size, 1, none⟩ ⟨w.heap.size, 2, none⟩ (.slice A n' c) (by simp)).trans q2
  replace HB := Lib.hid (HB.out.set (p := ⟨w.heap.size, 2, none⟩) (.slice B m k) (by simp <;> omega))
  replace HO0 := Lib.hid (HO0.out.set 2 (.slice B m k))
  replace R4 := Lib.hid (R4.out.set (x := .slice B m k) q2 rfl)
  replace hbw := Below.setCell hbw (show w.heap.size ≤ (⟨w.heap.size, 2, none⟩ : Addr).block by simp <;> omega) (.slice B m k)
  clear q0 f0 q1 f1 q2 f2
  replace HO0 : Hid (Own _ _ _ [.bool s, .slice A n' c, .slice B m k]) := HO0
  generalize (((W3.setCell ⟨w.heap.size, 0, none⟩ (.bool s)).setCell ⟨w.heap.size, 1, none⟩ (.slice A n' c)).setCell ⟨w.heap.size, 2, none⟩ (.slice B m k)) = W4 at HB HO0 R4 hbw ⊢
  have kk0 := HO0.out.cell 0 _ rfl
  have kk1 := HO0.out.cell 1 _ rfl
  have kk2 := HO0.out.cell 2 _ rfl
  refine bodyPost_ret (v := .agg #[.bool s, .slice A n' c, .slice B m k]) (by simp [results, Try.results25, go_sem, kk0, kk1, kk2]) rfl ⟨_, rfl, hbw, ?_⟩
  exact R4.out
 ·
  skip
  have hix := idx_tab3
  have HT := Lib.hid (show ∀ W, Calls Try.prog 55 #[.int .i64 (q - 20), .int .i64 2] W (Post W fun r w' => rRQ w' r (mkRat (q - 20) (tab 3))) from fun W => HO.out W 2 (by omega))
  have HB : Hid (Cells [] (w.alloc (.cells #[.bool false, .slice none 0 0, .slice none 0 0] 65))) := Lib.hid (Cells.nil _)
  have HO0 := Lib.hid (Own.new' w 65 [.bool false, .slice none 0 0, .slice none 0 0] (w.heap.size) (by simp))
  have hbw : Below w.heap.size w (w.alloc (.cells #[.bool false, .slice none 0 0, .slice none 0 0] 65)) := (by repeat (first | assumption | exact Below.refl _ _ | refine Below.drew ?_ | refine pw_below_drewN ?_ _ | refine Below.alloc ?_ (by first | omega | (simp <;> omega)) _ | refine Below.setCell ?_ (by first | omega | (simp <;> omega)) _ | refine Below.trans ?_ (Below.mono (by assumption) (by first | omega | (simp <;> omega)))))
  go_enter Try.func25, Try.ntmps25
  go_wp2_with fail
  generalize (w.alloc (.cells #[.bool false, .slice none 0 0, .slice none 0 0] 65)) = W0 at HB HO0 hbw ⊢
  refine (HP.out _).mono ?_
  rintro e W1 ⟨v1, rfl, hb1, rfl⟩
  replace HB := Lib.hid (HB.out.ext hb1)
  replace HO0 := Lib.hid (HO0.out.ext hb1)
  replace hbw := nT hbw hb1
  clear hb1
  go_wp2_with fail
  refine (HU.out _).mono ?_
  rintro e W2 ⟨v1, rfl, hb1, rfl⟩
  replace HB := Lib.hid (HB.out.ext hb1)
  replace HO0 := Lib.hid (HO0.out.ext hb1)
  replace hbw := nT hbw hb1
  clear hb1
  go_wp2_with fail
  refine (HT.out _).mono ?_
  rintro e W3 ⟨v1, rfl, hb1, hr1⟩
  replace HB := Lib.hid (HB.out.ext hb1)
  replace HO0 := Lib.hid (HO0.out.ext hb1)
  replace hbw := nT hbw hb1
  have R3 := Lib.hid hr1
  clear hr1
  clear hb1
  obtain ⟨s, A, c, n', B, k, m, rfl, h⟩ := R3.out.shape
  have R4 := Lib.hid h
  clear h R3
  have q0 := HO0.out.cell 0 _ rfl
  have f0 := HO0.out.frozen 0
  have q1 := HO0.out.cell 1 _ rfl
  have f1 := HO0.out.frozen 1
  have q2 := HO0.out.cell 2 _ rfl
  have f2 := HO0.out.frozen 2
  go_wp2_with fail
  replace HB := Lib.hid (HB.out.set (p := ⟨w.heap.size, 0, none⟩) (.bool s) (by simp <;> omega))
  replace HO0 := Lib.hid (HO0.out.set 0 (.bool s))
  replace R4 := Lib.hid (R4.out.set (x := .bool s) q0 rfl)
  replace hbw := Below.setCell hbw (show w.heap.size ≤ (⟨w.heap.size, 0, none⟩ : Addr).block by simp <;> omega) (.bool s)
  replace q1 := (World.cell?_setCell_other W3 ⟨w.heap.size, 0, none⟩ ⟨w.heap.size, 1, none⟩ (.bool s) (by simp)).trans q1
  replace q2 := (World.cell?_setCell_other W3 ⟨w.heap.size, 0, none⟩ ⟨w.heap.size, 2, none⟩ (.bool s) (by simp)).trans q2
  replace HB := Lib.hid (HB.out.set (p := ⟨w.heap.size, 1, none⟩) (.slice A n' c) (by simp <;> omega))
  replace HO0 := Lib.hid (HO0.out.set 1 (.slice A n' c))
  replace R4 := Lib.hid (R4.out.set (x := .slice A n' c) q1 rfl)
  replace hbw := Below.setCell hbw (show w.heap.size ≤ (⟨w.heap.size, 1, none⟩ : Addr).block by simp <;> omega) (.slice A n' c)
  replace q2 := (World.cell?_setCell_other (W3.setCell ⟨w.heap.size, 0, none⟩ (.bool s)) ⟨w.heap.size, 1, none⟩ ⟨w.heap.size, 2, none⟩ (.slice A n' c) (by simp)).trans q2
  replace HB := Lib.hid (HB.out.set (p := ⟨w.heap.size, 2, none⟩) (.slice B m k) (by simp <;> omega))
  replace HO0 := Lib.hid (HO0.out.set 2 (.slice B m k))
  replace R4 := Lib.hid (R4.out.set (x := .slice B m k) q2 rfl)
  replace hbw := Below.setCell hbw (show w.heap.size ≤ (⟨w.heap.size, 2, none⟩ : Addr).block by simp <;> omega) (.slice B m k)
  clear q0 f0 q1 f1 q2 f2
  replace HO0 : Hid (Own _ _ _ [.bool s, .slice A n' c, .slice B m k]) := HO0
  generalize (((W3.setCell ⟨w.heap.size, 0, none⟩ (.bool s)).setCell ⟨w.heap.size, 1, none⟩ (.slice A n' c)).setCell ⟨w.heap.size, 2, none⟩ (.slice B m k)) = W4 at HB HO0 R4 hbw ⊢
  have kk0 := HO0.out.cell 0 _ rfl
  have kk1 := HO0.out.cell 1 _ rfl
  have kk2 := HO0.out.cell 2 _ rfl
  refine bodyPost_ret (v := .agg #[.bool s, .slice A n' c, .slice B m k]) (by simp [results, Try.results25, go_sem, kk0, kk1, kk2]) rfl ⟨_, rfl, hbw, ?_⟩
  exact R4.out
 ·
  skip
  have hix := idx_tab4
  have HT := Lib.hid (show ∀ W, Calls Try.prog 55 #[.int .i64 (q - 20), .int .i64 3] W (Post W fun r w' => rRQ w' r (mkRat (q - 20) (tab 4))) from fun W => HO.out W 3 (by omega))
  have HB : Hid (Cells [] (w.alloc (.cells #[.bool false, .slice none 0 0, .slice none 0 0] 65))) := Lib.hid (Cells.nil _)
  have HO0 := Lib.hid (Own.new' w 65 [.bool false, .slice none 0 0, .slice none 0 0] (w.heap.size) (by simp))
  have hbw : Below w.heap.size w (w.alloc (.cells #[.bool false, .slice none 0 0, .slice none 0 0] 65)) := (by repeat (first | assumption | exact Below.refl _ _ | refine Below.drew ?_ | refine pw_below_drewN ?_ _ | refine Below.alloc ?_ (by first | omega | (simp <;> omega)) _ | refine Below.setCell ?_ (by first | omega | (simp <;> omega)) _ | refine Below.trans ?_ (Below.mono (by assumption) (by first | omega | (simp <;> omega)))))
  go_enter Try.func25, Try.ntmps25
  go_wp2_with fail
  generalize (w.alloc (.cells #[.bool false, .slice none 0 0, .slice none 0 0] 65)) = W0 at HB HO0 hbw ⊢
  refine (HP.out _).mono ?_
  rintro e W1 ⟨v1, rfl, hb1, rfl⟩
  replace HB := Lib.hid (HB.out.ext hb1)
  replace HO0 := Lib.hid (HO0.out.ext hb1)
  replace hbw := nT hbw hb1
  clear hb1
  go_wp2_with fail
  refine (HU.out _).mono ?_
  rintro e W2 ⟨v1, rfl, hb1, rfl⟩
  replace HB := Lib.hid (HB.out.ext hb1)
  replace HO0 := Lib.hid (HO0.out.ext hb1)
  replace hbw := nT hbw hb1
  clear hb1
  go_wp2_with fail
  refine (HT.out _).mono ?_
  rintro e W3 ⟨v1, rfl, hb1, hr1⟩
  replace HB := Lib.hid (HB.out.ext hb1)
  replace HO0 := Lib.hid (HO0.out.ext hb1)
  replace hbw := nT hbw hb1
  have R3 := Lib.hid hr1
  clear hr1
  clear hb1
  obtain ⟨s, A, c, n', B, k, m, rfl, h⟩ := R3.out.shape
  have R4 := Lib.hid h
  clear h R3
  have q0 := HO0.out.cell 0 _ rfl
  have f0 := HO0.out.frozen 0
  have q1 := HO0.out.cell 1 _ rfl
  have f1 := HO0.out.frozen 1
  have q2 := HO0.out.cell 2 _ rfl
  have f2 := HO0.out.frozen 2
  go_wp2_with fail
  replace HB := Lib.hid (HB.out.set (p := ⟨w.heap.size, 0, none⟩) (.bool s) (by simp <;> omega))
  replace HO0 := Lib.hid (HO0.out.set 0 (.bool s))
  replace R4 := Lib.hid (R4.out.set (x := .bool s) q0 rfl)
  replace hbw := Below.setCell hbw (show w.heap.size ≤ (⟨w.heap.size, 0, none⟩ : Addr).block by simp <;> omega) (.bool s)
  replace q1 := (World.cell?_setCell_other W3 ⟨w.heap.size, 0, none⟩ ⟨w.heap.size, 1, none⟩ (.bool s) (by simp)).trans q1
  replace q2 := (World.cell?_setCell_other W3 ⟨w.heap.size, 0, none⟩ ⟨w.heap.size, 2, none⟩ (.bool s) (by simp)).trans q2
  replace HB := Lib.hid (HB.out.set (p := ⟨w.heap.size, 1, none⟩) (.slice A n' c) (by simp <;> omega))
  replace HO0 := Lib.hid (HO0.out.set 1 (.slice A n' c))
  replace R4 := Lib.hid (R4.out.set (x := .slice A n' c) q1 rfl)
  replace hbw := Below.setCell hbw (show w.heap.size ≤ (⟨w.heap.size, 1, none⟩ : Addr).block by simp <;> omega) (.slice A n' c)
  replace q2 := (World.cell?_setCell_other (W3.setCell ⟨w.heap.size, 0, none⟩ (.bool s)) ⟨w.heap.size, 1, none⟩ ⟨w.heap.size, 2, none⟩ (.slice A n' c) (by simp)).trans q2
  replace HB := Lib.hid (HB.out.set (p := ⟨w.heap.size, 2, none⟩) (.slice B m k) (by simp <;> omega))
  replace HO0 := Lib.hid (HO0.out.set 2 (.slice B m k))
  replace R4 := Lib.hid (R4.out.set (x := .slice B m k) q2 rfl)
  replace hbw := Below.setCell hbw (show w.heap.size ≤ (⟨w.heap.size, 2, none⟩ : Addr).block by simp <;> omega) (.slice B m k)
  clear q0 f0 q1 f1 q2 f2
  replace HO0 : Hid (Own _ _ _ [.bool s, .slice A n' c, .slice B m k]) := HO0
  generalize (((W3.setCell ⟨w.heap.size, 0, none⟩ (.bool s)).setCell ⟨w.heap.size, 1, none⟩ (.slice A n' c)).setCell ⟨w.heap.size, 2, none⟩ (.slice B m k)) = W4 at HB HO0 R4 hbw ⊢
  have kk0 := HO0.out.cell 0 _ rfl
  have kk1 := HO0.out.cell 1 _ rfl
  have kk2 := HO0.out.cell 2 _ rfl
  refine bodyPost_ret (v := .agg #[.bool s, .slice A n' c, .slice B m k]) (by simp [results, Try.results25, go_sem, kk0, kk1, kk2]) rfl ⟨_, rfl, hbw, ?_⟩
  exact R4.out
 ·
  skip
  have hix := idx_tab5
  have HT := Lib.hid (show ∀ W, Calls Try.prog 55 #[.int .i64 (q - 20), .int .i64 4] W (Post W fun r w' => rRQ w' r (mkRat (q - 20) (tab 5))) from fun W => HO.out W 4 (by omega))
  have HB : Hid (Cells [] (w.alloc (.cells #[.bool false, .slice none 0 0, .slice none 0 0] 65))) := Lib.hid (Cells.nil _)
  have HO0 := Lib.hid (Own.new' w 65 [.bool false, .slice none 0 0, .slice none 0 0] (w.heap.size) (by simp))
  have hbw : Below w.heap.size w (w.alloc (.cells #[.bool false, .slice none 0 0, .slice none 0 0] 65)) := (by repeat (first | assumption | exact Below.refl _ _ | refine Below.drew ?_ | refine pw_below_drewN ?_ _ | refine Below.alloc ?_ (by first | omega | (simp <;> omega)) _ | refine Below.setCell ?_ (by first | omega | (simp <;> omega)) _ | refine Below.trans ?_ (Below.mono (by assumption) (by first | omega | (simp <;> omega)))))
  go_enter Try.func25, Try.ntmps25
  go_wp2_with fail
  generalize (w.alloc (.cells #[.bool false, .slice none 0 0, .slice none 0 0] 65)) = W0 at HB HO0 hbw ⊢
  refine (HP.out _).mono ?_
  rintro e W1 ⟨v1, rfl, hb1, rfl⟩
  replace HB := Lib.hid (HB.out.ext hb1)
  replace HO0 := Lib.hid (HO0.out.ext hb1)
  replace hbw := nT hbw hb1
  clear hb1
  go_wp2_with fail
  refine (HU.out _).mono ?_
  rintro e W2 ⟨v1, rfl, hb1, rfl⟩
  replace HB := Lib.hid (HB.out.ext hb1)
  replace HO0 := Lib.hid (HO0.out.ext hb1)
  replace hbw := nT hbw hb1
  clear hb1
  go_wp2_with fail
  refine (HT.out _).mono ?_
  rintro e W3 ⟨v1, rfl, hb1, hr1⟩
  replace HB := Lib.hid (HB.out.ext hb1)
  replace HO0 := Lib.hid (HO0.out.ext hb1)
  replace hbw := nT hbw hb1
  have R3 := Lib.hid hr1
  clear hr1
  clear hb1
  obtain ⟨s, A, c, n', B, k, m, rfl, h⟩ := R3.out.shape
  have R4 := Lib.hid h
  clear h R3
  have q0 := HO0.out.cell 0 _ rfl
  have f0 := HO0.out.frozen 0
  have q1 := HO0.out.cell 1 _ rfl
  have f1 := HO0.out.frozen 1
  have q2 := HO0.out.cell 2 _ rfl
  have f2 := HO0.out.frozen 2
  go_wp2_with fail
  replace HB := Lib.hid (HB.out.set (p := ⟨w.heap.size, 0, none⟩) (.bool s) (by simp <;> omega))
  replace HO0 := Lib.hid (HO0.out.set 0 (.bool s))
  replace R4 := Lib.hid (R4.out.set (x := .bool s) q0 rfl)
  replace hbw := Below.setCell hbw (show w.heap.size ≤ (⟨w.heap.size, 0, none⟩ : Addr).block by simp <;> omega) (.bool s)
  replace q1 := (World.cell?_setCell_other W3 ⟨w.heap.size, 0, none⟩ ⟨w.heap.size, 1, none⟩ (.bool s) (by simp)).trans q1
  replace q2 := (World.cell?_setCell_other W3 ⟨w.heap.size, 0, none⟩ ⟨w.heap.size, 2, none⟩ (.bool s) (by simp)).trans q2
  replace HB := Lib.hid (HB.out.set (p := ⟨w.heap.size, 1, none⟩) (.slice A n' c) (by simp <;> omega))
  replace HO0 := Lib.hid (HO0.out.set 1 (.slice A n' c))
  replace R4 := Lib.hid (R4.out.set (x := .slice A n' c) q1 rfl)
  replace hbw := Below.setCell hbw (show w.heap.size ≤ (⟨w.heap.size, 1, none⟩ : Addr).block by simp <;> omega) (.slice A n' c)
  replace q2 := (World.cell?_setCell_other (W3.setCell ⟨w.heap.size, 0, none⟩ (.bool s)) ⟨w.heap.size, 1, none⟩ ⟨w.heap.size, 2, none⟩ (.slice A n' c) (by simp)).trans q2
  replace HB := Lib.hid (HB.out.set (p := ⟨w.heap.size, 2, none⟩) (.slice B m k) (by simp <;> omega))
  replace HO0 := Lib.hid (HO0.out.set 2 (.slice B m k))
  replace R4 := Lib.hid (R4.out.set (x := .slice B m k) q2 rfl)
  replace hbw := Below.setCell hbw (show w.heap.size ≤ (⟨w.heap.size, 2, none⟩ : Addr).block by simp <;> omega) (.slice B m k)
  clear q0 f0 q1 f1 q2 f2
  replace HO0 : Hid (Own _ _ _ [.bool s, .slice A n' c, .slice B m k]) := HO0
  generalize (((W3.setCell ⟨w.heap.size, 0, none⟩ (.bool s)).setCell ⟨w.heap.size, 1, none⟩ (.slice A n' c)).setCell ⟨w.heap.size, 2, none⟩ (.slice B m k)) = W4 at HB HO0 R4 hbw ⊢
  have kk0 := HO0.out.cell 0 _ rfl
  have kk1 := HO0.out.cell 1 _ rfl
  have kk2 := HO0.out.cell 2 _ rfl
  refine bodyPost_ret (v := .agg #[.bool s, .slice A n' c, .slice B m k]) (by simp [results, Try.results25, go_sem, kk0, kk1, kk2]) rfl ⟨_, rfl, hbw, ?_⟩
  exact R4.out
set_option maxRecDepth 100000 in
set_option maxHeartbeats 1000000 in
/-- Q -/
theorem hq_c (w : World) (n : Int) (hn : I64 n) : Calls Try.prog 12 #[.int .i64 n] w (Post w fun r w' => rQ w' r (rawQ n)) := by
 have HR := Lib.hid (fun W => hr_c W n hn)
 have HI := Lib.hid (fun W v h => hin_c W v (rawQ n) h (rawQ_small n).1 (rawQ_small n).2)
 clear hn
 have HB : Hid (Cells [] (w.alloc (.cells #[.bool false, .slice none 0 0, .slice none 0 0] 34))) := Lib.hid (Cells.nil _)
 have HO0 := Lib.hid (Own.new' w 34 [.bool false, .slice none 0 0, .slice none 0 0] (w.heap.size) (by simp))
 have hbw : Below w.heap.size w (w.alloc (.cells #[.bool false, .slice none 0 0, .slice none 0 0] 34)) := (by repeat (first | assumption | exact Below.refl _ _ | refine Below.drew ?_ | refine pw_below_drewN ?_ _ | refine Below.alloc ?_ (by first | omega | (simp <;> omega)) _ | refine Below.setCell ?_ (by first | omega | (simp <;> omega)) _ | refine Below.trans ?_ (Below.mono (by assumption) (by first | omega | (simp <;> omega)))))
 go_enter Try.func12, Try.ntmps12
 go_wp2_with fail
 generalize (w.alloc (.cells #[.bool false, .slice none 0 0, .slice none 0 0] 34)) = W0 at HB HO0 hbw ⊢
 refine (HR.out _).mono ?_
 rintro e W1 ⟨v1, rfl, hb1, hr1⟩
 replace HB := Lib.hid (HB.out.ext hb1)
 replace HO0 := Lib.hid (HO0.out.ext hb1)
 replace hbw := nT hbw hb1
 have R1 := Lib.hid hr1
 clear hr1
 clear hb1
 go_wp2_with fail
 refine (HI.out _ _ R1.out).mono ?_
 rintro e W2 ⟨v1, rfl, hb1, hr1⟩
 obtain ⟨Es, EA, Ec, En, EB, Ed, Em, rfl, hr1⟩ := hr1.shape
 replace HB := Lib.hid (HB.out.ext hb1)
 replace HO0 := Lib.hid (HO0.out.ext hb1)
 replace R1 := Lib.hid (R1.out.ext hb1)
 replace hbw := nT hbw hb1
 have R2 := Lib.hid hr1
 clear hr1
 clear hb1
 have q0 := HO0.out.cell 0 _ rfl
 have f0 := HO0.out.frozen 0
 have q1 := HO0.out.cell 1 _ rfl
 have f1 := HO0.out.frozen 1
 have q2 := HO0.out.cell 2 _ rfl
 have f2 := HO0.out.frozen 2
 go_wp2_with fail
 replace HB := Lib.hid (HB.out.set (p := ⟨w.heap.size, 0, none⟩) (.bool Es) (by simp <;> omega))
 replace HO0 := Lib.hid (HO0.out.set 0 (.bool Es))
 replace R1 := Lib.hid (R1.out.set (x := .bool Es) q0 rfl)
 replace R2 := Lib.hid (R2.out.set (x := .bool Es) q0 rfl)
 replace hbw := Below.setCell hbw (show w.heap.size ≤ (⟨w.heap.size, 0, none⟩ : Addr).block by simp <;> omega) (.bool Es)
 replace q1 := (World.cell?_setCell_other W2 ⟨w.heap.size, 0, none⟩ ⟨w.heap.size, 1, none⟩ (.bool Es) (by simp)).trans q1
 replace q2 := (World.cell?_setCell_other W2 ⟨w.heap.size, 0, none⟩ ⟨w.heap.size, 2, none⟩ (.bool Es) (by simp)).trans q2
 replace HB := Lib.hid (HB.out.set (p := ⟨w.heap.size, 1, none⟩) (.slice EA En Ec) (by simp <;> omega))
 replace HO0 := Lib.hid (HO0.out.set 1 (.slice EA En Ec))
 replace R1 := Lib.hid (R1.out.set (x := .slice EA En Ec) q1 rfl)
 replace R2 := Lib.hid (R2.out.set (x := .slice EA En Ec) q1 rfl)
 replace hbw := Below.setCell hbw (show w.heap.size ≤ (⟨w.heap.size, 1, none⟩ : Addr).block by simp <;> omega) (.slice EA En Ec)
 replace q2 := (World.cell?_setCell_other (W2.setCell ⟨w.heap.size, 0, none⟩ (.bool Es)) ⟨w.heap.size, 1, none⟩ ⟨w.heap.size, 2, none⟩ (.slice EA En Ec) (by simp)).trans q2
 replace HB := Lib.hid (HB.out.set (p := ⟨w.heap.size, 2, none⟩) (.slice EB Em Ed) (by simp <;> omega))
 replace HO0 := Lib.hid (HO0.out.set 2 (.slice EB Em Ed))
 replace R1 := Lib.hid (R1.out.set (x := .slice EB Em Ed) q2 rfl)
 replace R2 := Lib.hid (R2.out.set (x := .slice EB Em Ed) q2 rfl)
 replace hbw := Below.setCell hbw (show w.heap.size ≤ (⟨w.heap.size, 2, none⟩ : Addr).block by simp <;> omega) (.slice EB Em Ed)
 clear q0 f0 q1 f1 q2 f2
 replace HO0 : Hid (Own _ _ _ [.bool Es, .slice EA En Ec, .slice EB Em Ed]) := HO0
 generalize (((W2.setCell ⟨w.heap.size, 0, none⟩ (.bool Es)).setCell ⟨w.heap.size, 1, none⟩ (.slice EA En Ec)).setCell ⟨w.heap.size, 2, none⟩ (.slice EB Em Ed)) = W3 at HB HO0 R1 R2 hbw ⊢
 have kk0 := HO0.out.cell 0 _ rfl
 have kk1 := HO0.out.cell 1 _ rfl
 have kk2 := HO0.out.cell 2 _ rfl
 refine bodyPost_ret (v := .agg #[.bool Es, .slice EA En Ec, .slice EB Em Ed]) (by simp [results, Try.results12, go_sem, kk0, kk1, kk2]) rfl ⟨_, rfl, hbw, ?_⟩
 exact R2.out
end Go.Proofs.Ytlaocmhcilhlbaa

/- nat.Bytes, NatFrom, of one byte; abaculushand.OutNat, OutInt, Out. -/
namespace Go.Proofs.Ytlaocmhcilhlbaa
open Go.RowKit
/-- A number of one word at most. -/
theorem rNat.one {w : World} {A : Option Addr} {m c n : Nat} (h : rNat w (.agg #[.slice A m c]) n) (hn : n < B64) : (n = 0 → m = 0) ∧ (0 < n → m = 1 ∧ ∃ g o, A = some ⟨g, o, none⟩ ∧ w.cell? ⟨g, o, none⟩ = some (.int .u64 (n : Nat))) := by
 obtain ⟨A', c', l, hv, hw, hnn, rfl⟩ := h
 simp only [Value.agg.injEq, Array.mk.injEq, List.cons.injEq, Value.slice.injEq, and_true] at hv
 obtain ⟨rfl, rfl, rfl⟩ := hv
 by_cases hl : l = []
 ·
  subst hl
  exact ⟨fun _ => rfl, fun h => absurd h (by simp [vl])⟩
 ·
  have h1 := vl_ge B64 l hnn hl
  have h3 : 0 < l.length := List.length_pos_iff.2 hl
  have h2 : l.length = 1 := by
   rcases Nat.lt_or_ge 1 l.length with h4 | h4
   ·
    exfalso
    have : B64 ^ 1 ≤ B64 ^ (l.length - 1) := Nat.pow_le_pow_right B64_pos (by omega)
    rw [Nat.pow_one] at this
    omega
   · omega
  have hp : 0 < vl B64 l := Nat.lt_of_lt_of_le (Nat.pow_pos B64_pos) h1
  refine ⟨fun e => absurd e (by omega), fun _ => ?_⟩
  obtain ⟨x, rfl⟩ : ∃ x, l = [x] := List.length_eq_one_iff.1 h2
  obtain ⟨g, o, hA, hc⟩ := hw.2.2 hl
  refine ⟨rfl, g, o, hA, ?_⟩
  have := hc 0 (by simp)
  simpa [vl] using this
theorem byteOf_pos {n : Nat} (h : 0 < n) : byteOf n = [n] := by unfold byteOf; rw [if_neg (by omega)]
set_option maxRecDepth 100000 in
set_option maxHeartbeats 1000000 in
/-- nat.Bytes, of one byte -/
theorem bytes_c (w : World) (v : Value) (a : Nat) (ha : rNat w v a) (fa : a < 256) : Calls Try.prog 106 #[v] w (Post w fun r w' => rBy w' r (byteOf a)) := by
 obtain ⟨A, c, m, rfl, ha⟩ := ha.shape
 have f8 : bl a ≤ 8 := bl_le_of_lt (k := 8) fa
 have HB := Lib.hid (fun W h => bits_c W (.agg #[.slice A m c]) a h (by unfold Fit; omega))
 have H1 := Lib.hid ha
 have hone := ha.one (by unfold B64; omega)
 have HX := HB
 clear HB
 rcases Nat.eq_zero_or_pos a with rfl | a0
 ·
  have hmk := mk8 0 0 rfl (by omega)
  rw [show zeroW .u8 0 = #[] from rfl] at hmk
  rw [bl_zero] at HX
  obtain rfl := hone.1 rfl
  clear hone
  have HB : Hid (Cells [(w.heap.size, 0, .slice A 0 c)] (w.alloc (.cells #[.slice A 0 c] 30))) := Lib.hid (Cells.cons (by go_simp) (Cells.nil _))
  have hbw : Below w.heap.size w (w.alloc (.cells #[.slice A 0 c] 30)) := (by repeat (first | assumption | exact Below.refl _ _ | refine Below.drew ?_ | refine pw_below_drewN ?_ _ | refine Below.alloc ?_ (by first | omega | (simp <;> omega)) _ | refine Below.setCell ?_ (by first | omega | (simp <;> omega)) _ | refine Below.trans ?_ (Below.mono (by assumption) (by first | omega | (simp <;> omega)))))
  clear ha fa f8
  go_enter Try.func106, Try.ntmps106
  go_wp2_with fail
  generalize (w.alloc (.cells #[.slice A 0 c] 30)) = W0 at HB hbw ⊢
  obtain ⟨y0, _⟩ := id HB.out
  go_wp2_with fail
  clear y0
  refine (HX.out _ (H1.out.ext hbw)).mono ?_
  rintro e W1 ⟨v1, rfl, hb1, rfl⟩
  replace HB := Lib.hid (HB.out.ext hb1)
  replace hbw := nT hbw hb1
  clear hb1
  go_wp2_with fail
  have hbe := Below.alloc hbw hbw.size (.cells #[] 5)
  go_loopw [12] (fun t W => t = .int .i64 0 ∧ Below w.heap.size w W) (fun _ _ => 0)
  case atStart => exact ⟨rfl, hbe⟩
  case round =>
   obtain ⟨rfl, hrel⟩ := hrel
   go_wp2_with fail
   go_ret
   exact ⟨_, rfl, hrel, _, 0, rfl, Words.nil _ _ _ _ _⟩
 ·
  have hmk := mk8 1 1 rfl (by omega)
  rw [show zeroW .u8 1 = #[.int .u8 0] from rfl] at hmk
  obtain ⟨rfl, g, o, rfl, hc⟩ := hone.2 a0
  have hg := cell_lt hc
  obtain ⟨b, eb⟩ : ∃ b, bl a = b := ⟨_, rfl⟩
  have hb0 : 0 < b := by rw [← eb]; exact bl_pos.2 (by omega)
  rw [eb] at HX f8
  have hd : Int.tdiv ((b : Int) + 7) 8 = 1 := by rw [Int.tdiv_eq_ediv_of_nonneg (by omega)]; omega
  have hw : IntKind.i64.wrap ((b : Int) + 7) = (b : Int) + 7 := i64w (by omega) (by omega)
  have hm8 : (a : Int) % 256 = (a : Int) := by omega
  have hw0 : IntKind.i64.wrap 0 = 0 := rfl
  have HC := Lib.hid hc
  have HA := Lib.hid (And.intro a0 fa)
  clear hone
  have HB : Hid (Cells [(w.heap.size, 0, .slice (some ⟨g, o, none⟩) 1 c)] (w.alloc (.cells #[.slice (some ⟨g, o, none⟩) 1 c] 30))) := Lib.hid (Cells.cons (by go_simp) (Cells.nil _))
  have hbw : Below w.heap.size w (w.alloc (.cells #[.slice (some ⟨g, o, none⟩) 1 c] 30)) := (by repeat (first | assumption | exact Below.refl _ _ | refine Below.drew ?_ | refine pw_below_drewN ?_ _ | refine Below.alloc ?_ (by first | omega | (simp <;> omega)) _ | refine Below.setCell ?_ (by first | omega | (simp <;> omega)) _ | refine Below.trans ?_ (Below.mono (by assumption) (by first | omega | (simp <;> omega)))))
  clear ha fa a0 eb f8 hb0 hc
  go_enter Try.func106, Try.ntmps106
  go_wp2_with fail
  generalize (w.alloc (.cells #[.slice (some ⟨g, o, none⟩) 1 c] 30)) = W0 at HB hbw ⊢
  obtain ⟨y0, _⟩ := id HB.out
  go_wp2_with fail
  clear y0
  refine (HX.out _ (H1.out.ext hbw)).mono ?_
  rintro e W1 ⟨v1, rfl, hb1, rfl⟩
  replace HB := Lib.hid (HB.out.ext hb1)
  replace hbw := nT hbw hb1
  clear hb1
  have gl : w.heap.size < W1.heap.size := cell_lt HB.out.1
  have hne : g ≠ W1.heap.size := by omega
  have HXA := Lib.hid (ext_cell (ext_alloc W1 (.cells #[.int .u8 0] 5)) (ext_cell hbw HC.out))
  have HXB := Lib.hid (ext_cell (ext_alloc W1 (.cells #[.int .u8 0] 5)) HB.out.1)
  have hbe := Below.alloc hbw hbw.size (.cells #[.int .u8 0] 5)
  go_wp2_with fail
  go_loopw [12] (fun t W => ∃ k x : Nat, t = .int .i64 (k : Nat) ∧ ((k = 0 ∧ x = 0) ∨ (k = 1 ∧ x = a)) ∧ Below w.heap.size w W ∧ W.cell? ⟨g, o, none⟩ = some (.int .u64 (a : Nat)) ∧ W.cell? ⟨w.heap.size, 0, none⟩ = some (.slice (some ⟨g, o, none⟩) 1 c) ∧ Own W W1.heap.size 5 [.int .u8 (x : Nat)]) (fun t _ => (1 - intOf t).toNat)
  case atStart => exact ⟨0, 0, rfl, .inl ⟨rfl, rfl⟩, hbe, HXA.out, HXB.out, Own.new W1 5 [.int .u8 0]⟩
  case round =>
   obtain ⟨k, x, rfl, hk, hbw', xa, xb, ho⟩ := hrel
   have HO := Lib.hid ho
   have q0 := ho.cell 0 _ rfl
   have f0 := ho.frozen 0
   clear ho
   rcases hk with ⟨rfl, rfl⟩ | ⟨rfl, rfl⟩
   ·
    have XA := Lib.hid ((World.cell?_setCell_other wr ⟨W1.heap.size, 0, none⟩ ⟨g, o, none⟩ (.int .u8 (a : Nat)) (by simp <;> omega)).trans xa)
    have XB := Lib.hid ((World.cell?_setCell_other wr ⟨W1.heap.size, 0, none⟩ ⟨w.heap.size, 0, none⟩ (.int .u8 (a : Nat)) (by simp <;> omega)).trans xb)
    go_wp2_with fail
    go_roundw
    case rel => exact ⟨1, a, rfl, .inr ⟨rfl, rfl⟩, hbw'.setCell (by simp <;> omega) _, XA.out, XB.out, HO.out.set 0 _⟩
    case measure => simp [intOf]
   ·
    go_wp2_with fail
    go_ret
    refine ⟨_, rfl, hbw', ?_⟩
    rw [byteOf_pos HA.out.1]
    exact ⟨_, 1, rfl, own_words (k := .u8) (l := [x]) (by simpa [wv] using HO.out) (by intro y hy; simp at hy; rw [hy]; exact HA.out.2) 1 (by simp)⟩
end Go.Proofs.Ytlaocmhcilhlbaa
