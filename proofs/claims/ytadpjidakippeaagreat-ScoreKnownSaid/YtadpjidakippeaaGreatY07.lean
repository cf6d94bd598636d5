/- whole.Int: division, downward: signs alike. -/
import Derived.Test.YtadpjidakippeaaGreatY06
set_option linter.unusedVariables false
set_option linter.unusedSimpArgs false
namespace Go.Proofs.YtadpjidakippeaaGreat
open Go.RowKit
theorem rNat.drew {w : World} {v : Value} {n : Nat} (h : rNat w v n) : rNat w.drew v n := h
set_option maxHeartbeats 2000000 in
theorem idiv_same (w : World) (A A2 : Option Addr) (c n c2 n2 : Nat) (s : Bool) (a b : Nat) (h1 : rNat w (.agg #[.slice A n c]) a) (h2 : rNat w (.agg #[.slice A2 n2 c2]) b) (f1 : Fit a) (f2 : Fit b) (hb : b ≠ 0) :
  Calls Tryz.prog 110 #[.agg #[.bool s, .slice A n c], .agg #[.bool s, .slice A2 n2 c2]] w (Post w fun r w' => DivTo w' r (sg false (a / b)) (sg s (a % b))) := by
 have HM := Lib.hid (fun W h h' => div_n W (.agg #[.slice A n c]) (.agg #[.slice A2 n2 c2]) a b h h' f1 f2)
 have HOX := Lib.hid (Own.new' ((w.alloc (.cells #[.bool s, .slice A n c] 30)).alloc (.cells #[.bool s, .slice A2 n2 c2] 30)) 30 IntCells (w.heap.size + 1 + 1) (by simp))
 have HOY := Lib.hid (Own.new' (((w.alloc (.cells #[.bool s, .slice A n c] 30)).alloc (.cells #[.bool s, .slice A2 n2 c2] 30)).alloc (.cells #[.bool false, .slice none 0 0] 30)) 30 IntCells (w.heap.size + 1 + 1 + 1) (by simp))
 have HD0 : Hid ((((((w.alloc (.cells #[.bool s, .slice A n c] 30)).alloc (.cells #[.bool s, .slice A2 n2 c2] 30)).alloc (.cells #[.bool false, .slice none 0 0] 30)).alloc (.cells #[.bool false, .slice none 0 0] 30)).cell? ⟨w.heap.size, 0, none⟩ = some (.bool s)) ∧
   (((((w.alloc (.cells #[.bool s, .slice A n c] 30)).alloc (.cells #[.bool s, .slice A2 n2 c2] 30)).alloc (.cells #[.bool false, .slice none 0 0] 30)).alloc (.cells #[.bool false, .slice none 0 0] 30)).cell? ⟨w.heap.size + 1, 0, none⟩ = some (.bool s)) ∧
   (((((w.alloc (.cells #[.bool s, .slice A n c] 30)).alloc (.cells #[.bool s, .slice A2 n2 c2] 30)).alloc (.cells #[.bool false, .slice none 0 0] 30)).alloc (.cells #[.bool false, .slice none 0 0] 30)).cell? ⟨w.heap.size + 1, 1, none⟩ = some (.slice A2 n2 c2))) := ⟨by go_simp, by go_simp, by go_simp⟩
 have H1 := Lib.hid h1
 have H2 := Lib.hid h2
 have HF := Lib.hid (fun W v z h => from_c W z v (a / b) h (Nat.le_trans (bl_mono (Nat.div_le_self a b)) f1))
 have HF2 := Lib.hid (fun W v z h => from_c W z v (a % b) h (Nat.le_trans (bl_mono (Nat.mod_le a b)) f1))
 have hss : (s != s) = false := by simp
 have HBZ := Lib.hid hb
 clear h1 h2 f1 f2 hb
 go_enter Tryz.func110, Tryz.ntmps110
 go_wp2_with fail
 refine (HM.out _ (H1.out.ext (by repeat (first | assumption | exact nB1 _ _ | refine nB2 ?_ | refine pw_below_drewN ?_ _ | refine nB3 ?_ (by first | omega | (simp <;> omega)) _ | refine nB4 ?_ (by first | omega | (simp <;> omega)) _ | refine nB5 ?_ (by assumption) (by first | omega | (simp <;> omega))))) (H2.out.ext (by repeat (first | assumption | exact nB1 _ _ | refine nB2 ?_ | refine pw_below_drewN ?_ _ | refine nB3 ?_ (by first | omega | (simp <;> omega)) _ | refine nB4 ?_ (by first | omega | (simp <;> omega)) _ | refine nB5 ?_ (by assumption) (by first | omega | (simp <;> omega)))))).mono ?_
 rintro e w1 ⟨v1, rfl, hb1, q, r, rfl, hq, hr⟩
 obtain ⟨A3, c3, n3, rfl, hq⟩ := hq.shape
 obtain ⟨A4, c4, n4, rfl, hr⟩ := hr.shape
 have HX := Lib.hid ((HOX.out.alloc _).ext hb1)
 have HY := Lib.hid (HOY.out.ext hb1)
 have HA0 := Lib.hid (ext_cell hb1 HD0.out.1)
 have HB0 := Lib.hid (ext_cell hb1 HD0.out.2.1)
 have HB1 := Lib.hid (ext_cell hb1 HD0.out.2.2)
 have HQ := Lib.hid hq
 have HR := Lib.hid hr
 have x1 := HX.out.lt
 have x2 := HY.out.lt
 have x3 : w.heap.size < w1.heap.size := by omega
 have x4 : w.heap.size + 1 < w1.heap.size := by omega
 have hbe1 : Below w.heap.size w w1 := (by repeat (first | assumption | exact nB1 _ _ | refine nB2 ?_ | refine pw_below_drewN ?_ _ | refine nB3 ?_ (by first | omega | (simp <;> omega)) _ | refine nB4 ?_ (by first | omega | (simp <;> omega)) _ | refine nB5 ?_ (by assumption) (by first | omega | (simp <;> omega))))
 rw [show decide (b ≠ 0) = true from decide_eq_true HBZ.out]
 clear hb1 hq hr HOX HOY HD0
 rw [if_neg HBZ.out] at HR
 have ya := HA0.out
 have yb := HB0.out
 go_wp2_with fail
 have HDV : Hid (Dv w.heap.size (w.heap.size + 1) w1.heap.size (w1.heap.size + 1) s s (.slice A2 n2 c2) (.slice A3 n3 c3) (.slice A4 n4 c4) ((w1.alloc (.cells #[.slice A3 n3 c3] 28)).alloc (.cells #[.slice A4 n4 c4] 28)).drew) := by
  have ya := HA0.out
  have yb := HB0.out
  have yc := HB1.out
  exact ⟨by go_simp, by go_simp, by go_simp, by go_simp, by go_simp⟩
 have HX2 := Lib.hid ((HX.out.alloc (.cells #[.slice A3 n3 c3] 28)).alloc (.cells #[.slice A4 n4 c4] 28)).drew
 have HY2 := Lib.hid ((HY.out.alloc (.cells #[.slice A3 n3 c3] 28)).alloc (.cells #[.slice A4 n4 c4] 28)).drew
 have HQ2 : Hid (rNat ((w1.alloc (.cells #[.slice A3 n3 c3] 28)).alloc (.cells #[.slice A4 n4 c4] 28)).drew (.agg #[.slice A3 n3 c3]) (a / b)) := Lib.hid (((HQ.out.ext (ext_alloc _ (.cells #[.slice A3 n3 c3] 28))).ext (ext_alloc _ (.cells #[.slice A4 n4 c4] 28))).drew)
 have HR2 : Hid (rNat ((w1.alloc (.cells #[.slice A3 n3 c3] 28)).alloc (.cells #[.slice A4 n4 c4] 28)).drew (.agg #[.slice A4 n4 c4]) (a % b)) := Lib.hid (((HR.out.ext (ext_alloc _ (.cells #[.slice A3 n3 c3] 28))).ext (ext_alloc _ (.cells #[.slice A4 n4 c4] 28))).drew)
 clear ya yb
 refine wp_hoist [(0, true), (1, true), (2, true), (3, true), (4, true), (5, true), (7, true), (8, true), (9, true), (6, false), (10, false), (11, false), (12, false), (13, false)] (Dv w.heap.size (w.heap.size + 1) w1.heap.size (w1.heap.size + 1) s s (.slice A2 n2 c2) (.slice A3 n3 c3) (.slice A4 n4 c4)) (by kernel_rfl) (by kernel_rfl) ?_ ?_
 · exact HDV.out
 refine hz_yes (v := ?_) rfl (by kernel_rfl) (fun W hW => ?_) ?_; rotate_left; (go_simp; try with_reducible rfl)
 (try (conv => arg 6; simp only [Act.put, gL]))
 refine hz_yes (v := ?_) rfl (by kernel_rfl) (fun W hW => ?_) ?_; rotate_left; (obtain ⟨y1, y2, y3, y4, y5⟩ := hW; go_simp; try with_reducible rfl)
 (try (conv => arg 6; simp only [Act.put, gL]))
 refine hz_yes (v := ?_) rfl (by kernel_rfl) (fun W hW => ?_) ?_; rotate_left; (go_simp; try with_reducible rfl)
 (try (conv => arg 6; simp only [Act.put, gL]))
 refine hz_yes (v := ?_) rfl (by kernel_rfl) (fun W hW => ?_) ?_; rotate_left; (obtain ⟨y1, y2, y3, y4, y5⟩ := hW; go_simp; try with_reducible rfl)
 (try (conv => arg 6; simp only [Act.put, gL]))
 refine hz_yes (v := ?_) rfl (by kernel_rfl) (fun W hW => ?_) ?_; rotate_left; (go_simp; try with_reducible rfl)
 (try (conv => arg 6; simp only [Act.put, gL]))
 refine hz_yes (v := ?_) rfl (by kernel_rfl) (fun W hW => ?_) ?_; rotate_left; (obtain ⟨y1, y2, y3, y4, y5⟩ := hW; go_simp; try with_reducible rfl)
 (try (conv => arg 6; simp only [Act.put, gL]))
 refine hz_yes (v := ?_) rfl (by kernel_rfl) (fun W hW => ?_) ?_; rotate_left; (go_simp; try with_reducible rfl)
 (try (conv => arg 6; simp only [Act.put, gL]))
 refine hz_yes (v := ?_) rfl (by kernel_rfl) (fun W hW => ?_) ?_; rotate_left; (obtain ⟨y1, y2, y3, y4, y5⟩ := hW; go_simp; try with_reducible rfl)
 (try (conv => arg 6; simp only [Act.put, gL]))
 refine hz_yes (v := ?_) rfl (by kernel_rfl) (fun W hW => ?_) ?_; rotate_left; (obtain ⟨y1, y2, y3, y4, y5⟩ := hW; go_simp; try with_reducible rfl)
 (try (conv => arg 6; simp only [Act.put, gL]))
 have hbw : Below w.heap.size w ((w1.alloc (.cells #[.slice A3 n3 c3] 28)).alloc (.cells #[.slice A4 n4 c4] 28)).drew := (by repeat (first | assumption | exact nB1 _ _ | refine nB2 ?_ | refine pw_below_drewN ?_ _ | refine nB3 ?_ (by first | omega | (simp <;> omega)) _ | refine nB4 ?_ (by first | omega | (simp <;> omega)) _ | refine nB5 ?_ (by assumption) (by first | omega | (simp <;> omega))))
 refine hz_eff rfl (by kernel_rfl) (fun K hK => ?_)
 go_simp
 refine (HF.out _ _ _ HQ2.out).mono ?_
 rintro e wq ⟨v1, rfl, hb1, hr1⟩
 refine hK.out _ _ ?_ ?_
 · exact HDV.out.ext hb1
 clear hK K
 (try (conv => arg 6; simp only [Act.put, gL]))
 have HDV1 := Lib.hid (HDV.out.ext hb1)
 have HR3 := Lib.hid (HR2.out.ext hb1)
 have HI1 := Lib.hid hr1
 have HX3 := Lib.hid (HX2.out.ext hb1)
 have HY3 := Lib.hid (HY2.out.ext hb1)
 have hbw1 := nT hbw hb1
 clear hb1 hr1 HDV HR2 HX2 HY2 HQ2 hbw
 refine hz_eff rfl (by kernel_rfl) (fun K hK => ?_)
 go_simp
 refine (HF2.out _ _ _ HR3.out).mono ?_
 rintro e wq ⟨v2, rfl, hb2, hr2⟩
 refine hK.out _ _ ?_ ?_
 · exact HDV1.out.ext hb2
 clear hK K
 (try (conv => arg 6; simp only [Act.put, gL]))
 have HDV2 := Lib.hid (HDV1.out.ext hb2)
 obtain ⟨sb1, A5, c5, n5, rfl, hi1⟩ := (HI1.out.ext hb2).shape
 obtain ⟨sb2, A6, c6, n6, rfl, hi2⟩ := hr2.shape
 have HI := Lib.hid hi1
 have HJ := Lib.hid hi2
 have HX := Lib.hid (HX3.out.ext hb2)
 have HY := Lib.hid (HY3.out.ext hb2)
 have hbw2 := Below.trans hbw1 (Below.mono hb2 hbw1.size)
 clear hb2 hr2 hi1 hi2 HDV1 HX3 HY3 HI1 hbw1
 have hq0 := HX.out.cell 0 _ rfl
 have hq1 := HX.out.cell 1 _ rfl
 have hf0 := HX.out.frozen 0
 have hf1 := HX.out.frozen 1
 have hr0 := HY.out.cell 0 _ rfl
 have hr1 := HY.out.cell 1 _ rfl
 have hg0 := HY.out.frozen 0
 have hg1 := HY.out.frozen 1
 refine hz_eff rfl (by kernel_rfl) (fun K hK => ?_)
 go_simp
 refine hK.out _ _ ?_ ?_
 · exact (HDV2.out.other _ (by simp <;> omega) (by simp <;> omega) (by simp <;> omega) (by simp <;> omega)).other _ (by simp <;> omega) (by simp <;> omega) (by simp <;> omega) (by simp <;> omega)
 clear hK K
 (try (conv => arg 6; simp only [Act.put, gL]))
 refine hz_eff rfl (by kernel_rfl) (fun K hK => ?_)
 go_simp
 refine hK.out _ _ ?_ ?_
 · exact (((HDV2.out.other _ (by simp <;> omega) (by simp <;> omega) (by simp <;> omega) (by simp <;> omega)).other _ (by simp <;> omega) (by simp <;> omega) (by simp <;> omega) (by simp <;> omega)).other _ (by simp <;> omega) (by simp <;> omega) (by simp <;> omega) (by simp <;> omega)).other _ (by simp <;> omega) (by simp <;> omega) (by simp <;> omega) (by simp <;> omega)
 clear hK K
 (try (conv => arg 6; simp only [Act.put, gL]))
 refine hz_eff rfl (by kernel_rfl) (fun K hK => ?_)
 go_simp
 refine hK.out _ _ ?_ ?_
 · exact (((HDV2.out.other _ (by simp <;> omega) (by simp <;> omega) (by simp <;> omega) (by simp <;> omega)).other _ (by simp <;> omega) (by simp <;> omega) (by simp <;> omega) (by simp <;> omega)).other _ (by simp <;> omega) (by simp <;> omega) (by simp <;> omega) (by simp <;> omega)).other _ (by simp <;> omega) (by simp <;> omega) (by simp <;> omega) (by simp <;> omega)
 clear hK K
 (try (conv => arg 6; simp only [Act.put, gL]))
 refine hz_nil ?_
 go_wp2
 obtain ⟨⟨k1, k2, k3, k4⟩, kI⟩ := four_cells (x := .bool sb1) (y := .slice A5 n5 c5) (x' := .bool sb2) (y' := .slice A6 n6 c6) HX.out HY.out (by omega) rfl rfl rfl rfl _ rfl
 refine bodyPost_ret (v := .tuple #[.agg #[.bool sb1, .slice A5 n5 c5], .agg #[.bool sb2, .slice A6 n6 c6], .bool true]) (by simp [results, Tryz.results110, go_sem, k1, k2, k3, k4]) rfl ⟨_, rfl, (by repeat (first | assumption | exact nB1 _ _ | refine nB2 ?_ | refine pw_below_drewN ?_ _ | refine nB3 ?_ (by first | omega | (simp <;> omega)) _ | refine nB4 ?_ (by first | omega | (simp <;> omega)) _ | refine nB5 ?_ (by assumption) (by first | omega | (simp <;> omega)))), _, _, rfl, kI _ _ HI.out, kI _ _ HJ.out⟩
end Go.Proofs.YtadpjidakippeaaGreat

/- whole.Int: division, downward: signs apart. -/
namespace Go.Proofs.YtadpjidakippeaaGreat
open Go.RowKit
set_option maxHeartbeats 2000000 in
theorem idiv_zero (w : World) (A A2 : Option Addr) (c n c2 n2 : Nat) (s1 s2 : Bool) (a b : Nat) (h1 : rNat w (.agg #[.slice A n c]) a) (h2 : rNat w (.agg #[.slice A2 n2 c2]) b) (f1 : Fit a) (f2 : Fit b) (hb : b ≠ 0) (hs : (s1 != s2) = true) (hr : a % b = 0) :
  Calls Tryz.prog 110 #[.agg #[.bool s1, .slice A n c], .agg #[.bool s2, .slice A2 n2 c2]] w (Post w fun r w' => DivTo w' r (sg true (a / b)) (sg s2 (a % b))) := by
 have HM := Lib.hid (fun W h h' => div_n W (.agg #[.slice A n c]) (.agg #[.slice A2 n2 c2]) a b h h' f1 f2)
 have HOX := Lib.hid (Own.new' ((w.alloc (.cells #[.bool s1, .slice A n c] 30)).alloc (.cells #[.bool s2, .slice A2 n2 c2] 30)) 30 IntCells (w.heap.size + 1 + 1) (by simp))
 have HOY := Lib.hid (Own.new' (((w.alloc (.cells #[.bool s1, .slice A n c] 30)).alloc (.cells #[.bool s2, .slice A2 n2 c2] 30)).alloc (.cells #[.bool false, .slice none 0 0] 30)) 30 IntCells (w.heap.size + 1 + 1 + 1) (by simp))
 have HD0 : Hid ((((((w.alloc (.cells #[.bool s1, .slice A n c] 30)).alloc (.cells #[.bool s2, .slice A2 n2 c2] 30)).alloc (.cells #[.bool false, .slice none 0 0] 30)).alloc (.cells #[.bool false, .slice none 0 0] 30)).cell? ⟨w.heap.size, 0, none⟩ = some (.bool s1)) ∧
   (((((w.alloc (.cells #[.bool s1, .slice A n c] 30)).alloc (.cells #[.bool s2, .slice A2 n2 c2] 30)).alloc (.cells #[.bool false, .slice none 0 0] 30)).alloc (.cells #[.bool false, .slice none 0 0] 30)).cell? ⟨w.heap.size + 1, 0, none⟩ = some (.bool s2)) ∧
   (((((w.alloc (.cells #[.bool s1, .slice A n c] 30)).alloc (.cells #[.bool s2, .slice A2 n2 c2] 30)).alloc (.cells #[.bool false, .slice none 0 0] 30)).alloc (.cells #[.bool false, .slice none 0 0] 30)).cell? ⟨w.heap.size + 1, 1, none⟩ = some (.slice A2 n2 c2))) := ⟨by go_simp, by go_simp, by go_simp⟩
 have H1 := Lib.hid h1
 have H2 := Lib.hid h2
 have HF := Lib.hid (fun W v z h => from_c W z v (a / b) h (Nat.le_trans (bl_mono (Nat.div_le_self a b)) f1))
 have HF2 := Lib.hid (fun W v z h => from_c W z v (a % b) h (Nat.le_trans (bl_mono (Nat.mod_le a b)) f1))
 have HBT := Lib.hid (fun W v h => bits_c W v (a % b) h (Nat.le_trans (bl_mono (Nat.mod_le a b)) f1))
 have hs3 : (s1 == s2) = false := by cases s1 <;> cases s2 <;> first | rfl | exact absurd hs (by decide)
 have hs4 : s1 ≠ s2 := by cases s1 <;> cases s2 <;> first | decide | exact absurd hs (by decide)
 have hs5 : (s1 ^^ s2) = true := hs
 have HBZ := Lib.hid hb
 have HRZ := Lib.hid (show bl (a % b) = 0 by rw [hr]; rfl)
 clear h1 h2 f1 f2 hb hr
 go_enter Tryz.func110, Tryz.ntmps110
 go_wp2_with fail
 refine (HM.out _ (H1.out.ext (by repeat (first | assumption | exact nB1 _ _ | refine nB2 ?_ | refine pw_below_drewN ?_ _ | refine nB3 ?_ (by first | omega | (simp <;> omega)) _ | refine nB4 ?_ (by first | omega | (simp <;> omega)) _ | refine nB5 ?_ (by assumption) (by first | omega | (simp <;> omega))))) (H2.out.ext (by repeat (first | assumption | exact nB1 _ _ | refine nB2 ?_ | refine pw_below_drewN ?_ _ | refine nB3 ?_ (by first | omega | (simp <;> omega)) _ | refine nB4 ?_ (by first | omega | (simp <;> omega)) _ | refine nB5 ?_ (by assumption) (by first | omega | (simp <;> omega)))))).mono ?_
 rintro e w1 ⟨v1, rfl, hb1, q, r, rfl, hq, hr⟩
 obtain ⟨A3, c3, n3, rfl, hq⟩ := hq.shape
 obtain ⟨A4, c4, n4, rfl, hr⟩ := hr.shape
 have HX := Lib.hid ((HOX.out.alloc _).ext hb1)
 have HY := Lib.hid (HOY.out.ext hb1)
 have HA0 := Lib.hid (ext_cell hb1 HD0.out.1)
 have HB0 := Lib.hid (ext_cell hb1 HD0.out.2.1)
 have HB1 := Lib.hid (ext_cell hb1 HD0.out.2.2)
 have HQ := Lib.hid hq
 have HR := Lib.hid hr
 have x1 := HX.out.lt
 have x2 := HY.out.lt
 have x3 : w.heap.size < w1.heap.size := by omega
 have x4 : w.heap.size + 1 < w1.heap.size := by omega
 have hbe1 : Below w.heap.size w w1 := (by repeat (first | assumption | exact nB1 _ _ | refine nB2 ?_ | refine pw_below_drewN ?_ _ | refine nB3 ?_ (by first | omega | (simp <;> omega)) _ | refine nB4 ?_ (by first | omega | (simp <;> omega)) _ | refine nB5 ?_ (by assumption) (by first | omega | (simp <;> omega))))
 rw [show decide (b ≠ 0) = true from decide_eq_true HBZ.out]
 clear hb1 hq hr HOX HOY HD0
 rw [if_neg HBZ.out] at HR
 have ya := HA0.out
 have yb := HB0.out
 have yc := HB1.out
 have HDV0 : Hid (Dv w.heap.size (w.heap.size + 1) w1.heap.size (w1.heap.size + 1) s1 s2 (.slice A2 n2 c2) (.slice A3 n3 c3) (.slice A4 n4 c4) ((w1.alloc (.cells #[.slice A3 n3 c3] 28)).alloc (.cells #[.slice A4 n4 c4] 28))) := ⟨by go_simp, by go_simp, by go_simp, by go_simp, by go_simp⟩
 have HX0 := Lib.hid ((HX.out.alloc (.cells #[.slice A3 n3 c3] 28)).alloc (.cells #[.slice A4 n4 c4] 28))
 have HY0 := Lib.hid ((HY.out.alloc (.cells #[.slice A3 n3 c3] 28)).alloc (.cells #[.slice A4 n4 c4] 28))
 have HN0 := Lib.hid ((Own.new w1 28 [.slice A3 n3 c3]).alloc (.cells #[.slice A4 n4 c4] 28))
 have HL0 := Lib.hid (Own.new' (w1.alloc (.cells #[.slice A3 n3 c3] 28)) 28 [.slice A4 n4 c4] (w1.heap.size + 1) (by simp))
 have HQ0 : Hid (rNat ((w1.alloc (.cells #[.slice A3 n3 c3] 28)).alloc (.cells #[.slice A4 n4 c4] 28)) (.agg #[.slice A3 n3 c3]) (a / b)) := Lib.hid ((HQ.out.ext (ext_alloc _ (.cells #[.slice A3 n3 c3] 28))).ext (ext_alloc _ (.cells #[.slice A4 n4 c4] 28)))
 have HR0 : Hid (rNat ((w1.alloc (.cells #[.slice A3 n3 c3] 28)).alloc (.cells #[.slice A4 n4 c4] 28)) (.agg #[.slice A4 n4 c4]) (a % b)) := Lib.hid ((HR.out.ext (ext_alloc _ (.cells #[.slice A3 n3 c3] 28))).ext (ext_alloc _ (.cells #[.slice A4 n4 c4] 28)))
 have hbw0 : Below w.heap.size w ((w1.alloc (.cells #[.slice A3 n3 c3] 28)).alloc (.cells #[.slice A4 n4 c4] 28)) := (by repeat (first | assumption | exact nB1 _ _ | refine nB2 ?_ | refine pw_below_drewN ?_ _ | refine nB3 ?_ (by first | omega | (simp <;> omega)) _ | refine nB4 ?_ (by first | omega | (simp <;> omega)) _ | refine nB5 ?_ (by assumption) (by first | omega | (simp <;> omega))))
 have hsz0 := hbw0.size
 have HXL := Lib.hid HX.out.lt
 have HYL := Lib.hid HY.out.lt
 clear HX HY HQ HR
 go_wp2_with fail
 refine (HBT.out _ _ HR0.out).mono ?_
 rintro e w2 ⟨v0, rfl, hb0, rfl⟩
 rw [HRZ.out]
 have HDV : Hid (Dv w.heap.size (w.heap.size + 1) w1.heap.size (w1.heap.size + 1) s1 s2 (.slice A2 n2 c2) (.slice A3 n3 c3) (.slice A4 n4 c4) w2.drew) := Lib.hid (HDV0.out.ext (Below.drew hb0))
 have HX2 := Lib.hid ((HX0.out.ext hb0).drew)
 have HY2 := Lib.hid ((HY0.out.ext hb0).drew)
 have HQ2 := Lib.hid ((HQ0.out.ext hb0).drew)
 have HR2 := Lib.hid ((HR0.out.ext hb0).drew)
 have hbw : Below w.heap.size w w2.drew := (Below.trans hbw0 (Below.mono hb0 hsz0)).drew
 clear hb0 HDV0 HX0 HY0 HQ0 HR0 HN0 HL0 hbw0 ya yb yc
 go_wp2_with fail
 refine wp_hoist [(0, true), (1, true), (2, true), (3, true), (4, true), (5, true), (7, true), (8, true), (9, true), (6, false), (10, false), (11, false), (12, false), (13, false)] (Dv w.heap.size (w.heap.size + 1) w1.heap.size (w1.heap.size + 1) s1 s2 (.slice A2 n2 c2) (.slice A3 n3 c3) (.slice A4 n4 c4)) (by kernel_rfl) (by kernel_rfl) ?_ ?_
 · exact HDV.out
 refine hz_yes (v := ?_) rfl (by kernel_rfl) (fun W hW => ?_) ?_; rotate_left; (go_simp; try with_reducible rfl)
 (try (conv => arg 6; simp only [Act.put, gL]))
 refine hz_yes (v := ?_) rfl (by kernel_rfl) (fun W hW => ?_) ?_; rotate_left; (obtain ⟨y1, y2, y3, y4, y5⟩ := hW; go_simp; try with_reducible rfl)
 (try (conv => arg 6; simp only [Act.put, gL]))
 refine hz_yes (v := ?_) rfl (by kernel_rfl) (fun W hW => ?_) ?_; rotate_left; (go_simp; try with_reducible rfl)
 (try (conv => arg 6; simp only [Act.put, gL]))
 refine hz_yes (v := ?_) rfl (by kernel_rfl) (fun W hW => ?_) ?_; rotate_left; (obtain ⟨y1, y2, y3, y4, y5⟩ := hW; go_simp; try with_reducible rfl)
 (try (conv => arg 6; simp only [Act.put, gL]))
 refine hz_yes (v := ?_) rfl (by kernel_rfl) (fun W hW => ?_) ?_; rotate_left; (go_simp; try with_reducible rfl)
 (try (conv => arg 6; simp only [Act.put, gL]))
 refine hz_yes (v := ?_) rfl (by kernel_rfl) (fun W hW => ?_) ?_; rotate_left; (obtain ⟨y1, y2, y3, y4, y5⟩ := hW; go_simp; try with_reducible rfl)
 (try (conv => arg 6; simp only [Act.put, gL]))
 refine hz_yes (v := ?_) rfl (by kernel_rfl) (fun W hW => ?_) ?_; rotate_left; (go_simp; try with_reducible rfl)
 (try (conv => arg 6; simp only [Act.put, gL]))
 refine hz_yes (v := ?_) rfl (by kernel_rfl) (fun W hW => ?_) ?_; rotate_left; (obtain ⟨y1, y2, y3, y4, y5⟩ := hW; go_simp; try with_reducible rfl)
 (try (conv => arg 6; simp only [Act.put, gL]))
 refine hz_yes (v := ?_) rfl (by kernel_rfl) (fun W hW => ?_) ?_; rotate_left; (obtain ⟨y1, y2, y3, y4, y5⟩ := hW; go_simp; try with_reducible rfl)
 (try (conv => arg 6; simp only [Act.put, gL]))
 refine hz_eff rfl (by kernel_rfl) (fun K hK => ?_)
 go_simp
 refine (HF.out _ _ _ HQ2.out).mono ?_
 rintro e wq ⟨v1, rfl, hb1, hr1⟩
 refine hK.out _ _ ?_ ?_
 · exact HDV.out.ext hb1
 clear hK K
 (try (conv => arg 6; simp only [Act.put, gL]))
 have HDV1 := Lib.hid (HDV.out.ext hb1)
 have HR3 := Lib.hid (HR2.out.ext hb1)
 have HI1 := Lib.hid hr1
 have HX3 := Lib.hid (HX2.out.ext hb1)
 have HY3 := Lib.hid (HY2.out.ext hb1)
 have hbw1 := nT hbw hb1
 clear hb1 hr1 HDV HR2 HX2 HY2 HQ2 hbw
 refine hz_eff rfl (by kernel_rfl) (fun K hK => ?_)
 go_simp
 refine (HF2.out _ _ _ HR3.out).mono ?_
 rintro e wq ⟨v2, rfl, hb2, hr2⟩
 refine hK.out _ _ ?_ ?_
 · exact HDV1.out.ext hb2
 clear hK K
 (try (conv => arg 6; simp only [Act.put, gL]))
 have HDV2 := Lib.hid (HDV1.out.ext hb2)
 obtain ⟨sb1, A5, c5, n5, rfl, hi1⟩ := (HI1.out.ext hb2).shape
 obtain ⟨sb2, A6, c6, n6, rfl, hi2⟩ := hr2.shape
 have HI := Lib.hid hi1
 have HJ := Lib.hid hi2
 have HX := Lib.hid (HX3.out.ext hb2)
 have HY := Lib.hid (HY3.out.ext hb2)
 have hbw2 := Below.trans hbw1 (Below.mono hb2 hbw1.size)
 clear hb2 hr2 hi1 hi2 HDV1 HX3 HY3 HI1 hbw1
 have hq0 := HX.out.cell 0 _ rfl
 have hq1 := HX.out.cell 1 _ rfl
 have hf0 := HX.out.frozen 0
 have hf1 := HX.out.frozen 1
 have hr0 := HY.out.cell 0 _ rfl
 have hr1 := HY.out.cell 1 _ rfl
 have hg0 := HY.out.frozen 0
 have hg1 := HY.out.frozen 1
 refine hz_eff rfl (by kernel_rfl) (fun K hK => ?_)
 go_simp
 refine hK.out _ _ ?_ ?_
 · exact (HDV2.out.other _ (by simp <;> omega) (by simp <;> omega) (by simp <;> omega) (by simp <;> omega)).other _ (by simp <;> omega) (by simp <;> omega) (by simp <;> omega) (by simp <;> omega)
 clear hK K
 (try (conv => arg 6; simp only [Act.put, gL]))
 refine hz_eff rfl (by kernel_rfl) (fun K hK => ?_)
 go_simp
 refine hK.out _ _ ?_ ?_
 · exact (((HDV2.out.other _ (by simp <;> omega) (by simp <;> omega) (by simp <;> omega) (by simp <;> omega)).other _ (by simp <;> omega) (by simp <;> omega) (by simp <;> omega) (by simp <;> omega)).other _ (by simp <;> omega) (by simp <;> omega) (by simp <;> omega) (by simp <;> omega)).other _ (by simp <;> omega) (by simp <;> omega) (by simp <;> omega) (by simp <;> omega)
 clear hK K
 (try (conv => arg 6; simp only [Act.put, gL]))
 refine hz_eff rfl (by kernel_rfl) (fun K hK => ?_)
 go_simp
 refine hK.out _ _ ?_ ?_
 · exact (((HDV2.out.other _ (by simp <;> omega) (by simp <;> omega) (by simp <;> omega) (by simp <;> omega)).other _ (by simp <;> omega) (by simp <;> omega) (by simp <;> omega) (by simp <;> omega)).other _ (by simp <;> omega) (by simp <;> omega) (by simp <;> omega) (by simp <;> omega)).other _ (by simp <;> omega) (by simp <;> omega) (by simp <;> omega) (by simp <;> omega)
 clear hK K
 (try (conv => arg 6; simp only [Act.put, gL]))
 refine hz_nil ?_
 go_wp2
 obtain ⟨⟨k1, k2, k3, k4⟩, kI⟩ := four_cells (x := .bool sb1) (y := .slice A5 n5 c5) (x' := .bool sb2) (y' := .slice A6 n6 c6) HX.out HY.out (by omega) rfl rfl rfl rfl _ rfl
 refine bodyPost_ret (v := .tuple #[.agg #[.bool sb1, .slice A5 n5 c5], .agg #[.bool sb2, .slice A6 n6 c6], .bool true]) (by simp [results, Tryz.results110, go_sem, k1, k2, k3, k4]) rfl ⟨_, rfl, (by repeat (first | assumption | exact nB1 _ _ | refine nB2 ?_ | refine pw_below_drewN ?_ _ | refine nB3 ?_ (by first | omega | (simp <;> omega)) _ | refine nB4 ?_ (by first | omega | (simp <;> omega)) _ | refine nB5 ?_ (by assumption) (by first | omega | (simp <;> omega)))), _, _, rfl, kI _ _ HI.out, kI _ _ HJ.out⟩
end Go.Proofs.YtadpjidakippeaaGreat

/- whole.Int: division, downward: signs apart, something left. -/
namespace Go.Proofs.YtadpjidakippeaaGreat
open Go.RowKit
theorem Dv.setn {a b n l : Nat} {s1 s2 : Bool} {vb vn vl : Value} {W : World} (h : Dv a b n l s1 s2 vb vn vl W) (v : Value) {t : TypeId} {c : Value} (ho : Own W n t [c]) (h1 : n ≠ a) (h2 : n ≠ b) (h4 : n ≠ l) : Dv a b n l s1 s2 vb v vl (W.setCell ⟨n, 0, none⟩ v) :=
 ⟨(nC _ _ _ _ (fun e => h1 (congrArg Addr.block e))).trans h.a0, (nC _ _ _ _ (fun e => h2 (congrArg Addr.block e))).trans h.b0,
  (nC _ _ _ _ (fun e => h2 (congrArg Addr.block e))).trans h.b1, (ho.set 0 v).cell 0 v rfl,
  (nC _ _ _ _ (fun e => h4 (congrArg Addr.block e))).trans h.l0⟩
theorem Dv.setl {a b n l : Nat} {s1 s2 : Bool} {vb vn vl : Value} {W : World} (h : Dv a b n l s1 s2 vb vn vl W) (v : Value) {t : TypeId} {c : Value} (ho : Own W l t [c]) (h1 : l ≠ a) (h2 : l ≠ b) (h4 : l ≠ n) : Dv a b n l s1 s2 vb vn v (W.setCell ⟨l, 0, none⟩ v) :=
 ⟨(nC _ _ _ _ (fun e => h1 (congrArg Addr.block e))).trans h.a0, (nC _ _ _ _ (fun e => h2 (congrArg Addr.block e))).trans h.b0,
  (nC _ _ _ _ (fun e => h2 (congrArg Addr.block e))).trans h.b1, (nC _ _ _ _ (fun e => h4 (congrArg Addr.block e))).trans h.n0,
  (ho.set 0 v).cell 0 v rfl⟩
theorem But.of_own {X : Nat} {w : World} (i : Nat) (v : Value) : But X w (w.setCell ⟨X, i, none⟩ v) := (But.refl X w).set i v
set_option maxHeartbeats 4000000 in
theorem idiv_more (w : World) (A A2 : Option Addr) (c n c2 n2 : Nat) (s1 s2 : Bool) (a b : Nat) (h1 : rNat w (.agg #[.slice A n c]) a) (h2 : rNat w (.agg #[.slice A2 n2 c2]) b) (f1 : bl a ≤ 35184372088831) (f2 : bl b ≤ 35184372088831) (hb : b ≠ 0) (hs : (s1 != s2) = true) (hr : a % b ≠ 0) :
  Calls Tryz.prog 110 #[.agg #[.bool s1, .slice A n c], .agg #[.bool s2, .slice A2 n2 c2]] w (Post w fun r w' => DivTo w' r (sg true (a / b + 1)) (sg s2 (b - a % b))) := by
 have fa : Fit a := Nat.le_trans f1 (by omega)
 have fb : Fit b := Nat.le_trans f2 (by omega)
 have fq : bl (a / b) ≤ 35184372088831 := Nat.le_trans (bl_mono (Nat.div_le_self a b)) f1
 have fr : Fit (a % b) := Nat.le_trans (bl_mono (Nat.mod_le a b)) fa
 have HM := Lib.hid (fun W h h' => div_n W (.agg #[.slice A n c]) (.agg #[.slice A2 n2 c2]) a b h h' fa fb)
 have HOX := Lib.hid (Own.new' ((w.alloc (.cells #[.bool s1, .slice A n c] 30)).alloc (.cells #[.bool s2, .slice A2 n2 c2] 30)) 30 IntCells (w.heap.size + 1 + 1) (by simp))
 have HOY := Lib.hid (Own.new' (((w.alloc (.cells #[.bool s1, .slice A n c] 30)).alloc (.cells #[.bool s2, .slice A2 n2 c2] 30)).alloc (.cells #[.bool false, .slice none 0 0] 30)) 30 IntCells (w.heap.size + 1 + 1 + 1) (by simp))
 have HD0 : Hid ((((((w.alloc (.cells #[.bool s1, .slice A n c] 30)).alloc (.cells #[.bool s2, .slice A2 n2 c2] 30)).alloc (.cells #[.bool false, .slice none 0 0] 30)).alloc (.cells #[.bool false, .slice none 0 0] 30)).cell? ⟨w.heap.size, 0, none⟩ = some (.bool s1)) ∧
   (((((w.alloc (.cells #[.bool s1, .slice A n c] 30)).alloc (.cells #[.bool s2, .slice A2 n2 c2] 30)).alloc (.cells #[.bool false, .slice none 0 0] 30)).alloc (.cells #[.bool false, .slice none 0 0] 30)).cell? ⟨w.heap.size + 1, 0, none⟩ = some (.bool s2)) ∧
   (((((w.alloc (.cells #[.bool s1, .slice A n c] 30)).alloc (.cells #[.bool s2, .slice A2 n2 c2] 30)).alloc (.cells #[.bool false, .slice none 0 0] 30)).alloc (.cells #[.bool false, .slice none 0 0] 30)).cell? ⟨w.heap.size + 1, 1, none⟩ = some (.slice A2 n2 c2))) := ⟨by go_simp, by go_simp, by go_simp⟩
 have H1 := Lib.hid h1
 have H2 := Lib.hid h2
 have f1b : bl 1 ≤ 35184372088831 := by decide
 have HF := Lib.hid (fun W v z h => from_c W z v (a / b + 1) h (Fit.add fq f1b))
 have HF2 := Lib.hid (fun W v z h => from_c W z v (b - a % b) h (Nat.le_trans (bl_sub f2) (by omega)))
 have HBT := Lib.hid (fun W v h => bits_c W v (a % b) h fr)
 have HOF := Lib.hid (fun W => of_c 1 (by decide) W)
 have HAD := Lib.hid (fun W v u h h' => add_n W v u (a / b) 1 h h' (Nat.le_trans fq (by omega)) (Nat.le_trans f1b (by omega)))
 have HSB := Lib.hid (fun W v u h h' => sub_n W v u b (a % b) h h' fb fr)
 have hs3 : (s1 == s2) = false := by cases s1 <;> cases s2 <;> first | rfl | exact absurd hs (by decide)
 have hs4 : s1 ≠ s2 := by cases s1 <;> cases s2 <;> first | decide | exact absurd hs (by decide)
 have hs5 : (s1 ^^ s2) = true := hs
 have HBZ := Lib.hid hb
 obtain ⟨k, ek⟩ : ∃ k, bl (a % b) = k := ⟨_, rfl⟩
 have hk : 0 < k := by rw [← ek]; exact bl_pos.2 hr
 have EK := Lib.hid ek
 have hki : (0 : Int) < (k : Int) := by omega
 clear h1 fa fb fq fr f1b hb hr ek f1 f2
 go_enter Tryz.func110, Tryz.ntmps110
 go_wp2_with fail
 refine (HM.out _ (H1.out.ext (by repeat (first | assumption | exact nB1 _ _ | refine nB2 ?_ | refine pw_below_drewN ?_ _ | refine nB3 ?_ (by first | omega | (simp <;> omega)) _ | refine nB4 ?_ (by first | omega | (simp <;> omega)) _ | refine nB5 ?_ (by assumption) (by first | omega | (simp <;> omega))))) (H2.out.ext (by repeat (first | assumption | exact nB1 _ _ | refine nB2 ?_ | refine pw_below_drewN ?_ _ | refine nB3 ?_ (by first | omega | (simp <;> omega)) _ | refine nB4 ?_ (by first | omega | (simp <;> omega)) _ | refine nB5 ?_ (by assumption) (by first | omega | (simp <;> omega)))))).mono ?_
 rintro e w1 ⟨v1, rfl, hb1, q, r, rfl, hq, hr⟩
 obtain ⟨A3, c3, n3, rfl, hq⟩ := hq.shape
 obtain ⟨A4, c4, n4, rfl, hr⟩ := hr.shape
 have HX := Lib.hid ((HOX.out.alloc _).ext hb1)
 have HY := Lib.hid (HOY.out.ext hb1)
 have HA0 := Lib.hid (ext_cell hb1 HD0.out.1)
 have HB0 := Lib.hid (ext_cell hb1 HD0.out.2.1)
 have HB1 := Lib.hid (ext_cell hb1 HD0.out.2.2)
 have HQ := Lib.hid hq
 have HR := Lib.hid hr
 have x1 := HX.out.lt
 have x2 := HY.out.lt
 have x3 : w.heap.size < w1.heap.size := by omega
 have x4 : w.heap.size + 1 < w1.heap.size := by omega
 have hbe1 : Below w.heap.size w w1 := (by repeat (first | assumption | exact nB1 _ _ | refine nB2 ?_ | refine pw_below_drewN ?_ _ | refine nB3 ?_ (by first | omega | (simp <;> omega)) _ | refine nB4 ?_ (by first | omega | (simp <;> omega)) _ | refine nB5 ?_ (by assumption) (by first | omega | (simp <;> omega))))
 rw [show decide (b ≠ 0) = true from decide_eq_true HBZ.out]
 clear hb1 hq hr HOX HOY HD0
 rw [if_neg HBZ.out] at HR
 have ya := HA0.out
 have yb := HB0.out
 have yc := HB1.out
 have HDV0 : Hid (Dv w.heap.size (w.heap.size + 1) w1.heap.size (w1.heap.size + 1) s1 s2 (.slice A2 n2 c2) (.slice A3 n3 c3) (.slice A4 n4 c4) ((w1.alloc (.cells #[.slice A3 n3 c3] 28)).alloc (.cells #[.slice A4 n4 c4] 28))) := ⟨by go_simp, by go_simp, by go_simp, by go_simp, by go_simp⟩
 have HX0 := Lib.hid ((HX.out.alloc (.cells #[.slice A3 n3 c3] 28)).alloc (.cells #[.slice A4 n4 c4] 28))
 have HY0 := Lib.hid ((HY.out.alloc (.cells #[.slice A3 n3 c3] 28)).alloc (.cells #[.slice A4 n4 c4] 28))
 have HN0 := Lib.hid ((Own.new w1 28 [.slice A3 n3 c3]).alloc (.cells #[.slice A4 n4 c4] 28))
 have HL0 := Lib.hid (Own.new' (w1.alloc (.cells #[.slice A3 n3 c3] 28)) 28 [.slice A4 n4 c4] (w1.heap.size + 1) (by simp))
 have HQ0 : Hid (rNat ((w1.alloc (.cells #[.slice A3 n3 c3] 28)).alloc (.cells #[.slice A4 n4 c4] 28)) (.agg #[.slice A3 n3 c3]) (a / b)) := Lib.hid ((HQ.out.ext (ext_alloc _ (.cells #[.slice A3 n3 c3] 28))).ext (ext_alloc _ (.cells #[.slice A4 n4 c4] 28)))
 have HR0 : Hid (rNat ((w1.alloc (.cells #[.slice A3 n3 c3] 28)).alloc (.cells #[.slice A4 n4 c4] 28)) (.agg #[.slice A4 n4 c4]) (a % b)) := Lib.hid ((HR.out.ext (ext_alloc _ (.cells #[.slice A3 n3 c3] 28))).ext (ext_alloc _ (.cells #[.slice A4 n4 c4] 28)))
 have hbw0 : Below w.heap.size w ((w1.alloc (.cells #[.slice A3 n3 c3] 28)).alloc (.cells #[.slice A4 n4 c4] 28)) := (by repeat (first | assumption | exact nB1 _ _ | refine nB2 ?_ | refine pw_below_drewN ?_ _ | refine nB3 ?_ (by first | omega | (simp <;> omega)) _ | refine nB4 ?_ (by first | omega | (simp <;> omega)) _ | refine nB5 ?_ (by assumption) (by first | omega | (simp <;> omega))))
 have hsz0 := hbw0.size
 have HXL := Lib.hid HX.out.lt
 have HYL := Lib.hid HY.out.lt
 clear HX HY HQ HR
 go_wp2_with fail
 refine (HBT.out _ _ HR0.out).mono ?_
 rintro e w2 ⟨v0, rfl, hb0, rfl⟩
 rw [EK.out]
 have hb0' := Below.drew hb0
 have HDV : Hid (Dv w.heap.size (w.heap.size + 1) w1.heap.size (w1.heap.size + 1) s1 s2 (.slice A2 n2 c2) (.slice A3 n3 c3) (.slice A4 n4 c4) w2.drew) := Lib.hid (HDV0.out.ext hb0')
 have HX2 := Lib.hid ((HX0.out.ext hb0).drew)
 have HY2 := Lib.hid ((HY0.out.ext hb0).drew)
 have HN2 := Lib.hid ((HN0.out.ext hb0).drew)
 have HL2 := Lib.hid ((HL0.out.ext hb0).drew)
 have HQ2 := Lib.hid ((HQ0.out.ext hb0).drew)
 have HR2 := Lib.hid ((HR0.out.ext hb0).drew)
 have H22 := Lib.hid ((H2.out.ext hbw0).ext hb0')
 have hbw : Below w.heap.size w w2.drew := (Below.trans hbw0 (Below.mono hb0 hsz0)).drew
 clear hb0 hb0' HDV0 HX0 HY0 HQ0 HR0 HN0 HL0 hbw0 ya yb yc
 go_wp2_with fail
 refine wp_hoistL [(0, true), (1, false), (2, false), (3, false)] 3 (Dv w.heap.size (w.heap.size + 1) w1.heap.size (w1.heap.size + 1) s1 s2 (.slice A2 n2 c2) (.slice A3 n3 c3) (.slice A4 n4 c4)) (by kernel_rfl) (by kernel_rfl) ?_ ?_
 · exact HDV.out
 refine hl_yes (v := ?_) rfl (by kernel_rfl) (fun W hW => ?_) ?_; rotate_left; (obtain ⟨y1, y2, y3, y4, y5⟩ := hW; go_simp; try with_reducible rfl)
 (try simp only [Act.put, gL])
 refine hl_eff rfl (by kernel_rfl) (fun K hK => ?_)
 go_simp
 refine (HOF.out _).mono ?_
 rintro e wq ⟨v1, rfl, hb1, hr1⟩
 refine hK.out _ _ ?_ ?_
 · exact HDV.out.ext hb1
 clear hK K
 (try simp only [Act.put, gL])
 refine hl_eff rfl (by kernel_rfl) (fun K hK => ?_)
 go_simp
 refine (HAD.out _ _ _ (HQ2.out.ext hb1) hr1).mono ?_
 rintro e wq ⟨v2, rfl, hb2, hr2⟩
 refine hK.out _ _ ?_ ?_
 · exact (HDV.out.ext hb1).ext hb2
 clear hK K
 (try simp only [Act.put, gL])
 obtain ⟨A5, c5, n5, rfl, hr2⟩ := hr2.shape
 have hn1 := (HN2.out.ext hb1).ext hb2
 have hnc := hn1.cell 0 _ rfl
 have hnf := hn1.frozen 0
 refine hl_last rfl (by kernel_rfl) (fun K hK => ?_)
 go_simp
 refine hK.out _ _ ?_
 clear hK K
 (try simp only [Act.put, gL])
 have HN3 := Lib.hid (hn1.set 0 (.slice A5 n5 c5))
 have HDV3 := Lib.hid (((HDV.out.ext hb1).ext hb2).setn (.slice A5 n5 c5) hn1 (by omega) (by omega) (by omega))
 have HX3 := Lib.hid (((HX2.out.ext hb1).ext hb2).other (p := ⟨w1.heap.size, 0, none⟩) (.slice A5 n5 c5) (by simp <;> omega))
 have HY3 := Lib.hid (((HY2.out.ext hb1).ext hb2).other (p := ⟨w1.heap.size, 0, none⟩) (.slice A5 n5 c5) (by simp <;> omega))
 have HL3 := Lib.hid (((HL2.out.ext hb1).ext hb2).other (p := ⟨w1.heap.size, 0, none⟩) (.slice A5 n5 c5) (by simp <;> omega))
 have HQ3 := Lib.hid (hr2.set (x := .slice A5 n5 c5) hnc rfl)
 have HR3 := Lib.hid (((HR2.out.ext hb1).ext hb2).set (x := .slice A5 n5 c5) hnc rfl)
 have H23 := Lib.hid (((H22.out.ext hb1).ext hb2).set (x := .slice A5 n5 c5) hnc rfl)
 have hbw3 : Below w.heap.size w (wq.setCell ⟨w1.heap.size, 0, none⟩ (.slice A5 n5 c5)) := ((Below.trans (nT hbw hb1) (Below.mono hb2 (Nat.le_trans hbw.size hb1.size)))).setCell (by simp <;> omega) _
 clear hnc hnf hn1 hr2 hr1 hb1 hb2 hbw HDV HX2 HY2 HN2 HL2 HQ2 HR2 H22
 have hds := HDV3.out
 obtain ⟨y1, y2, y3, y4, y5⟩ := hds
 go_wp2_with fail
 refine (HSB.out _ _ _ H23.out HR3.out).mono ?_
 rintro e w4 ⟨v4, rfl, hb4, u4, rfl, hr4⟩
 obtain ⟨A6, c6, n6, rfl, hr4⟩ := hr4.shape
 have hl4 := HL3.out.ext hb4
 have hlc := hl4.cell 0 _ rfl
 have hlf := hl4.frozen 0
 have HDV4 := Lib.hid ((HDV3.out.ext hb4).setl (.slice A6 n6 c6) hl4 (by omega) (by omega) (by omega))
 have HX4 := Lib.hid ((HX3.out.ext hb4).other (p := ⟨w1.heap.size + 1, 0, none⟩) (.slice A6 n6 c6) (by simp <;> omega)).drew
 have HY4 := Lib.hid ((HY3.out.ext hb4).other (p := ⟨w1.heap.size + 1, 0, none⟩) (.slice A6 n6 c6) (by simp <;> omega)).drew
 have HQ4 := Lib.hid ((HQ3.out.ext hb4).set (x := .slice A6 n6 c6) hlc rfl).drew
 have HR4 := Lib.hid (hr4.set (x := .slice A6 n6 c6) hlc rfl).drew
 have hbw4 : Below w.heap.size w (w4.setCell ⟨w1.heap.size + 1, 0, none⟩ (.slice A6 n6 c6)) := (Below.trans hbw3 (Below.mono hb4 hbw3.size)).setCell (by simp <;> omega) _
 clear y1 y2 y3 y4 y5 hbw3 HDV3 HX3 HY3 HL3 HQ3 HR3 hr4 H23 hl4 hb4 HN3
 go_wp2_with fail
 clear hlc hlf
 have HDV : Hid (Dv w.heap.size (w.heap.size + 1) w1.heap.size (w1.heap.size + 1) s1 s2 (.slice A2 n2 c2) (.slice A5 n5 c5) (.slice A6 n6 c6) (w4.setCell ⟨w1.heap.size + 1, 0, none⟩ (.slice A6 n6 c6)).drew) := Lib.hid (HDV4.out.ext (Below.drew (Below.refl _ _)))
 have HX2 := HX4
 have HY2 := HY4
 have HQ2 := HQ4
 have HR2 := HR4
 have hbw := hbw4.drew
 clear HDV4 HX4 HY4 HQ4 HR4 hbw4
 refine wp_hoist [(0, true), (1, true), (2, true), (3, true), (4, true), (5, true), (7, true), (8, true), (9, true), (6, false), (10, false), (11, false), (12, false), (13, false)] (Dv w.heap.size (w.heap.size + 1) w1.heap.size (w1.heap.size + 1) s1 s2 (.slice A2 n2 c2) (.slice A5 n5 c5) (.slice A6 n6 c6)) (by kernel_rfl) (by kernel_rfl) ?_ ?_
 · exact HDV.out
 refine hz_yes (v := ?_) rfl (by kernel_rfl) (fun W hW => ?_) ?_; rotate_left; (go_simp; try with_reducible rfl)
 (try (conv => arg 6; simp only [Act.put, gL]))
 refine hz_yes (v := ?_) rfl (by kernel_rfl) (fun W hW => ?_) ?_; rotate_left; (obtain ⟨y1, y2, y3, y4, y5⟩ := hW; go_simp; try with_reducible rfl)
 (try (conv => arg 6; simp only [Act.put, gL]))
 refine hz_yes (v := ?_) rfl (by kernel_rfl) (fun W hW => ?_) ?_; rotate_left; (go_simp; try with_reducible rfl)
 (try (conv => arg 6; simp only [Act.put, gL]))
 refine hz_yes (v := ?_) rfl (by kernel_rfl) (fun W hW => ?_) ?_; rotate_left; (obtain ⟨y1, y2, y3, y4, y5⟩ := hW; go_simp; try with_reducible rfl)
 (try (conv => arg 6; simp only [Act.put, gL]))
 refine hz_yes (v := ?_) rfl (by kernel_rfl) (fun W hW => ?_) ?_; rotate_left; (go_simp; try with_reducible rfl)
 (try (conv => arg 6; simp only [Act.put, gL]))
 refine hz_yes (v := ?_) rfl (by kernel_rfl) (fun W hW => ?_) ?_; rotate_left; (obtain ⟨y1, y2, y3, y4, y5⟩ := hW; go_simp; try with_reducible rfl)
 (try (conv => arg 6; simp only [Act.put, gL]))
 refine hz_yes (v := ?_) rfl (by kernel_rfl) (fun W hW => ?_) ?_; rotate_left; (go_simp; try with_reducible rfl)
 (try (conv => arg 6; simp only [Act.put, gL]))
 refine hz_yes (v := ?_) rfl (by kernel_rfl) (fun W hW => ?_) ?_; rotate_left; (obtain ⟨y1, y2, y3, y4, y5⟩ := hW; go_simp; try with_reducible rfl)
 (try (conv => arg 6; simp only [Act.put, gL]))
 refine hz_yes (v := ?_) rfl (by kernel_rfl) (fun W hW => ?_) ?_; rotate_left; (obtain ⟨y1, y2, y3, y4, y5⟩ := hW; go_simp; try with_reducible rfl)
 (try (conv => arg 6; simp only [Act.put, gL]))
 refine hz_eff rfl (by kernel_rfl) (fun K hK => ?_)
 go_simp
 refine (HF.out _ _ _ HQ2.out).mono ?_
 rintro e wq ⟨v1, rfl, hb1, hr1⟩
 refine hK.out _ _ ?_ ?_
 · exact HDV.out.ext hb1
 clear hK K
 (try (conv => arg 6; simp only [Act.put, gL]))
 have HDV1 := Lib.hid (HDV.out.ext hb1)
 have HR3 := Lib.hid (HR2.out.ext hb1)
 have HI1 := Lib.hid hr1
 have HX3 := Lib.hid (HX2.out.ext hb1)
 have HY3 := Lib.hid (HY2.out.ext hb1)
 have hbw1 := nT hbw hb1
 clear hb1 hr1 HDV HR2 HX2 HY2 HQ2 hbw
 refine hz_eff rfl (by kernel_rfl) (fun K hK => ?_)
 go_simp
 refine (HF2.out _ _ _ HR3.out).mono ?_
 rintro e wq ⟨v2, rfl, hb2, hr2⟩
 refine hK.out _ _ ?_ ?_
 · exact HDV1.out.ext hb2
 clear hK K
 (try (conv => arg 6; simp only [Act.put, gL]))
 have HDV2 := Lib.hid (HDV1.out.ext hb2)
 obtain ⟨sb1, A5, c5, n5, rfl, hi1⟩ := (HI1.out.ext hb2).shape
 obtain ⟨sb2, A6, c6, n6, rfl, hi2⟩ := hr2.shape
 have HI := Lib.hid hi1
 have HJ := Lib.hid hi2
 have HX := Lib.hid (HX3.out.ext hb2)
 have HY := Lib.hid (HY3.out.ext hb2)
 have hbw2 := Below.trans hbw1 (Below.mono hb2 hbw1.size)
 clear hb2 hr2 hi1 hi2 HDV1 HX3 HY3 HI1 hbw1
 have hq0 := HX.out.cell 0 _ rfl
 have hq1 := HX.out.cell 1 _ rfl
 have hf0 := HX.out.frozen 0
 have hf1 := HX.out.frozen 1
 have hr0 := HY.out.cell 0 _ rfl
 have hr1 := HY.out.cell 1 _ rfl
 have hg0 := HY.out.frozen 0
 have hg1 := HY.out.frozen 1
 refine hz_eff rfl (by kernel_rfl) (fun K hK => ?_)
 go_simp
 refine hK.out _ _ ?_ ?_
 · exact (HDV2.out.other _ (by simp <;> omega) (by simp <;> omega) (by simp <;> omega) (by simp <;> omega)).other _ (by simp <;> omega) (by simp <;> omega) (by simp <;> omega) (by simp <;> omega)
 clear hK K
 (try (conv => arg 6; simp only [Act.put, gL]))
 refine hz_eff rfl (by kernel_rfl) (fun K hK => ?_)
 go_simp
 refine hK.out _ _ ?_ ?_
 · exact (((HDV2.out.other _ (by simp <;> omega) (by simp <;> omega) (by simp <;> omega) (by simp <;> omega)).other _ (by simp <;> omega) (by simp <;> omega) (by simp <;> omega) (by simp <;> omega)).other _ (by simp <;> omega) (by simp <;> omega) (by simp <;> omega) (by simp <;> omega)).other _ (by simp <;> omega) (by simp <;> omega) (by simp <;> omega) (by simp <;> omega)
 clear hK K
 (try (conv => arg 6; simp only [Act.put, gL]))
 refine hz_eff rfl (by kernel_rfl) (fun K hK => ?_)
 go_simp
 refine hK.out _ _ ?_ ?_
 · exact (((HDV2.out.other _ (by simp <;> omega) (by simp <;> omega) (by simp <;> omega) (by simp <;> omega)).other _ (by simp <;> omega) (by simp <;> omega) (by simp <;> omega) (by simp <;> omega)).other _ (by simp <;> omega) (by simp <;> omega) (by simp <;> omega) (by simp <;> omega)).other _ (by simp <;> omega) (by simp <;> omega) (by simp <;> omega) (by simp <;> omega)
 clear hK K
 (try (conv => arg 6; simp only [Act.put, gL]))
 refine hz_nil ?_
 go_wp2
 obtain ⟨⟨k1, k2, k3, k4⟩, kI⟩ := four_cells (x := .bool sb1) (y := .slice A5 n5 c5) (x' := .bool sb2) (y' := .slice A6 n6 c6) HX.out HY.out (by omega) rfl rfl rfl rfl _ rfl
 refine bodyPost_ret (v := .tuple #[.agg #[.bool sb1, .slice A5 n5 c5], .agg #[.bool sb2, .slice A6 n6 c6], .bool true]) (by simp [results, Tryz.results110, go_sem, k1, k2, k3, k4]) rfl ⟨_, rfl, (by repeat (first | assumption | exact nB1 _ _ | refine nB2 ?_ | refine pw_below_drewN ?_ _ | refine nB3 ?_ (by first | omega | (simp <;> omega)) _ | refine nB4 ?_ (by first | omega | (simp <;> omega)) _ | refine nB5 ?_ (by assumption) (by first | omega | (simp <;> omega)))), _, _, rfl, kI _ _ HI.out, kI _ _ HJ.out⟩
theorem DivTo.said {w' : World} {v : Value} {a b q r : Int} (hb : b ≠ 0) (h : DivTo w' v q r) (hq : q = Int.fdiv a b ∧ r = Int.fmod a b) : IDivSaid w' v a b := by
 obtain ⟨x, y, rfl, hx, hy⟩ := h
 exact ⟨x, y, by rw [decide_eq_true hb], hq.1 ▸ hx, by rw [if_neg hb]; exact hq.2 ▸ hy⟩
theorem idiv_c (w : World) (v u : Value) (a b : Int) (h1 : rInt w v a) (h2 : rInt w u b) (f1 : bl a.natAbs ≤ 35184372088831) (f2 : bl b.natAbs ≤ 35184372088831) :
  Calls Tryz.prog 110 #[v, u] w (Post w fun r w' => IDivSaid w' r a b) := by
 obtain ⟨A, c, n, rfl, hn⟩ := h1.open
 obtain ⟨A2, c2, n2, rfl, hn2⟩ := h2.open
 have g1 : Fit a.natAbs := Nat.le_trans f1 (by omega)
 have g2 : Fit b.natAbs := Nat.le_trans f2 (by omega)
 by_cases hb : b = 0
 ·
  subst hb
  refine (idiv_0 w A A2 c n c2 n2 _ _ a.natAbs hn hn2 g1).mono ?_
  rintro e w1 ⟨v, rfl, hb1, rfl⟩
  exact ⟨_, rfl, hb1, .agg #[.bool false, .slice none 0 0], .agg #[.bool false, .slice none 0 0], rfl, by rw [Int.fdiv_zero]; exact ⟨_, rNat.zero _, rfl⟩, ⟨_, rNat.zero _, rfl⟩⟩
 ·
  have hbn : b.natAbs ≠ 0 := by omega
  by_cases hs : decide (a < 0) = decide (b < 0)
  ·
   rw [hs]
   refine (idiv_same w A A2 c n c2 n2 _ a.natAbs b.natAbs hn hn2 g1 g2 hbn).mono ?_
   rintro e w1 ⟨v, rfl, hb1, h⟩
   have k := fd_same a b hb (.inl hs)
   rw [show (decide (a < 0) != decide (b < 0)) = false by rw [hs]; simp] at k
   exact ⟨_, rfl, hb1, h.said hb k⟩
  ·
   have hx : (decide (a < 0) != decide (b < 0)) = true := by simpa using hs
   by_cases hr : a.natAbs % b.natAbs = 0
   ·
    refine (idiv_zero w A A2 c n c2 n2 _ _ a.natAbs b.natAbs hn hn2 g1 g2 hbn hx hr).mono ?_
    rintro e w1 ⟨v, rfl, hb1, h⟩
    have k := fd_same a b hb (.inr hr)
    rw [hx] at k
    exact ⟨_, rfl, hb1, h.said hb k⟩
   ·
    refine (idiv_more w A A2 c n c2 n2 _ _ a.natAbs b.natAbs hn hn2 f1 f2 hbn hx hr).mono ?_
    rintro e w1 ⟨v, rfl, hb1, h⟩
    exact ⟨_, rfl, hb1, h.said hb (fd_diff a b hb hs hr)⟩
end Go.Proofs.YtadpjidakippeaaGreat

/- nat.Nat.Shift, downward. -/
namespace Go.Proofs.YtadpjidakippeaaGreat
open Go.RowKit
theorem Words.drop {k : IntKind} {b : Nat} {w : World} {g o c : Nat} {l : List Nat} (h : Words k b w (some ⟨g, o, none⟩) c l) (n : Nat) (hn : n ≤ l.length) : Words k b w (some ⟨g, o + n, none⟩) (c - n) (l.drop n) :=
 ⟨by rw [List.length_drop]; have := h.1; omega, fun x hx => h.2.1 x (List.mem_of_mem_drop hx), fun hl => by
  have hl' : l ≠ [] := fun e => hl (by rw [e]; simp)
  obtain ⟨g', o', hA, hc⟩ := h.2.2 hl'
  injection hA with hA
  injection hA with h1 h2 h3
  subst h1; subst h2
  refine ⟨g, o + n, rfl, fun j hj => ?_⟩
  rw [List.length_drop] at hj
  have := hc (n + j) (by omega)
  rw [← Nat.add_assoc] at this
  rw [this]
  simp [List.getD_eq_getElem?_getD]⟩
theorem vl_drop {b : Nat} (hb : 0 < b) {l : List Nat} (hd : ∀ x ∈ l, x < b) (k : Nat) : vl b (l.drop k) = vl b l / b ^ k := by
 rcases Nat.lt_or_ge l.length k with h | h
 ·
  rw [List.drop_eq_nil_of_le (by omega)]
  have h1 := vl_lt b l hd
  rw [Nat.div_eq_of_lt (Nat.lt_of_lt_of_le h1 (Nat.pow_le_pow_right hb (by omega)))]; rfl
 ·
  have h1 := vl_take b l k
  rw [Nat.min_eq_left h] at h1
  have h2 := vl_lt b (l.take k) (fun x hx => hd x (List.mem_of_mem_take hx))
  rw [List.length_take, Nat.min_eq_left h] at h2
  rw [h1, Nat.add_mul_div_left _ _ (Nat.pow_pos hb), Nat.div_eq_of_lt h2, Nat.zero_add]
def ShiftSaid (w' : World) (v : Value) (n d : Nat) : Prop := rNat w' v (n / 2 ^ d)
theorem shift_at (n : Int) (d : Nat) (hn : n < 0) (hlo : -9223372036854775808 ≤ n) (hd : d = min n.natAbs 65536) : min (max n (-65536)) 65536 = -(d : Int) := by omega
set_option maxHeartbeats 1000000 in
theorem shift_d (w : World) (v : Value) (a : Nat) (n : Int) (d : Nat) (h : rNat w v a) (hf : Fit a) (hn : n < 0) (hlo : -9223372036854775808 ≤ n) (hd : d = min n.natAbs 65536) :
  Calls Tryz.prog 137 #[v, .int .i64 n] w (Post w fun r w' => rNat w' r (a / 2 ^ d)) := by
 obtain ⟨A, c, l, rfl, hw, hnn, rfl⟩ := h
 have hlen := hf.len hnn rfl
 have hd1 : 1 ≤ d ∧ d ≤ 65536 := by omega
 have hx : max n (-65536) = -(d : Int) := by omega
 have hx1 : min (-(d : Int)) 65536 = -(d : Int) := by omega
 obtain ⟨q, eq⟩ : ∃ q, d / 64 = q := ⟨_, rfl⟩
 obtain ⟨s, es⟩ : ∃ s, d % 64 = s := ⟨_, rfl⟩
 have hds : d = 64 * q + s := by omega
 have hq : Int.tdiv (-(d : Int)) 64 = -(q : Int) := by rw [Int.neg_tdiv, Int.tdiv_eq_ediv_of_nonneg (by omega)]; omega
 have hs : Int.tmod (-(d : Int)) 64 = -(s : Int) := by rw [Int.neg_tmod, Int.tmod_eq_emod_of_nonneg (by omega)]; omega
 have hneg : ¬ (0 ≤ -(d : Int)) := by omega
 have hw1 : IntKind.i64.wrap (-(q : Int)) = -(q : Int) := i64w (by omega) (by omega)
 have hw2 : IntKind.i64.wrap (-(s : Int)) = -(s : Int) := i64w (by omega) (by omega)
 have hw3 : IntKind.i64.wrap (q : Int) = (q : Int) := i64w (by omega) (by omega)
 have hw4 : IntKind.i64.wrap (s : Int) = (s : Int) := i64w (by omega) (by omega)
 have hp : 2 ^ d = B64 ^ q * 2 ^ s := by rw [hds, Nat.pow_add, Nat.pow_mul, ← B64_pow]
 by_cases hql : q < l.length
 ·
  obtain ⟨g, o, rfl, hcl⟩ := hw.2.2 (by intro e; rw [e] at hql; simp at hql)
  have hwd := hw.drop q (by omega)
  have hlc := hw.1
  have hld : (l.drop q).length = l.length - q := List.length_drop
  have HR := Lib.hid (fun W h => right_c W (some ⟨g, o + q, none⟩) (c - q) (l.drop q) s h (by omega) (by omega))
  have HWD := Lib.hid hwd
  have HV : Hid (vl B64 (l.drop q) / 2 ^ s = vl B64 l / 2 ^ d) := Lib.hid (by rw [vl_drop B64_pos hw.2.1, hp, Nat.div_div_eq_div_mul])
  have hqi : ¬ ((l.length : Int) ≤ (q : Int)) := by omega
  have hHR : Hid ((l.drop q).length = l.length - q) := Lib.hid hld
  clear hw hnn hf hcl hwd hld hds hp eq es hd hn hlo
  go_enter Tryz.func137, Tryz.ntmps137
  go_wp2_with fail
  rw [← hHR.out]
  refine (HR.out _ (HWD.out.ext (by repeat (first | assumption | exact nB1 _ _ | refine nB2 ?_ | refine pw_below_drewN ?_ _ | refine nB3 ?_ (by first | omega | (simp <;> omega)) _ | refine nB4 ?_ (by first | omega | (simp <;> omega)) _ | refine nB5 ?_ (by assumption) (by first | omega | (simp <;> omega)))))).mono ?_
  rintro e w1 ⟨v1, rfl, hb1, out, rfl, ho, hol, hox, hov⟩
  have HO1 := Lib.hid ((Own.new' (w.alloc (.cells #[.slice (some ⟨g, o, none⟩) l.length c] 28)) 28 [.slice none 0 0] (w.heap.size + 1) (by simp)).ext hb1)
  have hbe1 : Below w.heap.size w w1 := (by repeat (first | assumption | exact nB1 _ _ | refine nB2 ?_ | refine pw_below_drewN ?_ _ | refine nB3 ?_ (by first | omega | (simp <;> omega)) _ | refine nB4 ?_ (by first | omega | (simp <;> omega)) _ | refine nB5 ?_ (by assumption) (by first | omega | (simp <;> omega))))
  have HT := Lib.hid (trim_c w1 (some ⟨w.heap.size + 1 + 1, 0, none⟩) out.length out (own_words (by simpa using ho) hox out.length (Nat.le_refl _)) (by rw [hol, hHR.out]; omega))
  have HOL := Lib.hid hol
  rw [hov] at HT
  have HVV := Lib.hid hov
  clear ho hol hox hov hb1
  rw [← HOL.out]
  go_wp2_with fail
  refine HT.out.mono ?_
  rintro e w2 ⟨v2, rfl, hb2, hr2⟩
  obtain ⟨A5, c5, n5, rfl, hr2⟩ := hr2.shape
  have ho2 := HO1.out.ext hb2
  have hoc := ho2.cell 0 _ rfl
  have hof := ho2.frozen 0
  have hbe2 : Below w.heap.size w w2 := Below.trans hbe1 (Below.mono hb2 hbe1.size)
  have HR2 := Lib.hid hr2
  have hk := (ho2.set 0 (.slice A5 n5 c5)).cell 0 _ rfl
  have HOC := Lib.hid hoc
  clear hb2 hr2 ho2 hbe1 HO1
  go_wp2_with fail
  refine bodyPost_ret (v := .agg #[.slice A5 n5 c5]) (by simp [results, Tryz.results137, go_sem, hk]) rfl ⟨_, rfl, (by repeat (first | assumption | exact nB1 _ _ | refine nB2 ?_ | refine pw_below_drewN ?_ _ | refine nB3 ?_ (by first | omega | (simp <;> omega)) _ | refine nB4 ?_ (by first | omega | (simp <;> omega)) _ | refine nB5 ?_ (by assumption) (by first | omega | (simp <;> omega)))), ?_⟩
  rw [← HV.out]
  exact HR2.out.set HOC.out rfl
 ·
  have hz : vl B64 l / 2 ^ d = 0 := by
   rw [hp, ← Nat.div_div_eq_div_mul, Nat.div_eq_of_lt (Nat.lt_of_lt_of_le (vl_lt B64 l hw.2.1) (Nat.pow_le_pow_right B64_pos (by omega))), Nat.zero_div]
  rw [hz]
  have hqi : ((l.length : Int) ≤ (q : Int)) := by omega
  clear hw hnn hf hds hp eq es hd hn hlo hz
  go_enter Tryz.func137, Tryz.ntmps137
  go_wp2_with fail
  refine bodyPost_ret (v := .agg #[.slice none 0 0]) (by simp [results, Tryz.results137, go_sem]) rfl ⟨_, rfl, (by repeat (first | assumption | exact nB1 _ _ | refine nB2 ?_ | refine pw_below_drewN ?_ _ | refine nB3 ?_ (by first | omega | (simp <;> omega)) _ | refine nB4 ?_ (by first | omega | (simp <;> omega)) _ | refine nB5 ?_ (by assumption) (by first | omega | (simp <;> omega)))), rNat.zero _⟩
end Go.Proofs.YtadpjidakippeaaGreat
