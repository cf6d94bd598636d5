/- whole.Int: product, sum. -/
import Derived.Test.YtadpjidakippeaaGreatY05
import Derived.Test.YtadpjidakippeaaGreatY02
set_option linter.unusedVariables false
set_option linter.unusedSimpArgs false
namespace Go.Proofs.YtadpjidakippeaaGreat
open Go.RowKit
theorem sg_mul (a b : Int) : sg (decide (a < 0) != decide (b < 0)) (a.natAbs * b.natAbs) = a * b := by
 rw [← Int.natAbs_mul]
 have key : (decide (a < 0) != decide (b < 0)) = true → a * b ≤ 0 := fun h => by
  by_cases ha : a < 0 <;> by_cases hb : b < 0 <;> simp [ha, hb] at h
  · have := Int.mul_nonneg (show 0 ≤ -a by omega) (show 0 ≤ b by omega); rw [Int.neg_mul] at this; omega
  · have := Int.mul_nonneg (show 0 ≤ a by omega) (show 0 ≤ -b by omega); rw [Int.mul_neg] at this; omega
 have key2 : (decide (a < 0) != decide (b < 0)) = false → 0 ≤ a * b := fun h => by
  by_cases ha : a < 0 <;> by_cases hb : b < 0 <;> simp [ha, hb] at h
  · have := Int.mul_nonneg (show 0 ≤ -a by omega) (show 0 ≤ -b by omega); rw [Int.neg_mul_neg] at this; exact this
  · exact Int.mul_nonneg (by omega) (by omega)
 unfold sg
 split
 · have := key (by assumption); omega
 ·
  rename_i h
  have := key2 (by simpa using h); omega
theorem Fit.mul {a b : Nat} (h : bl a + bl b ≤ 35184372088832) : Fit (a * b) := Nat.le_trans (bl_mul a b) h
theorem Fit.add {a b : Nat} (ha : bl a ≤ 35184372088831) (hb : bl b ≤ 35184372088831) : Fit (a + b) := by
 have := bl_add a b
 unfold Fit; omega
set_option maxHeartbeats 1000000 in
theorem imul_c (w : World) (v u : Value) (a b : Int) (h1 : rInt w v a) (h2 : rInt w u b) (hf : bl a.natAbs + bl b.natAbs ≤ 35184372088832) : Calls Tryz.prog 71 #[v, u] w (Post w fun r w' => rInt w' r (a * b)) := by
 obtain ⟨A, c, n, rfl, hn⟩ := h1.open
 obtain ⟨A2, c2, n2, rfl, hn2⟩ := h2.open
 have HM := Lib.hid (fun W h h' => mul_n W (.agg #[.slice A n c]) (.agg #[.slice A2 n2 c2]) a.natAbs b.natAbs h h' (by unfold Fit; omega) (by unfold Fit; omega))
 obtain ⟨s1, es1⟩ : ∃ b, decide (a < 0) = b := ⟨_, rfl⟩
 obtain ⟨s2, es2⟩ : ∃ z, decide (b < 0) = z := ⟨_, rfl⟩
 have hsg := sg_mul a b
 rw [es1, es2] at *
 have HSG := Lib.hid hsg
 have HF := Lib.hid (fun W v h => from_c W (s1 != s2) v (a.natAbs * b.natAbs) h (Fit.mul hf))
 have H1 := Lib.hid hn
 have H2 := Lib.hid hn2
 clear h1 h2 hn hn2 hf es1 es2 hsg
 go_enter Tryz.func71, Tryz.ntmps71
 go_wp2_with fail
 refine wp_hoist [(0, true), (1, true), (2, true), (3, true), (4, true), (5, true), (6, true), (7, true), (8, true), (9, false), (10, false), (11, false)] (Box2 w.heap.size (w.heap.size + 1) (.bool s1) (.slice A n c) (.bool s2) (.slice A2 n2 c2)) (by kernel_rfl) (by kernel_rfl) ?_ ?_
 · exact ⟨by go_simp, by go_simp, by go_simp, by go_simp⟩
 refine hz_yes (v := ?_) rfl (by kernel_rfl) (fun W hW => ?_) ?_; rotate_left; (go_simp; try with_reducible rfl)
 (try (conv => arg 6; simp only [Act.put, gL]))
 refine hz_yes (v := ?_) rfl (by kernel_rfl) (fun W hW => ?_) ?_; rotate_left; (obtain ⟨y1, y2, y3, y4⟩ := hW; go_simp; try with_reducible rfl)
 (try (conv => arg 6; simp only [Act.put, gL]))
 refine hz_yes (v := ?_) rfl (by kernel_rfl) (fun W hW => ?_) ?_; rotate_left; (go_simp; try with_reducible rfl)
 (try (conv => arg 6; simp only [Act.put, gL]))
 refine hz_yes (v := ?_) rfl (by kernel_rfl) (fun W hW => ?_) ?_; rotate_left; (obtain ⟨y1, y2, y3, y4⟩ := hW; go_simp; try with_reducible rfl)
 (try (conv => arg 6; simp only [Act.put, gL]))
 refine hz_yes (v := ?_) rfl (by kernel_rfl) (fun W hW => ?_) ?_; rotate_left; (go_simp; try with_reducible rfl)
 (try (conv => arg 6; simp only [Act.put, gL]))
 refine hz_yes (v := ?_) rfl (by kernel_rfl) (fun W hW => ?_) ?_; rotate_left; (go_simp; try with_reducible rfl)
 (try (conv => arg 6; simp only [Act.put, gL]))
 refine hz_yes (v := ?_) rfl (by kernel_rfl) (fun W hW => ?_) ?_; rotate_left; (obtain ⟨y1, y2, y3, y4⟩ := hW; go_simp; try with_reducible rfl)
 (try (conv => arg 6; simp only [Act.put, gL]))
 refine hz_yes (v := ?_) rfl (by kernel_rfl) (fun W hW => ?_) ?_; rotate_left; (go_simp; try with_reducible rfl)
 (try (conv => arg 6; simp only [Act.put, gL]))
 refine hz_yes (v := ?_) rfl (by kernel_rfl) (fun W hW => ?_) ?_; rotate_left; (obtain ⟨y1, y2, y3, y4⟩ := hW; go_simp; try with_reducible rfl)
 (try (conv => arg 6; simp only [Act.put, gL]))
 have HB0 : Hid (Box2 w.heap.size (w.heap.size + 1) (.bool s1) (.slice A n c) (.bool s2) (.slice A2 n2 c2) (((w.alloc (.cells #[.bool s1, .slice A n c] 30)).alloc (.cells #[.bool s2, .slice A2 n2 c2] 30)).alloc (.cells #[.bool false, .slice none 0 0] 30)).drew) := ⟨by go_simp, by go_simp, by go_simp, by go_simp⟩
 have HO0 := Lib.hid (Own.new' ((w.alloc (.cells #[.bool s1, .slice A n c] 30)).alloc (.cells #[.bool s2, .slice A2 n2 c2] 30)) 30 IntCells (w.heap.size + 1 + 1) (by simp)).drew
 refine hz_eff rfl (by kernel_rfl) (fun K hK => ?_)
 go_simp
 refine (HM.out _ (H1.out.ext (by repeat (first | assumption | exact nB1 _ _ | refine nB2 ?_ | refine pw_below_drewN ?_ _ | refine nB3 ?_ (by first | omega | (simp <;> omega)) _ | refine nB4 ?_ (by first | omega | (simp <;> omega)) _ | refine nB5 ?_ (by assumption) (by first | omega | (simp <;> omega))))) (H2.out.ext (by repeat (first | assumption | exact nB1 _ _ | refine nB2 ?_ | refine pw_below_drewN ?_ _ | refine nB3 ?_ (by first | omega | (simp <;> omega)) _ | refine nB4 ?_ (by first | omega | (simp <;> omega)) _ | refine nB5 ?_ (by assumption) (by first | omega | (simp <;> omega)))))).mono ?_
 rintro e wq ⟨v1, rfl, hb1, hr1⟩
 refine hK.out _ _ ?_ ?_
 · exact HB0.out.ext hb1
 clear hK K
 (try (conv => arg 6; simp only [Act.put, gL]))
 have HB1 := Lib.hid (HB0.out.ext hb1)
 have hbe1 : Below w.heap.size w wq := (by repeat (first | assumption | exact nB1 _ _ | refine nB2 ?_ | refine pw_below_drewN ?_ _ | refine nB3 ?_ (by first | omega | (simp <;> omega)) _ | refine nB4 ?_ (by first | omega | (simp <;> omega)) _ | refine nB5 ?_ (by assumption) (by first | omega | (simp <;> omega))))
 have HO1 := Lib.hid (HO0.out.ext hb1)
 refine hz_eff rfl (by kernel_rfl) (fun K hK => ?_)
 go_simp
 refine (HF.out _ _ hr1).mono ?_
 rintro e wq ⟨v2, rfl, hb2, hr2⟩
 refine hK.out _ _ ?_ ?_
 · exact HB1.out.ext hb2
 clear hK K
 (try (conv => arg 6; simp only [Act.put, gL]))
 have HB2 := Lib.hid (HB1.out.ext hb2)
 have HOWN := Lib.hid (HO1.out.ext hb2)
 have hq0 := HOWN.out.cell 0 _ rfl
 have hq1 := HOWN.out.cell 1 _ rfl
 have hf0 := HOWN.out.frozen 0
 have hf1 := HOWN.out.frozen 1
 obtain ⟨sb, A', c', n', rfl, hr⟩ := hr2.shape
 have HR := Lib.hid hr
 have hbe : Below w.heap.size w wq := Below.trans hbe1 (Below.mono hb2 hbe1.size)
 have HB2' := HB2
 clear hr2 hr hr1 hb1 hb2 hbe1 HO0 HO1 HB0 HB1 HB2'
 refine hz_eff rfl (by kernel_rfl) (fun K hK => ?_)
 go_simp
 refine hK.out _ _ ?_ ?_
 · exact (HB2.out.other _ (by simp <;> omega) (by simp <;> omega)).other _ (by simp <;> omega) (by simp <;> omega)
 clear hK K
 (try (conv => arg 6; simp only [Act.put, gL]))
 refine hz_nil ?_
 go_wp2
 have k := two_cells (x := .bool sb) (y := .slice A' n' c') HOWN.out rfl rfl
 refine bodyPost_ret (v := .agg #[.bool sb, .slice A' n' c']) (by simp [results, Tryz.results71, go_sem, k.1, k.2.1]) rfl ⟨_, rfl, (by repeat (first | assumption | exact nB1 _ _ | refine nB2 ?_ | refine pw_below_drewN ?_ _ | refine nB3 ?_ (by first | omega | (simp <;> omega)) _ | refine nB4 ?_ (by first | omega | (simp <;> omega)) _ | refine nB5 ?_ (by assumption) (by first | omega | (simp <;> omega)))), ?_⟩
 have hfin := int_end HOWN.out rfl rfl HR.out
 rw [HSG.out] at hfin
 exact hfin
end Go.Proofs.YtadpjidakippeaaGreat

/- whole.Int: the sum. -/
namespace Go.Proofs.YtadpjidakippeaaGreat
open Go.RowKit
theorem sg_add_same {a b : Int} {s : Bool} (ha : decide (a < 0) = s) (hb : decide (b < 0) = s) : sg s (a.natAbs + b.natAbs) = a + b := by
 subst ha
 unfold sg
 by_cases h : a < 0
 · rw [decide_eq_true h] at *; have := of_decide_eq_true hb; simp; omega
 · rw [decide_eq_false h] at *; have := of_decide_eq_false hb; simp; omega
theorem sg_add_le {a b : Int} {s t : Bool} (ha : decide (a < 0) = s) (hb : decide (b < 0) = t) (hst : s ≠ t) (hle : b.natAbs ≤ a.natAbs) : sg s (a.natAbs - b.natAbs) = a + b := by
 subst ha; subst hb
 unfold sg
 by_cases h : a < 0 <;> by_cases h' : b < 0
 · exact absurd (by rw [decide_eq_true h, decide_eq_true h']) hst
 · rw [decide_eq_true h, if_pos rfl]; omega
 · rw [decide_eq_false h, if_neg (by simp)]; omega
 · exact absurd (by rw [decide_eq_false h, decide_eq_false h']) hst
theorem sg_add_gt {a b : Int} {s t : Bool} (ha : decide (a < 0) = s) (hb : decide (b < 0) = t) (hst : s ≠ t) (hle : a.natAbs < b.natAbs) : sg t (b.natAbs - a.natAbs) = a + b := by
 rw [sg_add_le hb ha (Ne.symm hst) (by omega)]; omega
/-- A natural number's shape. -/
theorem rNat.shape {w : World} {v : Value} {n : Nat} (h : rNat w v n) : ∃ A c m, v = .agg #[.slice A m c] ∧ rNat w (.agg #[.slice A m c]) n := by
 obtain ⟨A, c, l, rfl, _⟩ := id h
 exact ⟨A, c, l.length, rfl, h⟩
theorem ext_alloc (w : World) (o : Obj) : Ext w (w.alloc o) := (Below.refl _ _).alloc (Nat.le_refl _) o
theorem bl_sub {a b k : Nat} (h : bl a ≤ k) : bl (a - b) ≤ k := Nat.le_trans (bl_mono (Nat.sub_le _ _)) h
set_option maxHeartbeats 1000000 in
theorem iadd_c (w : World) (v u : Value) (a b : Int) (h1 : rInt w v a) (h2 : rInt w u b) (f1 : bl a.natAbs ≤ 35184372088831) (f2 : bl b.natAbs ≤ 35184372088831) : Calls Tryz.prog 82 #[v, u] w (Post w fun r w' => rInt w' r (a + b)) := by
 obtain ⟨A, c, n, rfl, hn⟩ := h1.open
 obtain ⟨A2, c2, n2, rfl, hn2⟩ := h2.open
 have HM := Lib.hid (fun W h h' => add_n W (.agg #[.slice A n c]) (.agg #[.slice A2 n2 c2]) a.natAbs b.natAbs h h' (by unfold Fit; omega) (by unfold Fit; omega))
 have HS := Lib.hid (fun W h h' => sub_n W (.agg #[.slice A n c]) (.agg #[.slice A2 n2 c2]) a.natAbs b.natAbs h h' (by unfold Fit; omega) (by unfold Fit; omega))
 have HT := Lib.hid (fun W h h' => sub_n W (.agg #[.slice A2 n2 c2]) (.agg #[.slice A n c]) b.natAbs a.natAbs h h' (by unfold Fit; omega) (by unfold Fit; omega))
 have HF := Lib.hid (fun W v s h => from_c W s v (a.natAbs + b.natAbs) h (Fit.add f1 f2))
 have HF2 := Lib.hid (fun W v s h => from_c W s v (a.natAbs - b.natAbs) h (show Fit _ from Nat.le_trans (bl_sub f1) (by omega)))
 have HF3 := Lib.hid (fun W v s h => from_c W s v (b.natAbs - a.natAbs) h (show Fit _ from Nat.le_trans (bl_sub f2) (by omega)))
 obtain ⟨s1, es1⟩ : ∃ b, decide (a < 0) = b := ⟨_, rfl⟩
 obtain ⟨s2, es2⟩ : ∃ z, decide (b < 0) = z := ⟨_, rfl⟩
 have E1 := Lib.hid es1
 have E2 := Lib.hid es2
 rw [es1, es2]
 have H1 := Lib.hid hn
 have H2 := Lib.hid hn2
 clear h1 h2 hn hn2 f1 f2 es1 es2
 by_cases hst : s1 = s2
 ·
  subst hst
  have hss : (s1 == s1) = true := by simp
  have HSG := Lib.hid (sg_add_same E1.out E2.out)
  clear E1 E2
  go_enter Tryz.func82, Tryz.ntmps82
  go_wp2_with fail
  refine wp_hoist [(0, true), (1, true), (2, true), (3, true), (4, true), (5, true), (6, false), (7, false), (8, false)] (Box2 w.heap.size (w.heap.size + 1) (.bool s1) (.slice A n c) (.bool s1) (.slice A2 n2 c2)) (by kernel_rfl) (by kernel_rfl) ?_ ?_
  · exact ⟨by go_simp, by go_simp, by go_simp, by go_simp⟩
  refine hz_yes (v := ?_) rfl (by kernel_rfl) (fun W hW => ?_) ?_; rotate_left; (go_simp; try with_reducible rfl)
  (try (conv => arg 6; simp only [Act.put, gL]))
  refine hz_yes (v := ?_) rfl (by kernel_rfl) (fun W hW => ?_) ?_; rotate_left; (obtain ⟨y1, y2, y3, y4⟩ := hW; go_simp; try with_reducible rfl)
  (try (conv => arg 6; simp only [Act.put, gL]))
  refine hz_yes (v := ?_) rfl (by kernel_rfl) (fun W hW => ?_) ?_; rotate_left; (go_simp; try with_reducible rfl)
  (try (conv => arg 6; simp only [Act.put, gL]))
  refine hz_yes (v := ?_) rfl (by kernel_rfl) (fun W hW => ?_) ?_; rotate_left; (obtain ⟨y1, y2, y3, y4⟩ := hW; go_simp; try with_reducible rfl)
  (try (conv => arg 6; simp only [Act.put, gL]))
  refine hz_yes (v := ?_) rfl (by kernel_rfl) (fun W hW => ?_) ?_; rotate_left; (go_simp; try with_reducible rfl)
  (try (conv => arg 6; simp only [Act.put, gL]))
  refine hz_yes (v := ?_) rfl (by kernel_rfl) (fun W hW => ?_) ?_; rotate_left; (obtain ⟨y1, y2, y3, y4⟩ := hW; go_simp; try with_reducible rfl)
  (try (conv => arg 6; simp only [Act.put, gL]))
  have HB0 : Hid (Box2 w.heap.size (w.heap.size + 1) (.bool s1) (.slice A n c) (.bool s1) (.slice A2 n2 c2) (((w.alloc (.cells #[.bool s1, .slice A n c] 30)).alloc (.cells #[.bool s1, .slice A2 n2 c2] 30)).alloc (.cells #[.bool false, .slice none 0 0] 30)).drew) := ⟨by go_simp, by go_simp, by go_simp, by go_simp⟩
  have HO0 := Lib.hid (Own.new' ((w.alloc (.cells #[.bool s1, .slice A n c] 30)).alloc (.cells #[.bool s1, .slice A2 n2 c2] 30)) 30 IntCells (w.heap.size + 1 + 1) (by simp)).drew
  refine hz_eff rfl (by kernel_rfl) (fun K hK => ?_)
  go_simp
  refine (HM.out _ (H1.out.ext (by repeat (first | assumption | exact nB1 _ _ | refine nB2 ?_ | refine pw_below_drewN ?_ _ | refine nB3 ?_ (by first | omega | (simp <;> omega)) _ | refine nB4 ?_ (by first | omega | (simp <;> omega)) _ | refine nB5 ?_ (by assumption) (by first | omega | (simp <;> omega))))) (H2.out.ext (by repeat (first | assumption | exact nB1 _ _ | refine nB2 ?_ | refine pw_below_drewN ?_ _ | refine nB3 ?_ (by first | omega | (simp <;> omega)) _ | refine nB4 ?_ (by first | omega | (simp <;> omega)) _ | refine nB5 ?_ (by assumption) (by first | omega | (simp <;> omega)))))).mono ?_
  rintro e wq ⟨v1, rfl, hb1, hr1⟩
  refine hK.out _ _ ?_ ?_
  · exact HB0.out.ext hb1
  clear hK K
  (try (conv => arg 6; simp only [Act.put, gL]))
  have HB1 := Lib.hid (HB0.out.ext hb1)
  have hbe1 : Below w.heap.size w wq := (by repeat (first | assumption | exact nB1 _ _ | refine nB2 ?_ | refine pw_below_drewN ?_ _ | refine nB3 ?_ (by first | omega | (simp <;> omega)) _ | refine nB4 ?_ (by first | omega | (simp <;> omega)) _ | refine nB5 ?_ (by assumption) (by first | omega | (simp <;> omega))))
  have HO1 := Lib.hid (HO0.out.ext hb1)
  refine hz_eff rfl (by kernel_rfl) (fun K hK => ?_)
  go_simp
  refine (HF.out _ _ _ hr1).mono ?_
  rintro e wq ⟨v2, rfl, hb2, hr2⟩
  refine hK.out _ _ ?_ ?_
  · exact HB1.out.ext hb2
  clear hK K
  (try (conv => arg 6; simp only [Act.put, gL]))
  have HB2 := Lib.hid (HB1.out.ext hb2)
  have HOWN := Lib.hid (HO1.out.ext hb2)
  have hq0 := HOWN.out.cell 0 _ rfl
  have hq1 := HOWN.out.cell 1 _ rfl
  have hf0 := HOWN.out.frozen 0
  have hf1 := HOWN.out.frozen 1
  obtain ⟨sb, A', c', n', rfl, hr⟩ := hr2.shape
  have HR := Lib.hid hr
  have hbe : Below w.heap.size w wq := Below.trans hbe1 (Below.mono hb2 hbe1.size)
  clear hr2 hr hr1 hb1 hb2 hbe1 HO0 HO1 HB0 HB1
  refine hz_eff rfl (by kernel_rfl) (fun K hK => ?_)
  go_simp
  refine hK.out _ _ ?_ ?_
  · exact (HB2.out.other _ (by simp <;> omega) (by simp <;> omega)).other _ (by simp <;> omega) (by simp <;> omega)
  clear hK K
  (try (conv => arg 6; simp only [Act.put, gL]))
  refine hz_nil ?_
  go_wp2
  have k := two_cells (x := .bool sb) (y := .slice A' n' c') HOWN.out rfl rfl
  refine bodyPost_ret (v := .agg #[.bool sb, .slice A' n' c']) (by simp [results, Tryz.results82, go_sem, k.1, k.2.1]) rfl ⟨_, rfl, (by repeat (first | assumption | exact nB1 _ _ | refine nB2 ?_ | refine pw_below_drewN ?_ _ | refine nB3 ?_ (by first | omega | (simp <;> omega)) _ | refine nB4 ?_ (by first | omega | (simp <;> omega)) _ | refine nB5 ?_ (by assumption) (by first | omega | (simp <;> omega)))), ?_⟩
  have hfin := int_end HOWN.out rfl rfl HR.out
  rw [HSG.out] at hfin
  exact hfin
 ·
  have hss : (s1 == s2) = false := by simpa using hst
  have HNE := Lib.hid hst
  clear hst
  have HOB := Lib.hid (Own.new' ((w.alloc (.cells #[.bool s1, .slice A n c] 30)).alloc (.cells #[.bool s2, .slice A2 n2 c2] 30)) 30 IntCells (w.heap.size + 1 + 1) (by simp))
  have HB0 : Hid (Box2 w.heap.size (w.heap.size + 1) (.bool s1) (.slice A n c) (.bool s2) (.slice A2 n2 c2) (((w.alloc (.cells #[.bool s1, .slice A n c] 30)).alloc (.cells #[.bool s2, .slice A2 n2 c2] 30)).alloc (.cells #[.bool false, .slice none 0 0] 30))) := ⟨by go_simp, by go_simp, by go_simp, by go_simp⟩
  go_enter Tryz.func82, Tryz.ntmps82
  go_wp2_with fail
  refine (HS.out _ (H1.out.ext (by repeat (first | assumption | exact nB1 _ _ | refine nB2 ?_ | refine pw_below_drewN ?_ _ | refine nB3 ?_ (by first | omega | (simp <;> omega)) _ | refine nB4 ?_ (by first | omega | (simp <;> omega)) _ | refine nB5 ?_ (by assumption) (by first | omega | (simp <;> omega))))) (H2.out.ext (by repeat (first | assumption | exact nB1 _ _ | refine nB2 ?_ | refine pw_below_drewN ?_ _ | refine nB3 ?_ (by first | omega | (simp <;> omega)) _ | refine nB4 ?_ (by first | omega | (simp <;> omega)) _ | refine nB5 ?_ (by assumption) (by first | omega | (simp <;> omega)))))).mono ?_
  rintro e w1 ⟨val, rfl, hb1, v1, rfl, hr1⟩
  obtain ⟨A3, c3, n3, rfl, hr1⟩ := hr1.shape
  have HO1 := Lib.hid (HOB.out.ext hb1)
  have HB1 := Lib.hid (HB0.out.ext hb1)
  have hbe1 : Below w.heap.size w w1 := (by repeat (first | assumption | exact nB1 _ _ | refine nB2 ?_ | refine pw_below_drewN ?_ _ | refine nB3 ?_ (by first | omega | (simp <;> omega)) _ | refine nB4 ?_ (by first | omega | (simp <;> omega)) _ | refine nB5 ?_ (by assumption) (by first | omega | (simp <;> omega))))
  have HR1 := Lib.hid hr1
  clear hb1 hr1 HOB HB0 HS HM HF
  obtain ⟨y1, y2, y3, y4⟩ := id HB1.out
  have z1 := World.block_lt_of_cell? _ _ y1
  have z2 := World.block_lt_of_cell? _ _ y3
  simp only at z1 z2
  by_cases hle : b.natAbs ≤ a.natAbs
  ·
   rw [decide_eq_true hle]
   have HSG := Lib.hid (sg_add_le E1.out E2.out HNE.out hle)
   clear hle
   go_wp2_with fail
   refine (HF2.out _ _ _ (HR1.out.ext (by repeat (first | assumption | exact nB1 _ _ | refine nB2 ?_ | refine pw_below_drewN ?_ _ | refine nB3 ?_ (by first | omega | (simp <;> omega)) _ | refine nB4 ?_ (by first | omega | (simp <;> omega)) _ | refine nB5 ?_ (by assumption) (by first | omega | (simp <;> omega)))))).mono ?_
   rintro e wq ⟨v2, rfl, hb2, hr2⟩
   have HOWN := Lib.hid ((HO1.out.alloc _).ext hb2)
   have hq0 := HOWN.out.cell 0 _ rfl
   have hq1 := HOWN.out.cell 1 _ rfl
   have hf0 := HOWN.out.frozen 0
   have hf1 := HOWN.out.frozen 1
   obtain ⟨sb, A', c', n', rfl, hr⟩ := hr2.shape
   have HR := Lib.hid hr
   have hbe : Below w.heap.size w wq := Below.trans (hbe1.alloc hbe1.size _) (Below.mono hb2 (by have := hbe1.size; simp <;> omega))
   clear hr2 hr hb2 hbe1 HO1 HB1 y1 y2 y3 y4 z1 z2
   go_wp2
   have k := two_cells (x := .bool sb) (y := .slice A' n' c') HOWN.out rfl rfl
   refine bodyPost_ret (v := .agg #[.bool sb, .slice A' n' c']) (by simp [results, Tryz.results82, go_sem, k.1, k.2.1]) rfl ⟨_, rfl, (by repeat (first | assumption | exact nB1 _ _ | refine nB2 ?_ | refine pw_below_drewN ?_ _ | refine nB3 ?_ (by first | omega | (simp <;> omega)) _ | refine nB4 ?_ (by first | omega | (simp <;> omega)) _ | refine nB5 ?_ (by assumption) (by first | omega | (simp <;> omega)))), ?_⟩
   have hfin := int_end HOWN.out rfl rfl HR.out
   rw [HSG.out] at hfin
   exact hfin
  ·
   rw [decide_eq_false hle]
   have HSG := Lib.hid (sg_add_gt E1.out E2.out HNE.out (by omega))
   clear hle
   go_wp2_with fail
   refine (HT.out _ ((H2.out.ext hbe1).ext (by repeat (first | assumption | exact nB1 _ _ | refine nB2 ?_ | refine pw_below_drewN ?_ _ | refine nB3 ?_ (by first | omega | (simp <;> omega)) _ | refine nB4 ?_ (by first | omega | (simp <;> omega)) _ | refine nB5 ?_ (by assumption) (by first | omega | (simp <;> omega))))) ((H1.out.ext hbe1).ext (by repeat (first | assumption | exact nB1 _ _ | refine nB2 ?_ | refine pw_below_drewN ?_ _ | refine nB3 ?_ (by first | omega | (simp <;> omega)) _ | refine nB4 ?_ (by first | omega | (simp <;> omega)) _ | refine nB5 ?_ (by assumption) (by first | omega | (simp <;> omega)))))).mono ?_
   rintro e w2 ⟨val, rfl, hb2, v1, rfl, hr1⟩
   obtain ⟨A4, c4, n4, rfl, hr1⟩ := hr1.shape
   have HR2 := Lib.hid hr1
   have HO2 := Lib.hid ((HO1.out.alloc _).ext hb2)
   have hbe2 : Below w.heap.size w w2 := Below.trans (hbe1.alloc hbe1.size _) (Below.mono hb2 (by have := hbe1.size; simp <;> omega))
   have HB2 := Lib.hid ((HB1.out.ext (ext_alloc _ _)).ext hb2)
   clear hr1 y1 y2 y3 y4 z1 z2 hb2 HB1
   obtain ⟨y1, y2, y3, y4⟩ := id HB2.out
   have z1 := World.block_lt_of_cell? _ _ y1
   have z2 := World.block_lt_of_cell? _ _ y3
   simp only at z1 z2
   go_wp2_with fail
   refine (HF3.out _ _ _ (HR2.out.ext (by repeat (first | assumption | exact nB1 _ _ | refine nB2 ?_ | refine pw_below_drewN ?_ _ | refine nB3 ?_ (by first | omega | (simp <;> omega)) _ | refine nB4 ?_ (by first | omega | (simp <;> omega)) _ | refine nB5 ?_ (by assumption) (by first | omega | (simp <;> omega)))))).mono ?_
   rintro e wq ⟨v2, rfl, hb2, hr2⟩
   have HOWN := Lib.hid ((HO2.out.alloc _).ext hb2)
   have hq0 := HOWN.out.cell 0 _ rfl
   have hq1 := HOWN.out.cell 1 _ rfl
   have hf0 := HOWN.out.frozen 0
   have hf1 := HOWN.out.frozen 1
   obtain ⟨sb, A', c', n', rfl, hr⟩ := hr2.shape
   have HR := Lib.hid hr
   have hbe : Below w.heap.size w wq := Below.trans (hbe2.alloc hbe2.size _) (Below.mono hb2 (by have := hbe2.size; simp <;> omega))
   clear hr2 hr hb2 hbe1 hbe2 HO1 HO2 HB2 y1 y2 y3 y4 z1 z2
   go_wp2
   have k := two_cells (x := .bool sb) (y := .slice A' n' c') HOWN.out rfl rfl
   refine bodyPost_ret (v := .agg #[.bool sb, .slice A' n' c']) (by simp [results, Tryz.results82, go_sem, k.1, k.2.1]) rfl ⟨_, rfl, (by repeat (first | assumption | exact nB1 _ _ | refine nB2 ?_ | refine pw_below_drewN ?_ _ | refine nB3 ?_ (by first | omega | (simp <;> omega)) _ | refine nB4 ?_ (by first | omega | (simp <;> omega)) _ | refine nB5 ?_ (by assumption) (by first | omega | (simp <;> omega)))), ?_⟩
   have hfin := int_end HOWN.out rfl rfl HR.out
   rw [HSG.out] at hfin
   exact hfin
end Go.Proofs.YtadpjidakippeaaGreat

/- whole.Int: of a machine integer. -/
namespace Go.Proofs.YtadpjidakippeaaGreat
open Go.RowKit
theorem fit_word {n : Nat} (h : n < B64) : Fit n := by
 have : bl n ≤ 64 := bl_le_of_lt (k := 64) h
 unfold Fit; omega
set_option maxHeartbeats 400000 in
theorem iof_c (w : World) (z : Int) (hlo : -9223372036854775808 ≤ z) (hhi : z < 9223372036854775808) : Calls Tryz.prog 45 #[.int .i64 z] w (Post w fun r w' => rInt w' r z) := by
 have hzn : z.natAbs < B64 := by unfold B64; omega
 have HO := Lib.hid (fun W => of_c z.natAbs hzn W)
 have HF := Lib.hid (fun W v h => from_c W (decide (z < 0)) v z.natAbs h (fit_word hzn))
 have HSG := Lib.hid (sg_self z)
 have HOB := Lib.hid (Own.new w 30 IntCells)
 by_cases hz : z < 0
 ·
  rw [decide_eq_true hz] at HF HSG
  have hzd := decide_eq_true hz
  have hw1 : IntKind.u64.wrap z = z + 18446744073709551616 := by simp [IntKind.wrap, IntKind.signed, IntKind.bits]; omega
  have hw2 : IntKind.u64.wrap (-(z + 18446744073709551616)) = (z.natAbs : Int) := by simp [IntKind.wrap, IntKind.signed, IntKind.bits]; omega
  clear hz hlo hhi hzn
  go_enter Tryz.func45, Tryz.ntmps45
  go_wp2_with fail
  refine (HO.out _).mono ?_
  rintro e w1 ⟨v1, rfl, hb1, hr1⟩
  obtain ⟨A1, c1, n1, rfl, hr1⟩ := hr1.shape
  have HO1 := Lib.hid (HOB.out.ext hb1)
  have hbe1 : Below w.heap.size w w1 := (by repeat (first | assumption | exact nB1 _ _ | refine nB2 ?_ | refine pw_below_drewN ?_ _ | refine nB3 ?_ (by first | omega | (simp <;> omega)) _ | refine nB4 ?_ (by first | omega | (simp <;> omega)) _ | refine nB5 ?_ (by assumption) (by first | omega | (simp <;> omega))))
  have hsz1 := hbe1.size
  go_wp2_with fail
  refine (HF.out _ _ hr1).mono ?_
  rintro e wq ⟨v2, rfl, hb2, hr2⟩
  have HOWN := Lib.hid (HO1.out.ext hb2)
  have hq0 := HOWN.out.cell 0 _ rfl
  have hq1 := HOWN.out.cell 1 _ rfl
  have hf0 := HOWN.out.frozen 0
  have hf1 := HOWN.out.frozen 1
  obtain ⟨sb, A', c', n', rfl, hr⟩ := hr2.shape
  have HR := Lib.hid hr
  have hbe : Below w.heap.size w wq := Below.trans hbe1 (Below.mono hb2 hbe1.size)
  clear hr2 hr hr1 hb1 hb2 HO1 HOB hbe1
  go_wp2
  have k := two_cells (x := .bool sb) (y := .slice A' n' c') HOWN.out rfl rfl
  refine bodyPost_ret (v := .agg #[.bool sb, .slice A' n' c']) (by simp [results, Tryz.results45, go_sem, k.1, k.2.1]) rfl ⟨_, rfl, (by repeat (first | assumption | exact nB1 _ _ | refine nB2 ?_ | refine pw_below_drewN ?_ _ | refine nB3 ?_ (by first | omega | (simp <;> omega)) _ | refine nB4 ?_ (by first | omega | (simp <;> omega)) _ | refine nB5 ?_ (by assumption) (by first | omega | (simp <;> omega)))), ?_⟩
  have hfin := int_end HOWN.out rfl rfl HR.out
  rw [HSG.out] at hfin
  exact hfin
 ·
  rw [decide_eq_false hz] at HF HSG
  have hzd := decide_eq_false hz
  have hw1 : IntKind.u64.wrap z = (z.natAbs : Int) := by simp [IntKind.wrap, IntKind.signed, IntKind.bits]; omega
  clear hz hlo hhi hzn
  go_enter Tryz.func45, Tryz.ntmps45
  go_wp2_with fail
  refine (HO.out _).mono ?_
  rintro e w1 ⟨v1, rfl, hb1, hr1⟩
  obtain ⟨A1, c1, n1, rfl, hr1⟩ := hr1.shape
  have HO1 := Lib.hid (HOB.out.ext hb1)
  have hbe1 : Below w.heap.size w w1 := (by repeat (first | assumption | exact nB1 _ _ | refine nB2 ?_ | refine pw_below_drewN ?_ _ | refine nB3 ?_ (by first | omega | (simp <;> omega)) _ | refine nB4 ?_ (by first | omega | (simp <;> omega)) _ | refine nB5 ?_ (by assumption) (by first | omega | (simp <;> omega))))
  have hsz1 := hbe1.size
  go_wp2_with fail
  refine (HF.out _ _ hr1).mono ?_
  rintro e wq ⟨v2, rfl, hb2, hr2⟩
  have HOWN := Lib.hid (HO1.out.ext hb2)
  have hq0 := HOWN.out.cell 0 _ rfl
  have hq1 := HOWN.out.cell 1 _ rfl
  have hf0 := HOWN.out.frozen 0
  have hf1 := HOWN.out.frozen 1
  obtain ⟨sb, A', c', n', rfl, hr⟩ := hr2.shape
  have HR := Lib.hid hr
  have hbe : Below w.heap.size w wq := Below.trans hbe1 (Below.mono hb2 hbe1.size)
  clear hr2 hr hr1 hb1 hb2 HO1 HOB hbe1
  go_wp2
  have k := two_cells (x := .bool sb) (y := .slice A' n' c') HOWN.out rfl rfl
  refine bodyPost_ret (v := .agg #[.bool sb, .slice A' n' c']) (by simp [results, Tryz.results45, go_sem, k.1, k.2.1]) rfl ⟨_, rfl, (by repeat (first | assumption | exact nB1 _ _ | refine nB2 ?_ | refine pw_below_drewN ?_ _ | refine nB3 ?_ (by first | omega | (simp <;> omega)) _ | refine nB4 ?_ (by first | omega | (simp <;> omega)) _ | refine nB5 ?_ (by assumption) (by first | omega | (simp <;> omega)))), ?_⟩
  have hfin := int_end HOWN.out rfl rfl HR.out
  rw [HSG.out] at hfin
  exact hfin
end Go.Proofs.YtadpjidakippeaaGreat

/- whole.Int: as a machine integer. -/
namespace Go.Proofs.YtadpjidakippeaaGreat
open Go.RowKit
def I64 (z : Int) : Prop := -9223372036854775808 ≤ z ∧ z < 9223372036854775808
instance (z : Int) : Decidable (I64 z) := inferInstanceAs (Decidable (_ ∧ _))
def ISmallSaid (r : Value) (z : Int) : Prop := r = .tuple #[.int .i64 (if I64 z then z else 0), .bool (decide (I64 z))]
theorem ISmallSaid.yes {z : Int} (h : I64 z) : ISmallSaid (.tuple #[.int .i64 z, .bool true]) z := by unfold ISmallSaid; rw [if_pos h, decide_eq_true h]
theorem ISmallSaid.no {z : Int} (h : ¬ I64 z) : ISmallSaid (.tuple #[.int .i64 0, .bool false]) z := by unfold ISmallSaid; rw [if_neg h, decide_eq_false h]
set_option maxHeartbeats 400000 in
theorem ismall_c (w : World) (v : Value) (z : Int) (h : rInt w v z) : Calls Tryz.prog 104 #[v] w (Post w fun r _ => ISmallSaid r z) := by
 obtain ⟨A, c, n, rfl, hn⟩ := h.open
 have HS := Lib.hid (fun W h => small_c W (.agg #[.slice A n c]) z.natAbs h)
 have HN := Lib.hid hn
 clear h hn
 by_cases hB : z.natAbs < B64
 ·
  have HSaid : ∀ r, SmallSaid r z.natAbs → r = .tuple #[.int .u64 (z.natAbs : Int), .bool true] := fun r h => by unfold SmallSaid at h; rw [if_pos hB, decide_eq_true hB] at h; exact h
  have HSAID := Lib.hid HSaid
  clear HSaid
  by_cases hz : z < 0
  ·
   rw [decide_eq_true hz]
   by_cases hr : z.natAbs ≤ 9223372036854775808
   ·
    have HY := Lib.hid (ISmallSaid.yes (z := z) ⟨by omega, by omega⟩)
    have hle : ((z.natAbs : Int) ≤ 9223372036854775808) := by omega
    have hw : IntKind.i64.wrap (IntKind.u64.wrap (-(z.natAbs : Int))) = z := by simp [IntKind.wrap, IntKind.signed, IntKind.bits]; omega
    obtain ⟨m, em⟩ : ∃ m : Int, (z.natAbs : Int) = m := ⟨_, rfl⟩
    rw [em] at hle hw HSAID
    clear hz hB em hr
    have QC : Hid ((w.alloc (.cells #[.bool true, .slice A n c] 30)).cell? ⟨w.heap.size, 0, none⟩ = some (.bool true)) := Lib.hid (by go_simp)
    go_enter Tryz.func104, Tryz.ntmps104
    go_wp2_with (go_at_call 105; refine (HS.out _ (HN.out.ext (by repeat (first | assumption | exact nB1 _ _ | refine nB2 ?_ | refine pw_below_drewN ?_ _ | refine nB3 ?_ (by first | omega | (simp <;> omega)) _ | refine nB4 ?_ (by first | omega | (simp <;> omega)) _ | refine nB5 ?_ (by assumption) (by first | omega | (simp <;> omega)))))).mono ?_; rintro e w1 ⟨val, rfl, hb1, h⟩; obtain rfl := HSAID.out _ h; clear h; have qd := ext_cell hb1 QC.out)
    go_ret2
    exact ⟨_, rfl, (by repeat (first | assumption | exact nB1 _ _ | refine nB2 ?_ | refine pw_below_drewN ?_ _ | refine nB3 ?_ (by first | omega | (simp <;> omega)) _ | refine nB4 ?_ (by first | omega | (simp <;> omega)) _ | refine nB5 ?_ (by assumption) (by first | omega | (simp <;> omega)))), by first | exact HY.out | (rw [hw]; exact HY.out)⟩
   ·
    have HY := Lib.hid (ISmallSaid.no (z := z) (fun h => by have := h.1; omega))
    have hle : ¬ ((z.natAbs : Int) ≤ 9223372036854775808) := by omega
    obtain ⟨m, em⟩ : ∃ m : Int, (z.natAbs : Int) = m := ⟨_, rfl⟩
    rw [em] at hle HSAID
    clear hz hB em hr
    have QC : Hid ((w.alloc (.cells #[.bool true, .slice A n c] 30)).cell? ⟨w.heap.size, 0, none⟩ = some (.bool true)) := Lib.hid (by go_simp)
    go_enter Tryz.func104, Tryz.ntmps104
    go_wp2_with (go_at_call 105; refine (HS.out _ (HN.out.ext (by repeat (first | assumption | exact nB1 _ _ | refine nB2 ?_ | refine pw_below_drewN ?_ _ | refine nB3 ?_ (by first | omega | (simp <;> omega)) _ | refine nB4 ?_ (by first | omega | (simp <;> omega)) _ | refine nB5 ?_ (by assumption) (by first | omega | (simp <;> omega)))))).mono ?_; rintro e w1 ⟨val, rfl, hb1, h⟩; obtain rfl := HSAID.out _ h; clear h; have qd := ext_cell hb1 QC.out)
    go_ret2
    exact ⟨_, rfl, (by repeat (first | assumption | exact nB1 _ _ | refine nB2 ?_ | refine pw_below_drewN ?_ _ | refine nB3 ?_ (by first | omega | (simp <;> omega)) _ | refine nB4 ?_ (by first | omega | (simp <;> omega)) _ | refine nB5 ?_ (by assumption) (by first | omega | (simp <;> omega)))), HY.out⟩
  ·
   rw [decide_eq_false hz]
   by_cases hr : z.natAbs ≤ 9223372036854775807
   ·
    have HY := Lib.hid (ISmallSaid.yes (z := z) ⟨by omega, by omega⟩)
    have hle : (z ≤ 9223372036854775807) := by omega
    have hw : IntKind.i64.wrap z = z := by simp [IntKind.wrap, IntKind.signed, IntKind.bits]; omega
    rw [show (z.natAbs : Int) = z by omega] at HSAID
    clear hz hB hr
    have QC : Hid ((w.alloc (.cells #[.bool false, .slice A n c] 30)).cell? ⟨w.heap.size, 0, none⟩ = some (.bool false)) := Lib.hid (by go_simp)
    go_enter Tryz.func104, Tryz.ntmps104
    go_wp2_with (go_at_call 105; refine (HS.out _ (HN.out.ext (by repeat (first | assumption | exact nB1 _ _ | refine nB2 ?_ | refine pw_below_drewN ?_ _ | refine nB3 ?_ (by first | omega | (simp <;> omega)) _ | refine nB4 ?_ (by first | omega | (simp <;> omega)) _ | refine nB5 ?_ (by assumption) (by first | omega | (simp <;> omega)))))).mono ?_; rintro e w1 ⟨val, rfl, hb1, h⟩; obtain rfl := HSAID.out _ h; clear h; have qd := ext_cell hb1 QC.out)
    go_ret2
    exact ⟨_, rfl, (by repeat (first | assumption | exact nB1 _ _ | refine nB2 ?_ | refine pw_below_drewN ?_ _ | refine nB3 ?_ (by first | omega | (simp <;> omega)) _ | refine nB4 ?_ (by first | omega | (simp <;> omega)) _ | refine nB5 ?_ (by assumption) (by first | omega | (simp <;> omega)))), by first | exact HY.out | (rw [hw]; exact HY.out)⟩
   ·
    have HY := Lib.hid (ISmallSaid.no (z := z) (fun h => by have := h.2; omega))
    have hle : ¬ ((z.natAbs : Int) ≤ 9223372036854775807) := by omega
    obtain ⟨m, em⟩ : ∃ m : Int, (z.natAbs : Int) = m := ⟨_, rfl⟩
    rw [em] at hle HSAID
    clear hz hB em hr
    have QC : Hid ((w.alloc (.cells #[.bool false, .slice A n c] 30)).cell? ⟨w.heap.size, 0, none⟩ = some (.bool false)) := Lib.hid (by go_simp)
    go_enter Tryz.func104, Tryz.ntmps104
    go_wp2_with (go_at_call 105; refine (HS.out _ (HN.out.ext (by repeat (first | assumption | exact nB1 _ _ | refine nB2 ?_ | refine pw_below_drewN ?_ _ | refine nB3 ?_ (by first | omega | (simp <;> omega)) _ | refine nB4 ?_ (by first | omega | (simp <;> omega)) _ | refine nB5 ?_ (by assumption) (by first | omega | (simp <;> omega)))))).mono ?_; rintro e w1 ⟨val, rfl, hb1, h⟩; obtain rfl := HSAID.out _ h; clear h; have qd := ext_cell hb1 QC.out)
    go_ret2
    exact ⟨_, rfl, (by repeat (first | assumption | exact nB1 _ _ | refine nB2 ?_ | refine pw_below_drewN ?_ _ | refine nB3 ?_ (by first | omega | (simp <;> omega)) _ | refine nB4 ?_ (by first | omega | (simp <;> omega)) _ | refine nB5 ?_ (by assumption) (by first | omega | (simp <;> omega)))), HY.out⟩
 ·
  have HSaid : ∀ r, SmallSaid r z.natAbs → r = .tuple #[.int .u64 0, .bool false] := fun r h => by unfold SmallSaid at h; rw [if_neg hB, decide_eq_false hB] at h; exact h
  have HSAID := Lib.hid HSaid
  have HY := Lib.hid (ISmallSaid.no (z := z) (fun h => by have := h.1; have := h.2; unfold B64 at hB; omega))
  clear HSaid hB
  generalize decide (z < 0) = sb at *
  have QC : Hid ((w.alloc (.cells #[.bool sb, .slice A n c] 30)).cell? ⟨w.heap.size, 0, none⟩ = some (.bool sb)) := Lib.hid (by go_simp)
  go_enter Tryz.func104, Tryz.ntmps104
  go_wp2_with (go_at_call 105; refine (HS.out _ (HN.out.ext (by repeat (first | assumption | exact nB1 _ _ | refine nB2 ?_ | refine pw_below_drewN ?_ _ | refine nB3 ?_ (by first | omega | (simp <;> omega)) _ | refine nB4 ?_ (by first | omega | (simp <;> omega)) _ | refine nB5 ?_ (by assumption) (by first | omega | (simp <;> omega)))))).mono ?_; rintro e w1 ⟨val, rfl, hb1, h⟩; obtain rfl := HSAID.out _ h; clear h; have qd := ext_cell hb1 QC.out)
  go_ret2
  exact ⟨_, rfl, (by repeat (first | assumption | exact nB1 _ _ | refine nB2 ?_ | refine pw_below_drewN ?_ _ | refine nB3 ?_ (by first | omega | (simp <;> omega)) _ | refine nB4 ?_ (by first | omega | (simp <;> omega)) _ | refine nB5 ?_ (by assumption) (by first | omega | (simp <;> omega)))), HY.out⟩
end Go.Proofs.YtadpjidakippeaaGreat

/- A region that draws, whose last operation (it waits for all the others) may break the condition S: 'x = x.Add(y)'. -/
namespace Go.Proofs.YtadpjidakippeaaGreat
open Go.RowKit
section
variable {P : Program} {ops : Array Oper} {Q : Exit → Act → World → Prop} {S : World → Prop} {L : Nat}
/-- Like wpAnyH, but behind operation L nothing is asked. -/
def anyL (P : Program) (ops : Array Oper) (Q : Exit → Act → World → Prop) (S : World → Prop) (L : Nat) : Nat → Array Bool → Act → World → Prop
 | 0, l, a, w => Region.ready .any ops l = [] ∧ Q .normal a w
 | n + 1, l, a, w => (Region.ready .any ops l = [] → Q .normal a w) ∧
  ∀ i ∈ Region.ready .any ops l, wpOp P ops Q i (fun a' w' => (i ≠ L → S w') ∧ anyL P ops Q S L n (l.setIfInBounds i true) a' w') a w
theorem anyL_any : ∀ (n : Nat) (l : Array Bool) (a : Act) (w : World), anyL P ops Q S L n l a w → wpAny P .any ops Q n l a w
 | 0, _, _, _, h => h
 | n + 1, _, _, _, h => ⟨h.1, fun i hi => wpOp_mono (fun a' w' k => anyL_any n _ a' w' k.2) (h.2 i hi)⟩
/-- L waits for i. -/
def waits (ops : Array Oper) (L i : Nat) : Bool := match ops[L]? with
 | some o => o.after.any fun e => Region.binds .any e && e.on == i
 | none => false
theorem not_ready_of_waits {l : Array Bool} {i : Nat} (hw : waits ops L i = true) (hi : i ∈ Region.ready .any ops l) : L ∉ Region.ready .any ops l := by
 intro hL
 obtain ⟨_, o, ho, hall⟩ := mem_ready.1 hL
 have hu := (mem_ready.1 hi).1
 unfold waits at hw
 rw [ho] at hw
 simp only [Array.any_eq_true, Bool.and_eq_true, beq_iff_eq] at hw
 obtain ⟨k, hk, hb, hon⟩ := hw
 have := hall _ (Array.getElem_mem hk) hb
 rw [hon] at this
 rcases Nat.lt_or_ge i l.size with h' | h'
 · simp [h'] at hu this; rw [hu] at this; cases this
 · simp [Array.getElem?_eq_none h'] at this
theorem anyL_take {i : Nat} {o : Oper} {v : Value} (ho : ops[i]? = some o) (hs : Region.noSelect ops = true) (hwt : waits ops L i = true)
  (hQ : ∀ c a w, Q (.panic c) (a.put o.dst v) w → Q (.panic c) a w) :
  ∀ (n : Nat) (l : Array Bool) (a : Act) (w : World),
   (∀ j oj, ops[j]? = some oj → j ≠ i → l.getD j true = false → (∀ e ∈ oj.after, Region.binds .any e = true → e.on ≠ i) → o.apart ops oj = true) →
   i ∈ Region.ready .any ops l → YieldsIf P ops S o v a → S w →
   anyL P ops Q S L n (l.setIfInBounds i true) (a.put o.dst v) w → anyL P ops Q S L (n + 1) l a w
 | n, l, a, w, hfree, hr, hy, hS, H => by
  refine ⟨fun h => absurd hr (by rw [h]; simp), fun j hj => ?_⟩
  by_cases hji : j = i
  · rw [hji]; exact hy.wpOp ho hS ⟨fun _ => hS, H⟩
  have hjL : j ≠ L := fun e => not_ready_of_waits hwt hr (e ▸ hj)
  cases n with
  | zero => exact absurd (ready_mono hj hji) (by rw [H.1]; simp)
  | succ n =>
   obtain ⟨hun, oj, hoj, hall⟩ := mem_ready.1 hj
   have hu := (mem_ready.1 hr).1
   have hnot : ∀ e ∈ oj.after, Region.binds .any e = true → e.on ≠ i := by
    intro e he hb heq
    have := hall e he hb
    rw [heq] at this
    rcases Nat.lt_or_ge i l.size with h' | h'
    · simp [h'] at hu this; rw [hu] at this; cases this
    · simp [Array.getElem?_eq_none h'] at this
   have sel := Region.noSelect_spec hs
   have k := wpOp_putIf hoj (hfree j oj hoj hji hun hnot) (fun cs b => sel i o cs b ho) (fun cs b => sel j oj cs b hoj) hQ hy (H.2 j (ready_mono hj hji))
   refine wpOp_mono (fun a' w' h3 => ⟨fun _ => h3.2.1 hjL, anyL_take ho hs hwt hQ n _ a' w' (fun p op hp hpi hpu hpn => hfree p op hp hpi ?_ hpn) (ready_mono hr (Ne.symm hji)) h3.1 (h3.2.1 hjL) ?_⟩) k
   ·
    by_cases hjp : j = p
    · exact hjp ▸ hun
    · rw [getD_set_ne true hjp] at hpu; exact hpu
   · rw [Array.setIfInBounds_comm _ _ hji]; exact h3.2.2
end
section
variable {P : Program} {ops : Array Oper} {N : Act → World → Prop} {S : World → Prop} {L : Nat}
def wpL (P : Program) (ops : Array Oper) (N : Act → World → Prop) (S : World → Prop) (L : Nat) : List (Nat × Bool) → Act → World → Prop
 | [], a, w => N a w
 | (i, true) :: rest, a, w => ∃ o v, ops[i]? = some o ∧ YieldsIf P ops S o v a ∧ wpL P ops N S L rest (a.put o.dst v) w
 | (i, false) :: rest, a, w => wpOp P ops (Qn N) i (fun a' w' => (i ≠ L → S w') ∧ wpL P ops N S L rest a' w') a w
def chkL (ops : Array Oper) (L : Nat) : List (Nat × Bool) → Array Bool → Bool
 | [], l => (Region.ready .any ops l).isEmpty
 | (i, true) :: rest, l => waits ops L i && Region.free .any ops l i && (Region.ready .any ops l).contains i && chkL ops L rest (l.setIfInBounds i true)
 | (i, false) :: rest, l => (Region.ready .any ops l == [i]) && (i != L || rest.isEmpty) && chkL ops L rest (l.setIfInBounds i true)
theorem wpL_sound (hsel : Region.noSelect ops = true) : ∀ (l : List (Nat × Bool)) (listed : Array Bool) (a : Act) (w : World),
  chkL ops L l listed = true → (l ≠ [] → S w) → wpL P ops N S L l a w → anyL P ops (Qn N) S L l.length listed a w
 | [], listed, a, w, hc, _, h => ⟨by simpa [chkL] using hc, h⟩
 | (i, true) :: rest, listed, a, w, hc, hS, h => by
  obtain ⟨o, v, ho, hy, hr⟩ := h
  simp only [chkL, Bool.and_eq_true] at hc
  have hS' := hS (by simp)
  exact anyL_take ho hsel hc.1.1.1 (fun _ _ _ h => h) _ _ _ _ (Region.free_spec ho hc.1.1.2) (by simpa using hc.1.2) hy hS' (wpL_sound hsel rest _ _ _ hc.2 (fun _ => hS') hr)
 | (i, false) :: rest, listed, a, w, hc, hS, h => by
  simp only [chkL, Bool.and_eq_true, beq_iff_eq, Bool.or_eq_true, bne_iff_ne, List.isEmpty_iff] at hc
  refine ⟨fun h0 => by rw [hc.1.1] at h0; simp at h0, fun j hj => ?_⟩
  rw [hc.1.1] at hj
  obtain rfl : j = i := by simpa using hj
  refine wpOp_mono (fun a' w' h' => ⟨h'.1, wpL_sound hsel rest _ _ _ hc.2 (fun hne => ?_) h'.2⟩) h
  rcases hc.1.2 with h1 | h1
  · exact h'.1 h1
  · exact absurd h1 hne
theorem wp_hoistL {Q : Exit → Act → World → Prop} {id : Nat} {a : Act} {w : World} {l : List Oper} (ord : List (Nat × Bool)) (L : Nat) (S : World → Prop) (hm : P.follows .mixedOrders = true)
  (hc : (Region.noSelect l.toArray && (ord.length == l.length) && chkL l.toArray L ord (Array.replicate l.length false)) = true)
  (hS : S w.drew) (h : wpL P l.toArray (fun a w => Q .normal a w) S L ord a w.drew) : (Code.region id l.toArray true).wp P Q a w := by
 simp only [Bool.and_eq_true, beq_iff_eq] at hc
 refine Code.wp_mono (Q := Qn (fun a w => Q .normal a w)) (fun e a w h => by cases e <;> first | exact h | exact h.elim) ?_
 refine wp_region_any hm (anyL_any (S := S) (L := L) _ _ _ _ ?_)
 have := wpL_sound hc.1.1 ord _ a w.drew hc.2 (fun _ => hS) h
 rw [hc.1.2] at this
 simpa using this
theorem hl_nil {a : Act} {w : World} (h : N a w) : wpL P ops N S L [] a w := h
theorem hl_yes {i : Nat} {rest : List (Nat × Bool)} {a : Act} {w : World} {o : Oper} (v : Value) (ho : ops[i]? = some o) (hw : Region.wanted o (yielded ops a.tmps) = true)
 (hv : ∀ w, S w → (execOp a.eval o).run P w = .ok (.value v) w) (h : wpL P ops N S L rest (a.put o.dst v) w) : wpL P ops N S L ((i, true) :: rest) a w := ⟨o, v, ho, .inl ⟨hw, hv⟩, h⟩
theorem hl_no {i : Nat} {rest : List (Nat × Bool)} {a : Act} {w : World} {o : Oper} (ho : ops[i]? = some o) (hw : Region.wanted o (yielded ops a.tmps) = false)
 (h : wpL P ops N S L rest (a.put o.dst undef) w) : wpL P ops N S L ((i, true) :: rest) a w := ⟨o, undef, ho, .inr ⟨hw, rfl⟩, h⟩
theorem hl_eff {i : Nat} {rest : List (Nat × Bool)} {a : Act} {w : World} {o : Oper} (ho : ops[i]? = some o) (hw : Region.wanted o (yielded ops a.tmps) = true)
  (h : ∀ K : Act → World → Prop, Shut (∀ a w, S w → wpL P ops N S L rest a w → K a w) → o.wp P a w K (Qn N)) : wpL P ops N S L ((i, false) :: rest) a w := by
 show wpOp P ops (Qn N) i _ a w
 refine wpOp_step ho fun K hK => ?_
 rw [if_pos hw]
 exact h K (fun a w hs hr => hK a w ⟨fun _ => hs, hr⟩)
theorem hl_last {a : Act} {w : World} {o : Oper} (ho : ops[L]? = some o) (hw : Region.wanted o (yielded ops a.tmps) = true)
  (h : ∀ K : Act → World → Prop, Shut (∀ a w, N a w → K a w) → o.wp P a w K (Qn N)) : wpL P ops N S L [(L, false)] a w := by
 show wpOp P ops (Qn N) L _ a w
 refine wpOp_step ho fun K hK => ?_
 rw [if_pos hw]
 exact h K (fun a w hr => hK a w ⟨fun e => absurd rfl e, hr⟩)
end
end Go.Proofs.YtadpjidakippeaaGreat

/- whole.Int: division, downward. -/
namespace Go.Proofs.YtadpjidakippeaaGreat
open Go.RowKit
def IDivSaid (w' : World) (v : Value) (a b : Int) : Prop := ∃ q r, v = .tuple #[q, r, .bool (decide (b ≠ 0))] ∧ rInt w' q (Int.fdiv a b) ∧ rInt w' r (if b = 0 then 0 else Int.fmod a b)
/-- The cells that Int.Div reads. -/
structure Dv (a b n l : Nat) (s1 s2 : Bool) (vb vn vl : Value) (W : World) : Prop where
 a0 : W.cell? ⟨a, 0, none⟩ = some (.bool s1)
 b0 : W.cell? ⟨b, 0, none⟩ = some (.bool s2)
 b1 : W.cell? ⟨b, 1, none⟩ = some vb
 n0 : W.cell? ⟨n, 0, none⟩ = some vn
 l0 : W.cell? ⟨l, 0, none⟩ = some vl
theorem Dv.ext {a b n l : Nat} {s1 s2 : Bool} {vb vn vl : Value} {W W' : World} (h : Dv a b n l s1 s2 vb vn vl W) (he : Ext W W') : Dv a b n l s1 s2 vb vn vl W' :=
 ⟨ext_cell he h.a0, ext_cell he h.b0, ext_cell he h.b1, ext_cell he h.n0, ext_cell he h.l0⟩
theorem Dv.other {a b n l : Nat} {s1 s2 : Bool} {vb vn vl : Value} {W : World} (h : Dv a b n l s1 s2 vb vn vl W) {p : Addr} (v : Value) (h1 : p.block ≠ a) (h2 : p.block ≠ b) (h3 : p.block ≠ n) (h4 : p.block ≠ l) : Dv a b n l s1 s2 vb vn vl (W.setCell p v) :=
 ⟨(nC _ _ _ _ (fun e => h1 (congrArg Addr.block e))).trans h.a0, (nC _ _ _ _ (fun e => h2 (congrArg Addr.block e))).trans h.b0,
  (nC _ _ _ _ (fun e => h2 (congrArg Addr.block e))).trans h.b1, (nC _ _ _ _ (fun e => h3 (congrArg Addr.block e))).trans h.n0,
  (nC _ _ _ _ (fun e => h4 (congrArg Addr.block e))).trans h.l0⟩
/-- Two results of two cells each are stored. -/
theorem four_cells {w1 : World} {b b' : Nat} {t t' : TypeId} {x0 x1 y0 y1 x y x' y' : Value} (h : Own w1 b t [x0, x1]) (h' : Own w1 b' t' [y0, y1]) (hne : b ≠ b') (h0 : noInt x0 = true) (h1 : noInt x1 = true) (h2 : noInt y0 = true) (h3 : noInt y1 = true)
  (W : World) (hW : W = (((w1.setCell ⟨b, 0, none⟩ x).setCell ⟨b, 1, none⟩ y).setCell ⟨b', 0, none⟩ x').setCell ⟨b', 1, none⟩ y') :
  (W.cell? ⟨b, 0, none⟩ = some x ∧ W.cell? ⟨b, 1, none⟩ = some y ∧ W.cell? ⟨b', 0, none⟩ = some x' ∧ W.cell? ⟨b', 1, none⟩ = some y') ∧ ∀ v z, rInt w1 v z → rInt W v z := by
 subst hW
 have k1 := (h.set 0 x).set 1 y
 have k2 := ((k1.other (p := ⟨b', 0, none⟩) x' hne).other (p := ⟨b', 1, none⟩) y' hne)
 have l1 := ((h'.other (p := ⟨b, 0, none⟩) x (Ne.symm hne)).other (p := ⟨b, 1, none⟩) y (Ne.symm hne))
 have l2 := (l1.set 0 x').set 1 y'
 refine ⟨⟨k2.cell 0 x rfl, k2.cell 1 y rfl, l2.cell 0 x' rfl, l2.cell 1 y' rfl⟩, fun v z hv => ?_⟩
 exact (((hv.set (h.cell 0 x0 rfl) h0).set ((h.set 0 x).cell 1 x1 rfl) h1).set (l1.cell 0 y0 rfl) h2).set ((l1.set 0 x').cell 1 y1 rfl) h3
theorem fd_key (a b : Int) (hb : b ≠ 0) (q r : Int) (h : r + b * q = a) (h1 : 0 < b → 0 ≤ r ∧ r < b) (h2 : b < 0 → b < r ∧ r ≤ 0) : Int.fdiv a b = q ∧ Int.fmod a b = r := by
 rcases Int.lt_or_lt_of_ne hb with h' | h'
 · exact (Int.fdiv_fmod_unique' h').2 ⟨h, (h2 h').1, (h2 h').2⟩
 · exact (Int.fdiv_fmod_unique h').2 ⟨h, (h1 h').1, (h1 h').2⟩
theorem fd_same (a b : Int) (hb : b ≠ 0) (hs : decide (a < 0) = decide (b < 0) ∨ a.natAbs % b.natAbs = 0) :
  sg (decide (a < 0) != decide (b < 0)) (a.natAbs / b.natAbs) = Int.fdiv a b ∧ sg (decide (b < 0)) (a.natAbs % b.natAbs) = Int.fmod a b := by
 have hd := Nat.div_add_mod a.natAbs b.natAbs
 have hl := Nat.mod_lt a.natAbs (show 0 < b.natAbs by omega)
 generalize hq : a.natAbs / b.natAbs = q at *
 generalize hr : a.natAbs % b.natAbs = r at *
 have hd' : ((b.natAbs : Int) * (q : Int)) + (r : Int) = (a.natAbs : Int) := by exact_mod_cast hd
 have := fd_key a b hb (sg (decide (a < 0) != decide (b < 0)) q) (sg (decide (b < 0)) r) (by
  by_cases ha : a < 0 <;> by_cases hb' : b < 0 <;> simp [sg, ha, hb'] at hs ⊢
  · rw [show (b.natAbs : Int) = -b by omega, show (a.natAbs : Int) = -a by omega] at hd'; grind
  · rw [show (b.natAbs : Int) = b by omega, show (a.natAbs : Int) = -a by omega] at hd'; grind
  · rw [show (b.natAbs : Int) = -b by omega, show (a.natAbs : Int) = a by omega] at hd'; grind
  · rw [show (b.natAbs : Int) = b by omega, show (a.natAbs : Int) = a by omega] at hd'; grind)
  (fun h => by simp [sg, show ¬ b < 0 by omega]; omega) (fun h => by simp [sg, h]; omega)
 exact ⟨this.1.symm, this.2.symm⟩
theorem fd_diff (a b : Int) (hb : b ≠ 0) (hs : decide (a < 0) ≠ decide (b < 0)) (hr0 : a.natAbs % b.natAbs ≠ 0) :
  sg true (a.natAbs / b.natAbs + 1) = Int.fdiv a b ∧ sg (decide (b < 0)) (b.natAbs - a.natAbs % b.natAbs) = Int.fmod a b := by
 have hd := Nat.div_add_mod a.natAbs b.natAbs
 have hl := Nat.mod_lt a.natAbs (show 0 < b.natAbs by omega)
 generalize hq : a.natAbs / b.natAbs = q at *
 generalize hr : a.natAbs % b.natAbs = r at *
 have hd' : ((b.natAbs : Int) * (q : Int)) + (r : Int) = (a.natAbs : Int) := by exact_mod_cast hd
 have := fd_key a b hb (sg true (q + 1)) (sg (decide (b < 0)) (b.natAbs - r)) (by
  by_cases ha : a < 0 <;> by_cases hb' : b < 0 <;> simp [ha, hb'] at hs <;> simp [sg, hb', Int.ofNat_sub (Nat.le_of_lt hl)]
  · rw [show (b.natAbs : Int) = b by omega, show (a.natAbs : Int) = -a by omega] at *; grind
  · rw [show (b.natAbs : Int) = -b by omega, show (a.natAbs : Int) = a by omega] at *; grind)
  (fun h => by simp [sg, show ¬ b < 0 by omega]; omega) (fun h => by simp [sg, h]; omega)
 exact ⟨this.1.symm, this.2.symm⟩
def DivTo (w' : World) (v : Value) (q r : Int) : Prop := ∃ x y, v = .tuple #[x, y, .bool true] ∧ rInt w' x q ∧ rInt w' y r
set_option maxHeartbeats 1000000 in
theorem idiv_0 (w : World) (A A2 : Option Addr) (c n c2 n2 : Nat) (s1 s2 : Bool) (a : Nat) (h1 : rNat w (.agg #[.slice A n c]) a) (h2 : rNat w (.agg #[.slice A2 n2 c2]) 0) (f1 : Fit a) :
  Calls Tryz.prog 110 #[.agg #[.bool s1, .slice A n c], .agg #[.bool s2, .slice A2 n2 c2]] w (Post w fun r w' => r = .tuple #[.agg #[.bool false, .slice none 0 0], .agg #[.bool false, .slice none 0 0], .bool false]) := by
 have HM := Lib.hid (fun W h h' => div_n W (.agg #[.slice A n c]) (.agg #[.slice A2 n2 c2]) a 0 h h' f1 (show bl 0 ≤ _ by decide))
 have HOX := Lib.hid (Own.new' ((w.alloc (.cells #[.bool s1, .slice A n c] 30)).alloc (.cells #[.bool s2, .slice A2 n2 c2] 30)) 30 IntCells (w.heap.size + 1 + 1) (by simp))
 have HOY := Lib.hid (Own.new' (((w.alloc (.cells #[.bool s1, .slice A n c] 30)).alloc (.cells #[.bool s2, .slice A2 n2 c2] 30)).alloc (.cells #[.bool false, .slice none 0 0] 30)) 30 IntCells (w.heap.size + 1 + 1 + 1) (by simp))
 have HD0 : Hid ((((((w.alloc (.cells #[.bool s1, .slice A n c] 30)).alloc (.cells #[.bool s2, .slice A2 n2 c2] 30)).alloc (.cells #[.bool false, .slice none 0 0] 30)).alloc (.cells #[.bool false, .slice none 0 0] 30)).cell? ⟨w.heap.size, 0, none⟩ = some (.bool s1)) ∧
   (((((w.alloc (.cells #[.bool s1, .slice A n c] 30)).alloc (.cells #[.bool s2, .slice A2 n2 c2] 30)).alloc (.cells #[.bool false, .slice none 0 0] 30)).alloc (.cells #[.bool false, .slice none 0 0] 30)).cell? ⟨w.heap.size + 1, 0, none⟩ = some (.bool s2)) ∧
   (((((w.alloc (.cells #[.bool s1, .slice A n c] 30)).alloc (.cells #[.bool s2, .slice A2 n2 c2] 30)).alloc (.cells #[.bool false, .slice none 0 0] 30)).alloc (.cells #[.bool false, .slice none 0 0] 30)).cell? ⟨w.heap.size + 1, 1, none⟩ = some (.slice A2 n2 c2))) := ⟨by go_simp, by go_simp, by go_simp⟩
 have H1 := Lib.hid h1
 have H2 := Lib.hid h2
 clear h1 h2 f1
 go_enter Tryz.func110, Tryz.ntmps110
 go_wp2_with fail
 refine (HM.out _ (H1.out.ext (by repeat (first | assumption | exact nB1 _ _ | refine nB2 ?_ | refine pw_below_drewN ?_ _ | refine nB3 ?_ (by first | omega | (simp <;> omega)) _ | refine nB4 ?_ (by first | omega | (simp <;> omega)) _ | refine nB5 ?_ (by assumption) (by first | omega | (simp <;> omega))))) (H2.out.ext (by repeat (first | assumption | exact nB1 _ _ | refine nB2 ?_ | refine pw_below_drewN ?_ _ | refine nB3 ?_ (by first | omega | (simp <;> omega)) _ | refine nB4 ?_ (by first | omega | (simp <;> omega)) _ | refine nB5 ?_ (by assumption) (by first | omega | (simp <;> omega)))))).mono ?_
 rintro e w1 ⟨v1, rfl, hb1, q, r, rfl, hq, hr⟩
 obtain ⟨A3, c3, n3, rfl, hq⟩ := hq.shape
 obtain ⟨A4, c4, n4, rfl, hr⟩ := hr.shape
 have HX := Lib.hid ((HOX.out.alloc _).ext hb1)
 have HY := Lib.hid (HOY.out.ext hb1)
 have HA0 := Lib.hid (ext_cell hb1 HD0.out.1)
 have HB0 := Lib.hid (ext_cell hb1 HD0.out.2.1)
 have HB1 := Lib.hid (ext_cell hb1 HD0.out.2.2)
 have HQ := Lib.hid hq
 have HR := Lib.hid hr
 have x1 := HX.out.lt
 have x2 := HY.out.lt
 have x3 : w.heap.size < w1.heap.size := by omega
 have x4 : w.heap.size + 1 < w1.heap.size := by omega
 have hbe1 : Below w.heap.size w w1 := (by repeat (first | assumption | exact nB1 _ _ | refine nB2 ?_ | refine pw_below_drewN ?_ _ | refine nB3 ?_ (by first | omega | (simp <;> omega)) _ | refine nB4 ?_ (by first | omega | (simp <;> omega)) _ | refine nB5 ?_ (by assumption) (by first | omega | (simp <;> omega))))
 rw [show decide ((0:Nat) ≠ 0) = false from rfl]
 clear hb1 hq hr HOX HOY HD0
 have hq0 := HX.out.cell 0 _ rfl
 have hq1 := HX.out.cell 1 _ rfl
 have hf0 := HX.out.frozen 0
 have hf1 := HX.out.frozen 1
 have hr0 := HY.out.cell 0 _ rfl
 have hr1 := HY.out.cell 1 _ rfl
 have hg0 := HY.out.frozen 0
 have hg1 := HY.out.frozen 1
 go_wp2
 obtain ⟨⟨k1, k2, k3, k4⟩, _⟩ := four_cells (x := .bool false) (y := .slice none 0 0) (x' := .bool false) (y' := .slice none 0 0) HX.out HY.out (by omega) rfl rfl rfl rfl _ rfl
 have k1' := ext_cell (ext_alloc _ (.cells #[.slice A4 n4 c4] 28)) (ext_cell (ext_alloc _ (.cells #[.slice A3 n3 c3] 28)) k1)
 have k2' := ext_cell (ext_alloc _ (.cells #[.slice A4 n4 c4] 28)) (ext_cell (ext_alloc _ (.cells #[.slice A3 n3 c3] 28)) k2)
 have k3' := ext_cell (ext_alloc _ (.cells #[.slice A4 n4 c4] 28)) (ext_cell (ext_alloc _ (.cells #[.slice A3 n3 c3] 28)) k3)
 have k4' := ext_cell (ext_alloc _ (.cells #[.slice A4 n4 c4] 28)) (ext_cell (ext_alloc _ (.cells #[.slice A3 n3 c3] 28)) k4)
 refine bodyPost_ret (v := .tuple #[.agg #[.bool false, .slice none 0 0], .agg #[.bool false, .slice none 0 0], .bool false]) (by simp [results, Tryz.results110, go_sem, k1', k2', k3', k4']) rfl ⟨_, rfl, (by repeat (first | assumption | exact nB1 _ _ | refine nB2 ?_ | refine pw_below_drewN ?_ _ | refine nB3 ?_ (by first | omega | (simp <;> omega)) _ | refine nB4 ?_ (by first | omega | (simp <;> omega)) _ | refine nB5 ?_ (by assumption) (by first | omega | (simp <;> omega)))), rfl⟩
end Go.Proofs.YtadpjidakippeaaGreat
