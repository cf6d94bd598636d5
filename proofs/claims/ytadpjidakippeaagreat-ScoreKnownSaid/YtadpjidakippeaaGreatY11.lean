/- frac.low, by, under, Of, Num, Sign, Neg, Den. -/
import Derived.Test.YtadpjidakippeaaGreatY10
set_option linter.unusedVariables false
set_option linter.unusedSimpArgs false
namespace Go.Proofs.YtadpjidakippeaaGreat
open Go.RowKit
theorem Post.map {w w' : World} {Φ Ψ : Value → World → Prop} {e : Ending} (h : Post w Φ e w') (hm : ∀ w' v, Φ v w' → Ψ v w') : Post w Ψ e w' := by
 obtain ⟨v, he, hb, hp⟩ := h
 exact ⟨v, he, hb, hm _ _ hp⟩
theorem Fit_one : Fit 1 := by unfold Fit; rw [show bl 1 = 1 from rfl]; omega
theorem rQd.mk {w : World} {s : Bool} {u r : Value} {z : Int} {d : Nat} (h1 : rInt w (.agg #[.bool s, u]) z) (h2 : rNat w (.agg #[r]) (if d = 1 then 0 else d)) : rQd w (.agg #[.bool s, u, r]) z d := ⟨s, u, r, rfl, h1, h2⟩
set_option maxRecDepth 100000 in
set_option maxHeartbeats 1000000 in
/-- frac.low -/
theorem low_c (w : World) (vn vd : Value) (z : Int) (d : Nat) (hn : rInt w vn z) (hd : rNat w vd d) (hf : Fit d) : Calls Tryz.prog 76 #[vn, vd] w (Post w fun r w' => rQd w' r z d) := by
 obtain ⟨s, A, c, n, rfl, hn⟩ := hn.shape
 obtain ⟨B, k, m, rfl, hd⟩ := hd.shape
 have HOF := Lib.hid (fun W => of_c 1 (by decide) W)
 have HCM := Lib.hid (fun W u h h' => cmp_n W (.agg #[.slice B m k]) u d 1 h h' hf Fit_one)
 obtain ⟨t, et⟩ : ∃ t, cmpI d 1 = t := ⟨_, rfl⟩
 rw [et] at HCM
 have ht : t = 0 ↔ d = 1 := by rw [← et]; unfold cmpI; constructor <;> intro h <;> (repeat' split at h) <;> first | omega | (subst h; rfl) | skip
 have HT := Lib.hid ht
 have H1 := Lib.hid hn
 have H2 := Lib.hid hd
 have HB : Hid (Cells [(w.heap.size, 0, .bool s), (w.heap.size, 1, .slice A n c), (w.heap.size + 1, 0, .slice B m k)] (((w.alloc (.cells #[.bool s, .slice A n c] 30)).alloc (.cells #[.slice B m k] 28)).alloc (.cells #[.bool false, .slice none 0 0, .slice none 0 0] 32))) := Lib.hid (Cells.cons (by go_simp) (Cells.cons (by go_simp) (Cells.cons (by go_simp) (Cells.nil _))))
 have HO0 := Lib.hid (Own.new' ((w.alloc (.cells #[.bool s, .slice A n c] 30)).alloc (.cells #[.slice B m k] 28)) 32 [.bool false, .slice none 0 0, .slice none 0 0] (w.heap.size + 1 + 1) (by simp))
 have hbw : Below w.heap.size w (((w.alloc (.cells #[.bool s, .slice A n c] 30)).alloc (.cells #[.slice B m k] 28)).alloc (.cells #[.bool false, .slice none 0 0, .slice none 0 0] 32)) := (by repeat (first | assumption | exact nB1 _ _ | refine nB2 ?_ | refine pw_below_drewN ?_ _ | refine nB3 ?_ (by first | omega | (simp <;> omega)) _ | refine nB4 ?_ (by first | omega | (simp <;> omega)) _ | refine nB5 ?_ (by assumption) (by first | omega | (simp <;> omega))))
 clear hn hd hf et ht
 go_enter Tryz.func76, Tryz.ntmps76
 go_wp2_with fail
 generalize (((w.alloc (.cells #[.bool s, .slice A n c] 30)).alloc (.cells #[.slice B m k] 28)).alloc (.cells #[.bool false, .slice none 0 0, .slice none 0 0] 32)) = W0 at HB HO0 hbw ⊢
 replace HB := Lib.hid (HB.out.drew)
 replace HO0 := Lib.hid (HO0.out.drew)
 replace hbw := Below.drew hbw
 refine wp_hoist [(0, true), (1, false), (2, false), (3, true)] (Cells [(w.heap.size, 0, .bool s), (w.heap.size, 1, .slice A n c), (w.heap.size + 1, 0, .slice B m k)]) (by kernel_rfl) (by kernel_rfl) ?_ ?_
 · exact HB.out
 generalize W0.drew = W1 at HB HO0 hbw ⊢
 refine hz_yes (v := ?_) rfl (by kernel_rfl) (fun W hW => ?_) ?_; rotate_left; (obtain ⟨y0, y1, y2, _⟩ := hW; go_simp; try with_reducible rfl)
 (try (conv => arg 6; simp only [Act.put, gL]))
 refine hz_eff rfl (by kernel_rfl) (fun K hK => ?_)
 refine wp_call (HOF.out _) (by kernel_rfl) ?_
 rintro v1 W2 hb1 hr1
 obtain ⟨EA, Ec, En, rfl, hr1⟩ := hr1.shape
 refine hK.out _ _ ?_ ?_
 · exact HB.out.ext hb1
 clear hK K
 (try (conv => arg 6; simp only [Act.put, gL]))
 replace HB := Lib.hid (HB.out.ext hb1)
 replace HO0 := Lib.hid (HO0.out.ext hb1)
 replace hbw := nT hbw hb1
 have R1 := Lib.hid hr1
 clear hr1
 clear hb1
 refine hz_eff rfl (by kernel_rfl) (fun K hK => ?_)
 refine wp_call (HCM.out _ _ (H2.out.ext hbw) R1.out) (by kernel_rfl) ?_
 rintro v1 W3 hb1 rfl
 refine hK.out _ _ ?_ ?_
 · exact HB.out.ext hb1
 clear hK K
 (try (conv => arg 6; simp only [Act.put, gL]))
 replace HB := Lib.hid (HB.out.ext hb1)
 replace HO0 := Lib.hid (HO0.out.ext hb1)
 replace R1 := Lib.hid (R1.out.ext hb1)
 replace hbw := nT hbw hb1
 clear hb1
 refine hz_yes (v := ?_) rfl (by kernel_rfl) (fun W hW => ?_) ?_; rotate_left; (go_simp; try with_reducible rfl)
 (try (conv => arg 6; simp only [Act.put, gL]))
 refine hz_nil ?_
 by_cases h0 : d = 1
 ·
  obtain rfl := HT.out.2 h0
  have HD1 := Lib.hid h0
  clear h0
  obtain ⟨y0, y1, y2, _⟩ := id HB.out
  have q0 := HO0.out.cell 0 _ rfl
  have f0 := HO0.out.frozen 0
  have q1 := HO0.out.cell 1 _ rfl
  have f1 := HO0.out.frozen 1
  have q2 := HO0.out.cell 2 _ rfl
  have f2 := HO0.out.frozen 2
  go_wp2_with fail
  replace HB := Lib.hid (HB.out.set (p := ⟨w.heap.size + 1 + 1, 0, none⟩) (.bool s) (by simp <;> omega))
  replace HO0 := Lib.hid (HO0.out.set 0 (.bool s))
  replace R1 := Lib.hid (R1.out.set (x := .bool s) q0 rfl)
  replace hbw := nB4 hbw (show w.heap.size ≤ (⟨w.heap.size + 1 + 1, 0, none⟩ : Addr).block by simp <;> omega) (.bool s)
  replace q1 := (nC W3 ⟨w.heap.size + 1 + 1, 0, none⟩ ⟨w.heap.size + 1 + 1, 1, none⟩ (.bool s) (by simp)).trans q1
  replace q2 := (nC W3 ⟨w.heap.size + 1 + 1, 0, none⟩ ⟨w.heap.size + 1 + 1, 2, none⟩ (.bool s) (by simp)).trans q2
  replace HB := Lib.hid (HB.out.set (p := ⟨w.heap.size + 1 + 1, 1, none⟩) (.slice A n c) (by simp <;> omega))
  replace HO0 := Lib.hid (HO0.out.set 1 (.slice A n c))
  replace R1 := Lib.hid (R1.out.set (x := .slice A n c) q1 rfl)
  replace hbw := nB4 hbw (show w.heap.size ≤ (⟨w.heap.size + 1 + 1, 1, none⟩ : Addr).block by simp <;> omega) (.slice A n c)
  replace q2 := (nC (W3.setCell ⟨w.heap.size + 1 + 1, 0, none⟩ (.bool s)) ⟨w.heap.size + 1 + 1, 1, none⟩ ⟨w.heap.size + 1 + 1, 2, none⟩ (.slice A n c) (by simp)).trans q2
  replace HB := Lib.hid (HB.out.set (p := ⟨w.heap.size + 1 + 1, 2, none⟩) (.slice none 0 0) (by simp <;> omega))
  replace HO0 := Lib.hid (HO0.out.set 2 (.slice none 0 0))
  replace R1 := Lib.hid (R1.out.set (x := .slice none 0 0) q2 rfl)
  replace hbw := nB4 hbw (show w.heap.size ≤ (⟨w.heap.size + 1 + 1, 2, none⟩ : Addr).block by simp <;> omega) (.slice none 0 0)
  clear q0 f0 q1 f1 q2 f2
  replace HO0 : Hid (Own _ _ _ [.bool s, .slice A n c, .slice none 0 0]) := HO0
  generalize (((W3.setCell ⟨w.heap.size + 1 + 1, 0, none⟩ (.bool s)).setCell ⟨w.heap.size + 1 + 1, 1, none⟩ (.slice A n c)).setCell ⟨w.heap.size + 1 + 1, 2, none⟩ (.slice none 0 0)) = W4 at HB HO0 R1 hbw ⊢
  have kk0 := HO0.out.cell 0 _ rfl
  have kk1 := HO0.out.cell 1 _ rfl
  have kk2 := HO0.out.cell 2 _ rfl
  refine bodyPost_ret (v := .agg #[.bool s, .slice A n c, .slice none 0 0]) (by simp [results, Tryz.results76, go_sem, kk0, kk1, kk2]) rfl ⟨_, rfl, hbw, ?_⟩
  exact rQd.mk (H1.out.ext hbw) (by rw [if_pos HD1.out]; exact rNat.zero _)
 ·
  have h1 : (t == 0) = false := by rw [beq_eq_false_iff_ne]; exact fun e => h0 (HT.out.1 e)
  have h2 : ¬ t = 0 := fun e => h0 (HT.out.1 e)
  obtain ⟨y0, y1, y2, _⟩ := id HB.out
  have q0 := HO0.out.cell 0 _ rfl
  have f0 := HO0.out.frozen 0
  have q1 := HO0.out.cell 1 _ rfl
  have f1 := HO0.out.frozen 1
  have q2 := HO0.out.cell 2 _ rfl
  have f2 := HO0.out.frozen 2
  go_wp2_with fail
  replace HB := Lib.hid (HB.out.set (p := ⟨w.heap.size + 1 + 1, 0, none⟩) (.bool s) (by simp <;> omega))
  replace HO0 := Lib.hid (HO0.out.set 0 (.bool s))
  replace R1 := Lib.hid (R1.out.set (x := .bool s) q0 rfl)
  replace hbw := nB4 hbw (show w.heap.size ≤ (⟨w.heap.size + 1 + 1, 0, none⟩ : Addr).block by simp <;> omega) (.bool s)
  replace q1 := (nC W3 ⟨w.heap.size + 1 + 1, 0, none⟩ ⟨w.heap.size + 1 + 1, 1, none⟩ (.bool s) (by simp)).trans q1
  replace q2 := (nC W3 ⟨w.heap.size + 1 + 1, 0, none⟩ ⟨w.heap.size + 1 + 1, 2, none⟩ (.bool s) (by simp)).trans q2
  replace HB := Lib.hid (HB.out.set (p := ⟨w.heap.size + 1 + 1, 1, none⟩) (.slice A n c) (by simp <;> omega))
  replace HO0 := Lib.hid (HO0.out.set 1 (.slice A n c))
  replace R1 := Lib.hid (R1.out.set (x := .slice A n c) q1 rfl)
  replace hbw := nB4 hbw (show w.heap.size ≤ (⟨w.heap.size + 1 + 1, 1, none⟩ : Addr).block by simp <;> omega) (.slice A n c)
  replace q2 := (nC (W3.setCell ⟨w.heap.size + 1 + 1, 0, none⟩ (.bool s)) ⟨w.heap.size + 1 + 1, 1, none⟩ ⟨w.heap.size + 1 + 1, 2, none⟩ (.slice A n c) (by simp)).trans q2
  replace HB := Lib.hid (HB.out.set (p := ⟨w.heap.size + 1 + 1, 2, none⟩) (.slice B m k) (by simp <;> omega))
  replace HO0 := Lib.hid (HO0.out.set 2 (.slice B m k))
  replace R1 := Lib.hid (R1.out.set (x := .slice B m k) q2 rfl)
  replace hbw := nB4 hbw (show w.heap.size ≤ (⟨w.heap.size + 1 + 1, 2, none⟩ : Addr).block by simp <;> omega) (.slice B m k)
  clear q0 f0 q1 f1 q2 f2
  replace HO0 : Hid (Own _ _ _ [.bool s, .slice A n c, .slice B m k]) := HO0
  generalize (((W3.setCell ⟨w.heap.size + 1 + 1, 0, none⟩ (.bool s)).setCell ⟨w.heap.size + 1 + 1, 1, none⟩ (.slice A n c)).setCell ⟨w.heap.size + 1 + 1, 2, none⟩ (.slice B m k)) = W4 at HB HO0 R1 hbw ⊢
  have kk0 := HO0.out.cell 0 _ rfl
  have kk1 := HO0.out.cell 1 _ rfl
  have kk2 := HO0.out.cell 2 _ rfl
  refine bodyPost_ret (v := .agg #[.bool s, .slice A n c, .slice B m k]) (by simp [results, Tryz.results76, go_sem, kk0, kk1, kk2]) rfl ⟨_, rfl, hbw, ?_⟩
  exact rQd.mk (H1.out.ext hbw) (by rw [if_neg h0]; exact H2.out.ext hbw)
set_option maxRecDepth 100000 in
set_option maxHeartbeats 1000000 in
/-- frac.by -/
theorem by_c (w : World) (vn vd : Value) (z : Int) (d : Nat) (hn : rInt w vn z) (hd : rNat w vd d) (fz : bl z.natAbs ≤ 35184372088831) (fd : bl d ≤ 35184372088831) :
  Calls Tryz.prog 77 #[vn, vd] w (Post w fun r w' => rInt w' r (Int.fdiv z d)) := by
 obtain ⟨s, A, c, n, rfl, hn⟩ := hn.shape
 obtain ⟨B, k, m, rfl, hd⟩ := hd.shape
 have HF := Lib.hid (fun W h => from_c W false (.agg #[.slice B m k]) d h (Nat.le_trans fd (by omega)))
 have HD := Lib.hid (fun W u h h' => (idiv_c W (.agg #[.bool s, .slice A n c]) u z d h h' fz (by simpa using fd)))
 have HS := Lib.hid (show ∀ W v, IDivSaid W v z d → ∃ s1 A1 c1 n1 s2 A2 c2 n2, v = .tuple #[.agg #[.bool s1, .slice A1 n1 c1], .agg #[.bool s2, .slice A2 n2 c2], .bool (decide ((d : Int) ≠ 0))] ∧ rInt W (.agg #[.bool s1, .slice A1 n1 c1]) (Int.fdiv z d) from fun W v ⟨q, r, hv, h1, h2⟩ => by
  obtain ⟨s1, A1, c1, n1, rfl, h1⟩ := h1.shape
  obtain ⟨s2, A2, c2, n2, rfl, h2⟩ := h2.shape
  exact ⟨s1, A1, c1, n1, s2, A2, c2, n2, hv, h1⟩)
 have H1 := Lib.hid hn
 have H2 := Lib.hid hd
 have HB : Hid (Cells [(w.heap.size, 0, .bool s), (w.heap.size, 1, .slice A n c), (w.heap.size + 1, 0, .slice B m k)] (((w.alloc (.cells #[.bool s, .slice A n c] 30)).alloc (.cells #[.slice B m k] 28)).alloc (.cells #[.bool false, .slice none 0 0] 30))) := Lib.hid (Cells.cons (by go_simp) (Cells.cons (by go_simp) (Cells.cons (by go_simp) (Cells.nil _))))
 have HO0 := Lib.hid (Own.new' ((w.alloc (.cells #[.bool s, .slice A n c] 30)).alloc (.cells #[.slice B m k] 28)) 30 [.bool false, .slice none 0 0] (w.heap.size + 1 + 1) (by simp))
 have hbw : Below w.heap.size w (((w.alloc (.cells #[.bool s, .slice A n c] 30)).alloc (.cells #[.slice B m k] 28)).alloc (.cells #[.bool false, .slice none 0 0] 30)) := (by repeat (first | assumption | exact nB1 _ _ | refine nB2 ?_ | refine pw_below_drewN ?_ _ | refine nB3 ?_ (by first | omega | (simp <;> omega)) _ | refine nB4 ?_ (by first | omega | (simp <;> omega)) _ | refine nB5 ?_ (by assumption) (by first | omega | (simp <;> omega))))
 clear hn hd fz fd
 go_enter Tryz.func77, Tryz.ntmps77
 go_wp2_with fail
 generalize (((w.alloc (.cells #[.bool s, .slice A n c] 30)).alloc (.cells #[.slice B m k] 28)).alloc (.cells #[.bool false, .slice none 0 0] 30)) = W0 at HB HO0 hbw ⊢
 go_upto_region 1 with (fail)
 go_cut [5] (fun p5 WC => ∃ bH6 : Nat, ∃ bH5 : Nat, ∃ Es : Bool, ∃ EA : Option Addr, ∃ Ec : Nat, ∃ En : Nat, ∃ s1 : Bool, ∃ A1 : Option Addr, ∃ c1 : Nat, ∃ n1 : Nat, ∃ s2 : Bool, ∃ A2 : Option Addr, ∃ c2 : Nat, ∃ n2 : Nat, p5 = .pointer (some ⟨bH5, 0, none⟩) ∧ Below w.heap.size w WC ∧ Cells [(w.heap.size, 0, .bool s), (w.heap.size, 1, .slice A n c), (w.heap.size + 1, 0, .slice B m k)] WC ∧ Own WC (w.heap.size + 1 + 1) 30 [.bool false, .slice none 0 0] ∧ rInt WC (.agg #[.bool Es, .slice EA En Ec]) ((sg false d)) ∧ rInt WC (.agg #[.bool s1, .slice A1 n1 c1]) (Int.fdiv z d) ∧ Own WC (bH5) 30 [.bool s1, .slice A1 n1 c1] ∧ Own WC (bH6) 30 [.bool s2, .slice A2 n2 c2] ∧ w.heap.size + 1 + 1 < bH5 ∧ w.heap.size + 1 + 1 < bH6 ∧ bH5 ≠ bH6)
 case first =>
  replace HB := Lib.hid (HB.out.drew)
  replace HO0 := Lib.hid (HO0.out.drew)
  replace hbw := Below.drew hbw
  refine wp_hoistR (.yes 0 (.yes 1 (.act 2 (.act 3 (.yes 4 (.yes 5 (.yes 6 (.yes 7 (.act 8 (.act 9 (.act 10 (.act 11 (.act 12 (.done) (.stop)) (.stop)) (.stop)) (.stop)) (.act 9 (.act 8 (.act 10 (.act 11 (.act 12 (.done) (.stop)) (.stop)) (.stop)) (.stop)) (.stop))))))) (.act 8 (.act 3 (.yes 4 (.yes 5 (.yes 6 (.yes 7 (.act 9 (.act 10 (.act 11 (.act 12 (.done) (.stop)) (.stop)) (.stop)) (.stop)))))) (.act 9 (.act 3 (.yes 4 (.yes 5 (.yes 6 (.yes 7 (.act 10 (.act 11 (.act 12 (.done) (.stop)) (.stop)) (.stop)))))) (.stop)) (.stop))) (.act 9 (.act 3 (.yes 4 (.yes 5 (.yes 6 (.yes 7 (.act 8 (.act 10 (.act 11 (.act 12 (.done) (.stop)) (.stop)) (.stop)) (.stop)))))) (.act 8 (.act 3 (.yes 4 (.yes 5 (.yes 6 (.yes 7 (.act 10 (.act 11 (.act 12 (.done) (.stop)) (.stop)) (.stop)))))) (.stop)) (.stop))) (.stop)))) (.act 8 (.act 2 (.act 3 (.yes 4 (.yes 5 (.yes 6 (.yes 7 (.act 9 (.act 10 (.act 11 (.act 12 (.done) (.stop)) (.stop)) (.stop)) (.stop)))))) (.act 9 (.act 3 (.yes 4 (.yes 5 (.yes 6 (.yes 7 (.act 10 (.act 11 (.act 12 (.done) (.stop)) (.stop)) (.stop)))))) (.stop)) (.stop))) (.act 9 (.act 2 (.act 3 (.yes 4 (.yes 5 (.yes 6 (.yes 7 (.act 10 (.act 11 (.act 12 (.done) (.stop)) (.stop)) (.stop)))))) (.stop)) (.stop)) (.stop))) (.act 9 (.act 2 (.act 3 (.yes 4 (.yes 5 (.yes 6 (.yes 7 (.act 8 (.act 10 (.act 11 (.act 12 (.done) (.stop)) (.stop)) (.stop)) (.stop)))))) (.act 8 (.act 3 (.yes 4 (.yes 5 (.yes 6 (.yes 7 (.act 10 (.act 11 (.act 12 (.done) (.stop)) (.stop)) (.stop)))))) (.stop)) (.stop))) (.act 8 (.act 2 (.act 3 (.yes 4 (.yes 5 (.yes 6 (.yes 7 (.act 10 (.act 11 (.act 12 (.done) (.stop)) (.stop)) (.stop)))))) (.stop)) (.stop)) (.stop))) (.stop)))))) (Cells [(w.heap.size, 0, .bool s), (w.heap.size, 1, .slice A n c), (w.heap.size + 1, 0, .slice B m k)]) (by kernel_rfl) (by kernel_rfl) ?_ ?_
  · exact HB.out
  generalize W0.drew = W1 at HB HO0 hbw ⊢
  refine hr_yes (v := ?_) rfl (by kernel_rfl) (fun W hW => ?_) ?_; rotate_left; (obtain ⟨y0, y1, y2, _⟩ := hW; go_simp; try with_reducible rfl)
  (try (conv => arg 6; simp only [Act.put, gL]))
  refine hr_yes (v := ?_) rfl (by kernel_rfl) (fun W hW => ?_) ?_; rotate_left; (obtain ⟨y0, y1, y2, _⟩ := hW; go_simp; try with_reducible rfl)
  (try (conv => arg 6; simp only [Act.put, gL]))
  refine hr_eff rfl (by kernel_rfl) (fun K hK => ?_) ?_
  focus
   refine wp_call (HF.out _ (H2.out.ext hbw)) (by kernel_rfl) ?_
   rintro v1 W2 hb1 hr1
   obtain ⟨Es, EA, Ec, En, rfl, hr1⟩ := hr1.shape
   refine hK.out _ _ ?_ ?_
   · exact HB.out.ext hb1
   clear hK K
   (try (conv => arg 6; simp only [Act.put, gL]))
   replace HB := Lib.hid (HB.out.ext hb1)
   replace HO0 := Lib.hid (HO0.out.ext hb1)
   replace hbw := nT hbw hb1
   have R1 := Lib.hid hr1
   clear hr1
   clear hb1
   refine hr_eff rfl (by kernel_rfl) (fun K hK => ?_) ?_
   focus
    refine wp_call ((HD.out _ _ (H1.out.ext hbw) R1.out).mono (fun _ _ h => h.map HS.out)) (by kernel_rfl) ?_
    rintro v1 W3 hb1 ⟨s1, A1, c1, n1, s2, A2, c2, n2, rfl, hr1⟩
    refine hK.out _ _ ?_ ?_
    · exact HB.out.ext hb1
    clear hK K
    (try (conv => arg 6; simp only [Act.put, gL]))
    replace HB := Lib.hid (HB.out.ext hb1)
    replace HO0 := Lib.hid (HO0.out.ext hb1)
    replace R1 := Lib.hid (R1.out.ext hb1)
    replace hbw := nT hbw hb1
    have R2 := Lib.hid hr1
    clear hr1
    clear hb1
    refine hr_yes (v := ?_) rfl (by kernel_rfl) (fun W hW => ?_) ?_; rotate_left; (go_simp; try with_reducible rfl)
    (try (conv => arg 6; simp only [Act.put, gL]))
    refine hr_yes (v := ?_) rfl (by kernel_rfl) (fun W hW => ?_) ?_; rotate_left; (go_simp; try with_reducible rfl)
    (try (conv => arg 6; simp only [Act.put, gL]))
    refine hr_yes (v := ?_) rfl (by kernel_rfl) (fun W hW => ?_) ?_; rotate_left; (go_simp; try with_reducible rfl)
    (try (conv => arg 6; simp only [Act.put, gL]))
    refine hr_yes (v := ?_) rfl (by kernel_rfl) (fun W hW => ?_) ?_; rotate_left; (go_simp; try with_reducible rfl)
    (try (conv => arg 6; simp only [Act.put, gL]))
    refine hr_eff rfl (by kernel_rfl) (fun K hK => ?_) ?_
    focus
     go_simp
     refine hK.out _ _ ?_ ?_
     · exact HB.out.alloc _
     clear hK K
     (try (conv => arg 6; simp only [Act.put, gL]))
     have z_H5 := hbw.size
     have z_H5_HO0 := HO0.out.lt
     replace HB := Lib.hid (HB.out.alloc (.cells #[.bool false, .slice none 0 0] 30))
     replace HO0 := Lib.hid (HO0.out.alloc (.cells #[.bool false, .slice none 0 0] 30))
     replace R1 := Lib.hid (R1.out.alloc (.cells #[.bool false, .slice none 0 0] 30))
     replace R2 := Lib.hid (R2.out.alloc (.cells #[.bool false, .slice none 0 0] 30))
     replace hbw := nB3 hbw hbw.size (.cells #[.bool false, .slice none 0 0] 30)
     have H5 := Lib.hid (Own.new' W3 30 [.bool false, .slice none 0 0] W3.heap.size rfl)
     obtain ⟨bH5, e_H5⟩ : ∃ b, W3.heap.size = b := ⟨_, rfl⟩
     simp only [e_H5] at H5 z_H5 z_H5_HO0 ⊢
     generalize (W3.alloc (.cells #[.bool false, .slice none 0 0] 30)) = W4 at HB HO0 R1 R2 H5 hbw ⊢
     refine hr_one rfl (by kernel_rfl) (fun K hK => ?_)
     go_simp
     refine hK.out _ _ ?_ ?_
     · exact HB.out.alloc _
     clear hK K
     (try (conv => arg 6; simp only [Act.put, gL]))
     have z_H6 := hbw.size
     have z_H6_HO0 := HO0.out.lt
     have z_H6_H5 := H5.out.lt
     replace HB := Lib.hid (HB.out.alloc (.cells #[.bool false, .slice none 0 0] 30))
     replace HO0 := Lib.hid (HO0.out.alloc (.cells #[.bool false, .slice none 0 0] 30))
     replace R1 := Lib.hid (R1.out.alloc (.cells #[.bool false, .slice none 0 0] 30))
     replace R2 := Lib.hid (R2.out.alloc (.cells #[.bool false, .slice none 0 0] 30))
     replace H5 := Lib.hid (H5.out.alloc (.cells #[.bool false, .slice none 0 0] 30))
     replace hbw := nB3 hbw hbw.size (.cells #[.bool false, .slice none 0 0] 30)
     have H6 := Lib.hid (Own.new' W4 30 [.bool false, .slice none 0 0] W4.heap.size rfl)
     obtain ⟨bH6, e_H6⟩ : ∃ b, W4.heap.size = b := ⟨_, rfl⟩
     simp only [e_H6] at H6 z_H6 z_H6_HO0 z_H6_H5 ⊢
     generalize (W4.alloc (.cells #[.bool false, .slice none 0 0] 30)) = W5 at HB HO0 R1 R2 H5 H6 hbw ⊢
    rotate_left 1
    refine hr_eff rfl (by kernel_rfl) (fun K hK => ?_) ?_
    focus
     go_simp
     refine hK.out _ _ ?_ ?_
     · exact HB.out.alloc _
     clear hK K
     (try (conv => arg 6; simp only [Act.put, gL]))
     have z_H6 := hbw.size
     have z_H6_HO0 := HO0.out.lt
     replace HB := Lib.hid (HB.out.alloc (.cells #[.bool false, .slice none 0 0] 30))
     replace HO0 := Lib.hid (HO0.out.alloc (.cells #[.bool false, .slice none 0 0] 30))
     replace R1 := Lib.hid (R1.out.alloc (.cells #[.bool false, .slice none 0 0] 30))
     replace R2 := Lib.hid (R2.out.alloc (.cells #[.bool false, .slice none 0 0] 30))
     replace hbw := nB3 hbw hbw.size (.cells #[.bool false, .slice none 0 0] 30)
     have H6 := Lib.hid (Own.new' W3 30 [.bool false, .slice none 0 0] W3.heap.size rfl)
     obtain ⟨bH6, e_H6⟩ : ∃ b, W3.heap.size = b := ⟨_, rfl⟩
     simp only [e_H6] at H6 z_H6 z_H6_HO0 ⊢
     generalize (W3.alloc (.cells #[.bool false, .slice none 0 0] 30)) = W4 at HB HO0 R1 R2 H6 hbw ⊢
     refine hr_one rfl (by kernel_rfl) (fun K hK => ?_)
     go_simp
     refine hK.out _ _ ?_ ?_
     · exact HB.out.alloc _
     clear hK K
     (try (conv => arg 6; simp only [Act.put, gL]))
     have z_H5 := hbw.size
     have z_H5_HO0 := HO0.out.lt
     have z_H5_H6 := H6.out.lt
     replace HB := Lib.hid (HB.out.alloc (.cells #[.bool false, .slice none 0 0] 30))
     replace HO0 := Lib.hid (HO0.out.alloc (.cells #[.bool false, .slice none 0 0] 30))
     replace R1 := Lib.hid (R1.out.alloc (.cells #[.bool false, .slice none 0 0] 30))
     replace R2 := Lib.hid (R2.out.alloc (.cells #[.bool false, .slice none 0 0] 30))
     replace H6 := Lib.hid (H6.out.alloc (.cells #[.bool false, .slice none 0 0] 30))
     replace hbw := nB3 hbw hbw.size (.cells #[.bool false, .slice none 0 0] 30)
     have H5 := Lib.hid (Own.new' W4 30 [.bool false, .slice none 0 0] W4.heap.size rfl)
     obtain ⟨bH5, e_H5⟩ : ∃ b, W4.heap.size = b := ⟨_, rfl⟩
     simp only [e_H5] at H5 z_H5 z_H5_HO0 z_H5_H6 ⊢
     generalize (W4.alloc (.cells #[.bool false, .slice none 0 0] 30)) = W5 at HB HO0 R1 R2 H6 H5 hbw ⊢
    rotate_left 1
    exact trivial
   rotate_left 2
   refine hr_eff rfl (by kernel_rfl) (fun K hK => ?_) ?_
   focus
    go_simp
    refine hK.out _ _ ?_ ?_
    · exact HB.out.alloc _
    clear hK K
    (try (conv => arg 6; simp only [Act.put, gL]))
    have z_H5 := hbw.size
    have z_H5_HO0 := HO0.out.lt
    replace HB := Lib.hid (HB.out.alloc (.cells #[.bool false, .slice none 0 0] 30))
    replace HO0 := Lib.hid (HO0.out.alloc (.cells #[.bool false, .slice none 0 0] 30))
    replace R1 := Lib.hid (R1.out.alloc (.cells #[.bool false, .slice none 0 0] 30))
    replace hbw := nB3 hbw hbw.size (.cells #[.bool false, .slice none 0 0] 30)
    have H5 := Lib.hid (Own.new' W2 30 [.bool false, .slice none 0 0] W2.heap.size rfl)
    obtain ⟨bH5, e_H5⟩ : ∃ b, W2.heap.size = b := ⟨_, rfl⟩
    simp only [e_H5] at H5 z_H5 z_H5_HO0 ⊢
    generalize (W2.alloc (.cells #[.bool false, .slice none 0 0] 30)) = W3 at HB HO0 R1 H5 hbw ⊢
    refine hr_eff rfl (by kernel_rfl) (fun K hK => ?_) ?_
    focus
     refine wp_call ((HD.out _ _ (H1.out.ext hbw) R1.out).mono (fun _ _ h => h.map HS.out)) (by kernel_rfl) ?_
     rintro v1 W4 hb1 ⟨s1, A1, c1, n1, s2, A2, c2, n2, rfl, hr1⟩
     refine hK.out _ _ ?_ ?_
     · exact HB.out.ext hb1
     clear hK K
     (try (conv => arg 6; simp only [Act.put, gL]))
     replace HB := Lib.hid (HB.out.ext hb1)
     replace HO0 := Lib.hid (HO0.out.ext hb1)
     replace R1 := Lib.hid (R1.out.ext hb1)
     replace H5 := Lib.hid (H5.out.ext hb1)
     replace hbw := nT hbw hb1
     have R2 := Lib.hid hr1
     clear hr1
     clear hb1
     refine hr_yes (v := ?_) rfl (by kernel_rfl) (fun W hW => ?_) ?_; rotate_left; (go_simp; try with_reducible rfl)
     (try (conv => arg 6; simp only [Act.put, gL]))
     refine hr_yes (v := ?_) rfl (by kernel_rfl) (fun W hW => ?_) ?_; rotate_left; (go_simp; try with_reducible rfl)
     (try (conv => arg 6; simp only [Act.put, gL]))
     refine hr_yes (v := ?_) rfl (by kernel_rfl) (fun W hW => ?_) ?_; rotate_left; (go_simp; try with_reducible rfl)
     (try (conv => arg 6; simp only [Act.put, gL]))
     refine hr_yes (v := ?_) rfl (by kernel_rfl) (fun W hW => ?_) ?_; rotate_left; (go_simp; try with_reducible rfl)
     (try (conv => arg 6; simp only [Act.put, gL]))
     refine hr_one rfl (by kernel_rfl) (fun K hK => ?_)
     go_simp
     refine hK.out _ _ ?_ ?_
     · exact HB.out.alloc _
     clear hK K
     (try (conv => arg 6; simp only [Act.put, gL]))
     have z_H6 := hbw.size
     have z_H6_HO0 := HO0.out.lt
     have z_H6_H5 := H5.out.lt
     replace HB := Lib.hid (HB.out.alloc (.cells #[.bool false, .slice none 0 0] 30))
     replace HO0 := Lib.hid (HO0.out.alloc (.cells #[.bool false, .slice none 0 0] 30))
     replace R1 := Lib.hid (R1.out.alloc (.cells #[.bool false, .slice none 0 0] 30))
     replace H5 := Lib.hid (H5.out.alloc (.cells #[.bool false, .slice none 0 0] 30))
     replace R2 := Lib.hid (R2.out.alloc (.cells #[.bool false, .slice none 0 0] 30))
     replace hbw := nB3 hbw hbw.size (.cells #[.bool false, .slice none 0 0] 30)
     have H6 := Lib.hid (Own.new' W4 30 [.bool false, .slice none 0 0] W4.heap.size rfl)
     obtain ⟨bH6, e_H6⟩ : ∃ b, W4.heap.size = b := ⟨_, rfl⟩
     simp only [e_H6] at H6 z_H6 z_H6_HO0 z_H6_H5 ⊢
     generalize (W4.alloc (.cells #[.bool false, .slice none 0 0] 30)) = W5 at HB HO0 R1 H5 R2 H6 hbw ⊢
    rotate_left 1
    refine hr_eff rfl (by kernel_rfl) (fun K hK => ?_) ?_
    focus
     go_simp
     refine hK.out _ _ ?_ ?_
     · exact HB.out.alloc _
     clear hK K
     (try (conv => arg 6; simp only [Act.put, gL]))
     have z_H6 := hbw.size
     have z_H6_HO0 := HO0.out.lt
     have z_H6_H5 := H5.out.lt
     replace HB := Lib.hid (HB.out.alloc (.cells #[.bool false, .slice none 0 0] 30))
     replace HO0 := Lib.hid (HO0.out.alloc (.cells #[.bool false, .slice none 0 0] 30))
     replace R1 := Lib.hid (R1.out.alloc (.cells #[.bool false, .slice none 0 0] 30))
     replace H5 := Lib.hid (H5.out.alloc (.cells #[.bool false, .slice none 0 0] 30))
     replace hbw := nB3 hbw hbw.size (.cells #[.bool false, .slice none 0 0] 30)
     have H6 := Lib.hid (Own.new' W3 30 [.bool false, .slice none 0 0] W3.heap.size rfl)
     obtain ⟨bH6, e_H6⟩ : ∃ b, W3.heap.size = b := ⟨_, rfl⟩
     simp only [e_H6] at H6 z_H6 z_H6_HO0 z_H6_H5 ⊢
     generalize (W3.alloc (.cells #[.bool false, .slice none 0 0] 30)) = W4 at HB HO0 R1 H5 H6 hbw ⊢
     refine hr_one rfl (by kernel_rfl) (fun K hK => ?_)
     refine wp_call ((HD.out _ _ (H1.out.ext hbw) R1.out).mono (fun _ _ h => h.map HS.out)) (by kernel_rfl) ?_
     rintro v1 W5 hb1 ⟨s1, A1, c1, n1, s2, A2, c2, n2, rfl, hr1⟩
     refine hK.out _ _ ?_ ?_
     · exact HB.out.ext hb1
     clear hK K
     (try (conv => arg 6; simp only [Act.put, gL]))
     replace HB := Lib.hid (HB.out.ext hb1)
     replace HO0 := Lib.hid (HO0.out.ext hb1)
     replace R1 := Lib.hid (R1.out.ext hb1)
     replace H5 := Lib.hid (H5.out.ext hb1)
     replace H6 := Lib.hid (H6.out.ext hb1)
     replace hbw := nT hbw hb1
     have R2 := Lib.hid hr1
     clear hr1
     clear hb1
     refine hr_yes (v := ?_) rfl (by kernel_rfl) (fun W hW => ?_) ?_; rotate_left; (go_simp; try with_reducible rfl)
     (try (conv => arg 6; simp only [Act.put, gL]))
     refine hr_yes (v := ?_) rfl (by kernel_rfl) (fun W hW => ?_) ?_; rotate_left; (go_simp; try with_reducible rfl)
     (try (conv => arg 6; simp only [Act.put, gL]))
     refine hr_yes (v := ?_) rfl (by kernel_rfl) (fun W hW => ?_) ?_; rotate_left; (go_simp; try with_reducible rfl)
     (try (conv => arg 6; simp only [Act.put, gL]))
     refine hr_yes (v := ?_) rfl (by kernel_rfl) (fun W hW => ?_) ?_; rotate_left; (go_simp; try with_reducible rfl)
     (try (conv => arg 6; simp only [Act.put, gL]))
    rotate_left 1
    exact trivial
   rotate_left 2
   refine hr_eff rfl (by kernel_rfl) (fun K hK => ?_) ?_
   focus
    go_simp
    refine hK.out _ _ ?_ ?_
    · exact HB.out.alloc _
    clear hK K
    (try (conv => arg 6; simp only [Act.put, gL]))
    have z_H6 := hbw.size
    have z_H6_HO0 := HO0.out.lt
    replace HB := Lib.hid (HB.out.alloc (.cells #[.bool false, .slice none 0 0] 30))
    replace HO0 := Lib.hid (HO0.out.alloc (.cells #[.bool false, .slice none 0 0] 30))
    replace R1 := Lib.hid (R1.out.alloc (.cells #[.bool false, .slice none 0 0] 30))
    replace hbw := nB3 hbw hbw.size (.cells #[.bool false, .slice none 0 0] 30)
    have H6 := Lib.hid (Own.new' W2 30 [.bool false, .slice none 0 0] W2.heap.size rfl)
    obtain ⟨bH6, e_H6⟩ : ∃ b, W2.heap.size = b := ⟨_, rfl⟩
    simp only [e_H6] at H6 z_H6 z_H6_HO0 ⊢
    generalize (W2.alloc (.cells #[.bool false, .slice none 0 0] 30)) = W3 at HB HO0 R1 H6 hbw ⊢
    refine hr_eff rfl (by kernel_rfl) (fun K hK => ?_) ?_
    focus
     refine wp_call ((HD.out _ _ (H1.out.ext hbw) R1.out).mono (fun _ _ h => h.map HS.out)) (by kernel_rfl) ?_
     rintro v1 W4 hb1 ⟨s1, A1, c1, n1, s2, A2, c2, n2, rfl, hr1⟩
     refine hK.out _ _ ?_ ?_
     · exact HB.out.ext hb1
     clear hK K
     (try (conv => arg 6; simp only [Act.put, gL]))
     replace HB := Lib.hid (HB.out.ext hb1)
     replace HO0 := Lib.hid (HO0.out.ext hb1)
     replace R1 := Lib.hid (R1.out.ext hb1)
     replace H6 := Lib.hid (H6.out.ext hb1)
     replace hbw := nT hbw hb1
     have R2 := Lib.hid hr1
     clear hr1
     clear hb1
     refine hr_yes (v := ?_) rfl (by kernel_rfl) (fun W hW => ?_) ?_; rotate_left; (go_simp; try with_reducible rfl)
     (try (conv => arg 6; simp only [Act.put, gL]))
     refine hr_yes (v := ?_) rfl (by kernel_rfl) (fun W hW => ?_) ?_; rotate_left; (go_simp; try with_reducible rfl)
     (try (conv => arg 6; simp only [Act.put, gL]))
     refine hr_yes (v := ?_) rfl (by kernel_rfl) (fun W hW => ?_) ?_; rotate_left; (go_simp; try with_reducible rfl)
     (try (conv => arg 6; simp only [Act.put, gL]))
     refine hr_yes (v := ?_) rfl (by kernel_rfl) (fun W hW => ?_) ?_; rotate_left; (go_simp; try with_reducible rfl)
     (try (conv => arg 6; simp only [Act.put, gL]))
     refine hr_one rfl (by kernel_rfl) (fun K hK => ?_)
     go_simp
     refine hK.out _ _ ?_ ?_
     · exact HB.out.alloc _
     clear hK K
     (try (conv => arg 6; simp only [Act.put, gL]))
     have z_H5 := hbw.size
     have z_H5_HO0 := HO0.out.lt
     have z_H5_H6 := H6.out.lt
     replace HB := Lib.hid (HB.out.alloc (.cells #[.bool false, .slice none 0 0] 30))
     replace HO0 := Lib.hid (HO0.out.alloc (.cells #[.bool false, .slice none 0 0] 30))
     replace R1 := Lib.hid (R1.out.alloc (.cells #[.bool false, .slice none 0 0] 30))
     replace H6 := Lib.hid (H6.out.alloc (.cells #[.bool false, .slice none 0 0] 30))
     replace R2 := Lib.hid (R2.out.alloc (.cells #[.bool false, .slice none 0 0] 30))
     replace hbw := nB3 hbw hbw.size (.cells #[.bool false, .slice none 0 0] 30)
     have H5 := Lib.hid (Own.new' W4 30 [.bool false, .slice none 0 0] W4.heap.size rfl)
     obtain ⟨bH5, e_H5⟩ : ∃ b, W4.heap.size = b := ⟨_, rfl⟩
     simp only [e_H5] at H5 z_H5 z_H5_HO0 z_H5_H6 ⊢
     generalize (W4.alloc (.cells #[.bool false, .slice none 0 0] 30)) = W5 at HB HO0 R1 H6 R2 H5 hbw ⊢
    rotate_left 1
    refine hr_eff rfl (by kernel_rfl) (fun K hK => ?_) ?_
    focus
     go_simp
     refine hK.out _ _ ?_ ?_
     · exact HB.out.alloc _
     clear hK K
     (try (conv => arg 6; simp only [Act.put, gL]))
     have z_H5 := hbw.size
     have z_H5_HO0 := HO0.out.lt
     have z_H5_H6 := H6.out.lt
     replace HB := Lib.hid (HB.out.alloc (.cells #[.bool false, .slice none 0 0] 30))
     replace HO0 := Lib.hid (HO0.out.alloc (.cells #[.bool false, .slice none 0 0] 30))
     replace R1 := Lib.hid (R1.out.alloc (.cells #[.bool false, .slice none 0 0] 30))
     replace H6 := Lib.hid (H6.out.alloc (.cells #[.bool false, .slice none 0 0] 30))
     replace hbw := nB3 hbw hbw.size (.cells #[.bool false, .slice none 0 0] 30)
     have H5 := Lib.hid (Own.new' W3 30 [.bool false, .slice none 0 0] W3.heap.size rfl)
     obtain ⟨bH5, e_H5⟩ : ∃ b, W3.heap.size = b := ⟨_, rfl⟩
     simp only [e_H5] at H5 z_H5 z_H5_HO0 z_H5_H6 ⊢
     generalize (W3.alloc (.cells #[.bool false, .slice none 0 0] 30)) = W4 at HB HO0 R1 H6 H5 hbw ⊢
     refine hr_one rfl (by kernel_rfl) (fun K hK => ?_)
     refine wp_call ((HD.out _ _ (H1.out.ext hbw) R1.out).mono (fun _ _ h => h.map HS.out)) (by kernel_rfl) ?_
     rintro v1 W5 hb1 ⟨s1, A1, c1, n1, s2, A2, c2, n2, rfl, hr1⟩
     refine hK.out _ _ ?_ ?_
     · exact HB.out.ext hb1
     clear hK K
     (try (conv => arg 6; simp only [Act.put, gL]))
     replace HB := Lib.hid (HB.out.ext hb1)
     replace HO0 := Lib.hid (HO0.out.ext hb1)
     replace R1 := Lib.hid (R1.out.ext hb1)
     replace H6 := Lib.hid (H6.out.ext hb1)
     replace H5 := Lib.hid (H5.out.ext hb1)
     replace hbw := nT hbw hb1
     have R2 := Lib.hid hr1
     clear hr1
     clear hb1
     refine hr_yes (v := ?_) rfl (by kernel_rfl) (fun W hW => ?_) ?_; rotate_left; (go_simp; try with_reducible rfl)
     (try (conv => arg 6; simp only [Act.put, gL]))
     refine hr_yes (v := ?_) rfl (by kernel_rfl) (fun W hW => ?_) ?_; rotate_left; (go_simp; try with_reducible rfl)
     (try (conv => arg 6; simp only [Act.put, gL]))
     refine hr_yes (v := ?_) rfl (by kernel_rfl) (fun W hW => ?_) ?_; rotate_left; (go_simp; try with_reducible rfl)
     (try (conv => arg 6; simp only [Act.put, gL]))
     refine hr_yes (v := ?_) rfl (by kernel_rfl) (fun W hW => ?_) ?_; rotate_left; (go_simp; try with_reducible rfl)
     (try (conv => arg 6; simp only [Act.put, gL]))
    rotate_left 1
    exact trivial
   rotate_left 2
   exact trivial
  rotate_left 6
  refine hr_eff rfl (by kernel_rfl) (fun K hK => ?_) ?_
  focus
   go_simp
   refine hK.out _ _ ?_ ?_
   · exact HB.out.alloc _
   clear hK K
   (try (conv => arg 6; simp only [Act.put, gL]))
   have z_H5 := hbw.size
   have z_H5_HO0 := HO0.out.lt
   replace HB := Lib.hid (HB.out.alloc (.cells #[.bool false, .slice none 0 0] 30))
   replace HO0 := Lib.hid (HO0.out.alloc (.cells #[.bool false, .slice none 0 0] 30))
   replace hbw := nB3 hbw hbw.size (.cells #[.bool false, .slice none 0 0] 30)
   have H5 := Lib.hid (Own.new' W1 30 [.bool false, .slice none 0 0] W1.heap.size rfl)
   obtain ⟨bH5, e_H5⟩ : ∃ b, W1.heap.size = b := ⟨_, rfl⟩
   simp only [e_H5] at H5 z_H5 z_H5_HO0 ⊢
   generalize (W1.alloc (.cells #[.bool false, .slice none 0 0] 30)) = W2 at HB HO0 H5 hbw ⊢
   refine hr_eff rfl (by kernel_rfl) (fun K hK => ?_) ?_
   focus
    refine wp_call (HF.out _ (H2.out.ext hbw)) (by kernel_rfl) ?_
    rintro v1 W3 hb1 hr1
    obtain ⟨Es, EA, Ec, En, rfl, hr1⟩ := hr1.shape
    refine hK.out _ _ ?_ ?_
    · exact HB.out.ext hb1
    clear hK K
    (try (conv => arg 6; simp only [Act.put, gL]))
    replace HB := Lib.hid (HB.out.ext hb1)
    replace HO0 := Lib.hid (HO0.out.ext hb1)
    replace H5 := Lib.hid (H5.out.ext hb1)
    replace hbw := nT hbw hb1
    have R1 := Lib.hid hr1
    clear hr1
    clear hb1
    refine hr_eff rfl (by kernel_rfl) (fun K hK => ?_) ?_
    focus
     refine wp_call ((HD.out _ _ (H1.out.ext hbw) R1.out).mono (fun _ _ h => h.map HS.out)) (by kernel_rfl) ?_
     rintro v1 W4 hb1 ⟨s1, A1, c1, n1, s2, A2, c2, n2, rfl, hr1⟩
     refine hK.out _ _ ?_ ?_
     · exact HB.out.ext hb1
     clear hK K
     (try (conv => arg 6; simp only [Act.put, gL]))
     replace HB := Lib.hid (HB.out.ext hb1)
     replace HO0 := Lib.hid (HO0.out.ext hb1)
     replace H5 := Lib.hid (H5.out.ext hb1)
     replace R1 := Lib.hid (R1.out.ext hb1)
     replace hbw := nT hbw hb1
     have R2 := Lib.hid hr1
     clear hr1
     clear hb1
     refine hr_yes (v := ?_) rfl (by kernel_rfl) (fun W hW => ?_) ?_; rotate_left; (go_simp; try with_reducible rfl)
     (try (conv => arg 6; simp only [Act.put, gL]))
     refine hr_yes (v := ?_) rfl (by kernel_rfl) (fun W hW => ?_) ?_; rotate_left; (go_simp; try with_reducible rfl)
     (try (conv => arg 6; simp only [Act.put, gL]))
     refine hr_yes (v := ?_) rfl (by kernel_rfl) (fun W hW => ?_) ?_; rotate_left; (go_simp; try with_reducible rfl)
     (try (conv => arg 6; simp only [Act.put, gL]))
     refine hr_yes (v := ?_) rfl (by kernel_rfl) (fun W hW => ?_) ?_; rotate_left; (go_simp; try with_reducible rfl)
     (try (conv => arg 6; simp only [Act.put, gL]))
     refine hr_one rfl (by kernel_rfl) (fun K hK => ?_)
     go_simp
     refine hK.out _ _ ?_ ?_
     · exact HB.out.alloc _
     clear hK K
     (try (conv => arg 6; simp only [Act.put, gL]))
     have z_H6 := hbw.size
     have z_H6_HO0 := HO0.out.lt
     have z_H6_H5 := H5.out.lt
     replace HB := Lib.hid (HB.out.alloc (.cells #[.bool false, .slice none 0 0] 30))
     replace HO0 := Lib.hid (HO0.out.alloc (.cells #[.bool false, .slice none 0 0] 30))
     replace H5 := Lib.hid (H5.out.alloc (.cells #[.bool false, .slice none 0 0] 30))
     replace R1 := Lib.hid (R1.out.alloc (.cells #[.bool false, .slice none 0 0] 30))
     replace R2 := Lib.hid (R2.out.alloc (.cells #[.bool false, .slice none 0 0] 30))
     replace hbw := nB3 hbw hbw.size (.cells #[.bool false, .slice none 0 0] 30)
     have H6 := Lib.hid (Own.new' W4 30 [.bool false, .slice none 0 0] W4.heap.size rfl)
     obtain ⟨bH6, e_H6⟩ : ∃ b, W4.heap.size = b := ⟨_, rfl⟩
     simp only [e_H6] at H6 z_H6 z_H6_HO0 z_H6_H5 ⊢
     generalize (W4.alloc (.cells #[.bool false, .slice none 0 0] 30)) = W5 at HB HO0 H5 R1 R2 H6 hbw ⊢
    rotate_left 1
    refine hr_eff rfl (by kernel_rfl) (fun K hK => ?_) ?_
    focus
     go_simp
     refine hK.out _ _ ?_ ?_
     · exact HB.out.alloc _
     clear hK K
     (try (conv => arg 6; simp only [Act.put, gL]))
     have z_H6 := hbw.size
     have z_H6_HO0 := HO0.out.lt
     have z_H6_H5 := H5.out.lt
     replace HB := Lib.hid (HB.out.alloc (.cells #[.bool false, .slice none 0 0] 30))
     replace HO0 := Lib.hid (HO0.out.alloc (.cells #[.bool false, .slice none 0 0] 30))
     replace H5 := Lib.hid (H5.out.alloc (.cells #[.bool false, .slice none 0 0] 30))
     replace R1 := Lib.hid (R1.out.alloc (.cells #[.bool false, .slice none 0 0] 30))
     replace hbw := nB3 hbw hbw.size (.cells #[.bool false, .slice none 0 0] 30)
     have H6 := Lib.hid (Own.new' W3 30 [.bool false, .slice none 0 0] W3.heap.size rfl)
     obtain ⟨bH6, e_H6⟩ : ∃ b, W3.heap.size = b := ⟨_, rfl⟩
     simp only [e_H6] at H6 z_H6 z_H6_HO0 z_H6_H5 ⊢
     generalize (W3.alloc (.cells #[.bool false, .slice none 0 0] 30)) = W4 at HB HO0 H5 R1 H6 hbw ⊢
     refine hr_one rfl (by kernel_rfl) (fun K hK => ?_)
     refine wp_call ((HD.out _ _ (H1.out.ext hbw) R1.out).mono (fun _ _ h => h.map HS.out)) (by kernel_rfl) ?_
     rintro v1 W5 hb1 ⟨s1, A1, c1, n1, s2, A2, c2, n2, rfl, hr1⟩
     refine hK.out _ _ ?_ ?_
     · exact HB.out.ext hb1
     clear hK K
     (try (conv => arg 6; simp only [Act.put, gL]))
     replace HB := Lib.hid (HB.out.ext hb1)
     replace HO0 := Lib.hid (HO0.out.ext hb1)
     replace H5 := Lib.hid (H5.out.ext hb1)
     replace R1 := Lib.hid (R1.out.ext hb1)
     replace H6 := Lib.hid (H6.out.ext hb1)
     replace hbw := nT hbw hb1
     have R2 := Lib.hid hr1
     clear hr1
     clear hb1
     refine hr_yes (v := ?_) rfl (by kernel_rfl) (fun W hW => ?_) ?_; rotate_left; (go_simp; try with_reducible rfl)
     (try (conv => arg 6; simp only [Act.put, gL]))
     refine hr_yes (v := ?_) rfl (by kernel_rfl) (fun W hW => ?_) ?_; rotate_left; (go_simp; try with_reducible rfl)
     (try (conv => arg 6; simp only [Act.put, gL]))
     refine hr_yes (v := ?_) rfl (by kernel_rfl) (fun W hW => ?_) ?_; rotate_left; (go_simp; try with_reducible rfl)
     (try (conv => arg 6; simp only [Act.put, gL]))
     refine hr_yes (v := ?_) rfl (by kernel_rfl) (fun W hW => ?_) ?_; rotate_left; (go_simp; try with_reducible rfl)
     (try (conv => arg 6; simp only [Act.put, gL]))
    rotate_left 1
    exact trivial
   rotate_left 2
   refine hr_eff rfl (by kernel_rfl) (fun K hK => ?_) ?_
   focus
    go_simp
    refine hK.out _ _ ?_ ?_
    · exact HB.out.alloc _
    clear hK K
    (try (conv => arg 6; simp only [Act.put, gL]))
    have z_H6 := hbw.size
    have z_H6_HO0 := HO0.out.lt
    have z_H6_H5 := H5.out.lt
    replace HB := Lib.hid (HB.out.alloc (.cells #[.bool false, .slice none 0 0] 30))
    replace HO0 := Lib.hid (HO0.out.alloc (.cells #[.bool false, .slice none 0 0] 30))
    replace H5 := Lib.hid (H5.out.alloc (.cells #[.bool false, .slice none 0 0] 30))
    replace hbw := nB3 hbw hbw.size (.cells #[.bool false, .slice none 0 0] 30)
    have H6 := Lib.hid (Own.new' W2 30 [.bool false, .slice none 0 0] W2.heap.size rfl)
    obtain ⟨bH6, e_H6⟩ : ∃ b, W2.heap.size = b := ⟨_, rfl⟩
    simp only [e_H6] at H6 z_H6 z_H6_HO0 z_H6_H5 ⊢
    generalize (W2.alloc (.cells #[.bool false, .slice none 0 0] 30)) = W3 at HB HO0 H5 H6 hbw ⊢
    refine hr_one rfl (by kernel_rfl) (fun K hK => ?_)
    refine wp_call (HF.out _ (H2.out.ext hbw)) (by kernel_rfl) ?_
    rintro v1 W4 hb1 hr1
    obtain ⟨Es, EA, Ec, En, rfl, hr1⟩ := hr1.shape
    refine hK.out _ _ ?_ ?_
    · exact HB.out.ext hb1
    clear hK K
    (try (conv => arg 6; simp only [Act.put, gL]))
    replace HB := Lib.hid (HB.out.ext hb1)
    replace HO0 := Lib.hid (HO0.out.ext hb1)
    replace H5 := Lib.hid (H5.out.ext hb1)
    replace H6 := Lib.hid (H6.out.ext hb1)
    replace hbw := nT hbw hb1
    have R1 := Lib.hid hr1
    clear hr1
    clear hb1
    refine hr_one rfl (by kernel_rfl) (fun K hK => ?_)
    refine wp_call ((HD.out _ _ (H1.out.ext hbw) R1.out).mono (fun _ _ h => h.map HS.out)) (by kernel_rfl) ?_
    rintro v1 W5 hb1 ⟨s1, A1, c1, n1, s2, A2, c2, n2, rfl, hr1⟩
    refine hK.out _ _ ?_ ?_
    · exact HB.out.ext hb1
    clear hK K
    (try (conv => arg 6; simp only [Act.put, gL]))
    replace HB := Lib.hid (HB.out.ext hb1)
    replace HO0 := Lib.hid (HO0.out.ext hb1)
    replace H5 := Lib.hid (H5.out.ext hb1)
    replace H6 := Lib.hid (H6.out.ext hb1)
    replace R1 := Lib.hid (R1.out.ext hb1)
    replace hbw := nT hbw hb1
    have R2 := Lib.hid hr1
    clear hr1
    clear hb1
    refine hr_yes (v := ?_) rfl (by kernel_rfl) (fun W hW => ?_) ?_; rotate_left; (go_simp; try with_reducible rfl)
    (try (conv => arg 6; simp only [Act.put, gL]))
    refine hr_yes (v := ?_) rfl (by kernel_rfl) (fun W hW => ?_) ?_; rotate_left; (go_simp; try with_reducible rfl)
    (try (conv => arg 6; simp only [Act.put, gL]))
    refine hr_yes (v := ?_) rfl (by kernel_rfl) (fun W hW => ?_) ?_; rotate_left; (go_simp; try with_reducible rfl)
    (try (conv => arg 6; simp only [Act.put, gL]))
    refine hr_yes (v := ?_) rfl (by kernel_rfl) (fun W hW => ?_) ?_; rotate_left; (go_simp; try with_reducible rfl)
    (try (conv => arg 6; simp only [Act.put, gL]))
   rotate_left 1
   exact trivial
  rotate_left 3
  refine hr_eff rfl (by kernel_rfl) (fun K hK => ?_) ?_
  focus
   go_simp
   refine hK.out _ _ ?_ ?_
   · exact HB.out.alloc _
   clear hK K
   (try (conv => arg 6; simp only [Act.put, gL]))
   have z_H6 := hbw.size
   have z_H6_HO0 := HO0.out.lt
   replace HB := Lib.hid (HB.out.alloc (.cells #[.bool false, .slice none 0 0] 30))
   replace HO0 := Lib.hid (HO0.out.alloc (.cells #[.bool false, .slice none 0 0] 30))
   replace hbw := nB3 hbw hbw.size (.cells #[.bool false, .slice none 0 0] 30)
   have H6 := Lib.hid (Own.new' W1 30 [.bool false, .slice none 0 0] W1.heap.size rfl)
   obtain ⟨bH6, e_H6⟩ : ∃ b, W1.heap.size = b := ⟨_, rfl⟩
   simp only [e_H6] at H6 z_H6 z_H6_HO0 ⊢
   generalize (W1.alloc (.cells #[.bool false, .slice none 0 0] 30)) = W2 at HB HO0 H6 hbw ⊢
   refine hr_eff rfl (by kernel_rfl) (fun K hK => ?_) ?_
   focus
    refine wp_call (HF.out _ (H2.out.ext hbw)) (by kernel_rfl) ?_
    rintro v1 W3 hb1 hr1
    obtain ⟨Es, EA, Ec, En, rfl, hr1⟩ := hr1.shape
    refine hK.out _ _ ?_ ?_
    · exact HB.out.ext hb1
    clear hK K
    (try (conv => arg 6; simp only [Act.put, gL]))
    replace HB := Lib.hid (HB.out.ext hb1)
    replace HO0 := Lib.hid (HO0.out.ext hb1)
    replace H6 := Lib.hid (H6.out.ext hb1)
    replace hbw := nT hbw hb1
    have R1 := Lib.hid hr1
    clear hr1
    clear hb1
    refine hr_eff rfl (by kernel_rfl) (fun K hK => ?_) ?_
    focus
     refine wp_call ((HD.out _ _ (H1.out.ext hbw) R1.out).mono (fun _ _ h => h.map HS.out)) (by kernel_rfl) ?_
     rintro v1 W4 hb1 ⟨s1, A1, c1, n1, s2, A2, c2, n2, rfl, hr1⟩
     refine hK.out _ _ ?_ ?_
     · exact HB.out.ext hb1
     clear hK K
     (try (conv => arg 6; simp only [Act.put, gL]))
     replace HB := Lib.hid (HB.out.ext hb1)
     replace HO0 := Lib.hid (HO0.out.ext hb1)
     replace H6 := Lib.hid (H6.out.ext hb1)
     replace R1 := Lib.hid (R1.out.ext hb1)
     replace hbw := nT hbw hb1
     have R2 := Lib.hid hr1
     clear hr1
     clear hb1
     refine hr_yes (v := ?_) rfl (by kernel_rfl) (fun W hW => ?_) ?_; rotate_left; (go_simp; try with_reducible rfl)
     (try (conv => arg 6; simp only [Act.put, gL]))
     refine hr_yes (v := ?_) rfl (by kernel_rfl) (fun W hW => ?_) ?_; rotate_left; (go_simp; try with_reducible rfl)
     (try (conv => arg 6; simp only [Act.put, gL]))
     refine hr_yes (v := ?_) rfl (by kernel_rfl) (fun W hW => ?_) ?_; rotate_left; (go_simp; try with_reducible rfl)
     (try (conv => arg 6; simp only [Act.put, gL]))
     refine hr_yes (v := ?_) rfl (by kernel_rfl) (fun W hW => ?_) ?_; rotate_left; (go_simp; try with_reducible rfl)
     (try (conv => arg 6; simp only [Act.put, gL]))
     refine hr_one rfl (by kernel_rfl) (fun K hK => ?_)
     go_simp
     refine hK.out _ _ ?_ ?_
     · exact HB.out.alloc _
     clear hK K
     (try (conv => arg 6; simp only [Act.put, gL]))
     have z_H5 := hbw.size
     have z_H5_HO0 := HO0.out.lt
     have z_H5_H6 := H6.out.lt
     replace HB := Lib.hid (HB.out.alloc (.cells #[.bool false, .slice none 0 0] 30))
     replace HO0 := Lib.hid (HO0.out.alloc (.cells #[.bool false, .slice none 0 0] 30))
     replace H6 := Lib.hid (H6.out.alloc (.cells #[.bool false, .slice none 0 0] 30))
     replace R1 := Lib.hid (R1.out.alloc (.cells #[.bool false, .slice none 0 0] 30))
     replace R2 := Lib.hid (R2.out.alloc (.cells #[.bool false, .slice none 0 0] 30))
     replace hbw := nB3 hbw hbw.size (.cells #[.bool false, .slice none 0 0] 30)
     have H5 := Lib.hid (Own.new' W4 30 [.bool false, .slice none 0 0] W4.heap.size rfl)
     obtain ⟨bH5, e_H5⟩ : ∃ b, W4.heap.size = b := ⟨_, rfl⟩
     simp only [e_H5] at H5 z_H5 z_H5_HO0 z_H5_H6 ⊢
     generalize (W4.alloc (.cells #[.bool false, .slice none 0 0] 30)) = W5 at HB HO0 H6 R1 R2 H5 hbw ⊢
    rotate_left 1
    refine hr_eff rfl (by kernel_rfl) (fun K hK => ?_) ?_
    focus
     go_simp
     refine hK.out _ _ ?_ ?_
     · exact HB.out.alloc _
     clear hK K
     (try (conv => arg 6; simp only [Act.put, gL]))
     have z_H5 := hbw.size
     have z_H5_HO0 := HO0.out.lt
     have z_H5_H6 := H6.out.lt
     replace HB := Lib.hid (HB.out.alloc (.cells #[.bool false, .slice none 0 0] 30))
     replace HO0 := Lib.hid (HO0.out.alloc (.cells #[.bool false, .slice none 0 0] 30))
     replace H6 := Lib.hid (H6.out.alloc (.cells #[.bool false, .slice none 0 0] 30))
     replace R1 := Lib.hid (R1.out.alloc (.cells #[.bool false, .slice none 0 0] 30))
     replace hbw := nB3 hbw hbw.size (.cells #[.bool false, .slice none 0 0] 30)
     have H5 := Lib.hid (Own.new' W3 30 [.bool false, .slice none 0 0] W3.heap.size rfl)
     obtain ⟨bH5, e_H5⟩ : ∃ b, W3.heap.size = b := ⟨_, rfl⟩
     simp only [e_H5] at H5 z_H5 z_H5_HO0 z_H5_H6 ⊢
     generalize (W3.alloc (.cells #[.bool false, .slice none 0 0] 30)) = W4 at HB HO0 H6 R1 H5 hbw ⊢
     refine hr_one rfl (by kernel_rfl) (fun K hK => ?_)
     refine wp_call ((HD.out _ _ (H1.out.ext hbw) R1.out).mono (fun _ _ h => h.map HS.out)) (by kernel_rfl) ?_
     rintro v1 W5 hb1 ⟨s1, A1, c1, n1, s2, A2, c2, n2, rfl, hr1⟩
     refine hK.out _ _ ?_ ?_
     · exact HB.out.ext hb1
     clear hK K
     (try (conv => arg 6; simp only [Act.put, gL]))
     replace HB := Lib.hid (HB.out.ext hb1)
     replace HO0 := Lib.hid (HO0.out.ext hb1)
     replace H6 := Lib.hid (H6.out.ext hb1)
     replace R1 := Lib.hid (R1.out.ext hb1)
     replace H5 := Lib.hid (H5.out.ext hb1)
     replace hbw := nT hbw hb1
     have R2 := Lib.hid hr1
     clear hr1
     clear hb1
     refine hr_yes (v := ?_) rfl (by kernel_rfl) (fun W hW => ?_) ?_; rotate_left; (go_simp; try with_reducible rfl)
     (try (conv => arg 6; simp only [Act.put, gL]))
     refine hr_yes (v := ?_) rfl (by kernel_rfl) (fun W hW => ?_) ?_; rotate_left; (go_simp; try with_reducible rfl)
     (try (conv => arg 6; simp only [Act.put, gL]))
     refine hr_yes (v := ?_) rfl (by kernel_rfl) (fun W hW => ?_) ?_; rotate_left; (go_simp; try with_reducible rfl)
     (try (conv => arg 6; simp only [Act.put, gL]))
     refine hr_yes (v := ?_) rfl (by kernel_rfl) (fun W hW => ?_) ?_; rotate_left; (go_simp; try with_reducible rfl)
     (try (conv => arg 6; simp only [Act.put, gL]))
    rotate_left 1
    exact trivial
   rotate_left 2
   refine hr_eff rfl (by kernel_rfl) (fun K hK => ?_) ?_
   focus
    go_simp
    refine hK.out _ _ ?_ ?_
    · exact HB.out.alloc _
    clear hK K
    (try (conv => arg 6; simp only [Act.put, gL]))
    have z_H5 := hbw.size
    have z_H5_HO0 := HO0.out.lt
    have z_H5_H6 := H6.out.lt
    replace HB := Lib.hid (HB.out.alloc (.cells #[.bool false, .slice none 0 0] 30))
    replace HO0 := Lib.hid (HO0.out.alloc (.cells #[.bool false, .slice none 0 0] 30))
    replace H6 := Lib.hid (H6.out.alloc (.cells #[.bool false, .slice none 0 0] 30))
    replace hbw := nB3 hbw hbw.size (.cells #[.bool false, .slice none 0 0] 30)
    have H5 := Lib.hid (Own.new' W2 30 [.bool false, .slice none 0 0] W2.heap.size rfl)
    obtain ⟨bH5, e_H5⟩ : ∃ b, W2.heap.size = b := ⟨_, rfl⟩
    simp only [e_H5] at H5 z_H5 z_H5_HO0 z_H5_H6 ⊢
    generalize (W2.alloc (.cells #[.bool false, .slice none 0 0] 30)) = W3 at HB HO0 H6 H5 hbw ⊢
    refine hr_one rfl (by kernel_rfl) (fun K hK => ?_)
    refine wp_call (HF.out _ (H2.out.ext hbw)) (by kernel_rfl) ?_
    rintro v1 W4 hb1 hr1
    obtain ⟨Es, EA, Ec, En, rfl, hr1⟩ := hr1.shape
    refine hK.out _ _ ?_ ?_
    · exact HB.out.ext hb1
    clear hK K
    (try (conv => arg 6; simp only [Act.put, gL]))
    replace HB := Lib.hid (HB.out.ext hb1)
    replace HO0 := Lib.hid (HO0.out.ext hb1)
    replace H6 := Lib.hid (H6.out.ext hb1)
    replace H5 := Lib.hid (H5.out.ext hb1)
    replace hbw := nT hbw hb1
    have R1 := Lib.hid hr1
    clear hr1
    clear hb1
    refine hr_one rfl (by kernel_rfl) (fun K hK => ?_)
    refine wp_call ((HD.out _ _ (H1.out.ext hbw) R1.out).mono (fun _ _ h => h.map HS.out)) (by kernel_rfl) ?_
    rintro v1 W5 hb1 ⟨s1, A1, c1, n1, s2, A2, c2, n2, rfl, hr1⟩
    refine hK.out _ _ ?_ ?_
    · exact HB.out.ext hb1
    clear hK K
    (try (conv => arg 6; simp only [Act.put, gL]))
    replace HB := Lib.hid (HB.out.ext hb1)
    replace HO0 := Lib.hid (HO0.out.ext hb1)
    replace H6 := Lib.hid (H6.out.ext hb1)
    replace H5 := Lib.hid (H5.out.ext hb1)
    replace R1 := Lib.hid (R1.out.ext hb1)
    replace hbw := nT hbw hb1
    have R2 := Lib.hid hr1
    clear hr1
    clear hb1
    refine hr_yes (v := ?_) rfl (by kernel_rfl) (fun W hW => ?_) ?_; rotate_left; (go_simp; try with_reducible rfl)
    (try (conv => arg 6; simp only [Act.put, gL]))
    refine hr_yes (v := ?_) rfl (by kernel_rfl) (fun W hW => ?_) ?_; rotate_left; (go_simp; try with_reducible rfl)
    (try (conv => arg 6; simp only [Act.put, gL]))
    refine hr_yes (v := ?_) rfl (by kernel_rfl) (fun W hW => ?_) ?_; rotate_left; (go_simp; try with_reducible rfl)
    (try (conv => arg 6; simp only [Act.put, gL]))
    refine hr_yes (v := ?_) rfl (by kernel_rfl) (fun W hW => ?_) ?_; rotate_left; (go_simp; try with_reducible rfl)
    (try (conv => arg 6; simp only [Act.put, gL]))
   rotate_left 1
   exact trivial
  rotate_left 3
  exact trivial
  all_goals
   refine hr_one rfl (by kernel_rfl) (fun K hK => ?_)
   have q0 := H5.out.cell 0 _ rfl
   have f0 := H5.out.frozen 0
   have q1 := H5.out.cell 1 _ rfl
   have f1 := H5.out.frozen 1
   go_simp
   refine hK.out _ _ ?_ ?_
   · exact ((HB.out.set (p := ⟨bH5, 0, none⟩) _ (by simp <;> omega)).set (p := ⟨bH5, 1, none⟩) _ (by simp <;> omega))
   clear hK K
   (try (conv => arg 6; simp only [Act.put, gL]))
   replace HB := Lib.hid (HB.out.set (p := ⟨bH5, 0, none⟩) (.bool s1) (by simp <;> omega))
   replace HO0 := Lib.hid (HO0.out.other (p := ⟨bH5, 0, none⟩) (.bool s1) (by simp <;> omega))
   replace H6 := Lib.hid (H6.out.other (p := ⟨bH5, 0, none⟩) (.bool s1) (by simp <;> omega))
   replace H5 := Lib.hid (H5.out.set 0 (.bool s1))
   replace R1 := Lib.hid (R1.out.set (x := .bool s1) q0 rfl)
   replace R2 := Lib.hid (R2.out.set (x := .bool s1) q0 rfl)
   replace hbw := nB4 hbw (show w.heap.size ≤ (⟨bH5, 0, none⟩ : Addr).block by simp <;> omega) (.bool s1)
   replace q1 := (nC W5 ⟨bH5, 0, none⟩ ⟨bH5, 1, none⟩ (.bool s1) (by simp)).trans q1
   replace HB := Lib.hid (HB.out.set (p := ⟨bH5, 1, none⟩) (.slice A1 n1 c1) (by simp <;> omega))
   replace HO0 := Lib.hid (HO0.out.other (p := ⟨bH5, 1, none⟩) (.slice A1 n1 c1) (by simp <;> omega))
   replace H6 := Lib.hid (H6.out.other (p := ⟨bH5, 1, none⟩) (.slice A1 n1 c1) (by simp <;> omega))
   replace H5 := Lib.hid (H5.out.set 1 (.slice A1 n1 c1))
   replace R1 := Lib.hid (R1.out.set (x := .slice A1 n1 c1) q1 rfl)
   replace R2 := Lib.hid (R2.out.set (x := .slice A1 n1 c1) q1 rfl)
   replace hbw := nB4 hbw (show w.heap.size ≤ (⟨bH5, 1, none⟩ : Addr).block by simp <;> omega) (.slice A1 n1 c1)
   clear q0 f0 q1 f1
   replace H5 : Hid (Own _ _ _ [.bool s1, .slice A1 n1 c1]) := H5
   generalize ((W5.setCell ⟨bH5, 0, none⟩ (.bool s1)).setCell ⟨bH5, 1, none⟩ (.slice A1 n1 c1)) = W6 at HB HO0 H6 H5 R1 R2 hbw ⊢
   refine hr_one rfl (by kernel_rfl) (fun K hK => ?_)
   have q0 := H6.out.cell 0 _ rfl
   have f0 := H6.out.frozen 0
   have q1 := H6.out.cell 1 _ rfl
   have f1 := H6.out.frozen 1
   go_simp
   refine hK.out _ _ ?_ ?_
   · exact ((HB.out.set (p := ⟨bH6, 0, none⟩) _ (by simp <;> omega)).set (p := ⟨bH6, 1, none⟩) _ (by simp <;> omega))
   clear hK K
   (try (conv => arg 6; simp only [Act.put, gL]))
   replace HB := Lib.hid (HB.out.set (p := ⟨bH6, 0, none⟩) (.bool s2) (by simp <;> omega))
   replace HO0 := Lib.hid (HO0.out.other (p := ⟨bH6, 0, none⟩) (.bool s2) (by simp <;> omega))
   replace H6 := Lib.hid (H6.out.set 0 (.bool s2))
   replace H5 := Lib.hid (H5.out.other (p := ⟨bH6, 0, none⟩) (.bool s2) (by simp <;> omega))
   replace R1 := Lib.hid (R1.out.set (x := .bool s2) q0 rfl)
   replace R2 := Lib.hid (R2.out.set (x := .bool s2) q0 rfl)
   replace hbw := nB4 hbw (show w.heap.size ≤ (⟨bH6, 0, none⟩ : Addr).block by simp <;> omega) (.bool s2)
   replace q1 := (nC W6 ⟨bH6, 0, none⟩ ⟨bH6, 1, none⟩ (.bool s2) (by simp)).trans q1
   replace HB := Lib.hid (HB.out.set (p := ⟨bH6, 1, none⟩) (.slice A2 n2 c2) (by simp <;> omega))
   replace HO0 := Lib.hid (HO0.out.other (p := ⟨bH6, 1, none⟩) (.slice A2 n2 c2) (by simp <;> omega))
   replace H6 := Lib.hid (H6.out.set 1 (.slice A2 n2 c2))
   replace H5 := Lib.hid (H5.out.other (p := ⟨bH6, 1, none⟩) (.slice A2 n2 c2) (by simp <;> omega))
   replace R1 := Lib.hid (R1.out.set (x := .slice A2 n2 c2) q1 rfl)
   replace R2 := Lib.hid (R2.out.set (x := .slice A2 n2 c2) q1 rfl)
   replace hbw := nB4 hbw (show w.heap.size ≤ (⟨bH6, 1, none⟩ : Addr).block by simp <;> omega) (.slice A2 n2 c2)
   clear q0 f0 q1 f1
   replace H6 : Hid (Own _ _ _ [.bool s2, .slice A2 n2 c2]) := H6
   generalize ((W6.setCell ⟨bH6, 0, none⟩ (.bool s2)).setCell ⟨bH6, 1, none⟩ (.slice A2 n2 c2)) = W7 at HB HO0 H6 H5 R1 R2 hbw ⊢
   refine hr_one rfl (by kernel_rfl) (fun K hK => ?_)
   go_simp
   refine hK.out _ _ ?_ ?_
   · exact HB.out
   clear hK K
   (try (conv => arg 6; simp only [Act.put, gL]))
   refine hr_done ?_
   go_wp2
   go_meet
   exact ⟨bH6, bH5, Es, EA, Ec, En, s1, A1, c1, n1, s2, A2, c2, n2, rfl, hbw, HB.out, HO0.out, R1.out, R2.out, H5.out, H6.out, by omega, by omega, by omega⟩
 obtain ⟨bH6, bH5, Es, EA, Ec, En, s1, A1, c1, n1, s2, A2, c2, n2, rfl, hbw, h_HB, h_HO0, h_R1, h_R2, h_H5, h_H6, z_H5_HO0, z_H6_HO0, z_H6_H5⟩ := hcut
 try clear HB HO0 R1 R2 H5 H6
 have HB := Lib.hid h_HB
 clear h_HB
 have HO0 := Lib.hid h_HO0
 clear h_HO0
 have R1 := Lib.hid h_R1
 clear h_R1
 have R2 := Lib.hid h_R2
 clear h_R2
 have H5 := Lib.hid h_H5
 clear h_H5
 have H6 := Lib.hid h_H6
 clear h_H6
 replace HB := Lib.hid (Cells.cons (H5.out.cell 1 _ rfl) HB.out)
 replace HB := Lib.hid (Cells.cons (H5.out.cell 0 _ rfl) HB.out)
 replace HB := Lib.hid (Cells.cons (H6.out.cell 1 _ rfl) HB.out)
 replace HB := Lib.hid (Cells.cons (H6.out.cell 0 _ rfl) HB.out)
 obtain ⟨y0, y1, y2, y3, y4, y5, y6, _⟩ := id HB.out
 have q0 := HO0.out.cell 0 _ rfl
 have f0 := HO0.out.frozen 0
 have q1 := HO0.out.cell 1 _ rfl
 have f1 := HO0.out.frozen 1
 go_wp2_with fail
 replace HB := Lib.hid (HB.out.set (p := ⟨w.heap.size + 1 + 1, 0, none⟩) (.bool s1) (by simp <;> omega))
 replace HO0 := Lib.hid (HO0.out.set 0 (.bool s1))
 replace R1 := Lib.hid (R1.out.set (x := .bool s1) q0 rfl)
 replace R2 := Lib.hid (R2.out.set (x := .bool s1) q0 rfl)
 replace hbw := nB4 hbw (show w.heap.size ≤ (⟨w.heap.size + 1 + 1, 0, none⟩ : Addr).block by simp <;> omega) (.bool s1)
 replace q1 := (nC wc ⟨w.heap.size + 1 + 1, 0, none⟩ ⟨w.heap.size + 1 + 1, 1, none⟩ (.bool s1) (by simp)).trans q1
 replace HB := Lib.hid (HB.out.set (p := ⟨w.heap.size + 1 + 1, 1, none⟩) (.slice A1 n1 c1) (by simp <;> omega))
 replace HO0 := Lib.hid (HO0.out.set 1 (.slice A1 n1 c1))
 replace R1 := Lib.hid (R1.out.set (x := .slice A1 n1 c1) q1 rfl)
 replace R2 := Lib.hid (R2.out.set (x := .slice A1 n1 c1) q1 rfl)
 replace hbw := nB4 hbw (show w.heap.size ≤ (⟨w.heap.size + 1 + 1, 1, none⟩ : Addr).block by simp <;> omega) (.slice A1 n1 c1)
 clear q0 f0 q1 f1
 replace HO0 : Hid (Own _ _ _ [.bool s1, .slice A1 n1 c1]) := HO0
 generalize ((wc.setCell ⟨w.heap.size + 1 + 1, 0, none⟩ (.bool s1)).setCell ⟨w.heap.size + 1 + 1, 1, none⟩ (.slice A1 n1 c1)) = W8 at HB HO0 R1 R2 hbw ⊢
 have kk0 := HO0.out.cell 0 _ rfl
 have kk1 := HO0.out.cell 1 _ rfl
 refine bodyPost_ret (v := .agg #[.bool s1, .slice A1 n1 c1]) (by simp [results, Tryz.results77, go_sem, kk0, kk1]) rfl ⟨_, rfl, hbw, ?_⟩
 exact R2.out
end Go.Proofs.YtadpjidakippeaaGreat
