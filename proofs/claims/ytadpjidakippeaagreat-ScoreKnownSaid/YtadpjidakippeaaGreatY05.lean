/- Part of a proof: see the texts that import it. -/
import Derived.Test.YtadpjidakippeaaGreatY04
set_option linter.unusedVariables false
set_option linter.unusedSimpArgs false
namespace Go.Proofs.YtadpjidakippeaaGreat
open Go.RowKit
theorem cmp_n (w : World) (v u : Value) (a b : Nat) (h1 : rNat w v a) (h2 : rNat w u b) (f1 : Fit a) (f2 : Fit b) : Calls Tryz.prog 106 #[v, u] w (Post w fun r _ => r = .int .i64 (cmpI a b)) := by
 obtain ⟨A, c, l, rfl, hw, hn, rfl⟩ := h1
 obtain ⟨A', c', l', rfl, hw', hn', rfl⟩ := h2
 exact cmp_c w A A' c c' l l' hw hw' hn hn' (by have := f1.len hn rfl; omega) (by have := f2.len hn' rfl; omega)
theorem add_n (w : World) (v u : Value) (a b : Nat) (h1 : rNat w v a) (h2 : rNat w u b) (f1 : Fit a) (f2 : Fit b) : Calls Tryz.prog 114 #[v, u] w (Post w fun r w' => rNat w' r (a + b)) := by
 obtain ⟨A, c, l, rfl, hw, hn, rfl⟩ := h1
 obtain ⟨A', c', l', rfl, hw', hn', rfl⟩ := h2
 exact add_w w A A' c c' l l' hw hw' (f1.len hn rfl) (f2.len hn' rfl)
theorem sub_n (w : World) (v u : Value) (a b : Nat) (h1 : rNat w v a) (h2 : rNat w u b) (f1 : Fit a) (f2 : Fit b) : Calls Tryz.prog 115 #[v, u] w (Post w fun r w' => SubSaid w' r a b) := by
 obtain ⟨A, c, l, rfl, hw, hn, rfl⟩ := h1
 obtain ⟨A', c', l', rfl, hw', hn', rfl⟩ := h2
 exact sub_w w A A' c c' l l' hw hw' hn hn' (f1.len hn rfl) (f2.len hn' rfl)
theorem mul_n (w : World) (v u : Value) (a b : Nat) (h1 : rNat w v a) (h2 : rNat w u b) (f1 : Fit a) (f2 : Fit b) : Calls Tryz.prog 79 #[v, u] w (Post w fun r w' => rNat w' r (a * b)) := by
 obtain ⟨A, c, l, rfl, hw, hn, rfl⟩ := h1
 obtain ⟨A', c', l', rfl, hw', hn', rfl⟩ := h2
 exact mul_w w A A' c c' l l' hw hw' (f1.len hn rfl) (f2.len hn' rfl)
def DivSaid (w' : World) (v : Value) (a b : Nat) : Prop := ∃ q r, v = .tuple #[q, r, .bool (decide (b ≠ 0))] ∧ rNat w' q (a / b) ∧ rNat w' r (if b = 0 then 0 else a % b)
/-- The two results' cells of Div. -/
structure DivCells (w wr : World) (A1 A2 : Option Addr) (n1 n2 c1 c2 : Nat) : Prop where
 a : wr.cell? ⟨w.heap.size, 0, none⟩ = some (.slice A1 n1 c1)
 b : wr.cell? ⟨w.heap.size + 1, 0, none⟩ = some (.slice A2 n2 c2)
 q : wr.cell? ⟨w.heap.size + 1 + 1, 0, none⟩ = some (.slice none 0 0)
 qf : wr.frozen? ⟨w.heap.size + 1 + 1, 0, none⟩ = false
 r : wr.cell? ⟨w.heap.size + 1 + 1 + 1, 0, none⟩ = some (.slice none 0 0)
 rf : wr.frozen? ⟨w.heap.size + 1 + 1 + 1, 0, none⟩ = false
theorem DivCells.ext {w wr w' : World} {A1 A2 : Option Addr} {n1 n2 c1 c2 : Nat} (h : DivCells w wr A1 A2 n1 n2 c1 c2) (he : Ext wr w') : DivCells w w' A1 A2 n1 n2 c1 c2 :=
 ⟨ext_cell he h.a, ext_cell he h.b, ext_cell he h.q, (he.frozen (World.block_lt_of_cell? wr _ h.q)).trans h.qf, ext_cell he h.r, (he.frozen (World.block_lt_of_cell? wr _ h.r)).trans h.rf⟩
/-- The end: both results are stored. -/
theorem div_end {w wr w' : World} {A1 A2 : Option Addr} {n1 n2 c1 c2 : Nat} {q r : Value} (h : DivCells w wr A1 A2 n1 n2 c1 c2) (hw' : w' = (wr.setCell ⟨w.heap.size + 1 + 1, 0, none⟩ q).setCell ⟨w.heap.size + 1 + 1 + 1, 0, none⟩ r) :
  w'.cell? ⟨w.heap.size + 1 + 1, 0, none⟩ = some q ∧ w'.cell? ⟨w.heap.size + 1 + 1 + 1, 0, none⟩ = some r := by
 subst hw'
 constructor
 ·
  rw [nC _ _ _ _ (by intro e; injection e with e; omega)]
  exact World.cell?_setCell_same wr _ _ h.q
 · exact World.cell?_setCell_same _ _ _ ((nC _ _ _ _ (by intro e; injection e with e; omega)).trans h.r)
theorem div_keep {w wr : World} {A1 A2 : Option Addr} {n1 n2 c1 c2 : Nat} {q r v : Value} {n : Nat} (h : DivCells w wr A1 A2 n1 n2 c1 c2) (hv : rNat wr v n) : rNat ((wr.setCell ⟨w.heap.size + 1 + 1, 0, none⟩ q).setCell ⟨w.heap.size + 1 + 1 + 1, 0, none⟩ r) v n :=
 (hv.set h.q rfl).set ((nC _ _ _ _ (by intro e; injection e with e; omega)).trans h.r) rfl
set_option maxRecDepth 100000 in
set_option maxHeartbeats 1000000 in
theorem div_0 (w : World) (A1 A2 : Option Addr) (c1 c2 : Nat) (X : List Nat) :
  Calls Tryz.prog 107 #[.agg #[.slice A1 X.length c1], .agg #[.slice A2 0 c2]] w (Post w fun v w' => DivSaid w' v (vl B64 X) 0) := by
 go_enter Tryz.func107, Tryz.ntmps107
 go_wp2_with fail
 refine bodyPost_ret (v := .tuple #[.agg #[.slice none 0 0], .agg #[.slice none 0 0], .bool false]) (by simp [results, Tryz.results107, go_sem]) rfl ⟨_, rfl, (by repeat (first | assumption | exact nB1 _ _ | refine nB2 ?_ | refine pw_below_drewN ?_ _ | refine nB3 ?_ (by first | omega | (simp <;> omega)) _ | refine nB4 ?_ (by first | omega | (simp <;> omega)) _ | refine nB5 ?_ (by assumption) (by first | omega | (simp <;> omega)))), _, _, rfl, ?_, ?_⟩
 · rw [Nat.div_zero]; exact rNat.zero _
 · exact rNat.zero _
set_option maxRecDepth 100000 in
set_option maxHeartbeats 1000000 in
theorem div_lt (w : World) (A1 A2 : Option Addr) (c1 c2 : Nat) (X Y : List Nat) (h1 : Words .u64 B64 w A1 c1 X) (h2 : Words .u64 B64 w A2 c2 Y) (n1 : Norm X) (n2 : Norm Y) (b1 : X.length ≤ 1099511627776) (b2 : Y.length ≤ 1099511627776) (h0 : 0 < Y.length) (hlt : vl B64 X < vl B64 Y) :
  Calls Tryz.prog 107 #[.agg #[.slice A1 X.length c1], .agg #[.slice A2 Y.length c2]] w (Post w fun v w' => DivSaid w' v (vl B64 X) (vl B64 Y)) := by
 have HC := Lib.hid (fun W h h' => cmp_c W A1 A2 c1 c2 X Y h h' n1 n2 (by omega) (by omega))
 have Hw := Lib.hid h1
 have Hu := Lib.hid h2
 have HLT := Lib.hid hlt
 have HCI := Lib.hid (cmpI_lt hlt)
 have N1 := Lib.hid n1
 have hz : (((Y.length : Nat) : Int) == 0) = false := by rw [beq_eq_false_iff_ne]; omega
 clear h1 h2 hlt n1 n2
 go_enter Tryz.func107, Tryz.ntmps107
 go_wp2_with (go_at_call 106; refine (HC.out _ (Hw.out.ext (by repeat (first | assumption | exact nB1 _ _ | refine nB2 ?_ | refine pw_below_drewN ?_ _ | refine nB3 ?_ (by first | omega | (simp <;> omega)) _ | refine nB4 ?_ (by first | omega | (simp <;> omega)) _ | refine nB5 ?_ (by assumption) (by first | omega | (simp <;> omega))))) (Hu.out.ext (by repeat (first | assumption | exact nB1 _ _ | refine nB2 ?_ | refine pw_below_drewN ?_ _ | refine nB3 ?_ (by first | omega | (simp <;> omega)) _ | refine nB4 ?_ (by first | omega | (simp <;> omega)) _ | refine nB5 ?_ (by assumption) (by first | omega | (simp <;> omega)))))).mono ?_; rintro e w1 ⟨v, rfl, hb1, rfl⟩; rw [HCI.out]; have hdc := DivCells.ext (w := w) (A1 := A1) (A2 := A2) (n1 := X.length) (n2 := Y.length) (c1 := c1) (c2 := c2) ⟨(by go_simp), (by go_simp), (by go_simp), (by go_simp), (by go_simp), (by go_simp)⟩ hb1; obtain ⟨hca, hcb, hcq, hfq, hcr, hfr⟩ := hdc)
 refine wp_hoist [(0, true), (1, true), (2, false), (3, false), (4, false)] (fun W => W.cell? ⟨w.heap.size, 0, none⟩ = some (.slice A1 X.length c1)) (by kernel_rfl) (by kernel_rfl) ?_ ?_
 · exact hca
 refine hz_yes (v := ?_) rfl (by kernel_rfl) (fun W hW => ?_) ?_; rotate_left; (go_simp; try with_reducible rfl)
 (try (conv => arg 6; simp only [Act.put, gL]))
 refine hz_yes (v := ?_) rfl (by kernel_rfl) (fun W hW => ?_) ?_; rotate_left; (go_simp; try with_reducible rfl)
 (try (conv => arg 6; simp only [Act.put, gL]))
 refine hz_eff rfl (by kernel_rfl) (fun K hK => ?_)
 go_simp
 refine hK.out _ _ ?_ ?_
 · exact (nC _ _ _ _ (by intro e; injection e with e; omega)).trans hca
 clear hK K
 (try (conv => arg 6; simp only [Act.put, gL]))
 refine hz_eff rfl (by kernel_rfl) (fun K hK => ?_)
 go_simp
 refine hK.out _ _ ?_ ?_
 · exact (nC _ _ _ _ (by intro e; injection e with e; omega)).trans ((nC _ _ _ _ (by intro e; injection e with e; omega)).trans hca)
 clear hK K
 (try (conv => arg 6; simp only [Act.put, gL]))
 refine hz_eff rfl (by kernel_rfl) (fun K hK => ?_)
 go_simp
 refine hK.out _ _ ?_ ?_
 · exact (nC _ _ _ _ (by intro e; injection e with e; omega)).trans ((nC _ _ _ _ (by intro e; injection e with e; omega)).trans hca)
 clear hK K
 (try (conv => arg 6; simp only [Act.put, gL]))
 refine hz_nil ?_
 go_wp2
 have hdc : DivCells w w1 A1 A2 X.length Y.length c1 c2 := ⟨hca, hcb, hcq, hfq, hcr, hfr⟩
 have hk := div_end (q := .slice none 0 0) (r := .slice A1 X.length c1) hdc rfl
 obtain ⟨k1, k2⟩ := hk
 refine bodyPost_ret (v := .tuple #[.agg #[.slice none 0 0], .agg #[.slice A1 X.length c1], .bool true]) (by simp [results, Tryz.results107, go_sem, k1, k2]) rfl ⟨_, rfl, (by repeat (first | assumption | exact nB1 _ _ | refine nB2 ?_ | refine pw_below_drewN ?_ _ | refine nB3 ?_ (by first | omega | (simp <;> omega)) _ | refine nB4 ?_ (by first | omega | (simp <;> omega)) _ | refine nB5 ?_ (by assumption) (by first | omega | (simp <;> omega)))), .agg #[.slice none 0 0], .agg #[.slice A1 X.length c1], ?_, ?_, ?_⟩
 ·
  have := HLT.out
  rw [show decide (vl B64 Y ≠ 0) = true from decide_eq_true (by omega)]
 · rw [Nat.div_eq_of_lt HLT.out]; exact rNat.zero _
 ·
  have := HLT.out
  rw [if_neg (by omega), Nat.mod_eq_of_lt HLT.out]
  exact (div_keep hdc ⟨A1, c1, X, rfl, (Hw.out.ext (w' := w1) (by repeat (first | assumption | exact nB1 _ _ | refine nB2 ?_ | refine pw_below_drewN ?_ _ | refine nB3 ?_ (by first | omega | (simp <;> omega)) _ | refine nB4 ?_ (by first | omega | (simp <;> omega)) _ | refine nB5 ?_ (by assumption) (by first | omega | (simp <;> omega))))), N1.out, rfl⟩)
set_option maxRecDepth 100000 in
set_option maxHeartbeats 1000000 in
theorem div_one (w : World) (A1 A2 : Option Addr) (c1 c2 : Nat) (X : List Nat) (y : Nat) (h1 : Words .u64 B64 w A1 c1 X) (h2 : Words .u64 B64 w A2 c2 [y]) (n1 : Norm X) (n2 : Norm [y]) (hyB : y < B64) (hy0 : 0 < y) (b1 : X.length ≤ 1099511627776) (hge : ¬ vl B64 X < y) :
  Calls Tryz.prog 107 #[.agg #[.slice A1 X.length c1], .agg #[.slice A2 1 c2]] w (Post w fun v w' => DivSaid w' v (vl B64 X) y) := by
 have HC := Lib.hid (fun W h h' => cmp_c W A1 A2 c1 c2 X [y] h h' n1 n2 (by omega) (by simp))
 have Hw := Lib.hid h1
 have Hu := Lib.hid h2
 obtain ⟨cv, ecv⟩ : ∃ cv, cmpI (vl B64 X) (vl B64 [y]) = cv := ⟨_, rfl⟩
 have hcv : ¬ (cv < 0) := by rw [← ecv]; unfold cmpI; rw [if_neg (by simpa [vl] using hge)]; split <;> omega
 have ECV := Lib.hid ecv
 have HYB := Lib.hid hyB
 obtain ⟨g, o, rfl, hcl⟩ := h2.2.2 (by simp)
 have hc0 : w.cell? ⟨g, o, none⟩ = some (.int .u64 (y : Nat)) := hcl 0 (by simp)
 have hg : g < w.heap.size := World.block_lt_of_cell? w _ hc0
 have HG := Lib.hid hc0
 clear h1 h2 hcl ecv n1 n2 hyB hge
 go_enter Tryz.func107, Tryz.ntmps107
 go_wp2_with (go_at_call 106; refine (HC.out _ (Hw.out.ext (by repeat (first | assumption | exact nB1 _ _ | refine nB2 ?_ | refine pw_below_drewN ?_ _ | refine nB3 ?_ (by first | omega | (simp <;> omega)) _ | refine nB4 ?_ (by first | omega | (simp <;> omega)) _ | refine nB5 ?_ (by assumption) (by first | omega | (simp <;> omega))))) (Hu.out.ext (by repeat (first | assumption | exact nB1 _ _ | refine nB2 ?_ | refine pw_below_drewN ?_ _ | refine nB3 ?_ (by first | omega | (simp <;> omega)) _ | refine nB4 ?_ (by first | omega | (simp <;> omega)) _ | refine nB5 ?_ (by assumption) (by first | omega | (simp <;> omega)))))).mono ?_; rintro e w1 ⟨v, rfl, hb1, rfl⟩; rw [ECV.out]; have hdc := DivCells.ext (w := w) (A1 := A1) (A2 := some ⟨g, o, none⟩) (n1 := X.length) (n2 := 1) (c1 := c1) (c2 := c2) ⟨(by go_simp), (by go_simp), (by go_simp), (by go_simp), (by go_simp), (by go_simp)⟩ hb1; have HDC := Lib.hid hdc; obtain ⟨hca, hcb, hcq, hfq, hcr, hfr⟩ := hdc)
 have hbe : Below w.heap.size w w1 := (by repeat (first | assumption | exact nB1 _ _ | refine nB2 ?_ | refine pw_below_drewN ?_ _ | refine nB3 ?_ (by first | omega | (simp <;> omega)) _ | refine nB4 ?_ (by first | omega | (simp <;> omega)) _ | refine nB5 ?_ (by assumption) (by first | omega | (simp <;> omega))))
 have hcg := ext_cell hbe HG.out
 clear hc0 hb1
 have HX1 := Lib.hid (Hw.out.ext (w' := w1) hbe)
 refine wp_hoist [(0, true), (1, true), (2, true), (3, true), (4, true), (5, true), (6, false), (7, true), (8, true), (9, true), (10, false), (11, false)] (fun W => W.cell? ⟨w.heap.size, 0, none⟩ = some (.slice A1 X.length c1) ∧ W.cell? ⟨w.heap.size + 1, 0, none⟩ = some (.slice (some ⟨g, o, none⟩) 1 c2) ∧ W.cell? ⟨g, o, none⟩ = some (.int .u64 (y : Nat))) (by kernel_rfl) (by kernel_rfl) ?_ ?_
 · exact ⟨hca, hcb, hcg⟩
 refine hz_yes (v := ?_) rfl (by kernel_rfl) (fun W hW => ?_) ?_; rotate_left; (go_simp; try with_reducible rfl)
 (try (conv => arg 6; simp only [Act.put, gL]))
 refine hz_yes (v := ?_) rfl (by kernel_rfl) (fun W hW => ?_) ?_; rotate_left; (obtain ⟨y1, y2, y3⟩ := hW; go_simp; try with_reducible rfl)
 (try (conv => arg 6; simp only [Act.put, gL]))
 refine hz_yes (v := ?_) rfl (by kernel_rfl) (fun W hW => ?_) ?_; rotate_left; (go_simp; try with_reducible rfl)
 (try (conv => arg 6; simp only [Act.put, gL]))
 refine hz_yes (v := ?_) rfl (by kernel_rfl) (fun W hW => ?_) ?_; rotate_left; (obtain ⟨y1, y2, y3⟩ := hW; go_simp; try with_reducible rfl)
 (try (conv => arg 6; simp only [Act.put, gL]))
 refine hz_yes (v := ?_) rfl (by kernel_rfl) (fun W hW => ?_) ?_; rotate_left; (go_simp; try with_reducible rfl)
 (try (conv => arg 6; simp only [Act.put, gL]))
 refine hz_yes (v := ?_) rfl (by kernel_rfl) (fun W hW => ?_) ?_; rotate_left; (obtain ⟨y1, y2, y3⟩ := hW; go_simp; try with_reducible rfl)
 (try (conv => arg 6; simp only [Act.put, gL]))
 refine hz_eff rfl (by kernel_rfl) (fun K hK => ?_)
 go_simp
 refine (short_c _ A1 c1 X y (HX1.out.ext (by repeat (first | assumption | exact nB1 _ _ | refine nB2 ?_ | refine pw_below_drewN ?_ _ | refine nB3 ?_ (by first | omega | (simp <;> omega)) _ | refine nB4 ?_ (by first | omega | (simp <;> omega)) _ | refine nB5 ?_ (by assumption) (by first | omega | (simp <;> omega))))) b1 hy0 HYB.out).mono ?_
 rintro e wq ⟨val, rfl, hb2, A3, q, r, rfl, hq1, hq2, hq3, hq4⟩
 refine hK.out _ _ ?_ ?_
 · exact ⟨ext_cell hb2 hca, ext_cell hb2 hcb, ext_cell hb2 hcg⟩
 clear hK K
 (try (conv => arg 6; simp only [Act.put, gL]))
 refine hz_yes (v := ?_) rfl (by kernel_rfl) (fun W hW => ?_) ?_; rotate_left; (go_simp; try with_reducible rfl)
 (try (conv => arg 6; simp only [Act.put, gL]))
 refine hz_yes (v := ?_) rfl (by kernel_rfl) (fun W hW => ?_) ?_; rotate_left; (go_simp; try with_reducible rfl)
 (try (conv => arg 6; simp only [Act.put, gL]))
 refine hz_yes (v := ?_) rfl (by kernel_rfl) (fun W hW => ?_) ?_; rotate_left; (go_simp; try with_reducible rfl)
 (try (conv => arg 6; simp only [Act.put, gL]))
 refine hz_eff rfl (by kernel_rfl) (fun K hK => ?_)
 go_simp
 refine hK.out _ _ ?_ ?_
 · exact ⟨ext_cell hb2 hca, ext_cell hb2 hcb, ext_cell hb2 hcg⟩
 clear hK K
 (try (conv => arg 6; simp only [Act.put, gL]))
 refine hz_eff rfl (by kernel_rfl) (fun K hK => ?_)
 go_simp
 refine hK.out _ _ ?_ ?_
 · exact ⟨ext_cell hb2 hca, ext_cell hb2 hcb, ext_cell hb2 hcg⟩
 clear hK K
 (try (conv => arg 6; simp only [Act.put, gL]))
 refine hz_nil ?_
 have hbw : Ext w1 wq := ⟨hb2.os, hb2.tape, hb2.output, hb2.size, hb2.block⟩
 have HDC2 := Lib.hid (HDC.out.ext hbw)
 have hbe2 : Below w.heap.size w wq := Below.trans hbe (Below.mono hbw hbe.size)
 have HQ1 := Lib.hid hq1
 have HQ2 := Lib.hid hq2
 have HQ3 := Lib.hid hq3
 have HQ4 := Lib.hid hq4
 clear hca hcb hcq hfq hcr hfr hcg hq1 hq2 hq3 hq4 hb2 HDC hbw
 have htr := trim_c wq A3 X.length q HQ1.out (by rw [HQ2.out]; omega)
 rw [HQ2.out] at htr
 have HTR := Lib.hid htr
 clear htr
 go_wp2_with (go_at_call 113; refine HTR.out.mono ?_; rintro e w3 ⟨v, rfl, hb3, hn3⟩)
 refine (of_c r (Nat.lt_trans HQ4.out HYB.out) _).mono ?_
 rintro e w4 ⟨v4, rfl, hb4, hn4⟩
 obtain ⟨A5, c5, l5, rfl, hw5, hnn5, hv5⟩ := hn3.ext hb4
 obtain ⟨A6, c6, l6, rfl, hw6, hnn6, hv6⟩ := hn4
 have HDC4 := (HDC2.out.ext hb3).ext hb4
 have hbe4 : Below w.heap.size w w4 := Below.trans (Below.trans hbe2 (Below.mono hb3 hbe2.size)) (Below.mono hb4 (Nat.le_trans hbe2.size hb3.size))
 have R5 := Lib.hid (show rNat w4 (.agg #[.slice A5 l5.length c5]) (vl B64 q) from ⟨A5, c5, l5, rfl, hw5, hnn5, hv5⟩)
 have R6 := Lib.hid (show rNat w4 (.agg #[.slice A6 l6.length c6]) r from ⟨A6, c6, l6, rfl, hw6, hnn6, hv6⟩)
 have HD4 := Lib.hid HDC4
 obtain ⟨hca, hcb, hcq, hfq, hcr, hfr⟩ := HDC4
 clear hn3 hw5 hnn5 hv5 hw6 hnn6 hv6 hb3 hb4 HDC2 hca hcb
 go_wp2_with fail
 have hk := div_end (q := .slice A5 l5.length c5) (r := .slice A6 l6.length c6) HD4.out rfl
 obtain ⟨k1, k2⟩ := hk
 refine bodyPost_ret (v := .tuple #[.agg #[.slice A5 l5.length c5], .agg #[.slice A6 l6.length c6], .bool true]) (by simp [results, Tryz.results107, go_sem, k1, k2]) rfl ⟨_, rfl, (by repeat (first | assumption | exact nB1 _ _ | refine nB2 ?_ | refine pw_below_drewN ?_ _ | refine nB3 ?_ (by first | omega | (simp <;> omega)) _ | refine nB4 ?_ (by first | omega | (simp <;> omega)) _ | refine nB5 ?_ (by assumption) (by first | omega | (simp <;> omega)))), .agg #[.slice A5 l5.length c5], .agg #[.slice A6 l6.length c6], ?_, ?_, ?_⟩
 · rw [show decide (y ≠ 0) = true from decide_eq_true (by omega)]
 ·
  have e : vl B64 X / y = vl B64 q := by rw [HQ3.out, Nat.mul_comm, Nat.mul_add_div hy0, Nat.div_eq_of_lt HQ4.out]; simp
  rw [e]; exact div_keep HD4.out R5.out
 ·
  have e : vl B64 X % y = r := by rw [HQ3.out, Nat.mul_comm, Nat.mul_add_mod, Nat.mod_eq_of_lt HQ4.out]
  rw [if_neg (by omega), e]; exact div_keep HD4.out R6.out
end Go.Proofs.YtadpjidakippeaaGreat

namespace Go.Proofs.YtadpjidakippeaaGreat
open Go.RowKit
set_option maxRecDepth 100000 in
set_option maxHeartbeats 1000000 in
theorem div_many (w : World) (A1 A2 : Option Addr) (c1 c2 N : Nat) (X Y : List Nat) (h1 : Words .u64 B64 w A1 c1 X) (h2 : Words .u64 B64 w A2 c2 Y) (n1 : Norm X) (n2 : Norm Y) (b1 : X.length ≤ 1099511627776) (b2 : Y.length ≤ 1099511627776) (hN : Y.length = N + 2) (hge : ¬ vl B64 X < vl B64 Y) :
  Calls Tryz.prog 107 #[.agg #[.slice A1 X.length c1], .agg #[.slice A2 Y.length c2]] w (Post w fun v w' => DivSaid w' v (vl B64 X) (vl B64 Y)) := by
 have hm : Y.length ≤ X.length := by
  rcases Nat.lt_or_ge X.length Y.length with h | h
  · exact absurd (vl_lt_len B64_pos h1.2.1 n2 h) hge
  · exact h
 have HLG := Lib.hid (fun W h h' => long_c W A1 A2 c1 c2 N X Y h h' hN hm n2 b1)
 have HC := Lib.hid (fun W h h' => cmp_c W A1 A2 c1 c2 X Y h h' n1 n2 (by omega) (by omega))
 have Hw := Lib.hid h1
 have Hu := Lib.hid h2
 obtain ⟨cv, ecv⟩ : ∃ cv, cmpI (vl B64 X) (vl B64 Y) = cv := ⟨_, rfl⟩
 have hcv : ¬ (cv < 0) := by rw [← ecv]; unfold cmpI; rw [if_neg hge]; split <;> omega
 have ECV := Lib.hid ecv
 have HYP : Hid (vl B64 Y ≠ 0) := fun h => by have := (norm_nil_iff n2).2 h; rw [this] at hN; simp at hN
 have hz0 : (((Y.length : Nat) : Int) == 0) = false := by rw [beq_eq_false_iff_ne]; omega
 have hz1 : (((Y.length : Nat) : Int) == 1) = false := by rw [beq_eq_false_iff_ne]; omega
 clear h1 h2 ecv n1 n2 hge hN
 go_enter Tryz.func107, Tryz.ntmps107
 go_wp2_with (go_at_call 106; refine (HC.out _ (Hw.out.ext (by repeat (first | assumption | exact nB1 _ _ | refine nB2 ?_ | refine pw_below_drewN ?_ _ | refine nB3 ?_ (by first | omega | (simp <;> omega)) _ | refine nB4 ?_ (by first | omega | (simp <;> omega)) _ | refine nB5 ?_ (by assumption) (by first | omega | (simp <;> omega))))) (Hu.out.ext (by repeat (first | assumption | exact nB1 _ _ | refine nB2 ?_ | refine pw_below_drewN ?_ _ | refine nB3 ?_ (by first | omega | (simp <;> omega)) _ | refine nB4 ?_ (by first | omega | (simp <;> omega)) _ | refine nB5 ?_ (by assumption) (by first | omega | (simp <;> omega)))))).mono ?_; rintro e w1 ⟨v, rfl, hb1, rfl⟩; rw [ECV.out]; have hdc := DivCells.ext (w := w) (A1 := A1) (A2 := A2) (n1 := X.length) (n2 := Y.length) (c1 := c1) (c2 := c2) ⟨(by go_simp), (by go_simp), (by go_simp), (by go_simp), (by go_simp), (by go_simp)⟩ hb1; have HDC := Lib.hid hdc; obtain ⟨hca, hcb, hcq, hfq, hcr, hfr⟩ := hdc)
 have hbe : Below w.heap.size w w1 := (by repeat (first | assumption | exact nB1 _ _ | refine nB2 ?_ | refine pw_below_drewN ?_ _ | refine nB3 ?_ (by first | omega | (simp <;> omega)) _ | refine nB4 ?_ (by first | omega | (simp <;> omega)) _ | refine nB5 ?_ (by assumption) (by first | omega | (simp <;> omega))))
 refine (HLG.out w1 (Hw.out.ext hbe) (Hu.out.ext hbe)).mono ?_
 rintro e w2 ⟨val, rfl, hb2, A3, q, A4, r, rfl, hq1, hr1, hq2, hr2, hq3, hr3⟩
 have HDC2 := Lib.hid (HDC.out.ext hb2)
 have hbe2 : Below w.heap.size w w2 := Below.trans hbe (Below.mono hb2 hbe.size)
 have HTQ := Lib.hid (fun W h => trim_c W A3 q.length q h (by omega))
 have HTR := Lib.hid (fun W h => trim_c W A4 r.length r h (by omega))
 have HQ1 := Lib.hid hq1
 have HR1 := Lib.hid hr1
 have HQ3 := Lib.hid hq3
 have HR3 := Lib.hid hr3
 clear hca hcb hcq hfq hcr hfr hq1 hr1 hq3 hr3 hr2 hb1 HDC HLG
 go_wp2_with fail
 refine (HTQ.out _ HQ1.out).mono ?_
 rintro e w3 ⟨v, rfl, hb3, hn3⟩
 have HN3 := Lib.hid hn3
 clear hn3
 go_wp2_with fail
 refine (HTR.out _ (HR1.out.ext hb3)).mono ?_
 rintro e w4 ⟨v4, rfl, hb4, hn4⟩
 obtain ⟨A5, c5, l5, rfl, hw5, hnn5, hv5⟩ := HN3.out.ext hb4
 obtain ⟨A6, c6, l6, rfl, hw6, hnn6, hv6⟩ := hn4
 have HDC4 := (HDC2.out.ext hb3).ext hb4
 have hbe4 : Below w.heap.size w w4 := Below.trans (Below.trans hbe2 (Below.mono hb3 hbe2.size)) (Below.mono hb4 (Nat.le_trans hbe2.size hb3.size))
 have R5 := Lib.hid (show rNat w4 (.agg #[.slice A5 l5.length c5]) (vl B64 q) from ⟨A5, c5, l5, rfl, hw5, hnn5, hv5⟩)
 have R6 := Lib.hid (show rNat w4 (.agg #[.slice A6 l6.length c6]) (vl B64 r) from ⟨A6, c6, l6, rfl, hw6, hnn6, hv6⟩)
 have HD4 := Lib.hid HDC4
 obtain ⟨hca, hcb, hcq, hfq, hcr, hfr⟩ := HDC4
 clear HN3 hw5 hnn5 hv5 hw6 hnn6 hv6 hb2 hb3 hb4 HDC2 hca hcb
 go_wp2_with fail
 have hk := div_end (q := .slice A5 l5.length c5) (r := .slice A6 l6.length c6) HD4.out rfl
 obtain ⟨k1, k2⟩ := hk
 refine bodyPost_ret (v := .tuple #[.agg #[.slice A5 l5.length c5], .agg #[.slice A6 l6.length c6], .bool true]) (by simp [results, Tryz.results107, go_sem, k1, k2]) rfl ⟨_, rfl, (by repeat (first | assumption | exact nB1 _ _ | refine nB2 ?_ | refine pw_below_drewN ?_ _ | refine nB3 ?_ (by first | omega | (simp <;> omega)) _ | refine nB4 ?_ (by first | omega | (simp <;> omega)) _ | refine nB5 ?_ (by assumption) (by first | omega | (simp <;> omega)))), .agg #[.slice A5 l5.length c5], .agg #[.slice A6 l6.length c6], ?_, ?_, ?_⟩
 · rw [show decide (vl B64 Y ≠ 0) = true from decide_eq_true HYP.out]
 · rw [← HQ3.out]; exact div_keep HD4.out R5.out
 · rw [if_neg HYP.out, ← HR3.out]; exact div_keep HD4.out R6.out
theorem div_n (w : World) (v u : Value) (a b : Nat) (h1 : rNat w v a) (h2 : rNat w u b) (f1 : Fit a) (f2 : Fit b) : Calls Tryz.prog 107 #[v, u] w (Post w fun r w' => DivSaid w' r a b) := by
 obtain ⟨A, c, l, rfl, hw, hn, rfl⟩ := h1
 obtain ⟨A', c', l', rfl, hw', hn', rfl⟩ := h2
 have b1 := f1.len hn rfl
 have b2 := f2.len hn' rfl
 rcases Nat.eq_zero_or_pos l'.length with h0 | h0
 ·
  obtain rfl : l' = [] := List.length_eq_zero_iff.1 h0
  exact div_0 w A A' c c' l
 ·
  by_cases hlt : vl B64 l < vl B64 l'
  · exact div_lt w A A' c c' l l' hw hw' hn hn' b1 b2 h0 hlt
  ·
   rcases Nat.lt_or_ge 1 l'.length with h2 | h2
   · exact div_many w A A' c c' (l'.length - 2) l l' hw hw' hn hn' b1 b2 (by omega) hlt
   ·
    obtain ⟨y, rfl, hy, hyB, hy0⟩ := norm_one hw'.2.1 hn' (by omega)
    rw [hy] at hlt ⊢
    exact div_one w A A' c c' l y hw hw' hn hn' hyB hy0 b1 hlt
end Go.Proofs.YtadpjidakippeaaGreat

/- whole.Int: the sign put on, taken off. -/
namespace Go.Proofs.YtadpjidakippeaaGreat
open Go.RowKit
def sg (neg : Bool) (n : Nat) : Int := if neg then -(n : Int) else n
theorem sg_false (n : Nat) : sg false n = n := rfl
theorem sg_true (n : Nat) : sg true n = -(n : Int) := rfl
theorem sg_abs (neg : Bool) (n : Nat) : (sg neg n).natAbs = n := by cases neg <;> simp [sg]
theorem sg_self (z : Int) : sg (decide (z < 0)) z.natAbs = z := by
 unfold sg
 by_cases h : z < 0
 · rw [if_pos (decide_eq_true h)]; omega
 · rw [if_neg (by simp [h])]; omega
theorem sg_neg (neg : Bool) (n : Nat) : decide (sg neg n < 0) = (neg && decide (0 < bl n)) := by
 rw [Bool.eq_iff_iff]
 have : 0 < bl n ↔ n ≠ 0 := bl_pos
 cases neg <;> simp [sg, this] <;> omega
theorem rInt.mk' {w : World} {u : Value} {n : Nat} (neg : Bool) (h : rNat w (.agg #[u]) n) : rInt w (.agg #[.bool (neg && decide (0 < bl n)), u]) (sg neg n) :=
 ⟨u, by rw [sg_abs]; exact h, by rw [sg_neg]⟩
/-- A result of two cells is stored. -/
theorem two_cells {w1 : World} {b : Nat} {t : TypeId} {x0 x1 x y : Value} (h : Own w1 b t [x0, x1]) (h0 : noInt x0 = true) (h1 : noInt x1 = true) :
  ((w1.setCell ⟨b, 0, none⟩ x).setCell ⟨b, 1, none⟩ y).cell? ⟨b, 0, none⟩ = some x ∧ ((w1.setCell ⟨b, 0, none⟩ x).setCell ⟨b, 1, none⟩ y).cell? ⟨b, 1, none⟩ = some y ∧ (∀ v n, rNat w1 v n → rNat ((w1.setCell ⟨b, 0, none⟩ x).setCell ⟨b, 1, none⟩ y) v n) := by
 have h2 := (h.set 0 x).set 1 y
 refine ⟨h2.cell 0 x rfl, h2.cell 1 y rfl, fun v n hv => ?_⟩
 exact (hv.set (h.cell 0 x0 rfl) h0).set ((h.set 0 x).cell 1 x1 rfl) h1
def IntCells : List Value := [.bool false, .slice none 0 0]
set_option maxHeartbeats 400000 in
theorem from_c (w : World) (neg : Bool) (v : Value) (n : Nat) (h : rNat w v n) (hf : Fit n) : Calls Tryz.prog 80 #[.bool neg, v] w (Post w fun r w' => rInt w' r (sg neg n)) := by
 have HB := Lib.hid (fun W h => bits_c W v n h hf)
 have HN := Lib.hid h
 obtain ⟨A, c, l, rfl, hw, hnn, hv⟩ := h
 clear hw hnn hv hf
 cases neg
 ·
  go_enter Tryz.func80, Tryz.ntmps80
  go_wp2_with fail
  refine wp_hoist [(0, true), (1, true), (2, true), (6, true), (3, false), (4, true), (5, true), (7, true), (8, false)] (fun W => W.cell? ⟨w.heap.size, 0, none⟩ = some (.slice A l.length c)) (by kernel_rfl) (by kernel_rfl) ?_ ?_
  · go_simp
  refine hz_yes (v := ?_) rfl (by kernel_rfl) (fun W hW => ?_) ?_; rotate_left; (go_simp; try with_reducible rfl)
  (try (conv => arg 6; simp only [Act.put, gL]))
  refine hz_yes (v := ?_) rfl (by kernel_rfl) (fun W hW => ?_) ?_; rotate_left; (go_simp; try with_reducible rfl)
  (try (conv => arg 6; simp only [Act.put, gL]))
  refine hz_no rfl (by kernel_rfl) ?_
  (try (conv => arg 6; simp only [Act.put, gL]))
  refine hz_yes (v := ?_) rfl (by kernel_rfl) (fun W hW => ?_) ?_; rotate_left; (go_simp; try with_reducible rfl)
  (try (conv => arg 6; simp only [Act.put, gL]))
  refine hz_effno rfl (by kernel_rfl) ?_ ?_
  · go_simp
  (try (conv => arg 6; simp only [Act.put, gL]))
  refine hz_no rfl (by kernel_rfl) ?_
  (try (conv => arg 6; simp only [Act.put, gL]))
  refine hz_yes (v := ?_) rfl (by kernel_rfl) (fun W hW => ?_) ?_; rotate_left; (go_simp; try with_reducible rfl)
  (try (conv => arg 6; simp only [Act.put, gL]))
  refine hz_yes (v := ?_) rfl (by kernel_rfl) (fun W hW => ?_) ?_; rotate_left; (go_simp; try with_reducible rfl)
  (try (conv => arg 6; simp only [Act.put, gL]))
  refine hz_eff rfl (by kernel_rfl) (fun K hK => ?_)
  go_simp
  refine hK.out _ _ ?_ ?_
  · go_simp
  clear hK K
  (try (conv => arg 6; simp only [Act.put, gL]))
  refine hz_nil ?_
  go_wp2
  refine bodyPost_ret (v := .agg #[.bool false, .slice A l.length c]) (by simp [results, Tryz.results80, go_sem]) rfl ⟨_, rfl, (by repeat (first | assumption | exact nB1 _ _ | refine nB2 ?_ | refine pw_below_drewN ?_ _ | refine nB3 ?_ (by first | omega | (simp <;> omega)) _ | refine nB4 ?_ (by first | omega | (simp <;> omega)) _ | refine nB5 ?_ (by assumption) (by first | omega | (simp <;> omega)))), ?_⟩
  exact rInt.mk' (u := .slice A l.length c) false (HN.out.ext (by repeat (first | assumption | exact nB1 _ _ | refine nB2 ?_ | refine pw_below_drewN ?_ _ | refine nB3 ?_ (by first | omega | (simp <;> omega)) _ | refine nB4 ?_ (by first | omega | (simp <;> omega)) _ | refine nB5 ?_ (by assumption) (by first | omega | (simp <;> omega)))))
 ·
  go_enter Tryz.func80, Tryz.ntmps80
  go_wp2_with fail
  refine wp_hoist [(0, true), (1, true), (2, true), (6, true), (3, false), (4, true), (5, true), (7, true), (8, false)] (fun W => W.cell? ⟨w.heap.size, 0, none⟩ = some (.slice A l.length c)) (by kernel_rfl) (by kernel_rfl) ?_ ?_
  · go_simp
  refine hz_yes (v := ?_) rfl (by kernel_rfl) (fun W hW => ?_) ?_; rotate_left; (go_simp; try with_reducible rfl)
  (try (conv => arg 6; simp only [Act.put, gL]))
  refine hz_yes (v := ?_) rfl (by kernel_rfl) (fun W hW => ?_) ?_; rotate_left; (go_simp; try with_reducible rfl)
  (try (conv => arg 6; simp only [Act.put, gL]))
  refine hz_yes (v := ?_) rfl (by kernel_rfl) (fun W hW => ?_) ?_; rotate_left; (go_simp; try with_reducible rfl)
  (try (conv => arg 6; simp only [Act.put, gL]))
  refine hz_yes (v := ?_) rfl (by kernel_rfl) (fun W hW => ?_) ?_; rotate_left; (go_simp; try with_reducible rfl)
  (try (conv => arg 6; simp only [Act.put, gL]))
  refine hz_eff rfl (by kernel_rfl) (fun K hK => ?_)
  go_simp
  refine (HB.out _ (HN.out.ext (by repeat (first | assumption | exact nB1 _ _ | refine nB2 ?_ | refine pw_below_drewN ?_ _ | refine nB3 ?_ (by first | omega | (simp <;> omega)) _ | refine nB4 ?_ (by first | omega | (simp <;> omega)) _ | refine nB5 ?_ (by assumption) (by first | omega | (simp <;> omega)))))).mono ?_
  rintro e wq ⟨val, rfl, hb1, rfl⟩
  refine hK.out _ _ ?_ ?_
  · exact ext_cell hb1 (by go_simp)
  clear hK K
  (try (conv => arg 6; simp only [Act.put, gL]))
  refine hz_yes (v := ?_) rfl (by kernel_rfl) (fun W hW => ?_) ?_; rotate_left; (go_simp; try with_reducible rfl)
  (try (conv => arg 6; simp only [Act.put, gL]))
  refine hz_yes (v := ?_) rfl (by kernel_rfl) (fun W hW => ?_) ?_; rotate_left; (go_simp; try with_reducible rfl)
  (try (conv => arg 6; simp only [Act.put, gL]))
  refine hz_yes (v := ?_) rfl (by kernel_rfl) (fun W hW => ?_) ?_; rotate_left; (go_simp; try with_reducible rfl)
  (try (conv => arg 6; simp only [Act.put, gL]))
  have hown := (Own.new (w.alloc (.cells #[.slice A l.length c] 28)) 30 IntCells).drew.ext hb1
  rw [World.size_alloc] at hown
  have hq0 := hown.cell 0 _ rfl
  have hq1 := hown.cell 1 _ rfl
  have hf0 := hown.frozen 0
  have hf1 := hown.frozen 1
  have HOWN := Lib.hid hown
  clear hown
  refine hz_eff rfl (by kernel_rfl) (fun K hK => ?_)
  go_simp
  refine hK.out _ _ ?_ ?_
  · exact (nC _ _ _ _ (by intro e; injection e with e; omega)).trans ((nC _ _ _ _ (by intro e; injection e with e; omega)).trans (ext_cell hb1 (by go_simp)))
  clear hK K
  (try (conv => arg 6; simp only [Act.put, gL]))
  refine hz_nil ?_
  go_wp2
  obtain ⟨k1, k2, k3⟩ := two_cells (x := .bool (decide (0 < bl n))) (y := .slice A l.length c) HOWN.out rfl rfl
  refine bodyPost_ret (v := .agg #[.bool (decide (0 < bl n)), .slice A l.length c]) (by simp [results, Tryz.results80, go_sem, k1, k2]) rfl ⟨_, rfl, (by repeat (first | assumption | exact nB1 _ _ | refine nB2 ?_ | refine pw_below_drewN ?_ _ | refine nB3 ?_ (by first | omega | (simp <;> omega)) _ | refine nB4 ?_ (by first | omega | (simp <;> omega)) _ | refine nB5 ?_ (by assumption) (by first | omega | (simp <;> omega)))), ?_⟩
  exact rInt.mk' (u := .slice A l.length c) true (k3 _ _ (HN.out.ext (by repeat (first | assumption | exact nB1 _ _ | refine nB2 ?_ | refine pw_below_drewN ?_ _ | refine nB3 ?_ (by first | omega | (simp <;> omega)) _ | refine nB4 ?_ (by first | omega | (simp <;> omega)) _ | refine nB5 ?_ (by assumption) (by first | omega | (simp <;> omega))))))
end Go.Proofs.YtadpjidakippeaaGreat

/- whole.Int: sign, size, negative, compared, added, multiplied. -/
namespace Go.Proofs.YtadpjidakippeaaGreat
open Go.RowKit
theorem rInt.open {w : World} {v : Value} {z : Int} (h : rInt w v z) : ∃ A c n, v = .agg #[.bool (decide (z < 0)), .slice A n c] ∧ rNat w (.agg #[.slice A n c]) z.natAbs := by
 obtain ⟨u, ⟨A, c, l, he, hw, hn, hl⟩, hv⟩ := h
 injection he with he
 simp only [Array.mk.injEq, List.cons.injEq, and_true] at he
 subst he
 exact ⟨A, c, l.length, hv, A, c, l, rfl, hw, hn, hl⟩
theorem rInt.shape {w : World} {v : Value} {z : Int} (h : rInt w v z) : ∃ s A c n, v = .agg #[.bool s, .slice A n c] ∧ rInt w (.agg #[.bool s, .slice A n c]) z := by
 obtain ⟨A, c, n, rfl, _⟩ := h.open
 exact ⟨_, A, c, n, rfl, h⟩
/-- Two boxes of two cells. -/
structure Box2 (a b : Nat) (x0 x1 y0 y1 : Value) (W : World) : Prop where
 a0 : W.cell? ⟨a, 0, none⟩ = some x0
 a1 : W.cell? ⟨a, 1, none⟩ = some x1
 b0 : W.cell? ⟨b, 0, none⟩ = some y0
 b1 : W.cell? ⟨b, 1, none⟩ = some y1
theorem Box2.ext {a b : Nat} {x0 x1 y0 y1 : Value} {W W' : World} (h : Box2 a b x0 x1 y0 y1 W) (he : Ext W W') : Box2 a b x0 x1 y0 y1 W' :=
 ⟨ext_cell he h.a0, ext_cell he h.a1, ext_cell he h.b0, ext_cell he h.b1⟩
theorem Box2.other {a b : Nat} {x0 x1 y0 y1 : Value} {W : World} (h : Box2 a b x0 x1 y0 y1 W) {p : Addr} (v : Value) (ha : p.block ≠ a) (hb : p.block ≠ b) : Box2 a b x0 x1 y0 y1 (W.setCell p v) :=
 ⟨(nC _ _ _ _ (fun e => ha (congrArg Addr.block e))).trans h.a0, (nC _ _ _ _ (fun e => ha (congrArg Addr.block e))).trans h.a1,
  (nC _ _ _ _ (fun e => hb (congrArg Addr.block e))).trans h.b0, (nC _ _ _ _ (fun e => hb (congrArg Addr.block e))).trans h.b1⟩
theorem ext_drew {w w' : World} (h : Below w.drew.heap.size w.drew w') : Ext w w' := ⟨h.os, h.tape, h.output, h.size, h.block⟩
theorem sign_lt {z : Int} (h : z < 0) : z.sign = -1 := Int.sign_eq_neg_one_of_neg h
theorem cmpI_sign (a b : Nat) : cmpI a b = ((a : Int) - b).sign := by
 rcases Nat.lt_trichotomy a b with h | h | h
 · rw [cmpI_lt h, Int.sign_eq_neg_one_of_neg (by omega)]
 · rw [cmpI_eq h, show (a : Int) - b = 0 by omega]; rfl
 · rw [cmpI_gt h, Int.sign_eq_one_of_pos (by omega)]
theorem cmp_pos {a b : Int} (ha : ¬ a < 0) (hb : ¬ b < 0) : cmpI a.natAbs b.natAbs = (a - b).sign := by
 rw [cmpI_sign, show ((a.natAbs : Int) - b.natAbs) = a - b by omega]
theorem cmp_neg {a b : Int} (ha : a < 0) (hb : b < 0) : cmpI b.natAbs a.natAbs = (a - b).sign := by
 rw [cmpI_sign, show ((b.natAbs : Int) - a.natAbs) = a - b by omega]
set_option maxHeartbeats 400000 in
theorem sign_c (w : World) (v : Value) (z : Int) (h : rInt w v z) (hf : Fit z.natAbs) : Calls Tryz.prog 87 #[v] w (Post w fun r _ => r = .int .i64 z.sign) := by
 obtain ⟨A, c, n, rfl, hn⟩ := h.open
 have HB := Lib.hid (fun W h => bits_c W (.agg #[.slice A n c]) z.natAbs h hf)
 have HN := Lib.hid hn
 clear h hn hf
 by_cases hz : z < 0
 ·
  rw [decide_eq_true hz]
  have HZ := Lib.hid (Int.sign_eq_neg_one_of_neg hz)
  clear hz
  go_enter Tryz.func87, Tryz.ntmps87
  go_wp2_with fail
  go_ret
  exact ⟨_, rfl, (by repeat (first | assumption | exact nB1 _ _ | refine nB2 ?_ | refine pw_below_drewN ?_ _ | refine nB3 ?_ (by first | omega | (simp <;> omega)) _ | refine nB4 ?_ (by first | omega | (simp <;> omega)) _ | refine nB5 ?_ (by assumption) (by first | omega | (simp <;> omega)))), by rw [HZ.out]; rfl⟩
 ·
  rw [decide_eq_false hz]
  by_cases h0 : z = 0
  ·
   subst h0
   have hb : bl (0 : Int).natAbs = 0 := rfl
   go_enter Tryz.func87, Tryz.ntmps87
   go_wp2_with (go_at_call 70; refine (HB.out _ (HN.out.ext (by repeat (first | assumption | exact nB1 _ _ | refine nB2 ?_ | refine pw_below_drewN ?_ _ | refine nB3 ?_ (by first | omega | (simp <;> omega)) _ | refine nB4 ?_ (by first | omega | (simp <;> omega)) _ | refine nB5 ?_ (by assumption) (by first | omega | (simp <;> omega)))))).mono ?_; rintro e w1 ⟨val, rfl, hb1, rfl⟩)
   go_ret
   exact ⟨_, rfl, (by repeat (first | assumption | exact nB1 _ _ | refine nB2 ?_ | refine pw_below_drewN ?_ _ | refine nB3 ?_ (by first | omega | (simp <;> omega)) _ | refine nB4 ?_ (by first | omega | (simp <;> omega)) _ | refine nB5 ?_ (by assumption) (by first | omega | (simp <;> omega)))), rfl⟩
  ·
   have HZ := Lib.hid (Int.sign_eq_one_of_pos (show 0 < z by omega))
   obtain ⟨k, ek⟩ : ∃ k, bl z.natAbs = k := ⟨_, rfl⟩
   have hk : 0 < k := by rw [← ek]; exact bl_pos.2 (by omega)
   have EK := Lib.hid ek
   have hkz : ((k : Int) == 0) = false := by rw [beq_eq_false_iff_ne]; omega
   clear hz h0 ek
   go_enter Tryz.func87, Tryz.ntmps87
   go_wp2_with (go_at_call 70; refine (HB.out _ (HN.out.ext (by repeat (first | assumption | exact nB1 _ _ | refine nB2 ?_ | refine pw_below_drewN ?_ _ | refine nB3 ?_ (by first | omega | (simp <;> omega)) _ | refine nB4 ?_ (by first | omega | (simp <;> omega)) _ | refine nB5 ?_ (by assumption) (by first | omega | (simp <;> omega)))))).mono ?_; rintro e w1 ⟨val, rfl, hb1, rfl⟩; rw [EK.out])
   go_ret
   exact ⟨_, rfl, (by repeat (first | assumption | exact nB1 _ _ | refine nB2 ?_ | refine pw_below_drewN ?_ _ | refine nB3 ?_ (by first | omega | (simp <;> omega)) _ | refine nB4 ?_ (by first | omega | (simp <;> omega)) _ | refine nB5 ?_ (by assumption) (by first | omega | (simp <;> omega)))), by rw [HZ.out]; rfl⟩
set_option maxHeartbeats 400000 in
theorem abs_c (w : World) (v : Value) (z : Int) (h : rInt w v z) : Calls Tryz.prog 81 #[v] w (Post w fun r w' => rNat w' r z.natAbs) := by
 obtain ⟨A, c, n, rfl, hn⟩ := h.open
 have HN := Lib.hid hn
 clear h hn
 go_enter Tryz.func81, Tryz.ntmps81
 go_wp2_with fail
 refine bodyPost_ret (v := .agg #[.slice A n c]) (by simp [results, Tryz.results81, go_sem]) rfl ⟨_, rfl, (by repeat (first | assumption | exact nB1 _ _ | refine nB2 ?_ | refine pw_below_drewN ?_ _ | refine nB3 ?_ (by first | omega | (simp <;> omega)) _ | refine nB4 ?_ (by first | omega | (simp <;> omega)) _ | refine nB5 ?_ (by assumption) (by first | omega | (simp <;> omega)))), HN.out.ext (by repeat (first | assumption | exact nB1 _ _ | refine nB2 ?_ | refine pw_below_drewN ?_ _ | refine nB3 ?_ (by first | omega | (simp <;> omega)) _ | refine nB4 ?_ (by first | omega | (simp <;> omega)) _ | refine nB5 ?_ (by assumption) (by first | omega | (simp <;> omega))))⟩
theorem sg_flip (z : Int) : sg (!decide (z < 0)) z.natAbs = -z := by
 unfold sg
 by_cases h : z < 0
 · rw [decide_eq_true h]; simp; omega
 · rw [decide_eq_false h]; simp; omega
/-- The end of a function whose result is a whole.Int that another call gave. -/
theorem int_end {w1 : World} {b : Nat} {t : TypeId} {x0 x1 x y : Value} {z : Int} (h : Own w1 b t [x0, x1]) (h0 : noInt x0 = true) (h1 : noInt x1 = true) (hz : rInt w1 (.agg #[x, y]) z) :
  rInt ((w1.setCell ⟨b, 0, none⟩ x).setCell ⟨b, 1, none⟩ y) (.agg #[x, y]) z := by
 obtain ⟨u, hu, hv⟩ := hz
 exact ⟨u, (two_cells h h0 h1).2.2 _ _ hu, hv⟩
set_option maxHeartbeats 400000 in
theorem neg_c (w : World) (v : Value) (z : Int) (h : rInt w v z) (hf : Fit z.natAbs) : Calls Tryz.prog 116 #[v] w (Post w fun r w' => rInt w' r (-z)) := by
 obtain ⟨A, c, n, rfl, hn⟩ := h.open
 have HF := Lib.hid (fun W h => from_c W (!decide (z < 0)) (.agg #[.slice A n c]) z.natAbs h hf)
 have HN := Lib.hid hn
 obtain ⟨ng, eng⟩ : ∃ b, decide (z < 0) = b := ⟨_, rfl⟩
 have HNG := Lib.hid eng
 rw [eng] at HF ⊢
 clear h hn hf eng
 go_enter Tryz.func116, Tryz.ntmps116
 go_wp2_with fail
 refine (HF.out _ (HN.out.ext (by repeat (first | assumption | exact nB1 _ _ | refine nB2 ?_ | refine pw_below_drewN ?_ _ | refine nB3 ?_ (by first | omega | (simp <;> omega)) _ | refine nB4 ?_ (by first | omega | (simp <;> omega)) _ | refine nB5 ?_ (by assumption) (by first | omega | (simp <;> omega)))))).mono ?_
 rintro e w1 ⟨val, rfl, hb1, hr⟩
 obtain ⟨sb, A', c', n', rfl, hr⟩ := hr.shape
 have hown := (Own.new (w.alloc (.cells #[.bool ng, .slice A n c] 30)) 30 IntCells).ext hb1
 rw [World.size_alloc] at hown
 have hq0 := hown.cell 0 _ rfl
 have hq1 := hown.cell 1 _ rfl
 have hf0 := hown.frozen 0
 have hf1 := hown.frozen 1
 have HOWN := Lib.hid hown
 have HR := Lib.hid hr
 clear hown hr
 go_wp2_with fail
 have k := two_cells (x := .bool sb) (y := .slice A' n' c') HOWN.out rfl rfl
 refine bodyPost_ret (v := .agg #[.bool sb, .slice A' n' c']) (by simp [results, Tryz.results116, go_sem, k.1, k.2.1]) rfl ⟨_, rfl, (by repeat (first | assumption | exact nB1 _ _ | refine nB2 ?_ | refine pw_below_drewN ?_ _ | refine nB3 ?_ (by first | omega | (simp <;> omega)) _ | refine nB4 ?_ (by first | omega | (simp <;> omega)) _ | refine nB5 ?_ (by assumption) (by first | omega | (simp <;> omega)))), ?_⟩
 have := int_end HOWN.out rfl rfl HR.out
 rw [← HNG.out, sg_flip] at this
 exact this
set_option maxHeartbeats 400000 in
theorem icmp_c (w : World) (v u : Value) (a b : Int) (h1 : rInt w v a) (h2 : rInt w u b) (f1 : Fit a.natAbs) (f2 : Fit b.natAbs) : Calls Tryz.prog 88 #[v, u] w (Post w fun r _ => r = .int .i64 (a - b).sign) := by
 obtain ⟨A, c, n, rfl, hn⟩ := h1.open
 obtain ⟨A', c', n', rfl, hn'⟩ := h2.open
 have HC := Lib.hid (fun W h h' => cmp_n W (.agg #[.slice A n c]) (.agg #[.slice A' n' c']) a.natAbs b.natAbs h h' f1 f2)
 have HC2 := Lib.hid (fun W h h' => cmp_n W (.agg #[.slice A' n' c']) (.agg #[.slice A n c]) b.natAbs a.natAbs h h' f2 f1)
 have H1 := Lib.hid hn
 have H2 := Lib.hid hn'
 clear h1 h2 hn hn' f1 f2
 by_cases ha : a < 0 <;> by_cases hb : b < 0
 ·
  rw [decide_eq_true ha, decide_eq_true hb]
  have HF := Lib.hid (cmp_neg ha hb)
  clear ha hb
  go_enter Tryz.func88, Tryz.ntmps88
  go_wp2_with (go_at_call 106; refine (HC2.out _ (H2.out.ext (by repeat (first | assumption | exact nB1 _ _ | refine nB2 ?_ | refine pw_below_drewN ?_ _ | refine nB3 ?_ (by first | omega | (simp <;> omega)) _ | refine nB4 ?_ (by first | omega | (simp <;> omega)) _ | refine nB5 ?_ (by assumption) (by first | omega | (simp <;> omega))))) (H1.out.ext (by repeat (first | assumption | exact nB1 _ _ | refine nB2 ?_ | refine pw_below_drewN ?_ _ | refine nB3 ?_ (by first | omega | (simp <;> omega)) _ | refine nB4 ?_ (by first | omega | (simp <;> omega)) _ | refine nB5 ?_ (by assumption) (by first | omega | (simp <;> omega)))))).mono ?_; rintro e w1 ⟨val, rfl, hb1, rfl⟩)
  go_ret
  exact ⟨_, rfl, (by repeat (first | assumption | exact nB1 _ _ | refine nB2 ?_ | refine pw_below_drewN ?_ _ | refine nB3 ?_ (by first | omega | (simp <;> omega)) _ | refine nB4 ?_ (by first | omega | (simp <;> omega)) _ | refine nB5 ?_ (by assumption) (by first | omega | (simp <;> omega)))), vint HF.out⟩
 ·
  rw [decide_eq_true ha, decide_eq_false hb]
  have HF := Lib.hid (show (a - b).sign = -1 from Int.sign_eq_neg_one_of_neg (by omega))
  clear ha hb
  go_enter Tryz.func88, Tryz.ntmps88
  go_wp2_with fail
  go_ret
  exact ⟨_, rfl, (by repeat (first | assumption | exact nB1 _ _ | refine nB2 ?_ | refine pw_below_drewN ?_ _ | refine nB3 ?_ (by first | omega | (simp <;> omega)) _ | refine nB4 ?_ (by first | omega | (simp <;> omega)) _ | refine nB5 ?_ (by assumption) (by first | omega | (simp <;> omega)))), vint HF.out.symm⟩
 ·
  rw [decide_eq_false ha, decide_eq_true hb]
  have HF := Lib.hid (show (a - b).sign = 1 from Int.sign_eq_one_of_pos (by omega))
  clear ha hb
  go_enter Tryz.func88, Tryz.ntmps88
  go_wp2_with fail
  go_ret
  exact ⟨_, rfl, (by repeat (first | assumption | exact nB1 _ _ | refine nB2 ?_ | refine pw_below_drewN ?_ _ | refine nB3 ?_ (by first | omega | (simp <;> omega)) _ | refine nB4 ?_ (by first | omega | (simp <;> omega)) _ | refine nB5 ?_ (by assumption) (by first | omega | (simp <;> omega)))), vint HF.out.symm⟩
 ·
  rw [decide_eq_false ha, decide_eq_false hb]
  have HF := Lib.hid (cmp_pos ha hb)
  clear ha hb
  go_enter Tryz.func88, Tryz.ntmps88
  go_wp2_with (go_at_call 106; refine (HC.out _ (H1.out.ext (by repeat (first | assumption | exact nB1 _ _ | refine nB2 ?_ | refine pw_below_drewN ?_ _ | refine nB3 ?_ (by first | omega | (simp <;> omega)) _ | refine nB4 ?_ (by first | omega | (simp <;> omega)) _ | refine nB5 ?_ (by assumption) (by first | omega | (simp <;> omega))))) (H2.out.ext (by repeat (first | assumption | exact nB1 _ _ | refine nB2 ?_ | refine pw_below_drewN ?_ _ | refine nB3 ?_ (by first | omega | (simp <;> omega)) _ | refine nB4 ?_ (by first | omega | (simp <;> omega)) _ | refine nB5 ?_ (by assumption) (by first | omega | (simp <;> omega)))))).mono ?_; rintro e w1 ⟨val, rfl, hb1, rfl⟩)
  go_ret
  exact ⟨_, rfl, (by repeat (first | assumption | exact nB1 _ _ | refine nB2 ?_ | refine pw_below_drewN ?_ _ | refine nB3 ?_ (by first | omega | (simp <;> omega)) _ | refine nB4 ?_ (by first | omega | (simp <;> omega)) _ | refine nB5 ?_ (by assumption) (by first | omega | (simp <;> omega)))), vint HF.out⟩
end Go.Proofs.YtadpjidakippeaaGreat
