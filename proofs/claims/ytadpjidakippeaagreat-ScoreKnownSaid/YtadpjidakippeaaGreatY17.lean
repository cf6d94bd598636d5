/- score.Told. -/
import Derived.Test.YtadpjidakippeaaGreatY16
import Derived.Test.YtadpjidakippeaaGreatY01
import Derived.Test.YtadpjidakippeaaGreatY03
import Derived.Test.YtadpjidakippeaaGreatY06
import Derived.Test.YtadpjidakippeaaGreatY10
import Derived.Test.YtadpjidakippeaaGreatY09
set_option linter.unusedVariables false
set_option linter.unusedSimpArgs false
namespace Go.Proofs.YtadpjidakippeaaGreat
open Go.RowKit
def sqm (a : List Rat) (m : Rat) (i : Nat) : Rat := (a.getD i 0 - m) * (a.getD i 0 - m)
set_option maxRecDepth 100000 in
set_option maxHeartbeats 1000000 in
/-- Told$1 -/
theorem told1_c (w : World) (b1 b2 : Nat) (A : Option Addr) (n c : Nat) (la : List Rat) (i : Nat) {s : Bool} {A2 B2 : Option Addr} {n2 c2 m2 k2 : Nat} (y : Rat) (h1 : w.cell? ⟨b1, 0, none⟩ = some (.slice A n c)) (h2 : w.cell? ⟨b2, 0, none⟩ = some (.bool s)) (h3 : w.cell? ⟨b2, 1, none⟩ = some (.slice A2 n2 c2)) (h4 : w.cell? ⟨b2, 2, none⟩ = some (.slice B2 m2 k2))
  (ha : rQs w (.slice A n c) la) (hy : rQ w (.agg #[.bool s, .slice A2 n2 c2, .slice B2 m2 k2]) y) (hi : i < n) (hla : la.length = n) (hf : qb (la.getD i 0) + qb y ≤ 17592186043000) :
  Calls Tryz.prog 42 #[.int .i64 (i : Nat), .pointer (some ⟨b1, 0, none⟩), .pointer (some ⟨b2, 0, none⟩)] w (Post w fun r w' => rQ w' r (sqm la y i)) := by
 obtain ⟨g, o, sa, Aa, ca, na, Ba, ka, ma, rfl, xa, ya, za, ra⟩ := ha.at (j := i) (by omega)
 have e1 : la[i]'(by omega) = la.getD i 0 := by rw [List.getD_eq_getElem?_getD, List.getElem?_eq_getElem (by omega)]; rfl
 rw [e1] at ra
 show Calls Tryz.prog 42 _ w (Post w fun r w' => rQ w' r ((la.getD i 0 - y) * (la.getD i 0 - y)))
 generalize la.getD i 0 = x at ra hf ⊢
 have hi0 : (i : Int) < (n : Int) := by omega
 have bs := qb_sub x y
 have HS := Lib.hid (fun W v u h h' => qsub_c W v u x y h h' (by omega))
 have HQ := Lib.hid (fun W v h => square_c W v (x - y) h (by omega))
 have g1 := cell_lt h1
 have g2 := cell_lt h2
 have g3 := cell_lt xa
 have RA0 := Lib.hid ra
 have RB0 := Lib.hid hy
 clear e1 ha hf bs ra hy
 have HB : Hid (Cells [] (w.alloc (.cells #[.bool false, .slice none 0 0, .slice none 0 0] 32))) := Lib.hid (Cells.nil _)
 have HO0 := Lib.hid (Own.new' w 32 [.bool false, .slice none 0 0, .slice none 0 0] (w.heap.size) (by simp))
 have hbw : Below w.heap.size w (w.alloc (.cells #[.bool false, .slice none 0 0, .slice none 0 0] 32)) := (by repeat (first | assumption | exact nB1 _ _ | refine nB2 ?_ | refine pw_below_drewN ?_ _ | refine nB3 ?_ (by first | omega | (simp <;> omega)) _ | refine nB4 ?_ (by first | omega | (simp <;> omega)) _ | refine nB5 ?_ (by assumption) (by first | omega | (simp <;> omega))))
 go_enter Tryz.func42, Tryz.ntmps42
 go_wp2_with fail
 generalize (w.alloc (.cells #[.bool false, .slice none 0 0, .slice none 0 0] 32)) = W0 at HB HO0 hbw ⊢
 have RA := Lib.hid (RA0.out.ext hbw)
 have RB := Lib.hid (RB0.out.ext hbw)
 have HB : Hid (Cells [(b1, 0, .slice (some ⟨g, o, none⟩) n c), (b2, 0, .bool s), (b2, 1, .slice A2 n2 c2), (b2, 2, .slice B2 m2 k2), (g, o + i * 3, .bool sa), (g, o + i * 3 + 1, .slice Aa na ca), (g, o + i * 3 + 2, .slice Ba ma ka)] W0) := Lib.hid (Cells.cons (ext_cell hbw h1) (Cells.cons (ext_cell hbw h2) (Cells.cons (ext_cell hbw h3) (Cells.cons (ext_cell hbw h4) (Cells.cons (ext_cell hbw xa) (Cells.cons (ext_cell hbw ya) (Cells.cons (ext_cell hbw za) (Cells.nil _))))))))
 clear h1 h2 h3 h4 xa ya za
 replace HB := Lib.hid (HB.out.drew)
 replace HO0 := Lib.hid (HO0.out.drew)
 replace RA := Lib.hid (RA.out.drew)
 replace RB := Lib.hid (RB.out.drew)
 replace hbw := Below.drew hbw
 refine wp_hoist [(0, true), (1, true), (2, true), (3, true), (4, true), (5, false), (6, false), (7, false)] (Cells [(b1, 0, .slice (some ⟨g, o, none⟩) n c), (b2, 0, .bool s), (b2, 1, .slice A2 n2 c2), (b2, 2, .slice B2 m2 k2), (g, o + i * 3, .bool sa), (g, o + i * 3 + 1, .slice Aa na ca), (g, o + i * 3 + 2, .slice Ba ma ka)]) (by kernel_rfl) (by kernel_rfl) ?_ ?_
 · exact HB.out
 generalize W0.drew = W1 at HB HO0 RA RB hbw ⊢
 refine hz_yes (v := ?_) rfl (by kernel_rfl) (fun W hW => ?_) ?_; rotate_left; (obtain ⟨y0, y1, y2, y3, y4, y5, y6, _⟩ := hW; go_simp; try with_reducible rfl)
 (try (conv => arg 6; simp only [Act.put, gL]))
 refine hz_yes (v := ?_) rfl (by kernel_rfl) (fun W hW => ?_) ?_; rotate_left; (go_simp; try with_reducible rfl)
 (try (conv => arg 6; simp only [Act.put, gL]))
 refine hz_yes (v := ?_) rfl (by kernel_rfl) (fun W hW => ?_) ?_; rotate_left; (go_simp; try with_reducible rfl)
 (try (conv => arg 6; simp only [Act.put, gL]))
 refine hz_yes (v := ?_) rfl (by kernel_rfl) (fun W hW => ?_) ?_; rotate_left; (obtain ⟨y0, y1, y2, y3, y4, y5, y6, _⟩ := hW; go_simp; try with_reducible rfl)
 (try (conv => arg 6; simp only [Act.put, gL]))
 refine hz_yes (v := ?_) rfl (by kernel_rfl) (fun W hW => ?_) ?_; rotate_left; (obtain ⟨y0, y1, y2, y3, y4, y5, y6, _⟩ := hW; go_simp; try with_reducible rfl)
 (try (conv => arg 6; simp only [Act.put, gL]))
 refine hz_eff rfl (by kernel_rfl) (fun K hK => ?_)
 refine wp_call (HS.out _ _ _ RA.out RB.out) (by kernel_rfl) ?_
 rintro v1 W2 hb1 hr1
 obtain ⟨Es, EA, Ec, En, EB, Ed, Em, rfl, hr1⟩ := hr1.shape
 refine hK.out _ _ ?_ ?_
 · exact HB.out.ext hb1
 clear hK K
 (try (conv => arg 6; simp only [Act.put, gL]))
 replace HB := Lib.hid (HB.out.ext hb1)
 replace HO0 := Lib.hid (HO0.out.ext hb1)
 replace RA := Lib.hid (RA.out.ext hb1)
 replace RB := Lib.hid (RB.out.ext hb1)
 replace hbw := nT hbw hb1
 have R3 := Lib.hid hr1
 clear hr1
 clear hb1
 refine hz_eff rfl (by kernel_rfl) (fun K hK => ?_)
 refine wp_call (HQ.out _ _ R3.out) (by kernel_rfl) ?_
 rintro v1 W3 hb1 hr1
 obtain ⟨Fs, FA, Fc, Fn, FB, Fd, Fm, rfl, hr1⟩ := hr1.shape
 refine hK.out _ _ ?_ ?_
 · exact HB.out.ext hb1
 clear hK K
 (try (conv => arg 6; simp only [Act.put, gL]))
 replace HB := Lib.hid (HB.out.ext hb1)
 replace HO0 := Lib.hid (HO0.out.ext hb1)
 replace RA := Lib.hid (RA.out.ext hb1)
 replace RB := Lib.hid (RB.out.ext hb1)
 replace R3 := Lib.hid (R3.out.ext hb1)
 replace hbw := nT hbw hb1
 have R4 := Lib.hid hr1
 clear hr1
 clear hb1
 have q0 := HO0.out.cell 0 _ rfl
 have f0 := HO0.out.frozen 0
 have q1 := HO0.out.cell 1 _ rfl
 have f1 := HO0.out.frozen 1
 have q2 := HO0.out.cell 2 _ rfl
 have f2 := HO0.out.frozen 2
 refine hz_eff rfl (by kernel_rfl) (fun K hK => ?_)
 go_simp
 refine hK.out _ _ ?_ ?_
 · exact (((HB.out.set (p := ⟨w.heap.size, 0, none⟩) _ (by simp <;> omega)).set (p := ⟨w.heap.size, 1, none⟩) _ (by simp <;> omega)).set (p := ⟨w.heap.size, 2, none⟩) _ (by simp <;> omega))
 clear hK K
 (try (conv => arg 6; simp only [Act.put, gL]))
 replace HB := Lib.hid (HB.out.set (p := ⟨w.heap.size, 0, none⟩) (.bool Fs) (by simp <;> omega))
 replace HO0 := Lib.hid (HO0.out.set 0 (.bool Fs))
 replace RA := Lib.hid (RA.out.set (x := .bool Fs) q0 rfl)
 replace RB := Lib.hid (RB.out.set (x := .bool Fs) q0 rfl)
 replace R3 := Lib.hid (R3.out.set (x := .bool Fs) q0 rfl)
 replace R4 := Lib.hid (R4.out.set (x := .bool Fs) q0 rfl)
 replace hbw := nB4 hbw (show w.heap.size ≤ (⟨w.heap.size, 0, none⟩ : Addr).block by simp <;> omega) (.bool Fs)
 replace q1 := (nC W3 ⟨w.heap.size, 0, none⟩ ⟨w.heap.size, 1, none⟩ (.bool Fs) (by simp)).trans q1
 replace q2 := (nC W3 ⟨w.heap.size, 0, none⟩ ⟨w.heap.size, 2, none⟩ (.bool Fs) (by simp)).trans q2
 replace HB := Lib.hid (HB.out.set (p := ⟨w.heap.size, 1, none⟩) (.slice FA Fn Fc) (by simp <;> omega))
 replace HO0 := Lib.hid (HO0.out.set 1 (.slice FA Fn Fc))
 replace RA := Lib.hid (RA.out.set (x := .slice FA Fn Fc) q1 rfl)
 replace RB := Lib.hid (RB.out.set (x := .slice FA Fn Fc) q1 rfl)
 replace R3 := Lib.hid (R3.out.set (x := .slice FA Fn Fc) q1 rfl)
 replace R4 := Lib.hid (R4.out.set (x := .slice FA Fn Fc) q1 rfl)
 replace hbw := nB4 hbw (show w.heap.size ≤ (⟨w.heap.size, 1, none⟩ : Addr).block by simp <;> omega) (.slice FA Fn Fc)
 replace q2 := (nC (W3.setCell ⟨w.heap.size, 0, none⟩ (.bool Fs)) ⟨w.heap.size, 1, none⟩ ⟨w.heap.size, 2, none⟩ (.slice FA Fn Fc) (by simp)).trans q2
 replace HB := Lib.hid (HB.out.set (p := ⟨w.heap.size, 2, none⟩) (.slice FB Fm Fd) (by simp <;> omega))
 replace HO0 := Lib.hid (HO0.out.set 2 (.slice FB Fm Fd))
 replace RA := Lib.hid (RA.out.set (x := .slice FB Fm Fd) q2 rfl)
 replace RB := Lib.hid (RB.out.set (x := .slice FB Fm Fd) q2 rfl)
 replace R3 := Lib.hid (R3.out.set (x := .slice FB Fm Fd) q2 rfl)
 replace R4 := Lib.hid (R4.out.set (x := .slice FB Fm Fd) q2 rfl)
 replace hbw := nB4 hbw (show w.heap.size ≤ (⟨w.heap.size, 2, none⟩ : Addr).block by simp <;> omega) (.slice FB Fm Fd)
 clear q0 f0 q1 f1 q2 f2
 replace HO0 : Hid (Own _ _ _ [.bool Fs, .slice FA Fn Fc, .slice FB Fm Fd]) := HO0
 generalize (((W3.setCell ⟨w.heap.size, 0, none⟩ (.bool Fs)).setCell ⟨w.heap.size, 1, none⟩ (.slice FA Fn Fc)).setCell ⟨w.heap.size, 2, none⟩ (.slice FB Fm Fd)) = W4 at HB HO0 RA RB R3 R4 hbw ⊢
 refine hz_nil ?_
 go_wp2_with fail
 have kk0 := HO0.out.cell 0 _ rfl
 have kk1 := HO0.out.cell 1 _ rfl
 have kk2 := HO0.out.cell 2 _ rfl
 refine bodyPost_ret (v := .agg #[.bool Fs, .slice FA Fn Fc, .slice FB Fm Fd]) (by simp [results, Tryz.results42, go_sem, kk0, kk1, kk2]) rfl ⟨_, rfl, hbw, ?_⟩
 exact R4.out
def ToldSaid (w' : World) (r : Value) (V q : Rat) : Prop := if V = 0 then ScSaid w' r 6 0 else ScSaid w' r 0 q
def toldV (a : List Rat) : Rat := meanF (sqm a (sumL a / ((a.length : Nat) : Int))) a.length
set_option maxRecDepth 100000 in
set_option maxHeartbeats 4000000 in
/-- Told, of lists that are matched -/
theorem told_ok (w : World) (va vb : Value) (a b : List Rat) (ha : rQs w va a) (hb : rQs w vb b) (hab : b.length = a.length) (h0 : 0 < a.length) (hn : a.length ≤ 1099511627775) (hf : ∀ i, i < a.length → qb (a.getD i 0) + qb (b.getD i 0) ≤ 17592186043000) (hw : wt ((List.range a.length).map (sqd a b)) ≤ 8000000000000)
  (hf2 : ∀ i, i < a.length → qb (a.getD i 0) + qb (sumL a / ((a.length : Nat) : Int)) ≤ 17592186043000) (hw2 : wt ((List.range a.length).map (sqm a (sumL a / ((a.length : Nat) : Int)))) ≤ 8000000000000) (hwa : wt a ≤ 17592186044000) :
  Calls Tryz.prog 16 #[va, vb] w (Post w fun r w' => ToldSaid w' r (toldV a) (1 - meanF (sqd a b) a.length / toldV a)) := by
 have bM : qb (meanF (sqd a b) a.length) ≤ 8000000000100 := by
  unfold meanF
  have h1 := qb_div (sumL ((List.range a.length).map (sqd a b))) (((a.length : Nat) : Int) : Rat)
  have h2 := qb_sumL ((List.range a.length).map (sqd a b))
  have h3 : qb (((a.length : Nat) : Int) : Rat) ≤ 64 := by
    unfold qb
    rw [Rat.num_intCast, Rat.den_intCast]
    have b1 : bl ((a.length : Nat) : Int).natAbs ≤ 64 := bl_le_of_lt (k := 64) (by omega)
    have b2 : bl 1 ≤ 64 := by decide
    omega
  omega
 have bV : qb (toldV a) ≤ 8000000000100 := by
  unfold toldV meanF
  have h1 := qb_div (sumL ((List.range a.length).map (sqm a (sumL a / ((a.length : Nat) : Int))))) (((a.length : Nat) : Int) : Rat)
  have h2 := qb_sumL ((List.range a.length).map (sqm a (sumL a / ((a.length : Nat) : Int))))
  have h3 : qb (((a.length : Nat) : Int) : Rat) ≤ 64 := by
    unfold qb
    rw [Rat.num_intCast, Rat.den_intCast]
    have b1 : bl ((a.length : Nat) : Int).natAbs ≤ 64 := bl_le_of_lt (k := 64) (by omega)
    have b2 : bl 1 ≤ 64 := by decide
    omega
  omega
 have HSQ := Lib.hid (fun W h h' => squares_ok W va vb a b h h' hab h0 hn hf (by omega))
 obtain ⟨A, c, rfl, ha⟩ := ha.shape
 obtain ⟨B, d, rfl, hb⟩ := hb.shape
 have HMN := Lib.hid (fun W h => fmean_c W (.slice A a.length c) a h (by omega) hwa)
 have EV : toldV a = meanF (sqm a (sumL a / ((a.length : Nat) : Int))) a.length := rfl
 obtain ⟨M, eM⟩ : ∃ M, meanF (sqd a b) a.length = M := ⟨_, rfl⟩
 obtain ⟨V, eV⟩ : ∃ V, toldV a = V := ⟨_, rfl⟩
 rw [hab] at hb HSQ ⊢
 rw [eM] at HSQ bM ⊢
 rw [eV] at bV EV ⊢
 obtain ⟨n, en⟩ : ∃ n, a.length = n := ⟨_, rfl⟩
 rw [en] at ha hb h0 hn hab hf2 hw2 HSQ HMN EV ⊢
 obtain ⟨y, ey⟩ : ∃ y, sumL a / ((n : Nat) : Int) = y := ⟨_, rfl⟩
 rw [ey] at hf2 hw2 HMN EV
 have HC := Lib.hid (fun W b1 b2 s A2 n2 c2 B2 m2 k2 h1 h2 h3 h4 (h5 : rQs W (.slice A n c) a) (h6 : rQ W (.agg #[.bool s, .slice A2 n2 c2, .slice B2 m2 k2]) y) => mean_c W n 42 #[.pointer (some ⟨b1, 0, none⟩), .pointer (some ⟨b2, 0, none⟩)] (fun _ _ => by kernel_rfl) (sqm a y) (fun i hi W' he => told1_c W' b1 b2 A n c a i y (ext_cell he h1) (ext_cell he h2) (ext_cell he h3) (ext_cell he h4) (h5.ext he) (h6.ext he) hi en (hf2 i hi)) hn (by omega))
 rw [← EV] at HC
 have hdiv := fun W v u h h' => qdiv_c W v u M V h h' (by omega)
 have HDV := Lib.hid (fun W v u h h' => (hdiv W v u h h').mono (fun _ _ h => h.map (fun _ _ h => h.open)))
 obtain ⟨bb, ebb⟩ : ∃ b, decide (V ≠ 0) = b := ⟨_, rfl⟩
 obtain ⟨Q, eQ⟩ : ∃ Q, M / V = Q := ⟨_, rfl⟩
 have bQ : qb Q ≤ 16000000000200 := by rw [← eQ]; have := qb_div M V; omega
 rw [ebb, eQ] at HDV
 have HO1 := Lib.hid (fun W => qof_c W 1 ⟨by omega, by omega⟩)
 rw [show ((1 : Int) : Rat) = 1 from rfl] at HO1
 have hq1 : qb 1 ≤ 4 := by decide
 have HSB := Lib.hid (fun W v u h h' => qsub_c W v u 1 Q h h' (by omega))
 have H1 := Lib.hid ha
 have H2 := Lib.hid hb
 have HBB := Lib.hid ebb
 have HQE := Lib.hid eQ
 have hmf : ∀ (fn : Fn) (first cap : Array Value) (w : World), (Instr.makeFunc fn first cap).run Tryz.prog w = .ok (.func fn first cap) w := fun _ _ _ _ => rfl
 clear ha hb hab hf hw hf2 hw2 hwa bM bV bQ hq1 eM eV EV en ey hdiv ebb eQ
 have HB : Hid (Cells [(w.heap.size, 0, .slice A n c)] ((w.alloc (.cells #[.slice A n c] 58)).alloc (.cells #[.bool false, .slice none 0 0, .slice none 0 0] 32))) := Lib.hid (Cells.cons (by go_simp) (Cells.nil _))
 have HO0 := Lib.hid (Own.new' (w.alloc (.cells #[.slice A n c] 58)) 32 [.bool false, .slice none 0 0, .slice none 0 0] (w.heap.size + 1) (by simp))
 have hbw : Below w.heap.size w ((w.alloc (.cells #[.slice A n c] 58)).alloc (.cells #[.bool false, .slice none 0 0, .slice none 0 0] 32)) := (by repeat (first | assumption | exact nB1 _ _ | refine nB2 ?_ | refine pw_below_drewN ?_ _ | refine nB3 ?_ (by first | omega | (simp <;> omega)) _ | refine nB4 ?_ (by first | omega | (simp <;> omega)) _ | refine nB5 ?_ (by assumption) (by first | omega | (simp <;> omega))))
 go_enter Tryz.func16, Tryz.ntmps16
 go_wp2_with fail
 generalize ((w.alloc (.cells #[.slice A n c] 58)).alloc (.cells #[.bool false, .slice none 0 0, .slice none 0 0] 32)) = W0 at HB HO0 hbw ⊢
 obtain ⟨y0, _⟩ := id HB.out
 go_wp2_with fail
 clear y0
 refine (HSQ.out _ (H1.out.ext hbw) (H2.out.ext hbw)).mono ?_
 rintro e W1 ⟨v1, rfl, hb1, s1, A1, c1, n1, B1, k1, m1, rfl, hr1⟩
 replace HB := Lib.hid (HB.out.ext hb1)
 replace HO0 := Lib.hid (HO0.out.ext hb1)
 replace hbw := nT hbw hb1
 have R1 := Lib.hid hr1
 clear hr1
 clear hb1
 go_upto_region 2 with (fail)
 have z_H6 := hbw.size
 have z_H6_HO0 := HO0.out.lt
 replace HB := Lib.hid (HB.out.alloc (.cells #[.bool s1, .slice A1 n1 c1, .slice B1 m1 k1] 32))
 replace HO0 := Lib.hid (HO0.out.alloc (.cells #[.bool s1, .slice A1 n1 c1, .slice B1 m1 k1] 32))
 replace R1 := Lib.hid (R1.out.alloc (.cells #[.bool s1, .slice A1 n1 c1, .slice B1 m1 k1] 32))
 replace hbw := nB3 hbw hbw.size (.cells #[.bool s1, .slice A1 n1 c1, .slice B1 m1 k1] 32)
 have H6 := Lib.hid (Own.new' W1 32 [.bool s1, .slice A1 n1 c1, .slice B1 m1 k1] W1.heap.size rfl)
 obtain ⟨bH6, e_H6⟩ : ∃ b, W1.heap.size = b := ⟨_, rfl⟩
 simp only [e_H6] at H6 z_H6 z_H6_HO0 ⊢
 generalize (W1.alloc (.cells #[.bool s1, .slice A1 n1 c1, .slice B1 m1 k1] 32)) = W2 at HB HO0 R1 H6 hbw ⊢
 obtain ⟨y0, _⟩ := id HB.out
 go_wp2_with fail
 clear y0
 refine (HMN.out _ (H1.out.ext hbw)).mono ?_
 rintro e W3 ⟨v1, rfl, hb1, s2, A2, c2, n2, B2, k2, m2, b2, rfl, hr1⟩
 replace HB := Lib.hid (HB.out.ext hb1)
 replace HO0 := Lib.hid (HO0.out.ext hb1)
 replace R1 := Lib.hid (R1.out.ext hb1)
 replace H6 := Lib.hid (H6.out.ext hb1)
 replace hbw := nT hbw hb1
 have R2 := Lib.hid hr1
 clear hr1
 clear hb1
 go_upto_region 5 with (fail)
 have z_H8 := hbw.size
 have z_H8_HO0 := HO0.out.lt
 have z_H8_H6 := H6.out.lt
 replace HB := Lib.hid (HB.out.alloc (.cells #[.bool s2, .slice A2 n2 c2, .slice B2 m2 k2] 32))
 replace HO0 := Lib.hid (HO0.out.alloc (.cells #[.bool s2, .slice A2 n2 c2, .slice B2 m2 k2] 32))
 replace R1 := Lib.hid (R1.out.alloc (.cells #[.bool s2, .slice A2 n2 c2, .slice B2 m2 k2] 32))
 replace H6 := Lib.hid (H6.out.alloc (.cells #[.bool s2, .slice A2 n2 c2, .slice B2 m2 k2] 32))
 replace R2 := Lib.hid (R2.out.alloc (.cells #[.bool s2, .slice A2 n2 c2, .slice B2 m2 k2] 32))
 replace hbw := nB3 hbw hbw.size (.cells #[.bool s2, .slice A2 n2 c2, .slice B2 m2 k2] 32)
 have H8 := Lib.hid (Own.new' W3 32 [.bool s2, .slice A2 n2 c2, .slice B2 m2 k2] W3.heap.size rfl)
 obtain ⟨bH8, e_H8⟩ : ∃ b, W3.heap.size = b := ⟨_, rfl⟩
 simp only [e_H8] at H8 z_H8 z_H8_HO0 z_H8_H6 ⊢
 generalize (W3.alloc (.cells #[.bool s2, .slice A2 n2 c2, .slice B2 m2 k2] 32)) = W4 at HB HO0 R1 H6 R2 H8 hbw ⊢
 replace HB := Lib.hid (Cells.cons (H6.out.cell 0 _ rfl) (Cells.cons (H6.out.cell 1 _ rfl) (Cells.cons (H6.out.cell 2 _ rfl) HB.out)))
 replace HB := Lib.hid (Cells.cons (H8.out.cell 0 _ rfl) (Cells.cons (H8.out.cell 1 _ rfl) (Cells.cons (H8.out.cell 2 _ rfl) HB.out)))
 go_upto_region 5 with (fail)
 go_cut [10, 11] (fun p10 p11 WC => ∃ bH10 : Nat, ∃ Ls : Bool, ∃ LA : Option Addr, ∃ Lc : Nat, ∃ Ln : Nat, ∃ LB : Option Addr, ∃ Ld : Nat, ∃ Lm : Nat, p10 = .pointer (some ⟨bH10, 0, none⟩) ∧ p11 = .bool bb ∧ Below w.heap.size w WC ∧ Cells [(bH8, 0, .bool s2), (bH8, 1, .slice A2 n2 c2), (bH8, 2, .slice B2 m2 k2), (bH6, 0, .bool s1), (bH6, 1, .slice A1 n1 c1), (bH6, 2, .slice B1 m1 k1), (w.heap.size, 0, .slice A n c)] WC ∧ Own WC (w.heap.size + 1) 32 [.bool false, .slice none 0 0, .slice none 0 0] ∧ rQ WC (.agg #[.bool s1, .slice A1 n1 c1, .slice B1 m1 k1]) M ∧ rQ WC (.agg #[.bool s2, .slice A2 n2 c2, .slice B2 m2 k2]) y ∧ rQ WC (.agg #[.bool Ls, .slice LA Ln Lc, .slice LB Lm Ld]) Q ∧ Own WC (bH10) 32 [.bool Ls, .slice LA Ln Lc, .slice LB Lm Ld] ∧ w.heap.size + 1 < bH10 ∧ bH8 < bH10 ∧ bH6 < bH10)
 case first =>
  replace HB := Lib.hid (HB.out.drew)
  replace HO0 := Lib.hid (HO0.out.drew)
  replace R1 := Lib.hid (R1.out.drew)
  replace R2 := Lib.hid (R2.out.drew)
  replace hbw := Below.drew hbw
  refine wp_hoistR (.yes 0 (.yes 1 (.yes 2 (.yes 3 (.act 4 (.act 5 (.yes 6 (.yes 7 (.yes 8 (.act 9 (.act 10 (.act 11 (.done) (.stop)) (.stop)) (.stop))))) (.act 9 (.act 5 (.yes 6 (.yes 7 (.yes 8 (.act 10 (.act 11 (.done) (.stop)) (.stop))))) (.stop)) (.stop))) (.act 9 (.act 4 (.act 5 (.yes 6 (.yes 7 (.yes 8 (.act 10 (.act 11 (.done) (.stop)) (.stop))))) (.stop)) (.stop)) (.stop))))))) (Cells [(bH8, 0, .bool s2), (bH8, 1, .slice A2 n2 c2), (bH8, 2, .slice B2 m2 k2), (bH6, 0, .bool s1), (bH6, 1, .slice A1 n1 c1), (bH6, 2, .slice B1 m1 k1), (w.heap.size, 0, .slice A n c)]) (by kernel_rfl) (by kernel_rfl) ?_ ?_
  · exact HB.out
  generalize W4.drew = W5 at HB HO0 R1 R2 hbw ⊢
  refine hr_yes (v := ?_) rfl (by kernel_rfl) (fun W hW => ?_) ?_; rotate_left; (obtain ⟨y0, y1, y2, y3, y4, y5, y6, _⟩ := hW; go_simp; try with_reducible rfl)
  (try (conv => arg 6; simp only [Act.put, gL]))
  refine hr_yes (v := ?_) rfl (by kernel_rfl) (fun W hW => ?_) ?_; rotate_left; (obtain ⟨y0, y1, y2, y3, y4, y5, y6, _⟩ := hW; go_simp; try with_reducible rfl)
  (try (conv => arg 6; simp only [Act.put, gL]))
  refine hr_yes (v := ?_) rfl (by kernel_rfl) (fun W hW => ?_) ?_; rotate_left; (go_simp; try with_reducible rfl)
  (try (conv => arg 6; simp only [Act.put, gL]))
  refine hr_yes (v := ?_) rfl (by kernel_rfl) (fun W hW => ?_) ?_; rotate_left; (go_simp; try with_reducible rfl)
  (try (conv => arg 6; simp only [Act.put, gL]))
  refine hr_eff rfl (by kernel_rfl) (fun K hK => ?_) ?_
  focus
   refine wp_call (HC.out _ _ _ _ _ _ _ _ _ _ HB.out.2.2.2.2.2.2.1 HB.out.1 HB.out.2.1 HB.out.2.2.1 (H1.out.ext hbw) R2.out) (by kernel_rfl) ?_
   rintro v1 W6 hb1 hr1
   obtain ⟨Vs, VA, Vc, Vn, VB, Vd, Vm, rfl, hr1⟩ := hr1.shape
   refine hK.out _ _ ?_ ?_
   · exact HB.out.ext hb1
   clear hK K
   (try (conv => arg 6; simp only [Act.put, gL]))
   replace HB := Lib.hid (HB.out.ext hb1)
   replace HO0 := Lib.hid (HO0.out.ext hb1)
   replace R1 := Lib.hid (R1.out.ext hb1)
   replace R2 := Lib.hid (R2.out.ext hb1)
   replace hbw := nT hbw hb1
   have R3 := Lib.hid hr1
   clear hr1
   clear hb1
   refine hr_eff rfl (by kernel_rfl) (fun K hK => ?_) ?_
   focus
    refine wp_call (HDV.out _ _ _ R1.out R3.out) (by kernel_rfl) ?_
    rintro v1 W7 hb1 ⟨Ls, LA, Lc, Ln, LB, Ld, Lm, rfl, hr1⟩
    refine hK.out _ _ ?_ ?_
    · exact HB.out.ext hb1
    clear hK K
    (try (conv => arg 6; simp only [Act.put, gL]))
    replace HB := Lib.hid (HB.out.ext hb1)
    replace HO0 := Lib.hid (HO0.out.ext hb1)
    replace R1 := Lib.hid (R1.out.ext hb1)
    replace R2 := Lib.hid (R2.out.ext hb1)
    replace R3 := Lib.hid (R3.out.ext hb1)
    replace hbw := nT hbw hb1
    have R4 := Lib.hid hr1
    clear hr1
    clear hb1
    refine hr_yes (v := ?_) rfl (by kernel_rfl) (fun W hW => ?_) ?_; rotate_left; (go_simp; try with_reducible rfl)
    (try (conv => arg 6; simp only [Act.put, gL]))
    refine hr_yes (v := ?_) rfl (by kernel_rfl) (fun W hW => ?_) ?_; rotate_left; (go_simp; try with_reducible rfl)
    (try (conv => arg 6; simp only [Act.put, gL]))
    refine hr_yes (v := ?_) rfl (by kernel_rfl) (fun W hW => ?_) ?_; rotate_left; (go_simp; try with_reducible rfl)
    (try (conv => arg 6; simp only [Act.put, gL]))
    refine hr_one rfl (by kernel_rfl) (fun K hK => ?_)
    go_simp
    refine hK.out _ _ ?_ ?_
    · exact HB.out.alloc _
    clear hK K
    (try (conv => arg 6; simp only [Act.put, gL]))
    have z_H10 := hbw.size
    have z_H10_HO0 := HO0.out.lt
    have z_H10_H8 := cell_lt HB.out.1
    have z_H10_H6 := cell_lt HB.out.2.2.2.1
    replace HB := Lib.hid (HB.out.alloc (.cells #[.bool false, .slice none 0 0, .slice none 0 0] 32))
    replace HO0 := Lib.hid (HO0.out.alloc (.cells #[.bool false, .slice none 0 0, .slice none 0 0] 32))
    replace R1 := Lib.hid (R1.out.alloc (.cells #[.bool false, .slice none 0 0, .slice none 0 0] 32))
    replace R2 := Lib.hid (R2.out.alloc (.cells #[.bool false, .slice none 0 0, .slice none 0 0] 32))
    replace R3 := Lib.hid (R3.out.alloc (.cells #[.bool false, .slice none 0 0, .slice none 0 0] 32))
    replace R4 := Lib.hid (R4.out.alloc (.cells #[.bool false, .slice none 0 0, .slice none 0 0] 32))
    replace hbw := nB3 hbw hbw.size (.cells #[.bool false, .slice none 0 0, .slice none 0 0] 32)
    have H10 := Lib.hid (Own.new' W7 32 [.bool false, .slice none 0 0, .slice none 0 0] W7.heap.size rfl)
    obtain ⟨bH10, e_H10⟩ : ∃ b, W7.heap.size = b := ⟨_, rfl⟩
    simp only [e_H10] at H10 z_H10 z_H10_HO0 z_H10_H8 z_H10_H6 ⊢
    generalize (W7.alloc (.cells #[.bool false, .slice none 0 0, .slice none 0 0] 32)) = W8 at HB HO0 R1 R2 R3 R4 H10 hbw ⊢
   rotate_left 1
   refine hr_eff rfl (by kernel_rfl) (fun K hK => ?_) ?_
   focus
    go_simp
    refine hK.out _ _ ?_ ?_
    · exact HB.out.alloc _
    clear hK K
    (try (conv => arg 6; simp only [Act.put, gL]))
    have z_H10 := hbw.size
    have z_H10_HO0 := HO0.out.lt
    have z_H10_H8 := cell_lt HB.out.1
    have z_H10_H6 := cell_lt HB.out.2.2.2.1
    replace HB := Lib.hid (HB.out.alloc (.cells #[.bool false, .slice none 0 0, .slice none 0 0] 32))
    replace HO0 := Lib.hid (HO0.out.alloc (.cells #[.bool false, .slice none 0 0, .slice none 0 0] 32))
    replace R1 := Lib.hid (R1.out.alloc (.cells #[.bool false, .slice none 0 0, .slice none 0 0] 32))
    replace R2 := Lib.hid (R2.out.alloc (.cells #[.bool false, .slice none 0 0, .slice none 0 0] 32))
    replace R3 := Lib.hid (R3.out.alloc (.cells #[.bool false, .slice none 0 0, .slice none 0 0] 32))
    replace hbw := nB3 hbw hbw.size (.cells #[.bool false, .slice none 0 0, .slice none 0 0] 32)
    have H10 := Lib.hid (Own.new' W6 32 [.bool false, .slice none 0 0, .slice none 0 0] W6.heap.size rfl)
    obtain ⟨bH10, e_H10⟩ : ∃ b, W6.heap.size = b := ⟨_, rfl⟩
    simp only [e_H10] at H10 z_H10 z_H10_HO0 z_H10_H8 z_H10_H6 ⊢
    generalize (W6.alloc (.cells #[.bool false, .slice none 0 0, .slice none 0 0] 32)) = W7 at HB HO0 R1 R2 R3 H10 hbw ⊢
    refine hr_one rfl (by kernel_rfl) (fun K hK => ?_)
    refine wp_call (HDV.out _ _ _ R1.out R3.out) (by kernel_rfl) ?_
    rintro v1 W8 hb1 ⟨Ls, LA, Lc, Ln, LB, Ld, Lm, rfl, hr1⟩
    refine hK.out _ _ ?_ ?_
    · exact HB.out.ext hb1
    clear hK K
    (try (conv => arg 6; simp only [Act.put, gL]))
    replace HB := Lib.hid (HB.out.ext hb1)
    replace HO0 := Lib.hid (HO0.out.ext hb1)
    replace R1 := Lib.hid (R1.out.ext hb1)
    replace R2 := Lib.hid (R2.out.ext hb1)
    replace R3 := Lib.hid (R3.out.ext hb1)
    replace H10 := Lib.hid (H10.out.ext hb1)
    replace hbw := nT hbw hb1
    have R4 := Lib.hid hr1
    clear hr1
    clear hb1
    refine hr_yes (v := ?_) rfl (by kernel_rfl) (fun W hW => ?_) ?_; rotate_left; (go_simp; try with_reducible rfl)
    (try (conv => arg 6; simp only [Act.put, gL]))
    refine hr_yes (v := ?_) rfl (by kernel_rfl) (fun W hW => ?_) ?_; rotate_left; (go_simp; try with_reducible rfl)
    (try (conv => arg 6; simp only [Act.put, gL]))
    refine hr_yes (v := ?_) rfl (by kernel_rfl) (fun W hW => ?_) ?_; rotate_left; (go_simp; try with_reducible rfl)
    (try (conv => arg 6; simp only [Act.put, gL]))
   rotate_left 1
   exact trivial
  rotate_left 2
  refine hr_eff rfl (by kernel_rfl) (fun K hK => ?_) ?_
  focus
   go_simp
   refine hK.out _ _ ?_ ?_
   · exact HB.out.alloc _
   clear hK K
   (try (conv => arg 6; simp only [Act.put, gL]))
   have z_H10 := hbw.size
   have z_H10_HO0 := HO0.out.lt
   have z_H10_H8 := cell_lt HB.out.1
   have z_H10_H6 := cell_lt HB.out.2.2.2.1
   replace HB := Lib.hid (HB.out.alloc (.cells #[.bool false, .slice none 0 0, .slice none 0 0] 32))
   replace HO0 := Lib.hid (HO0.out.alloc (.cells #[.bool false, .slice none 0 0, .slice none 0 0] 32))
   replace R1 := Lib.hid (R1.out.alloc (.cells #[.bool false, .slice none 0 0, .slice none 0 0] 32))
   replace R2 := Lib.hid (R2.out.alloc (.cells #[.bool false, .slice none 0 0, .slice none 0 0] 32))
   replace hbw := nB3 hbw hbw.size (.cells #[.bool false, .slice none 0 0, .slice none 0 0] 32)
   have H10 := Lib.hid (Own.new' W5 32 [.bool false, .slice none 0 0, .slice none 0 0] W5.heap.size rfl)
   obtain ⟨bH10, e_H10⟩ : ∃ b, W5.heap.size = b := ⟨_, rfl⟩
   simp only [e_H10] at H10 z_H10 z_H10_HO0 z_H10_H8 z_H10_H6 ⊢
   generalize (W5.alloc (.cells #[.bool false, .slice none 0 0, .slice none 0 0] 32)) = W6 at HB HO0 R1 R2 H10 hbw ⊢
   refine hr_one rfl (by kernel_rfl) (fun K hK => ?_)
   refine wp_call (HC.out _ _ _ _ _ _ _ _ _ _ HB.out.2.2.2.2.2.2.1 HB.out.1 HB.out.2.1 HB.out.2.2.1 (H1.out.ext hbw) R2.out) (by kernel_rfl) ?_
   rintro v1 W7 hb1 hr1
   obtain ⟨Vs, VA, Vc, Vn, VB, Vd, Vm, rfl, hr1⟩ := hr1.shape
   refine hK.out _ _ ?_ ?_
   · exact HB.out.ext hb1
   clear hK K
   (try (conv => arg 6; simp only [Act.put, gL]))
   replace HB := Lib.hid (HB.out.ext hb1)
   replace HO0 := Lib.hid (HO0.out.ext hb1)
   replace R1 := Lib.hid (R1.out.ext hb1)
   replace R2 := Lib.hid (R2.out.ext hb1)
   replace H10 := Lib.hid (H10.out.ext hb1)
   replace hbw := nT hbw hb1
   have R3 := Lib.hid hr1
   clear hr1
   clear hb1
   refine hr_one rfl (by kernel_rfl) (fun K hK => ?_)
   refine wp_call (HDV.out _ _ _ R1.out R3.out) (by kernel_rfl) ?_
   rintro v1 W8 hb1 ⟨Ls, LA, Lc, Ln, LB, Ld, Lm, rfl, hr1⟩
   refine hK.out _ _ ?_ ?_
   · exact HB.out.ext hb1
   clear hK K
   (try (conv => arg 6; simp only [Act.put, gL]))
   replace HB := Lib.hid (HB.out.ext hb1)
   replace HO0 := Lib.hid (HO0.out.ext hb1)
   replace R1 := Lib.hid (R1.out.ext hb1)
   replace R2 := Lib.hid (R2.out.ext hb1)
   replace H10 := Lib.hid (H10.out.ext hb1)
   replace R3 := Lib.hid (R3.out.ext hb1)
   replace hbw := nT hbw hb1
   have R4 := Lib.hid hr1
   clear hr1
   clear hb1
   refine hr_yes (v := ?_) rfl (by kernel_rfl) (fun W hW => ?_) ?_; rotate_left; (go_simp; try with_reducible rfl)
   (try (conv => arg 6; simp only [Act.put, gL]))
   refine hr_yes (v := ?_) rfl (by kernel_rfl) (fun W hW => ?_) ?_; rotate_left; (go_simp; try with_reducible rfl)
   (try (conv => arg 6; simp only [Act.put, gL]))
   refine hr_yes (v := ?_) rfl (by kernel_rfl) (fun W hW => ?_) ?_; rotate_left; (go_simp; try with_reducible rfl)
   (try (conv => arg 6; simp only [Act.put, gL]))
  rotate_left 1
  exact trivial
  all_goals
   refine hr_one rfl (by kernel_rfl) (fun K hK => ?_)
   have q0 := H10.out.cell 0 _ rfl
   have f0 := H10.out.frozen 0
   have q1 := H10.out.cell 1 _ rfl
   have f1 := H10.out.frozen 1
   have q2 := H10.out.cell 2 _ rfl
   have f2 := H10.out.frozen 2
   go_simp
   refine hK.out _ _ ?_ ?_
   · exact (((HB.out.set (p := ⟨bH10, 0, none⟩) _ (by simp <;> omega)).set (p := ⟨bH10, 1, none⟩) _ (by simp <;> omega)).set (p := ⟨bH10, 2, none⟩) _ (by simp <;> omega))
   clear hK K
   (try (conv => arg 6; simp only [Act.put, gL]))
   replace HB := Lib.hid (HB.out.set (p := ⟨bH10, 0, none⟩) (.bool Ls) (by simp <;> omega))
   replace HO0 := Lib.hid (HO0.out.other (p := ⟨bH10, 0, none⟩) (.bool Ls) (by simp <;> omega))
   replace R1 := Lib.hid (R1.out.set (x := .bool Ls) q0 rfl)
   replace R2 := Lib.hid (R2.out.set (x := .bool Ls) q0 rfl)
   replace H10 := Lib.hid (H10.out.set 0 (.bool Ls))
   replace R3 := Lib.hid (R3.out.set (x := .bool Ls) q0 rfl)
   replace R4 := Lib.hid (R4.out.set (x := .bool Ls) q0 rfl)
   replace hbw := nB4 hbw (show w.heap.size ≤ (⟨bH10, 0, none⟩ : Addr).block by simp <;> omega) (.bool Ls)
   replace q1 := (nC W8 ⟨bH10, 0, none⟩ ⟨bH10, 1, none⟩ (.bool Ls) (by simp)).trans q1
   replace q2 := (nC W8 ⟨bH10, 0, none⟩ ⟨bH10, 2, none⟩ (.bool Ls) (by simp)).trans q2
   replace HB := Lib.hid (HB.out.set (p := ⟨bH10, 1, none⟩) (.slice LA Ln Lc) (by simp <;> omega))
   replace HO0 := Lib.hid (HO0.out.other (p := ⟨bH10, 1, none⟩) (.slice LA Ln Lc) (by simp <;> omega))
   replace R1 := Lib.hid (R1.out.set (x := .slice LA Ln Lc) q1 rfl)
   replace R2 := Lib.hid (R2.out.set (x := .slice LA Ln Lc) q1 rfl)
   replace H10 := Lib.hid (H10.out.set 1 (.slice LA Ln Lc))
   replace R3 := Lib.hid (R3.out.set (x := .slice LA Ln Lc) q1 rfl)
   replace R4 := Lib.hid (R4.out.set (x := .slice LA Ln Lc) q1 rfl)
   replace hbw := nB4 hbw (show w.heap.size ≤ (⟨bH10, 1, none⟩ : Addr).block by simp <;> omega) (.slice LA Ln Lc)
   replace q2 := (nC (W8.setCell ⟨bH10, 0, none⟩ (.bool Ls)) ⟨bH10, 1, none⟩ ⟨bH10, 2, none⟩ (.slice LA Ln Lc) (by simp)).trans q2
   replace HB := Lib.hid (HB.out.set (p := ⟨bH10, 2, none⟩) (.slice LB Lm Ld) (by simp <;> omega))
   replace HO0 := Lib.hid (HO0.out.other (p := ⟨bH10, 2, none⟩) (.slice LB Lm Ld) (by simp <;> omega))
   replace R1 := Lib.hid (R1.out.set (x := .slice LB Lm Ld) q2 rfl)
   replace R2 := Lib.hid (R2.out.set (x := .slice LB Lm Ld) q2 rfl)
   replace H10 := Lib.hid (H10.out.set 2 (.slice LB Lm Ld))
   replace R3 := Lib.hid (R3.out.set (x := .slice LB Lm Ld) q2 rfl)
   replace R4 := Lib.hid (R4.out.set (x := .slice LB Lm Ld) q2 rfl)
   replace hbw := nB4 hbw (show w.heap.size ≤ (⟨bH10, 2, none⟩ : Addr).block by simp <;> omega) (.slice LB Lm Ld)
   clear q0 f0 q1 f1 q2 f2
   replace H10 : Hid (Own _ _ _ [.bool Ls, .slice LA Ln Lc, .slice LB Lm Ld]) := H10
   generalize (((W8.setCell ⟨bH10, 0, none⟩ (.bool Ls)).setCell ⟨bH10, 1, none⟩ (.slice LA Ln Lc)).setCell ⟨bH10, 2, none⟩ (.slice LB Lm Ld)) = W9 at HB HO0 R1 R2 H10 R3 R4 hbw ⊢
   refine hr_one rfl (by kernel_rfl) (fun K hK => ?_)
   go_simp
   refine hK.out _ _ ?_ ?_
   · exact HB.out
   clear hK K
   (try (conv => arg 6; simp only [Act.put, gL]))
   refine hr_done ?_
   go_wp2
   go_meet
   exact ⟨bH10, Ls, LA, Lc, Ln, LB, Ld, Lm, rfl, rfl, hbw, HB.out, HO0.out, R1.out, R2.out, R4.out, H10.out, by omega, by omega, by omega⟩
 obtain ⟨bH10, Ls, LA, Lc, Ln, LB, Ld, Lm, rfl, rfl, hbw, h_HB, h_HO0, h_R1, h_R2, h_R4, h_H10, z_H10_HO0, z_H10_H8, z_H10_H6⟩ := hcut
 try clear HB HO0 R1 R2 R4 H10
 have HB := Lib.hid h_HB
 clear h_HB
 have HO0 := Lib.hid h_HO0
 clear h_HO0
 have R1 := Lib.hid h_R1
 clear h_R1
 have R2 := Lib.hid h_R2
 clear h_R2
 have R4 := Lib.hid h_R4
 clear h_R4
 have H10 := Lib.hid h_H10
 clear h_H10
 replace HB := Lib.hid (Cells.cons (H10.out.cell 2 _ rfl) HB.out)
 replace HB := Lib.hid (Cells.cons (H10.out.cell 1 _ rfl) HB.out)
 replace HB := Lib.hid (Cells.cons (H10.out.cell 0 _ rfl) HB.out)
 cases bb
 ·
  skip
  have q0 := HO0.out.cell 0 _ rfl
  have f0 := HO0.out.frozen 0
  have q1 := HO0.out.cell 1 _ rfl
  have f1 := HO0.out.frozen 1
  have q2 := HO0.out.cell 2 _ rfl
  have f2 := HO0.out.frozen 2
  go_wp2_with fail
  replace HB := Lib.hid (HB.out.set (p := ⟨w.heap.size + 1, 0, none⟩) (.bool false) (by simp <;> omega))
  replace HO0 := Lib.hid (HO0.out.set 0 (.bool false))
  replace R1 := Lib.hid (R1.out.set (x := .bool false) q0 rfl)
  replace R2 := Lib.hid (R2.out.set (x := .bool false) q0 rfl)
  replace R4 := Lib.hid (R4.out.set (x := .bool false) q0 rfl)
  replace hbw := nB4 hbw (show w.heap.size ≤ (⟨w.heap.size + 1, 0, none⟩ : Addr).block by simp <;> omega) (.bool false)
  replace q1 := (nC wc ⟨w.heap.size + 1, 0, none⟩ ⟨w.heap.size + 1, 1, none⟩ (.bool false) (by simp)).trans q1
  replace q2 := (nC wc ⟨w.heap.size + 1, 0, none⟩ ⟨w.heap.size + 1, 2, none⟩ (.bool false) (by simp)).trans q2
  replace HB := Lib.hid (HB.out.set (p := ⟨w.heap.size + 1, 1, none⟩) (.slice none 0 0) (by simp <;> omega))
  replace HO0 := Lib.hid (HO0.out.set 1 (.slice none 0 0))
  replace R1 := Lib.hid (R1.out.set (x := .slice none 0 0) q1 rfl)
  replace R2 := Lib.hid (R2.out.set (x := .slice none 0 0) q1 rfl)
  replace R4 := Lib.hid (R4.out.set (x := .slice none 0 0) q1 rfl)
  replace hbw := nB4 hbw (show w.heap.size ≤ (⟨w.heap.size + 1, 1, none⟩ : Addr).block by simp <;> omega) (.slice none 0 0)
  replace q2 := (nC (wc.setCell ⟨w.heap.size + 1, 0, none⟩ (.bool false)) ⟨w.heap.size + 1, 1, none⟩ ⟨w.heap.size + 1, 2, none⟩ (.slice none 0 0) (by simp)).trans q2
  replace HB := Lib.hid (HB.out.set (p := ⟨w.heap.size + 1, 2, none⟩) (.slice none 0 0) (by simp <;> omega))
  replace HO0 := Lib.hid (HO0.out.set 2 (.slice none 0 0))
  replace R1 := Lib.hid (R1.out.set (x := .slice none 0 0) q2 rfl)
  replace R2 := Lib.hid (R2.out.set (x := .slice none 0 0) q2 rfl)
  replace R4 := Lib.hid (R4.out.set (x := .slice none 0 0) q2 rfl)
  replace hbw := nB4 hbw (show w.heap.size ≤ (⟨w.heap.size + 1, 2, none⟩ : Addr).block by simp <;> omega) (.slice none 0 0)
  clear q0 f0 q1 f1 q2 f2
  replace HO0 : Hid (Own _ _ _ [.bool false, .slice none 0 0, .slice none 0 0]) := HO0
  generalize (((wc.setCell ⟨w.heap.size + 1, 0, none⟩ (.bool false)).setCell ⟨w.heap.size + 1, 1, none⟩ (.slice none 0 0)).setCell ⟨w.heap.size + 1, 2, none⟩ (.slice none 0 0)) = W10 at HB HO0 R1 R2 R4 hbw ⊢
  have kk0 := HO0.out.cell 0 _ rfl
  have kk1 := HO0.out.cell 1 _ rfl
  have kk2 := HO0.out.cell 2 _ rfl
  refine bodyPost_ret (v := .tuple #[.agg #[.bool false, .slice none 0 0, .slice none 0 0], .int .i64 6]) (by simp [results, Tryz.results16, go_sem, kk0, kk1, kk2]) rfl ⟨_, rfl, hbw, ?_⟩
  show ToldSaid _ _ _ _
  unfold ToldSaid
  rw [if_pos (by have := HBB.out; simpa using this)]
  exact ⟨_, _, _, _, _, _, _, rfl, rQd.mk (by exact ⟨_, rNat.zero _, rfl⟩) (rNat.zero _)⟩
 go_wp2_with fail
 replace HB := Lib.hid (HB.out.drew)
 replace HO0 := Lib.hid (HO0.out.drew)
 replace R1 := Lib.hid (R1.out.drew)
 replace R2 := Lib.hid (R2.out.drew)
 replace R4 := Lib.hid (R4.out.drew)
 replace hbw := Below.drew hbw
 refine wp_hoist [(1, true), (0, false), (2, false), (3, false), (4, false)] (Cells [(bH10, 0, .bool Ls), (bH10, 1, .slice LA Ln Lc), (bH10, 2, .slice LB Lm Ld), (bH8, 0, .bool s2), (bH8, 1, .slice A2 n2 c2), (bH8, 2, .slice B2 m2 k2), (bH6, 0, .bool s1), (bH6, 1, .slice A1 n1 c1), (bH6, 2, .slice B1 m1 k1), (w.heap.size, 0, .slice A n c)]) (by kernel_rfl) (by kernel_rfl) ?_ ?_
 · exact HB.out
 generalize wc.drew = W10 at HB HO0 R1 R2 R4 hbw ⊢
 refine hz_yes (v := ?_) rfl (by kernel_rfl) (fun W hW => ?_) ?_; rotate_left; (obtain ⟨y0, y1, y2, y3, y4, y5, y6, y7, y8, y9, _⟩ := hW; go_simp; try with_reducible rfl)
 (try (conv => arg 6; simp only [Act.put, gL]))
 refine hz_eff rfl (by kernel_rfl) (fun K hK => ?_)
 refine wp_call (HO1.out _) (by kernel_rfl) ?_
 rintro v1 W11 hb1 hr1
 obtain ⟨Xs, XA, Xc, Xn, XB, Xd, Xm, rfl, hr1⟩ := hr1.shape
 refine hK.out _ _ ?_ ?_
 · exact HB.out.ext hb1
 clear hK K
 (try (conv => arg 6; simp only [Act.put, gL]))
 replace HB := Lib.hid (HB.out.ext hb1)
 replace HO0 := Lib.hid (HO0.out.ext hb1)
 replace R1 := Lib.hid (R1.out.ext hb1)
 replace R2 := Lib.hid (R2.out.ext hb1)
 replace R4 := Lib.hid (R4.out.ext hb1)
 replace hbw := nT hbw hb1
 have R5 := Lib.hid hr1
 clear hr1
 clear hb1
 refine hz_eff rfl (by kernel_rfl) (fun K hK => ?_)
 refine wp_call (HSB.out _ _ _ R5.out R4.out) (by kernel_rfl) ?_
 rintro v1 W12 hb1 hr1
 obtain ⟨Ys, YA, Yc, Yn, YB, Yd, Ym, rfl, hr1⟩ := hr1.shape
 refine hK.out _ _ ?_ ?_
 · exact HB.out.ext hb1
 clear hK K
 (try (conv => arg 6; simp only [Act.put, gL]))
 replace HB := Lib.hid (HB.out.ext hb1)
 replace HO0 := Lib.hid (HO0.out.ext hb1)
 replace R1 := Lib.hid (R1.out.ext hb1)
 replace R2 := Lib.hid (R2.out.ext hb1)
 replace R4 := Lib.hid (R4.out.ext hb1)
 replace R5 := Lib.hid (R5.out.ext hb1)
 replace hbw := nT hbw hb1
 have R6 := Lib.hid hr1
 clear hr1
 clear hb1
 have q0 := HO0.out.cell 0 _ rfl
 have f0 := HO0.out.frozen 0
 have q1 := HO0.out.cell 1 _ rfl
 have f1 := HO0.out.frozen 1
 have q2 := HO0.out.cell 2 _ rfl
 have f2 := HO0.out.frozen 2
 refine hz_eff rfl (by kernel_rfl) (fun K hK => ?_)
 go_simp
 refine hK.out _ _ ?_ ?_
 · exact (((HB.out.set (p := ⟨w.heap.size + 1, 0, none⟩) _ (by simp <;> omega)).set (p := ⟨w.heap.size + 1, 1, none⟩) _ (by simp <;> omega)).set (p := ⟨w.heap.size + 1, 2, none⟩) _ (by simp <;> omega))
 clear hK K
 (try (conv => arg 6; simp only [Act.put, gL]))
 replace HB := Lib.hid (HB.out.set (p := ⟨w.heap.size + 1, 0, none⟩) (.bool Ys) (by simp <;> omega))
 replace HO0 := Lib.hid (HO0.out.set 0 (.bool Ys))
 replace R1 := Lib.hid (R1.out.set (x := .bool Ys) q0 rfl)
 replace R2 := Lib.hid (R2.out.set (x := .bool Ys) q0 rfl)
 replace R4 := Lib.hid (R4.out.set (x := .bool Ys) q0 rfl)
 replace R5 := Lib.hid (R5.out.set (x := .bool Ys) q0 rfl)
 replace R6 := Lib.hid (R6.out.set (x := .bool Ys) q0 rfl)
 replace hbw := nB4 hbw (show w.heap.size ≤ (⟨w.heap.size + 1, 0, none⟩ : Addr).block by simp <;> omega) (.bool Ys)
 replace q1 := (nC W12 ⟨w.heap.size + 1, 0, none⟩ ⟨w.heap.size + 1, 1, none⟩ (.bool Ys) (by simp)).trans q1
 replace q2 := (nC W12 ⟨w.heap.size + 1, 0, none⟩ ⟨w.heap.size + 1, 2, none⟩ (.bool Ys) (by simp)).trans q2
 replace HB := Lib.hid (HB.out.set (p := ⟨w.heap.size + 1, 1, none⟩) (.slice YA Yn Yc) (by simp <;> omega))
 replace HO0 := Lib.hid (HO0.out.set 1 (.slice YA Yn Yc))
 replace R1 := Lib.hid (R1.out.set (x := .slice YA Yn Yc) q1 rfl)
 replace R2 := Lib.hid (R2.out.set (x := .slice YA Yn Yc) q1 rfl)
 replace R4 := Lib.hid (R4.out.set (x := .slice YA Yn Yc) q1 rfl)
 replace R5 := Lib.hid (R5.out.set (x := .slice YA Yn Yc) q1 rfl)
 replace R6 := Lib.hid (R6.out.set (x := .slice YA Yn Yc) q1 rfl)
 replace hbw := nB4 hbw (show w.heap.size ≤ (⟨w.heap.size + 1, 1, none⟩ : Addr).block by simp <;> omega) (.slice YA Yn Yc)
 replace q2 := (nC (W12.setCell ⟨w.heap.size + 1, 0, none⟩ (.bool Ys)) ⟨w.heap.size + 1, 1, none⟩ ⟨w.heap.size + 1, 2, none⟩ (.slice YA Yn Yc) (by simp)).trans q2
 replace HB := Lib.hid (HB.out.set (p := ⟨w.heap.size + 1, 2, none⟩) (.slice YB Ym Yd) (by simp <;> omega))
 replace HO0 := Lib.hid (HO0.out.set 2 (.slice YB Ym Yd))
 replace R1 := Lib.hid (R1.out.set (x := .slice YB Ym Yd) q2 rfl)
 replace R2 := Lib.hid (R2.out.set (x := .slice YB Ym Yd) q2 rfl)
 replace R4 := Lib.hid (R4.out.set (x := .slice YB Ym Yd) q2 rfl)
 replace R5 := Lib.hid (R5.out.set (x := .slice YB Ym Yd) q2 rfl)
 replace R6 := Lib.hid (R6.out.set (x := .slice YB Ym Yd) q2 rfl)
 replace hbw := nB4 hbw (show w.heap.size ≤ (⟨w.heap.size + 1, 2, none⟩ : Addr).block by simp <;> omega) (.slice YB Ym Yd)
 clear q0 f0 q1 f1 q2 f2
 replace HO0 : Hid (Own _ _ _ [.bool Ys, .slice YA Yn Yc, .slice YB Ym Yd]) := HO0
 generalize (((W12.setCell ⟨w.heap.size + 1, 0, none⟩ (.bool Ys)).setCell ⟨w.heap.size + 1, 1, none⟩ (.slice YA Yn Yc)).setCell ⟨w.heap.size + 1, 2, none⟩ (.slice YB Ym Yd)) = W13 at HB HO0 R1 R2 R4 R5 R6 hbw ⊢
 refine hz_eff rfl (by kernel_rfl) (fun K hK => ?_)
 go_simp
 refine hK.out _ _ ?_ ?_
 · exact HB.out
 clear hK K
 (try (conv => arg 6; simp only [Act.put, gL]))
 refine hz_nil ?_
 go_wp2_with fail
 have kk0 := HO0.out.cell 0 _ rfl
 have kk1 := HO0.out.cell 1 _ rfl
 have kk2 := HO0.out.cell 2 _ rfl
 refine bodyPost_ret (v := .tuple #[.agg #[.bool Ys, .slice YA Yn Yc, .slice YB Ym Yd], .int .i64 0]) (by simp [results, Tryz.results16, go_sem, kk0, kk1, kk2]) rfl ⟨_, rfl, hbw, ?_⟩
 show ToldSaid _ _ _ _
 unfold ToldSaid
 rw [if_neg (by have := HBB.out; simpa using this), HQE.out]
 exact ⟨_, _, _, _, _, _, _, rfl, R6.out⟩
end Go.Proofs.YtadpjidakippeaaGreat

/- Lists of whole numbers in memory. -/
namespace Go.Proofs.YtadpjidakippeaaGreat
open Go.RowKit
/-- A list of whole numbers. -/
def rIs (w : World) (v : Value) (l : List Int) : Prop := ∃ A c, v = .slice A l.length c ∧ l.length ≤ c ∧ (∀ x ∈ l, I64 x) ∧ (l ≠ [] → ∃ g o, A = some ⟨g, o, none⟩ ∧ ∀ j (hj : j < l.length), w.cell? ⟨g, o + j, none⟩ = some (.int .i64 l[j]))
theorem rIs.shape {w : World} {v : Value} {l : List Int} (h : rIs w v l) : ∃ A c, v = .slice A l.length c ∧ rIs w (.slice A l.length c) l := by
 obtain ⟨A, c, rfl, h⟩ := h
 exact ⟨A, c, rfl, A, c, rfl, h⟩
theorem rIs.at {w : World} {A : Option Addr} {n c : Nat} {l : List Int} (h : rIs w (.slice A n c) l) {j : Nat} (hj : j < l.length) : ∃ g o, A = some ⟨g, o, none⟩ ∧ w.cell? ⟨g, o + j, none⟩ = some (.int .i64 l[j]) ∧ I64 l[j] := by
 obtain ⟨A', c', hv, _, hI, h⟩ := h
 simp only [Value.slice.injEq] at hv
 obtain ⟨rfl, rfl, rfl⟩ := hv
 obtain ⟨g, o, hA, h⟩ := h (by intro e; rw [e] at hj; simp at hj)
 exact ⟨g, o, hA, h j hj, hI _ (List.getElem_mem hj)⟩
end Go.Proofs.YtadpjidakippeaaGreat
