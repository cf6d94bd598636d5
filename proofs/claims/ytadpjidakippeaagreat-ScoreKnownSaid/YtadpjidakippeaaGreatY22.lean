/- score.Rates, of a square table of counts. -/
import Derived.Test.YtadpjidakippeaaGreatY19
import Derived.Test.YtadpjidakippeaaGreatY10
set_option linter.unusedVariables false
set_option linter.unusedSimpArgs false
namespace Go.Proofs.YtadpjidakippeaaGreat
open Go.RowKit
structure RatesIn (w : World) (bO k i : Nat) (A : Option Addr) (c : Nat) (f : Nat → Rat) (W : World) : Prop where
 be : Below w.heap.size w W
 bx : W.cell? ⟨w.heap.size, 0, none⟩ = some (.slice A k c)
 fl : FillT 66 W bO (3 * k) (3 * i) f
 lt : w.heap.size < bO
set_option maxRecDepth 100000 in
set_option maxHeartbeats 8000000 in
/-- Rates -/
theorem rates_c (w : World) (v : Value) (T : List (List Int)) (k : Nat) (hT : rIss w v T) (hs : Sq T k) (hk0 : 0 < k) (hk : k ≤ 1099511627775) (ho : OkT T k) : Calls Tryz.prog 15 #[v] w (Post w fun r w' => RatesSaid w' r T k) := by
 obtain ⟨A, c, rfl, hT⟩ := hT.shape
 rw [hs.len] at hT ⊢
 have HC := Lib.hid (fun W bx h hc => contains2_c W (.slice A k c) bx T k c A h hs hk hc)
 have HN := Lib.hid (fun W h => counted_c W (.slice A k c) T k h hs hk ho)
 have H1 := Lib.hid hT
 have HS := Lib.hid hs
 have HO := Lib.hid ho
 have HK := Lib.hid hk
 have hk1 : ((k : Int) == 0) = false := by rw [beq_eq_false_iff_ne]; omega
 have hk2 : ¬ (k : Int) = 0 := by omega
 have hmk := fun W => mkRates (k : Int) k rfl hk W
 have hw0 : IntKind.i64.wrap 0 = 0 := rfl
 have hmf : ∀ (fn : Fn) (first cap : Array Value) (w : World), (Instr.makeFunc fn first cap).run Tryz.prog w = .ok (.func fn first cap) w := fun _ _ _ _ => rfl
 clear hT hs ho
 have HB : Hid (Cells [(w.heap.size, 0, .slice A k c)] (w.alloc (.cells #[.slice A k c] 23))) := Lib.hid (Cells.cons (by go_simp) (Cells.nil _))
 have hbw : Below w.heap.size w (w.alloc (.cells #[.slice A k c] 23)) := (by repeat (first | assumption | exact nB1 _ _ | refine nB2 ?_ | refine pw_below_drewN ?_ _ | refine nB3 ?_ (by first | omega | (simp <;> omega)) _ | refine nB4 ?_ (by first | omega | (simp <;> omega)) _ | refine nB5 ?_ (by assumption) (by first | omega | (simp <;> omega))))
 go_enter Tryz.func15, Tryz.ntmps15
 go_wp2_with fail
 generalize (w.alloc (.cells #[.slice A k c] 23)) = W0 at HB hbw ⊢
 obtain ⟨y0, _⟩ := id HB.out
 go_wp2_with fail
 clear y0
 refine (HC.out _ _ (H1.out.ext hbw) HB.out.1).mono ?_
 rintro e W1 ⟨v1, rfl, hb1, rfl⟩
 replace HB := Lib.hid (HB.out.ext hb1)
 replace hbw := nT hbw hb1
 clear hb1
 obtain ⟨y0, _⟩ := id HB.out
 go_wp2_with fail
 clear y0
 refine (HN.out _ (H1.out.ext hbw)).mono ?_
 rintro e W2 ⟨v1, rfl, hb1, rfl⟩
 replace HB := Lib.hid (HB.out.ext hb1)
 replace hbw := nT hbw hb1
 clear hb1
 obtain ⟨y0, _⟩ := id HB.out
 go_upto_region 6 with (fail)
 clear y0
 have zb := cell_lt HB.out.1
 have z_HT := hbw.size
 replace HB := Lib.hid (HB.out.alloc (.cells (madeCells zeroR (k * 9)) 66))
 replace hbw := nB3 hbw hbw.size (.cells (madeCells zeroR (k * 9)) 66)
 have HT := Lib.hid (FillT.startR W2 k (rateQ T k))
 obtain ⟨bHT, e_HT⟩ : ∃ b, W2.heap.size = b := ⟨_, rfl⟩
 simp only [e_HT] at HT z_HT ⊢
 generalize (W2.alloc (.cells (madeCells zeroR (k * 9)) 66)) = W3 at HB HT hbw ⊢
 rw [e_HT] at zb
 clear hmk
 obtain ⟨y0, _⟩ := id HB.out
 go_upto_block 0 with (fail)
 clear y0
 go_cut [] (fun WC => RatesIn w bHT k k A c (rateQ T k) WC)
 case first =>
  go_wp2_with fail
  go_loopw [29] (fun t W => ∃ i : Nat, t = .int .i64 (i : Nat) ∧ i ≤ k ∧ RatesIn w bHT k i A c (rateQ T k) W) (fun t _ => (k - (intOf t).toNat))
  case atStart => exact ⟨0, rfl, Nat.zero_le _, hbw, HB.out.1, HT.out, zb⟩
  case round =>
   obtain ⟨i, rfl, hi, hd⟩ := hrel
   clear HB HT hbw
   have HD := Lib.hid hd
   clear hd
   rcases Nat.lt_or_ge i k with hik | hik
   ·
    have hii : (i : Int) < (k : Int) := by omega
    have HIK := Lib.hid hik
    have hwi : IntKind.i64.wrap ((i : Int) + 1) = ((i + 1 : Nat) : Int) := i64w (by omega) (by omega)
    obtain ⟨g, o, g1, o1, c1, rfl, xa, xb⟩ := H1.out.row HS.out hik
    have xc := ext_cell HD.out.be xa
    have xd := fun j hj => ext_cell HD.out.be (xb j hj).1
    have HX := Lib.hid xa
    have HY := Lib.hid xb
    have HZ := Lib.hid xd
    have y0 := HD.out.bx
    have HXC := Lib.hid xc
    clear xa xb xd hi
    go_wp2_with fail
    go_loopw [6, 7, 34] (fun t6 t7 t W => ∃ j : Nat, t = .int .i64 (j : Nat) ∧ j ≤ k ∧ t6 = .int .i64 (sumF (at2 T i) j) ∧ t7 = .int .i64 (sumF (fun i' => at2 T i' i) j) ∧ W = wr) (fun _ _ t _ => (k - (intOf t).toNat))
    case atStart => exact ⟨0, rfl, Nat.zero_le _, rfl, rfl, rfl⟩
    case round =>
     obtain ⟨j, rfl, hj, rfl, rfl, rfl⟩ := hrel
     rcases Nat.lt_or_ge j k with hjk | hjk
     ·
      have hjj : (j : Int) < (k : Int) := by omega
      have HJK := Lib.hid hjk
      have hwj : IntKind.i64.wrap ((j : Int) + 1) = ((j + 1 : Nat) : Int) := i64w (by omega) (by omega)
      obtain ⟨g', o', g2, o2, c2, e1, xa, xb⟩ := H1.out.row HS.out hjk
      simp only [Option.some.injEq, Addr.mk.injEq, and_true] at e1
      obtain ⟨rfl, rfl⟩ := e1
      have z1 := ext_cell HD.out.be xa
      have z2 := ext_cell HD.out.be (xb i HIK.out).1
      have z3 := HZ.out j hjk
      have z4 := HXC.out
      have p1 := HO.out.row HIK.out (j + 1) (by omega)
      have p2 := HO.out.col HIK.out (j + 1) (by omega)
      have E1 := Lib.hid (show sumF (at2 T i) (j + 1) = sumF (at2 T i) j + at2 T i j from rfl)
      have E2 := Lib.hid (show sumF (fun i' => at2 T i' i) (j + 1) = sumF (fun i' => at2 T i' i) j + at2 T j i from rfl)
      rw [E1.out] at p1
      rw [E2.out] at p2
      obtain ⟨u1, eu1⟩ : ∃ u, sumF (at2 T i) j = u := ⟨_, rfl⟩
      obtain ⟨u2, eu2⟩ : ∃ u, sumF (fun i' => at2 T i' i) j = u := ⟨_, rfl⟩
      obtain ⟨x1, ex1⟩ : ∃ x, at2 T i j = x := ⟨_, rfl⟩
      obtain ⟨x2, ex2⟩ : ∃ x, at2 T j i = x := ⟨_, rfl⟩
      rw [eu1, ex1] at p1 E1
      rw [eu2, ex2] at p2 E2
      rw [eu1, eu2]
      rw [ex1] at z3
      rw [ex2] at z2
      have hw1 : IntKind.i64.wrap (u1 + x1) = u1 + x1 := i64w (by omega) (by omega)
      have hw2 : IntKind.i64.wrap (u2 + x2) = u2 + x2 := i64w (by omega) (by omega)
      clear xa xb p1 p2 eu1 eu2 ex1 ex2 hj
      go_wp2
      go_roundw
      case rel => exact ⟨j + 1, rfl, HJK.out, by rw [E1.out], by rw [E2.out], trivial⟩
      case measure => simp [intOf]; have := HJK.out; omega
     ·
      obtain rfl : j = k := by omega
      have hjj : ¬ (j : Int) < (j : Int) := by omega
      have hent := HO.out.entry HIK.out HIK.out
      have hrow := HO.out.row HIK.out j (Nat.le_refl _)
      have hcol := HO.out.col HIK.out j (Nat.le_refl _)
      have EP := Lib.hid (show ratP T j i = mkRat (at2 T i i) (sumF (fun i' => at2 T i' i) j).toNat from rfl)
      have ER := Lib.hid (show ratR T j i = mkRat (at2 T i i) (sumF (at2 T i) j).toNat from rfl)
      have EB := Lib.hid (show ratB T j i = (2 * ratP T j i * ratR T j i) / (ratP T j i + ratR T j i) from rfl)
      obtain ⟨x, ex⟩ : ∃ x, at2 T i i = x := ⟨_, rfl⟩
      obtain ⟨d1, ed1⟩ : ∃ d : Nat, sumF (fun i' => at2 T i' i) j = (d : Int) := ⟨_, (Int.toNat_of_nonneg hcol.1).symm⟩
      obtain ⟨d2, ed2⟩ : ∃ d : Nat, sumF (at2 T i) j = (d : Int) := ⟨_, (Int.toNat_of_nonneg hrow.1).symm⟩
      have zx := HZ.out i HIK.out
      rw [ex] at hent EP ER zx
      rw [ed1, Int.toNat_natCast] at EP
      rw [ed2, Int.toNat_natCast] at ER
      rw [ed1] at hcol
      rw [ed2] at hrow
      rw [ed1, ed2]
      obtain ⟨P, eP⟩ : ∃ P, ratP T j i = P := ⟨_, rfl⟩
      obtain ⟨R, eR⟩ : ∃ R, ratR T j i = R := ⟨_, rfl⟩
      obtain ⟨B, eB⟩ : ∃ B, ratB T j i = B := ⟨_, rfl⟩
      rw [eP, eR, eB] at EB
      rw [eP] at EP
      rw [eR] at ER
      have HV1 := Lib.hid (fun W => over_c W x d1 ⟨by omega, by omega⟩ (by omega))
      have HV2 := Lib.hid (fun W => over_c W x d2 ⟨by omega, by omega⟩ (by omega))
      rw [← EP.out] at HV1
      rw [← ER.out] at HV2
      have bP : qb P ≤ 64 := by rw [EP.out]; exact qb_mkRat x d1 (by omega) (by omega)
      have bR : qb R ≤ 64 := by rw [ER.out]; exact qb_mkRat x d2 (by omega) (by omega)
      have b2 : qb 2 ≤ 4 := by decide
      have HOF := Lib.hid (fun W => qof_c W 2 ⟨by omega, by omega⟩)
      rw [show ((2 : Int) : Rat) = 2 from rfl] at HOF
      have bM := qb_mul 2 P
      have bN := qb_mul (2 * P) R
      have bA := qb_add P R
      have HM1 := Lib.hid (fun W v u h h' => qmul_c W v u 2 P h h' (by omega))
      have HM2 := Lib.hid (fun W v u h h' => qmul_c W v u (2 * P) R h h' (by omega))
      have HAD := Lib.hid (fun W v u h h' => qadd_c W v u P R h h' (by omega))
      have hdiv := fun W v u h h' => qdiv_c W v u (2 * P * R) (P + R) h h' (by omega)
      have HDV := Lib.hid (fun W v u h h' => (hdiv W v u h h').mono (fun _ _ h => h.map (fun _ _ h => h.open)))
      rw [← EB.out] at HDV
      obtain ⟨bb, ebb⟩ : ∃ b, decide (P + R ≠ 0) = b := ⟨_, rfl⟩
      rw [ebb] at HDV
      have F0 := Lib.hid ((rateQ_0 T j i).trans eP)
      have F1 := Lib.hid ((rateQ_1 T j i).trans eR)
      have F2 := Lib.hid ((rateQ_2 T j i).trans eB)
      have z4 := HXC.out
      clear ex ed1 ed2 eP eR eB EP ER EB ebb bP bR b2 bM bN bA hdiv hent hrow hcol hj hjk
      go_wp2_with fail
      have hbw0 := HD.out.be
      have HF := Lib.hid HD.out.fl
      have zlt := HD.out.lt
      have zl2 := cell_lt y0
      have xg := HXC.out
      have xh := zx
      obtain ⟨b0, eb0⟩ : ∃ b, w.heap.size = b := ⟨_, rfl⟩
      rw [eb0] at y0 zl2 zlt
      simp only [eb0]
      have HW : Hid (∀ W, Below w.heap.size w W → W.cell? ⟨b0, 0, none⟩ = some (.slice (some ⟨g, o, none⟩) j c) → FillT 66 W bHT (3 * j) (3 * (i + 1)) (rateQ T j) → RatesIn w bHT j (i + 1) (some ⟨g, o, none⟩) c (rateQ T j) W) := Lib.hid (fun W h1 h2 h3 => ⟨h1, by rw [eb0]; exact h2, h3, by rw [eb0]; exact zlt⟩)
      have HBW := Lib.hid hbw0
      rw [eb0] at hbw0
      clear HD HX HY HZ HXC z4 zx H1
      obtain ⟨w, ew⟩ : ∃ w', w' = wr := ⟨_, rfl⟩
      subst ew
      have hbw := Below.refl w.heap.size w
      have HB : Hid (Cells [(b0, 0, .slice (some ⟨g, o, none⟩) j c), (g, o + i, .slice (some ⟨g1, o1, none⟩) j c1), (g1, o1 + i, .int .i64 x)] w) := Lib.hid (Cells.cons (y0) (Cells.cons (xg) (Cells.cons (xh) (Cells.nil _))))
      have gl0 := cell_lt y0
      have HBOX := Lib.hid y0
      have gl1 := cell_lt xg
      have gl2 := cell_lt xh
      clear y0 xg xh
      go_upto_region 16 with (fail)
      go_cut [9, 10] (fun p9 p10 WC => ∃ bH10 : Nat, ∃ bH9 : Nat, ∃ Ps : Bool, ∃ PA : Option Addr, ∃ Pc : Nat, ∃ Pn : Nat, ∃ PB : Option Addr, ∃ Pd : Nat, ∃ Pm : Nat, ∃ Rs : Bool, ∃ RA : Option Addr, ∃ Rc : Nat, ∃ Rn : Nat, ∃ RB : Option Addr, ∃ Rd : Nat, ∃ Rm : Nat, p9 = .pointer (some ⟨bH9, 0, none⟩) ∧ p10 = .pointer (some ⟨bH10, 0, none⟩) ∧ Below w.heap.size w WC ∧ Cells [(b0, 0, .slice (some ⟨g, o, none⟩) j c), (g, o + i, .slice (some ⟨g1, o1, none⟩) j c1), (g1, o1 + i, .int .i64 x)] WC ∧ rQ WC (.agg #[.bool Ps, .slice PA Pn Pc, .slice PB Pm Pd]) (P) ∧ rQ WC (.agg #[.bool Rs, .slice RA Rn Rc, .slice RB Rm Rd]) (R) ∧ Own WC (bH9) 32 [.bool Ps, .slice PA Pn Pc, .slice PB Pm Pd] ∧ Own WC (bH10) 32 [.bool Rs, .slice RA Rn Rc, .slice RB Rm Rd] ∧ b0 < bH9 ∧ bH9 ≠ bH10 ∧ b0 < bH10)
      case first =>
       replace HB := Lib.hid (HB.out.drew)
       replace hbw := Below.drew hbw
       refine wp_hoistR (.yes 0 (.yes 1 (.yes 2 (.yes 3 (.yes 4 (.yes 5 (.yes 6 (.yes 7 (.yes 9 (.yes 10 (.yes 11 (.yes 12 (.yes 13 (.yes 14 (.yes 15 (.yes 16 (.act 8 (.act 17 (.act 18 (.act 19 (.act 20 (.act 21 (.done) (.stop)) (.stop)) (.stop)) (.act 19 (.act 18 (.act 20 (.act 21 (.done) (.stop)) (.stop)) (.stop)) (.stop))) (.act 18 (.act 17 (.act 19 (.act 20 (.act 21 (.done) (.stop)) (.stop)) (.stop)) (.act 19 (.act 17 (.act 20 (.act 21 (.done) (.stop)) (.stop)) (.stop)) (.stop))) (.act 19 (.act 17 (.act 18 (.act 20 (.act 21 (.done) (.stop)) (.stop)) (.stop)) (.act 18 (.act 17 (.act 20 (.act 21 (.done) (.stop)) (.stop)) (.stop)) (.stop))) (.stop)))) (.act 18 (.act 8 (.act 17 (.act 19 (.act 20 (.act 21 (.done) (.stop)) (.stop)) (.stop)) (.act 19 (.act 17 (.act 20 (.act 21 (.done) (.stop)) (.stop)) (.stop)) (.stop))) (.act 19 (.act 8 (.act 17 (.act 20 (.act 21 (.done) (.stop)) (.stop)) (.stop)) (.stop)) (.stop))) (.act 19 (.act 8 (.act 17 (.act 18 (.act 20 (.act 21 (.done) (.stop)) (.stop)) (.stop)) (.act 18 (.act 17 (.act 20 (.act 21 (.done) (.stop)) (.stop)) (.stop)) (.stop))) (.act 18 (.act 8 (.act 17 (.act 20 (.act 21 (.done) (.stop)) (.stop)) (.stop)) (.stop)) (.stop))) (.stop)))))))))))))))))))) (Cells [(b0, 0, .slice (some ⟨g, o, none⟩) j c), (g, o + i, .slice (some ⟨g1, o1, none⟩) j c1), (g1, o1 + i, .int .i64 x)]) (by kernel_rfl) (by kernel_rfl) ?_ ?_
       · exact HB.out
       generalize w.drew = W21 at HB hbw ⊢
       refine hr_yes (v := ?_) rfl (by kernel_rfl) (fun W hW => ?_) ?_; rotate_left; (obtain ⟨y0, y1, y2, _⟩ := hW; go_simp; try with_reducible rfl)
       (try (conv => arg 6; simp only [Act.put, gL]))
       refine hr_yes (v := ?_) rfl (by kernel_rfl) (fun W hW => ?_) ?_; rotate_left; (go_simp; try with_reducible rfl)
       (try (conv => arg 6; simp only [Act.put, gL]))
       refine hr_yes (v := ?_) rfl (by kernel_rfl) (fun W hW => ?_) ?_; rotate_left; (go_simp; try with_reducible rfl)
       (try (conv => arg 6; simp only [Act.put, gL]))
       refine hr_yes (v := ?_) rfl (by kernel_rfl) (fun W hW => ?_) ?_; rotate_left; (obtain ⟨y0, y1, y2, _⟩ := hW; go_simp; try with_reducible rfl)
       (try (conv => arg 6; simp only [Act.put, gL]))
       refine hr_yes (v := ?_) rfl (by kernel_rfl) (fun W hW => ?_) ?_; rotate_left; (go_simp; try with_reducible rfl)
       (try (conv => arg 6; simp only [Act.put, gL]))
       refine hr_yes (v := ?_) rfl (by kernel_rfl) (fun W hW => ?_) ?_; rotate_left; (go_simp; try with_reducible rfl)
       (try (conv => arg 6; simp only [Act.put, gL]))
       refine hr_yes (v := ?_) rfl (by kernel_rfl) (fun W hW => ?_) ?_; rotate_left; (obtain ⟨y0, y1, y2, _⟩ := hW; go_simp; try with_reducible rfl)
       (try (conv => arg 6; simp only [Act.put, gL]))
       refine hr_yes (v := ?_) rfl (by kernel_rfl) (fun W hW => ?_) ?_; rotate_left; (go_simp; try with_reducible rfl)
       (try (conv => arg 6; simp only [Act.put, gL]))
       refine hr_yes (v := ?_) rfl (by kernel_rfl) (fun W hW => ?_) ?_; rotate_left; (obtain ⟨y0, y1, y2, _⟩ := hW; go_simp; try with_reducible rfl)
       (try (conv => arg 6; simp only [Act.put, gL]))
       refine hr_yes (v := ?_) rfl (by kernel_rfl) (fun W hW => ?_) ?_; rotate_left; (go_simp; try with_reducible rfl)
       (try (conv => arg 6; simp only [Act.put, gL]))
       refine hr_yes (v := ?_) rfl (by kernel_rfl) (fun W hW => ?_) ?_; rotate_left; (go_simp; try with_reducible rfl)
       (try (conv => arg 6; simp only [Act.put, gL]))
       refine hr_yes (v := ?_) rfl (by kernel_rfl) (fun W hW => ?_) ?_; rotate_left; (obtain ⟨y0, y1, y2, _⟩ := hW; go_simp; try with_reducible rfl)
       (try (conv => arg 6; simp only [Act.put, gL]))
       refine hr_yes (v := ?_) rfl (by kernel_rfl) (fun W hW => ?_) ?_; rotate_left; (go_simp; try with_reducible rfl)
       (try (conv => arg 6; simp only [Act.put, gL]))
       refine hr_yes (v := ?_) rfl (by kernel_rfl) (fun W hW => ?_) ?_; rotate_left; (go_simp; try with_reducible rfl)
       (try (conv => arg 6; simp only [Act.put, gL]))
       refine hr_yes (v := ?_) rfl (by kernel_rfl) (fun W hW => ?_) ?_; rotate_left; (obtain ⟨y0, y1, y2, _⟩ := hW; go_simp; try with_reducible rfl)
       (try (conv => arg 6; simp only [Act.put, gL]))
       refine hr_yes (v := ?_) rfl (by kernel_rfl) (fun W hW => ?_) ?_; rotate_left; (go_simp; try with_reducible rfl)
       (try (conv => arg 6; simp only [Act.put, gL]))
       refine hr_eff rfl (by kernel_rfl) (fun K hK => ?_) ?_
       focus
        refine wp_call (HV1.out _) (by kernel_rfl) ?_
        rintro v1 W22 hb1 hr1
        obtain ⟨Ps, PA, Pc, Pn, PB, Pd, Pm, rfl, hr1⟩ := hr1.shape
        refine hK.out _ _ ?_ ?_
        · exact HB.out.ext hb1
        clear hK K
        (try (conv => arg 6; simp only [Act.put, gL]))
        replace HB := Lib.hid (HB.out.ext hb1)
        replace hbw := nT hbw hb1
        have R1 := Lib.hid hr1
        clear hr1
        clear hb1
        refine hr_eff rfl (by kernel_rfl) (fun K hK => ?_) ?_
        focus
         refine wp_call (HV2.out _) (by kernel_rfl) ?_
         rintro v1 W23 hb1 hr1
         obtain ⟨Rs, RA, Rc, Rn, RB, Rd, Rm, rfl, hr1⟩ := hr1.shape
         refine hK.out _ _ ?_ ?_
         · exact HB.out.ext hb1
         clear hK K
         (try (conv => arg 6; simp only [Act.put, gL]))
         replace HB := Lib.hid (HB.out.ext hb1)
         replace R1 := Lib.hid (R1.out.ext hb1)
         replace hbw := nT hbw hb1
         have R2 := Lib.hid hr1
         clear hr1
         clear hb1
         refine hr_eff rfl (by kernel_rfl) (fun K hK => ?_) ?_
         focus
          go_simp
          refine hK.out _ _ ?_ ?_
          · exact HB.out.alloc _
          clear hK K
          (try (conv => arg 6; simp only [Act.put, gL]))
          have z_H9 := hbw.size
          have z_H9_0 := cell_lt HB.out.1
          replace HB := Lib.hid (HB.out.alloc (.cells #[.bool false, .slice none 0 0, .slice none 0 0] 32))
          replace R1 := Lib.hid (R1.out.alloc (.cells #[.bool false, .slice none 0 0, .slice none 0 0] 32))
          replace R2 := Lib.hid (R2.out.alloc (.cells #[.bool false, .slice none 0 0, .slice none 0 0] 32))
          replace hbw := nB3 hbw hbw.size (.cells #[.bool false, .slice none 0 0, .slice none 0 0] 32)
          have H9 := Lib.hid (Own.new' W23 32 [.bool false, .slice none 0 0, .slice none 0 0] W23.heap.size rfl)
          obtain ⟨bH9, e_H9⟩ : ∃ b, W23.heap.size = b := ⟨_, rfl⟩
          simp only [e_H9] at H9 z_H9 z_H9_0 ⊢
          generalize (W23.alloc (.cells #[.bool false, .slice none 0 0, .slice none 0 0] 32)) = W24 at HB R1 R2 H9 hbw ⊢
          refine hr_one rfl (by kernel_rfl) (fun K hK => ?_)
          go_simp
          refine hK.out _ _ ?_ ?_
          · exact HB.out.alloc _
          clear hK K
          (try (conv => arg 6; simp only [Act.put, gL]))
          have z_H10 := hbw.size
          have z_H10_H9 := H9.out.lt
          have z_H10_0 := cell_lt HB.out.1
          replace HB := Lib.hid (HB.out.alloc (.cells #[.bool false, .slice none 0 0, .slice none 0 0] 32))
          replace R1 := Lib.hid (R1.out.alloc (.cells #[.bool false, .slice none 0 0, .slice none 0 0] 32))
          replace R2 := Lib.hid (R2.out.alloc (.cells #[.bool false, .slice none 0 0, .slice none 0 0] 32))
          replace H9 := Lib.hid (H9.out.alloc (.cells #[.bool false, .slice none 0 0, .slice none 0 0] 32))
          replace hbw := nB3 hbw hbw.size (.cells #[.bool false, .slice none 0 0, .slice none 0 0] 32)
          have H10 := Lib.hid (Own.new' W24 32 [.bool false, .slice none 0 0, .slice none 0 0] W24.heap.size rfl)
          obtain ⟨bH10, e_H10⟩ : ∃ b, W24.heap.size = b := ⟨_, rfl⟩
          simp only [e_H10] at H10 z_H10 z_H10_H9 z_H10_0 ⊢
          generalize (W24.alloc (.cells #[.bool false, .slice none 0 0, .slice none 0 0] 32)) = W25 at HB R1 R2 H9 H10 hbw ⊢
         rotate_left 1
         refine hr_eff rfl (by kernel_rfl) (fun K hK => ?_) ?_
         focus
          go_simp
          refine hK.out _ _ ?_ ?_
          · exact HB.out.alloc _
          clear hK K
          (try (conv => arg 6; simp only [Act.put, gL]))
          have z_H10 := hbw.size
          have z_H10_0 := cell_lt HB.out.1
          replace HB := Lib.hid (HB.out.alloc (.cells #[.bool false, .slice none 0 0, .slice none 0 0] 32))
          replace R1 := Lib.hid (R1.out.alloc (.cells #[.bool false, .slice none 0 0, .slice none 0 0] 32))
          replace R2 := Lib.hid (R2.out.alloc (.cells #[.bool false, .slice none 0 0, .slice none 0 0] 32))
          replace hbw := nB3 hbw hbw.size (.cells #[.bool false, .slice none 0 0, .slice none 0 0] 32)
          have H10 := Lib.hid (Own.new' W23 32 [.bool false, .slice none 0 0, .slice none 0 0] W23.heap.size rfl)
          obtain ⟨bH10, e_H10⟩ : ∃ b, W23.heap.size = b := ⟨_, rfl⟩
          simp only [e_H10] at H10 z_H10 z_H10_0 ⊢
          generalize (W23.alloc (.cells #[.bool false, .slice none 0 0, .slice none 0 0] 32)) = W24 at HB R1 R2 H10 hbw ⊢
          refine hr_one rfl (by kernel_rfl) (fun K hK => ?_)
          go_simp
          refine hK.out _ _ ?_ ?_
          · exact HB.out.alloc _
          clear hK K
          (try (conv => arg 6; simp only [Act.put, gL]))
          have z_H9 := hbw.size
          have z_H9_H10 := H10.out.lt
          have z_H9_0 := cell_lt HB.out.1
          replace HB := Lib.hid (HB.out.alloc (.cells #[.bool false, .slice none 0 0, .slice none 0 0] 32))
          replace R1 := Lib.hid (R1.out.alloc (.cells #[.bool false, .slice none 0 0, .slice none 0 0] 32))
          replace R2 := Lib.hid (R2.out.alloc (.cells #[.bool false, .slice none 0 0, .slice none 0 0] 32))
          replace H10 := Lib.hid (H10.out.alloc (.cells #[.bool false, .slice none 0 0, .slice none 0 0] 32))
          replace hbw := nB3 hbw hbw.size (.cells #[.bool false, .slice none 0 0, .slice none 0 0] 32)
          have H9 := Lib.hid (Own.new' W24 32 [.bool false, .slice none 0 0, .slice none 0 0] W24.heap.size rfl)
          obtain ⟨bH9, e_H9⟩ : ∃ b, W24.heap.size = b := ⟨_, rfl⟩
          simp only [e_H9] at H9 z_H9 z_H9_H10 z_H9_0 ⊢
          generalize (W24.alloc (.cells #[.bool false, .slice none 0 0, .slice none 0 0] 32)) = W25 at HB R1 R2 H10 H9 hbw ⊢
         rotate_left 1
         exact trivial
        rotate_left 2
        refine hr_eff rfl (by kernel_rfl) (fun K hK => ?_) ?_
        focus
         go_simp
         refine hK.out _ _ ?_ ?_
         · exact HB.out.alloc _
         clear hK K
         (try (conv => arg 6; simp only [Act.put, gL]))
         have z_H9 := hbw.size
         have z_H9_0 := cell_lt HB.out.1
         replace HB := Lib.hid (HB.out.alloc (.cells #[.bool false, .slice none 0 0, .slice none 0 0] 32))
         replace R1 := Lib.hid (R1.out.alloc (.cells #[.bool false, .slice none 0 0, .slice none 0 0] 32))
         replace hbw := nB3 hbw hbw.size (.cells #[.bool false, .slice none 0 0, .slice none 0 0] 32)
         have H9 := Lib.hid (Own.new' W22 32 [.bool false, .slice none 0 0, .slice none 0 0] W22.heap.size rfl)
         obtain ⟨bH9, e_H9⟩ : ∃ b, W22.heap.size = b := ⟨_, rfl⟩
         simp only [e_H9] at H9 z_H9 z_H9_0 ⊢
         generalize (W22.alloc (.cells #[.bool false, .slice none 0 0, .slice none 0 0] 32)) = W23 at HB R1 H9 hbw ⊢
         refine hr_eff rfl (by kernel_rfl) (fun K hK => ?_) ?_
         focus
          refine wp_call (HV2.out _) (by kernel_rfl) ?_
          rintro v1 W24 hb1 hr1
          obtain ⟨Rs, RA, Rc, Rn, RB, Rd, Rm, rfl, hr1⟩ := hr1.shape
          refine hK.out _ _ ?_ ?_
          · exact HB.out.ext hb1
          clear hK K
          (try (conv => arg 6; simp only [Act.put, gL]))
          replace HB := Lib.hid (HB.out.ext hb1)
          replace R1 := Lib.hid (R1.out.ext hb1)
          replace H9 := Lib.hid (H9.out.ext hb1)
          replace hbw := nT hbw hb1
          have R2 := Lib.hid hr1
          clear hr1
          clear hb1
          refine hr_one rfl (by kernel_rfl) (fun K hK => ?_)
          go_simp
          refine hK.out _ _ ?_ ?_
          · exact HB.out.alloc _
          clear hK K
          (try (conv => arg 6; simp only [Act.put, gL]))
          have z_H10 := hbw.size
          have z_H10_H9 := H9.out.lt
          have z_H10_0 := cell_lt HB.out.1
          replace HB := Lib.hid (HB.out.alloc (.cells #[.bool false, .slice none 0 0, .slice none 0 0] 32))
          replace R1 := Lib.hid (R1.out.alloc (.cells #[.bool false, .slice none 0 0, .slice none 0 0] 32))
          replace H9 := Lib.hid (H9.out.alloc (.cells #[.bool false, .slice none 0 0, .slice none 0 0] 32))
          replace R2 := Lib.hid (R2.out.alloc (.cells #[.bool false, .slice none 0 0, .slice none 0 0] 32))
          replace hbw := nB3 hbw hbw.size (.cells #[.bool false, .slice none 0 0, .slice none 0 0] 32)
          have H10 := Lib.hid (Own.new' W24 32 [.bool false, .slice none 0 0, .slice none 0 0] W24.heap.size rfl)
          obtain ⟨bH10, e_H10⟩ : ∃ b, W24.heap.size = b := ⟨_, rfl⟩
          simp only [e_H10] at H10 z_H10 z_H10_H9 z_H10_0 ⊢
          generalize (W24.alloc (.cells #[.bool false, .slice none 0 0, .slice none 0 0] 32)) = W25 at HB R1 H9 R2 H10 hbw ⊢
         rotate_left 1
         refine hr_eff rfl (by kernel_rfl) (fun K hK => ?_) ?_
         focus
          go_simp
          refine hK.out _ _ ?_ ?_
          · exact HB.out.alloc _
          clear hK K
          (try (conv => arg 6; simp only [Act.put, gL]))
          have z_H10 := hbw.size
          have z_H10_H9 := H9.out.lt
          have z_H10_0 := cell_lt HB.out.1
          replace HB := Lib.hid (HB.out.alloc (.cells #[.bool false, .slice none 0 0, .slice none 0 0] 32))
          replace R1 := Lib.hid (R1.out.alloc (.cells #[.bool false, .slice none 0 0, .slice none 0 0] 32))
          replace H9 := Lib.hid (H9.out.alloc (.cells #[.bool false, .slice none 0 0, .slice none 0 0] 32))
          replace hbw := nB3 hbw hbw.size (.cells #[.bool false, .slice none 0 0, .slice none 0 0] 32)
          have H10 := Lib.hid (Own.new' W23 32 [.bool false, .slice none 0 0, .slice none 0 0] W23.heap.size rfl)
          obtain ⟨bH10, e_H10⟩ : ∃ b, W23.heap.size = b := ⟨_, rfl⟩
          simp only [e_H10] at H10 z_H10 z_H10_H9 z_H10_0 ⊢
          generalize (W23.alloc (.cells #[.bool false, .slice none 0 0, .slice none 0 0] 32)) = W24 at HB R1 H9 H10 hbw ⊢
          refine hr_one rfl (by kernel_rfl) (fun K hK => ?_)
          refine wp_call (HV2.out _) (by kernel_rfl) ?_
          rintro v1 W25 hb1 hr1
          obtain ⟨Rs, RA, Rc, Rn, RB, Rd, Rm, rfl, hr1⟩ := hr1.shape
          refine hK.out _ _ ?_ ?_
          · exact HB.out.ext hb1
          clear hK K
          (try (conv => arg 6; simp only [Act.put, gL]))
          replace HB := Lib.hid (HB.out.ext hb1)
          replace R1 := Lib.hid (R1.out.ext hb1)
          replace H9 := Lib.hid (H9.out.ext hb1)
          replace H10 := Lib.hid (H10.out.ext hb1)
          replace hbw := nT hbw hb1
          have R2 := Lib.hid hr1
          clear hr1
          clear hb1
         rotate_left 1
         exact trivial
        rotate_left 2
        refine hr_eff rfl (by kernel_rfl) (fun K hK => ?_) ?_
        focus
         go_simp
         refine hK.out _ _ ?_ ?_
         · exact HB.out.alloc _
         clear hK K
         (try (conv => arg 6; simp only [Act.put, gL]))
         have z_H10 := hbw.size
         have z_H10_0 := cell_lt HB.out.1
         replace HB := Lib.hid (HB.out.alloc (.cells #[.bool false, .slice none 0 0, .slice none 0 0] 32))
         replace R1 := Lib.hid (R1.out.alloc (.cells #[.bool false, .slice none 0 0, .slice none 0 0] 32))
         replace hbw := nB3 hbw hbw.size (.cells #[.bool false, .slice none 0 0, .slice none 0 0] 32)
         have H10 := Lib.hid (Own.new' W22 32 [.bool false, .slice none 0 0, .slice none 0 0] W22.heap.size rfl)
         obtain ⟨bH10, e_H10⟩ : ∃ b, W22.heap.size = b := ⟨_, rfl⟩
         simp only [e_H10] at H10 z_H10 z_H10_0 ⊢
         generalize (W22.alloc (.cells #[.bool false, .slice none 0 0, .slice none 0 0] 32)) = W23 at HB R1 H10 hbw ⊢
         refine hr_eff rfl (by kernel_rfl) (fun K hK => ?_) ?_
         focus
          refine wp_call (HV2.out _) (by kernel_rfl) ?_
          rintro v1 W24 hb1 hr1
          obtain ⟨Rs, RA, Rc, Rn, RB, Rd, Rm, rfl, hr1⟩ := hr1.shape
          refine hK.out _ _ ?_ ?_
          · exact HB.out.ext hb1
          clear hK K
          (try (conv => arg 6; simp only [Act.put, gL]))
          replace HB := Lib.hid (HB.out.ext hb1)
          replace R1 := Lib.hid (R1.out.ext hb1)
          replace H10 := Lib.hid (H10.out.ext hb1)
          replace hbw := nT hbw hb1
          have R2 := Lib.hid hr1
          clear hr1
          clear hb1
          refine hr_one rfl (by kernel_rfl) (fun K hK => ?_)
          go_simp
          refine hK.out _ _ ?_ ?_
          · exact HB.out.alloc _
          clear hK K
          (try (conv => arg 6; simp only [Act.put, gL]))
          have z_H9 := hbw.size
          have z_H9_H10 := H10.out.lt
          have z_H9_0 := cell_lt HB.out.1
          replace HB := Lib.hid (HB.out.alloc (.cells #[.bool false, .slice none 0 0, .slice none 0 0] 32))
          replace R1 := Lib.hid (R1.out.alloc (.cells #[.bool false, .slice none 0 0, .slice none 0 0] 32))
          replace H10 := Lib.hid (H10.out.alloc (.cells #[.bool false, .slice none 0 0, .slice none 0 0] 32))
          replace R2 := Lib.hid (R2.out.alloc (.cells #[.bool false, .slice none 0 0, .slice none 0 0] 32))
          replace hbw := nB3 hbw hbw.size (.cells #[.bool false, .slice none 0 0, .slice none 0 0] 32)
          have H9 := Lib.hid (Own.new' W24 32 [.bool false, .slice none 0 0, .slice none 0 0] W24.heap.size rfl)
          obtain ⟨bH9, e_H9⟩ : ∃ b, W24.heap.size = b := ⟨_, rfl⟩
          simp only [e_H9] at H9 z_H9 z_H9_H10 z_H9_0 ⊢
          generalize (W24.alloc (.cells #[.bool false, .slice none 0 0, .slice none 0 0] 32)) = W25 at HB R1 H10 R2 H9 hbw ⊢
         rotate_left 1
         refine hr_eff rfl (by kernel_rfl) (fun K hK => ?_) ?_
         focus
          go_simp
          refine hK.out _ _ ?_ ?_
          · exact HB.out.alloc _
          clear hK K
          (try (conv => arg 6; simp only [Act.put, gL]))
          have z_H9 := hbw.size
          have z_H9_H10 := H10.out.lt
          have z_H9_0 := cell_lt HB.out.1
          replace HB := Lib.hid (HB.out.alloc (.cells #[.bool false, .slice none 0 0, .slice none 0 0] 32))
          replace R1 := Lib.hid (R1.out.alloc (.cells #[.bool false, .slice none 0 0, .slice none 0 0] 32))
          replace H10 := Lib.hid (H10.out.alloc (.cells #[.bool false, .slice none 0 0, .slice none 0 0] 32))
          replace hbw := nB3 hbw hbw.size (.cells #[.bool false, .slice none 0 0, .slice none 0 0] 32)
          have H9 := Lib.hid (Own.new' W23 32 [.bool false, .slice none 0 0, .slice none 0 0] W23.heap.size rfl)
          obtain ⟨bH9, e_H9⟩ : ∃ b, W23.heap.size = b := ⟨_, rfl⟩
          simp only [e_H9] at H9 z_H9 z_H9_H10 z_H9_0 ⊢
          generalize (W23.alloc (.cells #[.bool false, .slice none 0 0, .slice none 0 0] 32)) = W24 at HB R1 H10 H9 hbw ⊢
          refine hr_one rfl (by kernel_rfl) (fun K hK => ?_)
          refine wp_call (HV2.out _) (by kernel_rfl) ?_
          rintro v1 W25 hb1 hr1
          obtain ⟨Rs, RA, Rc, Rn, RB, Rd, Rm, rfl, hr1⟩ := hr1.shape
          refine hK.out _ _ ?_ ?_
          · exact HB.out.ext hb1
          clear hK K
          (try (conv => arg 6; simp only [Act.put, gL]))
          replace HB := Lib.hid (HB.out.ext hb1)
          replace R1 := Lib.hid (R1.out.ext hb1)
          replace H10 := Lib.hid (H10.out.ext hb1)
          replace H9 := Lib.hid (H9.out.ext hb1)
          replace hbw := nT hbw hb1
          have R2 := Lib.hid hr1
          clear hr1
          clear hb1
         rotate_left 1
         exact trivial
        rotate_left 2
        exact trivial
       rotate_left 6
       refine hr_eff rfl (by kernel_rfl) (fun K hK => ?_) ?_
       focus
        go_simp
        refine hK.out _ _ ?_ ?_
        · exact HB.out.alloc _
        clear hK K
        (try (conv => arg 6; simp only [Act.put, gL]))
        have z_H9 := hbw.size
        have z_H9_0 := cell_lt HB.out.1
        replace HB := Lib.hid (HB.out.alloc (.cells #[.bool false, .slice none 0 0, .slice none 0 0] 32))
        replace hbw := nB3 hbw hbw.size (.cells #[.bool false, .slice none 0 0, .slice none 0 0] 32)
        have H9 := Lib.hid (Own.new' W21 32 [.bool false, .slice none 0 0, .slice none 0 0] W21.heap.size rfl)
        obtain ⟨bH9, e_H9⟩ : ∃ b, W21.heap.size = b := ⟨_, rfl⟩
        simp only [e_H9] at H9 z_H9 z_H9_0 ⊢
        generalize (W21.alloc (.cells #[.bool false, .slice none 0 0, .slice none 0 0] 32)) = W22 at HB H9 hbw ⊢
        refine hr_eff rfl (by kernel_rfl) (fun K hK => ?_) ?_
        focus
         refine wp_call (HV1.out _) (by kernel_rfl) ?_
         rintro v1 W23 hb1 hr1
         obtain ⟨Ps, PA, Pc, Pn, PB, Pd, Pm, rfl, hr1⟩ := hr1.shape
         refine hK.out _ _ ?_ ?_
         · exact HB.out.ext hb1
         clear hK K
         (try (conv => arg 6; simp only [Act.put, gL]))
         replace HB := Lib.hid (HB.out.ext hb1)
         replace H9 := Lib.hid (H9.out.ext hb1)
         replace hbw := nT hbw hb1
         have R1 := Lib.hid hr1
         clear hr1
         clear hb1
         refine hr_eff rfl (by kernel_rfl) (fun K hK => ?_) ?_
         focus
          refine wp_call (HV2.out _) (by kernel_rfl) ?_
          rintro v1 W24 hb1 hr1
          obtain ⟨Rs, RA, Rc, Rn, RB, Rd, Rm, rfl, hr1⟩ := hr1.shape
          refine hK.out _ _ ?_ ?_
          · exact HB.out.ext hb1
          clear hK K
          (try (conv => arg 6; simp only [Act.put, gL]))
          replace HB := Lib.hid (HB.out.ext hb1)
          replace H9 := Lib.hid (H9.out.ext hb1)
          replace R1 := Lib.hid (R1.out.ext hb1)
          replace hbw := nT hbw hb1
          have R2 := Lib.hid hr1
          clear hr1
          clear hb1
          refine hr_one rfl (by kernel_rfl) (fun K hK => ?_)
          go_simp
          refine hK.out _ _ ?_ ?_
          · exact HB.out.alloc _
          clear hK K
          (try (conv => arg 6; simp only [Act.put, gL]))
          have z_H10 := hbw.size
          have z_H10_H9 := H9.out.lt
          have z_H10_0 := cell_lt HB.out.1
          replace HB := Lib.hid (HB.out.alloc (.cells #[.bool false, .slice none 0 0, .slice none 0 0] 32))
          replace H9 := Lib.hid (H9.out.alloc (.cells #[.bool false, .slice none 0 0, .slice none 0 0] 32))
          replace R1 := Lib.hid (R1.out.alloc (.cells #[.bool false, .slice none 0 0, .slice none 0 0] 32))
          replace R2 := Lib.hid (R2.out.alloc (.cells #[.bool false, .slice none 0 0, .slice none 0 0] 32))
          replace hbw := nB3 hbw hbw.size (.cells #[.bool false, .slice none 0 0, .slice none 0 0] 32)
          have H10 := Lib.hid (Own.new' W24 32 [.bool false, .slice none 0 0, .slice none 0 0] W24.heap.size rfl)
          obtain ⟨bH10, e_H10⟩ : ∃ b, W24.heap.size = b := ⟨_, rfl⟩
          simp only [e_H10] at H10 z_H10 z_H10_H9 z_H10_0 ⊢
          generalize (W24.alloc (.cells #[.bool false, .slice none 0 0, .slice none 0 0] 32)) = W25 at HB H9 R1 R2 H10 hbw ⊢
         rotate_left 1
         refine hr_eff rfl (by kernel_rfl) (fun K hK => ?_) ?_
         focus
          go_simp
          refine hK.out _ _ ?_ ?_
          · exact HB.out.alloc _
          clear hK K
          (try (conv => arg 6; simp only [Act.put, gL]))
          have z_H10 := hbw.size
          have z_H10_H9 := H9.out.lt
          have z_H10_0 := cell_lt HB.out.1
          replace HB := Lib.hid (HB.out.alloc (.cells #[.bool false, .slice none 0 0, .slice none 0 0] 32))
          replace H9 := Lib.hid (H9.out.alloc (.cells #[.bool false, .slice none 0 0, .slice none 0 0] 32))
          replace R1 := Lib.hid (R1.out.alloc (.cells #[.bool false, .slice none 0 0, .slice none 0 0] 32))
          replace hbw := nB3 hbw hbw.size (.cells #[.bool false, .slice none 0 0, .slice none 0 0] 32)
          have H10 := Lib.hid (Own.new' W23 32 [.bool false, .slice none 0 0, .slice none 0 0] W23.heap.size rfl)
          obtain ⟨bH10, e_H10⟩ : ∃ b, W23.heap.size = b := ⟨_, rfl⟩
          simp only [e_H10] at H10 z_H10 z_H10_H9 z_H10_0 ⊢
          generalize (W23.alloc (.cells #[.bool false, .slice none 0 0, .slice none 0 0] 32)) = W24 at HB H9 R1 H10 hbw ⊢
          refine hr_one rfl (by kernel_rfl) (fun K hK => ?_)
          refine wp_call (HV2.out _) (by kernel_rfl) ?_
          rintro v1 W25 hb1 hr1
          obtain ⟨Rs, RA, Rc, Rn, RB, Rd, Rm, rfl, hr1⟩ := hr1.shape
          refine hK.out _ _ ?_ ?_
          · exact HB.out.ext hb1
          clear hK K
          (try (conv => arg 6; simp only [Act.put, gL]))
          replace HB := Lib.hid (HB.out.ext hb1)
          replace H9 := Lib.hid (H9.out.ext hb1)
          replace R1 := Lib.hid (R1.out.ext hb1)
          replace H10 := Lib.hid (H10.out.ext hb1)
          replace hbw := nT hbw hb1
          have R2 := Lib.hid hr1
          clear hr1
          clear hb1
         rotate_left 1
         exact trivial
        rotate_left 2
        refine hr_eff rfl (by kernel_rfl) (fun K hK => ?_) ?_
        focus
         go_simp
         refine hK.out _ _ ?_ ?_
         · exact HB.out.alloc _
         clear hK K
         (try (conv => arg 6; simp only [Act.put, gL]))
         have z_H10 := hbw.size
         have z_H10_H9 := H9.out.lt
         have z_H10_0 := cell_lt HB.out.1
         replace HB := Lib.hid (HB.out.alloc (.cells #[.bool false, .slice none 0 0, .slice none 0 0] 32))
         replace H9 := Lib.hid (H9.out.alloc (.cells #[.bool false, .slice none 0 0, .slice none 0 0] 32))
         replace hbw := nB3 hbw hbw.size (.cells #[.bool false, .slice none 0 0, .slice none 0 0] 32)
         have H10 := Lib.hid (Own.new' W22 32 [.bool false, .slice none 0 0, .slice none 0 0] W22.heap.size rfl)
         obtain ⟨bH10, e_H10⟩ : ∃ b, W22.heap.size = b := ⟨_, rfl⟩
         simp only [e_H10] at H10 z_H10 z_H10_H9 z_H10_0 ⊢
         generalize (W22.alloc (.cells #[.bool false, .slice none 0 0, .slice none 0 0] 32)) = W23 at HB H9 H10 hbw ⊢
         refine hr_one rfl (by kernel_rfl) (fun K hK => ?_)
         refine wp_call (HV1.out _) (by kernel_rfl) ?_
         rintro v1 W24 hb1 hr1
         obtain ⟨Ps, PA, Pc, Pn, PB, Pd, Pm, rfl, hr1⟩ := hr1.shape
         refine hK.out _ _ ?_ ?_
         · exact HB.out.ext hb1
         clear hK K
         (try (conv => arg 6; simp only [Act.put, gL]))
         replace HB := Lib.hid (HB.out.ext hb1)
         replace H9 := Lib.hid (H9.out.ext hb1)
         replace H10 := Lib.hid (H10.out.ext hb1)
         replace hbw := nT hbw hb1
         have R1 := Lib.hid hr1
         clear hr1
         clear hb1
         refine hr_one rfl (by kernel_rfl) (fun K hK => ?_)
         refine wp_call (HV2.out _) (by kernel_rfl) ?_
         rintro v1 W25 hb1 hr1
         obtain ⟨Rs, RA, Rc, Rn, RB, Rd, Rm, rfl, hr1⟩ := hr1.shape
         refine hK.out _ _ ?_ ?_
         · exact HB.out.ext hb1
         clear hK K
         (try (conv => arg 6; simp only [Act.put, gL]))
         replace HB := Lib.hid (HB.out.ext hb1)
         replace H9 := Lib.hid (H9.out.ext hb1)
         replace H10 := Lib.hid (H10.out.ext hb1)
         replace R1 := Lib.hid (R1.out.ext hb1)
         replace hbw := nT hbw hb1
         have R2 := Lib.hid hr1
         clear hr1
         clear hb1
        rotate_left 1
        exact trivial
       rotate_left 3
       refine hr_eff rfl (by kernel_rfl) (fun K hK => ?_) ?_
       focus
        go_simp
        refine hK.out _ _ ?_ ?_
        · exact HB.out.alloc _
        clear hK K
        (try (conv => arg 6; simp only [Act.put, gL]))
        have z_H10 := hbw.size
        have z_H10_0 := cell_lt HB.out.1
        replace HB := Lib.hid (HB.out.alloc (.cells #[.bool false, .slice none 0 0, .slice none 0 0] 32))
        replace hbw := nB3 hbw hbw.size (.cells #[.bool false, .slice none 0 0, .slice none 0 0] 32)
        have H10 := Lib.hid (Own.new' W21 32 [.bool false, .slice none 0 0, .slice none 0 0] W21.heap.size rfl)
        obtain ⟨bH10, e_H10⟩ : ∃ b, W21.heap.size = b := ⟨_, rfl⟩
        simp only [e_H10] at H10 z_H10 z_H10_0 ⊢
        generalize (W21.alloc (.cells #[.bool false, .slice none 0 0, .slice none 0 0] 32)) = W22 at HB H10 hbw ⊢
        refine hr_eff rfl (by kernel_rfl) (fun K hK => ?_) ?_
        focus
         refine wp_call (HV1.out _) (by kernel_rfl) ?_
         rintro v1 W23 hb1 hr1
         obtain ⟨Ps, PA, Pc, Pn, PB, Pd, Pm, rfl, hr1⟩ := hr1.shape
         refine hK.out _ _ ?_ ?_
         · exact HB.out.ext hb1
         clear hK K
         (try (conv => arg 6; simp only [Act.put, gL]))
         replace HB := Lib.hid (HB.out.ext hb1)
         replace H10 := Lib.hid (H10.out.ext hb1)
         replace hbw := nT hbw hb1
         have R1 := Lib.hid hr1
         clear hr1
         clear hb1
         refine hr_eff rfl (by kernel_rfl) (fun K hK => ?_) ?_
         focus
          refine wp_call (HV2.out _) (by kernel_rfl) ?_
          rintro v1 W24 hb1 hr1
          obtain ⟨Rs, RA, Rc, Rn, RB, Rd, Rm, rfl, hr1⟩ := hr1.shape
          refine hK.out _ _ ?_ ?_
          · exact HB.out.ext hb1
          clear hK K
          (try (conv => arg 6; simp only [Act.put, gL]))
          replace HB := Lib.hid (HB.out.ext hb1)
          replace H10 := Lib.hid (H10.out.ext hb1)
          replace R1 := Lib.hid (R1.out.ext hb1)
          replace hbw := nT hbw hb1
          have R2 := Lib.hid hr1
          clear hr1
          clear hb1
          refine hr_one rfl (by kernel_rfl) (fun K hK => ?_)
          go_simp
          refine hK.out _ _ ?_ ?_
          · exact HB.out.alloc _
          clear hK K
          (try (conv => arg 6; simp only [Act.put, gL]))
          have z_H9 := hbw.size
          have z_H9_H10 := H10.out.lt
          have z_H9_0 := cell_lt HB.out.1
          replace HB := Lib.hid (HB.out.alloc (.cells #[.bool false, .slice none 0 0, .slice none 0 0] 32))
          replace H10 := Lib.hid (H10.out.alloc (.cells #[.bool false, .slice none 0 0, .slice none 0 0] 32))
          replace R1 := Lib.hid (R1.out.alloc (.cells #[.bool false, .slice none 0 0, .slice none 0 0] 32))
          replace R2 := Lib.hid (R2.out.alloc (.cells #[.bool false, .slice none 0 0, .slice none 0 0] 32))
          replace hbw := nB3 hbw hbw.size (.cells #[.bool false, .slice none 0 0, .slice none 0 0] 32)
          have H9 := Lib.hid (Own.new' W24 32 [.bool false, .slice none 0 0, .slice none 0 0] W24.heap.size rfl)
          obtain ⟨bH9, e_H9⟩ : ∃ b, W24.heap.size = b := ⟨_, rfl⟩
          simp only [e_H9] at H9 z_H9 z_H9_H10 z_H9_0 ⊢
          generalize (W24.alloc (.cells #[.bool false, .slice none 0 0, .slice none 0 0] 32)) = W25 at HB H10 R1 R2 H9 hbw ⊢
         rotate_left 1
         refine hr_eff rfl (by kernel_rfl) (fun K hK => ?_) ?_
         focus
          go_simp
          refine hK.out _ _ ?_ ?_
          · exact HB.out.alloc _
          clear hK K
          (try (conv => arg 6; simp only [Act.put, gL]))
          have z_H9 := hbw.size
          have z_H9_H10 := H10.out.lt
          have z_H9_0 := cell_lt HB.out.1
          replace HB := Lib.hid (HB.out.alloc (.cells #[.bool false, .slice none 0 0, .slice none 0 0] 32))
          replace H10 := Lib.hid (H10.out.alloc (.cells #[.bool false, .slice none 0 0, .slice none 0 0] 32))
          replace R1 := Lib.hid (R1.out.alloc (.cells #[.bool false, .slice none 0 0, .slice none 0 0] 32))
          replace hbw := nB3 hbw hbw.size (.cells #[.bool false, .slice none 0 0, .slice none 0 0] 32)
          have H9 := Lib.hid (Own.new' W23 32 [.bool false, .slice none 0 0, .slice none 0 0] W23.heap.size rfl)
          obtain ⟨bH9, e_H9⟩ : ∃ b, W23.heap.size = b := ⟨_, rfl⟩
          simp only [e_H9] at H9 z_H9 z_H9_H10 z_H9_0 ⊢
          generalize (W23.alloc (.cells #[.bool false, .slice none 0 0, .slice none 0 0] 32)) = W24 at HB H10 R1 H9 hbw ⊢
          refine hr_one rfl (by kernel_rfl) (fun K hK => ?_)
          refine wp_call (HV2.out _) (by kernel_rfl) ?_
          rintro v1 W25 hb1 hr1
          obtain ⟨Rs, RA, Rc, Rn, RB, Rd, Rm, rfl, hr1⟩ := hr1.shape
          refine hK.out _ _ ?_ ?_
          · exact HB.out.ext hb1
          clear hK K
          (try (conv => arg 6; simp only [Act.put, gL]))
          replace HB := Lib.hid (HB.out.ext hb1)
          replace H10 := Lib.hid (H10.out.ext hb1)
          replace R1 := Lib.hid (R1.out.ext hb1)
          replace H9 := Lib.hid (H9.out.ext hb1)
          replace hbw := nT hbw hb1
          have R2 := Lib.hid hr1
          clear hr1
          clear hb1
         rotate_left 1
         exact trivial
        rotate_left 2
        refine hr_eff rfl (by kernel_rfl) (fun K hK => ?_) ?_
        focus
         go_simp
         refine hK.out _ _ ?_ ?_
         · exact HB.out.alloc _
         clear hK K
         (try (conv => arg 6; simp only [Act.put, gL]))
         have z_H9 := hbw.size
         have z_H9_H10 := H10.out.lt
         have z_H9_0 := cell_lt HB.out.1
         replace HB := Lib.hid (HB.out.alloc (.cells #[.bool false, .slice none 0 0, .slice none 0 0] 32))
         replace H10 := Lib.hid (H10.out.alloc (.cells #[.bool false, .slice none 0 0, .slice none 0 0] 32))
         replace hbw := nB3 hbw hbw.size (.cells #[.bool false, .slice none 0 0, .slice none 0 0] 32)
         have H9 := Lib.hid (Own.new' W22 32 [.bool false, .slice none 0 0, .slice none 0 0] W22.heap.size rfl)
         obtain ⟨bH9, e_H9⟩ : ∃ b, W22.heap.size = b := ⟨_, rfl⟩
         simp only [e_H9] at H9 z_H9 z_H9_H10 z_H9_0 ⊢
         generalize (W22.alloc (.cells #[.bool false, .slice none 0 0, .slice none 0 0] 32)) = W23 at HB H10 H9 hbw ⊢
         refine hr_one rfl (by kernel_rfl) (fun K hK => ?_)
         refine wp_call (HV1.out _) (by kernel_rfl) ?_
         rintro v1 W24 hb1 hr1
         obtain ⟨Ps, PA, Pc, Pn, PB, Pd, Pm, rfl, hr1⟩ := hr1.shape
         refine hK.out _ _ ?_ ?_
         · exact HB.out.ext hb1
         clear hK K
         (try (conv => arg 6; simp only [Act.put, gL]))
         replace HB := Lib.hid (HB.out.ext hb1)
         replace H10 := Lib.hid (H10.out.ext hb1)
         replace H9 := Lib.hid (H9.out.ext hb1)
         replace hbw := nT hbw hb1
         have R1 := Lib.hid hr1
         clear hr1
         clear hb1
         refine hr_one rfl (by kernel_rfl) (fun K hK => ?_)
         refine wp_call (HV2.out _) (by kernel_rfl) ?_
         rintro v1 W25 hb1 hr1
         obtain ⟨Rs, RA, Rc, Rn, RB, Rd, Rm, rfl, hr1⟩ := hr1.shape
         refine hK.out _ _ ?_ ?_
         · exact HB.out.ext hb1
         clear hK K
         (try (conv => arg 6; simp only [Act.put, gL]))
         replace HB := Lib.hid (HB.out.ext hb1)
         replace H10 := Lib.hid (H10.out.ext hb1)
         replace H9 := Lib.hid (H9.out.ext hb1)
         replace R1 := Lib.hid (R1.out.ext hb1)
         replace hbw := nT hbw hb1
         have R2 := Lib.hid hr1
         clear hr1
         clear hb1
        rotate_left 1
        exact trivial
       rotate_left 3
       exact trivial
       all_goals
        refine hr_one rfl (by kernel_rfl) (fun K hK => ?_)
        have q0 := H9.out.cell 0 _ rfl
        have f0 := H9.out.frozen 0
        have q1 := H9.out.cell 1 _ rfl
        have f1 := H9.out.frozen 1
        have q2 := H9.out.cell 2 _ rfl
        have f2 := H9.out.frozen 2
        go_simp
        refine hK.out _ _ ?_ ?_
        · exact (((HB.out.set (p := ⟨bH9, 0, none⟩) _ (by simp <;> omega)).set (p := ⟨bH9, 1, none⟩) _ (by simp <;> omega)).set (p := ⟨bH9, 2, none⟩) _ (by simp <;> omega))
        clear hK K
        (try (conv => arg 6; simp only [Act.put, gL]))
        replace HB := Lib.hid (HB.out.set (p := ⟨bH9, 0, none⟩) (.bool Ps) (by simp <;> omega))
        replace H10 := Lib.hid (H10.out.other (p := ⟨bH9, 0, none⟩) (.bool Ps) (by simp <;> omega))
        replace H9 := Lib.hid (H9.out.set 0 (.bool Ps))
        replace R1 := Lib.hid (R1.out.set (x := .bool Ps) q0 rfl)
        replace R2 := Lib.hid (R2.out.set (x := .bool Ps) q0 rfl)
        replace hbw := nB4 hbw (show w.heap.size ≤ (⟨bH9, 0, none⟩ : Addr).block by simp <;> omega) (.bool Ps)
        replace q1 := (nC W25 ⟨bH9, 0, none⟩ ⟨bH9, 1, none⟩ (.bool Ps) (by simp)).trans q1
        replace q2 := (nC W25 ⟨bH9, 0, none⟩ ⟨bH9, 2, none⟩ (.bool Ps) (by simp)).trans q2
        replace HB := Lib.hid (HB.out.set (p := ⟨bH9, 1, none⟩) (.slice PA Pn Pc) (by simp <;> omega))
        replace H10 := Lib.hid (H10.out.other (p := ⟨bH9, 1, none⟩) (.slice PA Pn Pc) (by simp <;> omega))
        replace H9 := Lib.hid (H9.out.set 1 (.slice PA Pn Pc))
        replace R1 := Lib.hid (R1.out.set (x := .slice PA Pn Pc) q1 rfl)
        replace R2 := Lib.hid (R2.out.set (x := .slice PA Pn Pc) q1 rfl)
        replace hbw := nB4 hbw (show w.heap.size ≤ (⟨bH9, 1, none⟩ : Addr).block by simp <;> omega) (.slice PA Pn Pc)
        replace q2 := (nC (W25.setCell ⟨bH9, 0, none⟩ (.bool Ps)) ⟨bH9, 1, none⟩ ⟨bH9, 2, none⟩ (.slice PA Pn Pc) (by simp)).trans q2
        replace HB := Lib.hid (HB.out.set (p := ⟨bH9, 2, none⟩) (.slice PB Pm Pd) (by simp <;> omega))
        replace H10 := Lib.hid (H10.out.other (p := ⟨bH9, 2, none⟩) (.slice PB Pm Pd) (by simp <;> omega))
        replace H9 := Lib.hid (H9.out.set 2 (.slice PB Pm Pd))
        replace R1 := Lib.hid (R1.out.set (x := .slice PB Pm Pd) q2 rfl)
        replace R2 := Lib.hid (R2.out.set (x := .slice PB Pm Pd) q2 rfl)
        replace hbw := nB4 hbw (show w.heap.size ≤ (⟨bH9, 2, none⟩ : Addr).block by simp <;> omega) (.slice PB Pm Pd)
        clear q0 f0 q1 f1 q2 f2
        replace H9 : Hid (Own _ _ _ [.bool Ps, .slice PA Pn Pc, .slice PB Pm Pd]) := H9
        generalize (((W25.setCell ⟨bH9, 0, none⟩ (.bool Ps)).setCell ⟨bH9, 1, none⟩ (.slice PA Pn Pc)).setCell ⟨bH9, 2, none⟩ (.slice PB Pm Pd)) = W26 at HB H10 H9 R1 R2 hbw ⊢
        refine hr_one rfl (by kernel_rfl) (fun K hK => ?_)
        have q0 := H10.out.cell 0 _ rfl
        have f0 := H10.out.frozen 0
        have q1 := H10.out.cell 1 _ rfl
        have f1 := H10.out.frozen 1
        have q2 := H10.out.cell 2 _ rfl
        have f2 := H10.out.frozen 2
        go_simp
        refine hK.out _ _ ?_ ?_
        · exact (((HB.out.set (p := ⟨bH10, 0, none⟩) _ (by simp <;> omega)).set (p := ⟨bH10, 1, none⟩) _ (by simp <;> omega)).set (p := ⟨bH10, 2, none⟩) _ (by simp <;> omega))
        clear hK K
        (try (conv => arg 6; simp only [Act.put, gL]))
        replace HB := Lib.hid (HB.out.set (p := ⟨bH10, 0, none⟩) (.bool Rs) (by simp <;> omega))
        replace H10 := Lib.hid (H10.out.set 0 (.bool Rs))
        replace H9 := Lib.hid (H9.out.other (p := ⟨bH10, 0, none⟩) (.bool Rs) (by simp <;> omega))
        replace R1 := Lib.hid (R1.out.set (x := .bool Rs) q0 rfl)
        replace R2 := Lib.hid (R2.out.set (x := .bool Rs) q0 rfl)
        replace hbw := nB4 hbw (show w.heap.size ≤ (⟨bH10, 0, none⟩ : Addr).block by simp <;> omega) (.bool Rs)
        replace q1 := (nC W26 ⟨bH10, 0, none⟩ ⟨bH10, 1, none⟩ (.bool Rs) (by simp)).trans q1
        replace q2 := (nC W26 ⟨bH10, 0, none⟩ ⟨bH10, 2, none⟩ (.bool Rs) (by simp)).trans q2
        replace HB := Lib.hid (HB.out.set (p := ⟨bH10, 1, none⟩) (.slice RA Rn Rc) (by simp <;> omega))
        replace H10 := Lib.hid (H10.out.set 1 (.slice RA Rn Rc))
        replace H9 := Lib.hid (H9.out.other (p := ⟨bH10, 1, none⟩) (.slice RA Rn Rc) (by simp <;> omega))
        replace R1 := Lib.hid (R1.out.set (x := .slice RA Rn Rc) q1 rfl)
        replace R2 := Lib.hid (R2.out.set (x := .slice RA Rn Rc) q1 rfl)
        replace hbw := nB4 hbw (show w.heap.size ≤ (⟨bH10, 1, none⟩ : Addr).block by simp <;> omega) (.slice RA Rn Rc)
        replace q2 := (nC (W26.setCell ⟨bH10, 0, none⟩ (.bool Rs)) ⟨bH10, 1, none⟩ ⟨bH10, 2, none⟩ (.slice RA Rn Rc) (by simp)).trans q2
        replace HB := Lib.hid (HB.out.set (p := ⟨bH10, 2, none⟩) (.slice RB Rm Rd) (by simp <;> omega))
        replace H10 := Lib.hid (H10.out.set 2 (.slice RB Rm Rd))
        replace H9 := Lib.hid (H9.out.other (p := ⟨bH10, 2, none⟩) (.slice RB Rm Rd) (by simp <;> omega))
        replace R1 := Lib.hid (R1.out.set (x := .slice RB Rm Rd) q2 rfl)
        replace R2 := Lib.hid (R2.out.set (x := .slice RB Rm Rd) q2 rfl)
        replace hbw := nB4 hbw (show w.heap.size ≤ (⟨bH10, 2, none⟩ : Addr).block by simp <;> omega) (.slice RB Rm Rd)
        clear q0 f0 q1 f1 q2 f2
        replace H10 : Hid (Own _ _ _ [.bool Rs, .slice RA Rn Rc, .slice RB Rm Rd]) := H10
        generalize (((W26.setCell ⟨bH10, 0, none⟩ (.bool Rs)).setCell ⟨bH10, 1, none⟩ (.slice RA Rn Rc)).setCell ⟨bH10, 2, none⟩ (.slice RB Rm Rd)) = W27 at HB H10 H9 R1 R2 hbw ⊢
        refine hr_done ?_
        go_wp2
        go_meet
        exact ⟨bH10, bH9, Ps, PA, Pc, Pn, PB, Pd, Pm, Rs, RA, Rc, Rn, RB, Rd, Rm, rfl, rfl, hbw, HB.out, R1.out, R2.out, H9.out, H10.out, by omega, by omega, by omega⟩
      obtain ⟨bH10, bH9, Ps, PA, Pc, Pn, PB, Pd, Pm, Rs, RA, Rc, Rn, RB, Rd, Rm, rfl, rfl, hbw, h_HB, h_R1, h_R2, h_H9, h_H10, z_H9_0, z_H10_H9, z_H10_0⟩ := hcut
      try clear HB R1 R2 H9 H10
      have HB := Lib.hid h_HB
      clear h_HB
      have R1 := Lib.hid h_R1
      clear h_R1
      have R2 := Lib.hid h_R2
      clear h_R2
      have H9 := Lib.hid h_H9
      clear h_H9
      have H10 := Lib.hid h_H10
      clear h_H10
      replace HB := Lib.hid (Cells.cons (H9.out.cell 2 _ rfl) HB.out)
      replace HB := Lib.hid (Cells.cons (H9.out.cell 1 _ rfl) HB.out)
      replace HB := Lib.hid (Cells.cons (H9.out.cell 0 _ rfl) HB.out)
      replace HB := Lib.hid (Cells.cons (H10.out.cell 2 _ rfl) HB.out)
      replace HB := Lib.hid (Cells.cons (H10.out.cell 1 _ rfl) HB.out)
      replace HB := Lib.hid (Cells.cons (H10.out.cell 0 _ rfl) HB.out)
      go_upto_region 17 with (fail)
      go_cut [11] (fun p11 WC => ∃ bH11 : Nat, ∃ Ls : Bool, ∃ LA : Option Addr, ∃ Lc : Nat, ∃ Ln : Nat, ∃ LB : Option Addr, ∃ Ld : Nat, ∃ Lm : Nat, p11 = .pointer (some ⟨bH11, 0, none⟩) ∧ Below w.heap.size w WC ∧ Cells [(bH10, 0, .bool Rs), (bH10, 1, .slice RA Rn Rc), (bH10, 2, .slice RB Rm Rd), (bH9, 0, .bool Ps), (bH9, 1, .slice PA Pn Pc), (bH9, 2, .slice PB Pm Pd), (b0, 0, .slice (some ⟨g, o, none⟩) j c), (g, o + i, .slice (some ⟨g1, o1, none⟩) j c1), (g1, o1 + i, .int .i64 x)] WC ∧ rQ WC (.agg #[.bool Ps, .slice PA Pn Pc, .slice PB Pm Pd]) (P) ∧ rQ WC (.agg #[.bool Rs, .slice RA Rn Rc, .slice RB Rm Rd]) (R) ∧ rQ WC (.agg #[.bool Ls, .slice LA Ln Lc, .slice LB Lm Ld]) B ∧ Own WC (bH11) 32 [.bool Ls, .slice LA Ln Lc, .slice LB Lm Ld] ∧ bH10 < bH11 ∧ bH9 < bH11 ∧ b0 < bH11)
      case first =>
       replace HB := Lib.hid (HB.out.drew)
       replace R1 := Lib.hid (R1.out.drew)
       replace R2 := Lib.hid (R2.out.drew)
       replace hbw := Below.drew hbw
       refine wp_hoistR (.yes 1 (.yes 3 (.yes 5 (.yes 6 (.act 0 (.act 2 (.act 4 (.act 7 (.act 8 (.yes 9 (.yes 10 (.yes 11 (.act 12 (.act 13 (.act 14 (.done) (.stop)) (.stop)) (.stop))))) (.act 12 (.act 8 (.yes 9 (.yes 10 (.yes 11 (.act 13 (.act 14 (.done) (.stop)) (.stop))))) (.stop)) (.stop))) (.act 12 (.act 7 (.act 8 (.yes 9 (.yes 10 (.yes 11 (.act 13 (.act 14 (.done) (.stop)) (.stop))))) (.stop)) (.stop)) (.stop))) (.act 12 (.act 4 (.act 7 (.act 8 (.yes 9 (.yes 10 (.yes 11 (.act 13 (.act 14 (.done) (.stop)) (.stop))))) (.stop)) (.stop)) (.stop)) (.stop))) (.act 12 (.act 2 (.act 4 (.act 7 (.act 8 (.yes 9 (.yes 10 (.yes 11 (.act 13 (.act 14 (.done) (.stop)) (.stop))))) (.stop)) (.stop)) (.stop)) (.stop)) (.stop))) (.act 12 (.act 0 (.act 2 (.act 4 (.act 7 (.act 8 (.yes 9 (.yes 10 (.yes 11 (.act 13 (.act 14 (.done) (.stop)) (.stop))))) (.stop)) (.stop)) (.stop)) (.stop)) (.stop)) (.stop))))))) (Cells [(bH10, 0, .bool Rs), (bH10, 1, .slice RA Rn Rc), (bH10, 2, .slice RB Rm Rd), (bH9, 0, .bool Ps), (bH9, 1, .slice PA Pn Pc), (bH9, 2, .slice PB Pm Pd), (b0, 0, .slice (some ⟨g, o, none⟩) j c), (g, o + i, .slice (some ⟨g1, o1, none⟩) j c1), (g1, o1 + i, .int .i64 x)]) (by kernel_rfl) (by kernel_rfl) ?_ ?_
       · exact HB.out
       generalize wc.drew = W28 at HB R1 R2 hbw ⊢
       refine hr_yes (v := ?_) rfl (by kernel_rfl) (fun W hW => ?_) ?_; rotate_left; (obtain ⟨y0, y1, y2, y3, y4, y5, y6, y7, y8, _⟩ := hW; go_simp; try with_reducible rfl)
       (try (conv => arg 6; simp only [Act.put, gL]))
       refine hr_yes (v := ?_) rfl (by kernel_rfl) (fun W hW => ?_) ?_; rotate_left; (obtain ⟨y0, y1, y2, y3, y4, y5, y6, y7, y8, _⟩ := hW; go_simp; try with_reducible rfl)
       (try (conv => arg 6; simp only [Act.put, gL]))
       refine hr_yes (v := ?_) rfl (by kernel_rfl) (fun W hW => ?_) ?_; rotate_left; (obtain ⟨y0, y1, y2, y3, y4, y5, y6, y7, y8, _⟩ := hW; go_simp; try with_reducible rfl)
       (try (conv => arg 6; simp only [Act.put, gL]))
       refine hr_yes (v := ?_) rfl (by kernel_rfl) (fun W hW => ?_) ?_; rotate_left; (obtain ⟨y0, y1, y2, y3, y4, y5, y6, y7, y8, _⟩ := hW; go_simp; try with_reducible rfl)
       (try (conv => arg 6; simp only [Act.put, gL]))
       refine hr_eff rfl (by kernel_rfl) (fun K hK => ?_) ?_
       focus
        refine wp_call (HOF.out _) (by kernel_rfl) ?_
        rintro v1 W29 hb1 hr1
        obtain ⟨Es, EA, Ec, En, EB, Ed, Em, rfl, hr1⟩ := hr1.shape
        refine hK.out _ _ ?_ ?_
        · exact HB.out.ext hb1
        clear hK K
        (try (conv => arg 6; simp only [Act.put, gL]))
        replace HB := Lib.hid (HB.out.ext hb1)
        replace R1 := Lib.hid (R1.out.ext hb1)
        replace R2 := Lib.hid (R2.out.ext hb1)
        replace hbw := nT hbw hb1
        have R3 := Lib.hid hr1
        clear hr1
        clear hb1
        refine hr_eff rfl (by kernel_rfl) (fun K hK => ?_) ?_
        focus
         refine wp_call (HM1.out _ _ _ R3.out R1.out) (by kernel_rfl) ?_
         rintro v1 W30 hb1 hr1
         obtain ⟨Fs, FA, Fc, Fn, FB, Fd, Fm, rfl, hr1⟩ := hr1.shape
         refine hK.out _ _ ?_ ?_
         · exact HB.out.ext hb1
         clear hK K
         (try (conv => arg 6; simp only [Act.put, gL]))
         replace HB := Lib.hid (HB.out.ext hb1)
         replace R1 := Lib.hid (R1.out.ext hb1)
         replace R2 := Lib.hid (R2.out.ext hb1)
         replace R3 := Lib.hid (R3.out.ext hb1)
         replace hbw := nT hbw hb1
         have R4 := Lib.hid hr1
         clear hr1
         clear hb1
         refine hr_eff rfl (by kernel_rfl) (fun K hK => ?_) ?_
         focus
          refine wp_call (HM2.out _ _ _ R4.out R2.out) (by kernel_rfl) ?_
          rintro v1 W31 hb1 hr1
          obtain ⟨Gs, GA, Gc, Gn, GB, Gd, Gm, rfl, hr1⟩ := hr1.shape
          refine hK.out _ _ ?_ ?_
          · exact HB.out.ext hb1
          clear hK K
          (try (conv => arg 6; simp only [Act.put, gL]))
          replace HB := Lib.hid (HB.out.ext hb1)
          replace R1 := Lib.hid (R1.out.ext hb1)
          replace R2 := Lib.hid (R2.out.ext hb1)
          replace R3 := Lib.hid (R3.out.ext hb1)
          replace R4 := Lib.hid (R4.out.ext hb1)
          replace hbw := nT hbw hb1
          have R5 := Lib.hid hr1
          clear hr1
          clear hb1
          refine hr_eff rfl (by kernel_rfl) (fun K hK => ?_) ?_
          focus
           refine wp_call (HAD.out _ _ _ R1.out R2.out) (by kernel_rfl) ?_
           rintro v1 W32 hb1 hr1
           obtain ⟨Js, JA, Jc, Jn, JB, Jd, Jm, rfl, hr1⟩ := hr1.shape
           refine hK.out _ _ ?_ ?_
           · exact HB.out.ext hb1
           clear hK K
           (try (conv => arg 6; simp only [Act.put, gL]))
           replace HB := Lib.hid (HB.out.ext hb1)
           replace R1 := Lib.hid (R1.out.ext hb1)
           replace R2 := Lib.hid (R2.out.ext hb1)
           replace R3 := Lib.hid (R3.out.ext hb1)
           replace R4 := Lib.hid (R4.out.ext hb1)
           replace R5 := Lib.hid (R5.out.ext hb1)
           replace hbw := nT hbw hb1
           have R6 := Lib.hid hr1
           clear hr1
           clear hb1
           refine hr_eff rfl (by kernel_rfl) (fun K hK => ?_) ?_
           focus
            refine wp_call (HDV.out _ _ _ R5.out R6.out) (by kernel_rfl) ?_
            rintro v1 W33 hb1 ⟨Ls, LA, Lc, Ln, LB, Ld, Lm, rfl, hr1⟩
            refine hK.out _ _ ?_ ?_
            · exact HB.out.ext hb1
            clear hK K
            (try (conv => arg 6; simp only [Act.put, gL]))
            replace HB := Lib.hid (HB.out.ext hb1)
            replace R1 := Lib.hid (R1.out.ext hb1)
            replace R2 := Lib.hid (R2.out.ext hb1)
            replace R3 := Lib.hid (R3.out.ext hb1)
            replace R4 := Lib.hid (R4.out.ext hb1)
            replace R5 := Lib.hid (R5.out.ext hb1)
            replace R6 := Lib.hid (R6.out.ext hb1)
            replace hbw := nT hbw hb1
            have R7 := Lib.hid hr1
            clear hr1
            clear hb1
            refine hr_yes (v := ?_) rfl (by kernel_rfl) (fun W hW => ?_) ?_; rotate_left; (go_simp; try with_reducible rfl)
            (try (conv => arg 6; simp only [Act.put, gL]))
            refine hr_yes (v := ?_) rfl (by kernel_rfl) (fun W hW => ?_) ?_; rotate_left; (go_simp; try with_reducible rfl)
            (try (conv => arg 6; simp only [Act.put, gL]))
            refine hr_yes (v := ?_) rfl (by kernel_rfl) (fun W hW => ?_) ?_; rotate_left; (go_simp; try with_reducible rfl)
            (try (conv => arg 6; simp only [Act.put, gL]))
            refine hr_one rfl (by kernel_rfl) (fun K hK => ?_)
            go_simp
            refine hK.out _ _ ?_ ?_
            · exact HB.out.alloc _
            clear hK K
            (try (conv => arg 6; simp only [Act.put, gL]))
            have z_H11 := hbw.size
            have z_H11_H10 := cell_lt HB.out.1
            have z_H11_H9 := cell_lt HB.out.2.2.2.1
            have z_H11_0 := cell_lt HB.out.2.2.2.2.2.2.1
            replace HB := Lib.hid (HB.out.alloc (.cells #[.bool false, .slice none 0 0, .slice none 0 0] 32))
            replace R1 := Lib.hid (R1.out.alloc (.cells #[.bool false, .slice none 0 0, .slice none 0 0] 32))
            replace R2 := Lib.hid (R2.out.alloc (.cells #[.bool false, .slice none 0 0, .slice none 0 0] 32))
            replace R3 := Lib.hid (R3.out.alloc (.cells #[.bool false, .slice none 0 0, .slice none 0 0] 32))
            replace R4 := Lib.hid (R4.out.alloc (.cells #[.bool false, .slice none 0 0, .slice none 0 0] 32))
            replace R5 := Lib.hid (R5.out.alloc (.cells #[.bool false, .slice none 0 0, .slice none 0 0] 32))
            replace R6 := Lib.hid (R6.out.alloc (.cells #[.bool false, .slice none 0 0, .slice none 0 0] 32))
            replace R7 := Lib.hid (R7.out.alloc (.cells #[.bool false, .slice none 0 0, .slice none 0 0] 32))
            replace hbw := nB3 hbw hbw.size (.cells #[.bool false, .slice none 0 0, .slice none 0 0] 32)
            have H11 := Lib.hid (Own.new' W33 32 [.bool false, .slice none 0 0, .slice none 0 0] W33.heap.size rfl)
            obtain ⟨bH11, e_H11⟩ : ∃ b, W33.heap.size = b := ⟨_, rfl⟩
            simp only [e_H11] at H11 z_H11 z_H11_H10 z_H11_H9 z_H11_0 ⊢
            generalize (W33.alloc (.cells #[.bool false, .slice none 0 0, .slice none 0 0] 32)) = W34 at HB R1 R2 R3 R4 R5 R6 R7 H11 hbw ⊢
           rotate_left 1
           refine hr_eff rfl (by kernel_rfl) (fun K hK => ?_) ?_
           focus
            go_simp
            refine hK.out _ _ ?_ ?_
            · exact HB.out.alloc _
            clear hK K
            (try (conv => arg 6; simp only [Act.put, gL]))
            have z_H11 := hbw.size
            have z_H11_H10 := cell_lt HB.out.1
            have z_H11_H9 := cell_lt HB.out.2.2.2.1
            have z_H11_0 := cell_lt HB.out.2.2.2.2.2.2.1
            replace HB := Lib.hid (HB.out.alloc (.cells #[.bool false, .slice none 0 0, .slice none 0 0] 32))
            replace R1 := Lib.hid (R1.out.alloc (.cells #[.bool false, .slice none 0 0, .slice none 0 0] 32))
            replace R2 := Lib.hid (R2.out.alloc (.cells #[.bool false, .slice none 0 0, .slice none 0 0] 32))
            replace R3 := Lib.hid (R3.out.alloc (.cells #[.bool false, .slice none 0 0, .slice none 0 0] 32))
            replace R4 := Lib.hid (R4.out.alloc (.cells #[.bool false, .slice none 0 0, .slice none 0 0] 32))
            replace R5 := Lib.hid (R5.out.alloc (.cells #[.bool false, .slice none 0 0, .slice none 0 0] 32))
            replace R6 := Lib.hid (R6.out.alloc (.cells #[.bool false, .slice none 0 0, .slice none 0 0] 32))
            replace hbw := nB3 hbw hbw.size (.cells #[.bool false, .slice none 0 0, .slice none 0 0] 32)
            have H11 := Lib.hid (Own.new' W32 32 [.bool false, .slice none 0 0, .slice none 0 0] W32.heap.size rfl)
            obtain ⟨bH11, e_H11⟩ : ∃ b, W32.heap.size = b := ⟨_, rfl⟩
            simp only [e_H11] at H11 z_H11 z_H11_H10 z_H11_H9 z_H11_0 ⊢
            generalize (W32.alloc (.cells #[.bool false, .slice none 0 0, .slice none 0 0] 32)) = W33 at HB R1 R2 R3 R4 R5 R6 H11 hbw ⊢
            refine hr_one rfl (by kernel_rfl) (fun K hK => ?_)
            refine wp_call (HDV.out _ _ _ R5.out R6.out) (by kernel_rfl) ?_
            rintro v1 W34 hb1 ⟨Ls, LA, Lc, Ln, LB, Ld, Lm, rfl, hr1⟩
            refine hK.out _ _ ?_ ?_
            · exact HB.out.ext hb1
            clear hK K
            (try (conv => arg 6; simp only [Act.put, gL]))
            replace HB := Lib.hid (HB.out.ext hb1)
            replace R1 := Lib.hid (R1.out.ext hb1)
            replace R2 := Lib.hid (R2.out.ext hb1)
            replace R3 := Lib.hid (R3.out.ext hb1)
            replace R4 := Lib.hid (R4.out.ext hb1)
            replace R5 := Lib.hid (R5.out.ext hb1)
            replace R6 := Lib.hid (R6.out.ext hb1)
            replace H11 := Lib.hid (H11.out.ext hb1)
            replace hbw := nT hbw hb1
            have R7 := Lib.hid hr1
            clear hr1
            clear hb1
            refine hr_yes (v := ?_) rfl (by kernel_rfl) (fun W hW => ?_) ?_; rotate_left; (go_simp; try with_reducible rfl)
            (try (conv => arg 6; simp only [Act.put, gL]))
            refine hr_yes (v := ?_) rfl (by kernel_rfl) (fun W hW => ?_) ?_; rotate_left; (go_simp; try with_reducible rfl)
            (try (conv => arg 6; simp only [Act.put, gL]))
            refine hr_yes (v := ?_) rfl (by kernel_rfl) (fun W hW => ?_) ?_; rotate_left; (go_simp; try with_reducible rfl)
            (try (conv => arg 6; simp only [Act.put, gL]))
           rotate_left 1
           exact trivial
          rotate_left 2
          refine hr_eff rfl (by kernel_rfl) (fun K hK => ?_) ?_
          focus
           go_simp
           refine hK.out _ _ ?_ ?_
           · exact HB.out.alloc _
           clear hK K
           (try (conv => arg 6; simp only [Act.put, gL]))
           have z_H11 := hbw.size
           have z_H11_H10 := cell_lt HB.out.1
           have z_H11_H9 := cell_lt HB.out.2.2.2.1
           have z_H11_0 := cell_lt HB.out.2.2.2.2.2.2.1
           replace HB := Lib.hid (HB.out.alloc (.cells #[.bool false, .slice none 0 0, .slice none 0 0] 32))
           replace R1 := Lib.hid (R1.out.alloc (.cells #[.bool false, .slice none 0 0, .slice none 0 0] 32))
           replace R2 := Lib.hid (R2.out.alloc (.cells #[.bool false, .slice none 0 0, .slice none 0 0] 32))
           replace R3 := Lib.hid (R3.out.alloc (.cells #[.bool false, .slice none 0 0, .slice none 0 0] 32))
           replace R4 := Lib.hid (R4.out.alloc (.cells #[.bool false, .slice none 0 0, .slice none 0 0] 32))
           replace R5 := Lib.hid (R5.out.alloc (.cells #[.bool false, .slice none 0 0, .slice none 0 0] 32))
           replace hbw := nB3 hbw hbw.size (.cells #[.bool false, .slice none 0 0, .slice none 0 0] 32)
           have H11 := Lib.hid (Own.new' W31 32 [.bool false, .slice none 0 0, .slice none 0 0] W31.heap.size rfl)
           obtain ⟨bH11, e_H11⟩ : ∃ b, W31.heap.size = b := ⟨_, rfl⟩
           simp only [e_H11] at H11 z_H11 z_H11_H10 z_H11_H9 z_H11_0 ⊢
           generalize (W31.alloc (.cells #[.bool false, .slice none 0 0, .slice none 0 0] 32)) = W32 at HB R1 R2 R3 R4 R5 H11 hbw ⊢
           refine hr_one rfl (by kernel_rfl) (fun K hK => ?_)
           refine wp_call (HAD.out _ _ _ R1.out R2.out) (by kernel_rfl) ?_
           rintro v1 W33 hb1 hr1
           obtain ⟨Js, JA, Jc, Jn, JB, Jd, Jm, rfl, hr1⟩ := hr1.shape
           refine hK.out _ _ ?_ ?_
           · exact HB.out.ext hb1
           clear hK K
           (try (conv => arg 6; simp only [Act.put, gL]))
           replace HB := Lib.hid (HB.out.ext hb1)
           replace R1 := Lib.hid (R1.out.ext hb1)
           replace R2 := Lib.hid (R2.out.ext hb1)
           replace R3 := Lib.hid (R3.out.ext hb1)
           replace R4 := Lib.hid (R4.out.ext hb1)
           replace R5 := Lib.hid (R5.out.ext hb1)
           replace H11 := Lib.hid (H11.out.ext hb1)
           replace hbw := nT hbw hb1
           have R6 := Lib.hid hr1
           clear hr1
           clear hb1
           refine hr_one rfl (by kernel_rfl) (fun K hK => ?_)
           refine wp_call (HDV.out _ _ _ R5.out R6.out) (by kernel_rfl) ?_
           rintro v1 W34 hb1 ⟨Ls, LA, Lc, Ln, LB, Ld, Lm, rfl, hr1⟩
           refine hK.out _ _ ?_ ?_
           · exact HB.out.ext hb1
           clear hK K
           (try (conv => arg 6; simp only [Act.put, gL]))
           replace HB := Lib.hid (HB.out.ext hb1)
           replace R1 := Lib.hid (R1.out.ext hb1)
           replace R2 := Lib.hid (R2.out.ext hb1)
           replace R3 := Lib.hid (R3.out.ext hb1)
           replace R4 := Lib.hid (R4.out.ext hb1)
           replace R5 := Lib.hid (R5.out.ext hb1)
           replace H11 := Lib.hid (H11.out.ext hb1)
           replace R6 := Lib.hid (R6.out.ext hb1)
           replace hbw := nT hbw hb1
           have R7 := Lib.hid hr1
           clear hr1
           clear hb1
           refine hr_yes (v := ?_) rfl (by kernel_rfl) (fun W hW => ?_) ?_; rotate_left; (go_simp; try with_reducible rfl)
           (try (conv => arg 6; simp only [Act.put, gL]))
           refine hr_yes (v := ?_) rfl (by kernel_rfl) (fun W hW => ?_) ?_; rotate_left; (go_simp; try with_reducible rfl)
           (try (conv => arg 6; simp only [Act.put, gL]))
           refine hr_yes (v := ?_) rfl (by kernel_rfl) (fun W hW => ?_) ?_; rotate_left; (go_simp; try with_reducible rfl)
           (try (conv => arg 6; simp only [Act.put, gL]))
          rotate_left 1
          exact trivial
         rotate_left 3
         refine hr_eff rfl (by kernel_rfl) (fun K hK => ?_) ?_
         focus
          go_simp
          refine hK.out _ _ ?_ ?_
          · exact HB.out.alloc _
          clear hK K
          (try (conv => arg 6; simp only [Act.put, gL]))
          have z_H11 := hbw.size
          have z_H11_H10 := cell_lt HB.out.1
          have z_H11_H9 := cell_lt HB.out.2.2.2.1
          have z_H11_0 := cell_lt HB.out.2.2.2.2.2.2.1
          replace HB := Lib.hid (HB.out.alloc (.cells #[.bool false, .slice none 0 0, .slice none 0 0] 32))
          replace R1 := Lib.hid (R1.out.alloc (.cells #[.bool false, .slice none 0 0, .slice none 0 0] 32))
          replace R2 := Lib.hid (R2.out.alloc (.cells #[.bool false, .slice none 0 0, .slice none 0 0] 32))
          replace R3 := Lib.hid (R3.out.alloc (.cells #[.bool false, .slice none 0 0, .slice none 0 0] 32))
          replace R4 := Lib.hid (R4.out.alloc (.cells #[.bool false, .slice none 0 0, .slice none 0 0] 32))
          replace hbw := nB3 hbw hbw.size (.cells #[.bool false, .slice none 0 0, .slice none 0 0] 32)
          have H11 := Lib.hid (Own.new' W30 32 [.bool false, .slice none 0 0, .slice none 0 0] W30.heap.size rfl)
          obtain ⟨bH11, e_H11⟩ : ∃ b, W30.heap.size = b := ⟨_, rfl⟩
          simp only [e_H11] at H11 z_H11 z_H11_H10 z_H11_H9 z_H11_0 ⊢
          generalize (W30.alloc (.cells #[.bool false, .slice none 0 0, .slice none 0 0] 32)) = W31 at HB R1 R2 R3 R4 H11 hbw ⊢
          refine hr_one rfl (by kernel_rfl) (fun K hK => ?_)
          refine wp_call (HM2.out _ _ _ R4.out R2.out) (by kernel_rfl) ?_
          rintro v1 W32 hb1 hr1
          obtain ⟨Gs, GA, Gc, Gn, GB, Gd, Gm, rfl, hr1⟩ := hr1.shape
          refine hK.out _ _ ?_ ?_
          · exact HB.out.ext hb1
          clear hK K
          (try (conv => arg 6; simp only [Act.put, gL]))
          replace HB := Lib.hid (HB.out.ext hb1)
          replace R1 := Lib.hid (R1.out.ext hb1)
          replace R2 := Lib.hid (R2.out.ext hb1)
          replace R3 := Lib.hid (R3.out.ext hb1)
          replace R4 := Lib.hid (R4.out.ext hb1)
          replace H11 := Lib.hid (H11.out.ext hb1)
          replace hbw := nT hbw hb1
          have R5 := Lib.hid hr1
          clear hr1
          clear hb1
          refine hr_one rfl (by kernel_rfl) (fun K hK => ?_)
          refine wp_call (HAD.out _ _ _ R1.out R2.out) (by kernel_rfl) ?_
          rintro v1 W33 hb1 hr1
          obtain ⟨Js, JA, Jc, Jn, JB, Jd, Jm, rfl, hr1⟩ := hr1.shape
          refine hK.out _ _ ?_ ?_
          · exact HB.out.ext hb1
          clear hK K
          (try (conv => arg 6; simp only [Act.put, gL]))
          replace HB := Lib.hid (HB.out.ext hb1)
          replace R1 := Lib.hid (R1.out.ext hb1)
          replace R2 := Lib.hid (R2.out.ext hb1)
          replace R3 := Lib.hid (R3.out.ext hb1)
          replace R4 := Lib.hid (R4.out.ext hb1)
          replace H11 := Lib.hid (H11.out.ext hb1)
          replace R5 := Lib.hid (R5.out.ext hb1)
          replace hbw := nT hbw hb1
          have R6 := Lib.hid hr1
          clear hr1
          clear hb1
          refine hr_one rfl (by kernel_rfl) (fun K hK => ?_)
          refine wp_call (HDV.out _ _ _ R5.out R6.out) (by kernel_rfl) ?_
          rintro v1 W34 hb1 ⟨Ls, LA, Lc, Ln, LB, Ld, Lm, rfl, hr1⟩
          refine hK.out _ _ ?_ ?_
          · exact HB.out.ext hb1
          clear hK K
          (try (conv => arg 6; simp only [Act.put, gL]))
          replace HB := Lib.hid (HB.out.ext hb1)
          replace R1 := Lib.hid (R1.out.ext hb1)
          replace R2 := Lib.hid (R2.out.ext hb1)
          replace R3 := Lib.hid (R3.out.ext hb1)
          replace R4 := Lib.hid (R4.out.ext hb1)
          replace H11 := Lib.hid (H11.out.ext hb1)
          replace R5 := Lib.hid (R5.out.ext hb1)
          replace R6 := Lib.hid (R6.out.ext hb1)
          replace hbw := nT hbw hb1
          have R7 := Lib.hid hr1
          clear hr1
          clear hb1
          refine hr_yes (v := ?_) rfl (by kernel_rfl) (fun W hW => ?_) ?_; rotate_left; (go_simp; try with_reducible rfl)
          (try (conv => arg 6; simp only [Act.put, gL]))
          refine hr_yes (v := ?_) rfl (by kernel_rfl) (fun W hW => ?_) ?_; rotate_left; (go_simp; try with_reducible rfl)
          (try (conv => arg 6; simp only [Act.put, gL]))
          refine hr_yes (v := ?_) rfl (by kernel_rfl) (fun W hW => ?_) ?_; rotate_left; (go_simp; try with_reducible rfl)
          (try (conv => arg 6; simp only [Act.put, gL]))
         rotate_left 1
         exact trivial
        rotate_left 4
        refine hr_eff rfl (by kernel_rfl) (fun K hK => ?_) ?_
        focus
         go_simp
         refine hK.out _ _ ?_ ?_
         · exact HB.out.alloc _
         clear hK K
         (try (conv => arg 6; simp only [Act.put, gL]))
         have z_H11 := hbw.size
         have z_H11_H10 := cell_lt HB.out.1
         have z_H11_H9 := cell_lt HB.out.2.2.2.1
         have z_H11_0 := cell_lt HB.out.2.2.2.2.2.2.1
         replace HB := Lib.hid (HB.out.alloc (.cells #[.bool false, .slice none 0 0, .slice none 0 0] 32))
         replace R1 := Lib.hid (R1.out.alloc (.cells #[.bool false, .slice none 0 0, .slice none 0 0] 32))
         replace R2 := Lib.hid (R2.out.alloc (.cells #[.bool false, .slice none 0 0, .slice none 0 0] 32))
         replace R3 := Lib.hid (R3.out.alloc (.cells #[.bool false, .slice none 0 0, .slice none 0 0] 32))
         replace hbw := nB3 hbw hbw.size (.cells #[.bool false, .slice none 0 0, .slice none 0 0] 32)
         have H11 := Lib.hid (Own.new' W29 32 [.bool false, .slice none 0 0, .slice none 0 0] W29.heap.size rfl)
         obtain ⟨bH11, e_H11⟩ : ∃ b, W29.heap.size = b := ⟨_, rfl⟩
         simp only [e_H11] at H11 z_H11 z_H11_H10 z_H11_H9 z_H11_0 ⊢
         generalize (W29.alloc (.cells #[.bool false, .slice none 0 0, .slice none 0 0] 32)) = W30 at HB R1 R2 R3 H11 hbw ⊢
         refine hr_one rfl (by kernel_rfl) (fun K hK => ?_)
         refine wp_call (HM1.out _ _ _ R3.out R1.out) (by kernel_rfl) ?_
         rintro v1 W31 hb1 hr1
         obtain ⟨Fs, FA, Fc, Fn, FB, Fd, Fm, rfl, hr1⟩ := hr1.shape
         refine hK.out _ _ ?_ ?_
         · exact HB.out.ext hb1
         clear hK K
         (try (conv => arg 6; simp only [Act.put, gL]))
         replace HB := Lib.hid (HB.out.ext hb1)
         replace R1 := Lib.hid (R1.out.ext hb1)
         replace R2 := Lib.hid (R2.out.ext hb1)
         replace R3 := Lib.hid (R3.out.ext hb1)
         replace H11 := Lib.hid (H11.out.ext hb1)
         replace hbw := nT hbw hb1
         have R4 := Lib.hid hr1
         clear hr1
         clear hb1
         refine hr_one rfl (by kernel_rfl) (fun K hK => ?_)
         refine wp_call (HM2.out _ _ _ R4.out R2.out) (by kernel_rfl) ?_
         rintro v1 W32 hb1 hr1
         obtain ⟨Gs, GA, Gc, Gn, GB, Gd, Gm, rfl, hr1⟩ := hr1.shape
         refine hK.out _ _ ?_ ?_
         · exact HB.out.ext hb1
         clear hK K
         (try (conv => arg 6; simp only [Act.put, gL]))
         replace HB := Lib.hid (HB.out.ext hb1)
         replace R1 := Lib.hid (R1.out.ext hb1)
         replace R2 := Lib.hid (R2.out.ext hb1)
         replace R3 := Lib.hid (R3.out.ext hb1)
         replace H11 := Lib.hid (H11.out.ext hb1)
         replace R4 := Lib.hid (R4.out.ext hb1)
         replace hbw := nT hbw hb1
         have R5 := Lib.hid hr1
         clear hr1
         clear hb1
         refine hr_one rfl (by kernel_rfl) (fun K hK => ?_)
         refine wp_call (HAD.out _ _ _ R1.out R2.out) (by kernel_rfl) ?_
         rintro v1 W33 hb1 hr1
         obtain ⟨Js, JA, Jc, Jn, JB, Jd, Jm, rfl, hr1⟩ := hr1.shape
         refine hK.out _ _ ?_ ?_
         · exact HB.out.ext hb1
         clear hK K
         (try (conv => arg 6; simp only [Act.put, gL]))
         replace HB := Lib.hid (HB.out.ext hb1)
         replace R1 := Lib.hid (R1.out.ext hb1)
         replace R2 := Lib.hid (R2.out.ext hb1)
         replace R3 := Lib.hid (R3.out.ext hb1)
         replace H11 := Lib.hid (H11.out.ext hb1)
         replace R4 := Lib.hid (R4.out.ext hb1)
         replace R5 := Lib.hid (R5.out.ext hb1)
         replace hbw := nT hbw hb1
         have R6 := Lib.hid hr1
         clear hr1
         clear hb1
         refine hr_one rfl (by kernel_rfl) (fun K hK => ?_)
         refine wp_call (HDV.out _ _ _ R5.out R6.out) (by kernel_rfl) ?_
         rintro v1 W34 hb1 ⟨Ls, LA, Lc, Ln, LB, Ld, Lm, rfl, hr1⟩
         refine hK.out _ _ ?_ ?_
         · exact HB.out.ext hb1
         clear hK K
         (try (conv => arg 6; simp only [Act.put, gL]))
         replace HB := Lib.hid (HB.out.ext hb1)
         replace R1 := Lib.hid (R1.out.ext hb1)
         replace R2 := Lib.hid (R2.out.ext hb1)
         replace R3 := Lib.hid (R3.out.ext hb1)
         replace H11 := Lib.hid (H11.out.ext hb1)
         replace R4 := Lib.hid (R4.out.ext hb1)
         replace R5 := Lib.hid (R5.out.ext hb1)
         replace R6 := Lib.hid (R6.out.ext hb1)
         replace hbw := nT hbw hb1
         have R7 := Lib.hid hr1
         clear hr1
         clear hb1
         refine hr_yes (v := ?_) rfl (by kernel_rfl) (fun W hW => ?_) ?_; rotate_left; (go_simp; try with_reducible rfl)
         (try (conv => arg 6; simp only [Act.put, gL]))
         refine hr_yes (v := ?_) rfl (by kernel_rfl) (fun W hW => ?_) ?_; rotate_left; (go_simp; try with_reducible rfl)
         (try (conv => arg 6; simp only [Act.put, gL]))
         refine hr_yes (v := ?_) rfl (by kernel_rfl) (fun W hW => ?_) ?_; rotate_left; (go_simp; try with_reducible rfl)
         (try (conv => arg 6; simp only [Act.put, gL]))
        rotate_left 1
        exact trivial
       rotate_left 5
       refine hr_eff rfl (by kernel_rfl) (fun K hK => ?_) ?_
       focus
        go_simp
        refine hK.out _ _ ?_ ?_
        · exact HB.out.alloc _
        clear hK K
        (try (conv => arg 6; simp only [Act.put, gL]))
        have z_H11 := hbw.size
        have z_H11_H10 := cell_lt HB.out.1
        have z_H11_H9 := cell_lt HB.out.2.2.2.1
        have z_H11_0 := cell_lt HB.out.2.2.2.2.2.2.1
        replace HB := Lib.hid (HB.out.alloc (.cells #[.bool false, .slice none 0 0, .slice none 0 0] 32))
        replace R1 := Lib.hid (R1.out.alloc (.cells #[.bool false, .slice none 0 0, .slice none 0 0] 32))
        replace R2 := Lib.hid (R2.out.alloc (.cells #[.bool false, .slice none 0 0, .slice none 0 0] 32))
        replace hbw := nB3 hbw hbw.size (.cells #[.bool false, .slice none 0 0, .slice none 0 0] 32)
        have H11 := Lib.hid (Own.new' W28 32 [.bool false, .slice none 0 0, .slice none 0 0] W28.heap.size rfl)
        obtain ⟨bH11, e_H11⟩ : ∃ b, W28.heap.size = b := ⟨_, rfl⟩
        simp only [e_H11] at H11 z_H11 z_H11_H10 z_H11_H9 z_H11_0 ⊢
        generalize (W28.alloc (.cells #[.bool false, .slice none 0 0, .slice none 0 0] 32)) = W29 at HB R1 R2 H11 hbw ⊢
        refine hr_one rfl (by kernel_rfl) (fun K hK => ?_)
        refine wp_call (HOF.out _) (by kernel_rfl) ?_
        rintro v1 W30 hb1 hr1
        obtain ⟨Es, EA, Ec, En, EB, Ed, Em, rfl, hr1⟩ := hr1.shape
        refine hK.out _ _ ?_ ?_
        · exact HB.out.ext hb1
        clear hK K
        (try (conv => arg 6; simp only [Act.put, gL]))
        replace HB := Lib.hid (HB.out.ext hb1)
        replace R1 := Lib.hid (R1.out.ext hb1)
        replace R2 := Lib.hid (R2.out.ext hb1)
        replace H11 := Lib.hid (H11.out.ext hb1)
        replace hbw := nT hbw hb1
        have R3 := Lib.hid hr1
        clear hr1
        clear hb1
        refine hr_one rfl (by kernel_rfl) (fun K hK => ?_)
        refine wp_call (HM1.out _ _ _ R3.out R1.out) (by kernel_rfl) ?_
        rintro v1 W31 hb1 hr1
        obtain ⟨Fs, FA, Fc, Fn, FB, Fd, Fm, rfl, hr1⟩ := hr1.shape
        refine hK.out _ _ ?_ ?_
        · exact HB.out.ext hb1
        clear hK K
        (try (conv => arg 6; simp only [Act.put, gL]))
        replace HB := Lib.hid (HB.out.ext hb1)
        replace R1 := Lib.hid (R1.out.ext hb1)
        replace R2 := Lib.hid (R2.out.ext hb1)
        replace H11 := Lib.hid (H11.out.ext hb1)
        replace R3 := Lib.hid (R3.out.ext hb1)
        replace hbw := nT hbw hb1
        have R4 := Lib.hid hr1
        clear hr1
        clear hb1
        refine hr_one rfl (by kernel_rfl) (fun K hK => ?_)
        refine wp_call (HM2.out _ _ _ R4.out R2.out) (by kernel_rfl) ?_
        rintro v1 W32 hb1 hr1
        obtain ⟨Gs, GA, Gc, Gn, GB, Gd, Gm, rfl, hr1⟩ := hr1.shape
        refine hK.out _ _ ?_ ?_
        · exact HB.out.ext hb1
        clear hK K
        (try (conv => arg 6; simp only [Act.put, gL]))
        replace HB := Lib.hid (HB.out.ext hb1)
        replace R1 := Lib.hid (R1.out.ext hb1)
        replace R2 := Lib.hid (R2.out.ext hb1)
        replace H11 := Lib.hid (H11.out.ext hb1)
        replace R3 := Lib.hid (R3.out.ext hb1)
        replace R4 := Lib.hid (R4.out.ext hb1)
        replace hbw := nT hbw hb1
        have R5 := Lib.hid hr1
        clear hr1
        clear hb1
        refine hr_one rfl (by kernel_rfl) (fun K hK => ?_)
        refine wp_call (HAD.out _ _ _ R1.out R2.out) (by kernel_rfl) ?_
        rintro v1 W33 hb1 hr1
        obtain ⟨Js, JA, Jc, Jn, JB, Jd, Jm, rfl, hr1⟩ := hr1.shape
        refine hK.out _ _ ?_ ?_
        · exact HB.out.ext hb1
        clear hK K
        (try (conv => arg 6; simp only [Act.put, gL]))
        replace HB := Lib.hid (HB.out.ext hb1)
        replace R1 := Lib.hid (R1.out.ext hb1)
        replace R2 := Lib.hid (R2.out.ext hb1)
        replace H11 := Lib.hid (H11.out.ext hb1)
        replace R3 := Lib.hid (R3.out.ext hb1)
        replace R4 := Lib.hid (R4.out.ext hb1)
        replace R5 := Lib.hid (R5.out.ext hb1)
        replace hbw := nT hbw hb1
        have R6 := Lib.hid hr1
        clear hr1
        clear hb1
        refine hr_one rfl (by kernel_rfl) (fun K hK => ?_)
        refine wp_call (HDV.out _ _ _ R5.out R6.out) (by kernel_rfl) ?_
        rintro v1 W34 hb1 ⟨Ls, LA, Lc, Ln, LB, Ld, Lm, rfl, hr1⟩
        refine hK.out _ _ ?_ ?_
        · exact HB.out.ext hb1
        clear hK K
        (try (conv => arg 6; simp only [Act.put, gL]))
        replace HB := Lib.hid (HB.out.ext hb1)
        replace R1 := Lib.hid (R1.out.ext hb1)
        replace R2 := Lib.hid (R2.out.ext hb1)
        replace H11 := Lib.hid (H11.out.ext hb1)
        replace R3 := Lib.hid (R3.out.ext hb1)
        replace R4 := Lib.hid (R4.out.ext hb1)
        replace R5 := Lib.hid (R5.out.ext hb1)
        replace R6 := Lib.hid (R6.out.ext hb1)
        replace hbw := nT hbw hb1
        have R7 := Lib.hid hr1
        clear hr1
        clear hb1
        refine hr_yes (v := ?_) rfl (by kernel_rfl) (fun W hW => ?_) ?_; rotate_left; (go_simp; try with_reducible rfl)
        (try (conv => arg 6; simp only [Act.put, gL]))
        refine hr_yes (v := ?_) rfl (by kernel_rfl) (fun W hW => ?_) ?_; rotate_left; (go_simp; try with_reducible rfl)
        (try (conv => arg 6; simp only [Act.put, gL]))
        refine hr_yes (v := ?_) rfl (by kernel_rfl) (fun W hW => ?_) ?_; rotate_left; (go_simp; try with_reducible rfl)
        (try (conv => arg 6; simp only [Act.put, gL]))
       rotate_left 1
       exact trivial
       all_goals
        refine hr_one rfl (by kernel_rfl) (fun K hK => ?_)
        have q0 := H11.out.cell 0 _ rfl
        have f0 := H11.out.frozen 0
        have q1 := H11.out.cell 1 _ rfl
        have f1 := H11.out.frozen 1
        have q2 := H11.out.cell 2 _ rfl
        have f2 := H11.out.frozen 2
        go_simp
        refine hK.out _ _ ?_ ?_
        · exact (((HB.out.set (p := ⟨bH11, 0, none⟩) _ (by simp <;> omega)).set (p := ⟨bH11, 1, none⟩) _ (by simp <;> omega)).set (p := ⟨bH11, 2, none⟩) _ (by simp <;> omega))
        clear hK K
        (try (conv => arg 6; simp only [Act.put, gL]))
        replace HB := Lib.hid (HB.out.set (p := ⟨bH11, 0, none⟩) (.bool Ls) (by simp <;> omega))
        replace R1 := Lib.hid (R1.out.set (x := .bool Ls) q0 rfl)
        replace R2 := Lib.hid (R2.out.set (x := .bool Ls) q0 rfl)
        replace H11 := Lib.hid (H11.out.set 0 (.bool Ls))
        replace R3 := Lib.hid (R3.out.set (x := .bool Ls) q0 rfl)
        replace R4 := Lib.hid (R4.out.set (x := .bool Ls) q0 rfl)
        replace R5 := Lib.hid (R5.out.set (x := .bool Ls) q0 rfl)
        replace R6 := Lib.hid (R6.out.set (x := .bool Ls) q0 rfl)
        replace R7 := Lib.hid (R7.out.set (x := .bool Ls) q0 rfl)
        replace hbw := nB4 hbw (show w.heap.size ≤ (⟨bH11, 0, none⟩ : Addr).block by simp <;> omega) (.bool Ls)
        replace q1 := (nC W34 ⟨bH11, 0, none⟩ ⟨bH11, 1, none⟩ (.bool Ls) (by simp)).trans q1
        replace q2 := (nC W34 ⟨bH11, 0, none⟩ ⟨bH11, 2, none⟩ (.bool Ls) (by simp)).trans q2
        replace HB := Lib.hid (HB.out.set (p := ⟨bH11, 1, none⟩) (.slice LA Ln Lc) (by simp <;> omega))
        replace R1 := Lib.hid (R1.out.set (x := .slice LA Ln Lc) q1 rfl)
        replace R2 := Lib.hid (R2.out.set (x := .slice LA Ln Lc) q1 rfl)
        replace H11 := Lib.hid (H11.out.set 1 (.slice LA Ln Lc))
        replace R3 := Lib.hid (R3.out.set (x := .slice LA Ln Lc) q1 rfl)
        replace R4 := Lib.hid (R4.out.set (x := .slice LA Ln Lc) q1 rfl)
        replace R5 := Lib.hid (R5.out.set (x := .slice LA Ln Lc) q1 rfl)
        replace R6 := Lib.hid (R6.out.set (x := .slice LA Ln Lc) q1 rfl)
        replace R7 := Lib.hid (R7.out.set (x := .slice LA Ln Lc) q1 rfl)
        replace hbw := nB4 hbw (show w.heap.size ≤ (⟨bH11, 1, none⟩ : Addr).block by simp <;> omega) (.slice LA Ln Lc)
        replace q2 := (nC (W34.setCell ⟨bH11, 0, none⟩ (.bool Ls)) ⟨bH11, 1, none⟩ ⟨bH11, 2, none⟩ (.slice LA Ln Lc) (by simp)).trans q2
        replace HB := Lib.hid (HB.out.set (p := ⟨bH11, 2, none⟩) (.slice LB Lm Ld) (by simp <;> omega))
        replace R1 := Lib.hid (R1.out.set (x := .slice LB Lm Ld) q2 rfl)
        replace R2 := Lib.hid (R2.out.set (x := .slice LB Lm Ld) q2 rfl)
        replace H11 := Lib.hid (H11.out.set 2 (.slice LB Lm Ld))
        replace R3 := Lib.hid (R3.out.set (x := .slice LB Lm Ld) q2 rfl)
        replace R4 := Lib.hid (R4.out.set (x := .slice LB Lm Ld) q2 rfl)
        replace R5 := Lib.hid (R5.out.set (x := .slice LB Lm Ld) q2 rfl)
        replace R6 := Lib.hid (R6.out.set (x := .slice LB Lm Ld) q2 rfl)
        replace R7 := Lib.hid (R7.out.set (x := .slice LB Lm Ld) q2 rfl)
        replace hbw := nB4 hbw (show w.heap.size ≤ (⟨bH11, 2, none⟩ : Addr).block by simp <;> omega) (.slice LB Lm Ld)
        clear q0 f0 q1 f1 q2 f2
        replace H11 : Hid (Own _ _ _ [.bool Ls, .slice LA Ln Lc, .slice LB Lm Ld]) := H11
        generalize (((W34.setCell ⟨bH11, 0, none⟩ (.bool Ls)).setCell ⟨bH11, 1, none⟩ (.slice LA Ln Lc)).setCell ⟨bH11, 2, none⟩ (.slice LB Lm Ld)) = W35 at HB R1 R2 H11 R3 R4 R5 R6 R7 hbw ⊢
        refine hr_one rfl (by kernel_rfl) (fun K hK => ?_)
        go_simp
        refine hK.out _ _ ?_ ?_
        · exact HB.out
        clear hK K
        (try (conv => arg 6; simp only [Act.put, gL]))
        refine hr_done ?_
        go_wp2
        go_meet
        exact ⟨bH11, Ls, LA, Lc, Ln, LB, Ld, Lm, rfl, hbw, HB.out, R1.out, R2.out, R7.out, H11.out, by omega, by omega, by omega⟩
      obtain ⟨bH11, Ls, LA, Lc, Ln, LB, Ld, Lm, rfl, hbw, h_HB, h_R1, h_R2, h_R7, h_H11, z_H11_H10, z_H11_H9, z_H11_0⟩ := hcut
      try clear HB R1 R2 R7 H11
      have HB := Lib.hid h_HB
      clear h_HB
      have R1 := Lib.hid h_R1
      clear h_R1
      have R2 := Lib.hid h_R2
      clear h_R2
      have R7 := Lib.hid h_R7
      clear h_R7
      have H11 := Lib.hid h_H11
      clear h_H11
      replace HB := Lib.hid (Cells.cons (H11.out.cell 2 _ rfl) HB.out)
      replace HB := Lib.hid (Cells.cons (H11.out.cell 1 _ rfl) HB.out)
      replace HB := Lib.hid (Cells.cons (H11.out.cell 0 _ rfl) HB.out)
      have HF2 := Lib.hid (HF.out.ext hbw)
      obtain ⟨v0, q0, i0, f0⟩ := HF2.out.cell (i * 9) (by have := HIK.out; omega)
      obtain ⟨v1, q1, i1, f1⟩ := HF2.out.cell (i * 9 + 1) (by have := HIK.out; omega)
      obtain ⟨v2, q2, i2, f2⟩ := HF2.out.cell (i * 9 + 2) (by have := HIK.out; omega)
      obtain ⟨v3, q3, i3, f3⟩ := HF2.out.cell (i * 9 + 3) (by have := HIK.out; omega)
      obtain ⟨v4, q4, i4, f4⟩ := HF2.out.cell (i * 9 + 4) (by have := HIK.out; omega)
      obtain ⟨v5, q5, i5, f5⟩ := HF2.out.cell (i * 9 + 5) (by have := HIK.out; omega)
      obtain ⟨v6, q6, i6, f6⟩ := HF2.out.cell (i * 9 + 6) (by have := HIK.out; omega)
      obtain ⟨v7, q7, i7, f7⟩ := HF2.out.cell (i * 9 + 7) (by have := HIK.out; omega)
      obtain ⟨v8, q8, i8, f8⟩ := HF2.out.cell (i * 9 + 8) (by have := HIK.out; omega)
      obtain ⟨y0, y1, y2, y3, y4, y5, y6, y7, y8, y9, y10, y11, _⟩ := id HB.out
      subst eb0
      go_wp2
      go_roundw
      case rel =>
       have hbe := Below.trans HBW.out (Below.mono hbw HBW.out.size)
       have hc0 := ext_cell hbw HBOX.out
       refine ⟨i + 1, rfl, HIK.out, HW.out _ (below9 hbe (by omega)) (cell9 hc0 (by omega)) (HF2.out.set9 HIK.out ?_ ?_ ?_)⟩
       · rw [F0.out]; exact R1.out
       · rw [F1.out]; exact R2.out
       · rw [F2.out]; exact R7.out
      case measure => simp [intOf]; have := HIK.out; omega
   ·
    obtain rfl : i = k := by omega
    have hii : ¬ (i : Int) < (i : Int) := by omega
    have y0 := HD.out.bx
    go_wp2_with fail
    go_meet
    exact HD.out
 clear HB HT hbw zb z_HT
 have HD := Lib.hid hcut
 clear hcut
 go_wp2_with fail
 refine bodyPost_ret (v := .tuple #[.slice (some ⟨bHT, 0, none⟩) k k, .int .i64 0]) (by simp [results, Tryz.results15, go_sem]) rfl ⟨_, rfl, HD.out.be, ?_⟩
 exact ⟨_, _, rfl, HD.out.fl⟩
end Go.Proofs.YtadpjidakippeaaGreat
