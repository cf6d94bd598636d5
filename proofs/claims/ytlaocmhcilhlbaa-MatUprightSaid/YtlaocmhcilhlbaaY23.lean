/- MatUpright: the walk. -/
import Derived.Test.YtlaocmhcilhlbaaY22
set_option linter.unusedVariables false
set_option linter.unusedSimpArgs false
namespace Go.Proofs.Ytlaocmhcilhlbaa
open Go.RowKit
theorem rIs.ext {w w' : World} {v : Value} {l : List Int} (h : rIs w v l) (he : Ext w w') : rIs w' v l := by
  obtain ⟨A, c, hv, hc, hI, h⟩ := h
  refine ⟨A, c, hv, hc, hI, fun hl => ?_⟩
  obtain ⟨g, o, hA, h⟩ := h hl
  exact ⟨g, o, hA, fun j hj => ext_cell he (h j hj)⟩
theorem rQs.open {w : World} {v : Value} {l : List Rat} {n : Nat} (h : rQs w v l) (hn : l.length = n) : ∃ A c, v = .slice A n c ∧ rQs w (.slice A n c) l := by
  obtain ⟨A, c, rfl, h⟩ := h.shape
  exact ⟨A, c, by rw [hn], hn ▸ h⟩
theorem rLs.openQ {w : World} {v : Value} {l : List Rat} {n : Nat} (hn : l.length = n) (h : rLs rQ w v l) : ∃ A c, v = .slice A n c ∧ rQs w (.slice A n c) l := h.qs.open hn
theorem part_zero {W : World} {v : Value} {x y : List Rat} (hl : x.length = y.length) (h0 : x.length ≠ 0) (hz : dot y y = 0) (h : PartSaid W v x y) :
    ∃ s A c n B k m, v = .tuple #[.agg #[.bool s, .slice A n c, .slice B m k], .slice none 0 0, .int .i64 6] ∧ rQ W (.agg #[.bool s, .slice A n c, .slice B m k]) 0 := by
  unfold PartSaid at h
  rw [if_pos ⟨hl, h0⟩, if_pos hz] at h
  obtain ⟨q, hv, h⟩ := h
  obtain ⟨s, A, c, n, B, k, m, rfl, h⟩ := h.shape
  exact ⟨s, A, c, n, B, k, m, hv, h⟩
theorem part_some {W : World} {v : Value} {x y : List Rat} {n0 : Nat} (hn : x.length = n0) (hl : x.length = y.length) (h0 : x.length ≠ 0) (hz : dot y y ≠ 0) (h : PartSaid W v x y) :
    ∃ s A c n B k m D e, v = .tuple #[.agg #[.bool s, .slice A n c, .slice B m k], .slice D n0 e, .int .i64 0] ∧ rQ W (.agg #[.bool s, .slice A n c, .slice B m k]) (dot x y / dot y y) ∧ rQs W (.slice D n0 e) (less x y (dot x y / dot y y)) := by
  unfold PartSaid at h
  rw [if_pos ⟨hl, h0⟩, if_neg hz] at h
  obtain ⟨q, l, hv, h1, h2⟩ := h
  obtain ⟨s, A, c, n, B, k, m, rfl, h1⟩ := h1.shape
  obtain ⟨D, e, rfl, h2⟩ := h2.open ((less_length _ _ _).trans hn)
  exact ⟨s, A, c, n, B, k, m, D, e, hv, h1, h2⟩
theorem dot_open {W : World} {v : Value} {x y : List Rat} {q : Rat} (hl : x.length = y.length) (hq : dot x y = q) (h : DotSaid W v x y) :
    ∃ s A c n B k m, v = .tuple #[.agg #[.bool s, .slice A n c, .slice B m k], .bool true] ∧ rQ W (.agg #[.bool s, .slice A n c, .slice B m k]) q := by
  obtain ⟨s, A, c, n, B, k, m, hv, h⟩ := h.open
  rw [decide_eq_true hl] at hv
  rw [if_pos hl, hq] at h
  exact ⟨s, A, c, n, B, k, m, hv, h⟩
def AppQ (W : World) (base : Nat) (v : Value) (l : List Rat) : Prop := AppL rQ 34 W base v l
theorem AppQ.ext {W w' : World} {base : Nat} {v : Value} {l : List Rat} (h : AppQ W base v l) (he : Ext W w') : AppQ w' base v l := AppL.ext rQx h he
theorem AppQ.drew {W : World} {base : Nat} {v : Value} {l : List Rat} (h : AppQ W base v l) : AppQ W.drew base v l := AppL.drew (fun _ _ _ h => h) h
theorem AppQ.alloc {W : World} {base : Nat} {v : Value} {l : List Rat} (h : AppQ W base v l) (o : Obj) : AppQ (W.alloc o) base v l := h.ext (ext_alloc _ _)
/-- All that was there is there. -/
def After (W0 W : World) : Prop := Ext W0 W
theorem After.ext {W0 W w' : World} (h : After W0 W) (he : Ext W w') : After W0 w' := Ext.trans h he
theorem After.drew {W0 W : World} (h : After W0 W) : After W0 W.drew := Below.drew h
theorem After.alloc {W0 W : World} (h : After W0 W) (o : Obj) : After W0 (W.alloc o) := Ext.trans h (ext_alloc _ _)
theorem rQs.atO {w : World} {A : Option Addr} {n c : Nat} {l : List Rat} {j : Nat} {q : Rat} (h : rQs w (.slice A n c) l) (hj : l[j]? = some q) :
    ∃ g o s A1 c1 n1 B1 k1 m1, A = some ⟨g, o, none⟩ ∧ w.cell? ⟨g, o + j * 3, none⟩ = some (.bool s) ∧ w.cell? ⟨g, o + j * 3 + 1, none⟩ = some (.slice A1 n1 c1) ∧ w.cell? ⟨g, o + j * 3 + 2, none⟩ = some (.slice B1 m1 k1) ∧
      rQ w (.agg #[.bool s, .slice A1 n1 c1, .slice B1 m1 k1]) q := by
  obtain ⟨hj1, hj2⟩ := List.getElem?_eq_some_iff.1 hj
  have := h.at hj1
  rw [hj2] at this
  exact this
set_option maxRecDepth 100000 in
set_option maxHeartbeats 8000000 in
/-- MatUpright -/
theorem upright_c (w : World) (vl vo : Value) (l o : List Int) (n k : Int) (hl : rIs w vl l) (ho : rIs w vo o) (hn : I64 n) (hk : I64 k) :
    Calls Try.prog 3 #[vl, vo, .int .i64 n, .int .i64 k] w (Post w fun r _ => r = .bool true) := by
  obtain ⟨A, c, rfl, hl⟩ := hl.shape
  obtain ⟨B, d, rfl, ho⟩ := ho.shape
  obtain ⟨p, ep⟩ : ∃ p, n % 6 = p := ⟨_, rfl⟩
  have p1 := Int.emod_nonneg n (show (6 : Int) ≠ 0 by omega)
  have p2 := Int.emod_lt_of_pos n (show (0 : Int) < 6 by omega)
  rw [ep] at p1 p2
  obtain ⟨N, eN⟩ : ∃ N : Nat, (N : Int) = 1 + p := ⟨(1 + p).toNat, by omega⟩
  have hN : 1 ≤ N ∧ N ≤ 6 := by omega
  have hwN : IntKind.i64.wrap (1 + p) = (N : Int) := by rw [eN]; exact i64w (by omega) (by omega)
  obtain ⟨X, eX⟩ : ∃ X, rowL l N = X := ⟨_, rfl⟩
  obtain ⟨Y, eY⟩ : ∃ Y, rowL o N = Y := ⟨_, rfl⟩
  have hXl : X.length = N := by rw [← eX]; exact rowL_length _ _
  have hYl : Y.length = N := by rw [← eY]; exact rowL_length _ _
  have hXs : ∀ q ∈ X, SmallQ q := by rw [← eX]; exact rowL_small _ _
  have hYs : ∀ q ∈ Y, SmallQ q := by rw [← eY]; exact rowL_small _ _
  have wX := wt_small X hXs
  have wY := wt_small Y hYs
  rw [hXl] at wX
  rw [hYl] at wY
  have HPK := Lib.hid (fun W => pick_c W n 6 hn (by omega))
  rw [ep] at HPK
  have HRL := Lib.hid (fun W h => row_c W (.slice A l.length c) l N h (by omega))
  have HRO := Lib.hid (fun W h => row_c W (.slice B o.length d) o N h (by omega))
  rw [eX] at HRL
  rw [eY] at HRO
  have HIL := Lib.hid (fun W v h => (inrow_c W v X h hXs (by omega)).mono (fun _ _ h => h.map (fun _ _ h => h.openQ hXl)))
  have HIO := Lib.hid (fun W v h => (inrow_c W v Y h hYs (by omega)).mono (fun _ _ h => h.map (fun _ _ h => h.openQ hYl)))
  have HPT := fun W v u h h' => part_c W v u X Y h h' (by omega) (by omega) (by omega)
  have HKN := Lib.hid known10_c
  have hxy : X.length = Y.length := hXl.trans hYl.symm
  have hx0 : X.length ≠ 0 := by omega
  have HDY := fun W v h => dot_c W v v Y Y h h (by omega) (by omega) (by omega)
  have H1 := Lib.hid hl
  have H2 := Lib.hid ho
  have HNN := Lib.hid hN
  by_cases hyy : dot Y Y = 0
  · have HPZ := Lib.hid (fun W v u h h' => (HPT W v u h h').mono (fun _ _ h => h.map (fun _ _ h => part_zero hxy hx0 hyy h)))
    have HDZ := Lib.hid (fun W v h => (HDY W v h).mono (fun _ _ h => h.map (fun _ _ h => dot_open rfl hyy h)))
    have HSZ := Lib.hid (fun W v h => qsign_c W v 0 h (by show Fit 0; unfold Fit; rw [bl_zero]; omega))
    rw [show (0 : Rat).num.sign = 0 from rfl] at HSZ
    clear hl ho hn hk ep p1 p2 eN hN eX eY hXl hYl hXs hYs wX wY HPT HDY hxy hx0 hyy
    have HB : Hid (Cells [] w) := Lib.hid (Cells.nil _)
    have hbw : Below w.heap.size w w := Below.refl _ _
    go_enter Try.func3, Try.ntmps3
    go_wp2_with fail
    refine (HPK.out _).mono ?_
    rintro e W1 ⟨v1, rfl, hb1, rfl⟩
    replace HB := Lib.hid (HB.out.ext hb1)
    replace hbw := Below.trans hbw (Below.mono hb1 hbw.size)
    clear hb1
    go_wp2_with fail
    refine (HRL.out _ (H1.out.ext hbw)).mono ?_
    rintro e W2 ⟨v1, rfl, hb1, hr1⟩
    replace HB := Lib.hid (HB.out.ext hb1)
    replace hbw := Below.trans hbw (Below.mono hb1 hbw.size)
    have R0 := Lib.hid hr1
    clear hr1
    clear hb1
    go_wp2_with fail
    refine (HIL.out _ _ R0.out).mono ?_
    rintro e W3 ⟨v1, rfl, hb1, A1, c1, rfl, hr1⟩
    replace HB := Lib.hid (HB.out.ext hb1)
    replace hbw := Below.trans hbw (Below.mono hb1 hbw.size)
    have RX := Lib.hid hr1
    clear hr1
    clear hb1
    clear R0
    go_wp2_with fail
    refine (HRO.out _ (H2.out.ext hbw)).mono ?_
    rintro e W4 ⟨v1, rfl, hb1, hr1⟩
    replace HB := Lib.hid (HB.out.ext hb1)
    replace RX := Lib.hid (RX.out.ext hb1)
    replace hbw := Below.trans hbw (Below.mono hb1 hbw.size)
    have R0 := Lib.hid hr1
    clear hr1
    clear hb1
    go_wp2_with fail
    refine (HIO.out _ _ R0.out).mono ?_
    rintro e W5 ⟨v1, rfl, hb1, A2, c2, rfl, hr1⟩
    replace HB := Lib.hid (HB.out.ext hb1)
    replace RX := Lib.hid (RX.out.ext hb1)
    replace hbw := Below.trans hbw (Below.mono hb1 hbw.size)
    have RY := Lib.hid hr1
    clear hr1
    clear hb1
    clear R0 HPK HRL HRO HIL HIO H1 H2
    go_wp2_with fail
    refine (HPZ.out _ _ _ RX.out RY.out).mono ?_
    rintro e W6 ⟨v1, rfl, hb1, s3, A3, c3, n3, B3, k3, m3, rfl, hr1⟩
    replace HB := Lib.hid (HB.out.ext hb1)
    replace RX := Lib.hid (RX.out.ext hb1)
    replace RY := Lib.hid (RY.out.ext hb1)
    replace hbw := Below.trans hbw (Below.mono hb1 hbw.size)
    have R3 := Lib.hid hr1
    clear hr1
    clear hb1
    go_upto_region 5 with (fail)
    have z_H11 := hbw.size
    replace HB := Lib.hid (HB.out.alloc (.cells #[.bool s3, .slice A3 n3 c3, .slice B3 m3 k3] 34))
    replace RX := Lib.hid (RX.out.alloc (.cells #[.bool s3, .slice A3 n3 c3, .slice B3 m3 k3] 34))
    replace RY := Lib.hid (RY.out.alloc (.cells #[.bool s3, .slice A3 n3 c3, .slice B3 m3 k3] 34))
    replace R3 := Lib.hid (R3.out.alloc (.cells #[.bool s3, .slice A3 n3 c3, .slice B3 m3 k3] 34))
    replace hbw := Below.alloc hbw hbw.size (.cells #[.bool s3, .slice A3 n3 c3, .slice B3 m3 k3] 34)
    have H11 := Lib.hid (Own.new' W6 34 [.bool s3, .slice A3 n3 c3, .slice B3 m3 k3] W6.heap.size rfl)
    obtain ⟨bH11, e_H11⟩ : ∃ b, W6.heap.size = b := ⟨_, rfl⟩
    simp only [e_H11] at H11 z_H11 ⊢
    generalize (W6.alloc (.cells #[.bool s3, .slice A3 n3 c3, .slice B3 m3 k3] 34)) = W7 at HB RX RY R3 H11 hbw ⊢
    go_wp2_with fail
    refine (HDZ.out _ _ RY.out).mono ?_
    rintro e W8 ⟨v1, rfl, hb1, s4, A4, c4, n4, B4, k4, m4, rfl, hr1⟩
    replace HB := Lib.hid (HB.out.ext hb1)
    replace RX := Lib.hid (RX.out.ext hb1)
    replace RY := Lib.hid (RY.out.ext hb1)
    replace R3 := Lib.hid (R3.out.ext hb1)
    replace H11 := Lib.hid (H11.out.ext hb1)
    replace hbw := Below.trans hbw (Below.mono hb1 hbw.size)
    have R4 := Lib.hid hr1
    clear hr1
    clear hb1
    go_upto_region 7 with (fail)
    have z_H14 := hbw.size
    have z_H14_H11 := H11.out.lt
    replace HB := Lib.hid (HB.out.alloc (.cells #[.bool s4, .slice A4 n4 c4, .slice B4 m4 k4] 34))
    replace RX := Lib.hid (RX.out.alloc (.cells #[.bool s4, .slice A4 n4 c4, .slice B4 m4 k4] 34))
    replace RY := Lib.hid (RY.out.alloc (.cells #[.bool s4, .slice A4 n4 c4, .slice B4 m4 k4] 34))
    replace R3 := Lib.hid (R3.out.alloc (.cells #[.bool s4, .slice A4 n4 c4, .slice B4 m4 k4] 34))
    replace H11 := Lib.hid (H11.out.alloc (.cells #[.bool s4, .slice A4 n4 c4, .slice B4 m4 k4] 34))
    replace R4 := Lib.hid (R4.out.alloc (.cells #[.bool s4, .slice A4 n4 c4, .slice B4 m4 k4] 34))
    replace hbw := Below.alloc hbw hbw.size (.cells #[.bool s4, .slice A4 n4 c4, .slice B4 m4 k4] 34)
    have H14 := Lib.hid (Own.new' W8 34 [.bool s4, .slice A4 n4 c4, .slice B4 m4 k4] W8.heap.size rfl)
    obtain ⟨bH14, e_H14⟩ : ∃ b, W8.heap.size = b := ⟨_, rfl⟩
    simp only [e_H14] at H14 z_H14 z_H14_H11 ⊢
    generalize (W8.alloc (.cells #[.bool s4, .slice A4 n4 c4, .slice B4 m4 k4] 34)) = W9 at HB RX RY R3 H11 R4 H14 hbw ⊢
    go_wp2_with fail
    refine (HKN.out _).mono ?_
    rintro e W10 ⟨v1, rfl, hb1, rfl⟩
    replace HB := Lib.hid (HB.out.ext hb1)
    replace RX := Lib.hid (RX.out.ext hb1)
    replace RY := Lib.hid (RY.out.ext hb1)
    replace R3 := Lib.hid (R3.out.ext hb1)
    replace H11 := Lib.hid (H11.out.ext hb1)
    replace R4 := Lib.hid (R4.out.ext hb1)
    replace H14 := Lib.hid (H14.out.ext hb1)
    replace hbw := Below.trans hbw (Below.mono hb1 hbw.size)
    clear hb1
    have x_H14_0 := H14.out.cell 0 _ rfl
    have f_H14_0 := H14.out.frozen 0
    have x_H14_1 := H14.out.cell 1 _ rfl
    have f_H14_1 := H14.out.frozen 1
    have x_H14_2 := H14.out.cell 2 _ rfl
    have f_H14_2 := H14.out.frozen 2
    go_wp2_with fail
    clear x_H14_0 f_H14_0 x_H14_1 f_H14_1 x_H14_2 f_H14_2
    refine (HSZ.out _ _ R4.out).mono ?_
    rintro e W11 ⟨v1, rfl, hb1, rfl⟩
    replace HB := Lib.hid (HB.out.ext hb1)
    replace RX := Lib.hid (RX.out.ext hb1)
    replace RY := Lib.hid (RY.out.ext hb1)
    replace R3 := Lib.hid (R3.out.ext hb1)
    replace H11 := Lib.hid (H11.out.ext hb1)
    replace R4 := Lib.hid (R4.out.ext hb1)
    replace H14 := Lib.hid (H14.out.ext hb1)
    replace hbw := Below.trans hbw (Below.mono hb1 hbw.size)
    clear hb1
    go_wp2_with fail
    go_ret
    exact ⟨_, rfl, hbw, rfl⟩
  · obtain ⟨P, eP⟩ : ∃ P, dot X Y / dot Y Y = P := ⟨_, rfl⟩
    obtain ⟨R, eR⟩ : ∃ R, less X Y P = R := ⟨_, rfl⟩
    obtain ⟨T, eT⟩ : ∃ T, rawQ k = T := ⟨_, rfl⟩
    obtain ⟨F, eF⟩ : ∃ F, less X Y T = F := ⟨_, rfl⟩
    have hRl : R.length = N := by rw [← eR, less_length]; exact hXl
    have hFl : F.length = N := by rw [← eF, less_length]; exact hXl
    have bXY := qb_dotTo X Y hxy X.length (Nat.le_refl _)
    have bYY := qb_dotTo Y Y rfl Y.length (Nat.le_refl _)
    have bP : qb P ≤ 300 := by
      rw [← eP]
      have h1 := qb_div (dot X Y) (dot Y Y)
      have h2 := wt_take_le X X.length
      have h3 := wt_take_le Y X.length
      have h4 := wt_take_le Y Y.length
      unfold dot at *
      omega
    have bT : qb T ≤ 8 := by rw [← eT]; exact qb_small (rawQ_small k)
    have wR : wt R ≤ 4000 := by
      rw [← eR]
      have := wt_less X Y P hXs hYs
      have h2 : (qb P + 18) * X.length ≤ 318 * 6 := Nat.mul_le_mul (by omega) (by omega)
      omega
    have wF : wt F ≤ 4000 := by
      rw [← eF]
      have := wt_less X Y T hXs hYs
      have h2 : (qb T + 18) * X.length ≤ 26 * 6 := Nat.mul_le_mul (by omega) (by omega)
      omega
    have hRY0 : dot R Y = 0 := by rw [← eR, ← eP]; exact up_zero X Y hxy hyy
    have hle : cmpQ (dot R R) (dot F F) ≤ 0 := by rw [cmpQ_le, ← eR, ← eF, ← eP]; exact up_le X Y T hxy hyy
    obtain ⟨RR, eRR⟩ : ∃ q, dot R R = q := ⟨_, rfl⟩
    obtain ⟨FF, eFF⟩ : ∃ q, dot F F = q := ⟨_, rfl⟩
    have bRR := qb_dotTo R R rfl R.length (Nat.le_refl _)
    have bFF := qb_dotTo F F rfl F.length (Nat.le_refl _)
    have bRR2 : qb RR ≤ 9000 := by rw [← eRR]; have h2 := wt_take_le R R.length; unfold dot; omega
    have bFF2 : qb FF ≤ 9000 := by rw [← eFF]; have h2 := wt_take_le F F.length; unfold dot; omega
    rw [eRR, eFF] at hle
    obtain ⟨cq, ecq⟩ : ∃ c, cmpQ RR FF = c := ⟨_, rfl⟩
    rw [ecq] at hle
    have HPS := Lib.hid (fun W v u h h' => (HPT W v u h h').mono (fun _ _ h => h.map (fun _ _ h => part_some hXl hxy hx0 hyy h)))
    rw [eP, eR] at HPS
    have HDR := Lib.hid (fun W v u h h' => (dot_c W v u R Y h h' (by omega) (by omega) (by omega)).mono (fun _ _ h => h.map (fun _ _ h => dot_open (hRl.trans hYl.symm) hRY0 h)))
    have HRR := Lib.hid (fun W v h => (dot_c W v v R R h h (by omega) (by omega) (by omega)).mono (fun _ _ h => h.map (fun _ _ h => dot_open rfl eRR h)))
    have HFF := Lib.hid (fun W v h => (dot_c W v v F F h h (by omega) (by omega) (by omega)).mono (fun _ _ h => h.map (fun _ _ h => dot_open rfl eFF h)))
    have HSZ := Lib.hid (fun W v h => qsign_c W v 0 h (by show Fit 0; unfold Fit; rw [bl_zero]; omega))
    rw [show (0 : Rat).num.sign = 0 from rfl] at HSZ
    have HCF := Lib.hid (fun W v u h h' => qcmp_c W v u RR FF h h' (by omega))
    rw [ecq] at HCF
    have HQK := Lib.hid (fun W => hq_c W k hk)
    rw [eT] at HQK
    have HF := Lib.hid (show ∀ j, j < N → ∃ x y r f, X[j]? = some x ∧ Y[j]? = some y ∧ R[j]? = some r ∧ F[j]? = some f ∧ x - T * y = f ∧ r + P * y = x ∧ qb x ≤ 8 ∧ qb y ≤ 8 ∧ qb r ≤ 4000 from fun j hj => by
      have h1 : j < X.length := by omega
      have h2 : j < Y.length := by omega
      have h3 : j < R.length := by omega
      have h4 : j < F.length := by omega
      have g1 := less_at X Y T j h1
      have g2 := less_at X Y P j h1
      rw [eF] at g1
      rw [eR] at g2
      rw [List.getD_eq_getElem?_getD, List.getD_eq_getElem?_getD, List.getD_eq_getElem?_getD, List.getElem?_eq_getElem h4, List.getElem?_eq_getElem h1, List.getElem?_eq_getElem h2] at g1
      rw [List.getD_eq_getElem?_getD, List.getD_eq_getElem?_getD, List.getD_eq_getElem?_getD, List.getElem?_eq_getElem h3, List.getElem?_eq_getElem h1, List.getElem?_eq_getElem h2] at g2
      simp only [Option.getD_some] at g1 g2
      refine ⟨X[j], Y[j], R[j], F[j], List.getElem?_eq_getElem h1, List.getElem?_eq_getElem h2, List.getElem?_eq_getElem h3, List.getElem?_eq_getElem h4, g1.symm, by rw [g2]; grind, qb_small (hXs _ (List.getElem_mem h1)), qb_small (hYs _ (List.getElem_mem h2)), ?_⟩
      have := wt_at R j h3
      omega)
    have HM1 := Lib.hid (fun W v u (y : Rat) (hy : qb y ≤ 8) (h : rQ W v T) (h' : rQ W u y) => qmul_c W v u T y h h' (by omega))
    have HM2 := Lib.hid (fun W v u (y : Rat) (hy : qb y ≤ 8) (h : rQ W v P) (h' : rQ W u y) => qmul_c W v u P y h h' (by omega))
    have HSB := Lib.hid (fun W v u (x y : Rat) (hx : qb x ≤ 8) (hy : qb y ≤ 8) (h : rQ W v x) (h' : rQ W u (T * y)) => qsub_c W v u x (T * y) h h' (by have := qb_mul T y; omega))
    have HAD := Lib.hid (fun W v u (r y : Rat) (hr : qb r ≤ 4000) (hy : qb y ≤ 8) (h : rQ W v r) (h' : rQ W u (P * y)) => qadd_c W v u r (P * y) h h' (by have := qb_mul P y; omega))
    have HCM := Lib.hid (fun W v u (x : Rat) (hx : qb x ≤ 8) (h : rQ W v x) (h' : rQ W u x) => (show Calls Try.prog 15 #[v, u] W (Post W fun r _ => r = .int .i64 0) from by
      have := qcmp_c W v u x x h h' (by omega)
      rw [(cmpQ_eq x x).2 rfl] at this
      exact this))
    have HLN := Lib.hid (And.intro hXl (And.intro hYl (And.intro hRl hFl)))
    clear hl ho hn hk ep p1 p2 eN hN eX eY hXl hYl hXs hYs wX wY HPT HDY hxy hx0 hyy eP eR eT eF hRl hFl bXY bYY bP bT wR wF hRY0 eRR eFF bRR bFF bRR2 bFF2 ecq
    have HB : Hid (Cells [] w) := Lib.hid (Cells.nil _)
    have hbw : Below w.heap.size w w := Below.refl _ _
    go_enter Try.func3, Try.ntmps3
    go_wp2_with fail
    refine (HPK.out _).mono ?_
    rintro e W1 ⟨v1, rfl, hb1, rfl⟩
    replace HB := Lib.hid (HB.out.ext hb1)
    replace hbw := Below.trans hbw (Below.mono hb1 hbw.size)
    clear hb1
    go_wp2_with fail
    refine (HRL.out _ (H1.out.ext hbw)).mono ?_
    rintro e W2 ⟨v1, rfl, hb1, hr1⟩
    replace HB := Lib.hid (HB.out.ext hb1)
    replace hbw := Below.trans hbw (Below.mono hb1 hbw.size)
    have R0 := Lib.hid hr1
    clear hr1
    clear hb1
    go_wp2_with fail
    refine (HIL.out _ _ R0.out).mono ?_
    rintro e W3 ⟨v1, rfl, hb1, A1, c1, rfl, hr1⟩
    replace HB := Lib.hid (HB.out.ext hb1)
    replace hbw := Below.trans hbw (Below.mono hb1 hbw.size)
    have RX := Lib.hid hr1
    clear hr1
    clear hb1
    clear R0
    go_wp2_with fail
    refine (HRO.out _ (H2.out.ext hbw)).mono ?_
    rintro e W4 ⟨v1, rfl, hb1, hr1⟩
    replace HB := Lib.hid (HB.out.ext hb1)
    replace RX := Lib.hid (RX.out.ext hb1)
    replace hbw := Below.trans hbw (Below.mono hb1 hbw.size)
    have R0 := Lib.hid hr1
    clear hr1
    clear hb1
    go_wp2_with fail
    refine (HIO.out _ _ R0.out).mono ?_
    rintro e W5 ⟨v1, rfl, hb1, A2, c2, rfl, hr1⟩
    replace HB := Lib.hid (HB.out.ext hb1)
    replace RX := Lib.hid (RX.out.ext hb1)
    replace hbw := Below.trans hbw (Below.mono hb1 hbw.size)
    have RY := Lib.hid hr1
    clear hr1
    clear hb1
    clear R0 HPK HRL HRO HIL HIO H1 H2
    go_wp2_with fail
    refine (HPS.out _ _ _ RX.out RY.out).mono ?_
    rintro e W6 ⟨v1, rfl, hb1, ⟨s3, A3, c3, n3, B3, k3, m3, D3, e3, rfl, hr3, hr4⟩⟩
    replace HB := Lib.hid (HB.out.ext hb1)
    replace RX := Lib.hid (RX.out.ext hb1)
    replace RY := Lib.hid (RY.out.ext hb1)
    replace hbw := Below.trans hbw (Below.mono hb1 hbw.size)
    have R3 := Lib.hid hr3
    have RR3 := Lib.hid hr4
    clear hr3 hr4
    clear hb1
    go_upto_region 5 with (fail)
    have z_H11 := hbw.size
    replace HB := Lib.hid (HB.out.alloc (.cells #[.bool s3, .slice A3 n3 c3, .slice B3 m3 k3] 34))
    replace RX := Lib.hid (RX.out.alloc (.cells #[.bool s3, .slice A3 n3 c3, .slice B3 m3 k3] 34))
    replace RY := Lib.hid (RY.out.alloc (.cells #[.bool s3, .slice A3 n3 c3, .slice B3 m3 k3] 34))
    replace R3 := Lib.hid (R3.out.alloc (.cells #[.bool s3, .slice A3 n3 c3, .slice B3 m3 k3] 34))
    replace RR3 := Lib.hid (RR3.out.alloc (.cells #[.bool s3, .slice A3 n3 c3, .slice B3 m3 k3] 34))
    replace hbw := Below.alloc hbw hbw.size (.cells #[.bool s3, .slice A3 n3 c3, .slice B3 m3 k3] 34)
    have H11 := Lib.hid (Own.new' W6 34 [.bool s3, .slice A3 n3 c3, .slice B3 m3 k3] W6.heap.size rfl)
    obtain ⟨bH11, e_H11⟩ : ∃ b, W6.heap.size = b := ⟨_, rfl⟩
    simp only [e_H11] at H11 z_H11 ⊢
    generalize (W6.alloc (.cells #[.bool s3, .slice A3 n3 c3, .slice B3 m3 k3] 34)) = W7 at HB RX RY R3 RR3 H11 hbw ⊢
    go_wp2_with fail
    refine (HDR.out _ _ _ RR3.out RY.out).mono ?_
    rintro e W8 ⟨v1, rfl, hb1, s4, A4, c4, n4, B4, k4, m4, rfl, hr1⟩
    replace HB := Lib.hid (HB.out.ext hb1)
    replace RX := Lib.hid (RX.out.ext hb1)
    replace RY := Lib.hid (RY.out.ext hb1)
    replace R3 := Lib.hid (R3.out.ext hb1)
    replace RR3 := Lib.hid (RR3.out.ext hb1)
    replace H11 := Lib.hid (H11.out.ext hb1)
    replace hbw := Below.trans hbw (Below.mono hb1 hbw.size)
    have R4 := Lib.hid hr1
    clear hr1
    clear hb1
    go_upto_region 11 with (fail)
    have z_H16 := hbw.size
    have z_H16_H11 := H11.out.lt
    replace HB := Lib.hid (HB.out.alloc (.cells #[.bool s4, .slice A4 n4 c4, .slice B4 m4 k4] 34))
    replace RX := Lib.hid (RX.out.alloc (.cells #[.bool s4, .slice A4 n4 c4, .slice B4 m4 k4] 34))
    replace RY := Lib.hid (RY.out.alloc (.cells #[.bool s4, .slice A4 n4 c4, .slice B4 m4 k4] 34))
    replace R3 := Lib.hid (R3.out.alloc (.cells #[.bool s4, .slice A4 n4 c4, .slice B4 m4 k4] 34))
    replace RR3 := Lib.hid (RR3.out.alloc (.cells #[.bool s4, .slice A4 n4 c4, .slice B4 m4 k4] 34))
    replace H11 := Lib.hid (H11.out.alloc (.cells #[.bool s4, .slice A4 n4 c4, .slice B4 m4 k4] 34))
    replace R4 := Lib.hid (R4.out.alloc (.cells #[.bool s4, .slice A4 n4 c4, .slice B4 m4 k4] 34))
    replace hbw := Below.alloc hbw hbw.size (.cells #[.bool s4, .slice A4 n4 c4, .slice B4 m4 k4] 34)
    have H16 := Lib.hid (Own.new' W8 34 [.bool s4, .slice A4 n4 c4, .slice B4 m4 k4] W8.heap.size rfl)
    obtain ⟨bH16, e_H16⟩ : ∃ b, W8.heap.size = b := ⟨_, rfl⟩
    simp only [e_H16] at H16 z_H16 z_H16_H11 ⊢
    generalize (W8.alloc (.cells #[.bool s4, .slice A4 n4 c4, .slice B4 m4 k4] 34)) = W9 at HB RX RY R3 RR3 H11 R4 H16 hbw ⊢
    go_wp2_with fail
    refine (HQK.out _).mono ?_
    rintro e W10 ⟨v1, rfl, hb1, hr1⟩
    obtain ⟨Us, UA, Uc, Un, UB, Ud, Um, rfl, hr1⟩ := hr1.shape
    replace HB := Lib.hid (HB.out.ext hb1)
    replace RX := Lib.hid (RX.out.ext hb1)
    replace RY := Lib.hid (RY.out.ext hb1)
    replace R3 := Lib.hid (R3.out.ext hb1)
    replace RR3 := Lib.hid (RR3.out.ext hb1)
    replace H11 := Lib.hid (H11.out.ext hb1)
    replace R4 := Lib.hid (R4.out.ext hb1)
    replace H16 := Lib.hid (H16.out.ext hb1)
    replace hbw := Below.trans hbw (Below.mono hb1 hbw.size)
    have R5 := Lib.hid hr1
    clear hr1
    clear hb1
    go_upto_region 13 with (fail)
    have z_H19 := hbw.size
    have z_H19_H11 := H11.out.lt
    have z_H19_H16 := H16.out.lt
    replace HB := Lib.hid (HB.out.alloc (.cells #[.bool Us, .slice UA Un Uc, .slice UB Um Ud] 34))
    replace RX := Lib.hid (RX.out.alloc (.cells #[.bool Us, .slice UA Un Uc, .slice UB Um Ud] 34))
    replace RY := Lib.hid (RY.out.alloc (.cells #[.bool Us, .slice UA Un Uc, .slice UB Um Ud] 34))
    replace R3 := Lib.hid (R3.out.alloc (.cells #[.bool Us, .slice UA Un Uc, .slice UB Um Ud] 34))
    replace RR3 := Lib.hid (RR3.out.alloc (.cells #[.bool Us, .slice UA Un Uc, .slice UB Um Ud] 34))
    replace H11 := Lib.hid (H11.out.alloc (.cells #[.bool Us, .slice UA Un Uc, .slice UB Um Ud] 34))
    replace R4 := Lib.hid (R4.out.alloc (.cells #[.bool Us, .slice UA Un Uc, .slice UB Um Ud] 34))
    replace H16 := Lib.hid (H16.out.alloc (.cells #[.bool Us, .slice UA Un Uc, .slice UB Um Ud] 34))
    replace R5 := Lib.hid (R5.out.alloc (.cells #[.bool Us, .slice UA Un Uc, .slice UB Um Ud] 34))
    replace hbw := Below.alloc hbw hbw.size (.cells #[.bool Us, .slice UA Un Uc, .slice UB Um Ud] 34)
    have H19 := Lib.hid (Own.new' W10 34 [.bool Us, .slice UA Un Uc, .slice UB Um Ud] W10.heap.size rfl)
    obtain ⟨bH19, e_H19⟩ : ∃ b, W10.heap.size = b := ⟨_, rfl⟩
    simp only [e_H19] at H19 z_H19 z_H19_H11 z_H19_H16 ⊢
    generalize (W10.alloc (.cells #[.bool Us, .slice UA Un Uc, .slice UB Um Ud] 34)) = W11 at HB RX RY R3 RR3 H11 R4 H16 R5 H19 hbw ⊢
    go_wp2_with fail
    go_loopw [18, 20] (fun t18 t20 W => ∃ j : Nat, t20 = .int .i64 (j : Nat) ∧ j ≤ N ∧ AppQ W W11.heap.size t18 (F.take j) ∧ After W11 W) (fun _ t _ => (N - (intOf t).toNat))
    case atStart => exact ⟨0, rfl, Nat.zero_le _, AppL.nil _ _, Below.refl _ _⟩
    case round =>
      obtain ⟨j, rfl, hj, happ, haft⟩ := hrel
      have HAP := Lib.hid happ
      have HE := Lib.hid haft
      have HBS := Lib.hid hbw
      clear happ haft HB
      rcases Nat.lt_or_ge j N with hjn | hjn
      · have hji : (j : Int) < (N : Int) := by omega
        have hwj : IntKind.i64.wrap ((j : Int) + 1) = ((j + 1 : Nat) : Int) := i64w (by omega) (by have := HNN.out; omega)
        have HJN := Lib.hid hjn
        obtain ⟨x, y, r, f, gx, gy, gr, gf, e1, e2, b1, b2, b3⟩ := HF.out j hjn
        obtain ⟨g, o, sx, Ax, cx, nx, Bx, kx, mx, rfl, xa, xb, xc, xr⟩ := RX.out.atO gx
        obtain ⟨g', o', sy, Ay, cy, ny, By, ky, my, rfl, ya, yb, yc, yr⟩ := RY.out.atO gy
        obtain ⟨g'', o'', sr, Ar, cr, nr, Br, kr, mr, rfl, ra, rb, rc, rr⟩ := RR3.out.atO gr
        have HTK := Lib.hid (show F.take (j + 1) = F.take j ++ [f] by
          obtain ⟨h1, h2⟩ := List.getElem?_eq_some_iff.1 gf
          rw [List.take_succ_eq_append_getElem h1, h2])
        have HTL := Lib.hid (show (F.take j).length + 1 ≤ 1099511627776 by have := HNN.out; rw [List.length_take]; omega)
        have HC1 := Lib.hid (Cells.cons xa (Cells.cons xb (Cells.cons xc (Cells.cons (H19.out.cell 0 _ rfl) (Cells.cons (H19.out.cell 1 _ rfl) (Cells.cons (H19.out.cell 2 _ rfl) (Cells.cons ya (Cells.cons yb (Cells.cons yc (Cells.nil _))))))))))
        have HC2 := Lib.hid (Cells.cons xa (Cells.cons xb (Cells.cons xc (Cells.cons ra (Cells.cons rb (Cells.cons rc (Cells.cons (H11.out.cell 0 _ rfl) (Cells.cons (H11.out.cell 1 _ rfl) (Cells.cons (H11.out.cell 2 _ rfl) (Cells.cons ya (Cells.cons yb (Cells.cons yc (Cells.nil _)))))))))))))
        have QX0 := Lib.hid xr
        have QY0 := Lib.hid yr
        have QR0 := Lib.hid rr
        have QX := Lib.hid (xr.ext HE.out)
        have QY := Lib.hid (yr.ext HE.out)
        have QR := Lib.hid (rr.ext HE.out)
        have QP := Lib.hid (R3.out.ext HE.out)
        have QT := Lib.hid (R5.out.ext HE.out)
        have HE1 := Lib.hid e1
        have HE2 := Lib.hid e2
        have HMA := Lib.hid (fun W v u h h' => HM1.out W v u y b2 h h')
        have HMB := Lib.hid (fun W v u h h' => HM2.out W v u y b2 h h')
        have HSS := Lib.hid (fun W v u h h' => HSB.out W v u x y b1 b2 h h')
        have HAA := Lib.hid (fun W v u h h' => HAD.out W v u r y b3 b2 h h')
        rw [e1] at HSS
        rw [e2] at HAA
        have HCC := Lib.hid (fun W v u h h' => HCM.out W v u x b1 h h')
        have hbw := Below.trans hbw (Below.mono HE.out HBS.out.size)
        clear xa xb xc ya yb yc ra rb rc xr yr rr gx gy gr gf e1 e2 b1 b2 b3 hjn hj HF HM1 HM2 HSB HAD HCM
        go_wp2_with fail
        have HB : Hid (Cells [(g, o + j * 3, .bool sx), (g, o + j * 3 + 1, .slice Ax nx cx), (g, o + j * 3 + 2, .slice Bx mx kx), (bH19, 0, .bool Us), (bH19, 1, .slice UA Un Uc), (bH19, 2, .slice UB Um Ud), (g', o' + j * 3, .bool sy), (g', o' + j * 3 + 1, .slice Ay ny cy), (g', o' + j * 3 + 2, .slice By my ky)] wr) := Lib.hid (HC1.out.ext HE.out)
        replace HB := Lib.hid (HB.out.drew)
        replace HAP := Lib.hid (HAP.out.drew)
        replace HE := Lib.hid (HE.out.drew)
        replace QX := Lib.hid (QX.out.drew)
        replace QY := Lib.hid (QY.out.drew)
        replace QR := Lib.hid (QR.out.drew)
        replace QP := Lib.hid (QP.out.drew)
        replace QT := Lib.hid (QT.out.drew)
        replace hbw := Below.drew hbw
        refine wp_hoist [(0, true), (1, true), (2, true), (3, true), (4, true), (5, true), (6, true), (7, true), (8, true), (9, true), (10, false), (11, false), (12, false), (13, false), (14, false)] (Cells [(g, o + j * 3, .bool sx), (g, o + j * 3 + 1, .slice Ax nx cx), (g, o + j * 3 + 2, .slice Bx mx kx), (bH19, 0, .bool Us), (bH19, 1, .slice UA Un Uc), (bH19, 2, .slice UB Um Ud), (g', o' + j * 3, .bool sy), (g', o' + j * 3 + 1, .slice Ay ny cy), (g', o' + j * 3 + 2, .slice By my ky)]) (by kernel_rfl) (by kernel_rfl) ?_ ?_
        · exact HB.out
        generalize wr.drew = W21 at HB HAP HE QX QY QR QP QT hbw ⊢
        refine hz_yes (v := ?_) rfl (by kernel_rfl) (fun W hW => ?_) ?_; rotate_left; (go_simp; try with_reducible rfl)
        (try (conv => arg 6; simp only [Act.put, gL1, gL2, gL3, gL4, gL5, gL6]))
        refine hz_yes (v := ?_) rfl (by kernel_rfl) (fun W hW => ?_) ?_; rotate_left; (go_simp; try with_reducible rfl)
        (try (conv => arg 6; simp only [Act.put, gL1, gL2, gL3, gL4, gL5, gL6]))
        refine hz_yes (v := ?_) rfl (by kernel_rfl) (fun W hW => ?_) ?_; rotate_left; (go_simp; try with_reducible rfl)
        (try (conv => arg 6; simp only [Act.put, gL1, gL2, gL3, gL4, gL5, gL6]))
        refine hz_yes (v := ?_) rfl (by kernel_rfl) (fun W hW => ?_) ?_; rotate_left; (go_simp; try with_reducible rfl)
        (try (conv => arg 6; simp only [Act.put, gL1, gL2, gL3, gL4, gL5, gL6]))
        refine hz_yes (v := ?_) rfl (by kernel_rfl) (fun W hW => ?_) ?_; rotate_left; (obtain ⟨y0, y1, y2, y3, y4, y5, y6, y7, y8, _⟩ := hW; go_simp; try with_reducible rfl)
        (try (conv => arg 6; simp only [Act.put, gL1, gL2, gL3, gL4, gL5, gL6]))
        refine hz_yes (v := ?_) rfl (by kernel_rfl) (fun W hW => ?_) ?_; rotate_left; (obtain ⟨y0, y1, y2, y3, y4, y5, y6, y7, y8, _⟩ := hW; go_simp; try with_reducible rfl)
        (try (conv => arg 6; simp only [Act.put, gL1, gL2, gL3, gL4, gL5, gL6]))
        refine hz_yes (v := ?_) rfl (by kernel_rfl) (fun W hW => ?_) ?_; rotate_left; (go_simp; try with_reducible rfl)
        (try (conv => arg 6; simp only [Act.put, gL1, gL2, gL3, gL4, gL5, gL6]))
        refine hz_yes (v := ?_) rfl (by kernel_rfl) (fun W hW => ?_) ?_; rotate_left; (go_simp; try with_reducible rfl)
        (try (conv => arg 6; simp only [Act.put, gL1, gL2, gL3, gL4, gL5, gL6]))
        refine hz_yes (v := ?_) rfl (by kernel_rfl) (fun W hW => ?_) ?_; rotate_left; (go_simp; try with_reducible rfl)
        (try (conv => arg 6; simp only [Act.put, gL1, gL2, gL3, gL4, gL5, gL6]))
        refine hz_yes (v := ?_) rfl (by kernel_rfl) (fun W hW => ?_) ?_; rotate_left; (obtain ⟨y0, y1, y2, y3, y4, y5, y6, y7, y8, _⟩ := hW; go_simp; try with_reducible rfl)
        (try (conv => arg 6; simp only [Act.put, gL1, gL2, gL3, gL4, gL5, gL6]))
        refine hz_eff rfl (by kernel_rfl) (fun K hK => ?_)
        refine wp_call (HMA.out _ _ _ QT.out QY.out) (by kernel_rfl) ?_
        rintro v1 W22 hb1 hr1
        obtain ⟨Vs, VA, Vc, Vn, VB, Vd, Vm, rfl, hr1⟩ := hr1.shape
        refine hK.out _ _ ?_ ?_
        · exact HB.out.ext hb1
        clear hK K
        (try (conv => arg 6; simp only [Act.put, gL1, gL2, gL3, gL4, gL5, gL6]))
        replace HB := Lib.hid (HB.out.ext hb1)
        replace HAP := Lib.hid (HAP.out.ext hb1)
        replace HE := Lib.hid (HE.out.ext hb1)
        replace QX := Lib.hid (QX.out.ext hb1)
        replace QY := Lib.hid (QY.out.ext hb1)
        replace QR := Lib.hid (QR.out.ext hb1)
        replace QP := Lib.hid (QP.out.ext hb1)
        replace QT := Lib.hid (QT.out.ext hb1)
        replace hbw := Below.trans hbw (Below.mono hb1 hbw.size)
        have R6 := Lib.hid hr1
        clear hr1
        clear hb1
        refine hz_eff rfl (by kernel_rfl) (fun K hK => ?_)
        refine wp_call (HSS.out _ _ _ QX.out R6.out) (by kernel_rfl) ?_
        rintro v1 W23 hb1 hr1
        obtain ⟨Zs, ZA, Zc, Zn, ZB, Zd, Zm, rfl, hr1⟩ := hr1.shape
        refine hK.out _ _ ?_ ?_
        · exact HB.out.ext hb1
        clear hK K
        (try (conv => arg 6; simp only [Act.put, gL1, gL2, gL3, gL4, gL5, gL6]))
        replace HB := Lib.hid (HB.out.ext hb1)
        replace HAP := Lib.hid (HAP.out.ext hb1)
        replace HE := Lib.hid (HE.out.ext hb1)
        replace QX := Lib.hid (QX.out.ext hb1)
        replace QY := Lib.hid (QY.out.ext hb1)
        replace QR := Lib.hid (QR.out.ext hb1)
        replace QP := Lib.hid (QP.out.ext hb1)
        replace QT := Lib.hid (QT.out.ext hb1)
        replace R6 := Lib.hid (R6.out.ext hb1)
        replace hbw := Below.trans hbw (Below.mono hb1 hbw.size)
        have R7 := Lib.hid hr1
        clear hr1
        clear hb1
        refine hz_eff rfl (by kernel_rfl) (fun K hK => ?_)
        go_simp
        refine hK.out _ _ ?_ ?_
        · exact HB.out.alloc _
        clear hK K
        (try (conv => arg 6; simp only [Act.put, gL1, gL2, gL3, gL4, gL5, gL6]))
        have z_HN := hbw.size
        have z_HN_H19 := cell_lt HB.out.2.2.2.1
        replace HB := Lib.hid (HB.out.alloc (.cells #[.bool Zs, .slice ZA Zn Zc, .slice ZB Zm Zd] 34))
        replace HAP := Lib.hid (HAP.out.alloc (.cells #[.bool Zs, .slice ZA Zn Zc, .slice ZB Zm Zd] 34))
        replace HE := Lib.hid (HE.out.alloc (.cells #[.bool Zs, .slice ZA Zn Zc, .slice ZB Zm Zd] 34))
        replace QX := Lib.hid (QX.out.alloc (.cells #[.bool Zs, .slice ZA Zn Zc, .slice ZB Zm Zd] 34))
        replace QY := Lib.hid (QY.out.alloc (.cells #[.bool Zs, .slice ZA Zn Zc, .slice ZB Zm Zd] 34))
        replace QR := Lib.hid (QR.out.alloc (.cells #[.bool Zs, .slice ZA Zn Zc, .slice ZB Zm Zd] 34))
        replace QP := Lib.hid (QP.out.alloc (.cells #[.bool Zs, .slice ZA Zn Zc, .slice ZB Zm Zd] 34))
        replace QT := Lib.hid (QT.out.alloc (.cells #[.bool Zs, .slice ZA Zn Zc, .slice ZB Zm Zd] 34))
        replace R6 := Lib.hid (R6.out.alloc (.cells #[.bool Zs, .slice ZA Zn Zc, .slice ZB Zm Zd] 34))
        replace R7 := Lib.hid (R7.out.alloc (.cells #[.bool Zs, .slice ZA Zn Zc, .slice ZB Zm Zd] 34))
        replace hbw := Below.alloc hbw hbw.size (.cells #[.bool Zs, .slice ZA Zn Zc, .slice ZB Zm Zd] 34)
        have HN := Lib.hid (Own.new' W23 34 [.bool Zs, .slice ZA Zn Zc, .slice ZB Zm Zd] W23.heap.size rfl)
        obtain ⟨bHN, e_HN⟩ : ∃ b, W23.heap.size = b := ⟨_, rfl⟩
        simp only [e_HN] at HN z_HN z_HN_H19 ⊢
        generalize (W23.alloc (.cells #[.bool Zs, .slice ZA Zn Zc, .slice ZB Zm Zd] 34)) = W24 at HB HAP HE QX QY QR QP QT R6 R7 HN hbw ⊢
        refine hz_eff rfl (by kernel_rfl) (fun K hK => ?_)
        refine wp_push (rel := rQ) rQk _ _ 24 rfl undQs pushQ_info W11.heap.size _ _ rfl HAP.out bHN 1 rfl HN.out _ R7.out HTL.out HE.out.size ?_
        intro v' W50 happ' hkeep hbe'
        have hE5 : Ext W11 W50 := Below.trans HE.out hbe'
        have HAP5 := Lib.hid happ'
        refine hK.out _ _ ?_ ?_
        · exact HC1.out.ext hE5
        clear hK K
        (try (conv => arg 6; simp only [Act.put, gL1, gL2, gL3, gL4, gL5, gL6]))
        clear HB HAP HE QX QY QR QP QT R6 R7 HN hbw hkeep hbe' happ'
        have HB := Lib.hid (HC1.out.ext hE5)
        refine hz_eff rfl (by kernel_rfl) (fun K hK => ?_)
        go_simp
        refine hK.out _ _ ?_ ?_
        · exact HB.out
        clear hK K
        (try (conv => arg 6; simp only [Act.put, gL1, gL2, gL3, gL4, gL5, gL6]))
        refine hz_nil ?_
        go_wp2_with fail
        clear HB
        have HB : Hid (Cells [(g, o + j * 3, .bool sx), (g, o + j * 3 + 1, .slice Ax nx cx), (g, o + j * 3 + 2, .slice Bx mx kx), (g'', o'' + j * 3, .bool sr), (g'', o'' + j * 3 + 1, .slice Ar nr cr), (g'', o'' + j * 3 + 2, .slice Br mr kr), (bH11, 0, .bool s3), (bH11, 1, .slice A3 n3 c3), (bH11, 2, .slice B3 m3 k3), (g', o' + j * 3, .bool sy), (g', o' + j * 3 + 1, .slice Ay ny cy), (g', o' + j * 3 + 2, .slice By my ky)] W50) := Lib.hid (HC2.out.ext hE5)
        have HAP := Lib.hid (show AppQ W50 _ _ _ from HAP5.out)
        have HE := Lib.hid (show After W11 W50 from hE5)
        have QX := Lib.hid (QX0.out.ext hE5)
        have QY := Lib.hid (QY0.out.ext hE5)
        have QR := Lib.hid (QR0.out.ext hE5)
        have QP := Lib.hid (R3.out.ext hE5)
        have hbw := Below.trans HBS.out (Below.mono hE5 HBS.out.size)
        replace HB := Lib.hid (HB.out.drew)
        replace HAP := Lib.hid (HAP.out.drew)
        replace HE := Lib.hid (HE.out.drew)
        replace QX := Lib.hid (QX.out.drew)
        replace QY := Lib.hid (QY.out.drew)
        replace QR := Lib.hid (QR.out.drew)
        replace QP := Lib.hid (QP.out.drew)
        replace hbw := Below.drew hbw
        refine wp_hoist [(0, true), (1, true), (2, true), (3, true), (4, true), (5, true), (6, true), (7, true), (8, true), (9, true), (10, true), (11, true), (12, true), (13, false), (14, false), (15, false), (16, true)] (Cells [(g, o + j * 3, .bool sx), (g, o + j * 3 + 1, .slice Ax nx cx), (g, o + j * 3 + 2, .slice Bx mx kx), (g'', o'' + j * 3, .bool sr), (g'', o'' + j * 3 + 1, .slice Ar nr cr), (g'', o'' + j * 3 + 2, .slice Br mr kr), (bH11, 0, .bool s3), (bH11, 1, .slice A3 n3 c3), (bH11, 2, .slice B3 m3 k3), (g', o' + j * 3, .bool sy), (g', o' + j * 3 + 1, .slice Ay ny cy), (g', o' + j * 3 + 2, .slice By my ky)]) (by kernel_rfl) (by kernel_rfl) ?_ ?_
        · exact HB.out
        generalize W50.drew = W21 at HB HAP HE QX QY QR QP hbw ⊢
        refine hz_yes (v := ?_) rfl (by kernel_rfl) (fun W hW => ?_) ?_; rotate_left; (go_simp; try with_reducible rfl)
        (try (conv => arg 6; simp only [Act.put, gL1, gL2, gL3, gL4, gL5, gL6]))
        refine hz_yes (v := ?_) rfl (by kernel_rfl) (fun W hW => ?_) ?_; rotate_left; (go_simp; try with_reducible rfl)
        (try (conv => arg 6; simp only [Act.put, gL1, gL2, gL3, gL4, gL5, gL6]))
        refine hz_yes (v := ?_) rfl (by kernel_rfl) (fun W hW => ?_) ?_; rotate_left; (go_simp; try with_reducible rfl)
        (try (conv => arg 6; simp only [Act.put, gL1, gL2, gL3, gL4, gL5, gL6]))
        refine hz_yes (v := ?_) rfl (by kernel_rfl) (fun W hW => ?_) ?_; rotate_left; (obtain ⟨y0, y1, y2, y3, y4, y5, y6, y7, y8, y9, y10, y11, _⟩ := hW; go_simp; try with_reducible rfl)
        (try (conv => arg 6; simp only [Act.put, gL1, gL2, gL3, gL4, gL5, gL6]))
        refine hz_yes (v := ?_) rfl (by kernel_rfl) (fun W hW => ?_) ?_; rotate_left; (go_simp; try with_reducible rfl)
        (try (conv => arg 6; simp only [Act.put, gL1, gL2, gL3, gL4, gL5, gL6]))
        refine hz_yes (v := ?_) rfl (by kernel_rfl) (fun W hW => ?_) ?_; rotate_left; (go_simp; try with_reducible rfl)
        (try (conv => arg 6; simp only [Act.put, gL1, gL2, gL3, gL4, gL5, gL6]))
        refine hz_yes (v := ?_) rfl (by kernel_rfl) (fun W hW => ?_) ?_; rotate_left; (go_simp; try with_reducible rfl)
        (try (conv => arg 6; simp only [Act.put, gL1, gL2, gL3, gL4, gL5, gL6]))
        refine hz_yes (v := ?_) rfl (by kernel_rfl) (fun W hW => ?_) ?_; rotate_left; (obtain ⟨y0, y1, y2, y3, y4, y5, y6, y7, y8, y9, y10, y11, _⟩ := hW; go_simp; try with_reducible rfl)
        (try (conv => arg 6; simp only [Act.put, gL1, gL2, gL3, gL4, gL5, gL6]))
        refine hz_yes (v := ?_) rfl (by kernel_rfl) (fun W hW => ?_) ?_; rotate_left; (obtain ⟨y0, y1, y2, y3, y4, y5, y6, y7, y8, y9, y10, y11, _⟩ := hW; go_simp; try with_reducible rfl)
        (try (conv => arg 6; simp only [Act.put, gL1, gL2, gL3, gL4, gL5, gL6]))
        refine hz_yes (v := ?_) rfl (by kernel_rfl) (fun W hW => ?_) ?_; rotate_left; (go_simp; try with_reducible rfl)
        (try (conv => arg 6; simp only [Act.put, gL1, gL2, gL3, gL4, gL5, gL6]))
        refine hz_yes (v := ?_) rfl (by kernel_rfl) (fun W hW => ?_) ?_; rotate_left; (go_simp; try with_reducible rfl)
        (try (conv => arg 6; simp only [Act.put, gL1, gL2, gL3, gL4, gL5, gL6]))
        refine hz_yes (v := ?_) rfl (by kernel_rfl) (fun W hW => ?_) ?_; rotate_left; (go_simp; try with_reducible rfl)
        (try (conv => arg 6; simp only [Act.put, gL1, gL2, gL3, gL4, gL5, gL6]))
        refine hz_yes (v := ?_) rfl (by kernel_rfl) (fun W hW => ?_) ?_; rotate_left; (obtain ⟨y0, y1, y2, y3, y4, y5, y6, y7, y8, y9, y10, y11, _⟩ := hW; go_simp; try with_reducible rfl)
        (try (conv => arg 6; simp only [Act.put, gL1, gL2, gL3, gL4, gL5, gL6]))
        refine hz_eff rfl (by kernel_rfl) (fun K hK => ?_)
        refine wp_call (HMB.out _ _ _ QP.out QY.out) (by kernel_rfl) ?_
        rintro v1 W22 hb1 hr1
        obtain ⟨Vs, VA, Vc, Vn, VB, Vd, Vm, rfl, hr1⟩ := hr1.shape
        refine hK.out _ _ ?_ ?_
        · exact HB.out.ext hb1
        clear hK K
        (try (conv => arg 6; simp only [Act.put, gL1, gL2, gL3, gL4, gL5, gL6]))
        replace HB := Lib.hid (HB.out.ext hb1)
        replace HAP := Lib.hid (HAP.out.ext hb1)
        replace HE := Lib.hid (HE.out.ext hb1)
        replace QX := Lib.hid (QX.out.ext hb1)
        replace QY := Lib.hid (QY.out.ext hb1)
        replace QR := Lib.hid (QR.out.ext hb1)
        replace QP := Lib.hid (QP.out.ext hb1)
        replace hbw := Below.trans hbw (Below.mono hb1 hbw.size)
        have R6 := Lib.hid hr1
        clear hr1
        clear hb1
        refine hz_eff rfl (by kernel_rfl) (fun K hK => ?_)
        refine wp_call (HAA.out _ _ _ QR.out R6.out) (by kernel_rfl) ?_
        rintro v1 W23 hb1 hr1
        obtain ⟨Zs, ZA, Zc, Zn, ZB, Zd, Zm, rfl, hr1⟩ := hr1.shape
        refine hK.out _ _ ?_ ?_
        · exact HB.out.ext hb1
        clear hK K
        (try (conv => arg 6; simp only [Act.put, gL1, gL2, gL3, gL4, gL5, gL6]))
        replace HB := Lib.hid (HB.out.ext hb1)
        replace HAP := Lib.hid (HAP.out.ext hb1)
        replace HE := Lib.hid (HE.out.ext hb1)
        replace QX := Lib.hid (QX.out.ext hb1)
        replace QY := Lib.hid (QY.out.ext hb1)
        replace QR := Lib.hid (QR.out.ext hb1)
        replace QP := Lib.hid (QP.out.ext hb1)
        replace R6 := Lib.hid (R6.out.ext hb1)
        replace hbw := Below.trans hbw (Below.mono hb1 hbw.size)
        have R7 := Lib.hid hr1
        clear hr1
        clear hb1
        refine hz_eff rfl (by kernel_rfl) (fun K hK => ?_)
        refine wp_call (HCC.out _ _ _ QX.out R7.out) (by kernel_rfl) ?_
        rintro v1 W24 hb1 rfl
        refine hK.out _ _ ?_ ?_
        · exact HB.out.ext hb1
        clear hK K
        (try (conv => arg 6; simp only [Act.put, gL1, gL2, gL3, gL4, gL5, gL6]))
        replace HB := Lib.hid (HB.out.ext hb1)
        replace HAP := Lib.hid (HAP.out.ext hb1)
        replace HE := Lib.hid (HE.out.ext hb1)
        replace QX := Lib.hid (QX.out.ext hb1)
        replace QY := Lib.hid (QY.out.ext hb1)
        replace QR := Lib.hid (QR.out.ext hb1)
        replace QP := Lib.hid (QP.out.ext hb1)
        replace R6 := Lib.hid (R6.out.ext hb1)
        replace R7 := Lib.hid (R7.out.ext hb1)
        replace hbw := Below.trans hbw (Below.mono hb1 hbw.size)
        clear hb1
        refine hz_yes (v := ?_) rfl (by kernel_rfl) (fun W hW => ?_) ?_; rotate_left; (go_simp; try with_reducible rfl)
        (try (conv => arg 6; simp only [Act.put, gL1, gL2, gL3, gL4, gL5, gL6]))
        refine hz_nil ?_
        go_wp2
        go_roundw
        case rel => exact ⟨j + 1, rfl, HJN.out, by rw [HTK.out]; exact HAP.out, HE.out⟩
        case measure => simp [intOf]; have := HJN.out; omega
      · obtain rfl : j = N := by omega
        have hji : ¬ (j : Int) < (j : Int) := by omega
        have hd := AppL.done HAP.out
        rw [show F.take j = F from List.take_of_length_le (by have := HLN.out; omega)] at hd
        have RF := Lib.hid hd.qs
        have hbw := Below.trans hbw (Below.mono HE.out HBS.out.size)
        replace RR3 := Lib.hid (RR3.out.ext HE.out)
        replace R4 := Lib.hid (R4.out.ext HE.out)
        replace H16 := Lib.hid (H16.out.ext HE.out)
        clear hd hj hjn HF HM1 HM2 HSB HAD HCM HAP HE HBS RX RY R3 R5 H11 H19
        go_wp2_with fail
        refine (HRR.out _ _ RR3.out).mono ?_
        rintro e W21 ⟨v1, rfl, hb1, s5, A5, c5, n5, B5, k5, m5, rfl, hr1⟩
        replace H16 := Lib.hid (H16.out.ext hb1)
        replace RR3 := Lib.hid (RR3.out.ext hb1)
        replace R4 := Lib.hid (R4.out.ext hb1)
        replace RF := Lib.hid (RF.out.ext hb1)
        replace hbw := Below.trans hbw (Below.mono hb1 hbw.size)
        have R8 := Lib.hid hr1
        clear hr1
        clear hb1
        go_upto_region 20 with (fail)
        have z_H21 := hbw.size
        have z_H21_H16 := H16.out.lt
        replace H16 := Lib.hid (H16.out.alloc (.cells #[.bool s5, .slice A5 n5 c5, .slice B5 m5 k5] 34))
        replace RR3 := Lib.hid (RR3.out.alloc (.cells #[.bool s5, .slice A5 n5 c5, .slice B5 m5 k5] 34))
        replace R4 := Lib.hid (R4.out.alloc (.cells #[.bool s5, .slice A5 n5 c5, .slice B5 m5 k5] 34))
        replace RF := Lib.hid (RF.out.alloc (.cells #[.bool s5, .slice A5 n5 c5, .slice B5 m5 k5] 34))
        replace R8 := Lib.hid (R8.out.alloc (.cells #[.bool s5, .slice A5 n5 c5, .slice B5 m5 k5] 34))
        replace hbw := Below.alloc hbw hbw.size (.cells #[.bool s5, .slice A5 n5 c5, .slice B5 m5 k5] 34)
        have H21 := Lib.hid (Own.new' W21 34 [.bool s5, .slice A5 n5 c5, .slice B5 m5 k5] W21.heap.size rfl)
        obtain ⟨bH21, e_H21⟩ : ∃ b, W21.heap.size = b := ⟨_, rfl⟩
        simp only [e_H21] at H21 z_H21 z_H21_H16 ⊢
        generalize (W21.alloc (.cells #[.bool s5, .slice A5 n5 c5, .slice B5 m5 k5] 34)) = W22 at H16 RR3 R4 RF R8 H21 hbw ⊢
        go_wp2_with fail
        refine (HFF.out _ _ RF.out).mono ?_
        rintro e W23 ⟨v1, rfl, hb1, s6, A6, c6, n6, B6, k6, m6, rfl, hr1⟩
        replace H16 := Lib.hid (H16.out.ext hb1)
        replace RR3 := Lib.hid (RR3.out.ext hb1)
        replace R4 := Lib.hid (R4.out.ext hb1)
        replace RF := Lib.hid (RF.out.ext hb1)
        replace R8 := Lib.hid (R8.out.ext hb1)
        replace H21 := Lib.hid (H21.out.ext hb1)
        replace hbw := Below.trans hbw (Below.mono hb1 hbw.size)
        have R9 := Lib.hid hr1
        clear hr1
        clear hb1
        go_upto_region 21 with (fail)
        have z_H23 := hbw.size
        have z_H23_H16 := H16.out.lt
        have z_H23_H21 := H21.out.lt
        replace H16 := Lib.hid (H16.out.alloc (.cells #[.bool s6, .slice A6 n6 c6, .slice B6 m6 k6] 34))
        replace RR3 := Lib.hid (RR3.out.alloc (.cells #[.bool s6, .slice A6 n6 c6, .slice B6 m6 k6] 34))
        replace R4 := Lib.hid (R4.out.alloc (.cells #[.bool s6, .slice A6 n6 c6, .slice B6 m6 k6] 34))
        replace RF := Lib.hid (RF.out.alloc (.cells #[.bool s6, .slice A6 n6 c6, .slice B6 m6 k6] 34))
        replace R8 := Lib.hid (R8.out.alloc (.cells #[.bool s6, .slice A6 n6 c6, .slice B6 m6 k6] 34))
        replace H21 := Lib.hid (H21.out.alloc (.cells #[.bool s6, .slice A6 n6 c6, .slice B6 m6 k6] 34))
        replace R9 := Lib.hid (R9.out.alloc (.cells #[.bool s6, .slice A6 n6 c6, .slice B6 m6 k6] 34))
        replace hbw := Below.alloc hbw hbw.size (.cells #[.bool s6, .slice A6 n6 c6, .slice B6 m6 k6] 34)
        have H23 := Lib.hid (Own.new' W23 34 [.bool s6, .slice A6 n6 c6, .slice B6 m6 k6] W23.heap.size rfl)
        obtain ⟨bH23, e_H23⟩ : ∃ b, W23.heap.size = b := ⟨_, rfl⟩
        simp only [e_H23] at H23 z_H23 z_H23_H16 z_H23_H21 ⊢
        generalize (W23.alloc (.cells #[.bool s6, .slice A6 n6 c6, .slice B6 m6 k6] 34)) = W24 at H16 RR3 R4 RF R8 H21 R9 H23 hbw ⊢
        go_wp2_with fail
        refine (HKN.out _).mono ?_
        rintro e W25 ⟨v1, rfl, hb1, rfl⟩
        replace H16 := Lib.hid (H16.out.ext hb1)
        replace RR3 := Lib.hid (RR3.out.ext hb1)
        replace R4 := Lib.hid (R4.out.ext hb1)
        replace RF := Lib.hid (RF.out.ext hb1)
        replace R8 := Lib.hid (R8.out.ext hb1)
        replace H21 := Lib.hid (H21.out.ext hb1)
        replace R9 := Lib.hid (R9.out.ext hb1)
        replace H23 := Lib.hid (H23.out.ext hb1)
        replace hbw := Below.trans hbw (Below.mono hb1 hbw.size)
        clear hb1
        have x_H16_0 := H16.out.cell 0 _ rfl
        have f_H16_0 := H16.out.frozen 0
        have x_H16_1 := H16.out.cell 1 _ rfl
        have f_H16_1 := H16.out.frozen 1
        have x_H16_2 := H16.out.cell 2 _ rfl
        have f_H16_2 := H16.out.frozen 2
        go_wp2_with fail
        clear x_H16_0 f_H16_0 x_H16_1 f_H16_1 x_H16_2 f_H16_2
        refine (HSZ.out _ _ R4.out).mono ?_
        rintro e W26 ⟨v1, rfl, hb1, rfl⟩
        replace H16 := Lib.hid (H16.out.ext hb1)
        replace RR3 := Lib.hid (RR3.out.ext hb1)
        replace R4 := Lib.hid (R4.out.ext hb1)
        replace RF := Lib.hid (RF.out.ext hb1)
        replace R8 := Lib.hid (R8.out.ext hb1)
        replace H21 := Lib.hid (H21.out.ext hb1)
        replace R9 := Lib.hid (R9.out.ext hb1)
        replace H23 := Lib.hid (H23.out.ext hb1)
        replace hbw := Below.trans hbw (Below.mono hb1 hbw.size)
        clear hb1
        have x_H21_0 := H21.out.cell 0 _ rfl
        have f_H21_0 := H21.out.frozen 0
        have x_H21_1 := H21.out.cell 1 _ rfl
        have f_H21_1 := H21.out.frozen 1
        have x_H21_2 := H21.out.cell 2 _ rfl
        have f_H21_2 := H21.out.frozen 2
        have x_H23_0 := H23.out.cell 0 _ rfl
        have f_H23_0 := H23.out.frozen 0
        have x_H23_1 := H23.out.cell 1 _ rfl
        have f_H23_1 := H23.out.frozen 1
        have x_H23_2 := H23.out.cell 2 _ rfl
        have f_H23_2 := H23.out.frozen 2
        go_wp2_with fail
        clear x_H21_0 f_H21_0 x_H21_1 f_H21_1 x_H21_2 f_H21_2 x_H23_0 f_H23_0 x_H23_1 f_H23_1 x_H23_2 f_H23_2
        refine (HCF.out _ _ _ R8.out R9.out).mono ?_
        rintro e W27 ⟨v1, rfl, hb1, rfl⟩
        replace H16 := Lib.hid (H16.out.ext hb1)
        replace RR3 := Lib.hid (RR3.out.ext hb1)
        replace R4 := Lib.hid (R4.out.ext hb1)
        replace RF := Lib.hid (RF.out.ext hb1)
        replace R8 := Lib.hid (R8.out.ext hb1)
        replace H21 := Lib.hid (H21.out.ext hb1)
        replace R9 := Lib.hid (R9.out.ext hb1)
        replace H23 := Lib.hid (H23.out.ext hb1)
        replace hbw := Below.trans hbw (Below.mono hb1 hbw.size)
        clear hb1
        go_wp2_with fail
        go_ret
        exact ⟨_, rfl, hbw, rfl⟩
end Go.Proofs.Ytlaocmhcilhlbaa
