/- The document's fractions, of small parts: Make, Of, Over. -/
import Derived.Test.YtadpjidakippeaaGreatY23
import Derived.Test.YtadpjidakippeaaGreatY12
import Derived.Test.YtadpjidakippeaaGreatY06
import Derived.Test.YtadpjidakippeaaGreatY15
set_option linter.unusedVariables false
set_option linter.unusedSimpArgs false
namespace Go.Proofs.YtadpjidakippeaaGreat
open Go.RowKit
/-- abaculusref1.Q -/
def rRQ (w : World) (v : Value) (q : Rat) : Prop := ∃ A c m B k l, v = .agg #[.bool (decide (q.num < 0)), .slice A m c, .slice B l k] ∧ rR w (.slice A m c) q.num.natAbs ∧ rR w (.slice B l k) q.den
theorem rRQ.ext {w w' : World} {v : Value} {q : Rat} (h : rRQ w v q) (he : Ext w w') : rRQ w' v q := by
 obtain ⟨A, c, m, B, k, l, hv, h1, h2⟩ := h
 exact ⟨A, c, m, B, k, l, hv, h1.ext he, h2.ext he⟩
theorem rRQ.drew {w : World} {v : Value} {q : Rat} (h : rRQ w v q) : rRQ w.drew v q := h
theorem rRQ.alloc {w : World} {v : Value} {q : Rat} (h : rRQ w v q) (o : Obj) : rRQ (w.alloc o) v q := h.ext (ext_alloc _ _)
theorem rRQ.set {w : World} {v : Value} {q : Rat} (h : rRQ w v q) {a : Addr} {u x : Value} (hc : w.cell? a = some u) (hu : noInt u = true) : rRQ (w.setCell a x) v q := by
 obtain ⟨A, c, m, B, k, l, hv, h1, h2⟩ := h
 exact ⟨A, c, m, B, k, l, hv, h1.set hc hu, h2.set hc hu⟩
theorem rRQ.shape {w : World} {v : Value} {q : Rat} (h : rRQ w v q) : ∃ s A c n B k m, v = .agg #[.bool s, .slice A n c, .slice B m k] ∧ rRQ w (.agg #[.bool s, .slice A n c, .slice B m k]) q := by
 obtain ⟨A, c, m, B, k, l, rfl, h⟩ := h
 exact ⟨_, A, c, m, B, k, l, rfl, A, c, m, B, k, l, rfl, h⟩
theorem rRQ.num {w : World} {s : Bool} {A B : Option Addr} {n c m k : Nat} {q : Rat} (h : rRQ w (.agg #[.bool s, .slice A n c, .slice B m k]) q) : s = decide (q.num < 0) ∧ rR w (.slice A n c) q.num.natAbs := by
 obtain ⟨A', c', m', B', k', l', e, h1, h2⟩ := h
 simp only [Value.agg.injEq, Array.mk.injEq, List.cons.injEq, Value.bool.injEq, Value.slice.injEq, and_true] at e
 obtain ⟨rfl, ⟨rfl, rfl, rfl⟩, rfl, rfl, rfl⟩ := e
 exact ⟨rfl, h1⟩
theorem rRQ.den {w : World} {s : Bool} {A B : Option Addr} {n c m k : Nat} {q : Rat} (h : rRQ w (.agg #[.bool s, .slice A n c, .slice B m k]) q) : rR w (.slice B m k) q.den := by
 obtain ⟨A', c', m', B', k', l', e, h1, h2⟩ := h
 simp only [Value.agg.injEq, Array.mk.injEq, List.cons.injEq, Value.bool.injEq, Value.slice.injEq, and_true] at e
 obtain ⟨rfl, ⟨rfl, rfl, rfl⟩, rfl, rfl, rfl⟩ := e
 exact h2
theorem RDivSaid.open {W : World} {v : Value} {a b q : Nat} (hq : a / b = q) (h : RDivSaid W v a b) : ∃ A1 c1 m1 A2 c2 m2, v = .tuple #[.slice A1 m1 c1, .slice A2 m2 c2] ∧ rR W (.slice A1 m1 c1) q := by
 obtain ⟨A, c, m, B, d, n, hv, h1, h2⟩ := h
 exact ⟨A, c, m, B, d, n, hv, hq ▸ h1⟩
set_option maxRecDepth 100000 in
set_option maxHeartbeats 1000000 in
/-- Make, of small parts -/
theorem rmake_c (w : World) (vn vd : Value) (z : Int) (d : Nat) (hn : rRI w vn z) (hd : rRI w vd (d : Int)) (fz : z.natAbs < B32) (fd : d < B32) (d0 : 0 < d) :
  Calls Tryz.prog 92 #[vn, vd] w (Post w fun r w' => rRQ w' r (mkRat z d)) := by
 have hn1 := hn.open
 have hd1 := hd.open
 clear hn hd
 obtain ⟨A, c, m, rfl, hn⟩ := hn1
 obtain ⟨B, k, l, rfl, hd⟩ := hd1
 rw [decide_eq_false (show ¬ (d : Int) < 0 by omega)]
 replace hd : rR w (.slice B l k) d := hd
 obtain ⟨x, ex⟩ : ∃ x, z.natAbs = x := ⟨_, rfl⟩
 obtain ⟨s, es⟩ : ∃ s, decide (z < 0) = s := ⟨_, rfl⟩
 obtain ⟨g, eg⟩ : ∃ g, Nat.gcd x d = g := ⟨_, rfl⟩
 have g0 : 0 < g := by rw [← eg]; exact Nat.gcd_pos_of_pos_right _ d0
 have gd : g ≤ d := by rw [← eg]; exact Nat.gcd_le_right _ d0
 have gx : g ∣ x := by rw [← eg]; exact Nat.gcd_dvd_left _ _
 rw [ex] at fz hn
 rw [es]
 obtain ⟨p, ep⟩ : ∃ p, x / g = p := ⟨_, rfl⟩
 obtain ⟨q, eq⟩ : ∃ q, d / g = q := ⟨_, rfl⟩
 have HG := Lib.hid (fun W h h' => rgcd_c W (.slice A m c) (.slice B l k) x d h h' fz fd)
 rw [eg] at HG
 have HD1 := Lib.hid (fun W u h h' => (rdiv_c W (.slice A m c) u x g h h' fz (Nat.lt_of_le_of_lt gd fd) g0).mono (fun _ _ h => h.map (fun _ _ h => h.open ep)))
 have HD2 := Lib.hid (fun W u h h' => (rdiv_c W (.slice B l k) u d g h h' fd (Nat.lt_of_le_of_lt gd fd) g0).mono (fun _ _ h => h.map (fun _ _ h => h.open eq)))
 obtain ⟨p1, p2⟩ := mkRat_parts z d (by omega)
 rw [ex, eg] at p1 p2
 rw [eq] at p2
 have hz : z = sg s x := by rw [← es, ← ex]; unfold sg; split <;> rename_i h <;> simp at h <;> omega
 have hp : z / (g : Int) = sg s p := by
  obtain ⟨y, rfl⟩ := gx
  rw [Nat.mul_div_cancel_left _ g0] at ep
  subst ep
  rw [hz]
  cases s
  · rw [sg_false, sg_false, Int.natCast_mul, Int.mul_ediv_cancel_left _ (by omega)]
  · rw [sg_true, sg_true, Int.natCast_mul, ← Int.mul_neg, Int.mul_ediv_cancel_left _ (by omega)]
 rw [hp] at p1
 have hs : (s && decide (0 < p)) = decide ((mkRat z d).num < 0) := by
  rw [p1]
  cases s
  · rw [sg_false]; simp
  · rw [sg_true]; simp
 obtain ⟨s', es'⟩ : ∃ s', decide ((mkRat z d).num < 0) = s' := ⟨_, rfl⟩
 rw [es'] at hs
 have HI := Lib.hid (show ∀ W A1 m1 c1, rR W (.slice A1 m1 c1) p → Calls Tryz.prog 94 #[.bool s, .slice A1 m1 c1] W (Post W fun r w' => r = .agg #[.bool s', .slice A1 m1 c1]) from fun W A1 m1 c1 h => by
  have := ri_c W s A1 m1 c1 p h
  rw [hs] at this
  exact this)
 have HFI := Lib.hid (show ∀ W A1 m1 c1 A2 m2 c2, rR W (.slice A1 m1 c1) p → rR W (.slice A2 m2 c2) q → rRQ W (.agg #[.bool s', .slice A1 m1 c1, .slice A2 m2 c2]) (mkRat z d) from fun W A1 m1 c1 A2 m2 c2 h1 h2 =>
  ⟨A1, c1, m1, A2, c2, m2, by rw [es'], by rw [p1, sg_abs]; exact h1, by rw [p2]; exact h2⟩)
 have H1 := Lib.hid hn
 have H2 := Lib.hid hd
 clear hn hd fz fd d0 ex es eg g0 gd gx ep eq p1 p2 hz hp hs es'
 have HB : Hid (Cells [(w.heap.size, 0, .bool s), (w.heap.size, 1, .slice A m c), (w.heap.size + 1, 0, .bool false), (w.heap.size + 1, 1, .slice B l k)] (((w.alloc (.cells #[.bool s, .slice A m c] 39)).alloc (.cells #[.bool false, .slice B l k] 39)).alloc (.cells #[.bool false, .slice none 0 0, .slice none 0 0] 41))) := Lib.hid (Cells.cons (by go_simp) (Cells.cons (by go_simp) (Cells.cons (by go_simp) (Cells.cons (by go_simp) (Cells.nil _)))))
 have HO0 := Lib.hid (Own.new' ((w.alloc (.cells #[.bool s, .slice A m c] 39)).alloc (.cells #[.bool false, .slice B l k] 39)) 41 [.bool false, .slice none 0 0, .slice none 0 0] (w.heap.size + 1 + 1) (by simp))
 have hbw : Below w.heap.size w (((w.alloc (.cells #[.bool s, .slice A m c] 39)).alloc (.cells #[.bool false, .slice B l k] 39)).alloc (.cells #[.bool false, .slice none 0 0, .slice none 0 0] 41)) := (by repeat (first | assumption | exact nB1 _ _ | refine nB2 ?_ | refine pw_below_drewN ?_ _ | refine nB3 ?_ (by first | omega | (simp <;> omega)) _ | refine nB4 ?_ (by first | omega | (simp <;> omega)) _ | refine nB5 ?_ (by assumption) (by first | omega | (simp <;> omega))))
 go_enter Tryz.func92, Tryz.ntmps92
 go_wp2_with fail
 generalize (((w.alloc (.cells #[.bool s, .slice A m c] 39)).alloc (.cells #[.bool false, .slice B l k] 39)).alloc (.cells #[.bool false, .slice none 0 0, .slice none 0 0] 41)) = W0 at HB HO0 hbw ⊢
 obtain ⟨y0, y1, y2, y3, _⟩ := id HB.out
 go_wp2_with fail
 clear y0 y1 y2 y3
 refine (HG.out _ (H1.out.ext hbw) (H2.out.ext hbw)).mono ?_
 rintro e W1 ⟨v1, rfl, hb1, hr1⟩
 replace HB := Lib.hid (HB.out.ext hb1)
 replace HO0 := Lib.hid (HO0.out.ext hb1)
 replace hbw := nT hbw hb1
 have R0 := Lib.hid hr1
 clear hr1
 clear hb1
 obtain ⟨A0, c0, m0, rfl, h0⟩ := R0.out.shape
 have R1 := Lib.hid h0
 clear h0 R0
 obtain ⟨y0, y1, y2, y3, _⟩ := id HB.out
 go_wp2_with fail
 clear y0 y1 y2 y3
 refine (HD1.out _ _ (H1.out.ext hbw) R1.out).mono ?_
 rintro e W2 ⟨v1, rfl, hb1, A1, c1, m1, A2, c2, m2, rfl, hr1⟩
 replace HB := Lib.hid (HB.out.ext hb1)
 replace HO0 := Lib.hid (HO0.out.ext hb1)
 replace R1 := Lib.hid (R1.out.ext hb1)
 replace hbw := nT hbw hb1
 have R2 := Lib.hid hr1
 clear hr1
 clear hb1
 obtain ⟨y0, y1, y2, y3, _⟩ := id HB.out
 go_wp2_with fail
 clear y0 y1 y2 y3
 refine (HD2.out _ _ (H2.out.ext hbw) R1.out).mono ?_
 rintro e W3 ⟨v1, rfl, hb1, A3, c3, m3, A4, c4, m4, rfl, hr1⟩
 replace HB := Lib.hid (HB.out.ext hb1)
 replace HO0 := Lib.hid (HO0.out.ext hb1)
 replace R1 := Lib.hid (R1.out.ext hb1)
 replace R2 := Lib.hid (R2.out.ext hb1)
 replace hbw := nT hbw hb1
 have R3 := Lib.hid hr1
 clear hr1
 clear hb1
 obtain ⟨y0, y1, y2, y3, _⟩ := id HB.out
 go_wp2_with fail
 clear y0 y1 y2 y3
 refine (HI.out _ _ _ _ R2.out).mono ?_
 rintro e W4 ⟨v1, rfl, hb1, rfl⟩
 replace HB := Lib.hid (HB.out.ext hb1)
 replace HO0 := Lib.hid (HO0.out.ext hb1)
 replace R1 := Lib.hid (R1.out.ext hb1)
 replace R2 := Lib.hid (R2.out.ext hb1)
 replace R3 := Lib.hid (R3.out.ext hb1)
 replace hbw := nT hbw hb1
 clear hb1
 have q0 := HO0.out.cell 0 _ rfl
 have f0 := HO0.out.frozen 0
 have q1 := HO0.out.cell 1 _ rfl
 have f1 := HO0.out.frozen 1
 have q2 := HO0.out.cell 2 _ rfl
 have f2 := HO0.out.frozen 2
 go_wp2_with fail
 replace HB := Lib.hid (HB.out.set (p := ⟨w.heap.size + 1 + 1, 0, none⟩) (.bool s') (by simp <;> omega))
 replace HO0 := Lib.hid (HO0.out.set 0 (.bool s'))
 replace R1 := Lib.hid (R1.out.set (x := .bool s') q0 rfl)
 replace R2 := Lib.hid (R2.out.set (x := .bool s') q0 rfl)
 replace R3 := Lib.hid (R3.out.set (x := .bool s') q0 rfl)
 replace hbw := nB4 hbw (show w.heap.size ≤ (⟨w.heap.size + 1 + 1, 0, none⟩ : Addr).block by simp <;> omega) (.bool s')
 replace q1 := (nC W4 ⟨w.heap.size + 1 + 1, 0, none⟩ ⟨w.heap.size + 1 + 1, 1, none⟩ (.bool s') (by simp)).trans q1
 replace q2 := (nC W4 ⟨w.heap.size + 1 + 1, 0, none⟩ ⟨w.heap.size + 1 + 1, 2, none⟩ (.bool s') (by simp)).trans q2
 replace HB := Lib.hid (HB.out.set (p := ⟨w.heap.size + 1 + 1, 1, none⟩) (.slice A1 m1 c1) (by simp <;> omega))
 replace HO0 := Lib.hid (HO0.out.set 1 (.slice A1 m1 c1))
 replace R1 := Lib.hid (R1.out.set (x := .slice A1 m1 c1) q1 rfl)
 replace R2 := Lib.hid (R2.out.set (x := .slice A1 m1 c1) q1 rfl)
 replace R3 := Lib.hid (R3.out.set (x := .slice A1 m1 c1) q1 rfl)
 replace hbw := nB4 hbw (show w.heap.size ≤ (⟨w.heap.size + 1 + 1, 1, none⟩ : Addr).block by simp <;> omega) (.slice A1 m1 c1)
 replace q2 := (nC (W4.setCell ⟨w.heap.size + 1 + 1, 0, none⟩ (.bool s')) ⟨w.heap.size + 1 + 1, 1, none⟩ ⟨w.heap.size + 1 + 1, 2, none⟩ (.slice A1 m1 c1) (by simp)).trans q2
 replace HB := Lib.hid (HB.out.set (p := ⟨w.heap.size + 1 + 1, 2, none⟩) (.slice A3 m3 c3) (by simp <;> omega))
 replace HO0 := Lib.hid (HO0.out.set 2 (.slice A3 m3 c3))
 replace R1 := Lib.hid (R1.out.set (x := .slice A3 m3 c3) q2 rfl)
 replace R2 := Lib.hid (R2.out.set (x := .slice A3 m3 c3) q2 rfl)
 replace R3 := Lib.hid (R3.out.set (x := .slice A3 m3 c3) q2 rfl)
 replace hbw := nB4 hbw (show w.heap.size ≤ (⟨w.heap.size + 1 + 1, 2, none⟩ : Addr).block by simp <;> omega) (.slice A3 m3 c3)
 clear q0 f0 q1 f1 q2 f2
 replace HO0 : Hid (Own _ _ _ [.bool s', .slice A1 m1 c1, .slice A3 m3 c3]) := HO0
 generalize (((W4.setCell ⟨w.heap.size + 1 + 1, 0, none⟩ (.bool s')).setCell ⟨w.heap.size + 1 + 1, 1, none⟩ (.slice A1 m1 c1)).setCell ⟨w.heap.size + 1 + 1, 2, none⟩ (.slice A3 m3 c3)) = W5 at HB HO0 R1 R2 R3 hbw ⊢
 have kk0 := HO0.out.cell 0 _ rfl
 have kk1 := HO0.out.cell 1 _ rfl
 have kk2 := HO0.out.cell 2 _ rfl
 refine bodyPost_ret (v := .agg #[.bool s', .slice A1 m1 c1, .slice A3 m3 c3]) (by simp [results, Tryz.results92, go_sem, kk0, kk1, kk2]) rfl ⟨_, rfl, hbw, ?_⟩
 exact HFI.out _ _ _ _ _ _ _ R2.out R3.out
set_option maxRecDepth 100000 in
set_option maxHeartbeats 1000000 in
/-- Over, of small parts -/
theorem rover_c (w : World) (z : Int) (d : Nat) (hz : -2147483648 < z ∧ z < 2147483648) (hd : 0 < d ∧ d < 2147483648) :
  Calls Tryz.prog 56 #[.int .i64 z, .int .i64 (d : Nat)] w (Post w fun r w' => rRQ w' r (mkRat z d)) := by
 have H1 := Lib.hid (fun W => riof_c W z hz)
 have H2 := Lib.hid (fun W => riof_c W (d : Int) (by omega))
 have H3 := Lib.hid (fun W v u h h' => rmake_c W v u z d h h' (by unfold B32; omega) (by unfold B32; omega) hd.1)
 have HB : Hid (Cells [] (w.alloc (.cells #[.bool false, .slice none 0 0, .slice none 0 0] 41))) := Lib.hid (Cells.nil _)
 have HO0 := Lib.hid (Own.new' w 41 [.bool false, .slice none 0 0, .slice none 0 0] (w.heap.size) (by simp))
 have hbw : Below w.heap.size w (w.alloc (.cells #[.bool false, .slice none 0 0, .slice none 0 0] 41)) := (by repeat (first | assumption | exact nB1 _ _ | refine nB2 ?_ | refine pw_below_drewN ?_ _ | refine nB3 ?_ (by first | omega | (simp <;> omega)) _ | refine nB4 ?_ (by first | omega | (simp <;> omega)) _ | refine nB5 ?_ (by assumption) (by first | omega | (simp <;> omega))))
 clear hz hd
 go_enter Tryz.func56, Tryz.ntmps56
 go_wp2_with fail
 generalize (w.alloc (.cells #[.bool false, .slice none 0 0, .slice none 0 0] 41)) = W0 at HB HO0 hbw ⊢
 refine (H1.out _).mono ?_
 rintro e W1 ⟨v1, rfl, hb1, hr1⟩
 replace HB := Lib.hid (HB.out.ext hb1)
 replace HO0 := Lib.hid (HO0.out.ext hb1)
 replace hbw := nT hbw hb1
 have R1 := Lib.hid hr1
 clear hr1
 clear hb1
 go_wp2_with fail
 refine (H2.out _).mono ?_
 rintro e W2 ⟨v1, rfl, hb1, hr1⟩
 replace HB := Lib.hid (HB.out.ext hb1)
 replace HO0 := Lib.hid (HO0.out.ext hb1)
 replace R1 := Lib.hid (R1.out.ext hb1)
 replace hbw := nT hbw hb1
 have R2 := Lib.hid hr1
 clear hr1
 clear hb1
 go_wp2_with fail
 refine (H3.out _ _ _ R1.out R2.out).mono ?_
 rintro e W3 ⟨v1, rfl, hb1, hr1⟩
 replace HB := Lib.hid (HB.out.ext hb1)
 replace HO0 := Lib.hid (HO0.out.ext hb1)
 replace R1 := Lib.hid (R1.out.ext hb1)
 replace R2 := Lib.hid (R2.out.ext hb1)
 replace hbw := nT hbw hb1
 have R3 := Lib.hid hr1
 clear hr1
 clear hb1
 obtain ⟨s, A, c, n, B, k, m, rfl, h⟩ := R3.out.shape
 have R4 := Lib.hid h
 clear h R3
 have q0 := HO0.out.cell 0 _ rfl
 have f0 := HO0.out.frozen 0
 have q1 := HO0.out.cell 1 _ rfl
 have f1 := HO0.out.frozen 1
 have q2 := HO0.out.cell 2 _ rfl
 have f2 := HO0.out.frozen 2
 go_wp2_with fail
 replace HB := Lib.hid (HB.out.set (p := ⟨w.heap.size, 0, none⟩) (.bool s) (by simp <;> omega))
 replace HO0 := Lib.hid (HO0.out.set 0 (.bool s))
 replace R1 := Lib.hid (R1.out.set (x := .bool s) q0 rfl)
 replace R2 := Lib.hid (R2.out.set (x := .bool s) q0 rfl)
 replace R4 := Lib.hid (R4.out.set (x := .bool s) q0 rfl)
 replace hbw := nB4 hbw (show w.heap.size ≤ (⟨w.heap.size, 0, none⟩ : Addr).block by simp <;> omega) (.bool s)
 replace q1 := (nC W3 ⟨w.heap.size, 0, none⟩ ⟨w.heap.size, 1, none⟩ (.bool s) (by simp)).trans q1
 replace q2 := (nC W3 ⟨w.heap.size, 0, none⟩ ⟨w.heap.size, 2, none⟩ (.bool s) (by simp)).trans q2
 replace HB := Lib.hid (HB.out.set (p := ⟨w.heap.size, 1, none⟩) (.slice A n c) (by simp <;> omega))
 replace HO0 := Lib.hid (HO0.out.set 1 (.slice A n c))
 replace R1 := Lib.hid (R1.out.set (x := .slice A n c) q1 rfl)
 replace R2 := Lib.hid (R2.out.set (x := .slice A n c) q1 rfl)
 replace R4 := Lib.hid (R4.out.set (x := .slice A n c) q1 rfl)
 replace hbw := nB4 hbw (show w.heap.size ≤ (⟨w.heap.size, 1, none⟩ : Addr).block by simp <;> omega) (.slice A n c)
 replace q2 := (nC (W3.setCell ⟨w.heap.size, 0, none⟩ (.bool s)) ⟨w.heap.size, 1, none⟩ ⟨w.heap.size, 2, none⟩ (.slice A n c) (by simp)).trans q2
 replace HB := Lib.hid (HB.out.set (p := ⟨w.heap.size, 2, none⟩) (.slice B m k) (by simp <;> omega))
 replace HO0 := Lib.hid (HO0.out.set 2 (.slice B m k))
 replace R1 := Lib.hid (R1.out.set (x := .slice B m k) q2 rfl)
 replace R2 := Lib.hid (R2.out.set (x := .slice B m k) q2 rfl)
 replace R4 := Lib.hid (R4.out.set (x := .slice B m k) q2 rfl)
 replace hbw := nB4 hbw (show w.heap.size ≤ (⟨w.heap.size, 2, none⟩ : Addr).block by simp <;> omega) (.slice B m k)
 clear q0 f0 q1 f1 q2 f2
 replace HO0 : Hid (Own _ _ _ [.bool s, .slice A n c, .slice B m k]) := HO0
 generalize (((W3.setCell ⟨w.heap.size, 0, none⟩ (.bool s)).setCell ⟨w.heap.size, 1, none⟩ (.slice A n c)).setCell ⟨w.heap.size, 2, none⟩ (.slice B m k)) = W4 at HB HO0 R1 R2 R4 hbw ⊢
 have kk0 := HO0.out.cell 0 _ rfl
 have kk1 := HO0.out.cell 1 _ rfl
 have kk2 := HO0.out.cell 2 _ rfl
 refine bodyPost_ret (v := .agg #[.bool s, .slice A n c, .slice B m k]) (by simp [results, Tryz.results56, go_sem, kk0, kk1, kk2]) rfl ⟨_, rfl, hbw, ?_⟩
 exact R4.out
set_option maxRecDepth 100000 in
set_option maxHeartbeats 1000000 in
/-- Of, of a small number -/
theorem rqof_c (w : World) (z : Int) (hz : -2147483648 < z ∧ z < 2147483648) :
  Calls Tryz.prog 26 #[.int .i64 z] w (Post w fun r w' => rRQ w' r (z : Rat)) := by
 have H1 := Lib.hid (fun W => riof_c W z hz)
 have H2 := Lib.hid (fun W => rof_c W 1 (by unfold B32; omega))
 obtain ⟨s, es⟩ : ∃ s, decide (z < 0) = s := ⟨_, rfl⟩
 have HES := Lib.hid es
 have HB : Hid (Cells [] (w.alloc (.cells #[.bool false, .slice none 0 0, .slice none 0 0] 41))) := Lib.hid (Cells.nil _)
 have HO0 := Lib.hid (Own.new' w 41 [.bool false, .slice none 0 0, .slice none 0 0] (w.heap.size) (by simp))
 have hbw : Below w.heap.size w (w.alloc (.cells #[.bool false, .slice none 0 0, .slice none 0 0] 41)) := (by repeat (first | assumption | exact nB1 _ _ | refine nB2 ?_ | refine pw_below_drewN ?_ _ | refine nB3 ?_ (by first | omega | (simp <;> omega)) _ | refine nB4 ?_ (by first | omega | (simp <;> omega)) _ | refine nB5 ?_ (by assumption) (by first | omega | (simp <;> omega))))
 clear hz es
 go_enter Tryz.func26, Tryz.ntmps26
 go_wp2_with fail
 generalize (w.alloc (.cells #[.bool false, .slice none 0 0, .slice none 0 0] 41)) = W0 at HB HO0 hbw ⊢
 refine (H1.out _).mono ?_
 rintro e W1 ⟨v1, rfl, hb1, hr1⟩
 replace HB := Lib.hid (HB.out.ext hb1)
 replace HO0 := Lib.hid (HO0.out.ext hb1)
 replace hbw := nT hbw hb1
 have R1 := Lib.hid hr1
 clear hr1
 clear hb1
 obtain ⟨A, c, n, rfl, h⟩ := R1.out.open
 rw [HES.out]
 have R3 := Lib.hid h
 clear h R1
 go_wp2_with fail
 refine (H2.out _).mono ?_
 rintro e W2 ⟨v1, rfl, hb1, hr1⟩
 replace HB := Lib.hid (HB.out.ext hb1)
 replace HO0 := Lib.hid (HO0.out.ext hb1)
 replace R3 := Lib.hid (R3.out.ext hb1)
 replace hbw := nT hbw hb1
 have R2 := Lib.hid hr1
 clear hr1
 clear hb1
 obtain ⟨B, k, m, rfl, h⟩ := R2.out.shape
 have R4 := Lib.hid h
 clear h R2
 have q0 := HO0.out.cell 0 _ rfl
 have f0 := HO0.out.frozen 0
 have q1 := HO0.out.cell 1 _ rfl
 have f1 := HO0.out.frozen 1
 have q2 := HO0.out.cell 2 _ rfl
 have f2 := HO0.out.frozen 2
 go_wp2_with fail
 replace HB := Lib.hid (HB.out.set (p := ⟨w.heap.size, 0, none⟩) (.bool s) (by simp <;> omega))
 replace HO0 := Lib.hid (HO0.out.set 0 (.bool s))
 replace R3 := Lib.hid (R3.out.set (x := .bool s) q0 rfl)
 replace R4 := Lib.hid (R4.out.set (x := .bool s) q0 rfl)
 replace hbw := nB4 hbw (show w.heap.size ≤ (⟨w.heap.size, 0, none⟩ : Addr).block by simp <;> omega) (.bool s)
 replace q1 := (nC W2 ⟨w.heap.size, 0, none⟩ ⟨w.heap.size, 1, none⟩ (.bool s) (by simp)).trans q1
 replace q2 := (nC W2 ⟨w.heap.size, 0, none⟩ ⟨w.heap.size, 2, none⟩ (.bool s) (by simp)).trans q2
 replace HB := Lib.hid (HB.out.set (p := ⟨w.heap.size, 1, none⟩) (.slice A n c) (by simp <;> omega))
 replace HO0 := Lib.hid (HO0.out.set 1 (.slice A n c))
 replace R3 := Lib.hid (R3.out.set (x := .slice A n c) q1 rfl)
 replace R4 := Lib.hid (R4.out.set (x := .slice A n c) q1 rfl)
 replace hbw := nB4 hbw (show w.heap.size ≤ (⟨w.heap.size, 1, none⟩ : Addr).block by simp <;> omega) (.slice A n c)
 replace q2 := (nC (W2.setCell ⟨w.heap.size, 0, none⟩ (.bool s)) ⟨w.heap.size, 1, none⟩ ⟨w.heap.size, 2, none⟩ (.slice A n c) (by simp)).trans q2
 replace HB := Lib.hid (HB.out.set (p := ⟨w.heap.size, 2, none⟩) (.slice B m k) (by simp <;> omega))
 replace HO0 := Lib.hid (HO0.out.set 2 (.slice B m k))
 replace R3 := Lib.hid (R3.out.set (x := .slice B m k) q2 rfl)
 replace R4 := Lib.hid (R4.out.set (x := .slice B m k) q2 rfl)
 replace hbw := nB4 hbw (show w.heap.size ≤ (⟨w.heap.size, 2, none⟩ : Addr).block by simp <;> omega) (.slice B m k)
 clear q0 f0 q1 f1 q2 f2
 replace HO0 : Hid (Own _ _ _ [.bool s, .slice A n c, .slice B m k]) := HO0
 generalize (((W2.setCell ⟨w.heap.size, 0, none⟩ (.bool s)).setCell ⟨w.heap.size, 1, none⟩ (.slice A n c)).setCell ⟨w.heap.size, 2, none⟩ (.slice B m k)) = W3 at HB HO0 R3 R4 hbw ⊢
 have kk0 := HO0.out.cell 0 _ rfl
 have kk1 := HO0.out.cell 1 _ rfl
 have kk2 := HO0.out.cell 2 _ rfl
 refine bodyPost_ret (v := .agg #[.bool s, .slice A n c, .slice B m k]) (by simp [results, Tryz.results26, go_sem, kk0, kk1, kk2]) rfl ⟨_, rfl, hbw, ?_⟩
 exact ⟨A, c, n, B, k, m, by rw [← HES.out]; rfl, R3.out, R4.out⟩
end Go.Proofs.YtadpjidakippeaaGreat

/- The document's numbers, of one byte: NatBits, NatBytes; nat.FromBytes of them. -/
namespace Go.Proofs.YtadpjidakippeaaGreat
open Go.RowKit
theorem bl_half {x : Nat} (h : 0 < x) : bl x = bl (x / 2) + 1 := by
 refine bl_unique ?_ ?_ (by omega)
 ·
  have := bl_lt (x / 2)
  rw [Nat.pow_succ]; omega
 ·
  rcases Nat.eq_zero_or_pos (x / 2) with h2 | h2
  · rw [h2]; simp [bl_zero]; omega
  ·
   have := bl_ge (n := x / 2) (by omega)
   have h3 : 0 < bl (x / 2) := bl_pos.2 (by omega)
   rw [Nat.add_sub_cancel]
   have : 2 ^ bl (x / 2) = 2 ^ (bl (x / 2) - 1) * 2 := by rw [← Nat.pow_succ]; congr 1; omega
   omega
set_option maxRecDepth 100000 in
set_option maxHeartbeats 1000000 in
/-- NatBits, of one limb -/
theorem rbits_c (w : World) (va : Value) (a : Nat) (ha : rR w va a) (fa : a < B32) : Calls Tryz.prog 127 #[va] w (Post w fun r _ => r = .int .i64 (bl a : Nat)) := by
 obtain ⟨A, c, m, rfl, ha⟩ := ha.shape
 rcases Nat.eq_zero_or_pos a with rfl | a0
 ·
  obtain rfl := ha.nil
  clear ha fa
  have HB : Hid (Cells [] w) := Lib.hid (Cells.nil _)
  have hbw : Below w.heap.size w w := Below.refl _ _
  go_enter Tryz.func127, Tryz.ntmps127
  go_wp2_with fail
  go_ret
  exact ⟨_, rfl, hbw, rfl⟩
 ·
  obtain ⟨rfl, _, g, o, rfl, hc⟩ := ha.one fa a0
  have hb32 : bl a ≤ 32 := bl_le_of_lt (k := 32) fa
  have HF := Lib.hid fa
  clear ha fa
  have HB : Hid (Cells [] w) := Lib.hid (Cells.nil _)
  have hbw : Below w.heap.size w w := Below.refl _ _
  go_enter Tryz.func127, Tryz.ntmps127
  go_upto_block 0 with (fail)
  go_wp2_with fail
  go_loopw [3, 4] (fun t3 t4 W => ∃ k x : Nat, t3 = .int .i64 (k : Nat) ∧ t4 = .int .u32 (x : Nat) ∧ k + bl x = bl a ∧ Below w.heap.size w W) (fun _ t _ => (intOf t).toNat)
  case atStart => exact ⟨0, a, rfl, rfl, by omega, hbw⟩
  case round =>
   obtain ⟨k, x, rfl, rfl, hk, hbe⟩ := hrel
   rcases Nat.eq_zero_or_pos x with rfl | x0
   ·
    have HK := Lib.hid (show k = bl a by rw [bl_zero] at hk; omega)
    clear hk
    go_wp2_with fail
    go_ret
    exact ⟨_, rfl, hbe, by rw [← HK.out]; rfl⟩
   ·
    have hx0 : (0 : Int) < (x : Int) := by omega
    have hkw : IntKind.i64.wrap ((k : Int) + 1) = ((k + 1 : Nat) : Int) := i64w (by omega) (by omega)
    have hk2 : k + 1 + bl (x / 2) = bl a := by rw [bl_half x0] at hk; omega
    obtain ⟨y, ey⟩ : ∃ y, x / 2 = y := ⟨_, rfl⟩
    rw [ey] at hk2
    have hxd : (x : Int) / 2 = (y : Int) := by omega
    have HK := Lib.hid hk2
    have HX := Lib.hid (show y < x by omega)
    clear hk x0 hk2 ey
    go_wp2_with fail
    go_roundw
    case rel => exact ⟨k + 1, y, rfl, rfl, HK.out, hbe⟩
    case measure => simp [intOf]; have := HX.out; omega
/-- A number's bytes, where they are one at most. -/
def byteOf (n : Nat) : List Nat := if n = 0 then [] else [n]
def rBy (w : World) (v : Value) (l : List Nat) : Prop := ∃ A c, v = .slice A l.length c ∧ Words .u8 256 w A c l
theorem info8 : (Tryz.prog.info? 5).map (fun i => (i.zero, i.size, i.bytes)) = some (some (.int .u8 0), 1, 1) := by kernel_rfl
theorem und8 : Tryz.prog.underlying 134 = some (.slice 5) := by kernel_rfl
theorem mk8 (n : Int) (m : Nat) (e : n = m) (hn : m * 1 ≤ 281474976710656) (W : World) : (Instr.makeSlice 134 (.int .i64 n) (.int .i64 n)).run Tryz.prog W = .ok (.slice (some ⟨W.heap.size, 0, none⟩) m m) (W.alloc (.cells (zeroW .u8 m) 5)) := by
 rw [e]; exact mk_words _ _ _ 1 und8 info8 (by omega) m hn W
end Go.Proofs.YtadpjidakippeaaGreat

/- nat.Bytes, NatFrom, of one byte; abaculushand.OutNat, OutInt, Out. -/
namespace Go.Proofs.YtadpjidakippeaaGreat
open Go.RowKit
/-- A number of one word at most. -/
theorem rNat.one {w : World} {A : Option Addr} {m c n : Nat} (h : rNat w (.agg #[.slice A m c]) n) (hn : n < B64) : (n = 0 → m = 0) ∧ (0 < n → m = 1 ∧ ∃ g o, A = some ⟨g, o, none⟩ ∧ w.cell? ⟨g, o, none⟩ = some (.int .u64 (n : Nat))) := by
 obtain ⟨A', c', l, hv, hw, hnn, rfl⟩ := h
 simp only [Value.agg.injEq, Array.mk.injEq, List.cons.injEq, Value.slice.injEq, and_true] at hv
 obtain ⟨rfl, rfl, rfl⟩ := hv
 by_cases hl : l = []
 ·
  subst hl
  exact ⟨fun _ => rfl, fun h => absurd h (by simp [vl])⟩
 ·
  have h1 := vl_ge B64 l hnn hl
  have h3 : 0 < l.length := List.length_pos_iff.2 hl
  have h2 : l.length = 1 := by
   rcases Nat.lt_or_ge 1 l.length with h4 | h4
   ·
    exfalso
    have : B64 ^ 1 ≤ B64 ^ (l.length - 1) := Nat.pow_le_pow_right B64_pos (by omega)
    rw [Nat.pow_one] at this
    omega
   · omega
  have hp : 0 < vl B64 l := Nat.lt_of_lt_of_le (Nat.pow_pos B64_pos) h1
  refine ⟨fun e => absurd e (by omega), fun _ => ?_⟩
  obtain ⟨x, rfl⟩ : ∃ x, l = [x] := List.length_eq_one_iff.1 h2
  obtain ⟨g, o, hA, hc⟩ := hw.2.2 hl
  refine ⟨rfl, g, o, hA, ?_⟩
  have := hc 0 (by simp)
  simpa [vl] using this
theorem byteOf_pos {n : Nat} (h : 0 < n) : byteOf n = [n] := by unfold byteOf; rw [if_neg (by omega)]
set_option maxRecDepth 100000 in
set_option maxHeartbeats 1000000 in
/-- nat.Bytes, of one byte -/
theorem bytes_c (w : World) (v : Value) (a : Nat) (ha : rNat w v a) (fa : a < 256) : Calls Tryz.prog 97 #[v] w (Post w fun r w' => rBy w' r (byteOf a)) := by
 obtain ⟨A, c, m, rfl, ha⟩ := ha.shape
 have f8 : bl a ≤ 8 := bl_le_of_lt (k := 8) fa
 have HB := Lib.hid (fun W h => bits_c W (.agg #[.slice A m c]) a h (by unfold Fit; omega))
 have H1 := Lib.hid ha
 have hone := ha.one (by unfold B64; omega)
 have HX := HB
 clear HB
 rcases Nat.eq_zero_or_pos a with rfl | a0
 ·
  have hmk := mk8 0 0 rfl (by omega)
  rw [show zeroW .u8 0 = #[] from rfl] at hmk
  rw [bl_zero] at HX
  obtain rfl := hone.1 rfl
  clear hone
  have HB : Hid (Cells [(w.heap.size, 0, .slice A 0 c)] (w.alloc (.cells #[.slice A 0 c] 28))) := Lib.hid (Cells.cons (by go_simp) (Cells.nil _))
  have hbw : Below w.heap.size w (w.alloc (.cells #[.slice A 0 c] 28)) := (by repeat (first | assumption | exact nB1 _ _ | refine nB2 ?_ | refine pw_below_drewN ?_ _ | refine nB3 ?_ (by first | omega | (simp <;> omega)) _ | refine nB4 ?_ (by first | omega | (simp <;> omega)) _ | refine nB5 ?_ (by assumption) (by first | omega | (simp <;> omega))))
  clear ha fa f8
  go_enter Tryz.func97, Tryz.ntmps97
  go_wp2_with fail
  generalize (w.alloc (.cells #[.slice A 0 c] 28)) = W0 at HB hbw ⊢
  obtain ⟨y0, _⟩ := id HB.out
  go_wp2_with fail
  clear y0
  refine (HX.out _ (H1.out.ext hbw)).mono ?_
  rintro e W1 ⟨v1, rfl, hb1, rfl⟩
  replace HB := Lib.hid (HB.out.ext hb1)
  replace hbw := nT hbw hb1
  clear hb1
  go_wp2_with fail
  have hbe := Below.alloc hbw hbw.size (.cells #[] 5)
  go_loopw [12] (fun t W => t = .int .i64 0 ∧ Below w.heap.size w W) (fun _ _ => 0)
  case atStart => exact ⟨rfl, hbe⟩
  case round =>
   obtain ⟨rfl, hrel⟩ := hrel
   go_wp2_with fail
   go_ret
   exact ⟨_, rfl, hrel, _, 0, rfl, Words.nil _ _ _ _ _⟩
 ·
  have hmk := mk8 1 1 rfl (by omega)
  rw [show zeroW .u8 1 = #[.int .u8 0] from rfl] at hmk
  obtain ⟨rfl, g, o, rfl, hc⟩ := hone.2 a0
  have hg := cell_lt hc
  obtain ⟨b, eb⟩ : ∃ b, bl a = b := ⟨_, rfl⟩
  have hb0 : 0 < b := by rw [← eb]; exact bl_pos.2 (by omega)
  rw [eb] at HX f8
  have hd : Int.tdiv ((b : Int) + 7) 8 = 1 := by rw [Int.tdiv_eq_ediv_of_nonneg (by omega)]; omega
  have hw : IntKind.i64.wrap ((b : Int) + 7) = (b : Int) + 7 := i64w (by omega) (by omega)
  have hm8 : (a : Int) % 256 = (a : Int) := by omega
  have hw0 : IntKind.i64.wrap 0 = 0 := rfl
  have HC := Lib.hid hc
  have HA := Lib.hid (And.intro a0 fa)
  clear hone
  have HB : Hid (Cells [(w.heap.size, 0, .slice (some ⟨g, o, none⟩) 1 c)] (w.alloc (.cells #[.slice (some ⟨g, o, none⟩) 1 c] 28))) := Lib.hid (Cells.cons (by go_simp) (Cells.nil _))
  have hbw : Below w.heap.size w (w.alloc (.cells #[.slice (some ⟨g, o, none⟩) 1 c] 28)) := (by repeat (first | assumption | exact nB1 _ _ | refine nB2 ?_ | refine pw_below_drewN ?_ _ | refine nB3 ?_ (by first | omega | (simp <;> omega)) _ | refine nB4 ?_ (by first | omega | (simp <;> omega)) _ | refine nB5 ?_ (by assumption) (by first | omega | (simp <;> omega))))
  clear ha fa a0 eb f8 hb0 hc
  go_enter Tryz.func97, Tryz.ntmps97
  go_wp2_with fail
  generalize (w.alloc (.cells #[.slice (some ⟨g, o, none⟩) 1 c] 28)) = W0 at HB hbw ⊢
  obtain ⟨y0, _⟩ := id HB.out
  go_wp2_with fail
  clear y0
  refine (HX.out _ (H1.out.ext hbw)).mono ?_
  rintro e W1 ⟨v1, rfl, hb1, rfl⟩
  replace HB := Lib.hid (HB.out.ext hb1)
  replace hbw := nT hbw hb1
  clear hb1
  have gl : w.heap.size < W1.heap.size := cell_lt HB.out.1
  have hne : g ≠ W1.heap.size := by omega
  have HXA := Lib.hid (ext_cell (ext_alloc W1 (.cells #[.int .u8 0] 5)) (ext_cell hbw HC.out))
  have HXB := Lib.hid (ext_cell (ext_alloc W1 (.cells #[.int .u8 0] 5)) HB.out.1)
  have hbe := Below.alloc hbw hbw.size (.cells #[.int .u8 0] 5)
  go_wp2_with fail
  go_loopw [12] (fun t W => ∃ k x : Nat, t = .int .i64 (k : Nat) ∧ ((k = 0 ∧ x = 0) ∨ (k = 1 ∧ x = a)) ∧ Below w.heap.size w W ∧ W.cell? ⟨g, o, none⟩ = some (.int .u64 (a : Nat)) ∧ W.cell? ⟨w.heap.size, 0, none⟩ = some (.slice (some ⟨g, o, none⟩) 1 c) ∧ Own W W1.heap.size 5 [.int .u8 (x : Nat)]) (fun t _ => (1 - intOf t).toNat)
  case atStart => exact ⟨0, 0, rfl, .inl ⟨rfl, rfl⟩, hbe, HXA.out, HXB.out, Own.new W1 5 [.int .u8 0]⟩
  case round =>
   obtain ⟨k, x, rfl, hk, hbw', xa, xb, ho⟩ := hrel
   have HO := Lib.hid ho
   have q0 := ho.cell 0 _ rfl
   have f0 := ho.frozen 0
   clear ho
   rcases hk with ⟨rfl, rfl⟩ | ⟨rfl, rfl⟩
   ·
    have XA := Lib.hid ((nC wr ⟨W1.heap.size, 0, none⟩ ⟨g, o, none⟩ (.int .u8 (a : Nat)) (by simp <;> omega)).trans xa)
    have XB := Lib.hid ((nC wr ⟨W1.heap.size, 0, none⟩ ⟨w.heap.size, 0, none⟩ (.int .u8 (a : Nat)) (by simp <;> omega)).trans xb)
    go_wp2_with fail
    go_roundw
    case rel => exact ⟨1, a, rfl, .inr ⟨rfl, rfl⟩, hbw'.setCell (by simp <;> omega) _, XA.out, XB.out, HO.out.set 0 _⟩
    case measure => simp [intOf]
   ·
    go_wp2_with fail
    go_ret
    refine ⟨_, rfl, hbw', ?_⟩
    rw [byteOf_pos HA.out.1]
    exact ⟨_, 1, rfl, own_words (k := .u8) (l := [x]) (by simpa [wv] using HO.out) (by intro y hy; simp at hy; rw [hy]; exact HA.out.2) 1 (by simp)⟩
end Go.Proofs.YtadpjidakippeaaGreat
