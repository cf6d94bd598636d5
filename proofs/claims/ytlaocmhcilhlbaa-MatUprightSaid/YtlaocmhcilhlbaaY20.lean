/- mat.Part. -/
import Derived.Test.YtlaocmhcilhlbaaY19
import Derived.Test.YtlaocmhcilhlbaaY18
import Derived.Laws.AppendOwn
set_option linter.unusedVariables false
set_option linter.unusedSimpArgs false
namespace Go.Proofs.Ytlaocmhcilhlbaa
open Go.RowKit
theorem DotSaid.open {W : World} {v : Value} {a b : List Rat} (h : DotSaid W v a b) : ∃ s A c n B k m, v = .tuple #[.agg #[.bool s, .slice A n c, .slice B m k], .bool (decide (a.length = b.length))] ∧ rQ W (.agg #[.bool s, .slice A n c, .slice B m k]) (if a.length = b.length then dot a b else 0) := by
  obtain ⟨q, hv, h⟩ := h
  obtain ⟨s, A, c, n, B, k, m, rfl, h⟩ := h.shape
  exact ⟨s, A, c, n, B, k, m, hv, h⟩
theorem QDivSaid.open {W : World} {v : Value} {a b : Rat} (h : QDivSaid W v a b) : ∃ s A c n B k m, v = .tuple #[.agg #[.bool s, .slice A n c, .slice B m k], .bool (decide (b ≠ 0))] ∧ rQ W (.agg #[.bool s, .slice A n c, .slice B m k]) (a / b) := by
  obtain ⟨q, hv, h⟩ := h
  obtain ⟨s, A, c, n, B, k, m, rfl, h⟩ := h.shape
  exact ⟨s, A, c, n, B, k, m, hv, h⟩
/-- A list of fractions that is being filled: k of n are there. -/
structure FillQ (W : World) (b n k : Nat) (f : Nat → Rat) : Prop where
  own : ∃ cs : List Value, Own W b 34 cs ∧ cs.length = 3 * n ∧ ∀ (i : Nat) (v : Value), cs[i]? = some v → noInt v = true
  got : ∀ j, j < k → ∃ s u r, W.cell? ⟨b, j * 3, none⟩ = some (.bool s) ∧ W.cell? ⟨b, j * 3 + 1, none⟩ = some u ∧ W.cell? ⟨b, j * 3 + 2, none⟩ = some r ∧ rQ W (.agg #[.bool s, u, r]) (f j)
theorem FillQ.ext {W W' : World} {b n k : Nat} {f : Nat → Rat} (h : FillQ W b n k f) (he : Ext W W') : FillQ W' b n k f := by
  obtain ⟨⟨cs, h1, h2⟩, h3⟩ := h
  refine ⟨⟨cs, h1.ext he, h2⟩, fun j hj => ?_⟩
  obtain ⟨s, u, r, e1, e2, e3, e4⟩ := h3 j hj
  exact ⟨s, u, r, ext_cell he e1, ext_cell he e2, ext_cell he e3, e4.ext he⟩
theorem FillQ.drew {W : World} {b n k : Nat} {f : Nat → Rat} (h : FillQ W b n k f) : FillQ W.drew b n k f := ⟨h.own, h.got⟩
theorem FillQ.alloc {W : World} {b n k : Nat} {f : Nat → Rat} (h : FillQ W b n k f) (o : Obj) : FillQ (W.alloc o) b n k f := h.ext (ext_alloc _ _)
theorem FillQ.lt {W : World} {b n k : Nat} {f : Nat → Rat} (h : FillQ W b n k f) : b < W.heap.size := by obtain ⟨⟨cs, h1, _⟩, _⟩ := h; exact h1.lt
theorem FillQ.cell {W : World} {b n k : Nat} {f : Nat → Rat} (h : FillQ W b n k f) (i : Nat) (hi : i < 3 * n) : ∃ v, W.cell? ⟨b, i, none⟩ = some v ∧ noInt v = true ∧ W.frozen? ⟨b, i, none⟩ = false := by
  obtain ⟨⟨cs, h1, h2, h3⟩, _⟩ := h
  have hi' : i < cs.length := by omega
  refine ⟨cs[i], h1.cell i _ (List.getElem?_eq_getElem hi'), h3 i _ (List.getElem?_eq_getElem hi'), h1.frozen i⟩
theorem FillQ.other {W : World} {b n k : Nat} {f : Nat → Rat} (h : FillQ W b n k f) {p : Addr} (v : Value) {u : Value} (hp : b ≠ p.block) (hc : W.cell? p = some u) (hu : noInt u = true) : FillQ (W.setCell p v) b n k f := by
  obtain ⟨⟨cs, h1, h2⟩, h3⟩ := h
  refine ⟨⟨cs, h1.other v hp, h2⟩, fun j hj => ?_⟩
  obtain ⟨s, u, r, e1, e2, e3, e4⟩ := h3 j hj
  have ne : ∀ i, p ≠ (⟨b, i, none⟩ : Addr) := fun i e => hp (by rw [e])
  exact ⟨s, u, r, (World.cell?_setCell_other _ _ _ _ (ne _)).trans e1, (World.cell?_setCell_other _ _ _ _ (ne _)).trans e2, (World.cell?_setCell_other _ _ _ _ (ne _)).trans e3, e4.set hc hu⟩
theorem FillQ.set1 {W : World} {b n k : Nat} {f : Nat → Rat} (h : FillQ W b n k f) (i : Nat) (v : Value) (h1 : k * 3 ≤ i) (h2 : i < 3 * n) (hv : noInt v = true) : FillQ (W.setCell ⟨b, i, none⟩ v) b n k f := by
  obtain ⟨u, hc, hu, _⟩ := h.cell i h2
  obtain ⟨⟨cs, o1, o2, o3⟩, h3⟩ := h
  refine ⟨⟨cs.set i v, o1.set i v, by simpa using o2, fun j x hx => ?_⟩, fun j hj => ?_⟩
  · rw [List.getElem?_set] at hx
    split at hx
    · split at hx
      · injection hx with hx; rw [← hx]; exact hv
      · cases hx
    · exact o3 _ _ hx
  · obtain ⟨s, u', r, e1, e2, e3, e4⟩ := h3 j hj
    have ne : ∀ m, m < k * 3 → (⟨b, i, none⟩ : Addr) ≠ ⟨b, m, none⟩ := fun m hm e => by injection e with _ e; omega
    exact ⟨s, u', r, (World.cell?_setCell_other _ _ _ _ (ne _ (by omega))).trans e1, (World.cell?_setCell_other _ _ _ _ (ne _ (by omega))).trans e2, (World.cell?_setCell_other _ _ _ _ (ne _ (by omega))).trans e3, e4.set hc hu⟩
theorem FillQ.set3 {W : World} {b n k : Nat} {f : Nat → Rat} (h : FillQ W b n k f) (hk : k < n) {s : Bool} {A B : Option Addr} {x c m d : Nat} (hq : rQ W (.agg #[.bool s, .slice A x c, .slice B m d]) (f k)) :
    FillQ (((W.setCell ⟨b, k * 3, none⟩ (.bool s)).setCell ⟨b, k * 3 + 1, none⟩ (.slice A x c)).setCell ⟨b, k * 3 + 2, none⟩ (.slice B m d)) b n (k + 1) f := by
  have g1 := h.set1 (k * 3) (.bool s) (by omega) (by omega) rfl
  have g2 := g1.set1 (k * 3 + 1) (.slice A x c) (by omega) (by omega) rfl
  have g3 := g2.set1 (k * 3 + 2) (.slice B m d) (by omega) (by omega) rfl
  obtain ⟨u0, c0, n0, _⟩ := h.cell (k * 3) (by omega)
  obtain ⟨u1, c1, n1, _⟩ := g1.cell (k * 3 + 1) (by omega)
  obtain ⟨u2, c2, n2, _⟩ := g2.cell (k * 3 + 2) (by omega)
  refine ⟨g3.own, fun j hj => ?_⟩
  rcases Nat.lt_or_ge j k with hjk | hjk
  · exact g3.got j hjk
  · obtain rfl : j = k := by omega
    obtain ⟨⟨cs, o1, o2, _⟩, _⟩ := h
    have s1 := o1.set (j * 3) (.bool s)
    have s2 := s1.set (j * 3 + 1) (.slice A x c)
    have s3 := s2.set (j * 3 + 2) (.slice B m d)
    refine ⟨s, _, _, s3.cell _ _ ?_, s3.cell _ _ ?_, s3.cell _ _ ?_, ((hq.set c0 n0).set c1 n1).set c2 n2⟩
    · rw [List.getElem?_set_ne (by omega), List.getElem?_set_ne (by omega), List.getElem?_set_self (by omega)]
    · rw [List.getElem?_set_ne (by omega), List.getElem?_set_self (by simp; omega)]
    · rw [List.getElem?_set_self (by simp; omega)]
def zeroQ : Array Value := #[.bool false, .slice none 0 0, .slice none 0 0]
theorem undQs : Try.prog.underlying 24 = some (.slice 34) := by kernel_rfl
theorem infoQ2 : ∃ i z, Try.prog.info? 34 = some i ∧ i.zero = some z ∧ z.cells = zeroQ ∧ i.size = 3 ∧ i.bytes ≤ 64 := by
  have h : (Try.prog.info? 34).map (fun i => (i.zero.map Value.cells, i.size, decide (i.bytes ≤ 64))) = some (some zeroQ, 3, true) := by kernel_rfl
  obtain ⟨i, hi, he⟩ := Option.map_eq_some_iff.1 h
  simp only [Prod.mk.injEq] at he
  obtain ⟨z, hz, hc⟩ := Option.map_eq_some_iff.1 he.1
  exact ⟨i, z, hi, hz, hc, he.2.1, of_decide_eq_true he.2.2⟩
theorem mkQ (n : Int) (m : Nat) (e : n = m) (hn : m ≤ 1099511627776) (W : World) : (Instr.makeSlice 24 (.int .i64 n) (.int .i64 n)).run Try.prog W = .ok (.slice (some ⟨W.heap.size, 0, none⟩) m m) (W.alloc (.cells (madeCells zeroQ (m * 3)) 34)) := by
  subst e
  obtain ⟨i, z, hi, hz, h1, h2, h3⟩ := infoQ2
  have hb : (i.bytes : Int) * (m : Int) ≤ 64 * m := Int.mul_le_mul_of_nonneg_right (by omega) (by omega)
  have h := run_make (P := Try.prog) W _ _ i z undQs hi hz .i64 .i64 m m (by omega) (by omega) (by omega) (by omega)
  rw [h, h1, h2]
  simp
theorem FillQ.start (w : World) (n : Nat) (f : Nat → Rat) : FillQ (w.alloc (.cells (madeCells zeroQ (n * 3)) 34)) w.heap.size n 0 f := by
  refine ⟨⟨(madeCells zeroQ (n * 3)).toList, by have := Own.new w 34 (madeCells zeroQ (n * 3)).toList; simpa using this, by rw [Array.length_toList, size_madeCells]; omega, fun i v h => ?_⟩, fun j hj => absurd hj (by omega)⟩
  have h2 : v ∈ (madeCells zeroQ (n * 3)).toList := List.mem_of_getElem? h
  simp only [madeCells, Array.toList_map, List.mem_map] at h2
  obtain ⟨j, _, rfl⟩ := h2
  have h3 : j % zeroQ.size < 3 := Nat.mod_lt _ (by decide)
  generalize j % zeroQ.size = x at h3
  match x, h3 with
  | 0, _ => rfl
  | 1, _ => rfl
  | 2, _ => rfl
theorem FillQ.done {W : World} {b n : Nat} {f : Nat → Rat} (h : FillQ W b n n f) (l : List Rat) (hl : l.length = n) (hf : ∀ j (hj : j < l.length), f j = l[j]) : rQs W (.slice (some ⟨b, 0, none⟩) n n) l := by
  refine ⟨_, n, by rw [hl], by omega, fun _ => ⟨b, 0, rfl, fun j hj => ?_⟩⟩
  obtain ⟨s, u, r, e1, e2, e3, e4⟩ := h.got j (by omega)
  simp only [Nat.zero_add]
  exact ⟨s, u, r, e1, e2, e3, by rw [← hf j hj]; exact e4⟩
theorem sets3 {W : World} {b i : Nat} {v0 v1 v2 x0 x1 x2 : Value} (h0 : W.cell? ⟨b, i, none⟩ = some v0) (h1 : W.cell? ⟨b, i + 1, none⟩ = some v1) (h2 : W.cell? ⟨b, i + 2, none⟩ = some v2) (n0 : noInt v0 = true) (n1 : noInt v1 = true) (n2 : noInt v2 = true)
    {v : Value} {q : Rat} (h : rQ W v q) : rQ (((W.setCell ⟨b, i, none⟩ x0).setCell ⟨b, i + 1, none⟩ x1).setCell ⟨b, i + 2, none⟩ x2) v q := by
  have e1 := (World.cell?_setCell_other W ⟨b, i, none⟩ ⟨b, i + 1, none⟩ x0 (by simp)).trans h1
  have e2 := (World.cell?_setCell_other W ⟨b, i, none⟩ ⟨b, i + 2, none⟩ x0 (by simp)).trans h2
  have e3 := (World.cell?_setCell_other (W.setCell ⟨b, i, none⟩ x0) ⟨b, i + 1, none⟩ ⟨b, i + 2, none⟩ x1 (by simp)).trans e2
  exact ((h.set h0 n0).set e1 n1).set e3 n2
theorem Own.others3 {W : World} {b b' i : Nat} {t : TypeId} {cs : List Value} {x0 x1 x2 : Value} (h : Own W b' t cs) (hne : b' ≠ b) : Own (((W.setCell ⟨b, i, none⟩ x0).setCell ⟨b, i + 1, none⟩ x1).setCell ⟨b, i + 2, none⟩ x2) b' t cs :=
  ((h.other _ hne).other _ hne).other _ hne
theorem FillQ.others3 {W : World} {b b' n k i : Nat} {f : Nat → Rat} {v0 v1 v2 x0 x1 x2 : Value} (h : FillQ W b n k f) (hne : b ≠ b') (h0 : W.cell? ⟨b', i, none⟩ = some v0) (h1 : W.cell? ⟨b', i + 1, none⟩ = some v1) (h2 : W.cell? ⟨b', i + 2, none⟩ = some v2) (n0 : noInt v0 = true) (n1 : noInt v1 = true) (n2 : noInt v2 = true) :
    FillQ (((W.setCell ⟨b', i, none⟩ x0).setCell ⟨b', i + 1, none⟩ x1).setCell ⟨b', i + 2, none⟩ x2) b n k f := by
  have e1 := (World.cell?_setCell_other W ⟨b', i, none⟩ ⟨b', i + 1, none⟩ x0 (by simp)).trans h1
  have e2 := (World.cell?_setCell_other W ⟨b', i, none⟩ ⟨b', i + 2, none⟩ x0 (by simp)).trans h2
  have e3 := (World.cell?_setCell_other (W.setCell ⟨b', i, none⟩ x0) ⟨b', i + 1, none⟩ ⟨b', i + 2, none⟩ x1 (by simp)).trans e2
  exact ((h.other x0 hne h0 n0).other x1 hne e1 n1).other x2 hne e3 n2
theorem below3 {w W : World} {b i : Nat} {x0 x1 x2 : Value} (h : Below w.heap.size w W) (hb : w.heap.size ≤ b) : Below w.heap.size w (((W.setCell ⟨b, i, none⟩ x0).setCell ⟨b, i + 1, none⟩ x1).setCell ⟨b, i + 2, none⟩ x2) :=
  ((h.setCell hb _).setCell hb _).setCell hb _
/-- What is left of x without q times y. -/
def less (x y : List Rat) (q : Rat) : List Rat := (List.range x.length).map (fun i => x.getD i 0 - q * y.getD i 0)
structure PartIn (w : World) (b11 bL n k : Nat) (f : Nat → Rat) (q : Rat) (s : Bool) (u r : Value) (W : World) : Prop where
  be : Below w.heap.size w W
  o4 : Own W w.heap.size 34 [.bool false, .slice none 0 0, .slice none 0 0]
  o11 : Own W b11 34 [.bool s, u, r]
  hq : rQ W (.agg #[.bool s, u, r]) q
  fl : FillQ W bL n k f
def PartSaid (w' : World) (v : Value) (x y : List Rat) : Prop :=
  if x.length = y.length ∧ x.length ≠ 0 then
    if dot y y = 0 then ∃ q, v = .tuple #[q, .slice none 0 0, .int .i64 6] ∧ rQ w' q 0
    else ∃ q l, v = .tuple #[q, l, .int .i64 0] ∧ rQ w' q (dot x y / dot y y) ∧ rQs w' l (less x y (dot x y / dot y y))
  else ∃ q, v = .tuple #[q, .slice none 0 0, .int .i64 5] ∧ rQ w' q 0
set_option maxRecDepth 100000 in
set_option maxHeartbeats 4000000 in
/-- mat.Part -/
theorem part_c (w : World) (vx vy : Value) (x y : List Rat) (hx : rQs w vx x) (hy : rQs w vy y) (hl : x.length ≤ 1099511627776) (hl2 : y.length ≤ 1099511627776) (hf : 4 * (wt x + wt y) ≤ 35184372088400) :
    Calls Try.prog 8 #[vx, vy] w (Post w fun r w' => PartSaid w' r x y) := by
  obtain ⟨A, c, rfl, hx⟩ := hx.shape
  obtain ⟨B, d, rfl, hy⟩ := hy.shape
  have HXY := Lib.hid (fun W h h' => dot_c W (.slice A x.length c) (.slice B y.length d) x y h h' hl hl2 (by omega))
  have HYY := Lib.hid (fun W h => dot_c W (.slice B y.length d) (.slice B y.length d) y y h h hl2 hl2 (by omega))
  have H1 := Lib.hid hx
  have H2 := Lib.hid hy
  have HX' := Lib.hid (fun W h h' => (HXY.out W h h').mono (fun _ _ h => h.map (fun _ _ h => h.open)))
  obtain ⟨xy, exy⟩ : ∃ q, (if x.length = y.length then dot x y else 0) = q := ⟨_, rfl⟩
  rw [exy] at HX'
  by_cases hab : x.length = y.length
  · by_cases h0 : x.length = 0
    · rw [decide_eq_true hab] at HX'
      have HNO := Lib.hid (show ¬ (x.length = y.length ∧ x.length ≠ 0) from fun h => h.2 h0)
      have hn0 : ((x.length : Int) == 0) = true := by rw [beq_iff_eq]; omega
      have hn1 : (x.length : Int) = 0 := by omega
      clear HXY HYY hx hy hl hl2 hf exy h0 hab
      have HB : Hid (Cells [] (w.alloc (.cells #[.bool false, .slice none 0 0, .slice none 0 0] 34))) := Lib.hid (Cells.nil _)
      have HO0 := Lib.hid (Own.new' w 34 [.bool false, .slice none 0 0, .slice none 0 0] (w.heap.size) (by simp))
      have hbw : Below w.heap.size w (w.alloc (.cells #[.bool false, .slice none 0 0, .slice none 0 0] 34)) := (by repeat (first | assumption | exact Below.refl _ _ | refine Below.drew ?_ | refine pw_below_drewN ?_ _ | refine Below.alloc ?_ (by first | omega | (simp <;> omega)) _ | refine Below.setCell ?_ (by first | omega | (simp <;> omega)) _ | refine Below.trans ?_ (Below.mono (by assumption) (by first | omega | (simp <;> omega)))))
      go_enter Try.func8, Try.ntmps8
      go_wp2_with fail
      generalize (w.alloc (.cells #[.bool false, .slice none 0 0, .slice none 0 0] 34)) = W0 at HB HO0 hbw ⊢
      refine (HX'.out _ (H1.out.ext hbw) (H2.out.ext hbw)).mono ?_
      rintro e W1 ⟨v1, rfl, hb1, s1, A1, c1, n1, B1, k1, m1, rfl, hr1⟩
      replace HB := Lib.hid (HB.out.ext hb1)
      replace HO0 := Lib.hid (HO0.out.ext hb1)
      replace hbw := Below.trans hbw (Below.mono hb1 hbw.size)
      have R1 := Lib.hid hr1
      clear hr1
      clear hb1
      go_upto_region 2 with (fail)
      have z_H7 := hbw.size
      have z_H7_HO0 := HO0.out.lt
      replace HB := Lib.hid (HB.out.alloc (.cells #[.bool s1, .slice A1 n1 c1, .slice B1 m1 k1] 34))
      replace HO0 := Lib.hid (HO0.out.alloc (.cells #[.bool s1, .slice A1 n1 c1, .slice B1 m1 k1] 34))
      replace R1 := Lib.hid (R1.out.alloc (.cells #[.bool s1, .slice A1 n1 c1, .slice B1 m1 k1] 34))
      replace hbw := Below.alloc hbw hbw.size (.cells #[.bool s1, .slice A1 n1 c1, .slice B1 m1 k1] 34)
      have H7 := Lib.hid (Own.new' W1 34 [.bool s1, .slice A1 n1 c1, .slice B1 m1 k1] W1.heap.size rfl)
      obtain ⟨bH7, e_H7⟩ : ∃ b, W1.heap.size = b := ⟨_, rfl⟩
      simp only [e_H7] at H7 z_H7 z_H7_HO0 ⊢
      generalize (W1.alloc (.cells #[.bool s1, .slice A1 n1 c1, .slice B1 m1 k1] 34)) = W2 at HB HO0 R1 H7 hbw ⊢
      have q0 := HO0.out.cell 0 _ rfl
      have f0 := HO0.out.frozen 0
      have q1 := HO0.out.cell 1 _ rfl
      have f1 := HO0.out.frozen 1
      have q2 := HO0.out.cell 2 _ rfl
      have f2 := HO0.out.frozen 2
      go_wp2_with fail
      replace HB := Lib.hid (HB.out.set (p := ⟨w.heap.size, 0, none⟩) (.bool false) (by simp <;> omega))
      replace HO0 := Lib.hid (HO0.out.set 0 (.bool false))
      replace R1 := Lib.hid (R1.out.set (x := .bool false) q0 rfl)
      replace H7 := Lib.hid (H7.out.other (p := ⟨w.heap.size, 0, none⟩) (.bool false) (by simp <;> omega))
      replace hbw := Below.setCell hbw (show w.heap.size ≤ (⟨w.heap.size, 0, none⟩ : Addr).block by simp <;> omega) (.bool false)
      replace q1 := (World.cell?_setCell_other W2 ⟨w.heap.size, 0, none⟩ ⟨w.heap.size, 1, none⟩ (.bool false) (by simp)).trans q1
      replace q2 := (World.cell?_setCell_other W2 ⟨w.heap.size, 0, none⟩ ⟨w.heap.size, 2, none⟩ (.bool false) (by simp)).trans q2
      replace HB := Lib.hid (HB.out.set (p := ⟨w.heap.size, 1, none⟩) (.slice none 0 0) (by simp <;> omega))
      replace HO0 := Lib.hid (HO0.out.set 1 (.slice none 0 0))
      replace R1 := Lib.hid (R1.out.set (x := .slice none 0 0) q1 rfl)
      replace H7 := Lib.hid (H7.out.other (p := ⟨w.heap.size, 1, none⟩) (.slice none 0 0) (by simp <;> omega))
      replace hbw := Below.setCell hbw (show w.heap.size ≤ (⟨w.heap.size, 1, none⟩ : Addr).block by simp <;> omega) (.slice none 0 0)
      replace q2 := (World.cell?_setCell_other (W2.setCell ⟨w.heap.size, 0, none⟩ (.bool false)) ⟨w.heap.size, 1, none⟩ ⟨w.heap.size, 2, none⟩ (.slice none 0 0) (by simp)).trans q2
      replace HB := Lib.hid (HB.out.set (p := ⟨w.heap.size, 2, none⟩) (.slice none 0 0) (by simp <;> omega))
      replace HO0 := Lib.hid (HO0.out.set 2 (.slice none 0 0))
      replace R1 := Lib.hid (R1.out.set (x := .slice none 0 0) q2 rfl)
      replace H7 := Lib.hid (H7.out.other (p := ⟨w.heap.size, 2, none⟩) (.slice none 0 0) (by simp <;> omega))
      replace hbw := Below.setCell hbw (show w.heap.size ≤ (⟨w.heap.size, 2, none⟩ : Addr).block by simp <;> omega) (.slice none 0 0)
      clear q0 f0 q1 f1 q2 f2
      replace HO0 : Hid (Own _ _ _ [.bool false, .slice none 0 0, .slice none 0 0]) := HO0
      generalize (((W2.setCell ⟨w.heap.size, 0, none⟩ (.bool false)).setCell ⟨w.heap.size, 1, none⟩ (.slice none 0 0)).setCell ⟨w.heap.size, 2, none⟩ (.slice none 0 0)) = W3 at HB HO0 R1 H7 hbw ⊢
      have kk0 := HO0.out.cell 0 _ rfl
      have kk1 := HO0.out.cell 1 _ rfl
      have kk2 := HO0.out.cell 2 _ rfl
      refine bodyPost_ret (v := .tuple #[.agg #[.bool false, .slice none 0 0, .slice none 0 0], .slice none 0 0, .int .i64 5]) (by simp [results, Try.results8, go_sem, kk0, kk1, kk2]) rfl ⟨_, rfl, hbw, ?_⟩
      show PartSaid _ _ _ _
      unfold PartSaid
      rw [if_neg HNO.out]
      exact ⟨_, rfl, rQd.mk (by exact ⟨_, rNat.zero _, rfl⟩) (rNat.zero _)⟩
    · clear HX' exy xy
      obtain ⟨n, en⟩ : ∃ n, y.length = n := ⟨_, rfl⟩
      have hxn : x.length = n := hab.trans en
      have b1 := qb_dotTo x y hab x.length (Nat.le_refl _)
      have b2 := qb_dotTo y y rfl y.length (Nat.le_refl _)
      have b3 : qb (dotTo x y x.length) ≤ 1 + wt x + wt y := Nat.le_trans b1 (by have := wt_take_le x x.length; have := wt_take_le y x.length; omega)
      have b4 : qb (dotTo y y y.length) ≤ 1 + wt y + wt y := Nat.le_trans b2 (by have := wt_take_le y y.length; omega)
      obtain ⟨xy, exy⟩ : ∃ q, dot x y = q := ⟨_, rfl⟩
      obtain ⟨yy, eyy⟩ : ∃ q, dot y y = q := ⟨_, rfl⟩
      have HX' := Lib.hid (fun W h h' => (HXY.out W h h').mono (fun _ _ h => h.map (fun _ _ h => h.open)))
      have HY' := Lib.hid (fun W h => (HYY.out W h).mono (fun _ _ h => h.map (fun _ _ h => h.open)))
      rw [if_pos hab, exy, decide_eq_true hab, hxn, en] at HX'
      rw [if_pos rfl, eyy, decide_eq_true rfl, en] at HY'
      have hdiv := fun W v u h h' => qdiv_c W v u xy yy h h' (by rw [← exy, ← eyy]; unfold dot; omega)
      have HDV := Lib.hid (fun W v u h h' => (hdiv W v u h h').mono (fun _ _ h => h.map (fun _ _ h => h.open)))
      obtain ⟨kq, ekq⟩ : ∃ q, xy / yy = q := ⟨_, rfl⟩
      have hkq : qb kq ≤ 2 + wt x + 3 * wt y := by rw [← ekq, ← exy, ← eyy]; have := qb_div (dot x y) (dot y y); unfold dot at *; omega
      obtain ⟨bb, ebb⟩ : ∃ b, decide (yy ≠ 0) = b := ⟨_, rfl⟩
      rw [ekq, ebb] at HDV
      have HPS : Hid (∀ W v, (if yy = 0 then ∃ q, v = .tuple #[q, .slice none 0 0, .int .i64 6] ∧ rQ W q 0 else ∃ q l, v = .tuple #[q, l, .int .i64 0] ∧ rQ W q kq ∧ rQs W l (less x y kq)) → PartSaid W v x y) := by
        refine Lib.hid (fun W v h => ?_)
        unfold PartSaid
        rw [if_pos ⟨hab, h0⟩, exy, eyy, ekq]
        exact h
      rw [hxn] at hx
      rw [en] at hy
      have H1 := Lib.hid hx
      have H2 := Lib.hid hy
      have HL1 := Lib.hid hl
      rw [hxn]
      have hn0 : ((n : Int) == 0) = false := by rw [beq_eq_false_iff_ne]; omega
      have hn1 : ¬ (n : Int) = 0 := by omega
      have hn2 : ¬ n = 0 := by omega
      have hn40 : n ≤ 1099511627776 := by omega
      have HXN := Lib.hid hxn
      have HYN := Lib.hid en
      have HKQ := Lib.hid hkq
      have HF := Lib.hid hf
      have HBB := Lib.hid ebb
      rw [en]
      clear HXY HYY hdiv hx hy hl hl2 hf hab h0 hxn en exy eyy ekq hkq b1 b2 b3 b4 ebb
      have HB : Hid (Cells [] (w.alloc (.cells #[.bool false, .slice none 0 0, .slice none 0 0] 34))) := Lib.hid (Cells.nil _)
      have HO0 := Lib.hid (Own.new' w 34 [.bool false, .slice none 0 0, .slice none 0 0] (w.heap.size) (by simp))
      have hbw : Below w.heap.size w (w.alloc (.cells #[.bool false, .slice none 0 0, .slice none 0 0] 34)) := (by repeat (first | assumption | exact Below.refl _ _ | refine Below.drew ?_ | refine pw_below_drewN ?_ _ | refine Below.alloc ?_ (by first | omega | (simp <;> omega)) _ | refine Below.setCell ?_ (by first | omega | (simp <;> omega)) _ | refine Below.trans ?_ (Below.mono (by assumption) (by first | omega | (simp <;> omega)))))
      go_enter Try.func8, Try.ntmps8
      go_wp2_with fail
      generalize (w.alloc (.cells #[.bool false, .slice none 0 0, .slice none 0 0] 34)) = W0 at HB HO0 hbw ⊢
      refine (HX'.out _ (H1.out.ext hbw) (H2.out.ext hbw)).mono ?_
      rintro e W1 ⟨v1, rfl, hb1, s1, A1, c1, n1, B1, k1, m1, rfl, hr1⟩
      replace HB := Lib.hid (HB.out.ext hb1)
      replace HO0 := Lib.hid (HO0.out.ext hb1)
      replace hbw := Below.trans hbw (Below.mono hb1 hbw.size)
      have R1 := Lib.hid hr1
      clear hr1
      clear hb1
      go_upto_region 2 with (fail)
      have z_H7 := hbw.size
      have z_H7_HO0 := HO0.out.lt
      replace HB := Lib.hid (HB.out.alloc (.cells #[.bool s1, .slice A1 n1 c1, .slice B1 m1 k1] 34))
      replace HO0 := Lib.hid (HO0.out.alloc (.cells #[.bool s1, .slice A1 n1 c1, .slice B1 m1 k1] 34))
      replace R1 := Lib.hid (R1.out.alloc (.cells #[.bool s1, .slice A1 n1 c1, .slice B1 m1 k1] 34))
      replace hbw := Below.alloc hbw hbw.size (.cells #[.bool s1, .slice A1 n1 c1, .slice B1 m1 k1] 34)
      have H7 := Lib.hid (Own.new' W1 34 [.bool s1, .slice A1 n1 c1, .slice B1 m1 k1] W1.heap.size rfl)
      obtain ⟨bH7, e_H7⟩ : ∃ b, W1.heap.size = b := ⟨_, rfl⟩
      simp only [e_H7] at H7 z_H7 z_H7_HO0 ⊢
      generalize (W1.alloc (.cells #[.bool s1, .slice A1 n1 c1, .slice B1 m1 k1] 34)) = W2 at HB HO0 R1 H7 hbw ⊢
      go_wp2_with fail
      refine (HY'.out _ (H2.out.ext hbw)).mono ?_
      rintro e W3 ⟨v1, rfl, hb1, s2, A2, c2, n2, B2, k2, m2, rfl, hr1⟩
      replace HB := Lib.hid (HB.out.ext hb1)
      replace HO0 := Lib.hid (HO0.out.ext hb1)
      replace R1 := Lib.hid (R1.out.ext hb1)
      replace H7 := Lib.hid (H7.out.ext hb1)
      replace hbw := Below.trans hbw (Below.mono hb1 hbw.size)
      have R2 := Lib.hid hr1
      clear hr1
      clear hb1
      go_upto_region 5 with (fail)
      have z_H9 := hbw.size
      have z_H9_HO0 := HO0.out.lt
      have z_H9_H7 := H7.out.lt
      replace HB := Lib.hid (HB.out.alloc (.cells #[.bool s2, .slice A2 n2 c2, .slice B2 m2 k2] 34))
      replace HO0 := Lib.hid (HO0.out.alloc (.cells #[.bool s2, .slice A2 n2 c2, .slice B2 m2 k2] 34))
      replace R1 := Lib.hid (R1.out.alloc (.cells #[.bool s2, .slice A2 n2 c2, .slice B2 m2 k2] 34))
      replace H7 := Lib.hid (H7.out.alloc (.cells #[.bool s2, .slice A2 n2 c2, .slice B2 m2 k2] 34))
      replace R2 := Lib.hid (R2.out.alloc (.cells #[.bool s2, .slice A2 n2 c2, .slice B2 m2 k2] 34))
      replace hbw := Below.alloc hbw hbw.size (.cells #[.bool s2, .slice A2 n2 c2, .slice B2 m2 k2] 34)
      have H9 := Lib.hid (Own.new' W3 34 [.bool s2, .slice A2 n2 c2, .slice B2 m2 k2] W3.heap.size rfl)
      obtain ⟨bH9, e_H9⟩ : ∃ b, W3.heap.size = b := ⟨_, rfl⟩
      simp only [e_H9] at H9 z_H9 z_H9_HO0 z_H9_H7 ⊢
      generalize (W3.alloc (.cells #[.bool s2, .slice A2 n2 c2, .slice B2 m2 k2] 34)) = W4 at HB HO0 R1 H7 R2 H9 hbw ⊢
      have x_H7_0 := H7.out.cell 0 _ rfl
      have f_H7_0 := H7.out.frozen 0
      have x_H7_1 := H7.out.cell 1 _ rfl
      have f_H7_1 := H7.out.frozen 1
      have x_H7_2 := H7.out.cell 2 _ rfl
      have f_H7_2 := H7.out.frozen 2
      have x_H9_0 := H9.out.cell 0 _ rfl
      have f_H9_0 := H9.out.frozen 0
      have x_H9_1 := H9.out.cell 1 _ rfl
      have f_H9_1 := H9.out.frozen 1
      have x_H9_2 := H9.out.cell 2 _ rfl
      have f_H9_2 := H9.out.frozen 2
      go_wp2_with fail
      clear x_H7_0 f_H7_0 x_H7_1 f_H7_1 x_H7_2 f_H7_2 x_H9_0 f_H9_0 x_H9_1 f_H9_1 x_H9_2 f_H9_2
      refine (HDV.out _ _ _ R1.out R2.out).mono ?_
      rintro e W5 ⟨v1, rfl, hb1, s3, A3, c3, n3, B3, k3, m3, rfl, hr1⟩
      replace HB := Lib.hid (HB.out.ext hb1)
      replace HO0 := Lib.hid (HO0.out.ext hb1)
      replace R1 := Lib.hid (R1.out.ext hb1)
      replace H7 := Lib.hid (H7.out.ext hb1)
      replace R2 := Lib.hid (R2.out.ext hb1)
      replace H9 := Lib.hid (H9.out.ext hb1)
      replace hbw := Below.trans hbw (Below.mono hb1 hbw.size)
      have R3 := Lib.hid hr1
      clear hr1
      clear hb1
      go_upto_region 6 with (fail)
      have z_H11 := hbw.size
      have z_H11_HO0 := HO0.out.lt
      have z_H11_H7 := H7.out.lt
      have z_H11_H9 := H9.out.lt
      replace HB := Lib.hid (HB.out.alloc (.cells #[.bool s3, .slice A3 n3 c3, .slice B3 m3 k3] 34))
      replace HO0 := Lib.hid (HO0.out.alloc (.cells #[.bool s3, .slice A3 n3 c3, .slice B3 m3 k3] 34))
      replace R1 := Lib.hid (R1.out.alloc (.cells #[.bool s3, .slice A3 n3 c3, .slice B3 m3 k3] 34))
      replace H7 := Lib.hid (H7.out.alloc (.cells #[.bool s3, .slice A3 n3 c3, .slice B3 m3 k3] 34))
      replace R2 := Lib.hid (R2.out.alloc (.cells #[.bool s3, .slice A3 n3 c3, .slice B3 m3 k3] 34))
      replace H9 := Lib.hid (H9.out.alloc (.cells #[.bool s3, .slice A3 n3 c3, .slice B3 m3 k3] 34))
      replace R3 := Lib.hid (R3.out.alloc (.cells #[.bool s3, .slice A3 n3 c3, .slice B3 m3 k3] 34))
      replace hbw := Below.alloc hbw hbw.size (.cells #[.bool s3, .slice A3 n3 c3, .slice B3 m3 k3] 34)
      have H11 := Lib.hid (Own.new' W5 34 [.bool s3, .slice A3 n3 c3, .slice B3 m3 k3] W5.heap.size rfl)
      obtain ⟨bH11, e_H11⟩ : ∃ b, W5.heap.size = b := ⟨_, rfl⟩
      simp only [e_H11] at H11 z_H11 z_H11_HO0 z_H11_H7 z_H11_H9 ⊢
      generalize (W5.alloc (.cells #[.bool s3, .slice A3 n3 c3, .slice B3 m3 k3] 34)) = W6 at HB HO0 R1 H7 R2 H9 R3 H11 hbw ⊢
      clear H7 H9 R1 R2
      cases bb
      · skip
        have q0 := HO0.out.cell 0 _ rfl
        have f0 := HO0.out.frozen 0
        have q1 := HO0.out.cell 1 _ rfl
        have f1 := HO0.out.frozen 1
        have q2 := HO0.out.cell 2 _ rfl
        have f2 := HO0.out.frozen 2
        go_wp2_with fail
        replace HB := Lib.hid (HB.out.set (p := ⟨w.heap.size, 0, none⟩) (.bool false) (by simp <;> omega))
        replace HO0 := Lib.hid (HO0.out.set 0 (.bool false))
        replace R3 := Lib.hid (R3.out.set (x := .bool false) q0 rfl)
        replace H11 := Lib.hid (H11.out.other (p := ⟨w.heap.size, 0, none⟩) (.bool false) (by simp <;> omega))
        replace hbw := Below.setCell hbw (show w.heap.size ≤ (⟨w.heap.size, 0, none⟩ : Addr).block by simp <;> omega) (.bool false)
        replace q1 := (World.cell?_setCell_other W6 ⟨w.heap.size, 0, none⟩ ⟨w.heap.size, 1, none⟩ (.bool false) (by simp)).trans q1
        replace q2 := (World.cell?_setCell_other W6 ⟨w.heap.size, 0, none⟩ ⟨w.heap.size, 2, none⟩ (.bool false) (by simp)).trans q2
        replace HB := Lib.hid (HB.out.set (p := ⟨w.heap.size, 1, none⟩) (.slice none 0 0) (by simp <;> omega))
        replace HO0 := Lib.hid (HO0.out.set 1 (.slice none 0 0))
        replace R3 := Lib.hid (R3.out.set (x := .slice none 0 0) q1 rfl)
        replace H11 := Lib.hid (H11.out.other (p := ⟨w.heap.size, 1, none⟩) (.slice none 0 0) (by simp <;> omega))
        replace hbw := Below.setCell hbw (show w.heap.size ≤ (⟨w.heap.size, 1, none⟩ : Addr).block by simp <;> omega) (.slice none 0 0)
        replace q2 := (World.cell?_setCell_other (W6.setCell ⟨w.heap.size, 0, none⟩ (.bool false)) ⟨w.heap.size, 1, none⟩ ⟨w.heap.size, 2, none⟩ (.slice none 0 0) (by simp)).trans q2
        replace HB := Lib.hid (HB.out.set (p := ⟨w.heap.size, 2, none⟩) (.slice none 0 0) (by simp <;> omega))
        replace HO0 := Lib.hid (HO0.out.set 2 (.slice none 0 0))
        replace R3 := Lib.hid (R3.out.set (x := .slice none 0 0) q2 rfl)
        replace H11 := Lib.hid (H11.out.other (p := ⟨w.heap.size, 2, none⟩) (.slice none 0 0) (by simp <;> omega))
        replace hbw := Below.setCell hbw (show w.heap.size ≤ (⟨w.heap.size, 2, none⟩ : Addr).block by simp <;> omega) (.slice none 0 0)
        clear q0 f0 q1 f1 q2 f2
        replace HO0 : Hid (Own _ _ _ [.bool false, .slice none 0 0, .slice none 0 0]) := HO0
        generalize (((W6.setCell ⟨w.heap.size, 0, none⟩ (.bool false)).setCell ⟨w.heap.size, 1, none⟩ (.slice none 0 0)).setCell ⟨w.heap.size, 2, none⟩ (.slice none 0 0)) = W7 at HB HO0 R3 H11 hbw ⊢
        have kk0 := HO0.out.cell 0 _ rfl
        have kk1 := HO0.out.cell 1 _ rfl
        have kk2 := HO0.out.cell 2 _ rfl
        refine bodyPost_ret (v := .tuple #[.agg #[.bool false, .slice none 0 0, .slice none 0 0], .slice none 0 0, .int .i64 6]) (by simp [results, Try.results8, go_sem, kk0, kk1, kk2]) rfl ⟨_, rfl, hbw, ?_⟩
        refine HPS.out _ _ ?_
        rw [if_pos (by have := HBB.out; simpa using this)]
        exact ⟨_, rfl, rQd.mk (by exact ⟨_, rNat.zero _, rfl⟩) (rNat.zero _)⟩
      have hmk := fun W => mkQ (n : Int) n rfl hn40 W
      have HYY0 : Hid (¬ yy = 0) := Lib.hid (by have := HBB.out; simpa using this)
      clear HBB
      go_upto_region 9 with (fail)
      obtain ⟨f, ef⟩ : ∃ f : Nat → Rat, f = fun i => x.getD i 0 - kq * y.getD i 0 := ⟨_, rfl⟩
      have z_HL := hbw.size
      have z_HL_HO0 := HO0.out.lt
      have z_HL_H11 := H11.out.lt
      replace HB := Lib.hid (HB.out.alloc (.cells (madeCells zeroQ (n * 3)) 34))
      replace HO0 := Lib.hid (HO0.out.alloc (.cells (madeCells zeroQ (n * 3)) 34))
      replace R3 := Lib.hid (R3.out.alloc (.cells (madeCells zeroQ (n * 3)) 34))
      replace H11 := Lib.hid (H11.out.alloc (.cells (madeCells zeroQ (n * 3)) 34))
      replace hbw := Below.alloc hbw hbw.size (.cells (madeCells zeroQ (n * 3)) 34)
      have HL := Lib.hid (FillQ.start W6 n f)
      obtain ⟨bHL, e_HL⟩ : ∃ b, W6.heap.size = b := ⟨_, rfl⟩
      simp only [e_HL] at HL z_HL z_HL_HO0 z_HL_H11 ⊢
      generalize (W6.alloc (.cells (madeCells zeroQ (n * 3)) 34)) = W7 at HB HO0 R3 H11 HL hbw ⊢
      clear hmk
      go_upto_block 0 with (fail)
      go_cut [] (fun WC => PartIn w bH11 bHL n n f kq s3 (.slice A3 n3 c3) (.slice B3 m3 k3) WC)
      case first =>
        go_wp2_with fail
        go_loopw [48] (fun t W => ∃ k : Nat, t = .int .i64 (k : Nat) ∧ k ≤ n ∧ PartIn w bH11 bHL n k f kq s3 (.slice A3 n3 c3) (.slice B3 m3 k3) W) (fun t _ => (n - (intOf t).toNat))
        case atStart => exact ⟨0, rfl, Nat.zero_le _, hbw, HO0.out, H11.out, R3.out, HL.out⟩
        case round =>
          obtain ⟨k, rfl, hk, hd⟩ := hrel
          clear HB HO0 H11 R3 HL hbw
          have HD := Lib.hid hd
          clear hd
          rcases Nat.lt_or_ge k n with hkn | hkn
          · have hki : (k : Int) < (n : Int) := by omega
            have HKN := Lib.hid hkn
            have hbw := HD.out.be
            obtain ⟨g, o, sa, Aa, ca, na, Ba, ka, ma, rfl, xa, ya, za, ra⟩ := H1.out.at (j := k) (by rw [HXN.out]; exact hkn)
            obtain ⟨g', o', sb, Ab, cb, nb, Bb, kb, mb, rfl, xb, yb, zb, rb⟩ := H2.out.at (j := k) (by rw [HYN.out]; exact hkn)
            have hka : k < x.length := by rw [HXN.out]; exact hkn
            have hkb : k < y.length := by rw [HYN.out]; exact hkn
            have gl := cell_lt xa
            have gl' := cell_lt xb
            have HO0 := Lib.hid HD.out.o4
            have H11 := Lib.hid HD.out.o11
            have R0 := Lib.hid HD.out.hq
            have HL := Lib.hid HD.out.fl
            have R1 := Lib.hid (ra.ext hbw)
            have R2 := Lib.hid (rb.ext hbw)
            have wa := wt_at x k hka
            have wb := wt_at y k hkb
            have wc := qb_mul kq y[k]
            have HM := Lib.hid (fun W v u (h : rQ W v kq) (h' : rQ W u y[k]) => qmul_c W v u kq y[k] h h' (by have := HF.out; have := HKQ.out; omega))
            have HA := Lib.hid (fun W v u (h : rQ W v x[k]) (h' : rQ W u (kq * y[k])) => qsub_c W v u x[k] (kq * y[k]) h h' (by have := HF.out; have := HKQ.out; omega))
            have ee : x[k] - kq * y[k] = f k := by
              rw [ef]
              simp only []
              rw [List.getD_eq_getElem?_getD, List.getD_eq_getElem?_getD, List.getElem?_eq_getElem hka, List.getElem?_eq_getElem hkb, Option.getD_some, Option.getD_some]
            rw [ee] at HA
            have hwk : IntKind.i64.wrap ((k : Int) + 1) = ((k + 1 : Nat) : Int) := i64w (by omega) (by omega)
            have xa' := ext_cell hbw xa
            have ya' := ext_cell hbw ya
            have za' := ext_cell hbw za
            have xb' := ext_cell hbw xb
            have yb' := ext_cell hbw yb
            have zb' := ext_cell hbw zb
            clear ra rb wa wb wc ee hk xa ya za xb yb zb
            go_wp2_with fail
            have HB : Hid (Cells [(g, o + k * 3, .bool sa), (g, o + k * 3 + 1, .slice Aa na ca), (g, o + k * 3 + 2, .slice Ba ma ka), (g', o' + k * 3, .bool sb), (g', o' + k * 3 + 1, .slice Ab nb cb), (g', o' + k * 3 + 2, .slice Bb mb kb), (bH11, 0, .bool s3), (bH11, 1, .slice A3 n3 c3), (bH11, 2, .slice B3 m3 k3)] wr) := Lib.hid (Cells.cons (xa') (Cells.cons (ya') (Cells.cons (za') (Cells.cons (xb') (Cells.cons (yb') (Cells.cons (zb') (Cells.cons (H11.out.cell 0 _ rfl) (Cells.cons (H11.out.cell 1 _ rfl) (Cells.cons (H11.out.cell 2 _ rfl) (Cells.nil _))))))))))
            clear xa' ya' za' xb' yb' zb'
            replace HB := Lib.hid (HB.out.drew)
            replace HO0 := Lib.hid (HO0.out.drew)
            replace H11 := Lib.hid (H11.out.drew)
            replace R0 := Lib.hid (R0.out.drew)
            replace R1 := Lib.hid (R1.out.drew)
            replace R2 := Lib.hid (R2.out.drew)
            replace HL := Lib.hid (HL.out.drew)
            replace hbw := Below.drew hbw
            refine wp_hoist [(0, true), (1, true), (2, true), (3, true), (4, true), (5, true), (6, true), (7, true), (8, true), (9, true), (10, true), (11, false), (12, false), (13, true), (14, false)] (Cells [(g, o + k * 3, .bool sa), (g, o + k * 3 + 1, .slice Aa na ca), (g, o + k * 3 + 2, .slice Ba ma ka), (g', o' + k * 3, .bool sb), (g', o' + k * 3 + 1, .slice Ab nb cb), (g', o' + k * 3 + 2, .slice Bb mb kb), (bH11, 0, .bool s3), (bH11, 1, .slice A3 n3 c3), (bH11, 2, .slice B3 m3 k3)]) (by kernel_rfl) (by kernel_rfl) ?_ ?_
            · exact HB.out
            generalize wr.drew = W21 at HB HO0 H11 R0 R1 R2 HL hbw ⊢
            refine hz_yes (v := ?_) rfl (by kernel_rfl) (fun W hW => ?_) ?_; rotate_left; (go_simp; try with_reducible rfl)
            (try (conv => arg 6; simp only [Act.put, gL1, gL2, gL3, gL4, gL5, gL6]))
            refine hz_yes (v := ?_) rfl (by kernel_rfl) (fun W hW => ?_) ?_; rotate_left; (go_simp; try with_reducible rfl)
            (try (conv => arg 6; simp only [Act.put, gL1, gL2, gL3, gL4, gL5, gL6]))
            refine hz_yes (v := ?_) rfl (by kernel_rfl) (fun W hW => ?_) ?_; rotate_left; (go_simp; try with_reducible rfl)
            (try (conv => arg 6; simp only [Act.put, gL1, gL2, gL3, gL4, gL5, gL6]))
            refine hz_yes (v := ?_) rfl (by kernel_rfl) (fun W hW => ?_) ?_; rotate_left; (go_simp; try with_reducible rfl)
            (try (conv => arg 6; simp only [Act.put, gL1, gL2, gL3, gL4, gL5, gL6]))
            refine hz_yes (v := ?_) rfl (by kernel_rfl) (fun W hW => ?_) ?_; rotate_left; (go_simp; try with_reducible rfl)
            (try (conv => arg 6; simp only [Act.put, gL1, gL2, gL3, gL4, gL5, gL6]))
            refine hz_yes (v := ?_) rfl (by kernel_rfl) (fun W hW => ?_) ?_; rotate_left; (obtain ⟨y0, y1, y2, y3, y4, y5, y6, y7, y8, _⟩ := hW; go_simp; try with_reducible rfl)
            (try (conv => arg 6; simp only [Act.put, gL1, gL2, gL3, gL4, gL5, gL6]))
            refine hz_yes (v := ?_) rfl (by kernel_rfl) (fun W hW => ?_) ?_; rotate_left; (obtain ⟨y0, y1, y2, y3, y4, y5, y6, y7, y8, _⟩ := hW; go_simp; try with_reducible rfl)
            (try (conv => arg 6; simp only [Act.put, gL1, gL2, gL3, gL4, gL5, gL6]))
            refine hz_yes (v := ?_) rfl (by kernel_rfl) (fun W hW => ?_) ?_; rotate_left; (go_simp; try with_reducible rfl)
            (try (conv => arg 6; simp only [Act.put, gL1, gL2, gL3, gL4, gL5, gL6]))
            refine hz_yes (v := ?_) rfl (by kernel_rfl) (fun W hW => ?_) ?_; rotate_left; (go_simp; try with_reducible rfl)
            (try (conv => arg 6; simp only [Act.put, gL1, gL2, gL3, gL4, gL5, gL6]))
            refine hz_yes (v := ?_) rfl (by kernel_rfl) (fun W hW => ?_) ?_; rotate_left; (go_simp; try with_reducible rfl)
            (try (conv => arg 6; simp only [Act.put, gL1, gL2, gL3, gL4, gL5, gL6]))
            refine hz_yes (v := ?_) rfl (by kernel_rfl) (fun W hW => ?_) ?_; rotate_left; (obtain ⟨y0, y1, y2, y3, y4, y5, y6, y7, y8, _⟩ := hW; go_simp; try with_reducible rfl)
            (try (conv => arg 6; simp only [Act.put, gL1, gL2, gL3, gL4, gL5, gL6]))
            refine hz_eff rfl (by kernel_rfl) (fun K hK => ?_)
            refine wp_call (HM.out _ _ _ R0.out R2.out) (by kernel_rfl) ?_
            rintro v1 W22 hb1 hr1
            obtain ⟨Es, EA, Ec, En, EB, Ed, Em, rfl, hr1⟩ := hr1.shape
            refine hK.out _ _ ?_ ?_
            · exact HB.out.ext hb1
            clear hK K
            (try (conv => arg 6; simp only [Act.put, gL1, gL2, gL3, gL4, gL5, gL6]))
            replace HB := Lib.hid (HB.out.ext hb1)
            replace HO0 := Lib.hid (HO0.out.ext hb1)
            replace H11 := Lib.hid (H11.out.ext hb1)
            replace R0 := Lib.hid (R0.out.ext hb1)
            replace R1 := Lib.hid (R1.out.ext hb1)
            replace R2 := Lib.hid (R2.out.ext hb1)
            replace HL := Lib.hid (HL.out.ext hb1)
            replace hbw := Below.trans hbw (Below.mono hb1 hbw.size)
            have R3 := Lib.hid hr1
            clear hr1
            clear hb1
            refine hz_eff rfl (by kernel_rfl) (fun K hK => ?_)
            refine wp_call (HA.out _ _ _ R1.out R3.out) (by kernel_rfl) ?_
            rintro v1 W23 hb1 hr1
            obtain ⟨Fs, FA, Fc, Fn, FB, Fd, Fm, rfl, hr1⟩ := hr1.shape
            refine hK.out _ _ ?_ ?_
            · exact HB.out.ext hb1
            clear hK K
            (try (conv => arg 6; simp only [Act.put, gL1, gL2, gL3, gL4, gL5, gL6]))
            replace HB := Lib.hid (HB.out.ext hb1)
            replace HO0 := Lib.hid (HO0.out.ext hb1)
            replace H11 := Lib.hid (H11.out.ext hb1)
            replace R0 := Lib.hid (R0.out.ext hb1)
            replace R1 := Lib.hid (R1.out.ext hb1)
            replace R2 := Lib.hid (R2.out.ext hb1)
            replace HL := Lib.hid (HL.out.ext hb1)
            replace R3 := Lib.hid (R3.out.ext hb1)
            replace hbw := Below.trans hbw (Below.mono hb1 hbw.size)
            have R4 := Lib.hid hr1
            clear hr1
            clear hb1
            refine hz_yes (v := ?_) rfl (by kernel_rfl) (fun W hW => ?_) ?_; rotate_left; (go_simp; try with_reducible rfl)
            (try (conv => arg 6; simp only [Act.put, gL1, gL2, gL3, gL4, gL5, gL6]))
            obtain ⟨v0, q0, i0, f0⟩ := HL.out.cell (k * 3) (by omega)
            obtain ⟨v1, q1, i1, f1⟩ := HL.out.cell (k * 3 + 1) (by omega)
            obtain ⟨v2, q2, i2, f2⟩ := HL.out.cell (k * 3 + 2) (by omega)
            refine hz_eff rfl (by kernel_rfl) (fun K hK => ?_)
            go_simp
            refine hK.out _ _ ?_ ?_
            · exact ((HB.out.set (p := ⟨bHL, k * 3, none⟩) _ (by simp <;> omega)).set (p := ⟨bHL, k * 3 + 1, none⟩) _ (by simp <;> omega)).set (p := ⟨bHL, k * 3 + 2, none⟩) _ (by simp <;> omega)
            clear hK K
            (try (conv => arg 6; simp only [Act.put, gL1, gL2, gL3, gL4, gL5, gL6]))
            refine hz_nil ?_
            go_wp2
            go_roundw
            case rel => exact ⟨k + 1, rfl, HKN.out, below3 hbw (by omega), HO0.out.others3 (by omega), H11.out.others3 (by omega), sets3 q0 q1 q2 i0 i1 i2 R0.out, HL.out.set3 HKN.out R4.out⟩
            case measure => simp [intOf]; have := HKN.out; omega
          · obtain rfl : k = n := by omega
            have hki : ¬ (k : Int) < (k : Int) := by omega
            go_wp2_with fail
            go_meet
            exact HD.out
      clear HB HO0 H11 R3 HL hbw
      have hbw := hcut.be
      have HO0 := Lib.hid hcut.o4
      have H11 := Lib.hid hcut.o11
      have R3 := Lib.hid hcut.hq
      have HL := Lib.hid hcut.fl
      clear hcut
      have y0 := H11.out.cell 0 _ rfl
      have y1 := H11.out.cell 1 _ rfl
      have y2 := H11.out.cell 2 _ rfl
      have q0 := HO0.out.cell 0 _ rfl
      have q1 := HO0.out.cell 1 _ rfl
      have q2 := HO0.out.cell 2 _ rfl
      have f0 := HO0.out.frozen 0
      have f1 := HO0.out.frozen 1
      have f2 := HO0.out.frozen 2
      go_wp2_with fail
      have HS := ((HO0.out.set 0 (.bool s3)).set 1 (.slice A3 n3 c3)).set 2 (.slice B3 m3 k3)
      have kk0 := HS.cell 0 _ rfl
      have kk1 := HS.cell 1 _ rfl
      have kk2 := HS.cell 2 _ rfl
      refine bodyPost_ret (v := .tuple #[.agg #[.bool s3, .slice A3 n3 c3, .slice B3 m3 k3], .slice (some ⟨bHL, 0, none⟩) n n, .int .i64 0]) (by simp [results, Try.results8, go_sem, kk0, kk1, kk2]) rfl ⟨_, rfl, below3 hbw (Nat.le_refl _), ?_⟩
      refine HPS.out _ _ ?_
      rw [if_neg HYY0.out]
      exact ⟨_, _, rfl, sets3 (i := 0) q0 q1 q2 rfl rfl rfl R3.out, (HL.out.others3 (i := 0) (by omega) q0 q1 q2 rfl rfl rfl).done (less x y kq) (by unfold less; simp; exact HXN.out) (by intro j hj; rw [ef]; unfold less; simp)⟩
  · rw [decide_eq_false hab] at HX'
    have HNO := Lib.hid (show ¬ (x.length = y.length ∧ x.length ≠ 0) from fun h => hab h.1)
    clear HXY HYY hx hy hl hl2 hf exy hab
    have HB : Hid (Cells [] (w.alloc (.cells #[.bool false, .slice none 0 0, .slice none 0 0] 34))) := Lib.hid (Cells.nil _)
    have HO0 := Lib.hid (Own.new' w 34 [.bool false, .slice none 0 0, .slice none 0 0] (w.heap.size) (by simp))
    have hbw : Below w.heap.size w (w.alloc (.cells #[.bool false, .slice none 0 0, .slice none 0 0] 34)) := (by repeat (first | assumption | exact Below.refl _ _ | refine Below.drew ?_ | refine pw_below_drewN ?_ _ | refine Below.alloc ?_ (by first | omega | (simp <;> omega)) _ | refine Below.setCell ?_ (by first | omega | (simp <;> omega)) _ | refine Below.trans ?_ (Below.mono (by assumption) (by first | omega | (simp <;> omega)))))
    go_enter Try.func8, Try.ntmps8
    go_wp2_with fail
    generalize (w.alloc (.cells #[.bool false, .slice none 0 0, .slice none 0 0] 34)) = W0 at HB HO0 hbw ⊢
    refine (HX'.out _ (H1.out.ext hbw) (H2.out.ext hbw)).mono ?_
    rintro e W1 ⟨v1, rfl, hb1, s1, A1, c1, n1, B1, k1, m1, rfl, hr1⟩
    replace HB := Lib.hid (HB.out.ext hb1)
    replace HO0 := Lib.hid (HO0.out.ext hb1)
    replace hbw := Below.trans hbw (Below.mono hb1 hbw.size)
    have R1 := Lib.hid hr1
    clear hr1
    clear hb1
    go_upto_region 2 with (fail)
    have z_H7 := hbw.size
    have z_H7_HO0 := HO0.out.lt
    replace HB := Lib.hid (HB.out.alloc (.cells #[.bool s1, .slice A1 n1 c1, .slice B1 m1 k1] 34))
    replace HO0 := Lib.hid (HO0.out.alloc (.cells #[.bool s1, .slice A1 n1 c1, .slice B1 m1 k1] 34))
    replace R1 := Lib.hid (R1.out.alloc (.cells #[.bool s1, .slice A1 n1 c1, .slice B1 m1 k1] 34))
    replace hbw := Below.alloc hbw hbw.size (.cells #[.bool s1, .slice A1 n1 c1, .slice B1 m1 k1] 34)
    have H7 := Lib.hid (Own.new' W1 34 [.bool s1, .slice A1 n1 c1, .slice B1 m1 k1] W1.heap.size rfl)
    obtain ⟨bH7, e_H7⟩ : ∃ b, W1.heap.size = b := ⟨_, rfl⟩
    simp only [e_H7] at H7 z_H7 z_H7_HO0 ⊢
    generalize (W1.alloc (.cells #[.bool s1, .slice A1 n1 c1, .slice B1 m1 k1] 34)) = W2 at HB HO0 R1 H7 hbw ⊢
    have q0 := HO0.out.cell 0 _ rfl
    have f0 := HO0.out.frozen 0
    have q1 := HO0.out.cell 1 _ rfl
    have f1 := HO0.out.frozen 1
    have q2 := HO0.out.cell 2 _ rfl
    have f2 := HO0.out.frozen 2
    go_wp2_with fail
    replace HB := Lib.hid (HB.out.set (p := ⟨w.heap.size, 0, none⟩) (.bool false) (by simp <;> omega))
    replace HO0 := Lib.hid (HO0.out.set 0 (.bool false))
    replace R1 := Lib.hid (R1.out.set (x := .bool false) q0 rfl)
    replace H7 := Lib.hid (H7.out.other (p := ⟨w.heap.size, 0, none⟩) (.bool false) (by simp <;> omega))
    replace hbw := Below.setCell hbw (show w.heap.size ≤ (⟨w.heap.size, 0, none⟩ : Addr).block by simp <;> omega) (.bool false)
    replace q1 := (World.cell?_setCell_other W2 ⟨w.heap.size, 0, none⟩ ⟨w.heap.size, 1, none⟩ (.bool false) (by simp)).trans q1
    replace q2 := (World.cell?_setCell_other W2 ⟨w.heap.size, 0, none⟩ ⟨w.heap.size, 2, none⟩ (.bool false) (by simp)).trans q2
    replace HB := Lib.hid (HB.out.set (p := ⟨w.heap.size, 1, none⟩) (.slice none 0 0) (by simp <;> omega))
    replace HO0 := Lib.hid (HO0.out.set 1 (.slice none 0 0))
    replace R1 := Lib.hid (R1.out.set (x := .slice none 0 0) q1 rfl)
    replace H7 := Lib.hid (H7.out.other (p := ⟨w.heap.size, 1, none⟩) (.slice none 0 0) (by simp <;> omega))
    replace hbw := Below.setCell hbw (show w.heap.size ≤ (⟨w.heap.size, 1, none⟩ : Addr).block by simp <;> omega) (.slice none 0 0)
    replace q2 := (World.cell?_setCell_other (W2.setCell ⟨w.heap.size, 0, none⟩ (.bool false)) ⟨w.heap.size, 1, none⟩ ⟨w.heap.size, 2, none⟩ (.slice none 0 0) (by simp)).trans q2
    replace HB := Lib.hid (HB.out.set (p := ⟨w.heap.size, 2, none⟩) (.slice none 0 0) (by simp <;> omega))
    replace HO0 := Lib.hid (HO0.out.set 2 (.slice none 0 0))
    replace R1 := Lib.hid (R1.out.set (x := .slice none 0 0) q2 rfl)
    replace H7 := Lib.hid (H7.out.other (p := ⟨w.heap.size, 2, none⟩) (.slice none 0 0) (by simp <;> omega))
    replace hbw := Below.setCell hbw (show w.heap.size ≤ (⟨w.heap.size, 2, none⟩ : Addr).block by simp <;> omega) (.slice none 0 0)
    clear q0 f0 q1 f1 q2 f2
    replace HO0 : Hid (Own _ _ _ [.bool false, .slice none 0 0, .slice none 0 0]) := HO0
    generalize (((W2.setCell ⟨w.heap.size, 0, none⟩ (.bool false)).setCell ⟨w.heap.size, 1, none⟩ (.slice none 0 0)).setCell ⟨w.heap.size, 2, none⟩ (.slice none 0 0)) = W3 at HB HO0 R1 H7 hbw ⊢
    have kk0 := HO0.out.cell 0 _ rfl
    have kk1 := HO0.out.cell 1 _ rfl
    have kk2 := HO0.out.cell 2 _ rfl
    refine bodyPost_ret (v := .tuple #[.agg #[.bool false, .slice none 0 0, .slice none 0 0], .slice none 0 0, .int .i64 5]) (by simp [results, Try.results8, go_sem, kk0, kk1, kk2]) rfl ⟨_, rfl, hbw, ?_⟩
    show PartSaid _ _ _ _
    unfold PartSaid
    rw [if_neg HNO.out]
    exact ⟨_, rfl, rQd.mk (by exact ⟨_, rNat.zero _, rfl⟩) (rNat.zero _)⟩
end Go.Proofs.Ytlaocmhcilhlbaa

/- append to a list of the call's own, whose elements hold no whole number in place. -/
namespace Go.Proofs.Ytlaocmhcilhlbaa
open Go.RowKit
/-- No cell that holds a whole number has changed. -/
def Keep (W w' : World) : Prop := ∀ (a : Addr) (k : IntKind) (z : Int), W.cell? a = some (.int k z) → w'.cell? a = some (.int k z)
theorem Words.keep {k : IntKind} {b : Nat} {w w' : World} {A : Option Addr} {c : Nat} {l : List Nat} (h : Words k b w A c l) (he : Keep w w') : Words k b w' A c l :=
  ⟨h.1, h.2.1, fun hl => by
    obtain ⟨g, o, hA, hc⟩ := h.2.2 hl
    exact ⟨g, o, hA, fun j hj => he _ _ _ (hc j hj)⟩⟩
theorem rNat.keep {w w' : World} {v : Value} {n : Nat} (h : rNat w v n) (he : Keep w w') : rNat w' v n := by
  obtain ⟨A, c, l, hv, hw, hn, hl⟩ := h
  exact ⟨A, c, l, hv, hw.keep he, hn, hl⟩
theorem rInt.keep {w w' : World} {v : Value} {z : Int} (h : rInt w v z) (he : Keep w w') : rInt w' v z := by
  obtain ⟨u, hu, hv⟩ := h
  exact ⟨u, hu.keep he, hv⟩
theorem rQ.keep {w w' : World} {v : Value} {q : Rat} (h : rQ w v q) (he : Keep w w') : rQ w' v q := by
  obtain ⟨s, u, r, hv, h1, h2⟩ := h
  exact ⟨s, u, r, hv, h1.keep he, h2.keep he⟩
theorem rR.keep {w w' : World} {v : Value} {n : Nat} (h : rR w v n) (he : Keep w w') : rR w' v n := by
  obtain ⟨A, c, l, hv, hw, hn, hl⟩ := h
  exact ⟨A, c, l, hv, hw.keep he, hn, hl⟩
theorem rRQ.keep {w w' : World} {v : Value} {q : Rat} (h : rRQ w v q) (he : Keep w w') : rRQ w' v q := by
  obtain ⟨A, c, m, B, k, l, hv, h1, h2⟩ := h
  exact ⟨A, c, m, B, k, l, hv, h1.keep he, h2.keep he⟩
structure RowN (W : World) (base : Nat) (e : TypeId) (size : Nat) (v : Value) (n : Nat) (xs : List Value) : Prop where
  own : W.ownsRow base e size v n xs
  ni : ∀ g, v.ownBlock = some g → ∃ cur, W.heap[g]? = some (.cells cur e (0, 0)) ∧ ∀ u ∈ cur.toList, noInt u = true
theorem RowN.nil (W : World) (base : Nat) (e : TypeId) (size : Nat) : RowN W base e size (.slice none 0 0) 0 [] :=
  ⟨World.ownsRow_nil W base e size, fun g h => by simp [Value.ownBlock] at h⟩
theorem RowN.ext {W w' : World} {base : Nat} {e : TypeId} {size : Nat} {v : Value} {n : Nat} {xs : List Value} (h : RowN W base e size v n xs) (he : Ext W w') : RowN w' base e size v n xs := by
  refine ⟨h.own.kept (row := none) ⟨he.os, he.tape, he.output, he.size, fun k hk _ => he.block k hk⟩ ?_, fun g hg => ?_⟩
  · cases v.ownBlock <;> simp
  · obtain ⟨cur, h1, h2⟩ := h.ni g hg
    exact ⟨cur, (he.block g (Array.getElem?_eq_some_iff.1 h1).1).trans h1, h2⟩
theorem grown_keep {W w' : World} {base : Nat} {e : TypeId} {size : Nat} {v : Value} {n : Nat} {xs : List Value} (h : RowN W base e size v n xs) (hg : W.grownBy w' v.ownBlock) : Keep W w' := by
  intro a k z hc
  by_cases hb : some a.block = v.ownBlock
  · exfalso
    obtain ⟨cur, h1, h2⟩ := h.ni a.block hb.symm
    obtain ⟨ab, ao, ax⟩ := a
    have hm : (Value.int k z) ∈ cur.toList := by
      have : cur[ao]? = some (.int k z) := by
        simp only [World.cell?, h1] at hc
        first
        | exact hc
        | (split at hc <;> first | exact hc | (simp at hc))
        | simpa using hc
      rw [Array.mem_toList_iff]
      exact Array.mem_of_getElem? this
    exact absurd (h2 _ hm) (by simp [noInt])
  · exact hg.cell hc hb
theorem grown_below {W w' : World} {base B : Nat} {e : TypeId} {size : Nat} {v : Value} {n : Nat} {xs : List Value} (h : RowN W base e size v n xs) (hg : W.grownBy w' v.ownBlock) (hB : B ≤ base) (hs : B ≤ W.heap.size) : Below B W w' :=
  ⟨hg.os, hg.tape, hg.output, hg.size, fun k hk => hg.block k (by omega) (fun e => by have := (h.own.lt k e.symm).1; omega)⟩
theorem zeroCells_mem {z : Array Value} {n : Nat} {u : Value} (h : u ∈ (Builtin.zeroCells z n).toList) : u ∈ z.toList := by
  simp only [Builtin.zeroCells, Array.toList_map, List.mem_map] at h
  obtain ⟨j, hj, rfl⟩ := h
  have hz : 0 < z.size := by
    rcases Nat.eq_zero_or_pos z.size with h0 | h0
    · rw [h0] at hj; simp at hj
    · exact h0
  have hm : j % z.size < z.size := Nat.mod_lt _ hz
  rw [getElem!_pos z _ hm, Array.mem_toList_iff]
  exact Array.getElem_mem hm
theorem app_row {P : Program} (w : World) (base : Nat) (t ty e : TypeId) (i : TypeInfo) (z : Value) (size bytes : Nat) (ht : P.underlying t = some (.slice e)) (hi : P.info? e = some i) (hz : i.zero = some z)
    (hsize : i.size = size) (hby : i.bytes = bytes) (hzs : z.cells.size = size) (hsz : 0 < size) (hzn : ∀ u ∈ z.cells.toList, noInt u = true)
    (v : Value) (n : Nat) (xs : List Value) (hrow : RowN w base e size v n xs)
    (a : Addr) (c : Nat) (news : List Value) (hl : news.length = 1 * size) (hnews : ∀ j u, news[j]? = some u → w.cell? (a.add j) = some u) (h1 : ∀ u ∈ news, u.oneCell' = true) (hni : ∀ u ∈ news, noInt u = true)
    (h63 : n + 1 ≤ maxLen) (hbytes : (n + 1) * bytes ≤ 140737488355328) (hbase : base ≤ w.heap.size) :
    ∃ v' w', (Builtin.append_ #[t, t] ty #[v, .slice (some a) 1 c]).run P w = .ok v' w' ∧ RowN w' base e size v' (n + 1) (xs ++ news) ∧ w.grownBy w' v.ownBlock := by
  have hmax : maxLen ≤ 9223372036854775807 := by simp only [maxLen]; omega
  obtain ⟨v', w', hr, ho, hg, _⟩ := run_append_own (P := P) w base t ty e i z size bytes ht hi hz hsize hby hzs hsz v n xs hrow.own a 1 c news hl hnews h1 h63 hbytes hbase
  refine ⟨v', w', hr, ⟨ho, ?_⟩, hg⟩
  subst hsize
  subst hby
  have fresh : ∀ (cs : Array Value), (∀ u ∈ cs.toList, noInt u = true) → ∀ (k m : Nat), v' = .slice (some ⟨w.heap.size, 0, none⟩) k m → w' = w.drew.alloc (.cells cs e) → ∀ g, v'.ownBlock = some g → ∃ cur, w'.heap[g]? = some (.cells cur e (0, 0)) ∧ ∀ u ∈ cur.toList, noInt u = true := by
    intro cs hcs k m hv hw g hgb
    subst hv
    subst hw
    simp only [Value.ownBlock, Option.some.injEq] at hgb
    subst hgb
    exact ⟨cs, heap_alloc_new w.drew _, hcs⟩
  rcases hrow.own.2 with ⟨rfl, rfl⟩ | ⟨g, cap, cur, rfl, hbg, hgc, hnc, hcm, hcs, htake⟩
  · have hr2 := run_append_nil (P := P) w t ty e i z ht hi hz a 1 c news hl hnews (by omega) (by omega) (by simp only [Nat.zero_add] at hbytes; omega)
    rw [hr] at hr2
    injection hr2 with e1 e2
    refine fresh _ ?_ _ _ e1 e2
    intro u hu
    simp only [Array.toList_append, List.mem_append] at hu
    rcases hu with hu | hu
    · exact hni u (by simpa using hu)
    · exact hzn u (zeroCells_mem hu)
  · obtain ⟨cur', hc1, hc2⟩ := hrow.ni g rfl
    rw [hgc] at hc1
    injection hc1 with hc1
    injection hc1 with hc1
    subst hc1
    by_cases hroom : n + 1 ≤ cap
    · have hfit : n * i.size + news.length ≤ cur.size := by rw [hl, hcs, ← Nat.add_mul]; exact Nat.mul_le_mul_right _ hroom
      have hr2 := run_append_room (P := P) w t ty e i ht hi g n cap cur hgc a 1 c news hl hnews h1 hroom hfit
      rw [hr] at hr2
      injection hr2 with e1 e2
      subst e1
      subst e2
      intro g' hg'
      simp only [Value.ownBlock, Option.some.injEq] at hg'
      subst hg'
      refine ⟨_, setRow_heap w g cur _ e _ hgc, fun u hu => ?_⟩
      simp only [List.mem_append] at hu
      rcases hu with (hu | hu) | hu
      · exact hc2 u (List.mem_of_mem_take hu)
      · exact hni u hu
      · exact hc2 u (List.mem_of_mem_drop hu)
    · have holds : ∀ j u, xs[j]? = some u → w.cell? ((⟨g, 0, none⟩ : Addr).add j) = some u := hrow.own.cells (g := g) rfl
      have hr2 := run_append_grow (P := P) w t ty e i z ht hi hz ⟨g, 0, none⟩ n cap xs hrow.own.1 holds a 1 c news hl hnews (by omega) (by omega) (growslice_fits (by omega) hbytes)
      rw [hr] at hr2
      injection hr2 with e1 e2
      refine fresh _ ?_ _ _ e1 e2
      intro u hu
      simp only [Array.toList_append, List.mem_append] at hu
      rcases hu with (hu | hu) | hu
      · have : u ∈ cur.toList := by rw [← htake] at hu; exact List.mem_of_mem_take (by simpa using hu)
        exact hc2 u this
      · exact hni u (by simpa using hu)
      · exact hzn u (zeroCells_mem hu)
end Go.Proofs.Ytlaocmhcilhlbaa
