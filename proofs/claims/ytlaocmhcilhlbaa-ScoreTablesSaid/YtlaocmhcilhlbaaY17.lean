/- score.Rates: what it computes; a list that is being filled, of elements of several fractions. -/
import Derived.Test.YtlaocmhcilhlbaaY11
import Derived.Test.YtlaocmhcilhlbaaY16
import Derived.Laws.AppendOwn
import Derived.Test.YtlaocmhcilhlbaaY13
set_option linter.unusedVariables false
set_option linter.unusedSimpArgs false
namespace Go.Proofs.Ytlaocmhcilhlbaa
open Go.RowKit
/-- A list of fractions that is being filled, in a block of whatever type: k of n are there. -/
structure FillT (t : TypeId) (W : World) (b n k : Nat) (f : Nat → Rat) : Prop where
 own : ∃ cs : List Value, Own W b t cs ∧ cs.length = 3 * n ∧ ∀ (i : Nat) (v : Value), cs[i]? = some v → noInt v = true
 got : ∀ j, j < k → ∃ s u r, W.cell? ⟨b, j * 3, none⟩ = some (.bool s) ∧ W.cell? ⟨b, j * 3 + 1, none⟩ = some u ∧ W.cell? ⟨b, j * 3 + 2, none⟩ = some r ∧ rQ W (.agg #[.bool s, u, r]) (f j)
theorem FillT.ext {t : TypeId} {W W' : World} {b n k : Nat} {f : Nat → Rat} (h : FillT t W b n k f) (he : Ext W W') : FillT t W' b n k f := by
 obtain ⟨⟨cs, h1, h2⟩, h3⟩ := h
 refine ⟨⟨cs, h1.ext he, h2⟩, fun j hj => ?_⟩
 obtain ⟨s, u, r, e1, e2, e3, e4⟩ := h3 j hj
 exact ⟨s, u, r, ext_cell he e1, ext_cell he e2, ext_cell he e3, e4.ext he⟩
theorem FillT.drew {t : TypeId} {W : World} {b n k : Nat} {f : Nat → Rat} (h : FillT t W b n k f) : FillT t W.drew b n k f := ⟨h.own, h.got⟩
theorem FillT.alloc {t : TypeId} {W : World} {b n k : Nat} {f : Nat → Rat} (h : FillT t W b n k f) (o : Obj) : FillT t (W.alloc o) b n k f := h.ext (ext_alloc _ _)
theorem FillT.lt {t : TypeId} {W : World} {b n k : Nat} {f : Nat → Rat} (h : FillT t W b n k f) : b < W.heap.size := by obtain ⟨⟨cs, h1, _⟩, _⟩ := h; exact h1.lt
theorem FillT.cell {t : TypeId} {W : World} {b n k : Nat} {f : Nat → Rat} (h : FillT t W b n k f) (i : Nat) (hi : i < 3 * n) : ∃ v, W.cell? ⟨b, i, none⟩ = some v ∧ noInt v = true ∧ W.frozen? ⟨b, i, none⟩ = false := by
 obtain ⟨⟨cs, h1, h2, h3⟩, _⟩ := h
 have hi' : i < cs.length := by omega
 refine ⟨cs[i], h1.cell i _ (List.getElem?_eq_getElem hi'), h3 i _ (List.getElem?_eq_getElem hi'), h1.frozen i⟩
theorem FillT.other {t : TypeId} {W : World} {b n k : Nat} {f : Nat → Rat} (h : FillT t W b n k f) {p : Addr} (v : Value) {u : Value} (hp : b ≠ p.block) (hc : W.cell? p = some u) (hu : noInt u = true) : FillT t (W.setCell p v) b n k f := by
 obtain ⟨⟨cs, h1, h2⟩, h3⟩ := h
 refine ⟨⟨cs, h1.other v hp, h2⟩, fun j hj => ?_⟩
 obtain ⟨s, u, r, e1, e2, e3, e4⟩ := h3 j hj
 have ne : ∀ i, p ≠ (⟨b, i, none⟩ : Addr) := fun i e => hp (by rw [e])
 exact ⟨s, u, r, (World.cell?_setCell_other _ _ _ _ (ne _)).trans e1, (World.cell?_setCell_other _ _ _ _ (ne _)).trans e2, (World.cell?_setCell_other _ _ _ _ (ne _)).trans e3, e4.set hc hu⟩
theorem FillT.set1 {t : TypeId} {W : World} {b n k : Nat} {f : Nat → Rat} (h : FillT t W b n k f) (i : Nat) (v : Value) (h1 : k * 3 ≤ i) (h2 : i < 3 * n) (hv : noInt v = true) : FillT t (W.setCell ⟨b, i, none⟩ v) b n k f := by
 obtain ⟨u, hc, hu, _⟩ := h.cell i h2
 obtain ⟨⟨cs, o1, o2, o3⟩, h3⟩ := h
 refine ⟨⟨cs.set i v, o1.set i v, by simpa using o2, fun j x hx => ?_⟩, fun j hj => ?_⟩
 ·
  rw [List.getElem?_set] at hx
  split at hx
  ·
   split at hx
   · injection hx with hx; rw [← hx]; exact hv
   · cases hx
  · exact o3 _ _ hx
 ·
  obtain ⟨s, u', r, e1, e2, e3, e4⟩ := h3 j hj
  have ne : ∀ m, m < k * 3 → (⟨b, i, none⟩ : Addr) ≠ ⟨b, m, none⟩ := fun m hm e => by injection e with _ e; omega
  exact ⟨s, u', r, (World.cell?_setCell_other _ _ _ _ (ne _ (by omega))).trans e1, (World.cell?_setCell_other _ _ _ _ (ne _ (by omega))).trans e2, (World.cell?_setCell_other _ _ _ _ (ne _ (by omega))).trans e3, e4.set hc hu⟩
theorem FillT.set3 {t : TypeId} {W : World} {b n k : Nat} {f : Nat → Rat} (h : FillT t W b n k f) (hk : k < n) {s : Bool} {A B : Option Addr} {x c m d : Nat} (hq : rQ W (.agg #[.bool s, .slice A x c, .slice B m d]) (f k)) :
  FillT t (((W.setCell ⟨b, k * 3, none⟩ (.bool s)).setCell ⟨b, k * 3 + 1, none⟩ (.slice A x c)).setCell ⟨b, k * 3 + 2, none⟩ (.slice B m d)) b n (k + 1) f := by
 have g1 := h.set1 (k * 3) (.bool s) (by omega) (by omega) rfl
 have g2 := g1.set1 (k * 3 + 1) (.slice A x c) (by omega) (by omega) rfl
 have g3 := g2.set1 (k * 3 + 2) (.slice B m d) (by omega) (by omega) rfl
 obtain ⟨u0, c0, n0, _⟩ := h.cell (k * 3) (by omega)
 obtain ⟨u1, c1, n1, _⟩ := g1.cell (k * 3 + 1) (by omega)
 obtain ⟨u2, c2, n2, _⟩ := g2.cell (k * 3 + 2) (by omega)
 refine ⟨g3.own, fun j hj => ?_⟩
 rcases Nat.lt_or_ge j k with hjk | hjk
 · exact g3.got j hjk
 ·
  obtain rfl : j = k := by omega
  obtain ⟨⟨cs, o1, o2, _⟩, _⟩ := h
  have s1 := o1.set (j * 3) (.bool s)
  have s2 := s1.set (j * 3 + 1) (.slice A x c)
  have s3 := s2.set (j * 3 + 2) (.slice B m d)
  refine ⟨s, _, _, s3.cell _ _ ?_, s3.cell _ _ ?_, s3.cell _ _ ?_, ((hq.set c0 n0).set c1 n1).set c2 n2⟩
  · rw [List.getElem?_set_ne (by omega), List.getElem?_set_ne (by omega), List.getElem?_set_self (by omega)]
  · rw [List.getElem?_set_ne (by omega), List.getElem?_set_self (by simp; omega)]
  · rw [List.getElem?_set_self (by simp; omega)]
theorem FillT.set9 {t : TypeId} {W : World} {b k i : Nat} {f : Nat → Rat} (h : FillT t W b (3 * k) (3 * i) f) (hi : i < k) {s0 s1 s2 : Bool} {A0 B0 A1 B1 A2 B2 : Option Addr} {x0 c0 m0 d0 x1 c1 m1 d1 x2 c2 m2 d2 : Nat}
  (h0 : rQ W (.agg #[.bool s0, .slice A0 x0 c0, .slice B0 m0 d0]) (f (3 * i))) (h1 : rQ W (.agg #[.bool s1, .slice A1 x1 c1, .slice B1 m1 d1]) (f (3 * i + 1))) (h2 : rQ W (.agg #[.bool s2, .slice A2 x2 c2, .slice B2 m2 d2]) (f (3 * i + 2))) :
  FillT t (((((((((W.setCell ⟨b, i * 9, none⟩ (.bool s0)).setCell ⟨b, i * 9 + 1, none⟩ (.slice A0 x0 c0)).setCell ⟨b, i * 9 + 2, none⟩ (.slice B0 m0 d0)).setCell ⟨b, i * 9 + 3, none⟩ (.bool s1)).setCell ⟨b, i * 9 + 4, none⟩ (.slice A1 x1 c1)).setCell ⟨b, i * 9 + 5, none⟩ (.slice B1 m1 d1)).setCell ⟨b, i * 9 + 6, none⟩ (.bool s2)).setCell ⟨b, i * 9 + 7, none⟩ (.slice A2 x2 c2)).setCell ⟨b, i * 9 + 8, none⟩ (.slice B2 m2 d2)) b (3 * k) (3 * (i + 1)) f := by
 have e0 : 3 * i * 3 = i * 9 := by omega
 have e1 : (3 * i + 1) * 3 = i * 9 + 3 := by omega
 have e2 : (3 * i + 1 + 1) * 3 = i * 9 + 6 := by omega
 obtain ⟨v0, q0, n0, _⟩ := h.cell (3 * i * 3) (by omega)
 obtain ⟨v1, q1, n1, _⟩ := h.cell (3 * i * 3 + 1) (by omega)
 obtain ⟨v2, q2, n2, _⟩ := h.cell (3 * i * 3 + 2) (by omega)
 have g1 := h.set3 (by omega) h0
 have h1' := sets3 (x0 := .bool s0) (x1 := .slice A0 x0 c0) (x2 := .slice B0 m0 d0) q0 q1 q2 n0 n1 n2 h1
 have h2' := sets3 (x0 := .bool s0) (x1 := .slice A0 x0 c0) (x2 := .slice B0 m0 d0) q0 q1 q2 n0 n1 n2 h2
 obtain ⟨v3, q3, n3, _⟩ := g1.cell ((3 * i + 1) * 3) (by omega)
 obtain ⟨v4, q4, n4, _⟩ := g1.cell ((3 * i + 1) * 3 + 1) (by omega)
 obtain ⟨v5, q5, n5, _⟩ := g1.cell ((3 * i + 1) * 3 + 2) (by omega)
 have g2 := g1.set3 (by omega) h1'
 have h2'' := sets3 (x0 := .bool s1) (x1 := .slice A1 x1 c1) (x2 := .slice B1 m1 d1) q3 q4 q5 n3 n4 n5 h2'
 have g3 := g2.set3 (by omega) h2''
 rw [e0, e1, e2] at g3
 exact g3
theorem below9 {w W : World} {b i : Nat} {x0 x1 x2 x3 x4 x5 x6 x7 x8 : Value} {n : Nat} (h : Below n w W) (hb : n ≤ b) : Below n w (((((((((W.setCell ⟨b, i * 9, none⟩ x0).setCell ⟨b, i * 9 + 1, none⟩ x1).setCell ⟨b, i * 9 + 2, none⟩ x2).setCell ⟨b, i * 9 + 3, none⟩ x3).setCell ⟨b, i * 9 + 4, none⟩ x4).setCell ⟨b, i * 9 + 5, none⟩ x5).setCell ⟨b, i * 9 + 6, none⟩ x6).setCell ⟨b, i * 9 + 7, none⟩ x7).setCell ⟨b, i * 9 + 8, none⟩ x8) :=
 ((((((((h.setCell hb _).setCell hb _).setCell hb _).setCell hb _).setCell hb _).setCell hb _).setCell hb _).setCell hb _).setCell hb _
theorem cell9 {W : World} {b i g o : Nat} {x0 x1 x2 x3 x4 x5 x6 x7 x8 v : Value} (h : W.cell? ⟨g, o, none⟩ = some v) (hb : g ≠ b) : (((((((((W.setCell ⟨b, i * 9, none⟩ x0).setCell ⟨b, i * 9 + 1, none⟩ x1).setCell ⟨b, i * 9 + 2, none⟩ x2).setCell ⟨b, i * 9 + 3, none⟩ x3).setCell ⟨b, i * 9 + 4, none⟩ x4).setCell ⟨b, i * 9 + 5, none⟩ x5).setCell ⟨b, i * 9 + 6, none⟩ x6).setCell ⟨b, i * 9 + 7, none⟩ x7).setCell ⟨b, i * 9 + 8, none⟩ x8).cell? ⟨g, o, none⟩ = some v := by
 have ne : ∀ m : Nat, (⟨b, m, none⟩ : Addr) ≠ ⟨g, o, none⟩ := fun m e => by injection e with e; exact hb e.symm
 rw [World.cell?_setCell_other _ _ _ _ (ne _), World.cell?_setCell_other _ _ _ _ (ne _), World.cell?_setCell_other _ _ _ _ (ne _), World.cell?_setCell_other _ _ _ _ (ne _), World.cell?_setCell_other _ _ _ _ (ne _), World.cell?_setCell_other _ _ _ _ (ne _), World.cell?_setCell_other _ _ _ _ (ne _), World.cell?_setCell_other _ _ _ _ (ne _), World.cell?_setCell_other _ _ _ _ (ne _)]
 exact h
def ratP (T : List (List Int)) (k i : Nat) : Rat := mkRat (at2 T i i) (sumF (fun i' => at2 T i' i) k).toNat
def ratR (T : List (List Int)) (k i : Nat) : Rat := mkRat (at2 T i i) (sumF (at2 T i) k).toNat
def ratB (T : List (List Int)) (k i : Nat) : Rat := (2 * ratP T k i * ratR T k i) / (ratP T k i + ratR T k i)
def rateQ (T : List (List Int)) (k m : Nat) : Rat := if m % 3 = 0 then ratP T k (m / 3) else if m % 3 = 1 then ratR T k (m / 3) else ratB T k (m / 3)
theorem rateQ_0 (T : List (List Int)) (k i : Nat) : rateQ T k (3 * i) = ratP T k i := by
 unfold rateQ
 rw [if_pos (by omega), show 3 * i / 3 = i by omega]
theorem rateQ_1 (T : List (List Int)) (k i : Nat) : rateQ T k (3 * i + 1) = ratR T k i := by
 unfold rateQ
 rw [if_neg (by omega), if_pos (by omega), show (3 * i + 1) / 3 = i by omega]
theorem rateQ_2 (T : List (List Int)) (k i : Nat) : rateQ T k (3 * i + 2) = ratB T k i := by
 unfold rateQ
 rw [if_neg (by omega), if_neg (by omega), show (3 * i + 2) / 3 = i by omega]
theorem qb_mkRat (n : Int) (d : Nat) (h1 : n.natAbs < 18446744073709551616) (h2 : d < 18446744073709551616) : qb (mkRat n d) ≤ 64 := by
 rcases Nat.eq_zero_or_pos d with rfl | hd
 ·
  rw [show mkRat n 0 = 0 from by simp [mkRat]]
  show qb 0 ≤ 64
  rw [qb_zero]; omega
 ·
  obtain ⟨p1, p2⟩ := mkRat_parts n d (by omega)
  unfold qb
  rw [p1, p2]
  have a1 : (n / ((Nat.gcd n.natAbs d : Nat) : Int)).natAbs ≤ n.natAbs := by
   have hg : ((Nat.gcd n.natAbs d : Nat) : Int) ∣ n := Int.ofNat_dvd_left.2 (Nat.gcd_dvd_left _ _)
   rw [Int.natAbs_ediv_of_dvd hg, Int.natAbs_natCast]
   exact Nat.div_le_self _ _
  have a2 := Nat.div_le_self d (Nat.gcd n.natAbs d)
  have b1 : bl (n / ((Nat.gcd n.natAbs d : Nat) : Int)).natAbs ≤ 64 := bl_le_of_lt (k := 64) (by omega)
  have b2 : bl (d / Nat.gcd n.natAbs d) ≤ 64 := bl_le_of_lt (k := 64) (by omega)
  omega
theorem sumF_le {f g : Nat → Int} {k : Nat} (h : ∀ j, j < k → f j ≤ g j) : ∀ n, n ≤ k → sumF f n ≤ sumF g n
 | 0, _ => Int.le_refl _
 | n + 1, hn => by have := sumF_le h n (by omega); have := h n (by omega); simp only [sumF]; omega
/-- Rows, columns and entries of a table of counts. -/
theorem OkT.row {T : List (List Int)} {k : Nat} (h : OkT T k) {i : Nat} (hi : i < k) (j : Nat) (hj : j ≤ k) : 0 ≤ sumF (at2 T i) j ∧ sumF (at2 T i) j ≤ 2147483647 := by
 have e0 : ∀ i j, i < k → j ≤ k → 0 ≤ sumF (at2 T i) j := fun i j hi hj => sumF_nonneg (fun j hj => h.pos i j hi hj) j hj
 refine ⟨e0 i j hi hj, ?_⟩
 have h1 := sumF_mono (fun j hj => h.pos i j hi hj) j k hj (Nat.le_refl _)
 have h2 := sumF_term (f := fun i => sumF (at2 T i) k) (fun i hi => e0 i k hi (Nat.le_refl _)) i hi
 have h3 := h.all
 omega
theorem OkT.col {T : List (List Int)} {k : Nat} (h : OkT T k) {i : Nat} (hi : i < k) (j : Nat) (hj : j ≤ k) : 0 ≤ sumF (fun i' => at2 T i' i) j ∧ sumF (fun i' => at2 T i' i) j ≤ 2147483647 := by
 refine ⟨sumF_nonneg (fun j hj => h.pos j i hj hi) j hj, ?_⟩
 have h1 := sumF_mono (f := fun i' => at2 T i' i) (fun j hj => h.pos j i hj hi) j k hj (Nat.le_refl _)
 have h2 := sumF_le (f := fun i' => at2 T i' i) (g := fun i' => sumF (at2 T i') k) (k := k) (fun j hj => sumF_term (fun m hm => h.pos j m hj hm) i hi) k (Nat.le_refl _)
 have h3 := h.all
 omega
theorem OkT.entry {T : List (List Int)} {k : Nat} (h : OkT T k) {i j : Nat} (hi : i < k) (hj : j < k) : 0 ≤ at2 T i j ∧ at2 T i j ≤ 2147483647 := by
 have h1 := sumF_term (fun m hm => h.pos i m hi hm) j hj
 have h2 := h.row hi k (Nat.le_refl _)
 have h3 := h.pos i j hi hj
 omega
def zeroR : Array Value := #[.bool false, .slice none 0 0, .slice none 0 0, .bool false, .slice none 0 0, .slice none 0 0, .bool false, .slice none 0 0, .slice none 0 0]
theorem undRates : Try.prog.underlying 49 = some (.slice 55) := by kernel_rfl
theorem infoRate : ∃ i z, Try.prog.info? 55 = some i ∧ i.zero = some z ∧ z.cells = zeroR ∧ i.size = 9 ∧ i.bytes ≤ 256 := by
 have h : (Try.prog.info? 55).map (fun i => (i.zero.map Value.cells, i.size, decide (i.bytes ≤ 256))) = some (some zeroR, 9, true) := by kernel_rfl
 obtain ⟨i, hi, he⟩ := Option.map_eq_some_iff.1 h
 simp only [Prod.mk.injEq] at he
 obtain ⟨z, hz, hc⟩ := Option.map_eq_some_iff.1 he.1
 exact ⟨i, z, hi, hz, hc, he.2.1, of_decide_eq_true he.2.2⟩
theorem mkRates (n : Int) (m : Nat) (e : n = m) (hn : m ≤ 1099511627775) (W : World) : (Instr.makeSlice 49 (.int .i64 n) (.int .i64 n)).run Try.prog W = .ok (.slice (some ⟨W.heap.size, 0, none⟩) m m) (W.alloc (.cells (madeCells zeroR (m * 9)) 55)) := by
 subst e
 obtain ⟨i, z, hi, hz, h1, h2, h3⟩ := infoRate
 have hb : (i.bytes : Int) * (m : Int) ≤ 256 * m := Int.mul_le_mul_of_nonneg_right (by omega) (by omega)
 have h := run_make (P := Try.prog) W _ _ i z undRates hi hz .i64 .i64 m m (by omega) (by omega) (by omega) (by omega)
 rw [h, h1, h2]
 simp
theorem FillT.startR (w : World) (n : Nat) (f : Nat → Rat) : FillT 55 (w.alloc (.cells (madeCells zeroR (n * 9)) 55)) w.heap.size (3 * n) (3 * 0) f := by
 refine ⟨⟨(madeCells zeroR (n * 9)).toList, by have := Own.new w 55 (madeCells zeroR (n * 9)).toList; simpa using this, by rw [Array.length_toList, size_madeCells]; omega, fun i v h => ?_⟩, fun j hj => absurd hj (by omega)⟩
 have h2 : v ∈ (madeCells zeroR (n * 9)).toList := List.mem_of_getElem? h
 simp only [madeCells, Array.toList_map, List.mem_map] at h2
 obtain ⟨j, _, rfl⟩ := h2
 have h3 : j % zeroR.size < 9 := Nat.mod_lt _ (by decide)
 generalize j % zeroR.size = x at h3
 match x, h3 with
 | 0, _ => rfl
 | 1, _ => rfl
 | 2, _ => rfl
 | 3, _ => rfl
 | 4, _ => rfl
 | 5, _ => rfl
 | 6, _ => rfl
 | 7, _ => rfl
 | 8, _ => rfl
def RatesSaid (w' : World) (r : Value) (T : List (List Int)) (k : Nat) : Prop := ∃ g c, r = .tuple #[.slice (some ⟨g, 0, none⟩) k c, .int .i64 0] ∧ FillT 55 w' g (3 * k) (3 * k) (rateQ T k)
end Go.Proofs.Ytlaocmhcilhlbaa

/- What a table of counts adds up to; lists of whole numbers that grow. -/
namespace Go.Proofs.Ytlaocmhcilhlbaa
open Go.RowKit
theorem sumF_congr {f g : Nat → Int} : ∀ n, (∀ j, j < n → f j = g j) → sumF f n = sumF g n
 | 0, _ => rfl
 | n + 1, h => by simp only [sumF]; rw [sumF_congr n (fun j hj => h j (by omega)), h n (by omega)]
theorem sumF_add (f g : Nat → Int) : ∀ n, sumF (fun i => f i + g i) n = sumF f n + sumF g n
 | 0 => rfl
 | n + 1 => by simp only [sumF]; rw [sumF_add f g n]; omega
theorem sumF_zero : ∀ n, sumF (fun _ => 0) n = 0
 | 0 => rfl
 | n + 1 => by simp only [sumF]; rw [sumF_zero n]; rfl
theorem sumF_one (c : Nat) (x : Int) : ∀ n, sumF (fun i => if i = c then x else 0) n = if c < n then x else 0
 | 0 => by simp [sumF]
 | n + 1 => by
  simp only [sumF]
  rw [sumF_one c x n]
  by_cases h : n = c
  · subst h; simp
  ·
   rw [if_neg h]
   by_cases h2 : c < n
   · rw [if_pos h2, if_pos (by omega)]; omega
   · rw [if_neg h2, if_neg (by omega)]; rfl
theorem tabTo_step {a b : List Int} {n i j : Nat} (hi : a.getD n 0 = (i : Int)) (hj : b.getD n 0 = (j : Int)) (i' j' : Nat) : tabTo a b (n + 1) i' j' = tabTo a b n i' j' + (if i' = i then (if j' = j then 1 else 0) else 0) := by
 simp only [tabTo]
 rw [hi, hj]
 by_cases h1 : i' = i
 ·
  by_cases h2 : j' = j
  · rw [if_pos ⟨by omega, by omega⟩, if_pos h1, if_pos h2]
  · rw [if_neg (by omega), if_pos h1, if_neg h2]
 · rw [if_neg (by omega), if_neg h1]
theorem tab_all {a b : List Int} {k : Nat} : ∀ n, (∀ m, m < n → ∃ i j : Nat, i < k ∧ j < k ∧ a.getD m 0 = (i : Int) ∧ b.getD m 0 = (j : Int)) → sumF (fun i => sumF (tabTo a b n i) k) k = n
 | 0, _ => by
  have : (fun i => sumF (tabTo a b 0 i) k) = fun _ => 0 := by funext i; exact sumF_zero k
  rw [this]; exact sumF_zero k
 | n + 1, h => by
  obtain ⟨i, j, hi, hj, ei, ej⟩ := h n (by omega)
  have e1 : (fun i' => sumF (tabTo a b (n + 1) i') k) = fun i' => sumF (tabTo a b n i') k + (if i' = i then 1 else 0) := by
   funext i'
   have : tabTo a b (n + 1) i' = fun j' => tabTo a b n i' j' + (if i' = i then (if j' = j then 1 else 0) else 0) := by funext j'; exact tabTo_step ei ej i' j'
   rw [this, sumF_add]
   by_cases h1 : i' = i
   ·
    simp only [h1, if_true]
    rw [sumF_one, if_pos hj]
   ·
    simp only [h1, if_false]
    rw [sumF_zero]
  rw [e1, sumF_add, sumF_one, if_pos hi, tab_all n (fun m hm => h m (by omega))]
  omega
theorem tab_diag {a b : List Int} {k : Nat} : ∀ n, (∀ m, m < n → ∃ i j : Nat, i < k ∧ j < k ∧ a.getD m 0 = (i : Int) ∧ b.getD m 0 = (j : Int)) → sumF (fun i => tabTo a b n i i) k = (alike a b n : Nat)
 | 0, _ => sumF_zero k
 | n + 1, h => by
  obtain ⟨i, j, hi, hj, ei, ej⟩ := h n (by omega)
  have e1 : (fun i' => tabTo a b (n + 1) i' i') = fun i' => tabTo a b n i' i' + (if i' = i then (if i = j then 1 else 0) else 0) := by
   funext i'
   rw [tabTo_step ei ej]
   by_cases h1 : i' = i
   · simp only [h1]
   · simp only [h1, if_false]
  rw [e1, sumF_add, sumF_one, if_pos hi, tab_diag n (fun m hm => h m (by omega))]
  simp only [alike]
  rw [ei, ej]
  by_cases h2 : i = j
  · rw [if_pos h2, if_pos (by omega)]; omega
  · rw [if_neg h2, if_neg (by omega)]; omega
theorem at2_tab (k : Nat) (f : Nat → Nat → Int) {i j : Nat} (hi : i < k) (hj : j < k) : at2 (tabL k f) i j = f i j := by
 have e : (tabL k f).getD i [] = (List.range k).map (f i) := by
  unfold tabL
  rw [List.getD_eq_getElem?_getD, List.getElem?_map, List.getElem?_range hi]
  rfl
 unfold at2
 rw [e, List.getD_eq_getElem?_getD, List.getElem?_map, List.getElem?_range hj]
 rfl
theorem tab_sq (k : Nat) (f : Nat → Nat → Int) : Sq (tabL k f) k := ⟨tabL_length k f, fun l hl => by
 obtain ⟨i, _, rfl⟩ := List.mem_map.1 hl
 simp⟩
theorem tab_row (k : Nat) (f : Nat → Nat → Int) {i : Nat} (hi : i < k) (n : Nat) (hn : n ≤ k) : sumF (at2 (tabL k f) i) n = sumF (f i) n := sumF_congr n (fun j hj => at2_tab k f hi (by omega))
theorem tab_okT {a b : List Int} {k n : Nat} (h : ∀ m, m < n → ∃ i j : Nat, i < k ∧ j < k ∧ a.getD m 0 = (i : Int) ∧ b.getD m 0 = (j : Int)) (hn : n ≤ 2147483647) : OkT (tabL k (tabTo a b n)) k := by
 refine ⟨fun i j hi hj => by rw [at2_tab k _ hi hj]; exact (tabTo_bound a b n i j).1, ?_⟩
 rw [sumF_congr k (fun i hi => tab_row k _ hi k (Nat.le_refl _)), tab_all n h]
 omega
/-- A recall times its row is the entry of the diagonal. -/
theorem ratR_mul {T : List (List Int)} {k : Nat} (h : OkT T k) {i : Nat} (hi : i < k) : ratR T k i * ((sumF (at2 T i) k : Int) : Rat) = ((at2 T i i : Int) : Rat) := by
 unfold ratR
 have h1 := h.row hi k (Nat.le_refl _)
 have h2 := sumF_term (fun m hm => h.pos i m hi hm) i hi
 have h3 := h.pos i i hi hi
 obtain ⟨d, ed⟩ : ∃ d : Nat, sumF (at2 T i) k = (d : Int) := ⟨_, (Int.toNat_of_nonneg h1.1).symm⟩
 rw [ed] at h2 ⊢
 rw [Int.toNat_natCast, Rat.mkRat_eq_div]
 rcases Nat.eq_zero_or_pos d with rfl | hd
 ·
  rw [show at2 T i i = 0 by omega]
  simp
 ·
  have hd' : ((d : Int) : Rat) ≠ 0 := by
   intro e
   have : (d : Int) = 0 := by exact_mod_cast e
   omega
  have : ((d : Nat) : Rat) = ((d : Int) : Rat) := rfl
  rw [this]
  exact Rat.div_mul_cancel hd'
/-! ### lists of whole numbers of the call's own that grow -/
def AppI (W : World) (base : Nat) (v : Value) (l : List Int) : Prop := W.ownsRow base 3 1 v l.length (l.map (Value.int .i64))
theorem AppI.nil (W : World) (base : Nat) : AppI W base (.slice none 0 0) [] := World.ownsRow_nil W base _ 1
theorem AppI.ext {W W' : World} {base : Nat} {v : Value} {l : List Int} (h : AppI W base v l) (he : Ext W W') : AppI W' base v l :=
 World.ownsRow.kept (row := none) h ⟨he.os, he.tape, he.output, he.size, fun k hk _ => he.block k hk⟩ (by cases v.ownBlock <;> simp)
theorem AppI.done {W : World} {base : Nat} {v : Value} {l : List Int} (h : AppI W base v l) (hI : ∀ x ∈ l, I64 x) : rIs W v l := by
 rcases h.2 with ⟨rfl, h0⟩ | ⟨g, cap, cur, rfl, hb, hg, hnc, _⟩
 ·
  have : l = [] := List.eq_nil_of_length_eq_zero h0
  subst this
  exact ⟨none, 0, rfl, Nat.le_refl _, hI, fun h => absurd rfl h⟩
 ·
  refine ⟨_, cap, rfl, hnc, hI, fun _ => ⟨g, 0, rfl, fun j hj => ?_⟩⟩
  have hc := World.ownsRow.cells h (g := g) rfl j (.int .i64 l[j]) (by rw [List.getElem?_map, List.getElem?_eq_getElem hj]; rfl)
  have hadd : ∀ i, (⟨g, 0, none⟩ : Addr).add i = ⟨g, i, none⟩ := by intro i; unfold Addr.add; split <;> simp_all
  rw [hadd] at hc
  rw [Nat.zero_add]
  exact hc
/-- Two lists do not share a block. -/
def Apart (u v : Value) : Prop := ∀ g, u.ownBlock = some g → v.ownBlock ≠ some g
theorem AppI.kept {W W' : World} {base : Nat} {u v : Value} {l : List Int} (h : AppI W base u l) (hg : W.grownBy W' v.ownBlock) (ha : Apart u v) : AppI W' base u l := by
 refine World.ownsRow.kept h hg ?_
 cases e : u.ownBlock with
 | none => exact .inl rfl
 | some g => exact .inr (fun e2 => ha g e e2.symm)
theorem run_pushI {P : Program} (w : World) (base : Nat) (t ty : TypeId) (ht : P.underlying t = some (.slice 3)) (hinfo : ∃ i z, P.info? 3 = some i ∧ i.zero = some z ∧ z.cells.size = 1 ∧ i.size = 1 ∧ i.bytes ≤ 64)
  (v : Value) (l : List Int) (happ : AppI w base v l) (b c : Nat) (z : Int) (hown : Own w b 3 [.int .i64 z]) (hlen : l.length + 1 ≤ 1099511627776) (hbase : base ≤ w.heap.size) :
  ∃ v' w', (Builtin.append_ #[t, t] ty #[v, .slice (some ⟨b, 0, none⟩) 1 c]).run P w = .ok v' w' ∧ AppI w' base v' (l ++ [z]) ∧ w.grownBy w' v.ownBlock ∧ (v'.ownBlock = v.ownBlock ∨ v'.ownBlock = some w.heap.size) := by
 obtain ⟨i, zz, hi, hz, hzs, hisz, hby⟩ := hinfo
 have hnews : ∀ j u, [Value.int .i64 z][j]? = some u → w.cell? ((⟨b, 0, none⟩ : Addr).add j) = some u := by
  intro j u hu
  have hadd : (⟨b, 0, none⟩ : Addr).add j = ⟨b, j, none⟩ := by unfold Addr.add; split <;> simp_all
  rw [hadd]
  exact hown.cell j u hu
 have h1 : ∀ u ∈ [Value.int .i64 z], u.oneCell' = true := by intro u hu; simp only [List.mem_cons, List.not_mem_nil, or_false] at hu; subst hu; rfl
 have hmax : maxLen = 9223372036854775807 := by simp only [maxLen]
 have hbb : (l.length + 1) * i.bytes ≤ 140737488355328 := by
  have : (l.length + 1) * i.bytes ≤ 1099511627776 * 64 := Nat.mul_le_mul hlen hby
  omega
 obtain ⟨v', w', hr, ho, hg, _⟩ := run_append_own (P := P) w base t ty _ i zz 1 i.bytes ht hi hz hisz rfl hzs (by omega) v l.length _ happ ⟨b, 0, none⟩ 1 c [Value.int .i64 z] rfl hnews h1 (by rw [hmax]; omega) hbb hbase
 refine ⟨v', w', hr, ?_, hg, ?_⟩
 ·
  unfold AppI
  rw [List.map_append, List.length_append]
  exact ho
 ·
  have hl1 : [Value.int .i64 z].length = 1 * i.size := by rw [hisz]; rfl
  rcases happ.2 with ⟨rfl, h0⟩ | ⟨g, cap, cur, rfl, hbg, hgc, hnc, hcm, hcs, htake⟩
  ·
   have hr2 := run_append_nil (P := P) w t ty _ i zz ht hi hz ⟨b, 0, none⟩ 1 c [Value.int .i64 z] hl1 hnews (by omega) (by omega) (by omega)
   rw [hr] at hr2
   injection hr2 with e1 e2
   right
   rw [e1]; rfl
  ·
   by_cases hroom : l.length + 1 ≤ cap
   ·
    have hfit : l.length * i.size + [Value.int .i64 z].length ≤ cur.size := by rw [hl1, hcs, hisz, ← Nat.add_mul]; exact Nat.mul_le_mul_right _ hroom
    have hr2 := run_append_room (P := P) w t ty _ i ht hi g l.length cap cur hgc ⟨b, 0, none⟩ 1 c [Value.int .i64 z] hl1 hnews h1 hroom hfit
    rw [hr] at hr2
    injection hr2 with e1 e2
    left
    rw [e1]; rfl
   ·
    have holds : ∀ j u, (l.map (Value.int .i64))[j]? = some u → w.cell? ((⟨g, 0, none⟩ : Addr).add j) = some u := World.ownsRow.cells happ (g := g) rfl
    have hr2 := run_append_grow (P := P) w t ty _ i zz ht hi hz ⟨g, 0, none⟩ l.length cap (l.map (Value.int .i64)) (by rw [hisz, List.length_map, Nat.mul_one]) holds ⟨b, 0, none⟩ 1 c [Value.int .i64 z] hl1 hnews (by omega) (by omega) (growslice_fits (by omega) hbb)
    rw [hr] at hr2
    injection hr2 with e1 e2
    right
    rw [e1]; rfl
theorem wpList_pushI {P : Program} {ops : Array Oper} {rest : List Oper} {o : Oper} {a : Act} {w : World} {Q : Exit → Act → World → Prop} (hgd : o.guard = none) (s x : Operand) (t : TypeId)
  (ho : o.op = .call { callee := .builtin .append, args := #[s, x], argTypes := #[t, t] }) (ht : P.underlying t = some (.slice 3))
  (hinfo : ∃ i z, P.info? 3 = some i ∧ i.zero = some z ∧ z.cells.size = 1 ∧ i.size = 1 ∧ i.bytes ≤ 64)
  (base : Nat) (v : Value) (l : List Int) (hs : a.eval s = v) (happ : AppI w base v l) (b c : Nat) (hx : a.eval x = .slice (some ⟨b, 0, none⟩) 1 c) (z : Int) (hown : Own w b 3 [.int .i64 z]) (hlen : l.length + 1 ≤ 1099511627776) (hbase : base ≤ w.heap.size)
  (h : ∀ v' w', AppI w' base v' (l ++ [z]) → w.grownBy w' v.ownBlock → (v'.ownBlock = v.ownBlock ∨ v'.ownBlock = some w.heap.size) → Below base w w' → wpList P ops Q rest (a.put o.dst v') w') : wpList P ops Q (o :: rest) a w := by
 refine wpList_plain hgd fun _ hK => ?_
 obtain ⟨v', w', hr, h1, h2, h3⟩ := run_pushI (P := P) w base t o.type ht hinfo v l happ b c z hown hlen hbase
 unfold Oper.wp execOp
 simp only [ho, resolve, invoke, builtin, Sem.run_bind, Sem.run_pure, Result.andThen_ok, List.map_toArray, List.map_cons, List.map_nil, hs, hx, hr]
 exact hK _ _ (h v' w' h1 h2 h3 ⟨h2.os, h2.tape, h2.output, h2.size, fun k hk => h2.block k (by omega) (fun e => by have := (World.ownsRow.lt happ k e.symm).1; omega)⟩)
end Go.Proofs.Ytlaocmhcilhlbaa

/- The document's numbers: what it is for a value to be one; trim, NatOf, I, IntOf. -/
namespace Go.Proofs.Ytlaocmhcilhlbaa
open Go.RowKit
/-- abaculusref1.Nat -/
def rR (w : World) (v : Value) (n : Nat) : Prop := ∃ A c l, v = .slice A l.length c ∧ Words .u32 B32 w A c l ∧ Norm l ∧ vl B32 l = n
theorem rR.ext {w w' : World} {v : Value} {n : Nat} (h : rR w v n) (he : Ext w w') : rR w' v n := by
 obtain ⟨A, c, l, hv, hw, hn, hl⟩ := h
 exact ⟨A, c, l, hv, hw.ext he, hn, hl⟩
theorem rR.drew {w : World} {v : Value} {n : Nat} (h : rR w v n) : rR w.drew v n := h
theorem rR.alloc {w : World} {v : Value} {n : Nat} (h : rR w v n) (o : Obj) : rR (w.alloc o) v n := h.ext (ext_alloc _ _)
theorem rR.set {w : World} {v : Value} {n : Nat} (h : rR w v n) {a : Addr} {u x : Value} (hc : w.cell? a = some u) (hu : noInt u = true) : rR (w.setCell a x) v n := by
 obtain ⟨A, c, l, hv, hw, hn, hl⟩ := h
 exact ⟨A, c, l, hv, hw.set hc hu, hn, hl⟩
theorem rR.shape {w : World} {v : Value} {n : Nat} (h : rR w v n) : ∃ A c m, v = .slice A m c ∧ rR w (.slice A m c) n := by
 obtain ⟨A, c, l, rfl, h⟩ := h
 exact ⟨A, c, _, rfl, A, c, l, rfl, h⟩
theorem rR.zero (w : World) : rR w (.slice none 0 0) 0 := ⟨none, 0, [], rfl, Words.nil _ _ _ _ _, by simp [Norm], rfl⟩
theorem rR.len0 {w : World} {A : Option Addr} {m c n : Nat} (h : rR w (.slice A m c) n) : m = 0 ↔ n = 0 := by
 obtain ⟨A', c', l, hv, hw, hn, rfl⟩ := h
 simp only [Value.slice.injEq] at hv
 obtain ⟨rfl, rfl, rfl⟩ := hv
 constructor
 · intro h; rw [List.eq_nil_of_length_eq_zero h]; rfl
 ·
  intro h
  rcases Nat.eq_zero_or_pos l.length with h0 | h0
  · exact h0
  ·
   have := vl_ge B32 l hn (by intro e; rw [e] at h0; simp at h0)
   have h2 : 0 < B32 ^ (l.length - 1) := Nat.pow_pos B32_pos
   omega
/-- A number of one limb at most. -/
theorem rR.one {w : World} {A : Option Addr} {m c n : Nat} (h : rR w (.slice A m c) n) (hn : n < B32) (h0 : 0 < n) : m = 1 ∧ 1 ≤ c ∧ ∃ g o, A = some ⟨g, o, none⟩ ∧ w.cell? ⟨g, o, none⟩ = some (.int .u32 (n : Nat)) := by
 obtain ⟨A', c', l, hv, hw, hnn, rfl⟩ := h
 simp only [Value.slice.injEq] at hv
 obtain ⟨rfl, rfl, rfl⟩ := hv
 have hl : l ≠ [] := by intro e; rw [e] at h0; simp [vl] at h0
 have h1 := vl_ge B32 l hnn hl
 have h2 : l.length = 1 := by
  have h3 : 0 < l.length := List.length_pos_iff.2 hl
  rcases Nat.lt_or_ge 1 l.length with h4 | h4
  ·
   exfalso
   have : B32 ^ 1 ≤ B32 ^ (l.length - 1) := Nat.pow_le_pow_right B32_pos (by omega)
   rw [Nat.pow_one] at this
   omega
  · omega
 obtain ⟨x, rfl⟩ : ∃ x, l = [x] := List.length_eq_one_iff.1 h2
 obtain ⟨g, o, hA, hc⟩ := hw.2.2 hl
 refine ⟨rfl, by have := hw.1; simpa using this, g, o, hA, ?_⟩
 have := hc 0 (by simp)
 simpa [vl] using this
theorem rR.nat {w : World} {A : Option Addr} {m c n : Nat} (h : rR w (.slice A m c) n) : m ≤ c := by
 obtain ⟨A', c', l, hv, hw, _⟩ := h
 simp only [Value.slice.injEq] at hv
 obtain ⟨rfl, rfl, rfl⟩ := hv
 exact hw.1
set_option maxHeartbeats 400000 in
/-- trim -/
theorem rtrim_c (w : World) (A : Option Addr) (c : Nat) (l : List Nat) (h : Words .u32 B32 w A c l) (hm : l.length ≤ 17592186044416) :
  Calls Try.prog 85 #[.slice A l.length c] w (Post w fun v w' => rR w' v (vl B32 l)) := by
 have Hw := Lib.hid h
 have hlc := h.1
 clear h
 go_enter Try.func85, Try.ntmps85
 go_wp2_with fail
 go_loop [3] (fun t => ∃ k : Nat, k ≤ l.length ∧ t = .int .i64 (k : Nat) ∧ vl B32 l = vl B32 (l.take k)) (fun t => (intOf t).toNat)
 case atStart => exact ⟨l.length, Nat.le_refl _, rfl, by simp⟩
 case round =>
  obtain ⟨k, hk, rfl, hv⟩ := hrel
  have HV := Lib.hid hv
  clear hv
  rcases Nat.eq_zero_or_pos k with rfl | hk0
  ·
   go_wp2
   go_ret
   exact ⟨_, rfl, Below.refl _ _, A, c, l.take 0, by simp, (Hw.out.take 0), by simp [Norm], HV.out.symm⟩
  ·
   obtain ⟨m, rfl⟩ : ∃ m, k = m + 1 := ⟨k - 1, by omega⟩
   have hne : l ≠ [] := by intro e; rw [e] at hk; simp at hk
   obtain ⟨g, o, rfl, hcl⟩ := Hw.out.2.2 hne
   have hcm := hcl m (by omega)
   have hg : g < w.heap.size := World.block_lt_of_cell? w _ hcm
   have hmi : (m : Int) + 1 - 1 = (m : Int) := by omega
   have hmw : IntKind.i64.wrap (m : Int) = (m : Int) := i64w (by omega) (by omega)
   clear hcl hk0 hne
   by_cases hz : l.getD m 0 = 0
   ·
    have Hz := Lib.hid hz
    rw [hz] at hcm
    clear hz
    go_wp2
    go_round
    case rel => exact ⟨m, by omega, rfl, HV.out.trans (vl_take_zero (by omega) Hz.out)⟩
    case measure => simp [intOf]
   ·
    have Hz := Lib.hid hz
    have hzb : (((l[m]?.getD 0 : Nat) : Int) == 0) = false := by simpa using hz
    clear hz
    go_wp2
    go_ret
    exact ⟨_, rfl, Below.refl _ _, some ⟨g, o, none⟩, c, l.take (m + 1), by simp [Nat.min_eq_left hk], (Hw.out.take (m + 1)), norm_take_pos (by omega) Hz.out, HV.out.symm⟩
end Go.Proofs.Ytlaocmhcilhlbaa

/- The document's numbers: NatOf, I, IntOf. -/
namespace Go.Proofs.Ytlaocmhcilhlbaa
open Go.RowKit
set_option maxRecDepth 100000 in
set_option maxHeartbeats 1000000 in
/-- NatOf, of a number of one limb -/
theorem rof_c (w : World) (n : Nat) (hn : n < B32) : Calls Try.prog 60 #[.int .u64 (n : Nat)] w (Post w fun v w' => rR w' v n) := by
 have hw1 : IntKind.u32.wrap (n : Int) = (n : Int) := by rw [IntKind.wrap_u32]; unfold B32 at hn; omega
 have hs : n >>> 32 = 0 := by rw [Nat.shiftRight_eq_div_pow]; exact Nat.div_eq_of_lt hn
 have HT := Lib.hid (fun W h => rtrim_c W (some ⟨w.heap.size, 0, none⟩) 2 [n, 0] h (by simp))
 have HB := Lib.hid hn
 have hdv : (n : Int) / 4294967296 = 0 := by unfold B32 at hn; omega
 clear hn
 go_enter Try.func60, Try.ntmps60
 go_wp2_with fail
 have hwd : Words .u32 B32 (w.alloc (.cells #[.int .u32 (n : Nat), .int .u32 0] 132)) (some ⟨w.heap.size, 0, none⟩) 2 [n, 0] := by
  have := own_words (B := B32) (Own.new w 132 (wv .u32 [n, 0])) (by intro x hx; simp at hx; rcases hx with rfl | rfl; exact HB.out; exact B32_pos) 2 (by simp)
  simpa [wv] using this
 refine (HT.out _ hwd).mono ?_
 rintro e w1 ⟨v1, rfl, hb1, hr1⟩
 have hbe : Below w.heap.size w w1 := (by repeat (first | assumption | exact Below.refl _ _ | refine Below.drew ?_ | refine pw_below_drewN ?_ _ | refine Below.alloc ?_ (by first | omega | (simp <;> omega)) _ | refine Below.setCell ?_ (by first | omega | (simp <;> omega)) _ | refine Below.trans ?_ (Below.mono (by assumption) (by first | omega | (simp <;> omega)))))
 have HR := Lib.hid (show rR w1 v1 n by simpa [vl] using hr1)
 clear hr1 hb1 hwd
 go_wp2_with fail
 go_ret
 exact ⟨_, rfl, hbe, HR.out⟩
set_option maxRecDepth 100000 in
set_option maxHeartbeats 1000000 in
/-- I -/
theorem ri_c (w : World) (neg : Bool) (A : Option Addr) (m c n : Nat) (h : rR w (.slice A m c) n) : Calls Try.prog 84 #[.bool neg, .slice A m c] w (Post w fun r w' => r = .agg #[.bool (neg && decide (0 < n)), .slice A m c]) := by
 have h0 := h.len0
 have hd : decide (0 < n) = decide (0 < m) := by
  by_cases hm : m = 0
  · have := h0.1 hm; rw [hm, this]
  ·
   have : ¬ n = 0 := fun e => hm (h0.2 e)
   rw [decide_eq_true (show 0 < n by omega), decide_eq_true (show 0 < m by omega)]
 rw [hd]
 clear hd h0 h
 cases neg
 ·
  skip
  have HB : Hid (Cells [] (w.alloc (.cells #[.bool false, .slice none 0 0] 63))) := Lib.hid (Cells.nil _)
  have HO0 := Lib.hid (Own.new' w 63 [.bool false, .slice none 0 0] (w.heap.size) (by simp))
  have hbw : Below w.heap.size w (w.alloc (.cells #[.bool false, .slice none 0 0] 63)) := (by repeat (first | assumption | exact Below.refl _ _ | refine Below.drew ?_ | refine pw_below_drewN ?_ _ | refine Below.alloc ?_ (by first | omega | (simp <;> omega)) _ | refine Below.setCell ?_ (by first | omega | (simp <;> omega)) _ | refine Below.trans ?_ (Below.mono (by assumption) (by first | omega | (simp <;> omega)))))
  go_enter Try.func84, Try.ntmps84
  go_upto_region 1 with (fail)
  generalize (w.alloc (.cells #[.bool false, .slice none 0 0] 63)) = W0 at HB HO0 hbw ⊢
  have q0 := HO0.out.cell 0 _ rfl
  have f0 := HO0.out.frozen 0
  have q1 := HO0.out.cell 1 _ rfl
  have f1 := HO0.out.frozen 1
  go_wp2_with fail
  replace HB := Lib.hid (HB.out.set (p := ⟨w.heap.size, 0, none⟩) (.bool false) (by simp <;> omega))
  replace HO0 := Lib.hid (HO0.out.set 0 (.bool false))
  replace hbw := Below.setCell hbw (show w.heap.size ≤ (⟨w.heap.size, 0, none⟩ : Addr).block by simp <;> omega) (.bool false)
  replace q1 := (World.cell?_setCell_other W0 ⟨w.heap.size, 0, none⟩ ⟨w.heap.size, 1, none⟩ (.bool false) (by simp)).trans q1
  replace HB := Lib.hid (HB.out.set (p := ⟨w.heap.size, 1, none⟩) (.slice A m c) (by simp <;> omega))
  replace HO0 := Lib.hid (HO0.out.set 1 (.slice A m c))
  replace hbw := Below.setCell hbw (show w.heap.size ≤ (⟨w.heap.size, 1, none⟩ : Addr).block by simp <;> omega) (.slice A m c)
  clear q0 f0 q1 f1
  replace HO0 : Hid (Own _ _ _ [.bool false, .slice A m c]) := HO0
  generalize ((W0.setCell ⟨w.heap.size, 0, none⟩ (.bool false)).setCell ⟨w.heap.size, 1, none⟩ (.slice A m c)) = W1 at HB HO0 hbw ⊢
  have kk0 := HO0.out.cell 0 _ rfl
  have kk1 := HO0.out.cell 1 _ rfl
  refine bodyPost_ret (v := .agg #[.bool false, .slice A m c]) (by simp [results, Try.results84, go_sem, kk0, kk1]) rfl ⟨_, rfl, hbw, ?_⟩
  rfl
 ·
  by_cases hm : m = 0
  ·
   have hm' : ¬ (0 : Int) < (m : Int) := by omega
   have hm2 : ¬ 0 < m := by omega
   have HM := Lib.hid hm
   clear hm
   have HB : Hid (Cells [] (w.alloc (.cells #[.bool false, .slice none 0 0] 63))) := Lib.hid (Cells.nil _)
   have HO0 := Lib.hid (Own.new' w 63 [.bool false, .slice none 0 0] (w.heap.size) (by simp))
   have hbw : Below w.heap.size w (w.alloc (.cells #[.bool false, .slice none 0 0] 63)) := (by repeat (first | assumption | exact Below.refl _ _ | refine Below.drew ?_ | refine pw_below_drewN ?_ _ | refine Below.alloc ?_ (by first | omega | (simp <;> omega)) _ | refine Below.setCell ?_ (by first | omega | (simp <;> omega)) _ | refine Below.trans ?_ (Below.mono (by assumption) (by first | omega | (simp <;> omega)))))
   go_enter Try.func84, Try.ntmps84
   go_upto_region 1 with (fail)
   generalize (w.alloc (.cells #[.bool false, .slice none 0 0] 63)) = W0 at HB HO0 hbw ⊢
   have q0 := HO0.out.cell 0 _ rfl
   have f0 := HO0.out.frozen 0
   have q1 := HO0.out.cell 1 _ rfl
   have f1 := HO0.out.frozen 1
   go_wp2_with fail
   replace HB := Lib.hid (HB.out.set (p := ⟨w.heap.size, 0, none⟩) (.bool false) (by simp <;> omega))
   replace HO0 := Lib.hid (HO0.out.set 0 (.bool false))
   replace hbw := Below.setCell hbw (show w.heap.size ≤ (⟨w.heap.size, 0, none⟩ : Addr).block by simp <;> omega) (.bool false)
   replace q1 := (World.cell?_setCell_other W0 ⟨w.heap.size, 0, none⟩ ⟨w.heap.size, 1, none⟩ (.bool false) (by simp)).trans q1
   replace HB := Lib.hid (HB.out.set (p := ⟨w.heap.size, 1, none⟩) (.slice A m c) (by simp <;> omega))
   replace HO0 := Lib.hid (HO0.out.set 1 (.slice A m c))
   replace hbw := Below.setCell hbw (show w.heap.size ≤ (⟨w.heap.size, 1, none⟩ : Addr).block by simp <;> omega) (.slice A m c)
   clear q0 f0 q1 f1
   replace HO0 : Hid (Own _ _ _ [.bool false, .slice A m c]) := HO0
   generalize ((W0.setCell ⟨w.heap.size, 0, none⟩ (.bool false)).setCell ⟨w.heap.size, 1, none⟩ (.slice A m c)) = W1 at HB HO0 hbw ⊢
   have kk0 := HO0.out.cell 0 _ rfl
   have kk1 := HO0.out.cell 1 _ rfl
   refine bodyPost_ret (v := .agg #[.bool false, .slice A m c]) (by simp [results, Try.results84, go_sem, kk0, kk1]) rfl ⟨_, rfl, hbw, ?_⟩
   rfl
  ·
   have hm' : (0 : Int) < (m : Int) := by omega
   have hm2 : 0 < m := by omega
   have HM := Lib.hid hm
   clear hm
   have HB : Hid (Cells [] (w.alloc (.cells #[.bool false, .slice none 0 0] 63))) := Lib.hid (Cells.nil _)
   have HO0 := Lib.hid (Own.new' w 63 [.bool false, .slice none 0 0] (w.heap.size) (by simp))
   have hbw : Below w.heap.size w (w.alloc (.cells #[.bool false, .slice none 0 0] 63)) := (by repeat (first | assumption | exact Below.refl _ _ | refine Below.drew ?_ | refine pw_below_drewN ?_ _ | refine Below.alloc ?_ (by first | omega | (simp <;> omega)) _ | refine Below.setCell ?_ (by first | omega | (simp <;> omega)) _ | refine Below.trans ?_ (Below.mono (by assumption) (by first | omega | (simp <;> omega)))))
   go_enter Try.func84, Try.ntmps84
   go_upto_region 1 with (fail)
   generalize (w.alloc (.cells #[.bool false, .slice none 0 0] 63)) = W0 at HB HO0 hbw ⊢
   have q0 := HO0.out.cell 0 _ rfl
   have f0 := HO0.out.frozen 0
   have q1 := HO0.out.cell 1 _ rfl
   have f1 := HO0.out.frozen 1
   go_wp2_with fail
   replace HB := Lib.hid (HB.out.set (p := ⟨w.heap.size, 0, none⟩) (.bool true) (by simp <;> omega))
   replace HO0 := Lib.hid (HO0.out.set 0 (.bool true))
   replace hbw := Below.setCell hbw (show w.heap.size ≤ (⟨w.heap.size, 0, none⟩ : Addr).block by simp <;> omega) (.bool true)
   replace q1 := (World.cell?_setCell_other W0 ⟨w.heap.size, 0, none⟩ ⟨w.heap.size, 1, none⟩ (.bool true) (by simp)).trans q1
   replace HB := Lib.hid (HB.out.set (p := ⟨w.heap.size, 1, none⟩) (.slice A m c) (by simp <;> omega))
   replace HO0 := Lib.hid (HO0.out.set 1 (.slice A m c))
   replace hbw := Below.setCell hbw (show w.heap.size ≤ (⟨w.heap.size, 1, none⟩ : Addr).block by simp <;> omega) (.slice A m c)
   clear q0 f0 q1 f1
   replace HO0 : Hid (Own _ _ _ [.bool true, .slice A m c]) := HO0
   generalize ((W0.setCell ⟨w.heap.size, 0, none⟩ (.bool true)).setCell ⟨w.heap.size, 1, none⟩ (.slice A m c)) = W1 at HB HO0 hbw ⊢
   have kk0 := HO0.out.cell 0 _ rfl
   have kk1 := HO0.out.cell 1 _ rfl
   refine bodyPost_ret (v := .agg #[.bool true, .slice A m c]) (by simp [results, Try.results84, go_sem, kk0, kk1]) rfl ⟨_, rfl, hbw, ?_⟩
   first | rfl | (rw [decide_eq_true hm2]; rfl)
/-- abaculusref1.Int -/
def rRI (w : World) (v : Value) (z : Int) : Prop := ∃ s, v = .agg #[.bool (decide (z < 0)), s] ∧ rR w s z.natAbs
theorem rRI.ext {w w' : World} {v : Value} {z : Int} (h : rRI w v z) (he : Ext w w') : rRI w' v z := by
 obtain ⟨s, hv, h⟩ := h
 exact ⟨s, hv, h.ext he⟩
theorem rRI.drew {w : World} {v : Value} {z : Int} (h : rRI w v z) : rRI w.drew v z := h
theorem rRI.alloc {w : World} {v : Value} {z : Int} (h : rRI w v z) (o : Obj) : rRI (w.alloc o) v z := h.ext (ext_alloc _ _)
theorem rRI.set {w : World} {v : Value} {z : Int} (h : rRI w v z) {a : Addr} {u x : Value} (hc : w.cell? a = some u) (hu : noInt u = true) : rRI (w.setCell a x) v z := by
 obtain ⟨s, hv, h⟩ := h
 exact ⟨s, hv, h.set hc hu⟩
theorem rRI.open {w : World} {v : Value} {z : Int} (h : rRI w v z) : ∃ A c m, v = .agg #[.bool (decide (z < 0)), .slice A m c] ∧ rR w (.slice A m c) z.natAbs := by
 obtain ⟨s, hv, h⟩ := h
 obtain ⟨A, c, m, rfl, h⟩ := h.shape
 exact ⟨A, c, m, hv, h⟩
theorem rRI.shape {w : World} {v : Value} {z : Int} (h : rRI w v z) : ∃ s A c n, v = .agg #[.bool s, .slice A n c] ∧ rRI w (.agg #[.bool s, .slice A n c]) z := by
 obtain ⟨s, hv, h⟩ := h
 obtain ⟨A, c, m, rfl, h⟩ := h.shape
 exact ⟨_, A, c, m, hv, _, rfl, h⟩
theorem rRI.mk {w : World} {s : Bool} {A : Option Addr} {m c : Nat} {z : Int} (hs : s = decide (z < 0)) (h : rR w (.slice A m c) z.natAbs) : rRI w (.agg #[.bool s, .slice A m c]) z := ⟨_, by rw [hs], h⟩
set_option maxRecDepth 100000 in
set_option maxHeartbeats 1000000 in
/-- IntOf, of a small number -/
theorem riof_c (w : World) (z : Int) (hz : -2147483648 < z ∧ z < 2147483648) : Calls Try.prog 59 #[.int .i64 z] w (Post w fun v w' => rRI w' v z) := by
 have HO := Lib.hid (fun W => rof_c W z.natAbs (by unfold B32; omega))
 have HI := Lib.hid (fun W neg A m c h => ri_c W neg A m c z.natAbs h)
 have HT := Lib.hid (show z < 0 → ∀ W A m c, rR W (.slice A m c) z.natAbs → Calls Try.prog 84 #[.bool true, .slice A m c] W (Post W fun r w' => r = .agg #[.bool true, .slice A m c]) from fun hz0 W A m c h => by
  have h1 := ri_c W true A m c z.natAbs h
  rw [decide_eq_true (show 0 < z.natAbs by omega)] at h1
  exact h1)
 have HZ := Lib.hid hz
 by_cases h : z < 0
 ·
  have h1 : IntKind.u64.wrap z = z + 18446744073709551616 := by rw [IntKind.wrap_u64]; omega
  have h2 : IntKind.u64.wrap (-(z + 18446744073709551616)) = (z.natAbs : Int) := by rw [IntKind.wrap_u64]; omega
  clear hz
  have HB : Hid (Cells [] (w.alloc (.cells #[.bool false, .slice none 0 0] 63))) := Lib.hid (Cells.nil _)
  have HO0 := Lib.hid (Own.new' w 63 [.bool false, .slice none 0 0] (w.heap.size) (by simp))
  have hbw : Below w.heap.size w (w.alloc (.cells #[.bool false, .slice none 0 0] 63)) := (by repeat (first | assumption | exact Below.refl _ _ | refine Below.drew ?_ | refine pw_below_drewN ?_ _ | refine Below.alloc ?_ (by first | omega | (simp <;> omega)) _ | refine Below.setCell ?_ (by first | omega | (simp <;> omega)) _ | refine Below.trans ?_ (Below.mono (by assumption) (by first | omega | (simp <;> omega)))))
  go_enter Try.func59, Try.ntmps59
  go_wp2_with fail
  generalize (w.alloc (.cells #[.bool false, .slice none 0 0] 63)) = W0 at HB HO0 hbw ⊢
  refine (HO.out _).mono ?_
  rintro e W1 ⟨v1, rfl, hb1, hr1⟩
  replace HB := Lib.hid (HB.out.ext hb1)
  replace HO0 := Lib.hid (HO0.out.ext hb1)
  replace hbw := nT hbw hb1
  have R1 := Lib.hid hr1
  clear hr1
  clear hb1
  obtain ⟨A, c, m, rfl, h3⟩ := R1.out.shape
  clear R1
  have R1 := Lib.hid h3
  clear h3
  go_wp2_with fail
  refine (HT.out h _ _ _ _ R1.out).mono ?_
  rintro e W2 ⟨v1, rfl, hb1, rfl⟩
  replace HB := Lib.hid (HB.out.ext hb1)
  replace HO0 := Lib.hid (HO0.out.ext hb1)
  replace R1 := Lib.hid (R1.out.ext hb1)
  replace hbw := nT hbw hb1
  clear hb1
  have q0 := HO0.out.cell 0 _ rfl
  have f0 := HO0.out.frozen 0
  have q1 := HO0.out.cell 1 _ rfl
  have f1 := HO0.out.frozen 1
  go_wp2_with fail
  replace HB := Lib.hid (HB.out.set (p := ⟨w.heap.size, 0, none⟩) (.bool true) (by simp <;> omega))
  replace HO0 := Lib.hid (HO0.out.set 0 (.bool true))
  replace R1 := Lib.hid (R1.out.set (x := .bool true) q0 rfl)
  replace hbw := Below.setCell hbw (show w.heap.size ≤ (⟨w.heap.size, 0, none⟩ : Addr).block by simp <;> omega) (.bool true)
  replace q1 := (World.cell?_setCell_other W2 ⟨w.heap.size, 0, none⟩ ⟨w.heap.size, 1, none⟩ (.bool true) (by simp)).trans q1
  replace HB := Lib.hid (HB.out.set (p := ⟨w.heap.size, 1, none⟩) (.slice A m c) (by simp <;> omega))
  replace HO0 := Lib.hid (HO0.out.set 1 (.slice A m c))
  replace R1 := Lib.hid (R1.out.set (x := .slice A m c) q1 rfl)
  replace hbw := Below.setCell hbw (show w.heap.size ≤ (⟨w.heap.size, 1, none⟩ : Addr).block by simp <;> omega) (.slice A m c)
  clear q0 f0 q1 f1
  replace HO0 : Hid (Own _ _ _ [.bool true, .slice A m c]) := HO0
  generalize ((W2.setCell ⟨w.heap.size, 0, none⟩ (.bool true)).setCell ⟨w.heap.size, 1, none⟩ (.slice A m c)) = W3 at HB HO0 R1 hbw ⊢
  have kk0 := HO0.out.cell 0 _ rfl
  have kk1 := HO0.out.cell 1 _ rfl
  refine bodyPost_ret (v := .agg #[.bool true, .slice A m c]) (by simp [results, Try.results59, go_sem, kk0, kk1]) rfl ⟨_, rfl, hbw, ?_⟩
  exact rRI.mk (by simp [h]) R1.out
 ·
  have h1 : IntKind.u64.wrap z = (z.natAbs : Int) := by rw [IntKind.wrap_u64]; omega
  clear hz
  have HB : Hid (Cells [] (w.alloc (.cells #[.bool false, .slice none 0 0] 63))) := Lib.hid (Cells.nil _)
  have HO0 := Lib.hid (Own.new' w 63 [.bool false, .slice none 0 0] (w.heap.size) (by simp))
  have hbw : Below w.heap.size w (w.alloc (.cells #[.bool false, .slice none 0 0] 63)) := (by repeat (first | assumption | exact Below.refl _ _ | refine Below.drew ?_ | refine pw_below_drewN ?_ _ | refine Below.alloc ?_ (by first | omega | (simp <;> omega)) _ | refine Below.setCell ?_ (by first | omega | (simp <;> omega)) _ | refine Below.trans ?_ (Below.mono (by assumption) (by first | omega | (simp <;> omega)))))
  go_enter Try.func59, Try.ntmps59
  go_wp2_with fail
  generalize (w.alloc (.cells #[.bool false, .slice none 0 0] 63)) = W0 at HB HO0 hbw ⊢
  refine (HO.out _).mono ?_
  rintro e W1 ⟨v1, rfl, hb1, hr1⟩
  replace HB := Lib.hid (HB.out.ext hb1)
  replace HO0 := Lib.hid (HO0.out.ext hb1)
  replace hbw := nT hbw hb1
  have R1 := Lib.hid hr1
  clear hr1
  clear hb1
  obtain ⟨A, c, m, rfl, h3⟩ := R1.out.shape
  clear R1
  have R1 := Lib.hid h3
  clear h3
  go_wp2_with fail
  refine (HI.out _ _ _ _ _ R1.out).mono ?_
  rintro e W2 ⟨v1, rfl, hb1, rfl⟩
  replace HB := Lib.hid (HB.out.ext hb1)
  replace HO0 := Lib.hid (HO0.out.ext hb1)
  replace R1 := Lib.hid (R1.out.ext hb1)
  replace hbw := nT hbw hb1
  clear hb1
  have q0 := HO0.out.cell 0 _ rfl
  have f0 := HO0.out.frozen 0
  have q1 := HO0.out.cell 1 _ rfl
  have f1 := HO0.out.frozen 1
  go_wp2_with fail
  replace HB := Lib.hid (HB.out.set (p := ⟨w.heap.size, 0, none⟩) (.bool false) (by simp <;> omega))
  replace HO0 := Lib.hid (HO0.out.set 0 (.bool false))
  replace R1 := Lib.hid (R1.out.set (x := .bool false) q0 rfl)
  replace hbw := Below.setCell hbw (show w.heap.size ≤ (⟨w.heap.size, 0, none⟩ : Addr).block by simp <;> omega) (.bool false)
  replace q1 := (World.cell?_setCell_other W2 ⟨w.heap.size, 0, none⟩ ⟨w.heap.size, 1, none⟩ (.bool false) (by simp)).trans q1
  replace HB := Lib.hid (HB.out.set (p := ⟨w.heap.size, 1, none⟩) (.slice A m c) (by simp <;> omega))
  replace HO0 := Lib.hid (HO0.out.set 1 (.slice A m c))
  replace R1 := Lib.hid (R1.out.set (x := .slice A m c) q1 rfl)
  replace hbw := Below.setCell hbw (show w.heap.size ≤ (⟨w.heap.size, 1, none⟩ : Addr).block by simp <;> omega) (.slice A m c)
  clear q0 f0 q1 f1
  replace HO0 : Hid (Own _ _ _ [.bool false, .slice A m c]) := HO0
  generalize ((W2.setCell ⟨w.heap.size, 0, none⟩ (.bool false)).setCell ⟨w.heap.size, 1, none⟩ (.slice A m c)) = W3 at HB HO0 R1 hbw ⊢
  have kk0 := HO0.out.cell 0 _ rfl
  have kk1 := HO0.out.cell 1 _ rfl
  refine bodyPost_ret (v := .agg #[.bool false, .slice A m c]) (by simp [results, Try.results59, go_sem, kk0, kk1]) rfl ⟨_, rfl, hbw, ?_⟩
  exact rRI.mk (by simp [h]) R1.out
end Go.Proofs.Ytlaocmhcilhlbaa
