/- score.parted, Area. -/
import Derived.Test.YtadpjidakippeaaGreatY20
set_option linter.unusedVariables false
set_option linter.unusedSimpArgs false
namespace Go.Proofs.YtadpjidakippeaaGreat
open Go.RowKit
/-- A list of truth values. -/
def rBs (w : World) (v : Value) (l : List Bool) : Prop := ∃ A c, v = .slice A l.length c ∧ l.length ≤ c ∧ (l ≠ [] → ∃ g o, A = some ⟨g, o, none⟩ ∧ ∀ j (hj : j < l.length), w.cell? ⟨g, o + j, none⟩ = some (.bool l[j]))
theorem rBs.ext {w w' : World} {v : Value} {l : List Bool} (h : rBs w v l) (he : Ext w w') : rBs w' v l := by
 obtain ⟨A, c, hv, hc, h⟩ := h
 refine ⟨A, c, hv, hc, fun hl => ?_⟩
 obtain ⟨g, o, hA, h⟩ := h hl
 exact ⟨g, o, hA, fun j hj => ext_cell he (h j hj)⟩
theorem rBs.shape {w : World} {v : Value} {l : List Bool} (h : rBs w v l) : ∃ A c, v = .slice A l.length c ∧ rBs w (.slice A l.length c) l := by
 obtain ⟨A, c, rfl, h⟩ := h
 exact ⟨A, c, rfl, A, c, rfl, h⟩
theorem rBs.at {w : World} {A : Option Addr} {n c : Nat} {l : List Bool} (h : rBs w (.slice A n c) l) {j : Nat} (hj : j < l.length) : ∃ g o, A = some ⟨g, o, none⟩ ∧ w.cell? ⟨g, o + j, none⟩ = some (.bool (l.getD j false)) := by
 obtain ⟨A', c', hv, _, h⟩ := h
 simp only [Value.slice.injEq] at hv
 obtain ⟨rfl, rfl, rfl⟩ := hv
 obtain ⟨g, o, hA, h⟩ := h (by intro e; rw [e] at hj; simp at hj)
 have e : l.getD j false = l[j] := by rw [List.getD_eq_getElem?_getD, List.getElem?_eq_getElem hj]; rfl
 rw [e]
 exact ⟨g, o, hA, h j hj⟩
set_option maxRecDepth 100000 in
theorem matchedB_c (w : World) (A B : Option Addr) (n m c d : Nat) : Calls Tryz.prog 89 #[.slice A n c, .slice B m d] w (Post w fun r _ => r = .bool (decide (n = m ∧ 0 < n))) := by
 by_cases h : n = m
 ·
  subst h
  have e1 : ((n : Int) == (n : Int)) = true := by simp
  by_cases h0 : 0 < n
  ·
   have e2 : (0 : Int) < (n : Int) := by omega
   go_enter Tryz.func89, Tryz.ntmps89
   go_wp2_with fail
   go_ret
   exact ⟨_, rfl, Below.refl _ _, by simp [h0]⟩
  ·
   have e2 : ¬ (0 : Int) < (n : Int) := by omega
   go_enter Tryz.func89, Tryz.ntmps89
   go_wp2_with fail
   go_ret
   exact ⟨_, rfl, Below.refl _ _, by simp [h0]⟩
 ·
  have e1 : ((n : Int) == (m : Int)) = false := by rw [beq_eq_false_iff_ne]; omega
  have e2 : ¬ (n : Int) = (m : Int) := by omega
  go_enter Tryz.func89, Tryz.ntmps89
  go_wp2_with fail
  go_ret
  exact ⟨_, rfl, Below.refl _ _, by simp [h]⟩
set_option maxRecDepth 100000 in
/-- parted$1 -/
theorem is_at_c (w : World) (b1 : Nat) (A : Option Addr) (n c : Nat) (l : List Bool) (i : Nat) (h1 : w.cell? ⟨b1, 0, none⟩ = some (.slice A n c)) (hl : rBs w (.slice A n c) l) (hi : i < n) (hn : l.length = n) :
  Calls Tryz.prog 90 #[.int .i64 (i : Nat), .pointer (some ⟨b1, 0, none⟩)] w (Post w fun r _ => r = .bool (l.getD i false)) := by
 obtain ⟨g, o, rfl, xa⟩ := hl.at (j := i) (by omega)
 have hi0 : (i : Int) < (n : Int) := by omega
 generalize l.getD i false = x at xa ⊢
 go_enter Tryz.func90, Tryz.ntmps90
 go_wp2_with fail
 go_ret
 exact ⟨_, rfl, Below.refl _ _, rfl⟩
def yesN (l : List Bool) : Nat := cntTo (fun i => l.getD i false) l.length
/-- What parted tells: how many are, how many are not, why there is no curve. -/
def partE (y n : Nat) : Int := if y = 0 ∨ n = 0 then 7 else 0
def PartedSaid (r : Value) (y n : Nat) : Prop := r = .tuple #[.int .i64 ((if y = 0 ∨ n = 0 then 0 else y : Nat) : Int), .int .i64 ((if y = 0 ∨ n = 0 then 0 else n : Nat) : Int), .int .i64 (partE y n)]
set_option maxRecDepth 100000 in
set_option maxHeartbeats 1000000 in
/-- parted, of lists that are matched -/
theorem parted_ok (w : World) (va : Value) (B : Option Addr) (n d : Nat) (l : List Bool) (ha : rBs w va l) (hl : l.length = n) (h0 : 0 < n) (hn : n ≤ 1099511627775) : Calls Tryz.prog 50 #[va, .slice B n d] w (Post w fun r w' => PartedSaid r (yesN l) (n - yesN l)) := by
 obtain ⟨A, c, rfl, ha⟩ := ha.shape
 have hy : yesN l ≤ n := by unfold yesN; rw [hl]; exact cntTo_le _ _
 have ey : cntTo (fun i => l.getD i false) n = yesN l := by unfold yesN; rw [hl]
 rw [hl] at ha ⊢
 have HC := Lib.hid (fun W b1 h1 (h2 : rBs W (.slice A n c) l) => countf_c W 90 #[.pointer (some ⟨b1, 0, none⟩)] (fun _ _ => by kernel_rfl) n (fun i => l.getD i false) (fun i hi W' he => is_at_c W' b1 A n c l i (ext_cell he h1) (h2.ext he) hi hl) hn)
 rw [ey] at HC
 have HM := Lib.hid (fun W => matchedB_c W A B n n c d)
 rw [show decide (n = n ∧ 0 < n) = true from by simp [h0]] at HM
 have H1 := Lib.hid ha
 obtain ⟨y, ey2⟩ : ∃ y, yesN l = y := ⟨_, rfl⟩
 rw [ey2] at HC hy ⊢
 obtain ⟨z, ez⟩ : ∃ z, n - y = z := ⟨_, rfl⟩
 have hwz : IntKind.i64.wrap ((n : Int) - (y : Int)) = (z : Int) := by rw [i64w (by omega) (by omega)]; omega
 rw [ez]
 have hmf : ∀ (fn : Fn) (first cap : Array Value) (w : World), (Instr.makeFunc fn first cap).run Tryz.prog w = .ok (.func fn first cap) w := fun _ _ _ _ => rfl
 clear ha hl ey ey2 ez hy
 have HB : Hid (Cells [(w.heap.size, 0, .slice A n c)] (w.alloc (.cells #[.slice A n c] 61))) := Lib.hid (Cells.cons (by go_simp) (Cells.nil _))
 have hbw : Below w.heap.size w (w.alloc (.cells #[.slice A n c] 61)) := (by repeat (first | assumption | exact nB1 _ _ | refine nB2 ?_ | refine pw_below_drewN ?_ _ | refine nB3 ?_ (by first | omega | (simp <;> omega)) _ | refine nB4 ?_ (by first | omega | (simp <;> omega)) _ | refine nB5 ?_ (by assumption) (by first | omega | (simp <;> omega))))
 go_enter Tryz.func50, Tryz.ntmps50
 go_wp2_with fail
 generalize (w.alloc (.cells #[.slice A n c] 61)) = W0 at HB hbw ⊢
 obtain ⟨y0, _⟩ := id HB.out
 go_wp2_with fail
 clear y0
 refine (HM.out _).mono ?_
 rintro e W1 ⟨v1, rfl, hb1, rfl⟩
 replace HB := Lib.hid (HB.out.ext hb1)
 replace hbw := nT hbw hb1
 clear hb1
 obtain ⟨y0, _⟩ := id HB.out
 go_wp2_with fail
 clear y0
 refine (HC.out _ _ HB.out.1 (H1.out.ext hbw)).mono ?_
 rintro e W2 ⟨v1, rfl, hb1, rfl⟩
 replace HB := Lib.hid (HB.out.ext hb1)
 replace hbw := nT hbw hb1
 clear hb1
 by_cases hy0 : y = 0
 ·
  subst hy0
  obtain ⟨y0, _⟩ := id HB.out
  go_wp2_with fail
  refine bodyPost_ret (v := .tuple #[.int .i64 0, .int .i64 0, .int .i64 7]) (by simp [results, Tryz.results50, go_sem]) rfl ⟨_, rfl, hbw, ?_⟩
  show PartedSaid _ _ _
  unfold PartedSaid partE
  rw [if_pos (.inl rfl), if_pos (.inl rfl), if_pos (.inl rfl)]
  rfl
 ·
  have y1 : ((y : Int) == 0) = false := by rw [beq_eq_false_iff_ne]; omega
  have y2 : ¬ (y : Int) = 0 := by omega
  by_cases hz0 : z = 0
  ·
   subst hz0
   obtain ⟨y0, _⟩ := id HB.out
   go_wp2_with fail
   refine bodyPost_ret (v := .tuple #[.int .i64 0, .int .i64 0, .int .i64 7]) (by simp [results, Tryz.results50, go_sem]) rfl ⟨_, rfl, hbw, ?_⟩
   show PartedSaid _ _ _
   unfold PartedSaid partE
   rw [if_pos (.inr rfl), if_pos (.inr rfl), if_pos (.inr rfl)]
   rfl
  ·
   have z1 : ((z : Int) == 0) = false := by rw [beq_eq_false_iff_ne]; omega
   have z2 : ¬ (z : Int) = 0 := by omega
   obtain ⟨y0, _⟩ := id HB.out
   go_wp2_with fail
   refine bodyPost_ret (v := .tuple #[.int .i64 (y : Nat), .int .i64 (z : Nat), .int .i64 0]) (by simp [results, Tryz.results50, go_sem]) rfl ⟨_, rfl, hbw, ?_⟩
   show PartedSaid _ _ _
   unfold PartedSaid partE
   have hyz : ¬ (y = 0 ∨ z = 0) := fun h => h.elim hy0 hz0
   rw [if_neg hyz, if_neg hyz, if_neg hyz]
/-- Twice how many pairs stand right. -/
def pairTo (l : List Bool) (q : List Rat) (i : Nat) : Nat → Int
 | 0 => 0
 | k + 1 => pairTo l q i k + (if l.getD i false = true ∧ l.getD k false = false then 1 + cmpQ (q.getD i 0) (q.getD k 0) else 0)
def halfTo (l : List Bool) (q : List Rat) (n : Nat) : Nat → Int
 | 0 => 0
 | i + 1 => halfTo l q n i + pairTo l q i n
theorem cmpQ_bound (a b : Rat) : -1 ≤ cmpQ a b ∧ cmpQ a b ≤ 1 := by
 unfold cmpQ
 generalize a.num * b.den - b.num * a.den = z
 rcases Int.lt_trichotomy z 0 with h | h | h
 · rw [Int.sign_eq_neg_one_of_neg h]; omega
 · subst h; decide
 · rw [Int.sign_eq_one_of_pos h]; omega
theorem pairTo_bound (l : List Bool) (q : List Rat) (i : Nat) : ∀ k, 0 ≤ pairTo l q i k ∧ pairTo l q i k ≤ 2 * k
 | 0 => ⟨Int.le_refl _, Int.le_refl _⟩
 | k + 1 => by
  have h := pairTo_bound l q i k
  have h2 := cmpQ_bound (q.getD i 0) (q.getD k 0)
  simp only [pairTo]
  split <;> omega
theorem halfTo_bound (l : List Bool) (q : List Rat) (n : Nat) (hn : n ≤ 1000000) : ∀ i, i ≤ n → 0 ≤ halfTo l q n i ∧ halfTo l q n i ≤ 2000000 * i
 | 0, _ => ⟨Int.le_refl _, Int.le_refl _⟩
 | i + 1, hi => by
  have h := halfTo_bound l q n hn i (by omega)
  have h2 := pairTo_bound l q i n
  simp only [halfTo]
  omega
structure AreaIn (w : World) (W : World) : Prop where
 be : Below w.heap.size w W
 o4 : Own W w.heap.size 32 [.bool false, .slice none 0 0, .slice none 0 0]
theorem half_succ {l : List Bool} {q : List Rat} {i k : Nat} {x y : Bool} (hx : l.getD i false = x) (hy : l.getD k false = y) : pairTo l q i (k + 1) = pairTo l q i k + (if x = true ∧ y = false then 1 + cmpQ (q.getD i 0) (q.getD k 0) else 0) := by
 simp only [pairTo]; rw [hx, hy]
set_option maxRecDepth 100000 in
set_option maxHeartbeats 4000000 in
/-- Area, where there are both -/
theorem area_ok (w : World) (va vb : Value) (l : List Bool) (q : List Rat) (ha : rBs w va l) (hb : rQs w vb q) (hlq : q.length = l.length) (hn : l.length ≤ 1000000) (hy : yesN l ≠ 0) (hz : l.length - yesN l ≠ 0) (hf : ∀ i k, i < l.length → k < l.length → qb (q.getD i 0) + qb (q.getD k 0) ≤ 17592186043000) :
  Calls Tryz.prog 19 #[va, vb] w (Post w fun r w' => ScSaid w' r 0 (mkRat (halfTo l q l.length l.length) (2 * yesN l * (l.length - yesN l)))) := by
 obtain ⟨A, c, rfl, ha⟩ := ha.shape
 obtain ⟨B, d, rfl, hb⟩ := hb.shape
 have hl0 : 0 < l.length := by omega
 have hyl : yesN l ≤ l.length := by unfold yesN; exact cntTo_le _ _
 have HP := Lib.hid (fun W h => parted_ok W (.slice A l.length c) B l.length d l h rfl hl0 (by omega))
 rw [hlq] at hb ⊢
 have HHB := Lib.hid (halfTo_bound l q l.length hn)
 obtain ⟨n, en⟩ : ∃ n, l.length = n := ⟨_, rfl⟩
 rw [en] at HP ha hb hn hz hf hl0 hyl hlq HHB ⊢
 obtain ⟨y, ey⟩ : ∃ y, yesN l = y := ⟨_, rfl⟩
 rw [ey] at HP hy hz hyl ⊢
 obtain ⟨z, ez⟩ : ∃ z, n - y = z := ⟨_, rfl⟩
 rw [ez] at HP hz ⊢
 have hyz : ¬ (y = 0 ∨ z = 0) := fun h => h.elim hy hz
 unfold PartedSaid partE at HP
 rw [if_neg hyz, if_neg hyz, if_neg hyz] at HP
 have h1 : 2 * y * z ≤ 2 * 1000000 * 1000000 := Nat.mul_le_mul (by omega) (by omega)
 have h2 := halfTo_bound l q n hn n (Nat.le_refl _)
 obtain ⟨t, et⟩ : ∃ t, 2 * y * z = t := ⟨_, rfl⟩
 rw [et] at h1 ⊢
 have et2 : ((2 * (y : Int)) * (z : Int)) = (t : Int) := by rw [← et]; simp
 have hw1 : IntKind.i64.wrap (2 * (y : Int)) = 2 * (y : Int) := i64w (by omega) (by omega)
 have hw2 : IntKind.i64.wrap ((2 * (y : Int)) * (z : Int)) = (t : Int) := by rw [et2, i64w (by omega) (by omega)]
 have HO := Lib.hid (fun W => over_c W (halfTo l q n n) t ⟨by omega, by omega⟩ (by omega))
 have H1 := Lib.hid ha
 have H2 := Lib.hid hb
 have HF := Lib.hid hf
 have HN := Lib.hid (And.intro hn (And.intro en hlq))
 clear ha hb hn hy hz hf hl0 hyl hlq hyz et et2 h1 h2 ez ey en
 have HB : Hid (Cells [] (w.alloc (.cells #[.bool false, .slice none 0 0, .slice none 0 0] 32))) := Lib.hid (Cells.nil _)
 have HO0 := Lib.hid (Own.new' w 32 [.bool false, .slice none 0 0, .slice none 0 0] (w.heap.size) (by simp))
 have hbw : Below w.heap.size w (w.alloc (.cells #[.bool false, .slice none 0 0, .slice none 0 0] 32)) := (by repeat (first | assumption | exact nB1 _ _ | refine nB2 ?_ | refine pw_below_drewN ?_ _ | refine nB3 ?_ (by first | omega | (simp <;> omega)) _ | refine nB4 ?_ (by first | omega | (simp <;> omega)) _ | refine nB5 ?_ (by assumption) (by first | omega | (simp <;> omega))))
 go_enter Tryz.func19, Tryz.ntmps19
 go_wp2_with fail
 generalize (w.alloc (.cells #[.bool false, .slice none 0 0, .slice none 0 0] 32)) = W0 at HB HO0 hbw ⊢
 refine (HP.out _ (H1.out.ext hbw)).mono ?_
 rintro e W1 ⟨v1, rfl, hb1, rfl⟩
 replace HB := Lib.hid (HB.out.ext hb1)
 replace HO0 := Lib.hid (HO0.out.ext hb1)
 replace hbw := nT hbw hb1
 clear hb1
 go_upto_block 0 with (fail)
 go_cut [9] (fun p9 WC => p9 = .int .i64 (halfTo l q n n) ∧ AreaIn w WC)
 case first =>
  go_wp2_with fail
  go_loopw [9, 25] (fun t9 t W => ∃ i : Nat, t = .int .i64 (i : Nat) ∧ i ≤ n ∧ t9 = .int .i64 (halfTo l q n i) ∧ AreaIn w W) (fun _ t _ => (n - (intOf t).toNat))
  case atStart => exact ⟨0, rfl, Nat.zero_le _, rfl, hbw, HO0.out⟩
  case round =>
   obtain ⟨i, rfl, hi, rfl, hd⟩ := hrel
   clear HB HO0 hbw
   have HD := Lib.hid hd
   clear hd
   rcases Nat.lt_or_ge i n with hik | hik
   ·
    have hii : (i : Int) < (n : Int) := by omega
    have HIK := Lib.hid hik
    have hn1 := HN.out.1
    have hwi : IntKind.i64.wrap ((i : Int) + 1) = ((i + 1 : Nat) : Int) := i64w (by omega) (by omega)
    have b1 := HHB.out i (by omega)
    have b2 := HHB.out (i + 1) (by omega)
    have ES := Lib.hid (show halfTo l q n (i + 1) = halfTo l q n i + pairTo l q i n from rfl)
    obtain ⟨s, es⟩ : ∃ s, halfTo l q n i = s := ⟨_, rfl⟩
    rw [es] at ES b1 ⊢
    have B1 := Lib.hid b1
    clear es b1 b2 hi hn1
    go_wp2_with fail
    go_loopw [9, 30] (fun t9 t W => ∃ k : Nat, t = .int .i64 (k : Nat) ∧ k ≤ n ∧ t9 = .int .i64 (s + pairTo l q i k) ∧ AreaIn w W) (fun _ t _ => (n - (intOf t).toNat))
    case atStart => exact ⟨0, rfl, Nat.zero_le _, by simp [pairTo], HD.out⟩
    case round =>
     obtain ⟨k, rfl, hk, rfl, hd⟩ := hrel
     clear HD
     have HD := Lib.hid hd
     clear hd
     rcases Nat.lt_or_ge k n with hkn | hkn
     ·
      have hkk : (k : Int) < (n : Int) := by omega
      have HKN := Lib.hid hkn
      have hn1 := HN.out.1
      have hwk : IntKind.i64.wrap ((k : Int) + 1) = ((k + 1 : Nat) : Int) := i64w (by omega) (by omega)
      have hbw := HD.out.be
      have b1 := B1.out
      have b3 := pairTo_bound l q i k
      obtain ⟨g, o, rfl, xa⟩ := H1.out.at (j := i) (by rw [HN.out.2.1]; exact hik)
      obtain ⟨g', o', e1, xb⟩ := H1.out.at (j := k) (by rw [HN.out.2.1]; exact hkn)
      simp only [Option.some.injEq, Addr.mk.injEq, and_true] at e1
      obtain ⟨rfl, rfl⟩ := e1
      obtain ⟨x, ex⟩ : ∃ x, l.getD i false = x := ⟨_, rfl⟩
      obtain ⟨y', ey⟩ : ∃ y, l.getD k false = y := ⟨_, rfl⟩
      have EH := Lib.hid (half_succ (q := q) ex ey)
      rw [ex] at xa
      rw [ey] at xb
      obtain ⟨u, eu⟩ : ∃ u, pairTo l q i k = u := ⟨_, rfl⟩
      rw [eu] at EH b3 ⊢
      have ya := ext_cell hbw xa
      have yb := ext_cell hbw xb
      clear ex ey eu xa xb
      have trio : (x = true ∧ y' = false) ∨ ¬ (x = true ∧ y' = false) := Classical.em _
      rcases trio with ⟨rfl, rfl⟩ | ht
      ·
       rw [if_pos ⟨rfl, rfl⟩] at EH
       obtain ⟨gq, oq, sa, Aa, ca, na, Ba, ka, ma, rfl, pa, pb, pc, ra⟩ := (H2.out.ext hbw).at (j := i) (by rw [HN.out.2.2]; exact hik)
       obtain ⟨gq', oq', sb, Ab, cb, nb, Bb, kb, mb, e2, pd, pe, pf, rb⟩ := (H2.out.ext hbw).at (j := k) (by rw [HN.out.2.2]; exact hkn)
       simp only [Option.some.injEq, Addr.mk.injEq, and_true] at e2
       obtain ⟨rfl, rfl⟩ := e2
       have f1 : q[i]'(by rw [HN.out.2.2]; exact hik) = q.getD i 0 := by rw [List.getD_eq_getElem?_getD, List.getElem?_eq_getElem (by rw [HN.out.2.2]; exact hik)]; rfl
       have f2 : q[k]'(by rw [HN.out.2.2]; exact hkn) = q.getD k 0 := by rw [List.getD_eq_getElem?_getD, List.getElem?_eq_getElem (by rw [HN.out.2.2]; exact hkn)]; rfl
       rw [f1] at ra
       rw [f2] at rb
       have hq := HF.out i k hik hkn
       have b4 := cmpQ_bound (q.getD i 0) (q.getD k 0)
       generalize q.getD i 0 = qi at ra hq EH b4
       generalize q.getD k 0 = qk at rb hq EH b4
       obtain ⟨cv, ec⟩ : ∃ c, cmpQ qi qk = c := ⟨_, rfl⟩
       have HC := Lib.hid (fun W v u h h' => qcmp_c W v u qi qk h h' (by omega))
       rw [ec] at HC EH b4
       have R1 := Lib.hid ra
       have R2 := Lib.hid rb
       have hwa : IntKind.i64.wrap (1 + cv) = 1 + cv := i64w (by omega) (by omega)
       have hwb : IntKind.i64.wrap (s + u + (1 + cv)) = s + u + (1 + cv) := i64w (by omega) (by omega)
       have HO0 := Lib.hid HD.out.o4
       clear f1 f2 hq ec b4 ra rb b1 b3 hn1 hk hkn
       go_wp2_with fail
       have HB : Hid (Cells [(gq, oq + i * 3, .bool sa), (gq, oq + i * 3 + 1, .slice Aa na ca), (gq, oq + i * 3 + 2, .slice Ba ma ka), (gq, oq + k * 3, .bool sb), (gq, oq + k * 3 + 1, .slice Ab nb cb), (gq, oq + k * 3 + 2, .slice Bb mb kb)] wr) := Lib.hid (Cells.cons (pa) (Cells.cons (pb) (Cells.cons (pc) (Cells.cons (pd) (Cells.cons (pe) (Cells.cons (pf) (Cells.nil _)))))))
       clear pa pb pc pd pe pf
       replace HB := Lib.hid (HB.out.drew)
       replace HO0 := Lib.hid (HO0.out.drew)
       replace R1 := Lib.hid (R1.out.drew)
       replace R2 := Lib.hid (R2.out.drew)
       replace hbw := Below.drew hbw
       refine wp_hoist [(0, true), (1, true), (2, true), (3, true), (4, true), (5, true), (6, true), (7, true), (8, true), (9, false), (10, true), (11, true), (12, false)] (Cells [(gq, oq + i * 3, .bool sa), (gq, oq + i * 3 + 1, .slice Aa na ca), (gq, oq + i * 3 + 2, .slice Ba ma ka), (gq, oq + k * 3, .bool sb), (gq, oq + k * 3 + 1, .slice Ab nb cb), (gq, oq + k * 3 + 2, .slice Bb mb kb)]) (by kernel_rfl) (by kernel_rfl) ?_ ?_
       · exact HB.out
       generalize wr.drew = W21 at HB HO0 R1 R2 hbw ⊢
       refine hz_yes (v := ?_) rfl (by kernel_rfl) (fun W hW => ?_) ?_; rotate_left; (go_simp; try with_reducible rfl)
       (try (conv => arg 6; simp only [Act.put, gL]))
       refine hz_yes (v := ?_) rfl (by kernel_rfl) (fun W hW => ?_) ?_; rotate_left; (go_simp; try with_reducible rfl)
       (try (conv => arg 6; simp only [Act.put, gL]))
       refine hz_yes (v := ?_) rfl (by kernel_rfl) (fun W hW => ?_) ?_; rotate_left; (go_simp; try with_reducible rfl)
       (try (conv => arg 6; simp only [Act.put, gL]))
       refine hz_yes (v := ?_) rfl (by kernel_rfl) (fun W hW => ?_) ?_; rotate_left; (go_simp; try with_reducible rfl)
       (try (conv => arg 6; simp only [Act.put, gL]))
       refine hz_yes (v := ?_) rfl (by kernel_rfl) (fun W hW => ?_) ?_; rotate_left; (obtain ⟨y0, y1, y2, y3, y4, y5, _⟩ := hW; go_simp; try with_reducible rfl)
       (try (conv => arg 6; simp only [Act.put, gL]))
       refine hz_yes (v := ?_) rfl (by kernel_rfl) (fun W hW => ?_) ?_; rotate_left; (go_simp; try with_reducible rfl)
       (try (conv => arg 6; simp only [Act.put, gL]))
       refine hz_yes (v := ?_) rfl (by kernel_rfl) (fun W hW => ?_) ?_; rotate_left; (go_simp; try with_reducible rfl)
       (try (conv => arg 6; simp only [Act.put, gL]))
       refine hz_yes (v := ?_) rfl (by kernel_rfl) (fun W hW => ?_) ?_; rotate_left; (go_simp; try with_reducible rfl)
       (try (conv => arg 6; simp only [Act.put, gL]))
       refine hz_yes (v := ?_) rfl (by kernel_rfl) (fun W hW => ?_) ?_; rotate_left; (obtain ⟨y0, y1, y2, y3, y4, y5, _⟩ := hW; go_simp; try with_reducible rfl)
       (try (conv => arg 6; simp only [Act.put, gL]))
       refine hz_eff rfl (by kernel_rfl) (fun K hK => ?_)
       refine wp_call (HC.out _ _ _ R1.out R2.out) (by kernel_rfl) ?_
       rintro v1 W22 hb1 rfl
       refine hK.out _ _ ?_ ?_
       · exact HB.out.ext hb1
       clear hK K
       (try (conv => arg 6; simp only [Act.put, gL]))
       replace HB := Lib.hid (HB.out.ext hb1)
       replace HO0 := Lib.hid (HO0.out.ext hb1)
       replace R1 := Lib.hid (R1.out.ext hb1)
       replace R2 := Lib.hid (R2.out.ext hb1)
       replace hbw := nT hbw hb1
       clear hb1
       refine hz_yes (v := ?_) rfl (by kernel_rfl) (fun W hW => ?_) ?_; rotate_left; (go_simp; try with_reducible rfl)
       (try (conv => arg 6; simp only [Act.put, gL]))
       refine hz_yes (v := ?_) rfl (by kernel_rfl) (fun W hW => ?_) ?_; rotate_left; (go_simp; try with_reducible rfl)
       (try (conv => arg 6; simp only [Act.put, gL]))
       refine hz_eff rfl (by kernel_rfl) (fun K hK => ?_)
       go_simp
       refine hK.out _ _ ?_ ?_
       · exact HB.out
       clear hK K
       (try (conv => arg 6; simp only [Act.put, gL]))
       refine hz_nil ?_
       go_wp2
       go_roundw
       case rel => exact ⟨k + 1, rfl, HKN.out, by rw [EH.out]; exact vint (by omega), hbw, HO0.out⟩
       case measure => simp [intOf]; have := HKN.out; omega
      ·
       rw [if_neg ht] at EH
       cases x with
       | false =>
        clear ht
        go_wp2
        go_roundw
        case rel => exact ⟨k + 1, rfl, HKN.out, by rw [EH.out]; exact vint (by omega), HD.out⟩
        case measure => simp [intOf]; have := HKN.out; omega
       | true =>
        have hy : y' = true := by cases y' <;> simp_all
        subst hy
        clear ht
        go_wp2
        go_roundw
        case rel => exact ⟨k + 1, rfl, HKN.out, by rw [EH.out]; exact vint (by omega), HD.out⟩
        case measure => simp [intOf]; have := HKN.out; omega
     ·
      obtain rfl : k = n := by omega
      have hkk : ¬ (k : Int) < (k : Int) := by omega
      go_wp2
      go_roundw
      case rel => exact ⟨i + 1, rfl, HIK.out, by rw [ES.out], HD.out⟩
      case measure => simp [intOf]; have := HIK.out; omega
   ·
    obtain rfl : i = n := by omega
    have hii : ¬ (i : Int) < (i : Int) := by omega
    go_wp2_with fail
    go_meet
    exact ⟨rfl, HD.out⟩
 clear HB HO0 hbw
 obtain ⟨rfl, hd⟩ := hcut
 have hbw := hd.be
 have HO0 := Lib.hid hd.o4
 clear hd
 go_wp2_with fail
 refine (HO.out _).mono ?_
 rintro e W21 ⟨v1, rfl, hb1, hr1⟩
 obtain ⟨Es, EA, Ec, En, EB, Ed, Em, rfl, hr1⟩ := hr1.shape
 replace HO0 := Lib.hid (HO0.out.ext hb1)
 replace hbw := nT hbw hb1
 have R1 := Lib.hid hr1
 clear hr1
 clear hb1
 have q0 := HO0.out.cell 0 _ rfl
 have f0 := HO0.out.frozen 0
 have q1 := HO0.out.cell 1 _ rfl
 have f1 := HO0.out.frozen 1
 have q2 := HO0.out.cell 2 _ rfl
 have f2 := HO0.out.frozen 2
 go_wp2_with fail
 replace HO0 := Lib.hid (HO0.out.set 0 (.bool Es))
 replace R1 := Lib.hid (R1.out.set (x := .bool Es) q0 rfl)
 replace hbw := nB4 hbw (show w.heap.size ≤ (⟨w.heap.size, 0, none⟩ : Addr).block by simp <;> omega) (.bool Es)
 replace q1 := (nC W21 ⟨w.heap.size, 0, none⟩ ⟨w.heap.size, 1, none⟩ (.bool Es) (by simp)).trans q1
 replace q2 := (nC W21 ⟨w.heap.size, 0, none⟩ ⟨w.heap.size, 2, none⟩ (.bool Es) (by simp)).trans q2
 replace HO0 := Lib.hid (HO0.out.set 1 (.slice EA En Ec))
 replace R1 := Lib.hid (R1.out.set (x := .slice EA En Ec) q1 rfl)
 replace hbw := nB4 hbw (show w.heap.size ≤ (⟨w.heap.size, 1, none⟩ : Addr).block by simp <;> omega) (.slice EA En Ec)
 replace q2 := (nC (W21.setCell ⟨w.heap.size, 0, none⟩ (.bool Es)) ⟨w.heap.size, 1, none⟩ ⟨w.heap.size, 2, none⟩ (.slice EA En Ec) (by simp)).trans q2
 replace HO0 := Lib.hid (HO0.out.set 2 (.slice EB Em Ed))
 replace R1 := Lib.hid (R1.out.set (x := .slice EB Em Ed) q2 rfl)
 replace hbw := nB4 hbw (show w.heap.size ≤ (⟨w.heap.size, 2, none⟩ : Addr).block by simp <;> omega) (.slice EB Em Ed)
 clear q0 f0 q1 f1 q2 f2
 replace HO0 : Hid (Own _ _ _ [.bool Es, .slice EA En Ec, .slice EB Em Ed]) := HO0
 generalize (((W21.setCell ⟨w.heap.size, 0, none⟩ (.bool Es)).setCell ⟨w.heap.size, 1, none⟩ (.slice EA En Ec)).setCell ⟨w.heap.size, 2, none⟩ (.slice EB Em Ed)) = W22 at HO0 R1 hbw ⊢
 have kk0 := HO0.out.cell 0 _ rfl
 have kk1 := HO0.out.cell 1 _ rfl
 have kk2 := HO0.out.cell 2 _ rfl
 refine bodyPost_ret (v := .tuple #[.agg #[.bool Es, .slice EA En Ec, .slice EB Em Ed], .int .i64 0]) (by simp [results, Tryz.results19, go_sem, kk0, kk1, kk2]) rfl ⟨_, rfl, hbw, ?_⟩
 exact ⟨_, _, _, _, _, _, _, rfl, R1.out⟩
set_option maxRecDepth 100000 in
set_option maxHeartbeats 1000000 in
/-- Area, where none are, or all -/
theorem area_none (w : World) (va : Value) (B : Option Addr) (n d : Nat) (l : List Bool) (ha : rBs w va l) (hl : l.length = n) (h0 : 0 < n) (hn : n ≤ 1099511627775) (h : yesN l = 0 ∨ n - yesN l = 0) : Calls Tryz.prog 19 #[va, .slice B n d] w (Post w fun r w' => ScSaid w' r 7 0) := by
 obtain ⟨A, c, rfl, ha⟩ := ha.shape
 have HP := Lib.hid (fun W h => parted_ok W (.slice A l.length c) B n d l h hl h0 hn)
 rw [hl] at HP ha ⊢
 unfold PartedSaid partE at HP
 rw [if_pos h, if_pos h, if_pos h] at HP
 have H1 := Lib.hid ha
 have HB : Hid (Cells [] (w.alloc (.cells #[.bool false, .slice none 0 0, .slice none 0 0] 32))) := Lib.hid (Cells.nil _)
 have HO0 := Lib.hid (Own.new' w 32 [.bool false, .slice none 0 0, .slice none 0 0] (w.heap.size) (by simp))
 have hbw : Below w.heap.size w (w.alloc (.cells #[.bool false, .slice none 0 0, .slice none 0 0] 32)) := (by repeat (first | assumption | exact nB1 _ _ | refine nB2 ?_ | refine pw_below_drewN ?_ _ | refine nB3 ?_ (by first | omega | (simp <;> omega)) _ | refine nB4 ?_ (by first | omega | (simp <;> omega)) _ | refine nB5 ?_ (by assumption) (by first | omega | (simp <;> omega))))
 go_enter Tryz.func19, Tryz.ntmps19
 go_wp2_with fail
 generalize (w.alloc (.cells #[.bool false, .slice none 0 0, .slice none 0 0] 32)) = W0 at HB HO0 hbw ⊢
 refine (HP.out _ (H1.out.ext hbw)).mono ?_
 rintro e W1 ⟨v1, rfl, hb1, rfl⟩
 replace HB := Lib.hid (HB.out.ext hb1)
 replace HO0 := Lib.hid (HO0.out.ext hb1)
 replace hbw := nT hbw hb1
 clear hb1
 have q0 := HO0.out.cell 0 _ rfl
 have f0 := HO0.out.frozen 0
 have q1 := HO0.out.cell 1 _ rfl
 have f1 := HO0.out.frozen 1
 have q2 := HO0.out.cell 2 _ rfl
 have f2 := HO0.out.frozen 2
 go_wp2_with fail
 replace HB := Lib.hid (HB.out.set (p := ⟨w.heap.size, 0, none⟩) (.bool false) (by simp <;> omega))
 replace HO0 := Lib.hid (HO0.out.set 0 (.bool false))
 replace hbw := nB4 hbw (show w.heap.size ≤ (⟨w.heap.size, 0, none⟩ : Addr).block by simp <;> omega) (.bool false)
 replace q1 := (nC W1 ⟨w.heap.size, 0, none⟩ ⟨w.heap.size, 1, none⟩ (.bool false) (by simp)).trans q1
 replace q2 := (nC W1 ⟨w.heap.size, 0, none⟩ ⟨w.heap.size, 2, none⟩ (.bool false) (by simp)).trans q2
 replace HB := Lib.hid (HB.out.set (p := ⟨w.heap.size, 1, none⟩) (.slice none 0 0) (by simp <;> omega))
 replace HO0 := Lib.hid (HO0.out.set 1 (.slice none 0 0))
 replace hbw := nB4 hbw (show w.heap.size ≤ (⟨w.heap.size, 1, none⟩ : Addr).block by simp <;> omega) (.slice none 0 0)
 replace q2 := (nC (W1.setCell ⟨w.heap.size, 0, none⟩ (.bool false)) ⟨w.heap.size, 1, none⟩ ⟨w.heap.size, 2, none⟩ (.slice none 0 0) (by simp)).trans q2
 replace HB := Lib.hid (HB.out.set (p := ⟨w.heap.size, 2, none⟩) (.slice none 0 0) (by simp <;> omega))
 replace HO0 := Lib.hid (HO0.out.set 2 (.slice none 0 0))
 replace hbw := nB4 hbw (show w.heap.size ≤ (⟨w.heap.size, 2, none⟩ : Addr).block by simp <;> omega) (.slice none 0 0)
 clear q0 f0 q1 f1 q2 f2
 replace HO0 : Hid (Own _ _ _ [.bool false, .slice none 0 0, .slice none 0 0]) := HO0
 generalize (((W1.setCell ⟨w.heap.size, 0, none⟩ (.bool false)).setCell ⟨w.heap.size, 1, none⟩ (.slice none 0 0)).setCell ⟨w.heap.size, 2, none⟩ (.slice none 0 0)) = W2 at HB HO0 hbw ⊢
 have kk0 := HO0.out.cell 0 _ rfl
 have kk1 := HO0.out.cell 1 _ rfl
 have kk2 := HO0.out.cell 2 _ rfl
 refine bodyPost_ret (v := .tuple #[.agg #[.bool false, .slice none 0 0, .slice none 0 0], .int .i64 7]) (by simp [results, Tryz.results19, go_sem, kk0, kk1, kk2]) rfl ⟨_, rfl, hbw, ?_⟩
 exact ScSaid.zero _ _
end Go.Proofs.YtadpjidakippeaaGreat

/- What score.Brier refuses. -/
namespace Go.Proofs.YtadpjidakippeaaGreat
open Go.RowKit
/-- A list of lists of fractions. -/
def rQss (w : World) (v : Value) (T : List (List Rat)) : Prop := ∃ A c, v = .slice A T.length c ∧ T.length ≤ c ∧ (T ≠ [] → ∃ g o, A = some ⟨g, o, none⟩ ∧ ∀ i (hi : i < T.length), ∃ u, w.cell? ⟨g, o + i, none⟩ = some u ∧ rQs w u T[i])
theorem rQss.ext {w w' : World} {v : Value} {T : List (List Rat)} (h : rQss w v T) (he : Ext w w') : rQss w' v T := by
 obtain ⟨A, c, hv, hc, h⟩ := h
 refine ⟨A, c, hv, hc, fun hl => ?_⟩
 obtain ⟨g, o, hA, h⟩ := h hl
 refine ⟨g, o, hA, fun i hi => ?_⟩
 obtain ⟨u, h1, h2⟩ := h i hi
 exact ⟨u, ext_cell he h1, h2.ext he⟩
theorem rQss.shape {w : World} {v : Value} {T : List (List Rat)} (h : rQss w v T) : ∃ A c, v = .slice A T.length c ∧ rQss w (.slice A T.length c) T := by
 obtain ⟨A, c, rfl, h⟩ := h
 exact ⟨A, c, rfl, A, c, rfl, h⟩
theorem rQss.at {w : World} {A : Option Addr} {n c : Nat} {T : List (List Rat)} (h : rQss w (.slice A n c) T) {i : Nat} (hi : i < T.length) :
  ∃ g o A1 c1, A = some ⟨g, o, none⟩ ∧ w.cell? ⟨g, o + i, none⟩ = some (.slice A1 T[i].length c1) ∧ rQs w (.slice A1 T[i].length c1) T[i] := by
 obtain ⟨A', c', hv, hc, h⟩ := h
 simp only [Value.slice.injEq] at hv
 obtain ⟨rfl, rfl, rfl⟩ := hv
 obtain ⟨g, o, hA, h⟩ := h (by intro e; rw [e] at hi; simp at hi)
 obtain ⟨u, h1, h2⟩ := h i hi
 obtain ⟨A1, c1, rfl, h2⟩ := h2.shape
 exact ⟨g, o, A1, c1, hA, h1, h2⟩
set_option maxRecDepth 100000 in
theorem matchedL_c (w : World) (A B : Option Addr) (n m c d : Nat) : Calls Tryz.prog 51 #[.slice A n c, .slice B m d] w (Post w fun r _ => r = .bool (decide (n = m ∧ 0 < n))) := by
 by_cases h : n = m
 ·
  subst h
  have e1 : ((n : Int) == (n : Int)) = true := by simp
  by_cases h0 : 0 < n
  ·
   have e2 : (0 : Int) < (n : Int) := by omega
   go_enter Tryz.func51, Tryz.ntmps51
   go_wp2_with fail
   go_ret
   exact ⟨_, rfl, Below.refl _ _, by simp [h0]⟩
  ·
   have e2 : ¬ (0 : Int) < (n : Int) := by omega
   go_enter Tryz.func51, Tryz.ntmps51
   go_wp2_with fail
   go_ret
   exact ⟨_, rfl, Below.refl _ _, by simp [h0]⟩
 ·
  have e1 : ((n : Int) == (m : Int)) = false := by rw [beq_eq_false_iff_ne]; omega
  have e2 : ¬ (n : Int) = (m : Int) := by omega
  go_enter Tryz.func51, Tryz.ntmps51
  go_wp2_with fail
  go_ret
  exact ⟨_, rfl, Below.refl _ _, by simp [h]⟩
set_option maxRecDepth 100000 in
/-- Brier$1 -/
theorem notlen3_c (w : World) (b n c : Nat) (m : Int) (A : Option Addr) (hc : w.cell? ⟨b, 0, none⟩ = some (.int .i64 m)) : Calls Tryz.prog 53 #[.slice A n c, .pointer (some ⟨b, 0, none⟩)] w (Post w fun r _ => r = .bool (decide ((n : Int) ≠ m))) := by
 by_cases h : (n : Int) = m
 ·
  have h1 : ((n : Int) != m) = false := by rw [h]; simp
  go_enter Tryz.func53, Tryz.ntmps53
  go_wp2_with fail
  go_ret
  exact ⟨_, rfl, Below.refl _ _, by simp [h]⟩
 ·
  have h1 : ((n : Int) != m) = true := by rw [bne_iff_ne]; exact h
  go_enter Tryz.func53, Tryz.ntmps53
  go_wp2_with fail
  go_ret
  exact ⟨_, rfl, Below.refl _ _, by simp [h]⟩
set_option maxRecDepth 100000 in
/-- Brier$2 -/
theorem none2_c (w : World) (b : Nat) (x k : Int) (hc : w.cell? ⟨b, 0, none⟩ = some (.int .i64 k)) : Calls Tryz.prog 54 #[.int .i64 x, .pointer (some ⟨b, 0, none⟩)] w (Post w fun r _ => r = .bool (badC k x)) := by
 unfold badC
 rcases Int.lt_or_le x 0 with h | h
 ·
  go_enter Tryz.func54, Tryz.ntmps54
  go_wp2_with fail
  go_ret
  exact ⟨_, rfl, Below.refl _ _, by simp [h]⟩
 ·
  have h1 : ¬ x < 0 := by omega
  rcases Int.lt_or_le x k with h2 | h2
  ·
   have h3 : ¬ k ≤ x := by omega
   go_enter Tryz.func54, Tryz.ntmps54
   go_wp2_with fail
   go_ret
   exact ⟨_, rfl, Below.refl _ _, by simp [h1, h3]⟩
  ·
   go_enter Tryz.func54, Tryz.ntmps54
   go_wp2_with fail
   go_ret
   exact ⟨_, rfl, Below.refl _ _, by simp [h2]⟩
def IdxSaid3 (T : List (List Rat)) (p : List Rat → Bool) (r : Value) : Prop := ∃ z : Int, r = .int .i64 z ∧ (0 ≤ z ↔ T.any p = true)
set_option maxRecDepth 100000 in
set_option maxHeartbeats 1000000 in
/-- IndexFunc of lists of fractions, of any test by a closure -/
theorem index3f_c (w : World) (v : Value) (fk : Nat) (caps : Array Value) (hen : ∀ args W, (callFunc fk args).run Tryz.prog W = .ok (.enter fk args) W) (T : List (List Rat)) (p : List Rat → Bool) (hT : rQss w v T) (hn : T.length ≤ 1099511627775) (hc : ∀ l ∈ T, ∀ A c W, Ext w W → rQs W (.slice A l.length c) l → Calls Tryz.prog fk (#[.slice A l.length c] ++ caps) W (Post W fun r _ => r = .bool (p l))) :
  Calls Tryz.prog 91 #[v, .func (.func fk) #[] caps] w (Post w fun r _ => IdxSaid3 T p r) := by
 obtain ⟨A, c, rfl, hT⟩ := hT.shape
 have H1 := Lib.hid hT
 have HC := Lib.hid hc
 obtain ⟨n, en⟩ : ∃ n, T.length = n := ⟨_, rfl⟩
 rw [en] at hn ⊢
 have EN := Lib.hid en
 clear hT hc en
 go_enter Tryz.func91, Tryz.ntmps91
 go_wp2_with fail
 go_loopw [8] (fun t W => ∃ j : Nat, t = .int .i64 (j : Nat) ∧ j ≤ n ∧ (T.take j).any p = false ∧ Below w.heap.size w W) (fun t _ => (n - (intOf t).toNat))
 case atStart => exact ⟨0, rfl, Nat.zero_le _, rfl, Below.refl _ _⟩
 case round =>
  obtain ⟨j, rfl, hj, ht, hbw⟩ := hrel
  have HT := Lib.hid ht
  clear ht
  rcases Nat.lt_or_ge j n with hjn | hjn
  ·
   have hji : (j : Int) < (n : Int) := by omega
   have HJ := Lib.hid (show j < T.length by rw [EN.out]; exact hjn)
   obtain ⟨g, o, A1, c1, rfl, xa, xr⟩ := H1.out.at HJ.out
   have xa := ext_cell hbw xa
   obtain ⟨l, el⟩ : ∃ l, T[j]'HJ.out = l := ⟨_, rfl⟩
   rw [el] at xa xr
   have EL := Lib.hid el
   have HK := Lib.hid (HC.out l (by rw [← el]; exact List.getElem_mem HJ.out) A1 c1 wr hbw (xr.ext hbw))
   have hwj : IntKind.i64.wrap ((j : Int) + 1) = ((j + 1 : Nat) : Int) := i64w (by omega) (by omega)
   obtain ⟨y, ey⟩ : ∃ y, p l = y := ⟨_, rfl⟩
   rw [ey] at HK
   have EY := Lib.hid ey
   clear ey el xr
   go_wp2_with fail
   refine HK.out.mono ?_
   rintro e w1 ⟨v1, rfl, hb1, rfl⟩
   have hbw1 := nT hbw hb1
   clear hb1
   cases y with
   | true =>
    have hj0 : (0 : Int) ≤ (j : Int) := by omega
    go_wp2_with fail
    go_ret
    exact ⟨_, rfl, hbw1, _, rfl, by
     have := anyl_at HJ.out (p := p) (by rw [EL.out]; exact EY.out)
     simp only [this, hj0]⟩
   | false =>
    go_wp2
    go_roundw
    case rel => exact ⟨j + 1, rfl, hjn, anyl_take_succ HJ.out HT.out (by rw [EL.out]; exact EY.out), hbw1⟩
    case measure => simp [intOf]; omega
  ·
   obtain rfl : j = n := by omega
   have hji : ¬ (j : Int) < (j : Int) := by omega
   go_wp2_with fail
   go_ret
   exact ⟨_, rfl, hbw, -1, rfl, by
    have h1 := HT.out
    rw [List.take_of_length_le (by rw [EN.out]; omega)] at h1
    rw [h1]; decide⟩
set_option maxRecDepth 100000 in
/-- ContainsFunc of lists of fractions, of Brier$1 -/
theorem contains3_any (w : World) (v : Value) (b : Nat) (T : List (List Rat)) (k : Nat) (hT : rQss w v T) (hk : T.length ≤ 1099511627775) (hc : w.cell? ⟨b, 0, none⟩ = some (.int .i64 (k : Nat))) :
  Calls Tryz.prog 52 #[v, .func (.func 53) #[] #[.pointer (some ⟨b, 0, none⟩)]] w (Post w fun r _ => r = .bool (T.any (fun l => decide ((l.length : Int) ≠ (k : Int))))) := by
 have HI := Lib.hid (index3f_c w v _ #[.pointer (some ⟨b, 0, none⟩)] (fun _ _ => by kernel_rfl) T (fun l => decide ((l.length : Int) ≠ (k : Int))) hT hk (fun l _ A c W he _ => notlen3_c W b l.length c k A (ext_cell he hc)))
 obtain ⟨A, c, rfl, hT⟩ := hT.shape
 obtain ⟨n, en⟩ : ∃ n, T.length = n := ⟨_, rfl⟩
 rw [en] at HI ⊢
 clear hT hc en hk
 go_enter Tryz.func52, Tryz.ntmps52
 go_wp2_with fail
 refine HI.out.mono ?_
 rintro e w1 ⟨v1, rfl, hb1, z, rfl, hz⟩
 have HZ := Lib.hid hz
 clear hz
 go_wp2_with fail
 go_ret
 exact ⟨_, rfl, hb1, (by
  have := HZ.out
  show Value.bool (decide (0 ≤ z)) = _
  congr 1
  rw [Bool.eq_iff_iff, decide_eq_true_iff]
  exact this)⟩
set_option maxRecDepth 100000 in
set_option maxHeartbeats 2000000 in
/-- Brier, of a class that is not one -/
theorem brier_bad (w : World) (va vb : Value) (a : List Int) (T : List (List Rat)) (ha : rIs w va a) (hT : rQss w vb T) (hab : T.length = a.length) (h0 : 0 < a.length) (hn : a.length ≤ 1099511627775) (k : Nat) (h1 : ∀ l ∈ T, l.length = k) (hk : k ≤ 1099511627775) (h2 : a.any (badC (k : Int)) = true) :
  Calls Tryz.prog 20 #[va, vb] w (Post w fun r w' => ScSaid w' r 1 0) := by
 obtain ⟨A, c, rfl, ha⟩ := ha.shape
 obtain ⟨B, d, rfl, hT⟩ := hT.shape
 have HC1 := Lib.hid (fun W bx h hc => contains3_any W (.slice B T.length d) bx T k h (by omega) hc)
 rw [show T.any (fun l => decide ((l.length : Int) ≠ (k : Int))) = false from by
  rw [List.any_eq_false]
  intro l hl
  simp [h1 l hl]] at HC1
 have HC2 := Lib.hid (fun W bx (h : rIs W (.slice A a.length c) a) (hc : W.cell? ⟨bx, 0, none⟩ = some (.int .i64 (k : Nat))) => containsf_c W (.slice A a.length c) 54 #[.pointer (some ⟨bx, 0, none⟩)] (fun _ _ => by kernel_rfl) a (badC (k : Int)) h hn (fun x _ W' he => none2_c W' bx x (k : Int) (ext_cell he hc)))
 rw [h2] at HC2
 have H0 : Hid (∀ W, rQss W (.slice B T.length d) T → ∃ g o A1 c1, B = some ⟨g, o, none⟩ ∧ W.cell? ⟨g, o, none⟩ = some (.slice A1 k c1)) := Lib.hid (fun W h => by
  obtain ⟨g, o, A1, c1, e1, e2, _⟩ := h.at (i := 0) (by omega)
  have e0 : (T[0]'(by omega)).length = k := h1 _ (List.getElem_mem _)
  rw [e0] at e2
  exact ⟨g, o, A1, c1, e1, e2⟩)
 rw [hab] at hT HC1 H0 ⊢
 obtain ⟨n, en⟩ : ∃ n, a.length = n := ⟨_, rfl⟩
 rw [en] at ha hT HC1 HC2 H0 h0 ⊢
 have HM := Lib.hid (fun W => matchedL_c W A B n n c d)
 rw [show decide (n = n ∧ 0 < n) = true from by simp [h0]] at HM
 have H1 := Lib.hid ha
 have H2 := Lib.hid hT
 have hmf : ∀ (fn : Fn) (first cap : Array Value) (w : World), (Instr.makeFunc fn first cap).run Tryz.prog w = .ok (.func fn first cap) w := fun _ _ _ _ => rfl
 have hn0 : (0 : Int) < (n : Int) := by omega
 clear ha hT hab en h1 h2 hn
 have HB : Hid (Cells [(w.heap.size, 0, .slice A n c), (w.heap.size + 1, 0, .slice B n d)] (((w.alloc (.cells #[.slice A n c] 22)).alloc (.cells #[.slice B n d] 63)).alloc (.cells #[.bool false, .slice none 0 0, .slice none 0 0] 32))) := Lib.hid (Cells.cons (by go_simp) (Cells.cons (by go_simp) (Cells.nil _)))
 have HO0 := Lib.hid (Own.new' ((w.alloc (.cells #[.slice A n c] 22)).alloc (.cells #[.slice B n d] 63)) 32 [.bool false, .slice none 0 0, .slice none 0 0] (w.heap.size + 1 + 1) (by simp))
 have hbw : Below w.heap.size w (((w.alloc (.cells #[.slice A n c] 22)).alloc (.cells #[.slice B n d] 63)).alloc (.cells #[.bool false, .slice none 0 0, .slice none 0 0] 32)) := (by repeat (first | assumption | exact nB1 _ _ | refine nB2 ?_ | refine pw_below_drewN ?_ _ | refine nB3 ?_ (by first | omega | (simp <;> omega)) _ | refine nB4 ?_ (by first | omega | (simp <;> omega)) _ | refine nB5 ?_ (by assumption) (by first | omega | (simp <;> omega))))
 go_enter Tryz.func20, Tryz.ntmps20
 go_wp2_with fail
 generalize (((w.alloc (.cells #[.slice A n c] 22)).alloc (.cells #[.slice B n d] 63)).alloc (.cells #[.bool false, .slice none 0 0, .slice none 0 0] 32)) = W0 at HB HO0 hbw ⊢
 obtain ⟨y0, y1, _⟩ := id HB.out
 go_wp2_with fail
 clear y0 y1
 refine (HM.out _).mono ?_
 rintro e W1 ⟨v1, rfl, hb1, rfl⟩
 replace HB := Lib.hid (HB.out.ext hb1)
 replace HO0 := Lib.hid (HO0.out.ext hb1)
 replace hbw := nT hbw hb1
 clear hb1
 obtain ⟨g, o, A1, c1, rfl, xa⟩ := H0.out _ (H2.out.ext hbw)
 obtain ⟨y0, y1, _⟩ := id HB.out
 go_upto_block 0 with (fail)
 clear y0 y1
 clear xa
 have z_H6 := hbw.size
 have z_H6_HO0 := HO0.out.lt
 replace HB := Lib.hid (HB.out.alloc (.cells #[.int .i64 (k : Nat)] 3))
 replace HO0 := Lib.hid (HO0.out.alloc (.cells #[.int .i64 (k : Nat)] 3))
 replace hbw := nB3 hbw hbw.size (.cells #[.int .i64 (k : Nat)] 3)
 have H6 := Lib.hid (Own.new' W1 3 [.int .i64 (k : Nat)] W1.heap.size rfl)
 obtain ⟨bH6, e_H6⟩ : ∃ b, W1.heap.size = b := ⟨_, rfl⟩
 simp only [e_H6] at H6 z_H6 z_H6_HO0 ⊢
 generalize (W1.alloc (.cells #[.int .i64 (k : Nat)] 3)) = W2 at HB HO0 H6 hbw ⊢
 obtain ⟨y0, y1, _⟩ := id HB.out
 go_wp2_with fail
 clear y0 y1
 refine (HC1.out _ _ (H2.out.ext hbw) (H6.out.cell 0 _ rfl)).mono ?_
 rintro e W3 ⟨v1, rfl, hb1, rfl⟩
 replace HB := Lib.hid (HB.out.ext hb1)
 replace HO0 := Lib.hid (HO0.out.ext hb1)
 replace H6 := Lib.hid (H6.out.ext hb1)
 replace hbw := nT hbw hb1
 clear hb1
 obtain ⟨y0, y1, _⟩ := id HB.out
 go_wp2_with fail
 clear y0 y1
 refine (HC2.out _ _ (H1.out.ext hbw) (H6.out.cell 0 _ rfl)).mono ?_
 rintro e W4 ⟨v1, rfl, hb1, rfl⟩
 replace HB := Lib.hid (HB.out.ext hb1)
 replace HO0 := Lib.hid (HO0.out.ext hb1)
 replace H6 := Lib.hid (H6.out.ext hb1)
 replace hbw := nT hbw hb1
 clear hb1
 have q0 := HO0.out.cell 0 _ rfl
 have f0 := HO0.out.frozen 0
 have q1 := HO0.out.cell 1 _ rfl
 have f1 := HO0.out.frozen 1
 have q2 := HO0.out.cell 2 _ rfl
 have f2 := HO0.out.frozen 2
 go_wp2_with fail
 replace HB := Lib.hid (HB.out.set (p := ⟨w.heap.size + 1 + 1, 0, none⟩) (.bool false) (by simp <;> omega))
 replace HO0 := Lib.hid (HO0.out.set 0 (.bool false))
 replace H6 := Lib.hid (H6.out.other (p := ⟨w.heap.size + 1 + 1, 0, none⟩) (.bool false) (by simp <;> omega))
 replace hbw := nB4 hbw (show w.heap.size ≤ (⟨w.heap.size + 1 + 1, 0, none⟩ : Addr).block by simp <;> omega) (.bool false)
 replace q1 := (nC W4 ⟨w.heap.size + 1 + 1, 0, none⟩ ⟨w.heap.size + 1 + 1, 1, none⟩ (.bool false) (by simp)).trans q1
 replace q2 := (nC W4 ⟨w.heap.size + 1 + 1, 0, none⟩ ⟨w.heap.size + 1 + 1, 2, none⟩ (.bool false) (by simp)).trans q2
 replace HB := Lib.hid (HB.out.set (p := ⟨w.heap.size + 1 + 1, 1, none⟩) (.slice none 0 0) (by simp <;> omega))
 replace HO0 := Lib.hid (HO0.out.set 1 (.slice none 0 0))
 replace H6 := Lib.hid (H6.out.other (p := ⟨w.heap.size + 1 + 1, 1, none⟩) (.slice none 0 0) (by simp <;> omega))
 replace hbw := nB4 hbw (show w.heap.size ≤ (⟨w.heap.size + 1 + 1, 1, none⟩ : Addr).block by simp <;> omega) (.slice none 0 0)
 replace q2 := (nC (W4.setCell ⟨w.heap.size + 1 + 1, 0, none⟩ (.bool false)) ⟨w.heap.size + 1 + 1, 1, none⟩ ⟨w.heap.size + 1 + 1, 2, none⟩ (.slice none 0 0) (by simp)).trans q2
 replace HB := Lib.hid (HB.out.set (p := ⟨w.heap.size + 1 + 1, 2, none⟩) (.slice none 0 0) (by simp <;> omega))
 replace HO0 := Lib.hid (HO0.out.set 2 (.slice none 0 0))
 replace H6 := Lib.hid (H6.out.other (p := ⟨w.heap.size + 1 + 1, 2, none⟩) (.slice none 0 0) (by simp <;> omega))
 replace hbw := nB4 hbw (show w.heap.size ≤ (⟨w.heap.size + 1 + 1, 2, none⟩ : Addr).block by simp <;> omega) (.slice none 0 0)
 clear q0 f0 q1 f1 q2 f2
 replace HO0 : Hid (Own _ _ _ [.bool false, .slice none 0 0, .slice none 0 0]) := HO0
 generalize (((W4.setCell ⟨w.heap.size + 1 + 1, 0, none⟩ (.bool false)).setCell ⟨w.heap.size + 1 + 1, 1, none⟩ (.slice none 0 0)).setCell ⟨w.heap.size + 1 + 1, 2, none⟩ (.slice none 0 0)) = W5 at HB HO0 H6 hbw ⊢
 have kk0 := HO0.out.cell 0 _ rfl
 have kk1 := HO0.out.cell 1 _ rfl
 have kk2 := HO0.out.cell 2 _ rfl
 refine bodyPost_ret (v := .tuple #[.agg #[.bool false, .slice none 0 0, .slice none 0 0], .int .i64 1]) (by simp [results, Tryz.results20, go_sem, kk0, kk1, kk2]) rfl ⟨_, rfl, hbw, ?_⟩
 exact ScSaid.zero _ _
end Go.Proofs.YtadpjidakippeaaGreat
