/- frac.Sum, Mean. -/
import Derived.Test.YtadpjidakippeaaGreatY15
import Derived.Test.YtadpjidakippeaaGreatY06
import Derived.Test.YtadpjidakippeaaGreatY10
set_option linter.unusedVariables false
set_option linter.unusedSimpArgs false
namespace Go.Proofs.YtadpjidakippeaaGreat
open Go.RowKit
/-- The sum of the first k. -/
def qsumTo (l : List Rat) : Nat → Rat
 | 0 => 0
 | k + 1 => qsumTo l k + l.getD k 0
def sumL (l : List Rat) : Rat := qsumTo l l.length
theorem qb_qsumTo (l : List Rat) : ∀ k, k ≤ l.length → qb (qsumTo l k) ≤ 1 + wt (l.take k)
 | 0, _ => by simp only [qsumTo, qb_zero]; omega
 | k + 1, h => by
  have ih := qb_qsumTo l k (by omega)
  have h1 := wt_take l k (by omega)
  simp only [qsumTo]
  have h3 := qb_add (qsumTo l k) (l.getD k 0)
  rw [List.getD_eq_getElem?_getD, List.getElem?_eq_getElem (by omega), Option.getD_some] at *
  omega
theorem qb_sumL (l : List Rat) : qb (sumL l) ≤ 1 + wt l := by
 have := qb_qsumTo l l.length (Nat.le_refl _)
 have h2 := wt_take_le l l.length
 unfold sumL
 omega
structure SumQIn (w : World) (q : Rat) (s : Bool) (u r : Value) (W : World) : Prop where
 be : Below w.heap.size w W
 o2 : Own W w.heap.size 32 [.bool false, .slice none 0 0, .slice none 0 0]
 o3 : Own W (w.heap.size + 1) 32 [.bool s, u, r]
 hq : rQ W (.agg #[.bool s, u, r]) q
set_option maxRecDepth 100000 in
set_option maxHeartbeats 2000000 in
/-- frac.Sum -/
theorem sum_c (w : World) (v : Value) (l : List Rat) (hl : rQs w v l) (hn : l.length ≤ 1099511627776) (hf : wt l ≤ 17592186044000) : Calls Tryz.prog 84 #[v] w (Post w fun r w' => rQ w' r (sumL l)) := by
 obtain ⟨A, c, rfl, hl⟩ := hl.shape
 have H1 := Lib.hid hl
 have HF := Lib.hid hf
 have ES := Lib.hid (show sumL l = qsumTo l l.length from rfl)
 obtain ⟨n, en⟩ : ∃ n, l.length = n := ⟨_, rfl⟩
 rw [en] at hn ES ⊢
 have EN := Lib.hid en
 clear hl hf en
 have HB : Hid (Cells [] ((w.alloc (.cells #[.bool false, .slice none 0 0, .slice none 0 0] 32)).alloc (.cells #[.bool false, .slice none 0 0, .slice none 0 0] 32))) := Lib.hid (Cells.nil _)
 have HO0 := Lib.hid ((Own.new' w 32 [.bool false, .slice none 0 0, .slice none 0 0] (w.heap.size) (by simp)).alloc (.cells #[.bool false, .slice none 0 0, .slice none 0 0] 32))
 have HO1 := Lib.hid (Own.new' (w.alloc (.cells #[.bool false, .slice none 0 0, .slice none 0 0] 32)) 32 [.bool false, .slice none 0 0, .slice none 0 0] (w.heap.size + 1) (by simp))
 have hbw : Below w.heap.size w ((w.alloc (.cells #[.bool false, .slice none 0 0, .slice none 0 0] 32)).alloc (.cells #[.bool false, .slice none 0 0, .slice none 0 0] 32)) := (by repeat (first | assumption | exact nB1 _ _ | refine nB2 ?_ | refine pw_below_drewN ?_ _ | refine nB3 ?_ (by first | omega | (simp <;> omega)) _ | refine nB4 ?_ (by first | omega | (simp <;> omega)) _ | refine nB5 ?_ (by assumption) (by first | omega | (simp <;> omega))))
 go_enter Tryz.func84, Tryz.ntmps84
 go_upto_block 0 with (fail)
 generalize ((w.alloc (.cells #[.bool false, .slice none 0 0, .slice none 0 0] 32)).alloc (.cells #[.bool false, .slice none 0 0, .slice none 0 0] 32)) = W0 at HB HO0 HO1 hbw ⊢
 go_cut [] (fun WC => ∃ s A1 c1 n1 B1 k1 m1, SumQIn w (qsumTo l n) s (.slice A1 n1 c1) (.slice B1 m1 k1) WC)
 case first =>
  go_wp2_with fail
  go_loopw [8] (fun t W => ∃ k : Nat, t = .int .i64 (k : Nat) ∧ k ≤ n ∧ ∃ s A1 c1 n1 B1 k1 m1, SumQIn w (qsumTo l k) s (.slice A1 n1 c1) (.slice B1 m1 k1) W) (fun t _ => (n - (intOf t).toNat))
  case atStart => exact ⟨0, rfl, Nat.zero_le _, _, _, _, _, _, _, _, hbw, HO0.out, HO1.out, rQd.mk (by exact ⟨_, rNat.zero _, rfl⟩) (rNat.zero _)⟩
  case round =>
   obtain ⟨k, rfl, hk, s, A1, c1, n1, B1, k1, m1, hd⟩ := hrel
   clear HB HO0 HO1 hbw
   have HD := Lib.hid hd
   clear hd
   rcases Nat.lt_or_ge k n with hkn | hkn
   ·
    have hki : (k : Int) < (n : Int) := by omega
    have HKN := Lib.hid hkn
    have hbw := HD.out.be
    have hkl : k < l.length := by rw [EN.out]; exact hkn
    obtain ⟨g, o, sa, Aa, ca, na, Ba, ka, ma, rfl, xa, ya, za, ra⟩ := (H1.out.ext hbw).at (j := k) hkl
    have HO0 := Lib.hid HD.out.o2
    have HO1 := Lib.hid HD.out.o3
    have R0 := Lib.hid HD.out.hq
    have R1 := Lib.hid ra
    have wa := wt_at l k hkl
    have wc := qb_qsumTo l k (by omega)
    have wd := wt_take_le l k
    have HA := Lib.hid (fun W v u (h : rQ W v (qsumTo l k)) (h' : rQ W u l[k]) => qadd_c W v u (qsumTo l k) l[k] h h' (by have := HF.out; omega))
    have ee : qsumTo l k + l[k] = qsumTo l (k + 1) := by
     simp only [qsumTo]
     rw [List.getD_eq_getElem?_getD, List.getElem?_eq_getElem hkl, Option.getD_some]
    rw [ee] at HA
    have hwk : IntKind.i64.wrap ((k : Int) + 1) = ((k + 1 : Nat) : Int) := i64w (by omega) (by omega)
    have HB : Hid (Cells [] wr) := Lib.hid (Cells.nil _)
    clear ra wa wc wd ee hk
    go_upto_region 5 with (fail)
    have z_H5 := hbw.size
    have z_H5_HO0 := HO0.out.lt
    have z_H5_HO1 := HO1.out.lt
    replace HO0 := Lib.hid (HO0.out.alloc (.cells #[.bool sa, .slice Aa na ca, .slice Ba ma ka] 32))
    replace HO1 := Lib.hid (HO1.out.alloc (.cells #[.bool sa, .slice Aa na ca, .slice Ba ma ka] 32))
    replace R0 := Lib.hid (R0.out.alloc (.cells #[.bool sa, .slice Aa na ca, .slice Ba ma ka] 32))
    replace R1 := Lib.hid (R1.out.alloc (.cells #[.bool sa, .slice Aa na ca, .slice Ba ma ka] 32))
    replace hbw := nB3 hbw hbw.size (.cells #[.bool sa, .slice Aa na ca, .slice Ba ma ka] 32)
    have H5 := Lib.hid (Own.new' wr 32 [.bool sa, .slice Aa na ca, .slice Ba ma ka] wr.heap.size rfl)
    obtain ⟨bH5, e_H5⟩ : ∃ b, wr.heap.size = b := ⟨_, rfl⟩
    simp only [e_H5] at H5 z_H5 z_H5_HO0 z_H5_HO1 ⊢
    generalize (wr.alloc (.cells #[.bool sa, .slice Aa na ca, .slice Ba ma ka] 32)) = W21 at HO0 HO1 R0 R1 H5 hbw ⊢
    clear xa ya za
    have x_HO1_0 := HO1.out.cell 0 _ rfl
    have f_HO1_0 := HO1.out.frozen 0
    have x_HO1_1 := HO1.out.cell 1 _ rfl
    have f_HO1_1 := HO1.out.frozen 1
    have x_HO1_2 := HO1.out.cell 2 _ rfl
    have f_HO1_2 := HO1.out.frozen 2
    have x_H5_0 := H5.out.cell 0 _ rfl
    have f_H5_0 := H5.out.frozen 0
    have x_H5_1 := H5.out.cell 1 _ rfl
    have f_H5_1 := H5.out.frozen 1
    have x_H5_2 := H5.out.cell 2 _ rfl
    have f_H5_2 := H5.out.frozen 2
    go_wp2_with fail
    clear x_HO1_0 f_HO1_0 x_HO1_1 f_HO1_1 x_HO1_2 f_HO1_2 x_H5_0 f_H5_0 x_H5_1 f_H5_1 x_H5_2 f_H5_2
    refine (HA.out _ _ _ R0.out R1.out).mono ?_
    rintro e W22 ⟨v1, rfl, hb1, hr1⟩
    obtain ⟨Fs, FA, Fc, Fn, FB, Fd, Fm, rfl, hr1⟩ := hr1.shape
    replace HO0 := Lib.hid (HO0.out.ext hb1)
    replace HO1 := Lib.hid (HO1.out.ext hb1)
    replace R0 := Lib.hid (R0.out.ext hb1)
    replace R1 := Lib.hid (R1.out.ext hb1)
    replace H5 := Lib.hid (H5.out.ext hb1)
    replace hbw := nT hbw hb1
    have R4 := Lib.hid hr1
    clear hr1
    clear hb1
    have q0 := HO1.out.cell 0 _ rfl
    have f0 := HO1.out.frozen 0
    have q1 := HO1.out.cell 1 _ rfl
    have f1 := HO1.out.frozen 1
    have q2 := HO1.out.cell 2 _ rfl
    have f2 := HO1.out.frozen 2
    go_wp2_with fail
    replace HO0 := Lib.hid (HO0.out.other (p := ⟨w.heap.size + 1, 0, none⟩) (.bool Fs) (by simp <;> omega))
    replace HO1 := Lib.hid (HO1.out.set 0 (.bool Fs))
    replace R0 := Lib.hid (R0.out.set (x := .bool Fs) q0 rfl)
    replace R1 := Lib.hid (R1.out.set (x := .bool Fs) q0 rfl)
    replace H5 := Lib.hid (H5.out.other (p := ⟨w.heap.size + 1, 0, none⟩) (.bool Fs) (by simp <;> omega))
    replace R4 := Lib.hid (R4.out.set (x := .bool Fs) q0 rfl)
    replace hbw := nB4 hbw (show w.heap.size ≤ (⟨w.heap.size + 1, 0, none⟩ : Addr).block by simp <;> omega) (.bool Fs)
    replace q1 := (nC W22 ⟨w.heap.size + 1, 0, none⟩ ⟨w.heap.size + 1, 1, none⟩ (.bool Fs) (by simp)).trans q1
    replace q2 := (nC W22 ⟨w.heap.size + 1, 0, none⟩ ⟨w.heap.size + 1, 2, none⟩ (.bool Fs) (by simp)).trans q2
    replace HO0 := Lib.hid (HO0.out.other (p := ⟨w.heap.size + 1, 1, none⟩) (.slice FA Fn Fc) (by simp <;> omega))
    replace HO1 := Lib.hid (HO1.out.set 1 (.slice FA Fn Fc))
    replace R0 := Lib.hid (R0.out.set (x := .slice FA Fn Fc) q1 rfl)
    replace R1 := Lib.hid (R1.out.set (x := .slice FA Fn Fc) q1 rfl)
    replace H5 := Lib.hid (H5.out.other (p := ⟨w.heap.size + 1, 1, none⟩) (.slice FA Fn Fc) (by simp <;> omega))
    replace R4 := Lib.hid (R4.out.set (x := .slice FA Fn Fc) q1 rfl)
    replace hbw := nB4 hbw (show w.heap.size ≤ (⟨w.heap.size + 1, 1, none⟩ : Addr).block by simp <;> omega) (.slice FA Fn Fc)
    replace q2 := (nC (W22.setCell ⟨w.heap.size + 1, 0, none⟩ (.bool Fs)) ⟨w.heap.size + 1, 1, none⟩ ⟨w.heap.size + 1, 2, none⟩ (.slice FA Fn Fc) (by simp)).trans q2
    replace HO0 := Lib.hid (HO0.out.other (p := ⟨w.heap.size + 1, 2, none⟩) (.slice FB Fm Fd) (by simp <;> omega))
    replace HO1 := Lib.hid (HO1.out.set 2 (.slice FB Fm Fd))
    replace R0 := Lib.hid (R0.out.set (x := .slice FB Fm Fd) q2 rfl)
    replace R1 := Lib.hid (R1.out.set (x := .slice FB Fm Fd) q2 rfl)
    replace H5 := Lib.hid (H5.out.other (p := ⟨w.heap.size + 1, 2, none⟩) (.slice FB Fm Fd) (by simp <;> omega))
    replace R4 := Lib.hid (R4.out.set (x := .slice FB Fm Fd) q2 rfl)
    replace hbw := nB4 hbw (show w.heap.size ≤ (⟨w.heap.size + 1, 2, none⟩ : Addr).block by simp <;> omega) (.slice FB Fm Fd)
    clear q0 f0 q1 f1 q2 f2
    replace HO1 : Hid (Own _ _ _ [.bool Fs, .slice FA Fn Fc, .slice FB Fm Fd]) := HO1
    generalize (((W22.setCell ⟨w.heap.size + 1, 0, none⟩ (.bool Fs)).setCell ⟨w.heap.size + 1, 1, none⟩ (.slice FA Fn Fc)).setCell ⟨w.heap.size + 1, 2, none⟩ (.slice FB Fm Fd)) = W23 at HO0 HO1 R0 R1 H5 R4 hbw ⊢
    go_roundw
    case rel => exact ⟨k + 1, rfl, HKN.out, _, _, _, _, _, _, _, hbw, HO0.out, HO1.out, R4.out⟩
    case measure => simp [intOf]; have := HKN.out; omega
   ·
    obtain rfl : k = n := by omega
    have hki : ¬ (k : Int) < (k : Int) := by omega
    go_wp2_with fail
    go_meet
    exact ⟨_, _, _, _, _, _, _, HD.out⟩
 obtain ⟨s, A1, c1, n1, B1, k1, m1, hd⟩ := hcut
 clear HB HO0 HO1 hbw
 have hbw := hd.be
 have HO0 := Lib.hid hd.o2
 have HO1 := Lib.hid hd.o3
 have R0 := Lib.hid hd.hq
 clear hd
 have x_HO1_0 := HO1.out.cell 0 _ rfl
 have f_HO1_0 := HO1.out.frozen 0
 have x_HO1_1 := HO1.out.cell 1 _ rfl
 have f_HO1_1 := HO1.out.frozen 1
 have x_HO1_2 := HO1.out.cell 2 _ rfl
 have f_HO1_2 := HO1.out.frozen 2
 have q0 := HO0.out.cell 0 _ rfl
 have f0 := HO0.out.frozen 0
 have q1 := HO0.out.cell 1 _ rfl
 have f1 := HO0.out.frozen 1
 have q2 := HO0.out.cell 2 _ rfl
 have f2 := HO0.out.frozen 2
 go_wp2_with fail
 replace HO0 := Lib.hid (HO0.out.set 0 (.bool s))
 replace HO1 := Lib.hid (HO1.out.other (p := ⟨w.heap.size, 0, none⟩) (.bool s) (by simp <;> omega))
 replace R0 := Lib.hid (R0.out.set (x := .bool s) q0 rfl)
 replace hbw := nB4 hbw (show w.heap.size ≤ (⟨w.heap.size, 0, none⟩ : Addr).block by simp <;> omega) (.bool s)
 replace q1 := (nC wc ⟨w.heap.size, 0, none⟩ ⟨w.heap.size, 1, none⟩ (.bool s) (by simp)).trans q1
 replace q2 := (nC wc ⟨w.heap.size, 0, none⟩ ⟨w.heap.size, 2, none⟩ (.bool s) (by simp)).trans q2
 replace HO0 := Lib.hid (HO0.out.set 1 (.slice A1 n1 c1))
 replace HO1 := Lib.hid (HO1.out.other (p := ⟨w.heap.size, 1, none⟩) (.slice A1 n1 c1) (by simp <;> omega))
 replace R0 := Lib.hid (R0.out.set (x := .slice A1 n1 c1) q1 rfl)
 replace hbw := nB4 hbw (show w.heap.size ≤ (⟨w.heap.size, 1, none⟩ : Addr).block by simp <;> omega) (.slice A1 n1 c1)
 replace q2 := (nC (wc.setCell ⟨w.heap.size, 0, none⟩ (.bool s)) ⟨w.heap.size, 1, none⟩ ⟨w.heap.size, 2, none⟩ (.slice A1 n1 c1) (by simp)).trans q2
 replace HO0 := Lib.hid (HO0.out.set 2 (.slice B1 m1 k1))
 replace HO1 := Lib.hid (HO1.out.other (p := ⟨w.heap.size, 2, none⟩) (.slice B1 m1 k1) (by simp <;> omega))
 replace R0 := Lib.hid (R0.out.set (x := .slice B1 m1 k1) q2 rfl)
 replace hbw := nB4 hbw (show w.heap.size ≤ (⟨w.heap.size, 2, none⟩ : Addr).block by simp <;> omega) (.slice B1 m1 k1)
 clear q0 f0 q1 f1 q2 f2
 replace HO0 : Hid (Own _ _ _ [.bool s, .slice A1 n1 c1, .slice B1 m1 k1]) := HO0
 generalize (((wc.setCell ⟨w.heap.size, 0, none⟩ (.bool s)).setCell ⟨w.heap.size, 1, none⟩ (.slice A1 n1 c1)).setCell ⟨w.heap.size, 2, none⟩ (.slice B1 m1 k1)) = W21 at HO0 HO1 R0 hbw ⊢
 have kk0 := HO0.out.cell 0 _ rfl
 have kk1 := HO0.out.cell 1 _ rfl
 have kk2 := HO0.out.cell 2 _ rfl
 refine bodyPost_ret (v := .agg #[.bool s, .slice A1 n1 c1, .slice B1 m1 k1]) (by simp [results, Tryz.results84, go_sem, kk0, kk1, kk2]) rfl ⟨_, rfl, hbw, ?_⟩
 rw [ES.out]
 exact R0.out
def MeanSaid (w' : World) (v : Value) (q : Rat) : Prop := ∃ s A c n B k m b, v = .tuple #[.agg #[.bool s, .slice A n c, .slice B m k], .bool b] ∧ rQ w' (.agg #[.bool s, .slice A n c, .slice B m k]) q
set_option maxRecDepth 100000 in
set_option maxHeartbeats 2000000 in
/-- frac.Mean -/
theorem fmean_c (w : World) (v : Value) (l : List Rat) (hl : rQs w v l) (hn : l.length ≤ 1099511627776) (hf : wt l ≤ 17592186044000) : Calls Tryz.prog 40 #[v] w (Post w fun r w' => MeanSaid w' r (sumL l / ((l.length : Nat) : Int))) := by
 have HS := Lib.hid (fun W v h => sum_c W v l h hn hf)
 have bs := qb_sumL l
 obtain ⟨A, c, rfl, hl⟩ := hl.shape
 have H1 := Lib.hid hl
 obtain ⟨n, en⟩ : ∃ n, l.length = n := ⟨_, rfl⟩
 rw [en] at hn H1 ⊢
 have HO := Lib.hid (fun W => qof_c W ((n : Nat) : Int) ⟨by omega, by omega⟩)
 have bn : qb (((n : Nat) : Int) : Rat) ≤ 64 := by
  unfold qb
  rw [Rat.num_intCast, Rat.den_intCast]
  have b1 : bl ((n : Nat) : Int).natAbs ≤ 64 := bl_le_of_lt (k := 64) (by omega)
  have b2 : bl 1 ≤ 64 := by decide
  omega
 have hdiv := fun W v u h h' => qdiv_c W v u (sumL l) (((n : Nat) : Int) : Rat) h h' (by omega)
 have HDV := Lib.hid (fun W v u h h' => (hdiv W v u h h').mono (fun _ _ h => h.map (fun _ _ h => h.open)))
 obtain ⟨q, eq⟩ : ∃ q, sumL l / (((n : Nat) : Int) : Rat) = q := ⟨_, rfl⟩
 obtain ⟨bb, ebb⟩ : ∃ b, decide ((((n : Nat) : Int) : Rat) ≠ 0) = b := ⟨_, rfl⟩
 rw [eq, ebb] at HDV
 rw [eq]
 clear hl hdiv eq ebb bn bs en hf
 have HB : Hid (Cells [] (w.alloc (.cells #[.bool false, .slice none 0 0, .slice none 0 0] 32))) := Lib.hid (Cells.nil _)
 have HO0 := Lib.hid (Own.new' w 32 [.bool false, .slice none 0 0, .slice none 0 0] (w.heap.size) (by simp))
 have hbw : Below w.heap.size w (w.alloc (.cells #[.bool false, .slice none 0 0, .slice none 0 0] 32)) := (by repeat (first | assumption | exact nB1 _ _ | refine nB2 ?_ | refine pw_below_drewN ?_ _ | refine nB3 ?_ (by first | omega | (simp <;> omega)) _ | refine nB4 ?_ (by first | omega | (simp <;> omega)) _ | refine nB5 ?_ (by assumption) (by first | omega | (simp <;> omega))))
 go_enter Tryz.func40, Tryz.ntmps40
 go_wp2_with fail
 generalize (w.alloc (.cells #[.bool false, .slice none 0 0, .slice none 0 0] 32)) = W0 at HB HO0 hbw ⊢
 refine (HS.out _ _ (H1.out.ext hbw)).mono ?_
 rintro e W1 ⟨v1, rfl, hb1, hr1⟩
 obtain ⟨Es, EA, Ec, En, EB, Ed, Em, rfl, hr1⟩ := hr1.shape
 replace HB := Lib.hid (HB.out.ext hb1)
 replace HO0 := Lib.hid (HO0.out.ext hb1)
 replace hbw := nT hbw hb1
 have R1 := Lib.hid hr1
 clear hr1
 clear hb1
 go_wp2_with fail
 refine (HO.out _).mono ?_
 rintro e W2 ⟨v1, rfl, hb1, hr1⟩
 obtain ⟨Fs, FA, Fc, Fn, FB, Fd, Fm, rfl, hr1⟩ := hr1.shape
 replace HB := Lib.hid (HB.out.ext hb1)
 replace HO0 := Lib.hid (HO0.out.ext hb1)
 replace R1 := Lib.hid (R1.out.ext hb1)
 replace hbw := nT hbw hb1
 have R2 := Lib.hid hr1
 clear hr1
 clear hb1
 go_wp2_with fail
 refine (HDV.out _ _ _ R1.out R2.out).mono ?_
 rintro e W3 ⟨v1, rfl, hb1, s1, A1, c1, n1, B1, k1, m1, rfl, hr1⟩
 replace HB := Lib.hid (HB.out.ext hb1)
 replace HO0 := Lib.hid (HO0.out.ext hb1)
 replace R1 := Lib.hid (R1.out.ext hb1)
 replace R2 := Lib.hid (R2.out.ext hb1)
 replace hbw := nT hbw hb1
 have R3 := Lib.hid hr1
 clear hr1
 clear hb1
 have q0 := HO0.out.cell 0 _ rfl
 have f0 := HO0.out.frozen 0
 have q1 := HO0.out.cell 1 _ rfl
 have f1 := HO0.out.frozen 1
 have q2 := HO0.out.cell 2 _ rfl
 have f2 := HO0.out.frozen 2
 go_wp2_with fail
 replace HB := Lib.hid (HB.out.set (p := ⟨w.heap.size, 0, none⟩) (.bool s1) (by simp <;> omega))
 replace HO0 := Lib.hid (HO0.out.set 0 (.bool s1))
 replace R1 := Lib.hid (R1.out.set (x := .bool s1) q0 rfl)
 replace R2 := Lib.hid (R2.out.set (x := .bool s1) q0 rfl)
 replace R3 := Lib.hid (R3.out.set (x := .bool s1) q0 rfl)
 replace hbw := nB4 hbw (show w.heap.size ≤ (⟨w.heap.size, 0, none⟩ : Addr).block by simp <;> omega) (.bool s1)
 replace q1 := (nC W3 ⟨w.heap.size, 0, none⟩ ⟨w.heap.size, 1, none⟩ (.bool s1) (by simp)).trans q1
 replace q2 := (nC W3 ⟨w.heap.size, 0, none⟩ ⟨w.heap.size, 2, none⟩ (.bool s1) (by simp)).trans q2
 replace HB := Lib.hid (HB.out.set (p := ⟨w.heap.size, 1, none⟩) (.slice A1 n1 c1) (by simp <;> omega))
 replace HO0 := Lib.hid (HO0.out.set 1 (.slice A1 n1 c1))
 replace R1 := Lib.hid (R1.out.set (x := .slice A1 n1 c1) q1 rfl)
 replace R2 := Lib.hid (R2.out.set (x := .slice A1 n1 c1) q1 rfl)
 replace R3 := Lib.hid (R3.out.set (x := .slice A1 n1 c1) q1 rfl)
 replace hbw := nB4 hbw (show w.heap.size ≤ (⟨w.heap.size, 1, none⟩ : Addr).block by simp <;> omega) (.slice A1 n1 c1)
 replace q2 := (nC (W3.setCell ⟨w.heap.size, 0, none⟩ (.bool s1)) ⟨w.heap.size, 1, none⟩ ⟨w.heap.size, 2, none⟩ (.slice A1 n1 c1) (by simp)).trans q2
 replace HB := Lib.hid (HB.out.set (p := ⟨w.heap.size, 2, none⟩) (.slice B1 m1 k1) (by simp <;> omega))
 replace HO0 := Lib.hid (HO0.out.set 2 (.slice B1 m1 k1))
 replace R1 := Lib.hid (R1.out.set (x := .slice B1 m1 k1) q2 rfl)
 replace R2 := Lib.hid (R2.out.set (x := .slice B1 m1 k1) q2 rfl)
 replace R3 := Lib.hid (R3.out.set (x := .slice B1 m1 k1) q2 rfl)
 replace hbw := nB4 hbw (show w.heap.size ≤ (⟨w.heap.size, 2, none⟩ : Addr).block by simp <;> omega) (.slice B1 m1 k1)
 clear q0 f0 q1 f1 q2 f2
 replace HO0 : Hid (Own _ _ _ [.bool s1, .slice A1 n1 c1, .slice B1 m1 k1]) := HO0
 generalize (((W3.setCell ⟨w.heap.size, 0, none⟩ (.bool s1)).setCell ⟨w.heap.size, 1, none⟩ (.slice A1 n1 c1)).setCell ⟨w.heap.size, 2, none⟩ (.slice B1 m1 k1)) = W4 at HB HO0 R1 R2 R3 hbw ⊢
 have kk0 := HO0.out.cell 0 _ rfl
 have kk1 := HO0.out.cell 1 _ rfl
 have kk2 := HO0.out.cell 2 _ rfl
 refine bodyPost_ret (v := .tuple #[.agg #[.bool s1, .slice A1 n1 c1, .slice B1 m1 k1], .bool bb]) (by simp [results, Tryz.results40, go_sem, kk0, kk1, kk2]) rfl ⟨_, rfl, hbw, ?_⟩
 exact ⟨_, _, _, _, _, _, _, _, rfl, R3.out⟩
end Go.Proofs.YtadpjidakippeaaGreat

/- score.mean, of whatever a closure tells; square. -/
namespace Go.Proofs.YtadpjidakippeaaGreat
open Go.RowKit
def meanF (f : Nat → Rat) (n : Nat) : Rat := sumL ((List.range n).map f) / ((n : Nat) : Int)
structure MeanIn (w : World) (bL n k : Nat) (f : Nat → Rat) (W : World) : Prop where
 be : Below w.heap.size w W
 o4 : Own W w.heap.size 32 [.bool false, .slice none 0 0, .slice none 0 0]
 fl : FillQ W bL n k f
 lt : w.heap.size < bL
set_option maxRecDepth 100000 in
set_option maxHeartbeats 2000000 in
/-- mean -/
theorem mean_c (w : World) (n fk : Nat) (caps : Array Value) (hen : ∀ args W, (callFunc fk args).run Tryz.prog W = .ok (.enter fk args) W) (f : Nat → Rat) (hc : ∀ i, i < n → ∀ W, Ext w W → Calls Tryz.prog fk (#[.int .i64 (i : Nat)] ++ caps) W (Post W fun r W' => rQ W' r (f i)))
  (hn : n ≤ 1099511627775) (hf : wt ((List.range n).map f) ≤ 17592186044000) : Calls Tryz.prog 41 #[.int .i64 (n : Nat), .func (.func fk) #[] caps] w (Post w fun r w' => rQ w' r (meanF f n)) := by
 have HC := Lib.hid hc
 have HM := Lib.hid (fun W v h => fmean_c W v ((List.range n).map f) h (by simp; omega) hf)
 have HN := Lib.hid hn
 have e0 : sumL ((List.range n).map f) / ((((List.range n).map f).length : Nat) : Int) = meanF f n := by rw [List.length_map, List.length_range]; rfl
 rw [e0] at HM
 have hmk := fun W => mkQ (n : Int) n rfl (by omega) W
 clear hc hf e0
 have HB : Hid (Cells [] (w.alloc (.cells #[.bool false, .slice none 0 0, .slice none 0 0] 32))) := Lib.hid (Cells.nil _)
 have HO0 := Lib.hid (Own.new' w 32 [.bool false, .slice none 0 0, .slice none 0 0] (w.heap.size) (by simp))
 have hbw : Below w.heap.size w (w.alloc (.cells #[.bool false, .slice none 0 0, .slice none 0 0] 32)) := (by repeat (first | assumption | exact nB1 _ _ | refine nB2 ?_ | refine pw_below_drewN ?_ _ | refine nB3 ?_ (by first | omega | (simp <;> omega)) _ | refine nB4 ?_ (by first | omega | (simp <;> omega)) _ | refine nB5 ?_ (by assumption) (by first | omega | (simp <;> omega))))
 go_enter Tryz.func41, Tryz.ntmps41
 go_upto_region 1 with (fail)
 generalize (w.alloc (.cells #[.bool false, .slice none 0 0, .slice none 0 0] 32)) = W0 at HB HO0 hbw ⊢
 go_upto_region 2 with (fail)
 have zb := HO0.out.lt
 have z_HL := hbw.size
 have z_HL_HO0 := HO0.out.lt
 replace HB := Lib.hid (HB.out.alloc (.cells (madeCells zeroQ (n * 3)) 32))
 replace HO0 := Lib.hid (HO0.out.alloc (.cells (madeCells zeroQ (n * 3)) 32))
 replace hbw := nB3 hbw hbw.size (.cells (madeCells zeroQ (n * 3)) 32)
 have HL := Lib.hid (FillQ.start W0 n f)
 obtain ⟨bHL, e_HL⟩ : ∃ b, W0.heap.size = b := ⟨_, rfl⟩
 simp only [e_HL] at HL z_HL z_HL_HO0 ⊢
 generalize (W0.alloc (.cells (madeCells zeroQ (n * 3)) 32)) = W1 at HB HO0 HL hbw ⊢
 rw [e_HL] at zb
 clear hmk
 go_upto_block 0 with (fail)
 go_cut [] (fun WC => MeanIn w bHL n n f WC)
 case first =>
  go_wp2_with fail
  go_loopw [13] (fun t W => ∃ k : Nat, t = .int .i64 (k : Nat) ∧ k ≤ n ∧ MeanIn w bHL n k f W) (fun t _ => (n - (intOf t).toNat))
  case atStart => exact ⟨0, rfl, Nat.zero_le _, hbw, HO0.out, HL.out, zb⟩
  case round =>
   obtain ⟨k, rfl, hk, hd⟩ := hrel
   clear HB HO0 HL hbw
   have HD := Lib.hid hd
   clear hd
   rcases Nat.lt_or_ge k n with hkn | hkn
   ·
    have hki : (k : Int) < (n : Int) := by omega
    have HKN := Lib.hid hkn
    have hwk : IntKind.i64.wrap ((k : Int) + 1) = ((k + 1 : Nat) : Int) := i64w (by omega) (by have := HN.out; omega)
    have HK := Lib.hid (HC.out k hkn wr HD.out.be)
    have zb := HD.out.lt
    clear hk hkn
    go_wp2_with fail
    refine HK.out.mono ?_
    rintro e w1 ⟨v1, rfl, hb1, hr1⟩
    obtain ⟨s, A1, c1, n1, B1, k1, m1, rfl, hr1⟩ := hr1.shape
    have hbw := Below.trans HD.out.be (Below.mono hb1 HD.out.be.size)
    have HF := Lib.hid (HD.out.fl.ext hb1)
    have HO := Lib.hid (HD.out.o4.ext hb1)
    have HR := Lib.hid hr1
    clear hb1 hr1
    obtain ⟨v0, q0, i0, f0⟩ := HF.out.cell (k * 3) (by have := HKN.out; omega)
    obtain ⟨v1, q1, i1, f1⟩ := HF.out.cell (k * 3 + 1) (by have := HKN.out; omega)
    obtain ⟨v2, q2, i2, f2⟩ := HF.out.cell (k * 3 + 2) (by have := HKN.out; omega)
    go_wp2
    go_roundw
    case rel => exact ⟨k + 1, rfl, HKN.out, below3 hbw (by omega), HO.out.others3 (by omega), HF.out.set3 HKN.out HR.out, zb⟩
    case measure => simp [intOf]; have := HKN.out; omega
   ·
    obtain rfl : k = n := by omega
    have hki : ¬ (k : Int) < (k : Int) := by omega
    go_wp2_with fail
    go_meet
    exact HD.out
 clear HB HO0 HL hbw
 have hbw := hcut.be
 have HO0 := Lib.hid hcut.o4
 have RL := Lib.hid (hcut.fl.done ((List.range n).map f) (by simp) (by intro j hj; simp))
 clear hcut
 go_wp2_with fail
 refine (HM.out _ _ RL.out).mono ?_
 rintro e W21 ⟨v1, rfl, hb1, s1, A1, c1, n1, B1, k1, m1, bb, rfl, hr1⟩
 replace HO0 := Lib.hid (HO0.out.ext hb1)
 replace hbw := nT hbw hb1
 have R3 := Lib.hid hr1
 clear hr1
 clear hb1
 go_upto_region 8 with (fail)
 have z_H7 := hbw.size
 have z_H7_HO0 := HO0.out.lt
 replace HO0 := Lib.hid (HO0.out.alloc (.cells #[.bool s1, .slice A1 n1 c1, .slice B1 m1 k1] 32))
 replace R3 := Lib.hid (R3.out.alloc (.cells #[.bool s1, .slice A1 n1 c1, .slice B1 m1 k1] 32))
 replace hbw := nB3 hbw hbw.size (.cells #[.bool s1, .slice A1 n1 c1, .slice B1 m1 k1] 32)
 have H7 := Lib.hid (Own.new' W21 32 [.bool s1, .slice A1 n1 c1, .slice B1 m1 k1] W21.heap.size rfl)
 obtain ⟨bH7, e_H7⟩ : ∃ b, W21.heap.size = b := ⟨_, rfl⟩
 simp only [e_H7] at H7 z_H7 z_H7_HO0 ⊢
 generalize (W21.alloc (.cells #[.bool s1, .slice A1 n1 c1, .slice B1 m1 k1] 32)) = W22 at HO0 R3 H7 hbw ⊢
 have x_H7_0 := H7.out.cell 0 _ rfl
 have f_H7_0 := H7.out.frozen 0
 have x_H7_1 := H7.out.cell 1 _ rfl
 have f_H7_1 := H7.out.frozen 1
 have x_H7_2 := H7.out.cell 2 _ rfl
 have f_H7_2 := H7.out.frozen 2
 have q0 := HO0.out.cell 0 _ rfl
 have f0 := HO0.out.frozen 0
 have q1 := HO0.out.cell 1 _ rfl
 have f1 := HO0.out.frozen 1
 have q2 := HO0.out.cell 2 _ rfl
 have f2 := HO0.out.frozen 2
 go_wp2_with fail
 replace HO0 := Lib.hid (HO0.out.set 0 (.bool s1))
 replace R3 := Lib.hid (R3.out.set (x := .bool s1) q0 rfl)
 replace H7 := Lib.hid (H7.out.other (p := ⟨w.heap.size, 0, none⟩) (.bool s1) (by simp <;> omega))
 replace hbw := nB4 hbw (show w.heap.size ≤ (⟨w.heap.size, 0, none⟩ : Addr).block by simp <;> omega) (.bool s1)
 replace q1 := (nC W22 ⟨w.heap.size, 0, none⟩ ⟨w.heap.size, 1, none⟩ (.bool s1) (by simp)).trans q1
 replace q2 := (nC W22 ⟨w.heap.size, 0, none⟩ ⟨w.heap.size, 2, none⟩ (.bool s1) (by simp)).trans q2
 replace HO0 := Lib.hid (HO0.out.set 1 (.slice A1 n1 c1))
 replace R3 := Lib.hid (R3.out.set (x := .slice A1 n1 c1) q1 rfl)
 replace H7 := Lib.hid (H7.out.other (p := ⟨w.heap.size, 1, none⟩) (.slice A1 n1 c1) (by simp <;> omega))
 replace hbw := nB4 hbw (show w.heap.size ≤ (⟨w.heap.size, 1, none⟩ : Addr).block by simp <;> omega) (.slice A1 n1 c1)
 replace q2 := (nC (W22.setCell ⟨w.heap.size, 0, none⟩ (.bool s1)) ⟨w.heap.size, 1, none⟩ ⟨w.heap.size, 2, none⟩ (.slice A1 n1 c1) (by simp)).trans q2
 replace HO0 := Lib.hid (HO0.out.set 2 (.slice B1 m1 k1))
 replace R3 := Lib.hid (R3.out.set (x := .slice B1 m1 k1) q2 rfl)
 replace H7 := Lib.hid (H7.out.other (p := ⟨w.heap.size, 2, none⟩) (.slice B1 m1 k1) (by simp <;> omega))
 replace hbw := nB4 hbw (show w.heap.size ≤ (⟨w.heap.size, 2, none⟩ : Addr).block by simp <;> omega) (.slice B1 m1 k1)
 clear q0 f0 q1 f1 q2 f2
 replace HO0 : Hid (Own _ _ _ [.bool s1, .slice A1 n1 c1, .slice B1 m1 k1]) := HO0
 generalize (((W22.setCell ⟨w.heap.size, 0, none⟩ (.bool s1)).setCell ⟨w.heap.size, 1, none⟩ (.slice A1 n1 c1)).setCell ⟨w.heap.size, 2, none⟩ (.slice B1 m1 k1)) = W23 at HO0 R3 H7 hbw ⊢
 have kk0 := HO0.out.cell 0 _ rfl
 have kk1 := HO0.out.cell 1 _ rfl
 have kk2 := HO0.out.cell 2 _ rfl
 refine bodyPost_ret (v := .agg #[.bool s1, .slice A1 n1 c1, .slice B1 m1 k1]) (by simp [results, Tryz.results41, go_sem, kk0, kk1, kk2]) rfl ⟨_, rfl, hbw, ?_⟩
 exact R3.out
set_option maxRecDepth 100000 in
/-- square -/
theorem square_c (w : World) (v : Value) (a : Rat) (ha : rQ w v a) (hf : qb a ≤ 17592186044000) : Calls Tryz.prog 43 #[v] w (Post w fun r w' => rQ w' r (a * a)) := by
 obtain ⟨s1, A1, c1, n1, B1, k1, m1, rfl, ha⟩ := ha.shape
 have HM := Lib.hid (fun W v u h h' => qmul_c W v u a a h h' (by omega))
 have H1 := Lib.hid ha
 have HB : Hid (Cells [(w.heap.size, 0, .bool s1), (w.heap.size, 1, .slice A1 n1 c1), (w.heap.size, 2, .slice B1 m1 k1)] ((w.alloc (.cells #[.bool s1, .slice A1 n1 c1, .slice B1 m1 k1] 32)).alloc (.cells #[.bool false, .slice none 0 0, .slice none 0 0] 32))) := Lib.hid (Cells.cons (by go_simp) (Cells.cons (by go_simp) (Cells.cons (by go_simp) (Cells.nil _))))
 have HO0 := Lib.hid (Own.new' (w.alloc (.cells #[.bool s1, .slice A1 n1 c1, .slice B1 m1 k1] 32)) 32 [.bool false, .slice none 0 0, .slice none 0 0] (w.heap.size + 1) (by simp))
 have hbw : Below w.heap.size w ((w.alloc (.cells #[.bool s1, .slice A1 n1 c1, .slice B1 m1 k1] 32)).alloc (.cells #[.bool false, .slice none 0 0, .slice none 0 0] 32)) := (by repeat (first | assumption | exact nB1 _ _ | refine nB2 ?_ | refine pw_below_drewN ?_ _ | refine nB3 ?_ (by first | omega | (simp <;> omega)) _ | refine nB4 ?_ (by first | omega | (simp <;> omega)) _ | refine nB5 ?_ (by assumption) (by first | omega | (simp <;> omega))))
 clear ha
 go_enter Tryz.func43, Tryz.ntmps43
 go_wp2_with fail
 generalize ((w.alloc (.cells #[.bool s1, .slice A1 n1 c1, .slice B1 m1 k1] 32)).alloc (.cells #[.bool false, .slice none 0 0, .slice none 0 0] 32)) = W0 at HB HO0 hbw ⊢
 obtain ⟨y0, y1, y2, _⟩ := id HB.out
 go_wp2_with fail
 clear y0 y1 y2
 refine (HM.out _ _ _ (H1.out.ext hbw) (H1.out.ext hbw)).mono ?_
 rintro e W1 ⟨v1, rfl, hb1, hr1⟩
 obtain ⟨Es, EA, Ec, En, EB, Ed, Em, rfl, hr1⟩ := hr1.shape
 replace HB := Lib.hid (HB.out.ext hb1)
 replace HO0 := Lib.hid (HO0.out.ext hb1)
 replace hbw := nT hbw hb1
 have R1 := Lib.hid hr1
 clear hr1
 clear hb1
 have q0 := HO0.out.cell 0 _ rfl
 have f0 := HO0.out.frozen 0
 have q1 := HO0.out.cell 1 _ rfl
 have f1 := HO0.out.frozen 1
 have q2 := HO0.out.cell 2 _ rfl
 have f2 := HO0.out.frozen 2
 go_wp2_with fail
 replace HB := Lib.hid (HB.out.set (p := ⟨w.heap.size + 1, 0, none⟩) (.bool Es) (by simp <;> omega))
 replace HO0 := Lib.hid (HO0.out.set 0 (.bool Es))
 replace R1 := Lib.hid (R1.out.set (x := .bool Es) q0 rfl)
 replace hbw := nB4 hbw (show w.heap.size ≤ (⟨w.heap.size + 1, 0, none⟩ : Addr).block by simp <;> omega) (.bool Es)
 replace q1 := (nC W1 ⟨w.heap.size + 1, 0, none⟩ ⟨w.heap.size + 1, 1, none⟩ (.bool Es) (by simp)).trans q1
 replace q2 := (nC W1 ⟨w.heap.size + 1, 0, none⟩ ⟨w.heap.size + 1, 2, none⟩ (.bool Es) (by simp)).trans q2
 replace HB := Lib.hid (HB.out.set (p := ⟨w.heap.size + 1, 1, none⟩) (.slice EA En Ec) (by simp <;> omega))
 replace HO0 := Lib.hid (HO0.out.set 1 (.slice EA En Ec))
 replace R1 := Lib.hid (R1.out.set (x := .slice EA En Ec) q1 rfl)
 replace hbw := nB4 hbw (show w.heap.size ≤ (⟨w.heap.size + 1, 1, none⟩ : Addr).block by simp <;> omega) (.slice EA En Ec)
 replace q2 := (nC (W1.setCell ⟨w.heap.size + 1, 0, none⟩ (.bool Es)) ⟨w.heap.size + 1, 1, none⟩ ⟨w.heap.size + 1, 2, none⟩ (.slice EA En Ec) (by simp)).trans q2
 replace HB := Lib.hid (HB.out.set (p := ⟨w.heap.size + 1, 2, none⟩) (.slice EB Em Ed) (by simp <;> omega))
 replace HO0 := Lib.hid (HO0.out.set 2 (.slice EB Em Ed))
 replace R1 := Lib.hid (R1.out.set (x := .slice EB Em Ed) q2 rfl)
 replace hbw := nB4 hbw (show w.heap.size ≤ (⟨w.heap.size + 1, 2, none⟩ : Addr).block by simp <;> omega) (.slice EB Em Ed)
 clear q0 f0 q1 f1 q2 f2
 replace HO0 : Hid (Own _ _ _ [.bool Es, .slice EA En Ec, .slice EB Em Ed]) := HO0
 generalize (((W1.setCell ⟨w.heap.size + 1, 0, none⟩ (.bool Es)).setCell ⟨w.heap.size + 1, 1, none⟩ (.slice EA En Ec)).setCell ⟨w.heap.size + 1, 2, none⟩ (.slice EB Em Ed)) = W2 at HB HO0 R1 hbw ⊢
 have kk0 := HO0.out.cell 0 _ rfl
 have kk1 := HO0.out.cell 1 _ rfl
 have kk2 := HO0.out.cell 2 _ rfl
 refine bodyPost_ret (v := .agg #[.bool Es, .slice EA En Ec, .slice EB Em Ed]) (by simp [results, Tryz.results43, go_sem, kk0, kk1, kk2]) rfl ⟨_, rfl, hbw, ?_⟩
 exact R1.out
end Go.Proofs.YtadpjidakippeaaGreat

/- score.Squares, Told. -/
namespace Go.Proofs.YtadpjidakippeaaGreat
open Go.RowKit
def ScSaid (w' : World) (r : Value) (e : Int) (q : Rat) : Prop := ∃ s A c k B d m, r = .tuple #[.agg #[.bool s, .slice A k c, .slice B m d], .int .i64 e] ∧ rQ w' (.agg #[.bool s, .slice A k c, .slice B m d]) q
set_option maxRecDepth 100000 in
theorem matchedQ_c (w : World) (A B : Option Addr) (n m c d : Nat) : Calls Tryz.prog 46 #[.slice A n c, .slice B m d] w (Post w fun r _ => r = .bool (decide (n = m ∧ 0 < n))) := by
 by_cases h : n = m
 ·
  subst h
  have e1 : ((n : Int) == (n : Int)) = true := by simp
  by_cases h0 : 0 < n
  ·
   have e2 : (0 : Int) < (n : Int) := by omega
   go_enter Tryz.func46, Tryz.ntmps46
   go_wp2_with fail
   go_ret
   exact ⟨_, rfl, Below.refl _ _, by simp [h0]⟩
  ·
   have e2 : ¬ (0 : Int) < (n : Int) := by omega
   go_enter Tryz.func46, Tryz.ntmps46
   go_wp2_with fail
   go_ret
   exact ⟨_, rfl, Below.refl _ _, by simp [h0]⟩
 ·
  have e1 : ((n : Int) == (m : Int)) = false := by rw [beq_eq_false_iff_ne]; omega
  have e2 : ¬ (n : Int) = (m : Int) := by omega
  go_enter Tryz.func46, Tryz.ntmps46
  go_wp2_with fail
  go_ret
  exact ⟨_, rfl, Below.refl _ _, by simp [h]⟩
def sqd (a b : List Rat) (i : Nat) : Rat := (a.getD i 0 - b.getD i 0) * (a.getD i 0 - b.getD i 0)
set_option maxRecDepth 100000 in
set_option maxHeartbeats 1000000 in
/-- Squares$1 -/
theorem sq1_c (w : World) (b1 b2 : Nat) (A B : Option Addr) (n c d : Nat) (la lb : List Rat) (i : Nat) (h1 : w.cell? ⟨b1, 0, none⟩ = some (.slice A n c)) (h2 : w.cell? ⟨b2, 0, none⟩ = some (.slice B n d))
  (ha : rQs w (.slice A n c) la) (hb : rQs w (.slice B n d) lb) (hi : i < n) (hla : la.length = n) (hlb : lb.length = n) (hf : qb (la.getD i 0) + qb (lb.getD i 0) ≤ 17592186043000) :
  Calls Tryz.prog 83 #[.int .i64 (i : Nat), .pointer (some ⟨b1, 0, none⟩), .pointer (some ⟨b2, 0, none⟩)] w (Post w fun r w' => rQ w' r (sqd la lb i)) := by
 obtain ⟨g, o, sa, Aa, ca, na, Ba, ka, ma, rfl, xa, ya, za, ra⟩ := ha.at (j := i) (by omega)
 obtain ⟨g', o', sb, Ab, cb, nb, Bb, kb, mb, rfl, xb, yb, zb, rb⟩ := hb.at (j := i) (by omega)
 have e1 : la[i]'(by omega) = la.getD i 0 := by rw [List.getD_eq_getElem?_getD, List.getElem?_eq_getElem (by omega)]; rfl
 have e2 : lb[i]'(by omega) = lb.getD i 0 := by rw [List.getD_eq_getElem?_getD, List.getElem?_eq_getElem (by omega)]; rfl
 rw [e1] at ra
 rw [e2] at rb
 show Calls Tryz.prog 83 _ w (Post w fun r w' => rQ w' r ((la.getD i 0 - lb.getD i 0) * (la.getD i 0 - lb.getD i 0)))
 generalize la.getD i 0 = x at ra hf ⊢
 generalize lb.getD i 0 = y at rb hf ⊢
 have hi0 : (i : Int) < (n : Int) := by omega
 have bs := qb_sub x y
 have HS := Lib.hid (fun W v u h h' => qsub_c W v u x y h h' (by omega))
 have HQ := Lib.hid (fun W v h => square_c W v (x - y) h (by omega))
 have g1 := cell_lt h1
 have g2 := cell_lt h2
 have g3 := cell_lt xa
 have g4 := cell_lt xb
 have RA0 := Lib.hid ra
 have RB0 := Lib.hid rb
 clear e1 e2 ha hb hf bs ra rb
 have HB : Hid (Cells [] (w.alloc (.cells #[.bool false, .slice none 0 0, .slice none 0 0] 32))) := Lib.hid (Cells.nil _)
 have HO0 := Lib.hid (Own.new' w 32 [.bool false, .slice none 0 0, .slice none 0 0] (w.heap.size) (by simp))
 have hbw : Below w.heap.size w (w.alloc (.cells #[.bool false, .slice none 0 0, .slice none 0 0] 32)) := (by repeat (first | assumption | exact nB1 _ _ | refine nB2 ?_ | refine pw_below_drewN ?_ _ | refine nB3 ?_ (by first | omega | (simp <;> omega)) _ | refine nB4 ?_ (by first | omega | (simp <;> omega)) _ | refine nB5 ?_ (by assumption) (by first | omega | (simp <;> omega))))
 go_enter Tryz.func83, Tryz.ntmps83
 go_wp2_with fail
 generalize (w.alloc (.cells #[.bool false, .slice none 0 0, .slice none 0 0] 32)) = W0 at HB HO0 hbw ⊢
 have RA := Lib.hid (RA0.out.ext hbw)
 have RB := Lib.hid (RB0.out.ext hbw)
 have HB : Hid (Cells [(b1, 0, .slice (some ⟨g, o, none⟩) n c), (b2, 0, .slice (some ⟨g', o', none⟩) n d), (g, o + i * 3, .bool sa), (g, o + i * 3 + 1, .slice Aa na ca), (g, o + i * 3 + 2, .slice Ba ma ka), (g', o' + i * 3, .bool sb), (g', o' + i * 3 + 1, .slice Ab nb cb), (g', o' + i * 3 + 2, .slice Bb mb kb)] W0) := Lib.hid (Cells.cons (ext_cell hbw h1) (Cells.cons (ext_cell hbw h2) (Cells.cons (ext_cell hbw xa) (Cells.cons (ext_cell hbw ya) (Cells.cons (ext_cell hbw za) (Cells.cons (ext_cell hbw xb) (Cells.cons (ext_cell hbw yb) (Cells.cons (ext_cell hbw zb) (Cells.nil _)))))))))
 clear h1 h2 xa ya za xb yb zb
 replace HB := Lib.hid (HB.out.drew)
 replace HO0 := Lib.hid (HO0.out.drew)
 replace RA := Lib.hid (RA.out.drew)
 replace RB := Lib.hid (RB.out.drew)
 replace hbw := Below.drew hbw
 refine wp_hoist [(0, true), (1, true), (2, true), (3, true), (4, true), (5, true), (6, true), (7, true), (8, false), (9, false), (10, false)] (Cells [(b1, 0, .slice (some ⟨g, o, none⟩) n c), (b2, 0, .slice (some ⟨g', o', none⟩) n d), (g, o + i * 3, .bool sa), (g, o + i * 3 + 1, .slice Aa na ca), (g, o + i * 3 + 2, .slice Ba ma ka), (g', o' + i * 3, .bool sb), (g', o' + i * 3 + 1, .slice Ab nb cb), (g', o' + i * 3 + 2, .slice Bb mb kb)]) (by kernel_rfl) (by kernel_rfl) ?_ ?_
 · exact HB.out
 generalize W0.drew = W1 at HB HO0 RA RB hbw ⊢
 refine hz_yes (v := ?_) rfl (by kernel_rfl) (fun W hW => ?_) ?_; rotate_left; (obtain ⟨y0, y1, y2, y3, y4, y5, y6, y7, _⟩ := hW; go_simp; try with_reducible rfl)
 (try (conv => arg 6; simp only [Act.put, gL]))
 refine hz_yes (v := ?_) rfl (by kernel_rfl) (fun W hW => ?_) ?_; rotate_left; (go_simp; try with_reducible rfl)
 (try (conv => arg 6; simp only [Act.put, gL]))
 refine hz_yes (v := ?_) rfl (by kernel_rfl) (fun W hW => ?_) ?_; rotate_left; (go_simp; try with_reducible rfl)
 (try (conv => arg 6; simp only [Act.put, gL]))
 refine hz_yes (v := ?_) rfl (by kernel_rfl) (fun W hW => ?_) ?_; rotate_left; (obtain ⟨y0, y1, y2, y3, y4, y5, y6, y7, _⟩ := hW; go_simp; try with_reducible rfl)
 (try (conv => arg 6; simp only [Act.put, gL]))
 refine hz_yes (v := ?_) rfl (by kernel_rfl) (fun W hW => ?_) ?_; rotate_left; (obtain ⟨y0, y1, y2, y3, y4, y5, y6, y7, _⟩ := hW; go_simp; try with_reducible rfl)
 (try (conv => arg 6; simp only [Act.put, gL]))
 refine hz_yes (v := ?_) rfl (by kernel_rfl) (fun W hW => ?_) ?_; rotate_left; (go_simp; try with_reducible rfl)
 (try (conv => arg 6; simp only [Act.put, gL]))
 refine hz_yes (v := ?_) rfl (by kernel_rfl) (fun W hW => ?_) ?_; rotate_left; (go_simp; try with_reducible rfl)
 (try (conv => arg 6; simp only [Act.put, gL]))
 refine hz_yes (v := ?_) rfl (by kernel_rfl) (fun W hW => ?_) ?_; rotate_left; (obtain ⟨y0, y1, y2, y3, y4, y5, y6, y7, _⟩ := hW; go_simp; try with_reducible rfl)
 (try (conv => arg 6; simp only [Act.put, gL]))
 refine hz_eff rfl (by kernel_rfl) (fun K hK => ?_)
 refine wp_call (HS.out _ _ _ RA.out RB.out) (by kernel_rfl) ?_
 rintro v1 W2 hb1 hr1
 obtain ⟨Es, EA, Ec, En, EB, Ed, Em, rfl, hr1⟩ := hr1.shape
 refine hK.out _ _ ?_ ?_
 · exact HB.out.ext hb1
 clear hK K
 (try (conv => arg 6; simp only [Act.put, gL]))
 replace HB := Lib.hid (HB.out.ext hb1)
 replace HO0 := Lib.hid (HO0.out.ext hb1)
 replace RA := Lib.hid (RA.out.ext hb1)
 replace RB := Lib.hid (RB.out.ext hb1)
 replace hbw := nT hbw hb1
 have R3 := Lib.hid hr1
 clear hr1
 clear hb1
 refine hz_eff rfl (by kernel_rfl) (fun K hK => ?_)
 refine wp_call (HQ.out _ _ R3.out) (by kernel_rfl) ?_
 rintro v1 W3 hb1 hr1
 obtain ⟨Fs, FA, Fc, Fn, FB, Fd, Fm, rfl, hr1⟩ := hr1.shape
 refine hK.out _ _ ?_ ?_
 · exact HB.out.ext hb1
 clear hK K
 (try (conv => arg 6; simp only [Act.put, gL]))
 replace HB := Lib.hid (HB.out.ext hb1)
 replace HO0 := Lib.hid (HO0.out.ext hb1)
 replace RA := Lib.hid (RA.out.ext hb1)
 replace RB := Lib.hid (RB.out.ext hb1)
 replace R3 := Lib.hid (R3.out.ext hb1)
 replace hbw := nT hbw hb1
 have R4 := Lib.hid hr1
 clear hr1
 clear hb1
 have q0 := HO0.out.cell 0 _ rfl
 have f0 := HO0.out.frozen 0
 have q1 := HO0.out.cell 1 _ rfl
 have f1 := HO0.out.frozen 1
 have q2 := HO0.out.cell 2 _ rfl
 have f2 := HO0.out.frozen 2
 refine hz_eff rfl (by kernel_rfl) (fun K hK => ?_)
 go_simp
 refine hK.out _ _ ?_ ?_
 · exact (((HB.out.set (p := ⟨w.heap.size, 0, none⟩) _ (by simp <;> omega)).set (p := ⟨w.heap.size, 1, none⟩) _ (by simp <;> omega)).set (p := ⟨w.heap.size, 2, none⟩) _ (by simp <;> omega))
 clear hK K
 (try (conv => arg 6; simp only [Act.put, gL]))
 replace HB := Lib.hid (HB.out.set (p := ⟨w.heap.size, 0, none⟩) (.bool Fs) (by simp <;> omega))
 replace HO0 := Lib.hid (HO0.out.set 0 (.bool Fs))
 replace RA := Lib.hid (RA.out.set (x := .bool Fs) q0 rfl)
 replace RB := Lib.hid (RB.out.set (x := .bool Fs) q0 rfl)
 replace R3 := Lib.hid (R3.out.set (x := .bool Fs) q0 rfl)
 replace R4 := Lib.hid (R4.out.set (x := .bool Fs) q0 rfl)
 replace hbw := nB4 hbw (show w.heap.size ≤ (⟨w.heap.size, 0, none⟩ : Addr).block by simp <;> omega) (.bool Fs)
 replace q1 := (nC W3 ⟨w.heap.size, 0, none⟩ ⟨w.heap.size, 1, none⟩ (.bool Fs) (by simp)).trans q1
 replace q2 := (nC W3 ⟨w.heap.size, 0, none⟩ ⟨w.heap.size, 2, none⟩ (.bool Fs) (by simp)).trans q2
 replace HB := Lib.hid (HB.out.set (p := ⟨w.heap.size, 1, none⟩) (.slice FA Fn Fc) (by simp <;> omega))
 replace HO0 := Lib.hid (HO0.out.set 1 (.slice FA Fn Fc))
 replace RA := Lib.hid (RA.out.set (x := .slice FA Fn Fc) q1 rfl)
 replace RB := Lib.hid (RB.out.set (x := .slice FA Fn Fc) q1 rfl)
 replace R3 := Lib.hid (R3.out.set (x := .slice FA Fn Fc) q1 rfl)
 replace R4 := Lib.hid (R4.out.set (x := .slice FA Fn Fc) q1 rfl)
 replace hbw := nB4 hbw (show w.heap.size ≤ (⟨w.heap.size, 1, none⟩ : Addr).block by simp <;> omega) (.slice FA Fn Fc)
 replace q2 := (nC (W3.setCell ⟨w.heap.size, 0, none⟩ (.bool Fs)) ⟨w.heap.size, 1, none⟩ ⟨w.heap.size, 2, none⟩ (.slice FA Fn Fc) (by simp)).trans q2
 replace HB := Lib.hid (HB.out.set (p := ⟨w.heap.size, 2, none⟩) (.slice FB Fm Fd) (by simp <;> omega))
 replace HO0 := Lib.hid (HO0.out.set 2 (.slice FB Fm Fd))
 replace RA := Lib.hid (RA.out.set (x := .slice FB Fm Fd) q2 rfl)
 replace RB := Lib.hid (RB.out.set (x := .slice FB Fm Fd) q2 rfl)
 replace R3 := Lib.hid (R3.out.set (x := .slice FB Fm Fd) q2 rfl)
 replace R4 := Lib.hid (R4.out.set (x := .slice FB Fm Fd) q2 rfl)
 replace hbw := nB4 hbw (show w.heap.size ≤ (⟨w.heap.size, 2, none⟩ : Addr).block by simp <;> omega) (.slice FB Fm Fd)
 clear q0 f0 q1 f1 q2 f2
 replace HO0 : Hid (Own _ _ _ [.bool Fs, .slice FA Fn Fc, .slice FB Fm Fd]) := HO0
 generalize (((W3.setCell ⟨w.heap.size, 0, none⟩ (.bool Fs)).setCell ⟨w.heap.size, 1, none⟩ (.slice FA Fn Fc)).setCell ⟨w.heap.size, 2, none⟩ (.slice FB Fm Fd)) = W4 at HB HO0 RA RB R3 R4 hbw ⊢
 refine hz_nil ?_
 go_wp2_with fail
 have kk0 := HO0.out.cell 0 _ rfl
 have kk1 := HO0.out.cell 1 _ rfl
 have kk2 := HO0.out.cell 2 _ rfl
 refine bodyPost_ret (v := .agg #[.bool Fs, .slice FA Fn Fc, .slice FB Fm Fd]) (by simp [results, Tryz.results83, go_sem, kk0, kk1, kk2]) rfl ⟨_, rfl, hbw, ?_⟩
 exact R4.out
set_option maxRecDepth 100000 in
set_option maxHeartbeats 1000000 in
/-- Squares, of lists that are matched -/
theorem squares_ok (w : World) (va vb : Value) (a b : List Rat) (ha : rQs w va a) (hb : rQs w vb b) (hab : b.length = a.length) (h0 : 0 < a.length) (hn : a.length ≤ 1099511627775) (hf : ∀ i, i < a.length → qb (a.getD i 0) + qb (b.getD i 0) ≤ 17592186043000) (hw : wt ((List.range a.length).map (sqd a b)) ≤ 17592186044000) :
  Calls Tryz.prog 39 #[va, vb] w (Post w fun r w' => ScSaid w' r 0 (meanF (sqd a b) a.length)) := by
 obtain ⟨A, c, rfl, ha⟩ := ha.shape
 obtain ⟨B, d, rfl, hb⟩ := hb.shape
 rw [hab] at hb ⊢
 obtain ⟨n, en⟩ : ∃ n, a.length = n := ⟨_, rfl⟩
 rw [en] at ha hb h0 hn hab hf hw ⊢
 have HC := Lib.hid (fun W b1 b2 h1 h2 (h3 : rQs W (.slice A n c) a) (h4 : rQs W (.slice B n d) b) => mean_c W n 83 #[.pointer (some ⟨b1, 0, none⟩), .pointer (some ⟨b2, 0, none⟩)] (fun _ _ => by kernel_rfl) (sqd a b) (fun i hi W' he => sq1_c W' b1 b2 A B n c d a b i (ext_cell he h1) (ext_cell he h2) (h3.ext he) (h4.ext he) hi en hab (hf i hi)) hn hw)
 have HM := Lib.hid (fun W => matchedQ_c W A B n n c d)
 rw [show decide (n = n ∧ 0 < n) = true from by simp [h0]] at HM
 have H1 := Lib.hid ha
 have H2 := Lib.hid hb
 have hmf : ∀ (fn : Fn) (first cap : Array Value) (w : World), (Instr.makeFunc fn first cap).run Tryz.prog w = .ok (.func fn first cap) w := fun _ _ _ _ => rfl
 obtain ⟨q, eq⟩ : ∃ q, meanF (sqd a b) n = q := ⟨_, rfl⟩
 rw [eq] at HC ⊢
 clear ha hb en hab eq hf hw
 have HB : Hid (Cells [(w.heap.size, 0, .slice A n c), (w.heap.size + 1, 0, .slice B n d)] (((w.alloc (.cells #[.slice A n c] 58)).alloc (.cells #[.slice B n d] 58)).alloc (.cells #[.bool false, .slice none 0 0, .slice none 0 0] 32))) := Lib.hid (Cells.cons (by go_simp) (Cells.cons (by go_simp) (Cells.nil _)))
 have HO0 := Lib.hid (Own.new' ((w.alloc (.cells #[.slice A n c] 58)).alloc (.cells #[.slice B n d] 58)) 32 [.bool false, .slice none 0 0, .slice none 0 0] (w.heap.size + 1 + 1) (by simp))
 have hbw : Below w.heap.size w (((w.alloc (.cells #[.slice A n c] 58)).alloc (.cells #[.slice B n d] 58)).alloc (.cells #[.bool false, .slice none 0 0, .slice none 0 0] 32)) := (by repeat (first | assumption | exact nB1 _ _ | refine nB2 ?_ | refine pw_below_drewN ?_ _ | refine nB3 ?_ (by first | omega | (simp <;> omega)) _ | refine nB4 ?_ (by first | omega | (simp <;> omega)) _ | refine nB5 ?_ (by assumption) (by first | omega | (simp <;> omega))))
 go_enter Tryz.func39, Tryz.ntmps39
 go_wp2_with fail
 generalize (((w.alloc (.cells #[.slice A n c] 58)).alloc (.cells #[.slice B n d] 58)).alloc (.cells #[.bool false, .slice none 0 0, .slice none 0 0] 32)) = W0 at HB HO0 hbw ⊢
 obtain ⟨y0, y1, _⟩ := id HB.out
 go_wp2_with fail
 clear y0 y1
 refine (HM.out _).mono ?_
 rintro e W1 ⟨v1, rfl, hb1, rfl⟩
 replace HB := Lib.hid (HB.out.ext hb1)
 replace HO0 := Lib.hid (HO0.out.ext hb1)
 replace hbw := nT hbw hb1
 clear hb1
 obtain ⟨y0, y1, _⟩ := id HB.out
 go_wp2_with fail
 clear y0 y1
 refine (HC.out _ _ _ HB.out.1 HB.out.2.1 (H1.out.ext hbw) (H2.out.ext hbw)).mono ?_
 rintro e W2 ⟨v1, rfl, hb1, hr1⟩
 obtain ⟨Es, EA, Ec, En, EB, Ed, Em, rfl, hr1⟩ := hr1.shape
 replace HB := Lib.hid (HB.out.ext hb1)
 replace HO0 := Lib.hid (HO0.out.ext hb1)
 replace hbw := nT hbw hb1
 have R1 := Lib.hid hr1
 clear hr1
 clear hb1
 have q0 := HO0.out.cell 0 _ rfl
 have f0 := HO0.out.frozen 0
 have q1 := HO0.out.cell 1 _ rfl
 have f1 := HO0.out.frozen 1
 have q2 := HO0.out.cell 2 _ rfl
 have f2 := HO0.out.frozen 2
 go_wp2_with fail
 replace HB := Lib.hid (HB.out.set (p := ⟨w.heap.size + 1 + 1, 0, none⟩) (.bool Es) (by simp <;> omega))
 replace HO0 := Lib.hid (HO0.out.set 0 (.bool Es))
 replace R1 := Lib.hid (R1.out.set (x := .bool Es) q0 rfl)
 replace hbw := nB4 hbw (show w.heap.size ≤ (⟨w.heap.size + 1 + 1, 0, none⟩ : Addr).block by simp <;> omega) (.bool Es)
 replace q1 := (nC W2 ⟨w.heap.size + 1 + 1, 0, none⟩ ⟨w.heap.size + 1 + 1, 1, none⟩ (.bool Es) (by simp)).trans q1
 replace q2 := (nC W2 ⟨w.heap.size + 1 + 1, 0, none⟩ ⟨w.heap.size + 1 + 1, 2, none⟩ (.bool Es) (by simp)).trans q2
 replace HB := Lib.hid (HB.out.set (p := ⟨w.heap.size + 1 + 1, 1, none⟩) (.slice EA En Ec) (by simp <;> omega))
 replace HO0 := Lib.hid (HO0.out.set 1 (.slice EA En Ec))
 replace R1 := Lib.hid (R1.out.set (x := .slice EA En Ec) q1 rfl)
 replace hbw := nB4 hbw (show w.heap.size ≤ (⟨w.heap.size + 1 + 1, 1, none⟩ : Addr).block by simp <;> omega) (.slice EA En Ec)
 replace q2 := (nC (W2.setCell ⟨w.heap.size + 1 + 1, 0, none⟩ (.bool Es)) ⟨w.heap.size + 1 + 1, 1, none⟩ ⟨w.heap.size + 1 + 1, 2, none⟩ (.slice EA En Ec) (by simp)).trans q2
 replace HB := Lib.hid (HB.out.set (p := ⟨w.heap.size + 1 + 1, 2, none⟩) (.slice EB Em Ed) (by simp <;> omega))
 replace HO0 := Lib.hid (HO0.out.set 2 (.slice EB Em Ed))
 replace R1 := Lib.hid (R1.out.set (x := .slice EB Em Ed) q2 rfl)
 replace hbw := nB4 hbw (show w.heap.size ≤ (⟨w.heap.size + 1 + 1, 2, none⟩ : Addr).block by simp <;> omega) (.slice EB Em Ed)
 clear q0 f0 q1 f1 q2 f2
 replace HO0 : Hid (Own _ _ _ [.bool Es, .slice EA En Ec, .slice EB Em Ed]) := HO0
 generalize (((W2.setCell ⟨w.heap.size + 1 + 1, 0, none⟩ (.bool Es)).setCell ⟨w.heap.size + 1 + 1, 1, none⟩ (.slice EA En Ec)).setCell ⟨w.heap.size + 1 + 1, 2, none⟩ (.slice EB Em Ed)) = W3 at HB HO0 R1 hbw ⊢
 have kk0 := HO0.out.cell 0 _ rfl
 have kk1 := HO0.out.cell 1 _ rfl
 have kk2 := HO0.out.cell 2 _ rfl
 refine bodyPost_ret (v := .tuple #[.agg #[.bool Es, .slice EA En Ec, .slice EB Em Ed], .int .i64 0]) (by simp [results, Tryz.results39, go_sem, kk0, kk1, kk2]) rfl ⟨_, rfl, hbw, ?_⟩
 exact ⟨_, _, _, _, _, _, _, rfl, R1.out⟩
end Go.Proofs.YtadpjidakippeaaGreat
