/- frac.quick, short. -/
import Derived.Test.YtlaocmhcilhlbaaY12
set_option linter.unusedVariables false
set_option linter.unusedSimpArgs false
namespace Go.Proofs.Ytlaocmhcilhlbaa
open Go.RowKit
def QShort (r : Value) (q : Rat) : Prop := ∃ (n d : Int) (ok : Bool), r = .tuple #[.int .i64 n, .int .i64 d, .bool ok] ∧ (ok = true → n = q.num ∧ d = q.den ∧ -2147483648 < n ∧ n < 2147483648 ∧ 0 < d ∧ d < 2147483648)
set_option maxRecDepth 100000 in
set_option maxHeartbeats 1000000 in
/-- frac.short -/
theorem short_q (w : World) (v : Value) (q : Rat) (h : rQ w v q) : Calls Try.prog 31 #[v] w (Post w fun r _ => QShort r q) := by
  obtain ⟨s, A, c, n, B, k, m, rfl, h⟩ := h.shape
  have H1 := Lib.hid h
  obtain ⟨z, ez⟩ : ∃ z, (if I64 q.num then q.num else 0) = z := ⟨_, rfl⟩
  obtain ⟨o1, eo1⟩ : ∃ o, decide (I64 q.num) = o := ⟨_, rfl⟩
  obtain ⟨u, eu⟩ : ∃ u : Nat, (if (if q.den = 1 then 0 else q.den) < B64 then (if q.den = 1 then 0 else q.den) else 0) = u := ⟨_, rfl⟩
  obtain ⟨o2, eo2⟩ : ∃ o, decide ((if q.den = 1 then 0 else q.den) < B64) = o := ⟨_, rfl⟩
  have HS1 := Lib.hid (fun W h => ismall_c W (.agg #[.bool s, .slice A n c]) q.num h)
  have HS2 := Lib.hid (fun W h => small_c W (.agg #[.slice B m k]) (if q.den = 1 then 0 else q.den) h)
  unfold ISmallSaid at HS1
  unfold SmallSaid at HS2
  rw [ez, eo1] at HS1
  rw [eu, eo2] at HS2
  have hkey : o1 = true → o2 = true → -2147483648 < z → z < 2147483648 → u < 2147483648 → z = q.num ∧ ((max u 1 : Nat) : Int) = q.den := by
    intro h1 h2 h3 h4 h5
    subst h1
    subst h2
    rw [if_pos (of_decide_eq_true eo1)] at ez
    rw [if_pos (of_decide_eq_true eo2)] at eu
    refine ⟨ez.symm, ?_⟩
    have := q.den_pos
    split at eu <;> omega
  have HK := Lib.hid hkey
  have hub : u < B64 := by
    rw [← eu]
    by_cases hx : (if q.den = 1 then 0 else q.den) < B64
    · rw [if_pos hx]; exact hx
    · rw [if_neg hx]; exact B64_pos
  clear h ez eo1 eu eo2 hkey
  have HB : Hid (Cells [(w.heap.size, 0, .bool s), (w.heap.size, 1, .slice A n c), (w.heap.size, 2, .slice B m k)] (w.alloc (.cells #[.bool s, .slice A n c, .slice B m k] 34))) := Lib.hid (Cells.cons (by go_simp) (Cells.cons (by go_simp) (Cells.cons (by go_simp) (Cells.nil _))))
  have hbw : Below w.heap.size w (w.alloc (.cells #[.bool s, .slice A n c, .slice B m k] 34)) := (by repeat (first | assumption | exact Below.refl _ _ | refine Below.drew ?_ | refine pw_below_drewN ?_ _ | refine Below.alloc ?_ (by first | omega | (simp <;> omega)) _ | refine Below.setCell ?_ (by first | omega | (simp <;> omega)) _ | refine Below.trans ?_ (Below.mono (by assumption) (by first | omega | (simp <;> omega)))))
  go_enter Try.func31, Try.ntmps31
  go_wp2_with fail
  generalize (w.alloc (.cells #[.bool s, .slice A n c, .slice B m k] 34)) = W0 at HB hbw ⊢
  obtain ⟨y0, y1, y2, _⟩ := id HB.out
  go_wp2_with fail
  clear y0 y1 y2
  refine (HS1.out _ (H1.out.ext hbw).num).mono ?_
  rintro e W1 ⟨v1, rfl, hb1, rfl⟩
  replace HB := Lib.hid (HB.out.ext hb1)
  replace hbw := Below.trans hbw (Below.mono hb1 hbw.size)
  clear hb1
  obtain ⟨y0, y1, y2, _⟩ := id HB.out
  go_wp2_with fail
  clear y0 y1 y2
  refine (HS2.out _ (H1.out.ext hbw).rest).mono ?_
  rintro e W2 ⟨v1, rfl, hb1, rfl⟩
  replace HB := Lib.hid (HB.out.ext hb1)
  replace hbw := Below.trans hbw (Below.mono hb1 hbw.size)
  clear hb1
  have hub2 : (u : Int) < 18446744073709551616 := by unfold B64 at hub; omega
  obtain ⟨dd, ed⟩ : ∃ dd, IntKind.i64.wrap (max (u : Int) 1) = dd := ⟨_, rfl⟩
  have hdd : u < 2147483648 → dd = ((max u 1 : Nat) : Int) := by
    intro h
    rw [← ed]
    have : max (u : Int) 1 = ((max u 1 : Nat) : Int) := by omega
    rw [this]
    exact i64w (by omega) (by omega)
  have HD := Lib.hid hdd
  clear hdd
  cases o1
  · go_wp2_with fail
    refine bodyPost_ret (v := .tuple #[.int .i64 z, .int .i64 dd, .bool false]) (by simp [results, Try.results31, go_sem]) rfl ⟨_, rfl, hbw, _, _, _, rfl, fun h => by cases h⟩
  · cases o2
    · go_wp2_with fail
      refine bodyPost_ret (v := .tuple #[.int .i64 z, .int .i64 dd, .bool false]) (by simp [results, Try.results31, go_sem]) rfl ⟨_, rfl, hbw, _, _, _, rfl, fun h => by cases h⟩
    · by_cases h1 : -2147483648 < z
      · by_cases h2 : z < 2147483648
        · go_wp2_with fail
          refine bodyPost_ret (v := .tuple #[.int .i64 z, .int .i64 dd, .bool (decide ((u : Int) < 2147483648))]) (by simp [results, Try.results31, go_sem]) rfl ⟨_, rfl, hbw, _, _, _, rfl, fun h => ?_⟩
          have h5 : u < 2147483648 := by have := of_decide_eq_true h; omega
          obtain ⟨e1, e2⟩ := HK.out (by simp) (by simp) h1 h2 h5
          have e3 := HD.out h5
          exact ⟨e1, by rw [e3, e2], h1, h2, by omega, by omega⟩
        · have e2 : decide (z < 2147483648) = false := decide_eq_false h2
          clear h2 HK
          go_wp2_with fail
          refine bodyPost_ret (v := .tuple #[.int .i64 z, .int .i64 dd, .bool false]) (by simp [results, Try.results31, go_sem]) rfl ⟨_, rfl, hbw, _, _, _, rfl, fun h => by cases h⟩
      · have e2 : decide (-2147483648 < z) = false := decide_eq_false h1
        clear h1 HK
        go_wp2_with fail
        refine bodyPost_ret (v := .tuple #[.int .i64 z, .int .i64 dd, .bool false]) (by simp [results, Try.results31, go_sem]) rfl ⟨_, rfl, hbw, _, _, _, rfl, fun h => by cases h⟩
set_option maxRecDepth 100000 in
set_option maxHeartbeats 1000000 in
/-- frac.quick -/
theorem quick_c (w : World) (n : Int) (d : Nat) (hn : -9223372036854775808 < n ∧ n < 9223372036854775808) (hd : 0 < d ∧ d < 9223372036854775808) :
    Calls Try.prog 32 #[.int .i64 n, .int .i64 (d : Nat)] w (Post w fun r w' => rQ w' r (mkRat n d)) := by
  obtain ⟨g, eg⟩ : ∃ g, Nat.gcd n.natAbs d = g := ⟨_, rfl⟩
  have hw1 : IntKind.i64.wrap (-n) = -n := i64w (by omega) (by omega)
  have hmx : max n (-n) = (n.natAbs : Int) := by omega
  have HB : Hid (Cells [] (w.alloc (.cells #[.bool false, .slice none 0 0, .slice none 0 0] 34))) := Lib.hid (Cells.nil _)
  have HO0 := Lib.hid (Own.new' w 34 [.bool false, .slice none 0 0, .slice none 0 0] (w.heap.size) (by simp))
  have hbw : Below w.heap.size w (w.alloc (.cells #[.bool false, .slice none 0 0, .slice none 0 0] 34)) := (by repeat (first | assumption | exact Below.refl _ _ | refine Below.drew ?_ | refine pw_below_drewN ?_ _ | refine Below.alloc ?_ (by first | omega | (simp <;> omega)) _ | refine Below.setCell ?_ (by first | omega | (simp <;> omega)) _ | refine Below.trans ?_ (Below.mono (by assumption) (by first | omega | (simp <;> omega)))))
  go_enter Try.func32, Try.ntmps32
  go_upto_block 0 with (fail)
  generalize (w.alloc (.cells #[.bool false, .slice none 0 0, .slice none 0 0] 34)) = W0 at HB HO0 hbw ⊢
  have HG := Lib.hid eg
  have HN := Lib.hid hn
  have HD := Lib.hid hd
  clear eg hn hd
  go_cut [5, 6] (fun ta tb W => ∃ g' : Nat, ta = .int .i64 (g' : Nat) ∧ g' = g ∧ Below w.heap.size w W ∧ Own W w.heap.size 34 [.bool false, .slice none 0 0, .slice none 0 0])
  case first =>
    go_wp2_with fail
    go_loopw [5, 6] (fun ta tb W => ∃ p q : Nat, p < 9223372036854775808 ∧ q < 9223372036854775808 ∧ ta = .int .i64 (p : Nat) ∧ tb = .int .i64 (q : Nat) ∧ Nat.gcd p q = g ∧ Below w.heap.size w W ∧ Own W w.heap.size 34 [.bool false, .slice none 0 0, .slice none 0 0]) (fun _ tb _ => (intOf tb).toNat)
    case atStart =>
      have := HN.out
      exact ⟨n.natAbs, d, by omega, HD.out.2, rfl, rfl, HG.out, hbw, HO0.out⟩
    case round =>
      obtain ⟨p, q, hp, hq, rfl, rfl, hg, hbe, ho⟩ := hrel
      have HG' := Lib.hid hg
      have HP := Lib.hid hp
      have HQ := Lib.hid hq
      clear hg hp hq
      rcases Nat.eq_zero_or_pos q with rfl | hq0
      · go_wp2
        go_meet
        exact ⟨p, rfl, by rw [← HG'.out, Nat.gcd_zero_right], hbe, ho⟩
      · have hne : ((q : Int) == 0) = false := by rw [beq_eq_false_iff_ne]; omega
        have hne2 : (q : Int) ≠ 0 := by omega
        have hne3 : ¬ (q : Int) = 0 := by omega
        have htm : Int.tmod (p : Int) (q : Int) = ((p % q : Nat) : Int) := by rw [Int.tmod_eq_emod_of_nonneg (by omega)]; rfl
        obtain ⟨r, er⟩ : ∃ r, p % q = r := ⟨_, rfl⟩
        have hrq : r < q := by rw [← er]; exact Nat.mod_lt _ hq0
        rw [er] at htm
        have ER := Lib.hid er
        have HQ0 := Lib.hid hq0
        clear er hq0
        have hrw : IntKind.i64.wrap (r : Int) = (r : Int) := i64w (by omega) (by have := HQ.out; omega)
        go_wp2_with fail
        go_quiet (fail)
        go_wp2
        go_roundw
        case rel => exact ⟨q, r, HQ.out, Nat.lt_trans hrq HQ.out, rfl, rfl, by rw [← HG'.out, ← ER.out]; exact (words_step (by have := HQ0.out; omega)).symm, pw_below_drewN hbe _, ho.drewN _⟩
        case measure => simp [intOf]; omega
  case rest =>
    obtain ⟨g', rfl, rfl, hbe, ho⟩ := hcut
    have hg0 : 0 < g' := by rw [← HG.out]; exact Nat.gcd_pos_of_pos_right _ HD.out.1
    have hgd : g' ∣ d := by rw [← HG.out]; exact Nat.gcd_dvd_right _ _
    have hgn : (g' : Int) ∣ n := by rw [← HG.out]; exact Int.ofNat_dvd_left.2 (Nat.gcd_dvd_left _ _)
    obtain ⟨a, ea⟩ := hgn
    obtain ⟨b, eb⟩ := hgd
    have hq1 : Int.tdiv n (g' : Int) = a := by rw [ea, Int.mul_tdiv_cancel_left _ (by omega)]
    have hq2 : Int.tdiv (d : Int) (g' : Int) = (b : Int) := by rw [eb, Int.natCast_mul, Int.mul_tdiv_cancel_left _ (by omega)]
    have hparts := mkRat_parts n d (by have := HD.out.1; omega)
    rw [HG.out] at hparts
    have ha : a.natAbs ≤ n.natAbs := by rw [ea, Int.natAbs_mul]; exact Nat.le_mul_of_pos_left _ (by omega)
    have hb : b ≤ d := by rw [eb]; exact Nat.le_mul_of_pos_left _ hg0
    have hb0 : 0 < b := by have := HD.out.1; rcases Nat.eq_zero_or_pos b with rfl | h <;> simp_all
    have hp1 : (mkRat n d).num = a := by rw [hparts.1, ea, Int.mul_ediv_cancel_left _ (by omega)]
    have hp2 : (mkRat n d).den = b := by rw [hparts.2, eb, Nat.mul_div_cancel_left _ hg0]
    have hw1 : IntKind.i64.wrap a = a := i64w (by have := HN.out; omega) (by have := HN.out; omega)
    have hw2 : IntKind.i64.wrap (b : Int) = (b : Int) := i64w (by omega) (by have := HD.out; omega)
    have hw3 : IntKind.u64.wrap (b : Int) = (b : Int) := by rw [IntKind.wrap_u64]; have := HD.out; omega
    have hne : ((g' : Int) == 0) = false := by rw [beq_eq_false_iff_ne]; omega
    have hne2 : ¬ (g' : Int) = 0 := by omega
    have hne4 : ¬ g' = 0 := by omega
    have hbB : b < B64 := by have := HD.out; unfold B64; omega
    have HO := Lib.hid (fun W => iof_c W a (by have := HN.out; omega) (by have := HN.out; omega))
    have HF := Lib.hid (fun W => of_c b hbB W)
    have HL := Lib.hid (fun W v u h h' => low_c W v u a b h h' (Nat.le_trans (bl_le_of_lt (k := 64) hbB) (by omega)))
    have HP := Lib.hid (show ∀ W v, rQd W v a b → rQ W v (mkRat n d) from fun W v h => by unfold rQ; rw [hp1, hp2]; exact h)
    clear hparts ha hb hp1 hp2 hbB hb0 ea eb
    have hb := HB
    clear HB HO0
    have HB : Hid (Cells [] wc) := Lib.hid trivial
    have HO0 := Lib.hid ho
    have hbw := hbe
    clear hb hbe ho
    go_wp2_with fail
    replace HB := Lib.hid (HB.out.drew)
    replace HO0 := Lib.hid (HO0.out.drew)
    replace hbw := Below.drew hbw
    refine wp_hoist [(0, true), (1, true), (2, true), (4, true), (5, true), (6, true), (7, true), (3, false), (8, false), (9, false), (10, false)] (Cells []) (by kernel_rfl) (by kernel_rfl) ?_ ?_
    · exact HB.out
    generalize wc.drew = W1 at HB HO0 hbw ⊢
    refine hz_yes (v := ?_) rfl (by kernel_rfl) (fun W hW => ?_) ?_; rotate_left; (go_simp; try with_reducible rfl)
    (try (conv => arg 6; simp only [Act.put, gL1, gL2, gL3, gL4, gL5, gL6]))
    refine hz_yes (v := ?_) rfl (by kernel_rfl) (fun W hW => ?_) ?_; rotate_left; (go_simp; try with_reducible rfl)
    (try (conv => arg 6; simp only [Act.put, gL1, gL2, gL3, gL4, gL5, gL6]))
    refine hz_yes (v := ?_) rfl (by kernel_rfl) (fun W hW => ?_) ?_; rotate_left; (go_simp; try with_reducible rfl)
    (try (conv => arg 6; simp only [Act.put, gL1, gL2, gL3, gL4, gL5, gL6]))
    refine hz_yes (v := ?_) rfl (by kernel_rfl) (fun W hW => ?_) ?_; rotate_left; (go_simp; try with_reducible rfl)
    (try (conv => arg 6; simp only [Act.put, gL1, gL2, gL3, gL4, gL5, gL6]))
    refine hz_yes (v := ?_) rfl (by kernel_rfl) (fun W hW => ?_) ?_; rotate_left; (go_simp; try with_reducible rfl)
    (try (conv => arg 6; simp only [Act.put, gL1, gL2, gL3, gL4, gL5, gL6]))
    refine hz_yes (v := ?_) rfl (by kernel_rfl) (fun W hW => ?_) ?_; rotate_left; (go_simp; try with_reducible rfl)
    (try (conv => arg 6; simp only [Act.put, gL1, gL2, gL3, gL4, gL5, gL6]))
    refine hz_yes (v := ?_) rfl (by kernel_rfl) (fun W hW => ?_) ?_; rotate_left; (go_simp; try with_reducible rfl)
    (try (conv => arg 6; simp only [Act.put, gL1, gL2, gL3, gL4, gL5, gL6]))
    refine hz_eff rfl (by kernel_rfl) (fun K hK => ?_)
    refine wp_call (HO.out _) (by kernel_rfl) ?_
    rintro v1 W2 hb1 hr1
    obtain ⟨Es, EA, Ec, En, rfl, hr1⟩ := hr1.shape
    refine hK.out _ _ ?_ ?_
    · exact HB.out.ext hb1
    clear hK K
    (try (conv => arg 6; simp only [Act.put, gL1, gL2, gL3, gL4, gL5, gL6]))
    replace HB := Lib.hid (HB.out.ext hb1)
    replace HO0 := Lib.hid (HO0.out.ext hb1)
    replace hbw := Below.trans hbw (Below.mono hb1 hbw.size)
    have R1 := Lib.hid hr1
    clear hr1
    clear hb1
    refine hz_eff rfl (by kernel_rfl) (fun K hK => ?_)
    refine wp_call (HF.out _) (by kernel_rfl) ?_
    rintro v1 W3 hb1 hr1
    obtain ⟨FA, Fc, Fn, rfl, hr1⟩ := hr1.shape
    refine hK.out _ _ ?_ ?_
    · exact HB.out.ext hb1
    clear hK K
    (try (conv => arg 6; simp only [Act.put, gL1, gL2, gL3, gL4, gL5, gL6]))
    replace HB := Lib.hid (HB.out.ext hb1)
    replace HO0 := Lib.hid (HO0.out.ext hb1)
    replace R1 := Lib.hid (R1.out.ext hb1)
    replace hbw := Below.trans hbw (Below.mono hb1 hbw.size)
    have R2 := Lib.hid hr1
    clear hr1
    clear hb1
    refine hz_eff rfl (by kernel_rfl) (fun K hK => ?_)
    refine wp_call (HL.out _ _ _ R1.out R2.out) (by kernel_rfl) ?_
    rintro v1 W4 hb1 hr1
    obtain ⟨Zs, ZA, Zc, Zn, ZB, Zd, Zm, rfl, hr1⟩ := hr1.shape
    refine hK.out _ _ ?_ ?_
    · exact HB.out.ext hb1
    clear hK K
    (try (conv => arg 6; simp only [Act.put, gL1, gL2, gL3, gL4, gL5, gL6]))
    replace HB := Lib.hid (HB.out.ext hb1)
    replace HO0 := Lib.hid (HO0.out.ext hb1)
    replace R1 := Lib.hid (R1.out.ext hb1)
    replace R2 := Lib.hid (R2.out.ext hb1)
    replace hbw := Below.trans hbw (Below.mono hb1 hbw.size)
    have R3 := Lib.hid hr1
    clear hr1
    clear hb1
    have q0 := HO0.out.cell 0 _ rfl
    have f0 := HO0.out.frozen 0
    have q1 := HO0.out.cell 1 _ rfl
    have f1 := HO0.out.frozen 1
    have q2 := HO0.out.cell 2 _ rfl
    have f2 := HO0.out.frozen 2
    refine hz_eff rfl (by kernel_rfl) (fun K hK => ?_)
    go_simp
    refine hK.out _ _ ?_ ?_
    · exact (((HB.out.set (p := ⟨w.heap.size, 0, none⟩) _ (by simp <;> omega)).set (p := ⟨w.heap.size, 1, none⟩) _ (by simp <;> omega)).set (p := ⟨w.heap.size, 2, none⟩) _ (by simp <;> omega))
    clear hK K
    (try (conv => arg 6; simp only [Act.put, gL1, gL2, gL3, gL4, gL5, gL6]))
    replace HB := Lib.hid (HB.out.set (p := ⟨w.heap.size, 0, none⟩) (.bool Zs) (by simp <;> omega))
    replace HO0 := Lib.hid (HO0.out.set 0 (.bool Zs))
    replace R1 := Lib.hid (R1.out.set (x := .bool Zs) q0 rfl)
    replace R2 := Lib.hid (R2.out.set (x := .bool Zs) q0 rfl)
    replace R3 := Lib.hid (R3.out.set (x := .bool Zs) q0 rfl)
    replace hbw := Below.setCell hbw (show w.heap.size ≤ (⟨w.heap.size, 0, none⟩ : Addr).block by simp <;> omega) (.bool Zs)
    replace q1 := (World.cell?_setCell_other W4 ⟨w.heap.size, 0, none⟩ ⟨w.heap.size, 1, none⟩ (.bool Zs) (by simp)).trans q1
    replace q2 := (World.cell?_setCell_other W4 ⟨w.heap.size, 0, none⟩ ⟨w.heap.size, 2, none⟩ (.bool Zs) (by simp)).trans q2
    replace HB := Lib.hid (HB.out.set (p := ⟨w.heap.size, 1, none⟩) (.slice ZA Zn Zc) (by simp <;> omega))
    replace HO0 := Lib.hid (HO0.out.set 1 (.slice ZA Zn Zc))
    replace R1 := Lib.hid (R1.out.set (x := .slice ZA Zn Zc) q1 rfl)
    replace R2 := Lib.hid (R2.out.set (x := .slice ZA Zn Zc) q1 rfl)
    replace R3 := Lib.hid (R3.out.set (x := .slice ZA Zn Zc) q1 rfl)
    replace hbw := Below.setCell hbw (show w.heap.size ≤ (⟨w.heap.size, 1, none⟩ : Addr).block by simp <;> omega) (.slice ZA Zn Zc)
    replace q2 := (World.cell?_setCell_other (W4.setCell ⟨w.heap.size, 0, none⟩ (.bool Zs)) ⟨w.heap.size, 1, none⟩ ⟨w.heap.size, 2, none⟩ (.slice ZA Zn Zc) (by simp)).trans q2
    replace HB := Lib.hid (HB.out.set (p := ⟨w.heap.size, 2, none⟩) (.slice ZB Zm Zd) (by simp <;> omega))
    replace HO0 := Lib.hid (HO0.out.set 2 (.slice ZB Zm Zd))
    replace R1 := Lib.hid (R1.out.set (x := .slice ZB Zm Zd) q2 rfl)
    replace R2 := Lib.hid (R2.out.set (x := .slice ZB Zm Zd) q2 rfl)
    replace R3 := Lib.hid (R3.out.set (x := .slice ZB Zm Zd) q2 rfl)
    replace hbw := Below.setCell hbw (show w.heap.size ≤ (⟨w.heap.size, 2, none⟩ : Addr).block by simp <;> omega) (.slice ZB Zm Zd)
    clear q0 f0 q1 f1 q2 f2
    replace HO0 : Hid (Own _ _ _ [.bool Zs, .slice ZA Zn Zc, .slice ZB Zm Zd]) := HO0
    generalize (((W4.setCell ⟨w.heap.size, 0, none⟩ (.bool Zs)).setCell ⟨w.heap.size, 1, none⟩ (.slice ZA Zn Zc)).setCell ⟨w.heap.size, 2, none⟩ (.slice ZB Zm Zd)) = W5 at HB HO0 R1 R2 R3 hbw ⊢
    refine hz_nil ?_
    go_wp2_with fail
    have kk0 := HO0.out.cell 0 _ rfl
    have kk1 := HO0.out.cell 1 _ rfl
    have kk2 := HO0.out.cell 2 _ rfl
    refine bodyPost_ret (v := .agg #[.bool Zs, .slice ZA Zn Zc, .slice ZB Zm Zd]) (by simp [results, Try.results32, go_sem, kk0, kk1, kk2]) rfl ⟨_, rfl, hbw, ?_⟩
    exact HP.out _ _ R3.out
end Go.Proofs.Ytlaocmhcilhlbaa

/- Small laws for frac.Add and frac.Mul. -/
namespace Go.Proofs.Ytlaocmhcilhlbaa
open Go.RowKit
theorem den_bits {q : Rat} {e : Nat} (h : bl (if q.den = 1 then 0 else q.den) = e) : e = 0 ↔ q.den = 1 := by
  have := q.den_pos
  rw [← h]
  have h := @bl_pos (if q.den = 1 then 0 else q.den)
  split at h <;> simp_all <;> omega
theorem fit_rest {q : Rat} (h : Fit q.den) : Fit (if q.den = 1 then 0 else q.den) := by
  split
  · unfold Fit; rw [bl_zero]; omega
  · exact h
theorem mul31 {a b : Int} (h1 : -2147483648 < a) (h2 : a < 2147483648) (h3 : -2147483648 < b) (h4 : b < 2147483648) : -4611686018427387904 < a * b ∧ a * b < 4611686018427387904 := by
  have h : (a * b).natAbs ≤ 2147483647 * 2147483647 := by
    rw [Int.natAbs_mul]
    exact Nat.mul_le_mul (by omega) (by omega)
  omega
end Go.Proofs.Ytlaocmhcilhlbaa
