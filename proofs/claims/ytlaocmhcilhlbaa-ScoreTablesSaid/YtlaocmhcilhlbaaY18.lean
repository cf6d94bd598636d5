/- The document's numbers, of one limb: NatCmp, one. -/
import Derived.Test.YtlaocmhcilhlbaaY17
import Derived.Test.YtlaocmhcilhlbaaY13
import Derived.Test.YtlaocmhcilhlbaaY06
set_option linter.unusedVariables false
set_option linter.unusedSimpArgs false
namespace Go.Proofs.Ytlaocmhcilhlbaa
open Go.RowKit
theorem rR.nil {w : World} {A : Option Addr} {m c : Nat} (h : rR w (.slice A m c) 0) : m = 0 := h.len0.2 rfl
set_option maxRecDepth 100000 in
set_option maxHeartbeats 1000000 in
/-- NatCmp, of one limb -/
theorem rcmp_c (w : World) (va vb : Value) (a b : Nat) (ha : rR w va a) (hb : rR w vb b) (fa : a < B32) (fb : b < B32) : Calls Try.prog 80 #[va, vb] w (Post w fun r _ => r = .int .i64 (cmpI a b)) := by
 obtain ⟨A, c, m, rfl, ha⟩ := ha.shape
 obtain ⟨B, d, n, rfl, hb⟩ := hb.shape
 rcases Nat.eq_zero_or_pos a with rfl | a0
 ·
  obtain rfl := ha.nil
  rcases Nat.eq_zero_or_pos b with rfl | b0
  ·
   obtain rfl := hb.nil
   clear ha hb fa fb
   have HB : Hid (Cells [] w) := Lib.hid (Cells.nil _)
   have hbw : Below w.heap.size w w := Below.refl _ _
   go_enter Try.func80, Try.ntmps80
   go_upto_block 0 with (fail)
   go_wp2_with fail
   go_loopw [5] (fun t W => t = .int .i64 (-1) ∧ Below w.heap.size w W) (fun t _ => 0)
   case atStart => exact ⟨rfl, hbw⟩
   case round =>
    obtain ⟨rfl, hbe⟩ := hrel
    go_wp2_with fail
    go_ret
    exact ⟨_, rfl, hbe, rfl⟩
  ·
   obtain ⟨rfl, _⟩ := hb.one fb b0
   have hc : cmpI 0 b = -1 := cmpI_lt b0
   rw [hc]
   clear ha hb fa fb hc
   have HB : Hid (Cells [] w) := Lib.hid (Cells.nil _)
   have hbw : Below w.heap.size w w := Below.refl _ _
   go_enter Try.func80, Try.ntmps80
   go_wp2_with fail
   go_ret
   exact ⟨_, rfl, hbw, rfl⟩
 ·
  obtain ⟨rfl, ha2, g, o, rfl, hca⟩ := ha.one fa a0
  rcases Nat.eq_zero_or_pos b with rfl | b0
  ·
   obtain rfl := hb.nil
   have hc : cmpI a 0 = 1 := cmpI_gt a0
   rw [hc]
   clear ha hb fa fb hc hca
   have HB : Hid (Cells [] w) := Lib.hid (Cells.nil _)
   have hbw : Below w.heap.size w w := Below.refl _ _
   go_enter Try.func80, Try.ntmps80
   go_wp2_with fail
   go_ret
   exact ⟨_, rfl, hbw, rfl⟩
  ·
   obtain ⟨rfl, hb2, g', o', rfl, hcb⟩ := hb.one fb b0
   have HA := Lib.hid hca
   have HC := Lib.hid hcb
   clear ha hb fa fb hca hcb a0 b0
   have HB : Hid (Cells [] w) := Lib.hid (Cells.nil _)
   have hbw : Below w.heap.size w w := Below.refl _ _
   go_enter Try.func80, Try.ntmps80
   go_upto_block 0 with (fail)
   go_wp2_with fail
   go_loopw [5] (fun t W => ((t = .int .i64 0) ∨ (t = .int .i64 (-1) ∧ a = b)) ∧ Below w.heap.size w W) (fun t _ => (intOf t + 1).toNat)
   case atStart => exact ⟨.inl rfl, hbw⟩
   case round =>
    obtain ⟨h, hbe⟩ := hrel
    clear hbw HB
    have hbw := hbe
    clear hbe
    rcases h with rfl | ⟨rfl, rfl⟩
    ·
     have xa := ext_cell hbw HA.out
     have xb := ext_cell hbw HC.out
     go_wp2_with fail
     have HB : Hid (Cells [(g, o, .int .u32 (a : Nat)), (g', o', .int .u32 (b : Nat))] wr) := Lib.hid (Cells.cons (xa) (Cells.cons (xb) (Cells.nil _)))
     clear xa xb
     replace HB := Lib.hid (HB.out.drew)
     replace hbw := Below.drew hbw
     refine wp_hoist [(0, true), (1, true), (2, true), (3, true), (4, true), (5, true), (6, true), (7, true), (8, true)] (Cells [(g, o, .int .u32 (a : Nat)), (g', o', .int .u32 (b : Nat))]) (by kernel_rfl) (by kernel_rfl) ?_ ?_
     · exact HB.out
     generalize wr.drew = W21 at HB hbw ⊢
     refine hz_yes (v := ?_) rfl (by kernel_rfl) (fun W hW => ?_) ?_; rotate_left; (go_simp; try with_reducible rfl)
     (try (conv => arg 6; simp only [Act.put, gL]))
     refine hz_yes (v := ?_) rfl (by kernel_rfl) (fun W hW => ?_) ?_; rotate_left; (go_simp; try with_reducible rfl)
     (try (conv => arg 6; simp only [Act.put, gL]))
     refine hz_yes (v := ?_) rfl (by kernel_rfl) (fun W hW => ?_) ?_; rotate_left; (go_simp; try with_reducible rfl)
     (try (conv => arg 6; simp only [Act.put, gL]))
     refine hz_yes (v := ?_) rfl (by kernel_rfl) (fun W hW => ?_) ?_; rotate_left; (obtain ⟨y0, y1, _⟩ := hW; go_simp; try with_reducible rfl)
     (try (conv => arg 6; simp only [Act.put, gL]))
     refine hz_yes (v := ?_) rfl (by kernel_rfl) (fun W hW => ?_) ?_; rotate_left; (go_simp; try with_reducible rfl)
     (try (conv => arg 6; simp only [Act.put, gL]))
     refine hz_yes (v := ?_) rfl (by kernel_rfl) (fun W hW => ?_) ?_; rotate_left; (go_simp; try with_reducible rfl)
     (try (conv => arg 6; simp only [Act.put, gL]))
     refine hz_yes (v := ?_) rfl (by kernel_rfl) (fun W hW => ?_) ?_; rotate_left; (go_simp; try with_reducible rfl)
     (try (conv => arg 6; simp only [Act.put, gL]))
     refine hz_yes (v := ?_) rfl (by kernel_rfl) (fun W hW => ?_) ?_; rotate_left; (obtain ⟨y0, y1, _⟩ := hW; go_simp; try with_reducible rfl)
     (try (conv => arg 6; simp only [Act.put, gL]))
     refine hz_yes (v := ?_) rfl (by kernel_rfl) (fun W hW => ?_) ?_; rotate_left; (go_simp; try with_reducible rfl)
     (try (conv => arg 6; simp only [Act.put, gL]))
     refine hz_nil ?_
     by_cases hab : a = b
     ·
      have hne : ((a : Int) != (b : Int)) = false := by rw [hab]; simp
      have HAB := Lib.hid hab
      clear hab
      go_wp2_with fail
      go_roundw
      case rel => exact ⟨.inr ⟨rfl, HAB.out⟩, hbw⟩
      case measure => simp [intOf]
     ·
      have hne : ((a : Int) != (b : Int)) = true := by rw [bne_iff_ne]; omega
      have HAB := Lib.hid hab
      go_wp2_with fail
      replace HB := Lib.hid (HB.out.drew)
      replace hbw := Below.drew hbw
      refine wp_hoist [(0, true), (1, true), (2, true), (3, true), (4, true), (5, true), (6, true), (7, true), (8, true)] (Cells [(g, o, .int .u32 (a : Nat)), (g', o', .int .u32 (b : Nat))]) (by kernel_rfl) (by kernel_rfl) ?_ ?_
      · exact HB.out
      generalize W21.drew = W22 at HB hbw ⊢
      refine hz_yes (v := ?_) rfl (by kernel_rfl) (fun W hW => ?_) ?_; rotate_left; (go_simp; try with_reducible rfl)
      (try (conv => arg 6; simp only [Act.put, gL]))
      refine hz_yes (v := ?_) rfl (by kernel_rfl) (fun W hW => ?_) ?_; rotate_left; (go_simp; try with_reducible rfl)
      (try (conv => arg 6; simp only [Act.put, gL]))
      refine hz_yes (v := ?_) rfl (by kernel_rfl) (fun W hW => ?_) ?_; rotate_left; (go_simp; try with_reducible rfl)
      (try (conv => arg 6; simp only [Act.put, gL]))
      refine hz_yes (v := ?_) rfl (by kernel_rfl) (fun W hW => ?_) ?_; rotate_left; (obtain ⟨y0, y1, _⟩ := hW; go_simp; try with_reducible rfl)
      (try (conv => arg 6; simp only [Act.put, gL]))
      refine hz_yes (v := ?_) rfl (by kernel_rfl) (fun W hW => ?_) ?_; rotate_left; (go_simp; try with_reducible rfl)
      (try (conv => arg 6; simp only [Act.put, gL]))
      refine hz_yes (v := ?_) rfl (by kernel_rfl) (fun W hW => ?_) ?_; rotate_left; (go_simp; try with_reducible rfl)
      (try (conv => arg 6; simp only [Act.put, gL]))
      refine hz_yes (v := ?_) rfl (by kernel_rfl) (fun W hW => ?_) ?_; rotate_left; (go_simp; try with_reducible rfl)
      (try (conv => arg 6; simp only [Act.put, gL]))
      refine hz_yes (v := ?_) rfl (by kernel_rfl) (fun W hW => ?_) ?_; rotate_left; (obtain ⟨y0, y1, _⟩ := hW; go_simp; try with_reducible rfl)
      (try (conv => arg 6; simp only [Act.put, gL]))
      refine hz_yes (v := ?_) rfl (by kernel_rfl) (fun W hW => ?_) ?_; rotate_left; (go_simp; try with_reducible rfl)
      (try (conv => arg 6; simp only [Act.put, gL]))
      refine hz_nil ?_
      rcases Nat.lt_or_ge a b with h1 | h1
      ·
       have HE := Lib.hid (cmpI_lt h1)
       have hlt : (a : Int) < (b : Int) := by omega
       clear hab h1
       go_wp2_with fail
       go_ret
       exact ⟨_, rfl, hbw, by rw [HE.out]; rfl⟩
      ·
       have HE := Lib.hid (cmpI_gt (show b < a by omega))
       have hlt : ¬ (a : Int) < (b : Int) := by omega
       clear hab h1
       go_wp2_with fail
       go_ret
       exact ⟨_, rfl, hbw, by rw [HE.out]; rfl⟩
    ·
     have HE := Lib.hid (cmpI_eq (rfl : a = a))
     go_wp2_with fail
     go_ret
     exact ⟨_, rfl, hbw, by rw [HE.out]; rfl⟩
theorem info32 : (Try.prog.info? 132).map (fun i => (i.zero, i.size, i.bytes)) = some (some (.int .u32 0), 1, 4) := by kernel_rfl
theorem und32 : Try.prog.underlying 61 = some (.slice 132) := by kernel_rfl
theorem mk32 (n : Int) (m : Nat) (e : n = m) (hn : m * 4 ≤ 281474976710656) (W : World) : (Instr.makeSlice 61 (.int .i64 n) (.int .i64 n)).run Try.prog W = .ok (.slice (some ⟨W.heap.size, 0, none⟩) m m) (W.alloc (.cells (zeroW .u32 m) 132)) := by
 rw [e]; exact mk_words _ _ _ 4 und32 info32 (by omega) m hn W
def ROneSaid (w' : World) (v : Value) (a b : Nat) : Prop := ∃ q, v = .tuple #[q, .int .u32 (a % b : Nat)] ∧ rR w' q (a / b)
set_option maxRecDepth 100000 in
set_option maxHeartbeats 1000000 in
/-- one, of one limb -/
theorem rone_c (w : World) (va : Value) (a b : Nat) (ha : rR w va a) (fa : a < B32) (fb : b < B32) (a0 : 0 < a) (b0 : 0 < b) : Calls Try.prog 107 #[va, .int .u32 (b : Nat)] w (Post w fun r w' => ROneSaid w' r a b) := by
 obtain ⟨A, c, m, rfl, ha⟩ := ha.shape
 obtain ⟨rfl, ha2, g, o, rfl, hca⟩ := ha.one fa a0
 have hmk := mk32 1 1 rfl (by omega)
 rw [show zeroW .u32 1 = #[.int .u32 0] from rfl] at hmk
 have hA := cell_lt hca
 have hne : g ≠ w.heap.size := by omega
 obtain ⟨q, eq⟩ : ∃ q, a / b = q := ⟨_, rfl⟩
 obtain ⟨r, er⟩ : ∃ r, a % b = r := ⟨_, rfl⟩
 have hq : q < B32 := by rw [← eq]; exact Nat.lt_of_le_of_lt (Nat.div_le_self _ _) fa
 have hr : r < B32 := by rw [← er]; exact Nat.lt_trans (Nat.mod_lt _ b0) fb
 have e1 : Int.tdiv (a : Int) (b : Int) = (q : Int) := by rw [Int.tdiv_eq_ediv_of_nonneg (by omega), ← eq]; rfl
 have e2 : Int.tmod (a : Int) (b : Int) = (r : Int) := by rw [Int.tmod_eq_emod_of_nonneg (by omega), ← er]; rfl
 have w1 : IntKind.u64.wrap (b : Int) = (b : Int) := by rw [IntKind.wrap_u64]; unfold B32 at fb; omega
 have w2 : IntKind.u64.wrap (a : Int) = (a : Int) := by rw [IntKind.wrap_u64]; unfold B32 at fa; omega
 have w3 : IntKind.u64.wrap (q : Int) = (q : Int) := by rw [IntKind.wrap_u64]; unfold B32 at hq; omega
 have w4 : IntKind.u32.wrap (q : Int) = (q : Int) := by rw [IntKind.wrap_u32]; unfold B32 at hq; omega
 have w5 : IntKind.u32.wrap (r : Int) = (r : Int) := by rw [IntKind.wrap_u32]; unfold B32 at hr; omega
 have w6 : IntKind.u64.wrap (r : Int) = (r : Int) := by rw [IntKind.wrap_u64]; unfold B32 at hr; omega
 have w7 : (q : Int) % 4294967296 = (q : Int) := by unfold B32 at hq; omega
 have w8 : (r : Int) % 4294967296 = (r : Int) := by unfold B32 at hr; omega
 have hor : bits .or .u64 0 (a : Int) = (a : Int) := by
  have := bits_or_u64_nat 0 a (by omega) (by unfold B32 at fa; omega)
  simpa using this
 have hb1 : ((b : Int) == 0) = false := by rw [beq_eq_false_iff_ne]; omega
 have hb2 : ¬ (b : Int) = 0 := by omega
 have hb3 : ¬ b = 0 := by omega
 have HQ := Lib.hid hq
 have HEQ := Lib.hid eq
 have HER := Lib.hid er
 have HA := Lib.hid hca
 clear ha hca fa fb hq hr eq er a0 b0
 go_enter Try.func107, Try.ntmps107
 go_wp2_with fail
 go_loopw [7, 8] (fun t7 t8 W => Below w.heap.size w W ∧ ((t7 = .int .u64 0 ∧ t8 = .int .i64 0 ∧ Own W w.heap.size 132 [.int .u32 0]) ∨ (t7 = .int .u64 (r : Nat) ∧ t8 = .int .i64 (-1) ∧ Own W w.heap.size 132 [.int .u32 (q : Nat)]))) (fun _ t _ => (intOf t + 1).toNat)
 case atStart => exact ⟨(by repeat (first | assumption | exact Below.refl _ _ | refine Below.drew ?_ | refine pw_below_drewN ?_ _ | refine Below.alloc ?_ (by first | omega | (simp <;> omega)) _ | refine Below.setCell ?_ (by first | omega | (simp <;> omega)) _ | refine Below.trans ?_ (Below.mono (by assumption) (by first | omega | (simp <;> omega))))), .inl ⟨rfl, rfl, Own.new w 132 [.int .u32 0]⟩⟩
 case round =>
  obtain ⟨hbw, h⟩ := hrel
  have xa := ext_cell hbw HA.out
  rcases h with ⟨rfl, rfl, ho⟩ | ⟨rfl, rfl, ho⟩
  ·
   have HO := Lib.hid ho
   have q0 := ho.cell 0 _ rfl
   have f0 := ho.frozen 0
   clear ho
   go_wp2_with fail
   go_roundw
   case rel => exact ⟨hbw.setCell (Nat.le_refl _) _, .inr ⟨rfl, rfl, HO.out.set 0 _⟩⟩
   case measure => simp [intOf]
  ·
   have HO := Lib.hid ho
   have hwd : Words .u32 B32 wr (some ⟨w.heap.size, 0, none⟩) 1 [q] := own_words (k := .u32) (l := [q]) (by simpa [wv] using ho) (by intro x hx; simp at hx; rw [hx]; exact HQ.out) 1 (by simp)
   have HT := Lib.hid (rtrim_c wr (some ⟨w.heap.size, 0, none⟩) 1 [q] hwd (by simp))
   clear ho hwd
   go_wp2_with fail
   refine HT.out.mono ?_
   rintro e w1 ⟨v1, rfl, hb1, hr1⟩
   have hbe : Below w.heap.size w w1 := nT hbw hb1
   have HR := Lib.hid (show rR w1 v1 q by simpa [vl] using hr1)
   clear hr1 hb1
   go_wp2_with fail
   go_ret2
   exact ⟨_, rfl, hbe, v1, by rw [HER.out]; rfl, by rw [HEQ.out]; exact HR.out⟩
end Go.Proofs.Ytlaocmhcilhlbaa

/- The document's numbers, of one limb: NatDiv, NatGcd. -/
namespace Go.Proofs.Ytlaocmhcilhlbaa
open Go.RowKit
def RDivSaid (w' : World) (v : Value) (a b : Nat) : Prop := ∃ A c m B d n, v = .tuple #[.slice A m c, .slice B n d] ∧ rR w' (.slice A m c) (a / b) ∧ rR w' (.slice B n d) (a % b)
set_option maxRecDepth 100000 in
set_option maxHeartbeats 1000000 in
/-- NatDiv, of one limb -/
theorem rdiv_c (w : World) (va vb : Value) (a b : Nat) (ha : rR w va a) (hb : rR w vb b) (fa : a < B32) (fb : b < B32) (b0 : 0 < b) : Calls Try.prog 95 #[va, vb] w (Post w fun r w' => RDivSaid w' r a b) := by
 obtain ⟨A, c, m, rfl, ha⟩ := ha.shape
 obtain ⟨B, d, n, rfl, hb⟩ := hb.shape
 obtain ⟨rfl, hb2, g, o, rfl, hcb⟩ := hb.one fb b0
 have HC := Lib.hid (rcmp_c w _ _ a b ha hb fa fb)
 have H1 := Lib.hid ha
 have HX := Lib.hid hcb
 have HO := Lib.hid (fun W (h : rR W (.slice A m c) a) (h0 : 0 < a) => rone_c W _ a b h fa fb h0 b0)
 rcases Nat.lt_or_ge a b with h | h
 ·
  rw [cmpI_lt h] at HC
  have e1 : a / b = 0 := Nat.div_eq_of_lt h
  have e2 : a % b = a := Nat.mod_eq_of_lt h
  have HE := Lib.hid (And.intro e1 e2)
  clear ha hb fa fb b0 hcb h e1 e2
  go_enter Try.func95, Try.ntmps95
  go_wp2_with fail
  refine HC.out.mono ?_
  rintro e w1 ⟨v1, rfl, hb1, rfl⟩
  have hbe : Below w.heap.size w w1 := hb1
  have H2 := Lib.hid (H1.out.ext hb1)
  clear hb1
  go_wp2_with fail
  go_ret2
  exact ⟨_, rfl, hbe, none, 0, 0, A, c, m, rfl, by rw [HE.out.1]; exact rR.zero _, by rw [HE.out.2]; exact H2.out⟩
 ·
  obtain ⟨t, et⟩ : ∃ t, cmpI a b = t := ⟨_, rfl⟩
  have ht : ¬ t < 0 := by rw [← et]; unfold cmpI; rw [if_neg (by omega)]; split <;> omega
  rw [et] at HC
  have ha0 : 0 < a := by omega
  have HA0 := Lib.hid ha0
  have hr : a % b < B32 := Nat.lt_trans (Nat.mod_lt _ b0) fb
  have HR := Lib.hid (fun W => rof_c W (a % b) hr)
  obtain ⟨r, er⟩ : ∃ r, a % b = r := ⟨_, rfl⟩
  have HS := Lib.hid (show ∀ W v, ROneSaid W v a b → ∃ A1 c1 m1, v = .tuple #[.slice A1 m1 c1, .int .u32 (r : Nat)] ∧ rR W (.slice A1 m1 c1) (a / b) from fun W v ⟨q, hv, hq⟩ => by
   obtain ⟨A1, c1, m1, rfl, hq⟩ := hq.shape
   exact ⟨A1, c1, m1, by rw [hv, er], hq⟩)
  have HER := Lib.hid er
  rw [er] at HR hr
  have w1 : IntKind.u64.wrap (r : Int) = (r : Int) := by rw [IntKind.wrap_u64]; unfold B32 at hr; omega
  clear ha hb fa fb b0 hcb h et ha0 hr er
  go_enter Try.func95, Try.ntmps95
  go_wp2_with fail
  refine HC.out.mono ?_
  rintro e w1 ⟨v1, rfl, hb1, rfl⟩
  have hbe : Below w.heap.size w w1 := hb1
  have H2 := Lib.hid (H1.out.ext hb1)
  have xb := ext_cell hb1 HX.out
  clear hb1
  go_wp2_with fail
  refine ((HO.out _ H2.out HA0.out).mono (fun _ _ h => h.map HS.out)).mono ?_
  rintro e w2 ⟨v2, rfl, hb2, A1, c1, m1, rfl, hq⟩
  have hbe2 : Below w.heap.size w w2 := Below.trans hbe (Below.mono hb2 hbe.size)
  have H3 := Lib.hid hq
  clear hb2 hq xb hbe
  go_wp2_with fail
  refine (HR.out _).mono ?_
  rintro e w3 ⟨v3, rfl, hb3, hr3⟩
  have hbe3 : Below w.heap.size w w3 := Below.trans hbe2 (Below.mono hb3 hbe2.size)
  have H4 := Lib.hid (H3.out.ext hb3)
  obtain ⟨A3, c3, m3, rfl, hr3⟩ := hr3.shape
  have H5 := Lib.hid hr3
  clear hb3 hr3 hbe2
  go_wp2_with fail
  go_ret2
  exact ⟨_, rfl, hbe3, A1, c1, m1, A3, c3, m3, rfl, H4.out, by rw [HER.out]; exact H5.out⟩
/-- The one limb of a number. -/
def limb (t : Value) (W : World) : Nat := match t with
 | .slice (some p) (_ + 1) _ => (intOf ((W.cell? p).getD undef)).toNat
 | _ => 0
theorem limb_eq {w : World} {v : Value} {n : Nat} (h : rR w v n) (hn : n < B32) : limb v w = n := by
 obtain ⟨A, c, m, rfl, h⟩ := h.shape
 rcases Nat.eq_zero_or_pos n with rfl | h0
 ·
  obtain rfl := h.nil
  cases A <;> rfl
 ·
  obtain ⟨rfl, _, g, o, rfl, hc⟩ := h.one hn h0
  simp [limb, hc, intOf]
set_option maxRecDepth 100000 in
set_option maxHeartbeats 1000000 in
/-- NatGcd, of one limb -/
theorem rgcd_c (w : World) (va vb : Value) (a b : Nat) (ha : rR w va a) (hb : rR w vb b) (fa : a < B32) (fb : b < B32) : Calls Try.prog 94 #[va, vb] w (Post w fun r w' => rR w' r (Nat.gcd a b)) := by
 have HRD := Lib.hid (fun W v u a b h h' => rdiv_c W v u a b h h')
 obtain ⟨g, eg⟩ : ∃ g, Nat.gcd a b = g := ⟨_, rfl⟩
 rw [eg]
 have HA := Lib.hid ha
 have HB := Lib.hid hb
 have HF := Lib.hid (And.intro fa fb)
 have HG := Lib.hid eg
 clear ha hb fa fb eg
 go_enter Try.func94, Try.ntmps94
 go_wp2_with fail
 go_loopw [0, 1] (fun ta tb W => ∃ x y : Nat, rR W ta x ∧ rR W tb y ∧ x < B32 ∧ y < B32 ∧ Nat.gcd x y = g ∧ Below w.heap.size w W) (fun _ tb W => limb tb W)
 case atStart => exact ⟨a, b, HA.out, HB.out, HF.out.1, HF.out.2, HG.out, Below.refl _ _⟩
 case round =>
  obtain ⟨x, y, hx, hy, fx, fy, hg, hbe⟩ := hrel
  obtain ⟨A, c, m, rfl, hx⟩ := hx.shape
  obtain ⟨B, d, n, rfl, hy⟩ := hy.shape
  have HX := Lib.hid hx
  have HY := Lib.hid hy
  have HG' := Lib.hid hg
  rcases Nat.eq_zero_or_pos y with rfl | y0
  ·
   obtain rfl := hy.nil
   clear hx hy fx fy hg
   go_wp2_with fail
   go_ret
   exact ⟨_, rfl, hbe, by rw [← HG'.out, Nat.gcd_zero_right]; exact HX.out⟩
  ·
   obtain ⟨rfl, _, _⟩ := hy.one fy y0
   have HD := Lib.hid (HRD.out wr _ _ x y hx hy fx fy y0)
   have HF' := Lib.hid (And.intro fy (Nat.lt_trans (Nat.mod_lt x y0) fy))
   have HW := Lib.hid (words_step (a := x) (b := y) (by omega))
   have HL := Lib.hid (limb_eq hy fy)
   have HY0 := Lib.hid y0
   clear hx hy fx fy hg y0
   go_wp2_with fail
   refine HD.out.mono ?_
   rintro e w1 ⟨v1, rfl, hb1, A1, c1, m1, A2, c2, m2, rfl, h1, h2⟩
   have hbe1 : Below w.heap.size w w1 := Below.trans hbe (Below.mono hb1 hbe.size)
   have HY1 := Lib.hid (HY.out.ext hb1)
   have HR := Lib.hid h2
   clear hb1 h1 h2 hbe
   go_wp2_with fail
   go_roundw
   case rel => exact ⟨y, x % y, HY1.out, HR.out, HF'.out.1, HF'.out.2, by rw [← HG'.out]; exact HW.out.symm, hbe1⟩
   case measure =>
    rw [limb_eq HR.out HF'.out.2, HL.out]
    exact Nat.mod_lt _ HY0.out
end Go.Proofs.Ytlaocmhcilhlbaa

/- The document's fractions, of small parts: Make, Of, Over. -/
namespace Go.Proofs.Ytlaocmhcilhlbaa
open Go.RowKit
/-- abaculusref1.Q -/
def rRQ (w : World) (v : Value) (q : Rat) : Prop := ∃ A c m B k l, v = .agg #[.bool (decide (q.num < 0)), .slice A m c, .slice B l k] ∧ rR w (.slice A m c) q.num.natAbs ∧ rR w (.slice B l k) q.den
theorem rRQ.ext {w w' : World} {v : Value} {q : Rat} (h : rRQ w v q) (he : Ext w w') : rRQ w' v q := by
 obtain ⟨A, c, m, B, k, l, hv, h1, h2⟩ := h
 exact ⟨A, c, m, B, k, l, hv, h1.ext he, h2.ext he⟩
theorem rRQ.drew {w : World} {v : Value} {q : Rat} (h : rRQ w v q) : rRQ w.drew v q := h
theorem rRQ.alloc {w : World} {v : Value} {q : Rat} (h : rRQ w v q) (o : Obj) : rRQ (w.alloc o) v q := h.ext (ext_alloc _ _)
theorem rRQ.set {w : World} {v : Value} {q : Rat} (h : rRQ w v q) {a : Addr} {u x : Value} (hc : w.cell? a = some u) (hu : noInt u = true) : rRQ (w.setCell a x) v q := by
 obtain ⟨A, c, m, B, k, l, hv, h1, h2⟩ := h
 exact ⟨A, c, m, B, k, l, hv, h1.set hc hu, h2.set hc hu⟩
theorem rRQ.shape {w : World} {v : Value} {q : Rat} (h : rRQ w v q) : ∃ s A c n B k m, v = .agg #[.bool s, .slice A n c, .slice B m k] ∧ rRQ w (.agg #[.bool s, .slice A n c, .slice B m k]) q := by
 obtain ⟨A, c, m, B, k, l, rfl, h⟩ := h
 exact ⟨_, A, c, m, B, k, l, rfl, A, c, m, B, k, l, rfl, h⟩
theorem rRQ.num {w : World} {s : Bool} {A B : Option Addr} {n c m k : Nat} {q : Rat} (h : rRQ w (.agg #[.bool s, .slice A n c, .slice B m k]) q) : s = decide (q.num < 0) ∧ rR w (.slice A n c) q.num.natAbs := by
 obtain ⟨A', c', m', B', k', l', e, h1, h2⟩ := h
 simp only [Value.agg.injEq, Array.mk.injEq, List.cons.injEq, Value.bool.injEq, Value.slice.injEq, and_true] at e
 obtain ⟨rfl, ⟨rfl, rfl, rfl⟩, rfl, rfl, rfl⟩ := e
 exact ⟨rfl, h1⟩
theorem rRQ.den {w : World} {s : Bool} {A B : Option Addr} {n c m k : Nat} {q : Rat} (h : rRQ w (.agg #[.bool s, .slice A n c, .slice B m k]) q) : rR w (.slice B m k) q.den := by
 obtain ⟨A', c', m', B', k', l', e, h1, h2⟩ := h
 simp only [Value.agg.injEq, Array.mk.injEq, List.cons.injEq, Value.bool.injEq, Value.slice.injEq, and_true] at e
 obtain ⟨rfl, ⟨rfl, rfl, rfl⟩, rfl, rfl, rfl⟩ := e
 exact h2
theorem RDivSaid.open {W : World} {v : Value} {a b q : Nat} (hq : a / b = q) (h : RDivSaid W v a b) : ∃ A1 c1 m1 A2 c2 m2, v = .tuple #[.slice A1 m1 c1, .slice A2 m2 c2] ∧ rR W (.slice A1 m1 c1) q := by
 obtain ⟨A, c, m, B, d, n, hv, h1, h2⟩ := h
 exact ⟨A, c, m, B, d, n, hv, hq ▸ h1⟩
set_option maxRecDepth 100000 in
set_option maxHeartbeats 1000000 in
/-- Make, of small parts -/
theorem rmake_c (w : World) (vn vd : Value) (z : Int) (d : Nat) (hn : rRI w vn z) (hd : rRI w vd (d : Int)) (fz : z.natAbs < B32) (fd : d < B32) (d0 : 0 < d) :
  Calls Try.prog 81 #[vn, vd] w (Post w fun r w' => rRQ w' r (mkRat z d)) := by
 have hn1 := hn.open
 have hd1 := hd.open
 clear hn hd
 obtain ⟨A, c, m, rfl, hn⟩ := hn1
 obtain ⟨B, k, l, rfl, hd⟩ := hd1
 rw [decide_eq_false (show ¬ (d : Int) < 0 by omega)]
 replace hd : rR w (.slice B l k) d := hd
 obtain ⟨x, ex⟩ : ∃ x, z.natAbs = x := ⟨_, rfl⟩
 obtain ⟨s, es⟩ : ∃ s, decide (z < 0) = s := ⟨_, rfl⟩
 obtain ⟨g, eg⟩ : ∃ g, Nat.gcd x d = g := ⟨_, rfl⟩
 have g0 : 0 < g := by rw [← eg]; exact Nat.gcd_pos_of_pos_right _ d0
 have gd : g ≤ d := by rw [← eg]; exact Nat.gcd_le_right _ d0
 have gx : g ∣ x := by rw [← eg]; exact Nat.gcd_dvd_left _ _
 rw [ex] at fz hn
 rw [es]
 obtain ⟨p, ep⟩ : ∃ p, x / g = p := ⟨_, rfl⟩
 obtain ⟨q, eq⟩ : ∃ q, d / g = q := ⟨_, rfl⟩
 have HG := Lib.hid (fun W h h' => rgcd_c W (.slice A m c) (.slice B l k) x d h h' fz fd)
 rw [eg] at HG
 have HD1 := Lib.hid (fun W u h h' => (rdiv_c W (.slice A m c) u x g h h' fz (Nat.lt_of_le_of_lt gd fd) g0).mono (fun _ _ h => h.map (fun _ _ h => h.open ep)))
 have HD2 := Lib.hid (fun W u h h' => (rdiv_c W (.slice B l k) u d g h h' fd (Nat.lt_of_le_of_lt gd fd) g0).mono (fun _ _ h => h.map (fun _ _ h => h.open eq)))
 obtain ⟨p1, p2⟩ := mkRat_parts z d (by omega)
 rw [ex, eg] at p1 p2
 rw [eq] at p2
 have hz : z = sg s x := by rw [← es, ← ex]; unfold sg; split <;> rename_i h <;> simp at h <;> omega
 have hp : z / (g : Int) = sg s p := by
  obtain ⟨y, rfl⟩ := gx
  rw [Nat.mul_div_cancel_left _ g0] at ep
  subst ep
  rw [hz]
  cases s
  · rw [sg_false, sg_false, Int.natCast_mul, Int.mul_ediv_cancel_left _ (by omega)]
  · rw [sg_true, sg_true, Int.natCast_mul, ← Int.mul_neg, Int.mul_ediv_cancel_left _ (by omega)]
 rw [hp] at p1
 have hs : (s && decide (0 < p)) = decide ((mkRat z d).num < 0) := by
  rw [p1]
  cases s
  · rw [sg_false]; simp
  · rw [sg_true]; simp
 obtain ⟨s', es'⟩ : ∃ s', decide ((mkRat z d).num < 0) = s' := ⟨_, rfl⟩
 rw [es'] at hs
 have HI := Lib.hid (show ∀ W A1 m1 c1, rR W (.slice A1 m1 c1) p → Calls Try.prog 84 #[.bool s, .slice A1 m1 c1] W (Post W fun r w' => r = .agg #[.bool s', .slice A1 m1 c1]) from fun W A1 m1 c1 h => by
  have := ri_c W s A1 m1 c1 p h
  rw [hs] at this
  exact this)
 have HFI := Lib.hid (show ∀ W A1 m1 c1 A2 m2 c2, rR W (.slice A1 m1 c1) p → rR W (.slice A2 m2 c2) q → rRQ W (.agg #[.bool s', .slice A1 m1 c1, .slice A2 m2 c2]) (mkRat z d) from fun W A1 m1 c1 A2 m2 c2 h1 h2 =>
  ⟨A1, c1, m1, A2, c2, m2, by rw [es'], by rw [p1, sg_abs]; exact h1, by rw [p2]; exact h2⟩)
 have H1 := Lib.hid hn
 have H2 := Lib.hid hd
 clear hn hd fz fd d0 ex es eg g0 gd gx ep eq p1 p2 hz hp hs es'
 have HB : Hid (Cells [(w.heap.size, 0, .bool s), (w.heap.size, 1, .slice A m c), (w.heap.size + 1, 0, .bool false), (w.heap.size + 1, 1, .slice B l k)] (((w.alloc (.cells #[.bool s, .slice A m c] 63)).alloc (.cells #[.bool false, .slice B l k] 63)).alloc (.cells #[.bool false, .slice none 0 0, .slice none 0 0] 65))) := Lib.hid (Cells.cons (by go_simp) (Cells.cons (by go_simp) (Cells.cons (by go_simp) (Cells.cons (by go_simp) (Cells.nil _)))))
 have HO0 := Lib.hid (Own.new' ((w.alloc (.cells #[.bool s, .slice A m c] 63)).alloc (.cells #[.bool false, .slice B l k] 63)) 65 [.bool false, .slice none 0 0, .slice none 0 0] (w.heap.size + 1 + 1) (by simp))
 have hbw : Below w.heap.size w (((w.alloc (.cells #[.bool s, .slice A m c] 63)).alloc (.cells #[.bool false, .slice B l k] 63)).alloc (.cells #[.bool false, .slice none 0 0, .slice none 0 0] 65)) := (by repeat (first | assumption | exact Below.refl _ _ | refine Below.drew ?_ | refine pw_below_drewN ?_ _ | refine Below.alloc ?_ (by first | omega | (simp <;> omega)) _ | refine Below.setCell ?_ (by first | omega | (simp <;> omega)) _ | refine Below.trans ?_ (Below.mono (by assumption) (by first | omega | (simp <;> omega)))))
 go_enter Try.func81, Try.ntmps81
 go_wp2_with fail
 generalize (((w.alloc (.cells #[.bool s, .slice A m c] 63)).alloc (.cells #[.bool false, .slice B l k] 63)).alloc (.cells #[.bool false, .slice none 0 0, .slice none 0 0] 65)) = W0 at HB HO0 hbw ⊢
 obtain ⟨y0, y1, y2, y3, _⟩ := id HB.out
 go_wp2_with fail
 clear y0 y1 y2 y3
 refine (HG.out _ (H1.out.ext hbw) (H2.out.ext hbw)).mono ?_
 rintro e W1 ⟨v1, rfl, hb1, hr1⟩
 replace HB := Lib.hid (HB.out.ext hb1)
 replace HO0 := Lib.hid (HO0.out.ext hb1)
 replace hbw := nT hbw hb1
 have R0 := Lib.hid hr1
 clear hr1
 clear hb1
 obtain ⟨A0, c0, m0, rfl, h0⟩ := R0.out.shape
 have R1 := Lib.hid h0
 clear h0 R0
 obtain ⟨y0, y1, y2, y3, _⟩ := id HB.out
 go_wp2_with fail
 clear y0 y1 y2 y3
 refine (HD1.out _ _ (H1.out.ext hbw) R1.out).mono ?_
 rintro e W2 ⟨v1, rfl, hb1, A1, c1, m1, A2, c2, m2, rfl, hr1⟩
 replace HB := Lib.hid (HB.out.ext hb1)
 replace HO0 := Lib.hid (HO0.out.ext hb1)
 replace R1 := Lib.hid (R1.out.ext hb1)
 replace hbw := nT hbw hb1
 have R2 := Lib.hid hr1
 clear hr1
 clear hb1
 obtain ⟨y0, y1, y2, y3, _⟩ := id HB.out
 go_wp2_with fail
 clear y0 y1 y2 y3
 refine (HD2.out _ _ (H2.out.ext hbw) R1.out).mono ?_
 rintro e W3 ⟨v1, rfl, hb1, A3, c3, m3, A4, c4, m4, rfl, hr1⟩
 replace HB := Lib.hid (HB.out.ext hb1)
 replace HO0 := Lib.hid (HO0.out.ext hb1)
 replace R1 := Lib.hid (R1.out.ext hb1)
 replace R2 := Lib.hid (R2.out.ext hb1)
 replace hbw := nT hbw hb1
 have R3 := Lib.hid hr1
 clear hr1
 clear hb1
 obtain ⟨y0, y1, y2, y3, _⟩ := id HB.out
 go_wp2_with fail
 clear y0 y1 y2 y3
 refine (HI.out _ _ _ _ R2.out).mono ?_
 rintro e W4 ⟨v1, rfl, hb1, rfl⟩
 replace HB := Lib.hid (HB.out.ext hb1)
 replace HO0 := Lib.hid (HO0.out.ext hb1)
 replace R1 := Lib.hid (R1.out.ext hb1)
 replace R2 := Lib.hid (R2.out.ext hb1)
 replace R3 := Lib.hid (R3.out.ext hb1)
 replace hbw := nT hbw hb1
 clear hb1
 have q0 := HO0.out.cell 0 _ rfl
 have f0 := HO0.out.frozen 0
 have q1 := HO0.out.cell 1 _ rfl
 have f1 := HO0.out.frozen 1
 have q2 := HO0.out.cell 2 _ rfl
 have f2 := HO0.out.frozen 2
 go_wp2_with fail
 replace HB := Lib.hid (HB.out.set (p := ⟨w.heap.size + 1 + 1, 0, none⟩) (.bool s') (by simp <;> omega))
 replace HO0 := Lib.hid (HO0.out.set 0 (.bool s'))
 replace R1 := Lib.hid (R1.out.set (x := .bool s') q0 rfl)
 replace R2 := Lib.hid (R2.out.set (x := .bool s') q0 rfl)
 replace R3 := Lib.hid (R3.out.set (x := .bool s') q0 rfl)
 replace hbw := Below.setCell hbw (show w.heap.size ≤ (⟨w.heap.size + 1 + 1, 0, none⟩ : Addr).block by simp <;> omega) (.bool s')
 replace q1 := (World.cell?_setCell_other W4 ⟨w.heap.size + 1 + 1, 0, none⟩ ⟨w.heap.size + 1 + 1, 1, none⟩ (.bool s') (by simp)).trans q1
 replace q2 := (World.cell?_setCell_other W4 ⟨w.heap.size + 1 + 1, 0, none⟩ ⟨w.heap.size + 1 + 1, 2, none⟩ (.bool s') (by simp)).trans q2
 replace HB := Lib.hid (HB.out.set (p := ⟨w.heap.size + 1 + 1, 1, none⟩) (.slice A1 m1 c1) (by simp <;> omega))
 replace HO0 := Lib.hid (HO0.out.set 1 (.slice A1 m1 c1))
 replace R1 := Lib.hid (R1.out.set (x := .slice A1 m1 c1) q1 rfl)
 replace R2 := Lib.hid (R2.out.set (x := .slice A1 m1 c1) q1 rfl)
 replace R3 := Lib.hid (R3.out.set (x := .slice A1 m1 c1) q1 rfl)
 replace hbw := Below.setCell hbw (show w.heap.size ≤ (⟨w.heap.size + 1 + 1, 1, none⟩ : Addr).block by simp <;> omega) (.slice A1 m1 c1)
 replace q2 := (World.cell?_setCell_other (W4.setCell ⟨w.heap.size + 1 + 1, 0, none⟩ (.bool s')) ⟨w.heap.size + 1 + 1, 1, none⟩ ⟨w.heap.size + 1 + 1, 2, none⟩ (.slice A1 m1 c1) (by simp)).trans q2
 replace HB := Lib.hid (HB.out.set (p := ⟨w.heap.size + 1 + 1, 2, none⟩) (.slice A3 m3 c3) (by simp <;> omega))
 replace HO0 := Lib.hid (HO0.out.set 2 (.slice A3 m3 c3))
 replace R1 := Lib.hid (R1.out.set (x := .slice A3 m3 c3) q2 rfl)
 replace R2 := Lib.hid (R2.out.set (x := .slice A3 m3 c3) q2 rfl)
 replace R3 := Lib.hid (R3.out.set (x := .slice A3 m3 c3) q2 rfl)
 replace hbw := Below.setCell hbw (show w.heap.size ≤ (⟨w.heap.size + 1 + 1, 2, none⟩ : Addr).block by simp <;> omega) (.slice A3 m3 c3)
 clear q0 f0 q1 f1 q2 f2
 replace HO0 : Hid (Own _ _ _ [.bool s', .slice A1 m1 c1, .slice A3 m3 c3]) := HO0
 generalize (((W4.setCell ⟨w.heap.size + 1 + 1, 0, none⟩ (.bool s')).setCell ⟨w.heap.size + 1 + 1, 1, none⟩ (.slice A1 m1 c1)).setCell ⟨w.heap.size + 1 + 1, 2, none⟩ (.slice A3 m3 c3)) = W5 at HB HO0 R1 R2 R3 hbw ⊢
 have kk0 := HO0.out.cell 0 _ rfl
 have kk1 := HO0.out.cell 1 _ rfl
 have kk2 := HO0.out.cell 2 _ rfl
 refine bodyPost_ret (v := .agg #[.bool s', .slice A1 m1 c1, .slice A3 m3 c3]) (by simp [results, Try.results81, go_sem, kk0, kk1, kk2]) rfl ⟨_, rfl, hbw, ?_⟩
 exact HFI.out _ _ _ _ _ _ _ R2.out R3.out
set_option maxRecDepth 100000 in
set_option maxHeartbeats 1000000 in
/-- Over, of small parts -/
theorem rover_c (w : World) (z : Int) (d : Nat) (hz : -2147483648 < z ∧ z < 2147483648) (hd : 0 < d ∧ d < 2147483648) :
  Calls Try.prog 55 #[.int .i64 z, .int .i64 (d : Nat)] w (Post w fun r w' => rRQ w' r (mkRat z d)) := by
 have H1 := Lib.hid (fun W => riof_c W z hz)
 have H2 := Lib.hid (fun W => riof_c W (d : Int) (by omega))
 have H3 := Lib.hid (fun W v u h h' => rmake_c W v u z d h h' (by unfold B32; omega) (by unfold B32; omega) hd.1)
 have HB : Hid (Cells [] (w.alloc (.cells #[.bool false, .slice none 0 0, .slice none 0 0] 65))) := Lib.hid (Cells.nil _)
 have HO0 := Lib.hid (Own.new' w 65 [.bool false, .slice none 0 0, .slice none 0 0] (w.heap.size) (by simp))
 have hbw : Below w.heap.size w (w.alloc (.cells #[.bool false, .slice none 0 0, .slice none 0 0] 65)) := (by repeat (first | assumption | exact Below.refl _ _ | refine Below.drew ?_ | refine pw_below_drewN ?_ _ | refine Below.alloc ?_ (by first | omega | (simp <;> omega)) _ | refine Below.setCell ?_ (by first | omega | (simp <;> omega)) _ | refine Below.trans ?_ (Below.mono (by assumption) (by first | omega | (simp <;> omega)))))
 clear hz hd
 go_enter Try.func55, Try.ntmps55
 go_wp2_with fail
 generalize (w.alloc (.cells #[.bool false, .slice none 0 0, .slice none 0 0] 65)) = W0 at HB HO0 hbw ⊢
 refine (H1.out _).mono ?_
 rintro e W1 ⟨v1, rfl, hb1, hr1⟩
 replace HB := Lib.hid (HB.out.ext hb1)
 replace HO0 := Lib.hid (HO0.out.ext hb1)
 replace hbw := nT hbw hb1
 have R1 := Lib.hid hr1
 clear hr1
 clear hb1
 go_wp2_with fail
 refine (H2.out _).mono ?_
 rintro e W2 ⟨v1, rfl, hb1, hr1⟩
 replace HB := Lib.hid (HB.out.ext hb1)
 replace HO0 := Lib.hid (HO0.out.ext hb1)
 replace R1 := Lib.hid (R1.out.ext hb1)
 replace hbw := nT hbw hb1
 have R2 := Lib.hid hr1
 clear hr1
 clear hb1
 go_wp2_with fail
 refine (H3.out _ _ _ R1.out R2.out).mono ?_
 rintro e W3 ⟨v1, rfl, hb1, hr1⟩
 replace HB := Lib.hid (HB.out.ext hb1)
 replace HO0 := Lib.hid (HO0.out.ext hb1)
 replace R1 := Lib.hid (R1.out.ext hb1)
 replace R2 := Lib.hid (R2.out.ext hb1)
 replace hbw := nT hbw hb1
 have R3 := Lib.hid hr1
 clear hr1
 clear hb1
 obtain ⟨s, A, c, n, B, k, m, rfl, h⟩ := R3.out.shape
 have R4 := Lib.hid h
 clear h R3
 have q0 := HO0.out.cell 0 _ rfl
 have f0 := HO0.out.frozen 0
 have q1 := HO0.out.cell 1 _ rfl
 have f1 := HO0.out.frozen 1
 have q2 := HO0.out.cell 2 _ rfl
 have f2 := HO0.out.frozen 2
 go_wp2_with fail
 replace HB := Lib.hid (HB.out.set (p := ⟨w.heap.size, 0, none⟩) (.bool s) (by simp <;> omega))
 replace HO0 := Lib.hid (HO0.out.set 0 (.bool s))
 replace R1 := Lib.hid (R1.out.set (x := .bool s) q0 rfl)
 replace R2 := Lib.hid (R2.out.set (x := .bool s) q0 rfl)
 replace R4 := Lib.hid (R4.out.set (x := .bool s) q0 rfl)
 replace hbw := Below.setCell hbw (show w.heap.size ≤ (⟨w.heap.size, 0, none⟩ : Addr).block by simp <;> omega) (.bool s)
 replace q1 := (World.cell?_setCell_other W3 ⟨w.heap.size, 0, none⟩ ⟨w.heap.size, 1, none⟩ (.bool s) (by simp)).trans q1
 replace q2 := (World.cell?_setCell_other W3 ⟨w.heap.size, 0, none⟩ ⟨w.heap.size, 2, none⟩ (.bool s) (by simp)).trans q2
 replace HB := Lib.hid (HB.out.set (p := ⟨w.heap.size, 1, none⟩) (.slice A n c) (by simp <;> omega))
 replace HO0 := Lib.hid (HO0.out.set 1 (.slice A n c))
 replace R1 := Lib.hid (R1.out.set (x := .slice A n c) q1 rfl)
 replace R2 := Lib.hid (R2.out.set (x := .slice A n c) q1 rfl)
 replace R4 := Lib.hid (R4.out.set (x := .slice A n c) q1 rfl)
 replace hbw := Below.setCell hbw (show w.heap.size ≤ (⟨w.heap.size, 1, none⟩ : Addr).block by simp <;> omega) (.slice A n c)
 replace q2 := (World.cell?_setCell_other (W3.setCell ⟨w.heap.size, 0, none⟩ (.bool s)) ⟨w.heap.size, 1, none⟩ ⟨w.heap.size, 2, none⟩ (.slice A n c) (by simp)).trans q2
 replace HB := Lib.hid (HB.out.set (p := ⟨w.heap.size, 2, none⟩) (.slice B m k) (by simp <;> omega))
 replace HO0 := Lib.hid (HO0.out.set 2 (.slice B m k))
 replace R1 := Lib.hid (R1.out.set (x := .slice B m k) q2 rfl)
 replace R2 := Lib.hid (R2.out.set (x := .slice B m k) q2 rfl)
 replace R4 := Lib.hid (R4.out.set (x := .slice B m k) q2 rfl)
 replace hbw := Below.setCell hbw (show w.heap.size ≤ (⟨w.heap.size, 2, none⟩ : Addr).block by simp <;> omega) (.slice B m k)
 clear q0 f0 q1 f1 q2 f2
 replace HO0 : Hid (Own _ _ _ [.bool s, .slice A n c, .slice B m k]) := HO0
 generalize (((W3.setCell ⟨w.heap.size, 0, none⟩ (.bool s)).setCell ⟨w.heap.size, 1, none⟩ (.slice A n c)).setCell ⟨w.heap.size, 2, none⟩ (.slice B m k)) = W4 at HB HO0 R1 R2 R4 hbw ⊢
 have kk0 := HO0.out.cell 0 _ rfl
 have kk1 := HO0.out.cell 1 _ rfl
 have kk2 := HO0.out.cell 2 _ rfl
 refine bodyPost_ret (v := .agg #[.bool s, .slice A n c, .slice B m k]) (by simp [results, Try.results55, go_sem, kk0, kk1, kk2]) rfl ⟨_, rfl, hbw, ?_⟩
 exact R4.out
set_option maxRecDepth 100000 in
set_option maxHeartbeats 1000000 in
/-- Of, of a small number -/
theorem rqof_c (w : World) (z : Int) (hz : -2147483648 < z ∧ z < 2147483648) :
  Calls Try.prog 26 #[.int .i64 z] w (Post w fun r w' => rRQ w' r (z : Rat)) := by
 have H1 := Lib.hid (fun W => riof_c W z hz)
 have H2 := Lib.hid (fun W => rof_c W 1 (by unfold B32; omega))
 obtain ⟨s, es⟩ : ∃ s, decide (z < 0) = s := ⟨_, rfl⟩
 have HES := Lib.hid es
 have HB : Hid (Cells [] (w.alloc (.cells #[.bool false, .slice none 0 0, .slice none 0 0] 65))) := Lib.hid (Cells.nil _)
 have HO0 := Lib.hid (Own.new' w 65 [.bool false, .slice none 0 0, .slice none 0 0] (w.heap.size) (by simp))
 have hbw : Below w.heap.size w (w.alloc (.cells #[.bool false, .slice none 0 0, .slice none 0 0] 65)) := (by repeat (first | assumption | exact Below.refl _ _ | refine Below.drew ?_ | refine pw_below_drewN ?_ _ | refine Below.alloc ?_ (by first | omega | (simp <;> omega)) _ | refine Below.setCell ?_ (by first | omega | (simp <;> omega)) _ | refine Below.trans ?_ (Below.mono (by assumption) (by first | omega | (simp <;> omega)))))
 clear hz es
 go_enter Try.func26, Try.ntmps26
 go_wp2_with fail
 generalize (w.alloc (.cells #[.bool false, .slice none 0 0, .slice none 0 0] 65)) = W0 at HB HO0 hbw ⊢
 refine (H1.out _).mono ?_
 rintro e W1 ⟨v1, rfl, hb1, hr1⟩
 replace HB := Lib.hid (HB.out.ext hb1)
 replace HO0 := Lib.hid (HO0.out.ext hb1)
 replace hbw := nT hbw hb1
 have R1 := Lib.hid hr1
 clear hr1
 clear hb1
 obtain ⟨A, c, n, rfl, h⟩ := R1.out.open
 rw [HES.out]
 have R3 := Lib.hid h
 clear h R1
 go_wp2_with fail
 refine (H2.out _).mono ?_
 rintro e W2 ⟨v1, rfl, hb1, hr1⟩
 replace HB := Lib.hid (HB.out.ext hb1)
 replace HO0 := Lib.hid (HO0.out.ext hb1)
 replace R3 := Lib.hid (R3.out.ext hb1)
 replace hbw := nT hbw hb1
 have R2 := Lib.hid hr1
 clear hr1
 clear hb1
 obtain ⟨B, k, m, rfl, h⟩ := R2.out.shape
 have R4 := Lib.hid h
 clear h R2
 have q0 := HO0.out.cell 0 _ rfl
 have f0 := HO0.out.frozen 0
 have q1 := HO0.out.cell 1 _ rfl
 have f1 := HO0.out.frozen 1
 have q2 := HO0.out.cell 2 _ rfl
 have f2 := HO0.out.frozen 2
 go_wp2_with fail
 replace HB := Lib.hid (HB.out.set (p := ⟨w.heap.size, 0, none⟩) (.bool s) (by simp <;> omega))
 replace HO0 := Lib.hid (HO0.out.set 0 (.bool s))
 replace R3 := Lib.hid (R3.out.set (x := .bool s) q0 rfl)
 replace R4 := Lib.hid (R4.out.set (x := .bool s) q0 rfl)
 replace hbw := Below.setCell hbw (show w.heap.size ≤ (⟨w.heap.size, 0, none⟩ : Addr).block by simp <;> omega) (.bool s)
 replace q1 := (World.cell?_setCell_other W2 ⟨w.heap.size, 0, none⟩ ⟨w.heap.size, 1, none⟩ (.bool s) (by simp)).trans q1
 replace q2 := (World.cell?_setCell_other W2 ⟨w.heap.size, 0, none⟩ ⟨w.heap.size, 2, none⟩ (.bool s) (by simp)).trans q2
 replace HB := Lib.hid (HB.out.set (p := ⟨w.heap.size, 1, none⟩) (.slice A n c) (by simp <;> omega))
 replace HO0 := Lib.hid (HO0.out.set 1 (.slice A n c))
 replace R3 := Lib.hid (R3.out.set (x := .slice A n c) q1 rfl)
 replace R4 := Lib.hid (R4.out.set (x := .slice A n c) q1 rfl)
 replace hbw := Below.setCell hbw (show w.heap.size ≤ (⟨w.heap.size, 1, none⟩ : Addr).block by simp <;> omega) (.slice A n c)
 replace q2 := (World.cell?_setCell_other (W2.setCell ⟨w.heap.size, 0, none⟩ (.bool s)) ⟨w.heap.size, 1, none⟩ ⟨w.heap.size, 2, none⟩ (.slice A n c) (by simp)).trans q2
 replace HB := Lib.hid (HB.out.set (p := ⟨w.heap.size, 2, none⟩) (.slice B m k) (by simp <;> omega))
 replace HO0 := Lib.hid (HO0.out.set 2 (.slice B m k))
 replace R3 := Lib.hid (R3.out.set (x := .slice B m k) q2 rfl)
 replace R4 := Lib.hid (R4.out.set (x := .slice B m k) q2 rfl)
 replace hbw := Below.setCell hbw (show w.heap.size ≤ (⟨w.heap.size, 2, none⟩ : Addr).block by simp <;> omega) (.slice B m k)
 clear q0 f0 q1 f1 q2 f2
 replace HO0 : Hid (Own _ _ _ [.bool s, .slice A n c, .slice B m k]) := HO0
 generalize (((W2.setCell ⟨w.heap.size, 0, none⟩ (.bool s)).setCell ⟨w.heap.size, 1, none⟩ (.slice A n c)).setCell ⟨w.heap.size, 2, none⟩ (.slice B m k)) = W3 at HB HO0 R3 R4 hbw ⊢
 have kk0 := HO0.out.cell 0 _ rfl
 have kk1 := HO0.out.cell 1 _ rfl
 have kk2 := HO0.out.cell 2 _ rfl
 refine bodyPost_ret (v := .agg #[.bool s, .slice A n c, .slice B m k]) (by simp [results, Try.results26, go_sem, kk0, kk1, kk2]) rfl ⟨_, rfl, hbw, ?_⟩
 exact ⟨A, c, n, B, k, m, by rw [← HES.out]; rfl, R3.out, R4.out⟩
end Go.Proofs.Ytlaocmhcilhlbaa

/- The document's numbers, of one byte: NatBits, NatBytes; nat.FromBytes of them. -/
namespace Go.Proofs.Ytlaocmhcilhlbaa
open Go.RowKit
theorem bl_half {x : Nat} (h : 0 < x) : bl x = bl (x / 2) + 1 := by
 refine bl_unique ?_ ?_ (by omega)
 ·
  have := bl_lt (x / 2)
  rw [Nat.pow_succ]; omega
 ·
  rcases Nat.eq_zero_or_pos (x / 2) with h2 | h2
  · rw [h2]; simp [bl_zero]; omega
  ·
   have := bl_ge (n := x / 2) (by omega)
   have h3 : 0 < bl (x / 2) := bl_pos.2 (by omega)
   rw [Nat.add_sub_cancel]
   have : 2 ^ bl (x / 2) = 2 ^ (bl (x / 2) - 1) * 2 := by rw [← Nat.pow_succ]; congr 1; omega
   omega
set_option maxRecDepth 100000 in
set_option maxHeartbeats 1000000 in
/-- NatBits, of one limb -/
theorem rbits_c (w : World) (va : Value) (a : Nat) (ha : rR w va a) (fa : a < B32) : Calls Try.prog 96 #[va] w (Post w fun r _ => r = .int .i64 (bl a : Nat)) := by
 obtain ⟨A, c, m, rfl, ha⟩ := ha.shape
 rcases Nat.eq_zero_or_pos a with rfl | a0
 ·
  obtain rfl := ha.nil
  clear ha fa
  have HB : Hid (Cells [] w) := Lib.hid (Cells.nil _)
  have hbw : Below w.heap.size w w := Below.refl _ _
  go_enter Try.func96, Try.ntmps96
  go_wp2_with fail
  go_ret
  exact ⟨_, rfl, hbw, rfl⟩
 ·
  obtain ⟨rfl, _, g, o, rfl, hc⟩ := ha.one fa a0
  have hb32 : bl a ≤ 32 := bl_le_of_lt (k := 32) fa
  have HF := Lib.hid fa
  clear ha fa
  have HB : Hid (Cells [] w) := Lib.hid (Cells.nil _)
  have hbw : Below w.heap.size w w := Below.refl _ _
  go_enter Try.func96, Try.ntmps96
  go_upto_block 0 with (fail)
  go_wp2_with fail
  go_loopw [3, 4] (fun t3 t4 W => ∃ k x : Nat, t3 = .int .i64 (k : Nat) ∧ t4 = .int .u32 (x : Nat) ∧ k + bl x = bl a ∧ Below w.heap.size w W) (fun _ t _ => (intOf t).toNat)
  case atStart => exact ⟨0, a, rfl, rfl, by omega, hbw⟩
  case round =>
   obtain ⟨k, x, rfl, rfl, hk, hbe⟩ := hrel
   rcases Nat.eq_zero_or_pos x with rfl | x0
   ·
    have HK := Lib.hid (show k = bl a by rw [bl_zero] at hk; omega)
    clear hk
    go_wp2_with fail
    go_ret
    exact ⟨_, rfl, hbe, by rw [← HK.out]; rfl⟩
   ·
    have hx0 : (0 : Int) < (x : Int) := by omega
    have hkw : IntKind.i64.wrap ((k : Int) + 1) = ((k + 1 : Nat) : Int) := i64w (by omega) (by omega)
    have hk2 : k + 1 + bl (x / 2) = bl a := by rw [bl_half x0] at hk; omega
    obtain ⟨y, ey⟩ : ∃ y, x / 2 = y := ⟨_, rfl⟩
    rw [ey] at hk2
    have hxd : (x : Int) / 2 = (y : Int) := by omega
    have HK := Lib.hid hk2
    have HX := Lib.hid (show y < x by omega)
    clear hk x0 hk2 ey
    go_wp2_with fail
    go_roundw
    case rel => exact ⟨k + 1, y, rfl, rfl, HK.out, hbe⟩
    case measure => simp [intOf]; have := HX.out; omega
/-- A number's bytes, where they are one at most. -/
def byteOf (n : Nat) : List Nat := if n = 0 then [] else [n]
def rBy (w : World) (v : Value) (l : List Nat) : Prop := ∃ A c, v = .slice A l.length c ∧ Words .u8 256 w A c l
theorem info8 : (Try.prog.info? 5).map (fun i => (i.zero, i.size, i.bytes)) = some (some (.int .u8 0), 1, 1) := by kernel_rfl
theorem und8 : Try.prog.underlying 128 = some (.slice 5) := by kernel_rfl
theorem mk8 (n : Int) (m : Nat) (e : n = m) (hn : m * 1 ≤ 281474976710656) (W : World) : (Instr.makeSlice 128 (.int .i64 n) (.int .i64 n)).run Try.prog W = .ok (.slice (some ⟨W.heap.size, 0, none⟩) m m) (W.alloc (.cells (zeroW .u8 m) 5)) := by
 rw [e]; exact mk_words _ _ _ 1 und8 info8 (by omega) m hn W
set_option maxRecDepth 100000 in
set_option maxHeartbeats 1000000 in
/-- NatBytes, of one byte -/
theorem rbytes_c (w : World) (va : Value) (a : Nat) (ha : rR w va a) (fa : a < 256) : Calls Try.prog 83 #[va] w (Post w fun r w' => rBy w' r (byteOf a)) := by
 obtain ⟨A, c, m, rfl, ha⟩ := ha.shape
 have HB := Lib.hid (fun W h => rbits_c W (.slice A m c) a h (by unfold B32; omega))
 have H1 := Lib.hid ha
 rcases Nat.eq_zero_or_pos a with rfl | a0
 ·
  have hmk := mk8 0 0 rfl (by omega)
  rw [show zeroW .u8 0 = #[] from rfl] at hmk
  rw [bl_zero] at HB
  obtain rfl := ha.nil
  clear ha fa
  go_enter Try.func83, Try.ntmps83
  go_wp2_with fail
  refine (HB.out _ H1.out).mono ?_
  rintro e w1 ⟨v1, rfl, hb1, rfl⟩
  have hbe : Below w.heap.size w (w1.alloc (.cells #[] 5)) := Below.alloc hb1 hb1.size _
  clear hb1
  go_wp2_with fail
  go_loopw [5] (fun t W => t = .int .i64 0 ∧ Below w.heap.size w W) (fun _ _ => 0)
  case atStart => exact ⟨rfl, hbe⟩
  case round =>
   obtain ⟨rfl, hrel⟩ := hrel
   go_wp2_with fail
   go_ret
   exact ⟨_, rfl, hrel, _, 0, rfl, Words.nil _ _ _ _ _⟩
 ·
  have hmk := mk8 1 1 rfl (by omega)
  rw [show zeroW .u8 1 = #[.int .u8 0] from rfl] at hmk
  obtain ⟨rfl, _, g, o, rfl, hc⟩ := ha.one (by unfold B32; omega) a0
  have hg := cell_lt hc
  obtain ⟨b, eb⟩ : ∃ b, bl a = b := ⟨_, rfl⟩
  have hb1 : b ≤ 8 := by rw [← eb]; exact bl_le_of_lt (k := 8) fa
  have hb0 : 0 < b := by rw [← eb]; exact bl_pos.2 (by omega)
  rw [eb] at HB
  have hd : Int.tdiv ((b : Int) + 7) 8 = 1 := by rw [Int.tdiv_eq_ediv_of_nonneg (by omega)]; omega
  have hw : IntKind.i64.wrap ((b : Int) + 7) = (b : Int) + 7 := i64w (by omega) (by omega)
  have hm8 : (a : Int) % 256 = (a : Int) := by omega
  have HC := Lib.hid hc
  have HA := Lib.hid (And.intro a0 fa)
  clear ha fa a0 eb hb1 hb0 hc
  go_enter Try.func83, Try.ntmps83
  go_wp2_with fail
  refine (HB.out _ H1.out).mono ?_
  rintro e w1 ⟨v1, rfl, hb1, rfl⟩
  have hg1 : g < w1.heap.size := Nat.lt_of_lt_of_le hg hb1.size
  have hne : g ≠ w1.heap.size := by omega
  have hxa := ext_cell (ext_alloc w1 (.cells #[.int .u8 0] 5)) (ext_cell hb1 HC.out)
  have HXA := Lib.hid hxa
  have hbe : Below w.heap.size w (w1.alloc (.cells #[.int .u8 0] 5)) := Below.alloc hb1 hb1.size _
  have hb1s := hb1.size
  clear hb1 hxa
  go_wp2_with fail
  go_loopw [5] (fun t W => ∃ k x : Nat, t = .int .i64 (k : Nat) ∧ ((k = 0 ∧ x = 0) ∨ (k = 1 ∧ x = a)) ∧ Below w.heap.size w W ∧ W.cell? ⟨g, o, none⟩ = some (.int .u32 (a : Nat)) ∧ Own W w1.heap.size 5 [.int .u8 (x : Nat)]) (fun t _ => (1 - intOf t).toNat)
  case atStart => exact ⟨0, 0, rfl, .inl ⟨rfl, rfl⟩, hbe, HXA.out, Own.new w1 5 [.int .u8 0]⟩
  case round =>
   obtain ⟨k, x, rfl, hk, hbw, xa, ho⟩ := hrel
   have HO := Lib.hid ho
   have q0 := ho.cell 0 _ rfl
   have f0 := ho.frozen 0
   clear ho
   rcases hk with ⟨rfl, rfl⟩ | ⟨rfl, rfl⟩
   ·
    have XA := Lib.hid ((World.cell?_setCell_other wr ⟨w1.heap.size, 0, none⟩ ⟨g, o, none⟩ (.int .u8 (a : Nat)) (by simp <;> omega)).trans xa)
    go_wp2_with fail
    go_roundw
    case rel => exact ⟨1, a, rfl, .inr ⟨rfl, rfl⟩, hbw.setCell hb1s _, XA.out, HO.out.set 0 _⟩
    case measure => simp [intOf]
   ·
    go_wp2_with fail
    go_ret
    refine ⟨_, rfl, hbw, ?_⟩
    have hne0 : x ≠ 0 := by have := HA.out; omega
    refine ⟨_, 1, by unfold byteOf; rw [if_neg hne0]; rfl, ?_⟩
    unfold byteOf
    rw [if_neg hne0]
    exact own_words (k := .u8) (l := [x]) (by simpa [wv] using HO.out) (by intro y hy; simp at hy; rw [hy]; exact HA.out.2) 1 (by simp)
end Go.Proofs.Ytlaocmhcilhlbaa
