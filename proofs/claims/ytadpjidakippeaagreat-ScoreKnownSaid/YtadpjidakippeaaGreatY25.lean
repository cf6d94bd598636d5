/- NatFrom of one byte at most; abaculushand.OutNat, OutInt, Out, of small parts. -/
import Derived.Test.YtadpjidakippeaaGreatY24
import Derived.Lib.EndianBits
import Derived.Test.YtadpjidakippeaaGreatY18
import Derived.Test.YtadpjidakippeaaGreatY19
set_option linter.unusedVariables false
set_option linter.unusedSimpArgs false
namespace Go.Proofs.YtadpjidakippeaaGreat
open Go.RowKit
set_option maxRecDepth 100000 in
set_option maxHeartbeats 1000000 in
/-- NatFrom, of one byte at most -/
theorem rfrom_c (w : World) (v : Value) (n : Nat) (hb : rBy w v (byteOf n)) (fn : n < 256) : Calls Tryz.prog 96 #[v] w (Post w fun r w' => rR w' r n) := by
 obtain ⟨A, c, rfl, hw⟩ := hb
 rcases Nat.eq_zero_or_pos n with rfl | n0
 ·
  rw [show (byteOf 0).length = 0 from rfl]
  have hmk := mk32 0 0 rfl (by omega)
  rw [show zeroW .u32 0 = #[] from rfl] at hmk
  have HT := Lib.hid (fun W (h : Words .u32 B32 W (some ⟨w.heap.size, 0, none⟩) 0 []) => rtrim_c W (some ⟨w.heap.size, 0, none⟩) 0 [] h (by simp))
  clear hw fn
  go_enter Tryz.func96, Tryz.ntmps96
  go_wp2_with fail
  go_loopw [4] (fun t W => t = .int .i64 0 ∧ Below w.heap.size w W) (fun _ _ => 0)
  case atStart => exact ⟨rfl, (by repeat (first | assumption | exact nB1 _ _ | refine nB2 ?_ | refine pw_below_drewN ?_ _ | refine nB3 ?_ (by first | omega | (simp <;> omega)) _ | refine nB4 ?_ (by first | omega | (simp <;> omega)) _ | refine nB5 ?_ (by assumption) (by first | omega | (simp <;> omega))))⟩
  case round =>
   obtain ⟨rfl, hbw⟩ := hrel
   have HR := Lib.hid (HT.out wr (Words.nil _ _ _ _ _))
   go_wp2_with fail
   refine HR.out.mono ?_
   rintro e w1 ⟨v1, rfl, hb1, hr1⟩
   have hbe : Below w.heap.size w w1 := nT hbw hb1
   have HV := Lib.hid hr1
   clear hb1 hr1
   go_wp2_with fail
   go_ret
   exact ⟨_, rfl, hbe, HV.out⟩
 ·
  rw [byteOf_pos n0] at hw ⊢
  obtain ⟨g, o, rfl, hc⟩ := hw.2.2 (by simp)
  have xc : w.cell? ⟨g, o, none⟩ = some (.int .u8 (n : Nat)) := by have := hc 0 (by simp); simpa using this
  have hg := cell_lt xc
  have HC := Lib.hid xc
  have hmk := mk32 1 1 rfl (by omega)
  rw [show zeroW .u32 1 = #[.int .u32 0] from rfl] at hmk
  have HT := Lib.hid (fun W (h : Words .u32 B32 W (some ⟨w.heap.size, 0, none⟩) 1 [n]) => rtrim_c W (some ⟨w.heap.size, 0, none⟩) 1 [n] h (by simp))
  have w1 : IntKind.u32.wrap (n : Int) = (n : Int) := by rw [IntKind.wrap_u32]; omega
  have hw0 : IntKind.i64.wrap 0 = 0 := rfl
  have hor : bits .or .u32 0 (n : Int) = (n : Int) := by
   have := bits_join_low .u32 32 (by decide) (fun z h0 h1 => by rw [IntKind.wrap_u32]; omega) 0 0 (n : Int) (by omega) (by omega) (by omega) (by omega) (by simp [Int.emod_one]) (by omega)
   simpa using this
  have hwu : IntKind.u64.wrap 0 = 0 := rfl
  have hmod : (n : Int) % 4294967296 = (n : Int) := by omega
  have HN := Lib.hid (And.intro n0 fn)
  clear hw hc xc fn n0
  go_enter Tryz.func96, Tryz.ntmps96
  go_wp2_with fail
  go_loopw [4] (fun t W => ∃ k x : Nat, t = .int .i64 (k : Nat) ∧ ((k = 0 ∧ x = 0) ∨ (k = 1 ∧ x = n)) ∧ Below w.heap.size w W ∧ Own W w.heap.size 107 [.int .u32 (x : Nat)]) (fun t _ => (1 - intOf t).toNat)
  case atStart => exact ⟨0, 0, rfl, .inl ⟨rfl, rfl⟩, (by repeat (first | assumption | exact nB1 _ _ | refine nB2 ?_ | refine pw_below_drewN ?_ _ | refine nB3 ?_ (by first | omega | (simp <;> omega)) _ | refine nB4 ?_ (by first | omega | (simp <;> omega)) _ | refine nB5 ?_ (by assumption) (by first | omega | (simp <;> omega)))), Own.new w 107 [.int .u32 0]⟩
  case round =>
   obtain ⟨k, x, rfl, hk, hbw, hp⟩ := hrel
   have HO1 := Lib.hid hp
   rcases hk with ⟨rfl, rfl⟩ | ⟨rfl, rfl⟩
   ·
    have xc := ext_cell hbw HC.out
    clear hp
    go_wp2_with fail
    have HB : Hid (Cells [(w.heap.size, 0, .int .u32 0), (g, o, .int .u8 (n : Nat))] wr) := Lib.hid (Cells.cons (HO1.out.cell 0 _ rfl) (Cells.cons (xc) (Cells.nil _)))
    clear xc
    replace HB := Lib.hid (HB.out.drew)
    replace HO1 := Lib.hid (HO1.out.drew)
    replace hbw := Below.drew hbw
    refine wp_hoistL [(0, true), (1, true), (2, true), (3, true), (4, true), (5, true), (6, true), (7, true), (8, true), (9, true), (10, true), (11, true), (12, true), (13, true), (14, true), (15, true), (16, true), (17, true), (18, true), (19, true), (20, false)] 20 (Cells [(w.heap.size, 0, .int .u32 0), (g, o, .int .u8 (n : Nat))]) (by kernel_rfl) (by kernel_rfl) ?_ ?_
    · exact HB.out
    generalize wr.drew = W21 at HB HO1 hbw ⊢
    refine hl_yes (v := ?_) rfl (by kernel_rfl) (fun W hW => ?_) ?_; rotate_left; (go_simp; try with_reducible rfl)
    (try simp only [Act.put, gL])
    refine hl_yes (v := ?_) rfl (by kernel_rfl) (fun W hW => ?_) ?_; rotate_left; (go_simp; try with_reducible rfl)
    (try simp only [Act.put, gL])
    refine hl_yes (v := ?_) rfl (by kernel_rfl) (fun W hW => ?_) ?_; rotate_left; (go_simp; try with_reducible rfl)
    (try simp only [Act.put, gL])
    refine hl_yes (v := ?_) rfl (by kernel_rfl) (fun W hW => ?_) ?_; rotate_left; (go_simp; try with_reducible rfl)
    (try simp only [Act.put, gL])
    refine hl_yes (v := ?_) rfl (by kernel_rfl) (fun W hW => ?_) ?_; rotate_left; (go_simp; try with_reducible rfl)
    (try simp only [Act.put, gL])
    refine hl_yes (v := ?_) rfl (by kernel_rfl) (fun W hW => ?_) ?_; rotate_left; (go_simp; try with_reducible rfl)
    (try simp only [Act.put, gL])
    refine hl_yes (v := ?_) rfl (by kernel_rfl) (fun W hW => ?_) ?_; rotate_left; (go_simp; try with_reducible rfl)
    (try simp only [Act.put, gL])
    refine hl_yes (v := ?_) rfl (by kernel_rfl) (fun W hW => ?_) ?_; rotate_left; (obtain ⟨y0, y1, _⟩ := hW; go_simp; try with_reducible rfl)
    (try simp only [Act.put, gL])
    refine hl_yes (v := ?_) rfl (by kernel_rfl) (fun W hW => ?_) ?_; rotate_left; (go_simp; try with_reducible rfl)
    (try simp only [Act.put, gL])
    refine hl_yes (v := ?_) rfl (by kernel_rfl) (fun W hW => ?_) ?_; rotate_left; (go_simp; try with_reducible rfl)
    (try simp only [Act.put, gL])
    refine hl_yes (v := ?_) rfl (by kernel_rfl) (fun W hW => ?_) ?_; rotate_left; (go_simp; try with_reducible rfl)
    (try simp only [Act.put, gL])
    refine hl_yes (v := ?_) rfl (by kernel_rfl) (fun W hW => ?_) ?_; rotate_left; (obtain ⟨y0, y1, _⟩ := hW; go_simp; try with_reducible rfl)
    (try simp only [Act.put, gL])
    refine hl_yes (v := ?_) rfl (by kernel_rfl) (fun W hW => ?_) ?_; rotate_left; (go_simp; try with_reducible rfl)
    (try simp only [Act.put, gL])
    refine hl_yes (v := ?_) rfl (by kernel_rfl) (fun W hW => ?_) ?_; rotate_left; (go_simp; try with_reducible rfl)
    (try simp only [Act.put, gL])
    refine hl_yes (v := ?_) rfl (by kernel_rfl) (fun W hW => ?_) ?_; rotate_left; (go_simp; try with_reducible rfl)
    (try simp only [Act.put, gL])
    refine hl_yes (v := ?_) rfl (by kernel_rfl) (fun W hW => ?_) ?_; rotate_left; (go_simp; try with_reducible rfl)
    (try simp only [Act.put, gL])
    refine hl_yes (v := ?_) rfl (by kernel_rfl) (fun W hW => ?_) ?_; rotate_left; (go_simp; try with_reducible rfl)
    (try simp only [Act.put, gL])
    refine hl_yes (v := ?_) rfl (by kernel_rfl) (fun W hW => ?_) ?_; rotate_left; (go_simp; try with_reducible rfl)
    (try simp only [Act.put, gL])
    refine hl_yes (v := ?_) rfl (by kernel_rfl) (fun W hW => ?_) ?_; rotate_left; (go_simp; try with_reducible rfl)
    (try simp only [Act.put, gL])
    refine hl_yes (v := ?_) rfl (by kernel_rfl) (fun W hW => ?_) ?_; rotate_left; (go_simp; try with_reducible rfl)
    (try simp only [Act.put, gL])
    have q0 := HO1.out.cell 0 _ rfl
    have f0 := HO1.out.frozen 0
    refine hl_last rfl (by kernel_rfl) (fun K hK => ?_)
    go_simp
    refine hK.out _ _ ?_
    clear hK K HB
    (try simp only [Act.put, gL])
    replace HO1 := Lib.hid (HO1.out.set 0 (.int .u32 (n : Nat)))
    replace hbw := nB4 hbw (show w.heap.size ≤ (⟨w.heap.size, 0, none⟩ : Addr).block by simp <;> omega) (.int .u32 (n : Nat))
    clear q0 f0
    replace HO1 : Hid (Own _ _ _ [.int .u32 (n : Nat)]) := HO1
    generalize (W21.setCell ⟨w.heap.size, 0, none⟩ (.int .u32 (n : Nat))) = W22 at HO1 hbw ⊢
    go_wp2
    go_roundw
    case rel => exact ⟨1, n, rfl, .inr ⟨rfl, rfl⟩, hbw, HO1.out⟩
    case measure => simp [intOf]
   ·
    have hwd : Words .u32 B32 wr (some ⟨w.heap.size, 0, none⟩) 1 [x] := own_words (k := .u32) (l := [x]) (by simpa [wv] using hp) (by intro y hy; simp at hy; rw [hy]; have := HN.out; unfold B32; omega) 1 (by simp)
    have HR := Lib.hid (HT.out wr hwd)
    clear hwd hp HO1
    go_wp2_with fail
    refine HR.out.mono ?_
    rintro e w1 ⟨v1, rfl, hb1, hr1⟩
    have hbe : Below w.heap.size w w1 := nT hbw hb1
    have HV := Lib.hid (show rR w1 v1 x by simpa [vl] using hr1)
    clear hb1 hr1
    go_wp2_with fail
    go_ret
    exact ⟨_, rfl, hbe, HV.out⟩
set_option maxRecDepth 100000 in
set_option maxHeartbeats 1000000 in
/-- OutNat, of one byte -/
theorem outnat_c (w : World) (v : Value) (n : Nat) (h : rNat w v n) (fn : n < 256) : Calls Tryz.prog 63 #[v] w (Post w fun r w' => rR w' r n) := by
 obtain ⟨A, c, m, rfl, h⟩ := h.shape
 have H1 := Lib.hid h
 have HX := Lib.hid (fun W h => bytes_c W (.agg #[.slice A m c]) n h fn)
 have HF := Lib.hid (fun W v h => rfrom_c W v n h fn)
 have HB : Hid (Cells [(w.heap.size, 0, .slice A m c)] (w.alloc (.cells #[.slice A m c] 28))) := Lib.hid (Cells.cons (by go_simp) (Cells.nil _))
 have hbw : Below w.heap.size w (w.alloc (.cells #[.slice A m c] 28)) := (by repeat (first | assumption | exact nB1 _ _ | refine nB2 ?_ | refine pw_below_drewN ?_ _ | refine nB3 ?_ (by first | omega | (simp <;> omega)) _ | refine nB4 ?_ (by first | omega | (simp <;> omega)) _ | refine nB5 ?_ (by assumption) (by first | omega | (simp <;> omega))))
 clear h fn
 go_enter Tryz.func63, Tryz.ntmps63
 go_wp2_with fail
 generalize (w.alloc (.cells #[.slice A m c] 28)) = W0 at HB hbw ⊢
 obtain ⟨y0, _⟩ := id HB.out
 go_wp2_with fail
 clear y0
 refine (HX.out _ (H1.out.ext hbw)).mono ?_
 rintro e W1 ⟨v1, rfl, hb1, hr1⟩
 replace HB := Lib.hid (HB.out.ext hb1)
 replace hbw := nT hbw hb1
 have R1 := Lib.hid hr1
 clear hr1
 clear hb1
 have h1 := R1
 go_wp2_with fail
 refine (HF.out _ _ R1.out).mono ?_
 rintro e W2 ⟨v1, rfl, hb1, hr1⟩
 replace HB := Lib.hid (HB.out.ext hb1)
 replace hbw := nT hbw hb1
 have R2 := Lib.hid hr1
 clear hr1
 clear hb1
 go_wp2_with fail
 go_ret
 exact ⟨_, rfl, hbw, R2.out⟩
set_option maxRecDepth 100000 in
set_option maxHeartbeats 1000000 in
/-- OutInt, of one byte -/
theorem outint_c (w : World) (v : Value) (z : Int) (h : rInt w v z) (fn : z.natAbs < 256) : Calls Tryz.prog 61 #[v] w (Post w fun r w' => rRI w' r z) := by
 obtain ⟨s, A, c, n, rfl, h⟩ := h.shape
 have f8 : bl z.natAbs ≤ 8 := bl_le_of_lt (k := 8) fn
 have H1 := Lib.hid h
 have HS := Lib.hid (fun W h => sign_c W (.agg #[.bool s, .slice A n c]) z h (by unfold Fit; omega))
 have HA := Lib.hid (fun W h => abs_c W (.agg #[.bool s, .slice A n c]) z h)
 have HO := Lib.hid (fun W v h => outnat_c W v z.natAbs h fn)
 obtain ⟨t, et⟩ : ∃ t, z.sign = t := ⟨_, rfl⟩
 rw [et] at HS
 obtain ⟨q, eq⟩ : ∃ q, decide (t < 0) = q := ⟨_, rfl⟩
 have hq : (q && decide (0 < z.natAbs)) = decide (z < 0) := by
  rw [← eq, ← et]
  rcases Int.lt_trichotomy z 0 with h | h | h
  · rw [Int.sign_eq_neg_one_of_neg h, decide_eq_true h, decide_eq_true (show 0 < z.natAbs by omega)]; rfl
  · subst h; rfl
  · rw [Int.sign_eq_one_of_pos h, decide_eq_false (show ¬ z < 0 by omega)]; rfl
 obtain ⟨p, ep⟩ : ∃ p, decide (z < 0) = p := ⟨_, rfl⟩
 rw [ep] at hq
 have HI := Lib.hid (show ∀ W A1 m1 c1, rR W (.slice A1 m1 c1) z.natAbs → Calls Tryz.prog 94 #[.bool q, .slice A1 m1 c1] W (Post W fun r w' => r = .agg #[.bool p, .slice A1 m1 c1]) from fun W A1 m1 c1 h => by
  have := ri_c W q A1 m1 c1 z.natAbs h
  rw [hq] at this
  exact this)
 have HP := Lib.hid ep
 have HB : Hid (Cells [(w.heap.size, 0, .bool s), (w.heap.size, 1, .slice A n c)] ((w.alloc (.cells #[.bool s, .slice A n c] 30)).alloc (.cells #[.bool false, .slice none 0 0] 39))) := Lib.hid (Cells.cons (by go_simp) (Cells.cons (by go_simp) (Cells.nil _)))
 have HO0 := Lib.hid (Own.new' (w.alloc (.cells #[.bool s, .slice A n c] 30)) 39 [.bool false, .slice none 0 0] (w.heap.size + 1) (by simp))
 have hbw : Below w.heap.size w ((w.alloc (.cells #[.bool s, .slice A n c] 30)).alloc (.cells #[.bool false, .slice none 0 0] 39)) := (by repeat (first | assumption | exact nB1 _ _ | refine nB2 ?_ | refine pw_below_drewN ?_ _ | refine nB3 ?_ (by first | omega | (simp <;> omega)) _ | refine nB4 ?_ (by first | omega | (simp <;> omega)) _ | refine nB5 ?_ (by assumption) (by first | omega | (simp <;> omega))))
 clear h fn f8 et hq ep
 go_enter Tryz.func61, Tryz.ntmps61
 go_wp2_with fail
 generalize ((w.alloc (.cells #[.bool s, .slice A n c] 30)).alloc (.cells #[.bool false, .slice none 0 0] 39)) = W0 at HB HO0 hbw ⊢
 replace HB := Lib.hid (HB.out.drew)
 replace HO0 := Lib.hid (HO0.out.drew)
 replace hbw := Below.drew hbw
 refine wp_hoist [(0, true), (3, true), (1, false), (2, true), (4, false), (5, false), (6, false), (7, false)] (Cells [(w.heap.size, 0, .bool s), (w.heap.size, 1, .slice A n c)]) (by kernel_rfl) (by kernel_rfl) ?_ ?_
 · exact HB.out
 generalize W0.drew = W1 at HB HO0 hbw ⊢
 refine hz_yes (v := ?_) rfl (by kernel_rfl) (fun W hW => ?_) ?_; rotate_left; (obtain ⟨y0, y1, _⟩ := hW; go_simp; try with_reducible rfl)
 (try (conv => arg 6; simp only [Act.put, gL]))
 refine hz_yes (v := ?_) rfl (by kernel_rfl) (fun W hW => ?_) ?_; rotate_left; (obtain ⟨y0, y1, _⟩ := hW; go_simp; try with_reducible rfl)
 (try (conv => arg 6; simp only [Act.put, gL]))
 refine hz_eff rfl (by kernel_rfl) (fun K hK => ?_)
 refine wp_call (HS.out _ (H1.out.ext hbw)) (by kernel_rfl) ?_
 rintro v1 W2 hb1 rfl
 refine hK.out _ _ ?_ ?_
 · exact HB.out.ext hb1
 clear hK K
 (try (conv => arg 6; simp only [Act.put, gL]))
 replace HB := Lib.hid (HB.out.ext hb1)
 replace HO0 := Lib.hid (HO0.out.ext hb1)
 replace hbw := nT hbw hb1
 clear hb1
 refine hz_yes (v := ?_) rfl (by kernel_rfl) (fun W hW => ?_) ?_; rotate_left; (go_simp; try with_reducible rfl)
 (try (conv => arg 6; simp only [Act.put, gL]))
 refine hz_eff rfl (by kernel_rfl) (fun K hK => ?_)
 refine wp_call (HA.out _ (H1.out.ext hbw)) (by kernel_rfl) ?_
 rintro v1 W3 hb1 hr1
 obtain ⟨EA, Ec, En, rfl, hr1⟩ := hr1.shape
 refine hK.out _ _ ?_ ?_
 · exact HB.out.ext hb1
 clear hK K
 (try (conv => arg 6; simp only [Act.put, gL]))
 replace HB := Lib.hid (HB.out.ext hb1)
 replace HO0 := Lib.hid (HO0.out.ext hb1)
 replace hbw := nT hbw hb1
 have R1 := Lib.hid hr1
 clear hr1
 clear hb1
 refine hz_eff rfl (by kernel_rfl) (fun K hK => ?_)
 refine wp_call (HO.out _ _ R1.out) (by kernel_rfl) ?_
 rintro v1 W4 hb1 hr1
 obtain ⟨FA, Fc, Fn, rfl, hr1⟩ := hr1.shape
 refine hK.out _ _ ?_ ?_
 · exact HB.out.ext hb1
 clear hK K
 (try (conv => arg 6; simp only [Act.put, gL]))
 replace HB := Lib.hid (HB.out.ext hb1)
 replace HO0 := Lib.hid (HO0.out.ext hb1)
 replace R1 := Lib.hid (R1.out.ext hb1)
 replace hbw := nT hbw hb1
 have R2 := Lib.hid hr1
 clear hr1
 clear hb1
 refine hz_eff rfl (by kernel_rfl) (fun K hK => ?_)
 refine wp_call (HI.out _ _ _ _ R2.out) (by kernel_rfl) ?_
 rintro v1 W5 hb1 rfl
 refine hK.out _ _ ?_ ?_
 · exact HB.out.ext hb1
 clear hK K
 (try (conv => arg 6; simp only [Act.put, gL]))
 replace HB := Lib.hid (HB.out.ext hb1)
 replace HO0 := Lib.hid (HO0.out.ext hb1)
 replace R1 := Lib.hid (R1.out.ext hb1)
 replace R2 := Lib.hid (R2.out.ext hb1)
 replace hbw := nT hbw hb1
 clear hb1
 have q0 := HO0.out.cell 0 _ rfl
 have f0 := HO0.out.frozen 0
 have q1 := HO0.out.cell 1 _ rfl
 have f1 := HO0.out.frozen 1
 refine hz_eff rfl (by kernel_rfl) (fun K hK => ?_)
 go_simp
 refine hK.out _ _ ?_ ?_
 · exact ((HB.out.set (p := ⟨w.heap.size + 1, 0, none⟩) _ (by simp <;> omega)).set (p := ⟨w.heap.size + 1, 1, none⟩) _ (by simp <;> omega))
 clear hK K
 (try (conv => arg 6; simp only [Act.put, gL]))
 replace HB := Lib.hid (HB.out.set (p := ⟨w.heap.size + 1, 0, none⟩) (.bool p) (by simp <;> omega))
 replace HO0 := Lib.hid (HO0.out.set 0 (.bool p))
 replace R1 := Lib.hid (R1.out.set (x := .bool p) q0 rfl)
 replace R2 := Lib.hid (R2.out.set (x := .bool p) q0 rfl)
 replace hbw := nB4 hbw (show w.heap.size ≤ (⟨w.heap.size + 1, 0, none⟩ : Addr).block by simp <;> omega) (.bool p)
 replace q1 := (nC W5 ⟨w.heap.size + 1, 0, none⟩ ⟨w.heap.size + 1, 1, none⟩ (.bool p) (by simp)).trans q1
 replace HB := Lib.hid (HB.out.set (p := ⟨w.heap.size + 1, 1, none⟩) (.slice FA Fn Fc) (by simp <;> omega))
 replace HO0 := Lib.hid (HO0.out.set 1 (.slice FA Fn Fc))
 replace R1 := Lib.hid (R1.out.set (x := .slice FA Fn Fc) q1 rfl)
 replace R2 := Lib.hid (R2.out.set (x := .slice FA Fn Fc) q1 rfl)
 replace hbw := nB4 hbw (show w.heap.size ≤ (⟨w.heap.size + 1, 1, none⟩ : Addr).block by simp <;> omega) (.slice FA Fn Fc)
 clear q0 f0 q1 f1
 replace HO0 : Hid (Own _ _ _ [.bool p, .slice FA Fn Fc]) := HO0
 generalize ((W5.setCell ⟨w.heap.size + 1, 0, none⟩ (.bool p)).setCell ⟨w.heap.size + 1, 1, none⟩ (.slice FA Fn Fc)) = W6 at HB HO0 R1 R2 hbw ⊢
 refine hz_nil ?_
 go_wp2_with fail
 have kk0 := HO0.out.cell 0 _ rfl
 have kk1 := HO0.out.cell 1 _ rfl
 refine bodyPost_ret (v := .agg #[.bool p, .slice FA Fn Fc]) (by simp [results, Tryz.results61, go_sem, kk0, kk1]) rfl ⟨_, rfl, hbw, ?_⟩
 exact rRI.mk HP.out.symm R2.out
set_option maxRecDepth 100000 in
set_option maxHeartbeats 1000000 in
/-- Out, of small parts -/
theorem out_c (w : World) (v : Value) (q : Rat) (h : rQ w v q) (f1 : q.num.natAbs < 256) (f2 : q.den < 256) : Calls Tryz.prog 30 #[v] w (Post w fun r w' => rRQ w' r q) := by
 obtain ⟨s, A, c, n, B, k, m, rfl, h⟩ := h.shape
 have g8 : bl q.den ≤ 8 := bl_le_of_lt (k := 8) f2
 have H1 := Lib.hid h
 have HN := Lib.hid (fun W h => qnum_c W (.agg #[.bool s, .slice A n c, .slice B m k]) q h)
 have HD := Lib.hid (fun W h => qden_c W (.agg #[.bool s, .slice A n c, .slice B m k]) q h (by unfold Fit; omega))
 have HI := Lib.hid (fun W v h => outint_c W v q.num h f1)
 have HO := Lib.hid (fun W v h => outnat_c W v q.den h f2)
 have HB : Hid (Cells [(w.heap.size, 0, .bool s), (w.heap.size, 1, .slice A n c), (w.heap.size, 2, .slice B m k)] ((w.alloc (.cells #[.bool s, .slice A n c, .slice B m k] 32)).alloc (.cells #[.bool false, .slice none 0 0, .slice none 0 0] 41))) := Lib.hid (Cells.cons (by go_simp) (Cells.cons (by go_simp) (Cells.cons (by go_simp) (Cells.nil _))))
 have HO0 := Lib.hid (Own.new' (w.alloc (.cells #[.bool s, .slice A n c, .slice B m k] 32)) 41 [.bool false, .slice none 0 0, .slice none 0 0] (w.heap.size + 1) (by simp))
 have hbw : Below w.heap.size w ((w.alloc (.cells #[.bool s, .slice A n c, .slice B m k] 32)).alloc (.cells #[.bool false, .slice none 0 0, .slice none 0 0] 41)) := (by repeat (first | assumption | exact nB1 _ _ | refine nB2 ?_ | refine pw_below_drewN ?_ _ | refine nB3 ?_ (by first | omega | (simp <;> omega)) _ | refine nB4 ?_ (by first | omega | (simp <;> omega)) _ | refine nB5 ?_ (by assumption) (by first | omega | (simp <;> omega))))
 clear h f1 f2 g8
 go_enter Tryz.func30, Tryz.ntmps30
 go_wp2_with fail
 generalize ((w.alloc (.cells #[.bool s, .slice A n c, .slice B m k] 32)).alloc (.cells #[.bool false, .slice none 0 0, .slice none 0 0] 41)) = W0 at HB HO0 hbw ⊢
 replace HB := Lib.hid (HB.out.drew)
 replace HO0 := Lib.hid (HO0.out.drew)
 replace hbw := Below.drew hbw
 refine wp_hoist [(0, true), (3, true), (1, false), (2, false), (4, false), (5, false), (6, true), (7, false)] (Cells [(w.heap.size, 0, .bool s), (w.heap.size, 1, .slice A n c), (w.heap.size, 2, .slice B m k)]) (by kernel_rfl) (by kernel_rfl) ?_ ?_
 · exact HB.out
 generalize W0.drew = W1 at HB HO0 hbw ⊢
 refine hz_yes (v := ?_) rfl (by kernel_rfl) (fun W hW => ?_) ?_; rotate_left; (obtain ⟨y0, y1, y2, _⟩ := hW; go_simp; try with_reducible rfl)
 (try (conv => arg 6; simp only [Act.put, gL]))
 refine hz_yes (v := ?_) rfl (by kernel_rfl) (fun W hW => ?_) ?_; rotate_left; (obtain ⟨y0, y1, y2, _⟩ := hW; go_simp; try with_reducible rfl)
 (try (conv => arg 6; simp only [Act.put, gL]))
 refine hz_eff rfl (by kernel_rfl) (fun K hK => ?_)
 refine wp_call (HN.out _ (H1.out.ext hbw)) (by kernel_rfl) ?_
 rintro v1 W2 hb1 hr1
 obtain ⟨Es, EA, Ec, En, rfl, hr1⟩ := hr1.shape
 refine hK.out _ _ ?_ ?_
 · exact HB.out.ext hb1
 clear hK K
 (try (conv => arg 6; simp only [Act.put, gL]))
 replace HB := Lib.hid (HB.out.ext hb1)
 replace HO0 := Lib.hid (HO0.out.ext hb1)
 replace hbw := nT hbw hb1
 have R1 := Lib.hid hr1
 clear hr1
 clear hb1
 refine hz_eff rfl (by kernel_rfl) (fun K hK => ?_)
 refine wp_call (HI.out _ _ R1.out) (by kernel_rfl) ?_
 rintro v1 W3 hb1 hr1
 obtain ⟨Fs, FA, Fc, Fn, rfl, hr1⟩ := hr1.shape
 refine hK.out _ _ ?_ ?_
 · exact HB.out.ext hb1
 clear hK K
 (try (conv => arg 6; simp only [Act.put, gL]))
 replace HB := Lib.hid (HB.out.ext hb1)
 replace HO0 := Lib.hid (HO0.out.ext hb1)
 replace R1 := Lib.hid (R1.out.ext hb1)
 replace hbw := nT hbw hb1
 have R2 := Lib.hid hr1
 clear hr1
 clear hb1
 refine hz_eff rfl (by kernel_rfl) (fun K hK => ?_)
 refine wp_call (HD.out _ (H1.out.ext hbw)) (by kernel_rfl) ?_
 rintro v1 W4 hb1 hr1
 obtain ⟨GA, Gc, Gn, rfl, hr1⟩ := hr1.shape
 refine hK.out _ _ ?_ ?_
 · exact HB.out.ext hb1
 clear hK K
 (try (conv => arg 6; simp only [Act.put, gL]))
 replace HB := Lib.hid (HB.out.ext hb1)
 replace HO0 := Lib.hid (HO0.out.ext hb1)
 replace R1 := Lib.hid (R1.out.ext hb1)
 replace R2 := Lib.hid (R2.out.ext hb1)
 replace hbw := nT hbw hb1
 have R3 := Lib.hid hr1
 clear hr1
 clear hb1
 refine hz_eff rfl (by kernel_rfl) (fun K hK => ?_)
 refine wp_call (HO.out _ _ R3.out) (by kernel_rfl) ?_
 rintro v1 W5 hb1 hr1
 obtain ⟨HA, Hc, Hn, rfl, hr1⟩ := hr1.shape
 refine hK.out _ _ ?_ ?_
 · exact HB.out.ext hb1
 clear hK K
 (try (conv => arg 6; simp only [Act.put, gL]))
 replace HB := Lib.hid (HB.out.ext hb1)
 replace HO0 := Lib.hid (HO0.out.ext hb1)
 replace R1 := Lib.hid (R1.out.ext hb1)
 replace R2 := Lib.hid (R2.out.ext hb1)
 replace R3 := Lib.hid (R3.out.ext hb1)
 replace hbw := nT hbw hb1
 have R4 := Lib.hid hr1
 clear hr1
 clear hb1
 refine hz_yes (v := ?_) rfl (by kernel_rfl) (fun W hW => ?_) ?_; rotate_left; (go_simp; try with_reducible rfl)
 (try (conv => arg 6; simp only [Act.put, gL]))
 have q0 := HO0.out.cell 0 _ rfl
 have f0 := HO0.out.frozen 0
 have q1 := HO0.out.cell 1 _ rfl
 have f1 := HO0.out.frozen 1
 have q2 := HO0.out.cell 2 _ rfl
 have f2 := HO0.out.frozen 2
 refine hz_eff rfl (by kernel_rfl) (fun K hK => ?_)
 go_simp
 refine hK.out _ _ ?_ ?_
 · exact (((HB.out.set (p := ⟨w.heap.size + 1, 0, none⟩) _ (by simp <;> omega)).set (p := ⟨w.heap.size + 1, 1, none⟩) _ (by simp <;> omega)).set (p := ⟨w.heap.size + 1, 2, none⟩) _ (by simp <;> omega))
 clear hK K
 (try (conv => arg 6; simp only [Act.put, gL]))
 replace HB := Lib.hid (HB.out.set (p := ⟨w.heap.size + 1, 0, none⟩) (.bool Fs) (by simp <;> omega))
 replace HO0 := Lib.hid (HO0.out.set 0 (.bool Fs))
 replace R1 := Lib.hid (R1.out.set (x := .bool Fs) q0 rfl)
 replace R2 := Lib.hid (R2.out.set (x := .bool Fs) q0 rfl)
 replace R3 := Lib.hid (R3.out.set (x := .bool Fs) q0 rfl)
 replace R4 := Lib.hid (R4.out.set (x := .bool Fs) q0 rfl)
 replace hbw := nB4 hbw (show w.heap.size ≤ (⟨w.heap.size + 1, 0, none⟩ : Addr).block by simp <;> omega) (.bool Fs)
 replace q1 := (nC W5 ⟨w.heap.size + 1, 0, none⟩ ⟨w.heap.size + 1, 1, none⟩ (.bool Fs) (by simp)).trans q1
 replace q2 := (nC W5 ⟨w.heap.size + 1, 0, none⟩ ⟨w.heap.size + 1, 2, none⟩ (.bool Fs) (by simp)).trans q2
 replace HB := Lib.hid (HB.out.set (p := ⟨w.heap.size + 1, 1, none⟩) (.slice FA Fn Fc) (by simp <;> omega))
 replace HO0 := Lib.hid (HO0.out.set 1 (.slice FA Fn Fc))
 replace R1 := Lib.hid (R1.out.set (x := .slice FA Fn Fc) q1 rfl)
 replace R2 := Lib.hid (R2.out.set (x := .slice FA Fn Fc) q1 rfl)
 replace R3 := Lib.hid (R3.out.set (x := .slice FA Fn Fc) q1 rfl)
 replace R4 := Lib.hid (R4.out.set (x := .slice FA Fn Fc) q1 rfl)
 replace hbw := nB4 hbw (show w.heap.size ≤ (⟨w.heap.size + 1, 1, none⟩ : Addr).block by simp <;> omega) (.slice FA Fn Fc)
 replace q2 := (nC (W5.setCell ⟨w.heap.size + 1, 0, none⟩ (.bool Fs)) ⟨w.heap.size + 1, 1, none⟩ ⟨w.heap.size + 1, 2, none⟩ (.slice FA Fn Fc) (by simp)).trans q2
 replace HB := Lib.hid (HB.out.set (p := ⟨w.heap.size + 1, 2, none⟩) (.slice HA Hn Hc) (by simp <;> omega))
 replace HO0 := Lib.hid (HO0.out.set 2 (.slice HA Hn Hc))
 replace R1 := Lib.hid (R1.out.set (x := .slice HA Hn Hc) q2 rfl)
 replace R2 := Lib.hid (R2.out.set (x := .slice HA Hn Hc) q2 rfl)
 replace R3 := Lib.hid (R3.out.set (x := .slice HA Hn Hc) q2 rfl)
 replace R4 := Lib.hid (R4.out.set (x := .slice HA Hn Hc) q2 rfl)
 replace hbw := nB4 hbw (show w.heap.size ≤ (⟨w.heap.size + 1, 2, none⟩ : Addr).block by simp <;> omega) (.slice HA Hn Hc)
 clear q0 f0 q1 f1 q2 f2
 replace HO0 : Hid (Own _ _ _ [.bool Fs, .slice FA Fn Fc, .slice HA Hn Hc]) := HO0
 generalize (((W5.setCell ⟨w.heap.size + 1, 0, none⟩ (.bool Fs)).setCell ⟨w.heap.size + 1, 1, none⟩ (.slice FA Fn Fc)).setCell ⟨w.heap.size + 1, 2, none⟩ (.slice HA Hn Hc)) = W6 at HB HO0 R1 R2 R3 R4 hbw ⊢
 refine hz_nil ?_
 go_wp2_with fail
 have kk0 := HO0.out.cell 0 _ rfl
 have kk1 := HO0.out.cell 1 _ rfl
 have kk2 := HO0.out.cell 2 _ rfl
 refine bodyPost_ret (v := .agg #[.bool Fs, .slice FA Fn Fc, .slice HA Hn Hc]) (by simp [results, Tryz.results30, go_sem, kk0, kk1, kk2]) rfl ⟨_, rfl, hbw, ?_⟩
 have hi := R2.out
 obtain ⟨s', ev, hs⟩ := hi
 simp only [Value.agg.injEq, Array.mk.injEq, List.cons.injEq, Value.bool.injEq, and_true] at ev
 obtain ⟨e1, e2⟩ := ev
 subst e2
 exact ⟨FA, Fc, Fn, HA, Hc, Hn, by rw [e1], hs, R4.out⟩
end Go.Proofs.YtadpjidakippeaaGreat

/- abaculushand.Same, Is, of small parts. -/
namespace Go.Proofs.YtadpjidakippeaaGreat
open Go.RowKit
set_option maxRecDepth 100000 in
set_option maxHeartbeats 2000000 in
/-- Same, of small parts -/
theorem same_c (w : World) (va vb : Value) (a b : Rat) (ha : rQ w va a) (hb : rRQ w vb b) (f1 : a.num.natAbs < 256) (f2 : a.den < 256) (f3 : b.num.natAbs < 256) (f4 : b.den < 256) :
  Calls Tryz.prog 12 #[va, vb] w (Post w fun r _ => r = .bool (decide (a = b))) := by
 obtain ⟨s1, A1, c1, n1, B1, k1, m1, rfl, ha⟩ := ha.shape
 obtain ⟨s2, A2, c2, n2, B2, k2, m2, rfl, hb⟩ := hb.shape
 have H1 := Lib.hid ha
 have H2 := Lib.hid hb
 have HO := Lib.hid (fun W h => out_c W (.agg #[.bool s1, .slice A1 n1 c1, .slice B1 m1 k1]) a h f1 f2)
 have hm2 : m2 ≠ 0 := fun e => by have := hb.den.len0.1 e; have := b.den_pos; omega
 have hm0 : ((m2 : Int) == 0) = false := by rw [beq_eq_false_iff_ne]; omega
 have hm1 : ¬ (m2 : Int) = 0 := by omega
 have hs2 := hb.num.1
 have HC1 := Lib.hid (fun W v h h' => rcmp_c W v (.slice A2 n2 c2) a.num.natAbs b.num.natAbs h h' (by unfold B32; omega) (by unfold B32; omega))
 have HC2 := Lib.hid (fun W v h h' => rcmp_c W v (.slice B2 m2 k2) a.den b.den h h' (by unfold B32; omega) (by unfold B32; omega))
 obtain ⟨x, ex⟩ : ∃ x, cmpI a.num.natAbs b.num.natAbs = x := ⟨_, rfl⟩
 obtain ⟨y, ey⟩ : ∃ y, cmpI a.den b.den = y := ⟨_, rfl⟩
 have hx : x = 0 ↔ a.num.natAbs = b.num.natAbs := by
  rw [← ex]; unfold cmpI
  constructor
  · intro h; split at h <;> (try split at h) <;> omega
  · intro h; rw [if_neg (by omega), if_pos h]
 have hy : y = 0 ↔ a.den = b.den := by
  rw [← ey]; unfold cmpI
  constructor
  · intro h; split at h <;> (try split at h) <;> omega
  · intro h; rw [if_neg (by omega), if_pos h]
 rw [ex] at HC1
 rw [ey] at HC2
 have hab : a = b ↔ (x = 0 ∧ decide (a.num < 0) = s2 ∧ y = 0) := by
  rw [hx, hy, hs2]
  constructor
  · rintro rfl; exact ⟨rfl, rfl, rfl⟩
  ·
   rintro ⟨h1, h2, h3⟩
   refine Rat.ext ?_ h3
   have h4 : (a.num < 0) ↔ (b.num < 0) := by simpa using h2
   omega
 have HAB := Lib.hid hab
 obtain ⟨s5, es5⟩ : ∃ s, decide (a.num < 0) = s := ⟨_, rfl⟩
 rw [es5] at HAB
 have HS5 := Lib.hid es5
 clear ha hb f1 f2 f3 f4 hm2 hs2 ex ey hx hy hab es5
 have HB : Hid (Cells [(w.heap.size, 0, .bool s1), (w.heap.size, 1, .slice A1 n1 c1), (w.heap.size, 2, .slice B1 m1 k1), (w.heap.size + 1, 0, .bool s2), (w.heap.size + 1, 1, .slice A2 n2 c2), (w.heap.size + 1, 2, .slice B2 m2 k2)] ((w.alloc (.cells #[.bool s1, .slice A1 n1 c1, .slice B1 m1 k1] 32)).alloc (.cells #[.bool s2, .slice A2 n2 c2, .slice B2 m2 k2] 41))) := Lib.hid (Cells.cons (by go_simp) (Cells.cons (by go_simp) (Cells.cons (by go_simp) (Cells.cons (by go_simp) (Cells.cons (by go_simp) (Cells.cons (by go_simp) (Cells.nil _)))))))
 have hbw : Below w.heap.size w ((w.alloc (.cells #[.bool s1, .slice A1 n1 c1, .slice B1 m1 k1] 32)).alloc (.cells #[.bool s2, .slice A2 n2 c2, .slice B2 m2 k2] 41)) := (by repeat (first | assumption | exact nB1 _ _ | refine nB2 ?_ | refine pw_below_drewN ?_ _ | refine nB3 ?_ (by first | omega | (simp <;> omega)) _ | refine nB4 ?_ (by first | omega | (simp <;> omega)) _ | refine nB5 ?_ (by assumption) (by first | omega | (simp <;> omega))))
 go_enter Tryz.func12, Tryz.ntmps12
 go_wp2_with fail
 generalize ((w.alloc (.cells #[.bool s1, .slice A1 n1 c1, .slice B1 m1 k1] 32)).alloc (.cells #[.bool s2, .slice A2 n2 c2, .slice B2 m2 k2] 41)) = W0 at HB hbw ⊢
 obtain ⟨y0, y1, y2, y3, y4, y5, _⟩ := id HB.out
 go_wp2_with fail
 clear y0 y1 y2 y3 y4 y5
 refine (HO.out _ (H1.out.ext hbw)).mono ?_
 rintro e W1 ⟨v1, rfl, hb1, hr1⟩
 obtain ⟨Es, EA, Ec, En, EB, Ed, Em, rfl, hr1⟩ := hr1.shape
 replace HB := Lib.hid (HB.out.ext hb1)
 replace hbw := nT hbw hb1
 have R0 := Lib.hid hr1
 clear hr1
 clear hb1
 have hn := R0.out.num
 rw [HS5.out] at hn
 obtain ⟨rfl, hn⟩ := hn
 have R1 := Lib.hid hn
 have R2 := Lib.hid R0.out.den
 clear hn R0
 go_upto_region 2 with (fail)
 have z_H5 := hbw.size
 replace HB := Lib.hid (HB.out.alloc (.cells #[.bool Es, .slice EA En Ec, .slice EB Em Ed] 41))
 replace R1 := Lib.hid (R1.out.alloc (.cells #[.bool Es, .slice EA En Ec, .slice EB Em Ed] 41))
 replace R2 := Lib.hid (R2.out.alloc (.cells #[.bool Es, .slice EA En Ec, .slice EB Em Ed] 41))
 replace hbw := nB3 hbw hbw.size (.cells #[.bool Es, .slice EA En Ec, .slice EB Em Ed] 41)
 have H5 := Lib.hid (Own.new' W1 41 [.bool Es, .slice EA En Ec, .slice EB Em Ed] W1.heap.size rfl)
 obtain ⟨bH5, e_H5⟩ : ∃ b, W1.heap.size = b := ⟨_, rfl⟩
 simp only [e_H5] at H5 z_H5 ⊢
 generalize (W1.alloc (.cells #[.bool Es, .slice EA En Ec, .slice EB Em Ed] 41)) = W2 at HB R1 R2 H5 hbw ⊢
 obtain ⟨y0, y1, y2, y3, y4, y5, _⟩ := id HB.out
 have x_H5_0 := H5.out.cell 0 _ rfl
 have f_H5_0 := H5.out.frozen 0
 have x_H5_1 := H5.out.cell 1 _ rfl
 have f_H5_1 := H5.out.frozen 1
 have x_H5_2 := H5.out.cell 2 _ rfl
 have f_H5_2 := H5.out.frozen 2
 go_wp2_with fail
 clear y0 y1 y2 y3 y4 y5 x_H5_0 f_H5_0 x_H5_1 f_H5_1 x_H5_2 f_H5_2
 refine (HC1.out _ _ R1.out (H2.out.ext hbw).num.2).mono ?_
 rintro e W3 ⟨v1, rfl, hb1, rfl⟩
 replace HB := Lib.hid (HB.out.ext hb1)
 replace R1 := Lib.hid (R1.out.ext hb1)
 replace R2 := Lib.hid (R2.out.ext hb1)
 replace H5 := Lib.hid (H5.out.ext hb1)
 replace hbw := nT hbw hb1
 clear hb1
 obtain ⟨y0, y1, y2, y3, y4, y5, _⟩ := id HB.out
 have x_H5_0 := H5.out.cell 0 _ rfl
 have f_H5_0 := H5.out.frozen 0
 have x_H5_1 := H5.out.cell 1 _ rfl
 have f_H5_1 := H5.out.frozen 1
 have x_H5_2 := H5.out.cell 2 _ rfl
 have f_H5_2 := H5.out.frozen 2
 by_cases hx : x = 0
 ·
  have hxb : (x == 0) = true := by rw [beq_iff_eq]; exact hx
  by_cases hs : Es = s2
  ·
   have hsb : (Es == s2) = true := by rw [beq_iff_eq]; exact hs
   have HXS := Lib.hid (And.intro hx hs)
   clear hx hs
   go_wp2_with fail
   clear y0 y1 y2 y3 y4 y5 x_H5_0 f_H5_0 x_H5_1 f_H5_1 x_H5_2 f_H5_2
   refine (HC2.out _ _ R2.out (H2.out.ext hbw).den).mono ?_
   rintro e W4 ⟨v1, rfl, hb1, rfl⟩
   replace HB := Lib.hid (HB.out.ext hb1)
   replace R1 := Lib.hid (R1.out.ext hb1)
   replace R2 := Lib.hid (R2.out.ext hb1)
   replace H5 := Lib.hid (H5.out.ext hb1)
   replace hbw := nT hbw hb1
   clear hb1
   go_wp2_with fail
   go_ret
   refine ⟨_, rfl, hbw, ?_⟩
   have he : (y == 0) = decide (a = b) := by
    have h1 := HAB.out
    by_cases hy : y = 0
    · rw [decide_eq_true (h1.2 ⟨HXS.out.1, HXS.out.2, hy⟩)]; simp [hy]
    · rw [decide_eq_false (fun e => hy (h1.1 e).2.2)]; simp [hy]
   rw [← he]
   rfl
  ·
   have hsb : (Es == s2) = false := by rw [beq_eq_false_iff_ne]; exact hs
   have HXS := Lib.hid hs
   clear hs hx
   go_wp2_with fail
   go_ret
   refine ⟨_, rfl, hbw, ?_⟩
   rw [decide_eq_false (fun e => HXS.out (HAB.out.1 e).2.1)]
   rfl
 ·
  have hxb : (x == 0) = false := by rw [beq_eq_false_iff_ne]; exact hx
  have HXS := Lib.hid hx
  clear hx
  go_wp2_with fail
  go_ret
  refine ⟨_, rfl, hbw, ?_⟩
  rw [decide_eq_false (fun e => HXS.out (HAB.out.1 e).1)]
  rfl
set_option maxRecDepth 100000 in
set_option maxHeartbeats 2000000 in
/-- Is, of small parts -/
theorem is_c (w : World) (va : Value) (a : Rat) (z : Int) (d : Nat) (ha : rQ w va a) (f1 : a.num.natAbs < 256) (f2 : a.den < 256) (hz : z.natAbs < 256) (hd : 0 < d ∧ d < 256) :
  Calls Tryz.prog 21 #[va, .int .i64 z, .int .i64 (d : Nat)] w (Post w fun r _ => r = .bool (decide (a = mkRat z d))) := by
 obtain ⟨s1, A1, c1, n1, B1, k1, m1, rfl, ha⟩ := ha.shape
 have H1 := Lib.hid ha
 have HV := Lib.hid (fun W => rover_c W z d (by omega) (by omega))
 obtain ⟨p1, p2⟩ := mkRat_parts z d (by omega)
 have b1 : (mkRat z d).num.natAbs < 256 := by rw [p1]; exact Nat.lt_of_le_of_lt (natAbs_ediv_le _ _) hz
 have b2 : (mkRat z d).den < 256 := by rw [p2]; exact Nat.lt_of_le_of_lt (Nat.div_le_self _ _) hd.2
 have HS := Lib.hid (fun W u h h' => same_c W (.agg #[.bool s1, .slice A1 n1 c1, .slice B1 m1 k1]) u a (mkRat z d) h h' f1 f2 b1 b2)
 have HB : Hid (Cells [(w.heap.size, 0, .bool s1), (w.heap.size, 1, .slice A1 n1 c1), (w.heap.size, 2, .slice B1 m1 k1)] (w.alloc (.cells #[.bool s1, .slice A1 n1 c1, .slice B1 m1 k1] 32))) := Lib.hid (Cells.cons (by go_simp) (Cells.cons (by go_simp) (Cells.cons (by go_simp) (Cells.nil _))))
 have hbw : Below w.heap.size w (w.alloc (.cells #[.bool s1, .slice A1 n1 c1, .slice B1 m1 k1] 32)) := (by repeat (first | assumption | exact nB1 _ _ | refine nB2 ?_ | refine pw_below_drewN ?_ _ | refine nB3 ?_ (by first | omega | (simp <;> omega)) _ | refine nB4 ?_ (by first | omega | (simp <;> omega)) _ | refine nB5 ?_ (by assumption) (by first | omega | (simp <;> omega))))
 clear ha f1 f2 hz hd p1 p2 b1 b2
 go_enter Tryz.func21, Tryz.ntmps21
 go_wp2_with fail
 generalize (w.alloc (.cells #[.bool s1, .slice A1 n1 c1, .slice B1 m1 k1] 32)) = W0 at HB hbw ⊢
 replace HB := Lib.hid (HB.out.drew)
 replace hbw := Below.drew hbw
 refine wp_hoist [(0, true), (1, true), (2, true), (3, false), (4, false), (5, false)] (Cells [(w.heap.size, 0, .bool s1), (w.heap.size, 1, .slice A1 n1 c1), (w.heap.size, 2, .slice B1 m1 k1)]) (by kernel_rfl) (by kernel_rfl) ?_ ?_
 · exact HB.out
 generalize W0.drew = W1 at HB hbw ⊢
 refine hz_yes (v := ?_) rfl (by kernel_rfl) (fun W hW => ?_) ?_; rotate_left; (obtain ⟨y0, y1, y2, _⟩ := hW; go_simp; try with_reducible rfl)
 (try (conv => arg 6; simp only [Act.put, gL]))
 refine hz_yes (v := ?_) rfl (by kernel_rfl) (fun W hW => ?_) ?_; rotate_left; (go_simp; try with_reducible rfl)
 (try (conv => arg 6; simp only [Act.put, gL]))
 refine hz_yes (v := ?_) rfl (by kernel_rfl) (fun W hW => ?_) ?_; rotate_left; (go_simp; try with_reducible rfl)
 (try (conv => arg 6; simp only [Act.put, gL]))
 refine hz_eff rfl (by kernel_rfl) (fun K hK => ?_)
 refine wp_call (HV.out _) (by kernel_rfl) ?_
 rintro v1 W2 hb1 hr1
 obtain ⟨Es, EA, Ec, En, EB, Ed, Em, rfl, hr1⟩ := hr1.shape
 refine hK.out _ _ ?_ ?_
 · exact HB.out.ext hb1
 clear hK K
 (try (conv => arg 6; simp only [Act.put, gL]))
 replace HB := Lib.hid (HB.out.ext hb1)
 replace hbw := nT hbw hb1
 have R1 := Lib.hid hr1
 clear hr1
 clear hb1
 refine hz_eff rfl (by kernel_rfl) (fun K hK => ?_)
 refine wp_call (HS.out _ _ (H1.out.ext hbw) R1.out) (by kernel_rfl) ?_
 rintro v1 W3 hb1 rfl
 refine hK.out _ _ ?_ ?_
 · exact HB.out.ext hb1
 clear hK K
 (try (conv => arg 6; simp only [Act.put, gL]))
 replace HB := Lib.hid (HB.out.ext hb1)
 replace R1 := Lib.hid (R1.out.ext hb1)
 replace hbw := nT hbw hb1
 clear hb1
 refine hz_eff rfl (by kernel_rfl) (fun K hK => ?_)
 go_simp
 refine hK.out _ _ ?_ ?_
 · exact HB.out
 clear hK K
 (try (conv => arg 6; simp only [Act.put, gL]))
 refine hz_nil ?_
 go_wp2_with fail
 go_ret
 exact ⟨_, rfl, hbw, rfl⟩
end Go.Proofs.YtadpjidakippeaaGreat

/- score.Right; known of law 9. -/
namespace Go.Proofs.YtadpjidakippeaaGreat
open Go.RowKit
def SRightSaid (w' : World) (r : Value) (q : Rat) : Prop := ∃ s A c k B e m, r = .tuple #[.agg #[.bool s, .slice A k c, .slice B m e], .int .i64 0] ∧ rQ w' (.agg #[.bool s, .slice A k c, .slice B m e]) q
set_option maxRecDepth 100000 in
set_option maxHeartbeats 2000000 in
/-- Right -/
theorem sright_c (w : World) (va vb : Value) (a b : List Int) (ha : rIs w va a) (hb : rIs w vb b) (hab : b.length = a.length) (h0 : 0 < a.length) (hn : a.length ≤ 1099511627775) :
  Calls Tryz.prog 7 #[va, vb] w (Post w fun r w' => SRightSaid w' r (mkRat (alike a b a.length : Nat) a.length)) := by
 obtain ⟨A, c, rfl, ha⟩ := ha.shape
 obtain ⟨B, d, rfl, hb⟩ := hb.shape
 rw [hab] at hb ⊢
 obtain ⟨n, en⟩ : ∃ n, a.length = n := ⟨_, rfl⟩
 rw [en] at ha hb h0 hn hab ⊢
 have HC := Lib.hid (fun W b1 b2 h1 h2 h3 h4 => count_c W b1 b2 A B n c d a b h1 h2 h3 h4 en hab hn)
 have hal := alike_le a b n
 obtain ⟨s, es⟩ : ∃ s, alike a b n = s := ⟨_, rfl⟩
 rw [es] at HC hal ⊢
 have HO := Lib.hid (fun W => over_c W (s : Nat) n ⟨by omega, by omega⟩ (by omega))
 have HM := Lib.hid (fun W => matched_c W A B n n c d)
 rw [show decide (n = n ∧ 0 < n) = true from by simp [h0]] at HM
 have H1 := Lib.hid ha
 have H2 := Lib.hid hb
 have hmf : ∀ (fn : Fn) (first cap : Array Value) (w : World), (Instr.makeFunc fn first cap).run Tryz.prog w = .ok (.func fn first cap) w := fun _ _ _ _ => rfl
 clear ha hb en es hal hab
 have HB : Hid (Cells [(w.heap.size, 0, .slice A n c), (w.heap.size + 1, 0, .slice B n d)] (((w.alloc (.cells #[.slice A n c] 22)).alloc (.cells #[.slice B n d] 22)).alloc (.cells #[.bool false, .slice none 0 0, .slice none 0 0] 32))) := Lib.hid (Cells.cons (by go_simp) (Cells.cons (by go_simp) (Cells.nil _)))
 have HO0 := Lib.hid (Own.new' ((w.alloc (.cells #[.slice A n c] 22)).alloc (.cells #[.slice B n d] 22)) 32 [.bool false, .slice none 0 0, .slice none 0 0] (w.heap.size + 1 + 1) (by simp))
 have hbw : Below w.heap.size w (((w.alloc (.cells #[.slice A n c] 22)).alloc (.cells #[.slice B n d] 22)).alloc (.cells #[.bool false, .slice none 0 0, .slice none 0 0] 32)) := (by repeat (first | assumption | exact nB1 _ _ | refine nB2 ?_ | refine pw_below_drewN ?_ _ | refine nB3 ?_ (by first | omega | (simp <;> omega)) _ | refine nB4 ?_ (by first | omega | (simp <;> omega)) _ | refine nB5 ?_ (by assumption) (by first | omega | (simp <;> omega))))
 go_enter Tryz.func7, Tryz.ntmps7
 go_wp2_with fail
 generalize (((w.alloc (.cells #[.slice A n c] 22)).alloc (.cells #[.slice B n d] 22)).alloc (.cells #[.bool false, .slice none 0 0, .slice none 0 0] 32)) = W0 at HB HO0 hbw ⊢
 obtain ⟨y0, y1, _⟩ := id HB.out
 go_wp2_with fail
 clear y0 y1
 refine (HM.out _).mono ?_
 rintro e W1 ⟨v1, rfl, hb1, rfl⟩
 replace HB := Lib.hid (HB.out.ext hb1)
 replace HO0 := Lib.hid (HO0.out.ext hb1)
 replace hbw := nT hbw hb1
 clear hb1
 go_wp2_with fail
 replace HB := Lib.hid (HB.out.drew)
 replace HO0 := Lib.hid (HO0.out.drew)
 replace hbw := Below.drew hbw
 refine wp_hoist [(0, true), (1, true), (2, true), (4, true), (5, true), (3, false), (6, false), (7, false), (8, false)] (Cells [(w.heap.size, 0, .slice A n c), (w.heap.size + 1, 0, .slice B n d)]) (by kernel_rfl) (by kernel_rfl) ?_ ?_
 · exact HB.out
 generalize W1.drew = W2 at HB HO0 hbw ⊢
 refine hz_yes (v := ?_) rfl (by kernel_rfl) (fun W hW => ?_) ?_; rotate_left; (obtain ⟨y0, y1, _⟩ := hW; go_simp; try with_reducible rfl)
 (try (conv => arg 6; simp only [Act.put, gL]))
 refine hz_yes (v := ?_) rfl (by kernel_rfl) (fun W hW => ?_) ?_; rotate_left; (go_simp; try with_reducible rfl)
 (try (conv => arg 6; simp only [Act.put, gL]))
 refine hz_yes (v := ?_) rfl (by kernel_rfl) (fun W hW => ?_) ?_; rotate_left; (go_simp; try with_reducible rfl)
 (try (conv => arg 6; simp only [Act.put, gL]))
 refine hz_yes (v := ?_) rfl (by kernel_rfl) (fun W hW => ?_) ?_; rotate_left; (obtain ⟨y0, y1, _⟩ := hW; go_simp; try with_reducible rfl)
 (try (conv => arg 6; simp only [Act.put, gL]))
 refine hz_yes (v := ?_) rfl (by kernel_rfl) (fun W hW => ?_) ?_; rotate_left; (go_simp; try with_reducible rfl)
 (try (conv => arg 6; simp only [Act.put, gL]))
 refine hz_eff rfl (by kernel_rfl) (fun K hK => ?_)
 refine wp_call (HC.out _ _ _ HB.out.1 HB.out.2.1 (H1.out.ext hbw) (H2.out.ext hbw)) (by kernel_rfl) ?_
 rintro v1 W3 hb1 rfl
 refine hK.out _ _ ?_ ?_
 · exact HB.out.ext hb1
 clear hK K
 (try (conv => arg 6; simp only [Act.put, gL]))
 replace HB := Lib.hid (HB.out.ext hb1)
 replace HO0 := Lib.hid (HO0.out.ext hb1)
 replace hbw := nT hbw hb1
 clear hb1
 refine hz_eff rfl (by kernel_rfl) (fun K hK => ?_)
 refine wp_call (HO.out _) (by kernel_rfl) ?_
 rintro v1 W4 hb1 hr1
 obtain ⟨Es, EA, Ec, En, EB, Ed, Em, rfl, hr1⟩ := hr1.shape
 refine hK.out _ _ ?_ ?_
 · exact HB.out.ext hb1
 clear hK K
 (try (conv => arg 6; simp only [Act.put, gL]))
 replace HB := Lib.hid (HB.out.ext hb1)
 replace HO0 := Lib.hid (HO0.out.ext hb1)
 replace hbw := nT hbw hb1
 have R1 := Lib.hid hr1
 clear hr1
 clear hb1
 have q0 := HO0.out.cell 0 _ rfl
 have f0 := HO0.out.frozen 0
 have q1 := HO0.out.cell 1 _ rfl
 have f1 := HO0.out.frozen 1
 have q2 := HO0.out.cell 2 _ rfl
 have f2 := HO0.out.frozen 2
 refine hz_eff rfl (by kernel_rfl) (fun K hK => ?_)
 go_simp
 refine hK.out _ _ ?_ ?_
 · exact (((HB.out.set (p := ⟨w.heap.size + 1 + 1, 0, none⟩) _ (by simp <;> omega)).set (p := ⟨w.heap.size + 1 + 1, 1, none⟩) _ (by simp <;> omega)).set (p := ⟨w.heap.size + 1 + 1, 2, none⟩) _ (by simp <;> omega))
 clear hK K
 (try (conv => arg 6; simp only [Act.put, gL]))
 replace HB := Lib.hid (HB.out.set (p := ⟨w.heap.size + 1 + 1, 0, none⟩) (.bool Es) (by simp <;> omega))
 replace HO0 := Lib.hid (HO0.out.set 0 (.bool Es))
 replace R1 := Lib.hid (R1.out.set (x := .bool Es) q0 rfl)
 replace hbw := nB4 hbw (show w.heap.size ≤ (⟨w.heap.size + 1 + 1, 0, none⟩ : Addr).block by simp <;> omega) (.bool Es)
 replace q1 := (nC W4 ⟨w.heap.size + 1 + 1, 0, none⟩ ⟨w.heap.size + 1 + 1, 1, none⟩ (.bool Es) (by simp)).trans q1
 replace q2 := (nC W4 ⟨w.heap.size + 1 + 1, 0, none⟩ ⟨w.heap.size + 1 + 1, 2, none⟩ (.bool Es) (by simp)).trans q2
 replace HB := Lib.hid (HB.out.set (p := ⟨w.heap.size + 1 + 1, 1, none⟩) (.slice EA En Ec) (by simp <;> omega))
 replace HO0 := Lib.hid (HO0.out.set 1 (.slice EA En Ec))
 replace R1 := Lib.hid (R1.out.set (x := .slice EA En Ec) q1 rfl)
 replace hbw := nB4 hbw (show w.heap.size ≤ (⟨w.heap.size + 1 + 1, 1, none⟩ : Addr).block by simp <;> omega) (.slice EA En Ec)
 replace q2 := (nC (W4.setCell ⟨w.heap.size + 1 + 1, 0, none⟩ (.bool Es)) ⟨w.heap.size + 1 + 1, 1, none⟩ ⟨w.heap.size + 1 + 1, 2, none⟩ (.slice EA En Ec) (by simp)).trans q2
 replace HB := Lib.hid (HB.out.set (p := ⟨w.heap.size + 1 + 1, 2, none⟩) (.slice EB Em Ed) (by simp <;> omega))
 replace HO0 := Lib.hid (HO0.out.set 2 (.slice EB Em Ed))
 replace R1 := Lib.hid (R1.out.set (x := .slice EB Em Ed) q2 rfl)
 replace hbw := nB4 hbw (show w.heap.size ≤ (⟨w.heap.size + 1 + 1, 2, none⟩ : Addr).block by simp <;> omega) (.slice EB Em Ed)
 clear q0 f0 q1 f1 q2 f2
 replace HO0 : Hid (Own _ _ _ [.bool Es, .slice EA En Ec, .slice EB Em Ed]) := HO0
 generalize (((W4.setCell ⟨w.heap.size + 1 + 1, 0, none⟩ (.bool Es)).setCell ⟨w.heap.size + 1 + 1, 1, none⟩ (.slice EA En Ec)).setCell ⟨w.heap.size + 1 + 1, 2, none⟩ (.slice EB Em Ed)) = W5 at HB HO0 R1 hbw ⊢
 refine hz_eff rfl (by kernel_rfl) (fun K hK => ?_)
 go_simp
 refine hK.out _ _ ?_ ?_
 · exact HB.out
 clear hK K
 (try (conv => arg 6; simp only [Act.put, gL]))
 refine hz_nil ?_
 go_wp2_with fail
 have kk0 := HO0.out.cell 0 _ rfl
 have kk1 := HO0.out.cell 1 _ rfl
 have kk2 := HO0.out.cell 2 _ rfl
 refine bodyPost_ret (v := .tuple #[.agg #[.bool Es, .slice EA En Ec, .slice EB Em Ed], .int .i64 0]) (by simp [results, Tryz.results7, go_sem, kk0, kk1, kk2]) rfl ⟨_, rfl, hbw, ?_⟩
 exact ⟨_, _, _, _, _, _, _, rfl, R1.out⟩
theorem rIs_three {W : World} {b : Nat} {x y z : Int} (h : Own W b 3 [.int .i64 x, .int .i64 y, .int .i64 z]) (hx : I64 x) (hy : I64 y) (hz : I64 z) : rIs W (.slice (some ⟨b, 0, none⟩) 3 3) [x, y, z] := by
 refine ⟨_, 3, rfl, Nat.le_refl _, ?_, fun _ => ⟨b, 0, rfl, fun j hj => ?_⟩⟩
 ·
  intro u hu
  simp only [List.mem_cons, List.not_mem_nil, or_false] at hu
  rcases hu with rfl | rfl | rfl <;> assumption
 ·
  match j, hj with
  | 0, _ => exact h.cell 0 _ rfl
  | 1, _ => exact h.cell 1 _ rfl
  | 2, _ => exact h.cell 2 _ rfl
set_option maxRecDepth 100000 in
set_option maxHeartbeats 2000000 in
/-- known, of law 9 -/
theorem known9_c (w : World) : Calls Tryz.prog 11 #[] w (Post w fun r _ => r = .bool true) := by
 have HR := Lib.hid (fun W v u h h' => sright_c W v u [0, 1, 1] [0, 1, 0] h h' rfl (by simp) (by simp))
 rw [show mkRat (alike [0, 1, 1] [0, 1, 0] [(0 : Int), 1, 1].length : Nat) [(0 : Int), 1, 1].length = mkRat 2 3 from by kernel_rfl] at HR
 have HS := Lib.hid (fun W v h => is_c W v (mkRat 2 3) 2 3 h (by decide) (by decide) (by decide) (by decide))
 rw [show decide (mkRat 2 3 = mkRat ((2 : Int)) 3) = true from by kernel_rfl] at HS
 have HB : Hid (Cells [] ((w.alloc (.cells #[.int .i64 0, .int .i64 1, .int .i64 1] 3)).alloc (.cells #[.int .i64 0, .int .i64 1, .int .i64 0] 3))) := Lib.hid (Cells.nil _)
 have HO0 := Lib.hid ((Own.new' w 3 [.int .i64 0, .int .i64 1, .int .i64 1] (w.heap.size) (by simp)).alloc (.cells #[.int .i64 0, .int .i64 1, .int .i64 0] 3))
 have HO1 := Lib.hid (Own.new' (w.alloc (.cells #[.int .i64 0, .int .i64 1, .int .i64 1] 3)) 3 [.int .i64 0, .int .i64 1, .int .i64 0] (w.heap.size + 1) (by simp))
 have hbw : Below w.heap.size w ((w.alloc (.cells #[.int .i64 0, .int .i64 1, .int .i64 1] 3)).alloc (.cells #[.int .i64 0, .int .i64 1, .int .i64 0] 3)) := (by repeat (first | assumption | exact nB1 _ _ | refine nB2 ?_ | refine pw_below_drewN ?_ _ | refine nB3 ?_ (by first | omega | (simp <;> omega)) _ | refine nB4 ?_ (by first | omega | (simp <;> omega)) _ | refine nB5 ?_ (by assumption) (by first | omega | (simp <;> omega))))
 go_enter Tryz.func11, Tryz.ntmps11
 go_wp2_with fail
 generalize ((w.alloc (.cells #[.int .i64 0, .int .i64 1, .int .i64 1] 3)).alloc (.cells #[.int .i64 0, .int .i64 1, .int .i64 0] 3)) = W0 at HB HO0 HO1 hbw ⊢
 refine (HR.out _ _ _ (rIs_three HO0.out ⟨by omega, by omega⟩ ⟨by omega, by omega⟩ ⟨by omega, by omega⟩) (rIs_three HO1.out ⟨by omega, by omega⟩ ⟨by omega, by omega⟩ ⟨by omega, by omega⟩)).mono ?_
 rintro e W1 ⟨v1, rfl, hb1, s1, A1, c1, n1, B1, k1, m1, rfl, hr1⟩
 replace HB := Lib.hid (HB.out.ext hb1)
 replace HO0 := Lib.hid (HO0.out.ext hb1)
 replace HO1 := Lib.hid (HO1.out.ext hb1)
 replace hbw := nT hbw hb1
 have R1 := Lib.hid hr1
 clear hr1
 clear hb1
 go_upto_region 2 with (fail)
 have z_H1 := hbw.size
 have z_H1_HO0 := HO0.out.lt
 have z_H1_HO1 := HO1.out.lt
 replace HB := Lib.hid (HB.out.alloc (.cells #[.bool s1, .slice A1 n1 c1, .slice B1 m1 k1] 32))
 replace HO0 := Lib.hid (HO0.out.alloc (.cells #[.bool s1, .slice A1 n1 c1, .slice B1 m1 k1] 32))
 replace HO1 := Lib.hid (HO1.out.alloc (.cells #[.bool s1, .slice A1 n1 c1, .slice B1 m1 k1] 32))
 replace R1 := Lib.hid (R1.out.alloc (.cells #[.bool s1, .slice A1 n1 c1, .slice B1 m1 k1] 32))
 replace hbw := nB3 hbw hbw.size (.cells #[.bool s1, .slice A1 n1 c1, .slice B1 m1 k1] 32)
 have H1 := Lib.hid (Own.new' W1 32 [.bool s1, .slice A1 n1 c1, .slice B1 m1 k1] W1.heap.size rfl)
 obtain ⟨bH1, e_H1⟩ : ∃ b, W1.heap.size = b := ⟨_, rfl⟩
 simp only [e_H1] at H1 z_H1 z_H1_HO0 z_H1_HO1 ⊢
 generalize (W1.alloc (.cells #[.bool s1, .slice A1 n1 c1, .slice B1 m1 k1] 32)) = W2 at HB HO0 HO1 R1 H1 hbw ⊢
 have x_H1_0 := H1.out.cell 0 _ rfl
 have f_H1_0 := H1.out.frozen 0
 have x_H1_1 := H1.out.cell 1 _ rfl
 have f_H1_1 := H1.out.frozen 1
 have x_H1_2 := H1.out.cell 2 _ rfl
 have f_H1_2 := H1.out.frozen 2
 go_wp2_with fail
 clear x_H1_0 f_H1_0 x_H1_1 f_H1_1 x_H1_2 f_H1_2
 refine (HS.out _ _ R1.out).mono ?_
 rintro e W3 ⟨v1, rfl, hb1, rfl⟩
 replace HB := Lib.hid (HB.out.ext hb1)
 replace HO0 := Lib.hid (HO0.out.ext hb1)
 replace HO1 := Lib.hid (HO1.out.ext hb1)
 replace R1 := Lib.hid (R1.out.ext hb1)
 replace H1 := Lib.hid (H1.out.ext hb1)
 replace hbw := nT hbw hb1
 clear hb1
 go_wp2_with fail
 go_ret
 exact ⟨_, rfl, hbw, rfl⟩
end Go.Proofs.YtadpjidakippeaaGreat
