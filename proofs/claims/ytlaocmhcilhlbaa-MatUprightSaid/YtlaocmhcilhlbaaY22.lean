/- NatFrom of one byte at most; abaculushand.OutNat, OutInt, Out, of small parts. -/
import Derived.Test.YtlaocmhcilhlbaaY21
import Derived.Lib.EndianBits
set_option linter.unusedVariables false
set_option linter.unusedSimpArgs false
namespace Go.Proofs.Ytlaocmhcilhlbaa
open Go.RowKit
set_option maxRecDepth 100000 in
set_option maxHeartbeats 1000000 in
/-- NatFrom, of one byte at most -/
theorem rfrom_c (w : World) (v : Value) (n : Nat) (hb : rBy w v (byteOf n)) (fn : n < 256) : Calls Try.prog 105 #[v] w (Post w fun r w' => rR w' r n) := by
  obtain ⟨A, c, rfl, hw⟩ := hb
  rcases Nat.eq_zero_or_pos n with rfl | n0
  · rw [show (byteOf 0).length = 0 from rfl]
    have hmk := mk32 0 0 rfl (by omega)
    rw [show zeroW .u32 0 = #[] from rfl] at hmk
    have HT := Lib.hid (fun W (h : Words .u32 B32 W (some ⟨w.heap.size, 0, none⟩) 0 []) => rtrim_c W (some ⟨w.heap.size, 0, none⟩) 0 [] h (by simp))
    clear hw fn
    go_enter Try.func105, Try.ntmps105
    go_wp2_with fail
    go_loopw [4] (fun t W => t = .int .i64 0 ∧ Below w.heap.size w W) (fun _ _ => 0)
    case atStart => exact ⟨rfl, (by repeat (first | assumption | exact Below.refl _ _ | refine Below.drew ?_ | refine pw_below_drewN ?_ _ | refine Below.alloc ?_ (by first | omega | (simp <;> omega)) _ | refine Below.setCell ?_ (by first | omega | (simp <;> omega)) _ | refine Below.trans ?_ (Below.mono (by assumption) (by first | omega | (simp <;> omega)))))⟩
    case round =>
      obtain ⟨rfl, hbw⟩ := hrel
      have HR := Lib.hid (HT.out wr (Words.nil _ _ _ _ _))
      go_wp2_with fail
      refine HR.out.mono ?_
      rintro e w1 ⟨v1, rfl, hb1, hr1⟩
      have hbe : Below w.heap.size w w1 := Below.trans hbw (Below.mono hb1 hbw.size)
      have HV := Lib.hid hr1
      clear hb1 hr1
      go_wp2_with fail
      go_ret
      exact ⟨_, rfl, hbe, HV.out⟩
  · rw [byteOf_pos n0] at hw ⊢
    obtain ⟨g, o, rfl, hc⟩ := hw.2.2 (by simp)
    have xc : w.cell? ⟨g, o, none⟩ = some (.int .u8 (n : Nat)) := by have := hc 0 (by simp); simpa using this
    have hg := cell_lt xc
    have HC := Lib.hid xc
    have hmk := mk32 1 1 rfl (by omega)
    rw [show zeroW .u32 1 = #[.int .u32 0] from rfl] at hmk
    have HT := Lib.hid (fun W (h : Words .u32 B32 W (some ⟨w.heap.size, 0, none⟩) 1 [n]) => rtrim_c W (some ⟨w.heap.size, 0, none⟩) 1 [n] h (by simp))
    have w1 : IntKind.u32.wrap (n : Int) = (n : Int) := by rw [IntKind.wrap_u32]; omega
    have hw0 : IntKind.i64.wrap 0 = 0 := rfl
    have hor : bits .or .u32 0 (n : Int) = (n : Int) := by
      have := bits_join_low .u32 32 (by decide) (fun z h0 h1 => by rw [IntKind.wrap_u32]; omega) 0 0 (n : Int) (by omega) (by omega) (by omega) (by omega) (by simp [Int.emod_one]) (by omega)
      simpa using this
    have hwu : IntKind.u64.wrap 0 = 0 := rfl
    have hmod : (n : Int) % 4294967296 = (n : Int) := by omega
    have HN := Lib.hid (And.intro n0 fn)
    clear hw hc xc fn n0
    go_enter Try.func105, Try.ntmps105
    go_wp2_with fail
    go_loopw [4] (fun t W => ∃ k x : Nat, t = .int .i64 (k : Nat) ∧ ((k = 0 ∧ x = 0) ∨ (k = 1 ∧ x = n)) ∧ Below w.heap.size w W ∧ Own W w.heap.size 132 [.int .u32 (x : Nat)]) (fun t _ => (1 - intOf t).toNat)
    case atStart => exact ⟨0, 0, rfl, .inl ⟨rfl, rfl⟩, (by repeat (first | assumption | exact Below.refl _ _ | refine Below.drew ?_ | refine pw_below_drewN ?_ _ | refine Below.alloc ?_ (by first | omega | (simp <;> omega)) _ | refine Below.setCell ?_ (by first | omega | (simp <;> omega)) _ | refine Below.trans ?_ (Below.mono (by assumption) (by first | omega | (simp <;> omega))))), Own.new w 132 [.int .u32 0]⟩
    case round =>
      obtain ⟨k, x, rfl, hk, hbw, hp⟩ := hrel
      have HO1 := Lib.hid hp
      rcases hk with ⟨rfl, rfl⟩ | ⟨rfl, rfl⟩
      · have xc := ext_cell hbw HC.out
        clear hp
        go_wp2_with fail
        have HB : Hid (Cells [(w.heap.size, 0, .int .u32 0), (g, o, .int .u8 (n : Nat))] wr) := Lib.hid (Cells.cons (HO1.out.cell 0 _ rfl) (Cells.cons (xc) (Cells.nil _)))
        clear xc
        replace HB := Lib.hid (HB.out.drew)
        replace HO1 := Lib.hid (HO1.out.drew)
        replace hbw := Below.drew hbw
        refine wp_hoistL [(0, true), (1, true), (2, true), (3, true), (4, true), (5, true), (6, true), (7, true), (8, true), (9, true), (10, true), (11, true), (12, true), (13, true), (14, true), (15, true), (16, true), (17, true), (18, true), (19, true), (20, false)] 20 (Cells [(w.heap.size, 0, .int .u32 0), (g, o, .int .u8 (n : Nat))]) (by kernel_rfl) (by kernel_rfl) ?_ ?_
        · exact HB.out
        generalize wr.drew = W21 at HB HO1 hbw ⊢
        refine hl_yes (v := ?_) rfl (by kernel_rfl) (fun W hW => ?_) ?_; rotate_left; (go_simp; try with_reducible rfl)
        (try simp only [Act.put, gL1, gL2, gL3, gL4, gL5, gL6])
        refine hl_yes (v := ?_) rfl (by kernel_rfl) (fun W hW => ?_) ?_; rotate_left; (go_simp; try with_reducible rfl)
        (try simp only [Act.put, gL1, gL2, gL3, gL4, gL5, gL6])
        refine hl_yes (v := ?_) rfl (by kernel_rfl) (fun W hW => ?_) ?_; rotate_left; (go_simp; try with_reducible rfl)
        (try simp only [Act.put, gL1, gL2, gL3, gL4, gL5, gL6])
        refine hl_yes (v := ?_) rfl (by kernel_rfl) (fun W hW => ?_) ?_; rotate_left; (go_simp; try with_reducible rfl)
        (try simp only [Act.put, gL1, gL2, gL3, gL4, gL5, gL6])
        refine hl_yes (v := ?_) rfl (by kernel_rfl) (fun W hW => ?_) ?_; rotate_left; (go_simp; try with_reducible rfl)
        (try simp only [Act.put, gL1, gL2, gL3, gL4, gL5, gL6])
        refine hl_yes (v := ?_) rfl (by kernel_rfl) (fun W hW => ?_) ?_; rotate_left; (go_simp; try with_reducible rfl)
        (try simp only [Act.put, gL1, gL2, gL3, gL4, gL5, gL6])
        refine hl_yes (v := ?_) rfl (by kernel_rfl) (fun W hW => ?_) ?_; rotate_left; (go_simp; try with_reducible rfl)
        (try simp only [Act.put, gL1, gL2, gL3, gL4, gL5, gL6])
        refine hl_yes (v := ?_) rfl (by kernel_rfl) (fun W hW => ?_) ?_; rotate_left; (obtain ⟨y0, y1, _⟩ := hW; go_simp; try with_reducible rfl)
        (try simp only [Act.put, gL1, gL2, gL3, gL4, gL5, gL6])
        refine hl_yes (v := ?_) rfl (by kernel_rfl) (fun W hW => ?_) ?_; rotate_left; (go_simp; try with_reducible rfl)
        (try simp only [Act.put, gL1, gL2, gL3, gL4, gL5, gL6])
        refine hl_yes (v := ?_) rfl (by kernel_rfl) (fun W hW => ?_) ?_; rotate_left; (go_simp; try with_reducible rfl)
        (try simp only [Act.put, gL1, gL2, gL3, gL4, gL5, gL6])
        refine hl_yes (v := ?_) rfl (by kernel_rfl) (fun W hW => ?_) ?_; rotate_left; (go_simp; try with_reducible rfl)
        (try simp only [Act.put, gL1, gL2, gL3, gL4, gL5, gL6])
        refine hl_yes (v := ?_) rfl (by kernel_rfl) (fun W hW => ?_) ?_; rotate_left; (obtain ⟨y0, y1, _⟩ := hW; go_simp; try with_reducible rfl)
        (try simp only [Act.put, gL1, gL2, gL3, gL4, gL5, gL6])
        refine hl_yes (v := ?_) rfl (by kernel_rfl) (fun W hW => ?_) ?_; rotate_left; (go_simp; try with_reducible rfl)
        (try simp only [Act.put, gL1, gL2, gL3, gL4, gL5, gL6])
        refine hl_yes (v := ?_) rfl (by kernel_rfl) (fun W hW => ?_) ?_; rotate_left; (go_simp; try with_reducible rfl)
        (try simp only [Act.put, gL1, gL2, gL3, gL4, gL5, gL6])
        refine hl_yes (v := ?_) rfl (by kernel_rfl) (fun W hW => ?_) ?_; rotate_left; (go_simp; try with_reducible rfl)
        (try simp only [Act.put, gL1, gL2, gL3, gL4, gL5, gL6])
        refine hl_yes (v := ?_) rfl (by kernel_rfl) (fun W hW => ?_) ?_; rotate_left; (go_simp; try with_reducible rfl)
        (try simp only [Act.put, gL1, gL2, gL3, gL4, gL5, gL6])
        refine hl_yes (v := ?_) rfl (by kernel_rfl) (fun W hW => ?_) ?_; rotate_left; (go_simp; try with_reducible rfl)
        (try simp only [Act.put, gL1, gL2, gL3, gL4, gL5, gL6])
        refine hl_yes (v := ?_) rfl (by kernel_rfl) (fun W hW => ?_) ?_; rotate_left; (go_simp; try with_reducible rfl)
        (try simp only [Act.put, gL1, gL2, gL3, gL4, gL5, gL6])
        refine hl_yes (v := ?_) rfl (by kernel_rfl) (fun W hW => ?_) ?_; rotate_left; (go_simp; try with_reducible rfl)
        (try simp only [Act.put, gL1, gL2, gL3, gL4, gL5, gL6])
        refine hl_yes (v := ?_) rfl (by kernel_rfl) (fun W hW => ?_) ?_; rotate_left; (go_simp; try with_reducible rfl)
        (try simp only [Act.put, gL1, gL2, gL3, gL4, gL5, gL6])
        have q0 := HO1.out.cell 0 _ rfl
        have f0 := HO1.out.frozen 0
        refine hl_last rfl (by kernel_rfl) (fun K hK => ?_)
        go_simp
        refine hK.out _ _ ?_
        clear hK K HB
        (try simp only [Act.put, gL1, gL2, gL3, gL4, gL5, gL6])
        replace HO1 := Lib.hid (HO1.out.set 0 (.int .u32 (n : Nat)))
        replace hbw := Below.setCell hbw (show w.heap.size ≤ (⟨w.heap.size, 0, none⟩ : Addr).block by simp <;> omega) (.int .u32 (n : Nat))
        clear q0 f0
        replace HO1 : Hid (Own _ _ _ [.int .u32 (n : Nat)]) := HO1
        generalize (W21.setCell ⟨w.heap.size, 0, none⟩ (.int .u32 (n : Nat))) = W22 at HO1 hbw ⊢
        go_wp2
        go_roundw
        case rel => exact ⟨1, n, rfl, .inr ⟨rfl, rfl⟩, hbw, HO1.out⟩
        case measure => simp [intOf]
      · have hwd : Words .u32 B32 wr (some ⟨w.heap.size, 0, none⟩) 1 [x] := own_words (k := .u32) (l := [x]) (by simpa [wv] using hp) (by intro y hy; simp at hy; rw [hy]; have := HN.out; unfold B32; omega) 1 (by simp)
        have HR := Lib.hid (HT.out wr hwd)
        clear hwd hp HO1
        go_wp2_with fail
        refine HR.out.mono ?_
        rintro e w1 ⟨v1, rfl, hb1, hr1⟩
        have hbe : Below w.heap.size w w1 := Below.trans hbw (Below.mono hb1 hbw.size)
        have HV := Lib.hid (show rR w1 v1 x by simpa [vl] using hr1)
        clear hb1 hr1
        go_wp2_with fail
        go_ret
        exact ⟨_, rfl, hbe, HV.out⟩
set_option maxRecDepth 100000 in
set_option maxHeartbeats 1000000 in
/-- OutNat, of one byte -/
theorem outnat_c (w : World) (v : Value) (n : Nat) (h : rNat w v n) (fn : n < 256) : Calls Try.prog 93 #[v] w (Post w fun r w' => rR w' r n) := by
  obtain ⟨A, c, m, rfl, h⟩ := h.shape
  have H1 := Lib.hid h
  have HX := Lib.hid (fun W h => bytes_c W (.agg #[.slice A m c]) n h fn)
  have HF := Lib.hid (fun W v h => rfrom_c W v n h fn)
  have HB : Hid (Cells [(w.heap.size, 0, .slice A m c)] (w.alloc (.cells #[.slice A m c] 30))) := Lib.hid (Cells.cons (by go_simp) (Cells.nil _))
  have hbw : Below w.heap.size w (w.alloc (.cells #[.slice A m c] 30)) := (by repeat (first | assumption | exact Below.refl _ _ | refine Below.drew ?_ | refine pw_below_drewN ?_ _ | refine Below.alloc ?_ (by first | omega | (simp <;> omega)) _ | refine Below.setCell ?_ (by first | omega | (simp <;> omega)) _ | refine Below.trans ?_ (Below.mono (by assumption) (by first | omega | (simp <;> omega)))))
  clear h fn
  go_enter Try.func93, Try.ntmps93
  go_wp2_with fail
  generalize (w.alloc (.cells #[.slice A m c] 30)) = W0 at HB hbw ⊢
  obtain ⟨y0, _⟩ := id HB.out
  go_wp2_with fail
  clear y0
  refine (HX.out _ (H1.out.ext hbw)).mono ?_
  rintro e W1 ⟨v1, rfl, hb1, hr1⟩
  replace HB := Lib.hid (HB.out.ext hb1)
  replace hbw := Below.trans hbw (Below.mono hb1 hbw.size)
  have R1 := Lib.hid hr1
  clear hr1
  clear hb1
  have h1 := R1
  go_wp2_with fail
  refine (HF.out _ _ R1.out).mono ?_
  rintro e W2 ⟨v1, rfl, hb1, hr1⟩
  replace HB := Lib.hid (HB.out.ext hb1)
  replace hbw := Below.trans hbw (Below.mono hb1 hbw.size)
  have R2 := Lib.hid hr1
  clear hr1
  clear hb1
  go_wp2_with fail
  go_ret
  exact ⟨_, rfl, hbw, R2.out⟩
set_option maxRecDepth 100000 in
set_option maxHeartbeats 1000000 in
/-- OutInt, of one byte -/
theorem outint_c (w : World) (v : Value) (z : Int) (h : rInt w v z) (fn : z.natAbs < 256) : Calls Try.prog 91 #[v] w (Post w fun r w' => rRI w' r z) := by
  obtain ⟨s, A, c, n, rfl, h⟩ := h.shape
  have f8 : bl z.natAbs ≤ 8 := bl_le_of_lt (k := 8) fn
  have H1 := Lib.hid h
  have HS := Lib.hid (fun W h => sign_c W (.agg #[.bool s, .slice A n c]) z h (by unfold Fit; omega))
  have HA := Lib.hid (fun W h => abs_c W (.agg #[.bool s, .slice A n c]) z h)
  have HO := Lib.hid (fun W v h => outnat_c W v z.natAbs h fn)
  obtain ⟨t, et⟩ : ∃ t, z.sign = t := ⟨_, rfl⟩
  rw [et] at HS
  obtain ⟨q, eq⟩ : ∃ q, decide (t < 0) = q := ⟨_, rfl⟩
  have hq : (q && decide (0 < z.natAbs)) = decide (z < 0) := by
    rw [← eq, ← et]
    rcases Int.lt_trichotomy z 0 with h | h | h
    · rw [Int.sign_eq_neg_one_of_neg h, decide_eq_true h, decide_eq_true (show 0 < z.natAbs by omega)]; rfl
    · subst h; rfl
    · rw [Int.sign_eq_one_of_pos h, decide_eq_false (show ¬ z < 0 by omega)]; rfl
  obtain ⟨p, ep⟩ : ∃ p, decide (z < 0) = p := ⟨_, rfl⟩
  rw [ep] at hq
  have HI := Lib.hid (show ∀ W A1 m1 c1, rR W (.slice A1 m1 c1) z.natAbs → Calls Try.prog 84 #[.bool q, .slice A1 m1 c1] W (Post W fun r w' => r = .agg #[.bool p, .slice A1 m1 c1]) from fun W A1 m1 c1 h => by
    have := ri_c W q A1 m1 c1 z.natAbs h
    rw [hq] at this
    exact this)
  have HP := Lib.hid ep
  have HB : Hid (Cells [(w.heap.size, 0, .bool s), (w.heap.size, 1, .slice A n c)] ((w.alloc (.cells #[.bool s, .slice A n c] 32)).alloc (.cells #[.bool false, .slice none 0 0] 63))) := Lib.hid (Cells.cons (by go_simp) (Cells.cons (by go_simp) (Cells.nil _)))
  have HO0 := Lib.hid (Own.new' (w.alloc (.cells #[.bool s, .slice A n c] 32)) 63 [.bool false, .slice none 0 0] (w.heap.size + 1) (by simp))
  have hbw : Below w.heap.size w ((w.alloc (.cells #[.bool s, .slice A n c] 32)).alloc (.cells #[.bool false, .slice none 0 0] 63)) := (by repeat (first | assumption | exact Below.refl _ _ | refine Below.drew ?_ | refine pw_below_drewN ?_ _ | refine Below.alloc ?_ (by first | omega | (simp <;> omega)) _ | refine Below.setCell ?_ (by first | omega | (simp <;> omega)) _ | refine Below.trans ?_ (Below.mono (by assumption) (by first | omega | (simp <;> omega)))))
  clear h fn f8 et hq ep
  go_enter Try.func91, Try.ntmps91
  go_wp2_with fail
  generalize ((w.alloc (.cells #[.bool s, .slice A n c] 32)).alloc (.cells #[.bool false, .slice none 0 0] 63)) = W0 at HB HO0 hbw ⊢
  replace HB := Lib.hid (HB.out.drew)
  replace HO0 := Lib.hid (HO0.out.drew)
  replace hbw := Below.drew hbw
  refine wp_hoist [(0, true), (3, true), (1, false), (2, true), (4, false), (5, false), (6, false), (7, false)] (Cells [(w.heap.size, 0, .bool s), (w.heap.size, 1, .slice A n c)]) (by kernel_rfl) (by kernel_rfl) ?_ ?_
  · exact HB.out
  generalize W0.drew = W1 at HB HO0 hbw ⊢
  refine hz_yes (v := ?_) rfl (by kernel_rfl) (fun W hW => ?_) ?_; rotate_left; (obtain ⟨y0, y1, _⟩ := hW; go_simp; try with_reducible rfl)
  (try (conv => arg 6; simp only [Act.put, gL1, gL2, gL3, gL4, gL5, gL6]))
  refine hz_yes (v := ?_) rfl (by kernel_rfl) (fun W hW => ?_) ?_; rotate_left; (obtain ⟨y0, y1, _⟩ := hW; go_simp; try with_reducible rfl)
  (try (conv => arg 6; simp only [Act.put, gL1, gL2, gL3, gL4, gL5, gL6]))
  refine hz_eff rfl (by kernel_rfl) (fun K hK => ?_)
  refine wp_call (HS.out _ (H1.out.ext hbw)) (by kernel_rfl) ?_
  rintro v1 W2 hb1 rfl
  refine hK.out _ _ ?_ ?_
  · exact HB.out.ext hb1
  clear hK K
  (try (conv => arg 6; simp only [Act.put, gL1, gL2, gL3, gL4, gL5, gL6]))
  replace HB := Lib.hid (HB.out.ext hb1)
  replace HO0 := Lib.hid (HO0.out.ext hb1)
  replace hbw := Below.trans hbw (Below.mono hb1 hbw.size)
  clear hb1
  refine hz_yes (v := ?_) rfl (by kernel_rfl) (fun W hW => ?_) ?_; rotate_left; (go_simp; try with_reducible rfl)
  (try (conv => arg 6; simp only [Act.put, gL1, gL2, gL3, gL4, gL5, gL6]))
  refine hz_eff rfl (by kernel_rfl) (fun K hK => ?_)
  refine wp_call (HA.out _ (H1.out.ext hbw)) (by kernel_rfl) ?_
  rintro v1 W3 hb1 hr1
  obtain ⟨EA, Ec, En, rfl, hr1⟩ := hr1.shape
  refine hK.out _ _ ?_ ?_
  · exact HB.out.ext hb1
  clear hK K
  (try (conv => arg 6; simp only [Act.put, gL1, gL2, gL3, gL4, gL5, gL6]))
  replace HB := Lib.hid (HB.out.ext hb1)
  replace HO0 := Lib.hid (HO0.out.ext hb1)
  replace hbw := Below.trans hbw (Below.mono hb1 hbw.size)
  have R1 := Lib.hid hr1
  clear hr1
  clear hb1
  refine hz_eff rfl (by kernel_rfl) (fun K hK => ?_)
  refine wp_call (HO.out _ _ R1.out) (by kernel_rfl) ?_
  rintro v1 W4 hb1 hr1
  obtain ⟨FA, Fc, Fn, rfl, hr1⟩ := hr1.shape
  refine hK.out _ _ ?_ ?_
  · exact HB.out.ext hb1
  clear hK K
  (try (conv => arg 6; simp only [Act.put, gL1, gL2, gL3, gL4, gL5, gL6]))
  replace HB := Lib.hid (HB.out.ext hb1)
  replace HO0 := Lib.hid (HO0.out.ext hb1)
  replace R1 := Lib.hid (R1.out.ext hb1)
  replace hbw := Below.trans hbw (Below.mono hb1 hbw.size)
  have R2 := Lib.hid hr1
  clear hr1
  clear hb1
  refine hz_eff rfl (by kernel_rfl) (fun K hK => ?_)
  refine wp_call (HI.out _ _ _ _ R2.out) (by kernel_rfl) ?_
  rintro v1 W5 hb1 rfl
  refine hK.out _ _ ?_ ?_
  · exact HB.out.ext hb1
  clear hK K
  (try (conv => arg 6; simp only [Act.put, gL1, gL2, gL3, gL4, gL5, gL6]))
  replace HB := Lib.hid (HB.out.ext hb1)
  replace HO0 := Lib.hid (HO0.out.ext hb1)
  replace R1 := Lib.hid (R1.out.ext hb1)
  replace R2 := Lib.hid (R2.out.ext hb1)
  replace hbw := Below.trans hbw (Below.mono hb1 hbw.size)
  clear hb1
  have q0 := HO0.out.cell 0 _ rfl
  have f0 := HO0.out.frozen 0
  have q1 := HO0.out.cell 1 _ rfl
  have f1 := HO0.out.frozen 1
  refine hz_eff rfl (by kernel_rfl) (fun K hK => ?_)
  go_simp
  refine hK.out _ _ ?_ ?_
  · exact ((HB.out.set (p := ⟨w.heap.size + 1, 0, none⟩) _ (by simp <;> omega)).set (p := ⟨w.heap.size + 1, 1, none⟩) _ (by simp <;> omega))
  clear hK K
  (try (conv => arg 6; simp only [Act.put, gL1, gL2, gL3, gL4, gL5, gL6]))
  replace HB := Lib.hid (HB.out.set (p := ⟨w.heap.size + 1, 0, none⟩) (.bool p) (by simp <;> omega))
  replace HO0 := Lib.hid (HO0.out.set 0 (.bool p))
  replace R1 := Lib.hid (R1.out.set (x := .bool p) q0 rfl)
  replace R2 := Lib.hid (R2.out.set (x := .bool p) q0 rfl)
  replace hbw := Below.setCell hbw (show w.heap.size ≤ (⟨w.heap.size + 1, 0, none⟩ : Addr).block by simp <;> omega) (.bool p)
  replace q1 := (World.cell?_setCell_other W5 ⟨w.heap.size + 1, 0, none⟩ ⟨w.heap.size + 1, 1, none⟩ (.bool p) (by simp)).trans q1
  replace HB := Lib.hid (HB.out.set (p := ⟨w.heap.size + 1, 1, none⟩) (.slice FA Fn Fc) (by simp <;> omega))
  replace HO0 := Lib.hid (HO0.out.set 1 (.slice FA Fn Fc))
  replace R1 := Lib.hid (R1.out.set (x := .slice FA Fn Fc) q1 rfl)
  replace R2 := Lib.hid (R2.out.set (x := .slice FA Fn Fc) q1 rfl)
  replace hbw := Below.setCell hbw (show w.heap.size ≤ (⟨w.heap.size + 1, 1, none⟩ : Addr).block by simp <;> omega) (.slice FA Fn Fc)
  clear q0 f0 q1 f1
  replace HO0 : Hid (Own _ _ _ [.bool p, .slice FA Fn Fc]) := HO0
  generalize ((W5.setCell ⟨w.heap.size + 1, 0, none⟩ (.bool p)).setCell ⟨w.heap.size + 1, 1, none⟩ (.slice FA Fn Fc)) = W6 at HB HO0 R1 R2 hbw ⊢
  refine hz_nil ?_
  go_wp2_with fail
  have kk0 := HO0.out.cell 0 _ rfl
  have kk1 := HO0.out.cell 1 _ rfl
  refine bodyPost_ret (v := .agg #[.bool p, .slice FA Fn Fc]) (by simp [results, Try.results91, go_sem, kk0, kk1]) rfl ⟨_, rfl, hbw, ?_⟩
  exact rRI.mk HP.out.symm R2.out
set_option maxRecDepth 100000 in
set_option maxHeartbeats 1000000 in
/-- Out, of small parts -/
theorem out_c (w : World) (v : Value) (q : Rat) (h : rQ w v q) (f1 : q.num.natAbs < 256) (f2 : q.den < 256) : Calls Try.prog 79 #[v] w (Post w fun r w' => rRQ w' r q) := by
  obtain ⟨s, A, c, n, B, k, m, rfl, h⟩ := h.shape
  have g8 : bl q.den ≤ 8 := bl_le_of_lt (k := 8) f2
  have H1 := Lib.hid h
  have HN := Lib.hid (fun W h => qnum_c W (.agg #[.bool s, .slice A n c, .slice B m k]) q h)
  have HD := Lib.hid (fun W h => qden_c W (.agg #[.bool s, .slice A n c, .slice B m k]) q h (by unfold Fit; omega))
  have HI := Lib.hid (fun W v h => outint_c W v q.num h f1)
  have HO := Lib.hid (fun W v h => outnat_c W v q.den h f2)
  have HB : Hid (Cells [(w.heap.size, 0, .bool s), (w.heap.size, 1, .slice A n c), (w.heap.size, 2, .slice B m k)] ((w.alloc (.cells #[.bool s, .slice A n c, .slice B m k] 34)).alloc (.cells #[.bool false, .slice none 0 0, .slice none 0 0] 65))) := Lib.hid (Cells.cons (by go_simp) (Cells.cons (by go_simp) (Cells.cons (by go_simp) (Cells.nil _))))
  have HO0 := Lib.hid (Own.new' (w.alloc (.cells #[.bool s, .slice A n c, .slice B m k] 34)) 65 [.bool false, .slice none 0 0, .slice none 0 0] (w.heap.size + 1) (by simp))
  have hbw : Below w.heap.size w ((w.alloc (.cells #[.bool s, .slice A n c, .slice B m k] 34)).alloc (.cells #[.bool false, .slice none 0 0, .slice none 0 0] 65)) := (by repeat (first | assumption | exact Below.refl _ _ | refine Below.drew ?_ | refine pw_below_drewN ?_ _ | refine Below.alloc ?_ (by first | omega | (simp <;> omega)) _ | refine Below.setCell ?_ (by first | omega | (simp <;> omega)) _ | refine Below.trans ?_ (Below.mono (by assumption) (by first | omega | (simp <;> omega)))))
  clear h f1 f2 g8
  go_enter Try.func79, Try.ntmps79
  go_wp2_with fail
  generalize ((w.alloc (.cells #[.bool s, .slice A n c, .slice B m k] 34)).alloc (.cells #[.bool false, .slice none 0 0, .slice none 0 0] 65)) = W0 at HB HO0 hbw ⊢
  replace HB := Lib.hid (HB.out.drew)
  replace HO0 := Lib.hid (HO0.out.drew)
  replace hbw := Below.drew hbw
  refine wp_hoist [(0, true), (3, true), (1, false), (2, false), (4, false), (5, false), (6, true), (7, false)] (Cells [(w.heap.size, 0, .bool s), (w.heap.size, 1, .slice A n c), (w.heap.size, 2, .slice B m k)]) (by kernel_rfl) (by kernel_rfl) ?_ ?_
  · exact HB.out
  generalize W0.drew = W1 at HB HO0 hbw ⊢
  refine hz_yes (v := ?_) rfl (by kernel_rfl) (fun W hW => ?_) ?_; rotate_left; (obtain ⟨y0, y1, y2, _⟩ := hW; go_simp; try with_reducible rfl)
  (try (conv => arg 6; simp only [Act.put, gL1, gL2, gL3, gL4, gL5, gL6]))
  refine hz_yes (v := ?_) rfl (by kernel_rfl) (fun W hW => ?_) ?_; rotate_left; (obtain ⟨y0, y1, y2, _⟩ := hW; go_simp; try with_reducible rfl)
  (try (conv => arg 6; simp only [Act.put, gL1, gL2, gL3, gL4, gL5, gL6]))
  refine hz_eff rfl (by kernel_rfl) (fun K hK => ?_)
  refine wp_call (HN.out _ (H1.out.ext hbw)) (by kernel_rfl) ?_
  rintro v1 W2 hb1 hr1
  obtain ⟨Es, EA, Ec, En, rfl, hr1⟩ := hr1.shape
  refine hK.out _ _ ?_ ?_
  · exact HB.out.ext hb1
  clear hK K
  (try (conv => arg 6; simp only [Act.put, gL1, gL2, gL3, gL4, gL5, gL6]))
  replace HB := Lib.hid (HB.out.ext hb1)
  replace HO0 := Lib.hid (HO0.out.ext hb1)
  replace hbw := Below.trans hbw (Below.mono hb1 hbw.size)
  have R1 := Lib.hid hr1
  clear hr1
  clear hb1
  refine hz_eff rfl (by kernel_rfl) (fun K hK => ?_)
  refine wp_call (HI.out _ _ R1.out) (by kernel_rfl) ?_
  rintro v1 W3 hb1 hr1
  obtain ⟨Fs, FA, Fc, Fn, rfl, hr1⟩ := hr1.shape
  refine hK.out _ _ ?_ ?_
  · exact HB.out.ext hb1
  clear hK K
  (try (conv => arg 6; simp only [Act.put, gL1, gL2, gL3, gL4, gL5, gL6]))
  replace HB := Lib.hid (HB.out.ext hb1)
  replace HO0 := Lib.hid (HO0.out.ext hb1)
  replace R1 := Lib.hid (R1.out.ext hb1)
  replace hbw := Below.trans hbw (Below.mono hb1 hbw.size)
  have R2 := Lib.hid hr1
  clear hr1
  clear hb1
  refine hz_eff rfl (by kernel_rfl) (fun K hK => ?_)
  refine wp_call (HD.out _ (H1.out.ext hbw)) (by kernel_rfl) ?_
  rintro v1 W4 hb1 hr1
  obtain ⟨GA, Gc, Gn, rfl, hr1⟩ := hr1.shape
  refine hK.out _ _ ?_ ?_
  · exact HB.out.ext hb1
  clear hK K
  (try (conv => arg 6; simp only [Act.put, gL1, gL2, gL3, gL4, gL5, gL6]))
  replace HB := Lib.hid (HB.out.ext hb1)
  replace HO0 := Lib.hid (HO0.out.ext hb1)
  replace R1 := Lib.hid (R1.out.ext hb1)
  replace R2 := Lib.hid (R2.out.ext hb1)
  replace hbw := Below.trans hbw (Below.mono hb1 hbw.size)
  have R3 := Lib.hid hr1
  clear hr1
  clear hb1
  refine hz_eff rfl (by kernel_rfl) (fun K hK => ?_)
  refine wp_call (HO.out _ _ R3.out) (by kernel_rfl) ?_
  rintro v1 W5 hb1 hr1
  obtain ⟨HA, Hc, Hn, rfl, hr1⟩ := hr1.shape
  refine hK.out _ _ ?_ ?_
  · exact HB.out.ext hb1
  clear hK K
  (try (conv => arg 6; simp only [Act.put, gL1, gL2, gL3, gL4, gL5, gL6]))
  replace HB := Lib.hid (HB.out.ext hb1)
  replace HO0 := Lib.hid (HO0.out.ext hb1)
  replace R1 := Lib.hid (R1.out.ext hb1)
  replace R2 := Lib.hid (R2.out.ext hb1)
  replace R3 := Lib.hid (R3.out.ext hb1)
  replace hbw := Below.trans hbw (Below.mono hb1 hbw.size)
  have R4 := Lib.hid hr1
  clear hr1
  clear hb1
  refine hz_yes (v := ?_) rfl (by kernel_rfl) (fun W hW => ?_) ?_; rotate_left; (go_simp; try with_reducible rfl)
  (try (conv => arg 6; simp only [Act.put, gL1, gL2, gL3, gL4, gL5, gL6]))
  have q0 := HO0.out.cell 0 _ rfl
  have f0 := HO0.out.frozen 0
  have q1 := HO0.out.cell 1 _ rfl
  have f1 := HO0.out.frozen 1
  have q2 := HO0.out.cell 2 _ rfl
  have f2 := HO0.out.frozen 2
  refine hz_eff rfl (by kernel_rfl) (fun K hK => ?_)
  go_simp
  refine hK.out _ _ ?_ ?_
  · exact (((HB.out.set (p := ⟨w.heap.size + 1, 0, none⟩) _ (by simp <;> omega)).set (p := ⟨w.heap.size + 1, 1, none⟩) _ (by simp <;> omega)).set (p := ⟨w.heap.size + 1, 2, none⟩) _ (by simp <;> omega))
  clear hK K
  (try (conv => arg 6; simp only [Act.put, gL1, gL2, gL3, gL4, gL5, gL6]))
  replace HB := Lib.hid (HB.out.set (p := ⟨w.heap.size + 1, 0, none⟩) (.bool Fs) (by simp <;> omega))
  replace HO0 := Lib.hid (HO0.out.set 0 (.bool Fs))
  replace R1 := Lib.hid (R1.out.set (x := .bool Fs) q0 rfl)
  replace R2 := Lib.hid (R2.out.set (x := .bool Fs) q0 rfl)
  replace R3 := Lib.hid (R3.out.set (x := .bool Fs) q0 rfl)
  replace R4 := Lib.hid (R4.out.set (x := .bool Fs) q0 rfl)
  replace hbw := Below.setCell hbw (show w.heap.size ≤ (⟨w.heap.size + 1, 0, none⟩ : Addr).block by simp <;> omega) (.bool Fs)
  replace q1 := (World.cell?_setCell_other W5 ⟨w.heap.size + 1, 0, none⟩ ⟨w.heap.size + 1, 1, none⟩ (.bool Fs) (by simp)).trans q1
  replace q2 := (World.cell?_setCell_other W5 ⟨w.heap.size + 1, 0, none⟩ ⟨w.heap.size + 1, 2, none⟩ (.bool Fs) (by simp)).trans q2
  replace HB := Lib.hid (HB.out.set (p := ⟨w.heap.size + 1, 1, none⟩) (.slice FA Fn Fc) (by simp <;> omega))
  replace HO0 := Lib.hid (HO0.out.set 1 (.slice FA Fn Fc))
  replace R1 := Lib.hid (R1.out.set (x := .slice FA Fn Fc) q1 rfl)
  replace R2 := Lib.hid (R2.out.set (x := .slice FA Fn Fc) q1 rfl)
  replace R3 := Lib.hid (R3.out.set (x := .slice FA Fn Fc) q1 rfl)
  replace R4 := Lib.hid (R4.out.set (x := .slice FA Fn Fc) q1 rfl)
  replace hbw := Below.setCell hbw (show w.heap.size ≤ (⟨w.heap.size + 1, 1, none⟩ : Addr).block by simp <;> omega) (.slice FA Fn Fc)
  replace q2 := (World.cell?_setCell_other (W5.setCell ⟨w.heap.size + 1, 0, none⟩ (.bool Fs)) ⟨w.heap.size + 1, 1, none⟩ ⟨w.heap.size + 1, 2, none⟩ (.slice FA Fn Fc) (by simp)).trans q2
  replace HB := Lib.hid (HB.out.set (p := ⟨w.heap.size + 1, 2, none⟩) (.slice HA Hn Hc) (by simp <;> omega))
  replace HO0 := Lib.hid (HO0.out.set 2 (.slice HA Hn Hc))
  replace R1 := Lib.hid (R1.out.set (x := .slice HA Hn Hc) q2 rfl)
  replace R2 := Lib.hid (R2.out.set (x := .slice HA Hn Hc) q2 rfl)
  replace R3 := Lib.hid (R3.out.set (x := .slice HA Hn Hc) q2 rfl)
  replace R4 := Lib.hid (R4.out.set (x := .slice HA Hn Hc) q2 rfl)
  replace hbw := Below.setCell hbw (show w.heap.size ≤ (⟨w.heap.size + 1, 2, none⟩ : Addr).block by simp <;> omega) (.slice HA Hn Hc)
  clear q0 f0 q1 f1 q2 f2
  replace HO0 : Hid (Own _ _ _ [.bool Fs, .slice FA Fn Fc, .slice HA Hn Hc]) := HO0
  generalize (((W5.setCell ⟨w.heap.size + 1, 0, none⟩ (.bool Fs)).setCell ⟨w.heap.size + 1, 1, none⟩ (.slice FA Fn Fc)).setCell ⟨w.heap.size + 1, 2, none⟩ (.slice HA Hn Hc)) = W6 at HB HO0 R1 R2 R3 R4 hbw ⊢
  refine hz_nil ?_
  go_wp2_with fail
  have kk0 := HO0.out.cell 0 _ rfl
  have kk1 := HO0.out.cell 1 _ rfl
  have kk2 := HO0.out.cell 2 _ rfl
  refine bodyPost_ret (v := .agg #[.bool Fs, .slice FA Fn Fc, .slice HA Hn Hc]) (by simp [results, Try.results79, go_sem, kk0, kk1, kk2]) rfl ⟨_, rfl, hbw, ?_⟩
  have hi := R2.out
  obtain ⟨s', ev, hs⟩ := hi
  simp only [Value.agg.injEq, Array.mk.injEq, List.cons.injEq, Value.bool.injEq, and_true] at ev
  obtain ⟨e1, e2⟩ := ev
  subst e2
  exact ⟨FA, Fc, Fn, HA, Hc, Hn, by rw [e1], hs, R4.out⟩
end Go.Proofs.Ytlaocmhcilhlbaa

/- abaculushand.Same, Is, of small parts. -/
namespace Go.Proofs.Ytlaocmhcilhlbaa
open Go.RowKit
set_option maxRecDepth 100000 in
set_option maxHeartbeats 2000000 in
/-- Same, of small parts -/
theorem same_c (w : World) (va vb : Value) (a b : Rat) (ha : rQ w va a) (hb : rRQ w vb b) (f1 : a.num.natAbs < 256) (f2 : a.den < 256) (f3 : b.num.natAbs < 256) (f4 : b.den < 256) :
    Calls Try.prog 54 #[va, vb] w (Post w fun r _ => r = .bool (decide (a = b))) := by
  obtain ⟨s1, A1, c1, n1, B1, k1, m1, rfl, ha⟩ := ha.shape
  obtain ⟨s2, A2, c2, n2, B2, k2, m2, rfl, hb⟩ := hb.shape
  have H1 := Lib.hid ha
  have H2 := Lib.hid hb
  have HO := Lib.hid (fun W h => out_c W (.agg #[.bool s1, .slice A1 n1 c1, .slice B1 m1 k1]) a h f1 f2)
  have hm2 : m2 ≠ 0 := fun e => by have := hb.den.len0.1 e; have := b.den_pos; omega
  have hm0 : ((m2 : Int) == 0) = false := by rw [beq_eq_false_iff_ne]; omega
  have hm1 : ¬ (m2 : Int) = 0 := by omega
  have hs2 := hb.num.1
  have HC1 := Lib.hid (fun W v h h' => rcmp_c W v (.slice A2 n2 c2) a.num.natAbs b.num.natAbs h h' (by unfold B32; omega) (by unfold B32; omega))
  have HC2 := Lib.hid (fun W v h h' => rcmp_c W v (.slice B2 m2 k2) a.den b.den h h' (by unfold B32; omega) (by unfold B32; omega))
  obtain ⟨x, ex⟩ : ∃ x, cmpI a.num.natAbs b.num.natAbs = x := ⟨_, rfl⟩
  obtain ⟨y, ey⟩ : ∃ y, cmpI a.den b.den = y := ⟨_, rfl⟩
  have hx : x = 0 ↔ a.num.natAbs = b.num.natAbs := by
    rw [← ex]; unfold cmpI
    constructor
    · intro h; split at h <;> (try split at h) <;> omega
    · intro h; rw [if_neg (by omega), if_pos h]
  have hy : y = 0 ↔ a.den = b.den := by
    rw [← ey]; unfold cmpI
    constructor
    · intro h; split at h <;> (try split at h) <;> omega
    · intro h; rw [if_neg (by omega), if_pos h]
  rw [ex] at HC1
  rw [ey] at HC2
  have hab : a = b ↔ (x = 0 ∧ decide (a.num < 0) = s2 ∧ y = 0) := by
    rw [hx, hy, hs2]
    constructor
    · rintro rfl; exact ⟨rfl, rfl, rfl⟩
    · rintro ⟨h1, h2, h3⟩
      refine Rat.ext ?_ h3
      have h4 : (a.num < 0) ↔ (b.num < 0) := by simpa using h2
      omega
  have HAB := Lib.hid hab
  obtain ⟨s5, es5⟩ : ∃ s, decide (a.num < 0) = s := ⟨_, rfl⟩
  rw [es5] at HAB
  have HS5 := Lib.hid es5
  clear ha hb f1 f2 f3 f4 hm2 hs2 ex ey hx hy hab es5
  have HB : Hid (Cells [(w.heap.size, 0, .bool s1), (w.heap.size, 1, .slice A1 n1 c1), (w.heap.size, 2, .slice B1 m1 k1), (w.heap.size + 1, 0, .bool s2), (w.heap.size + 1, 1, .slice A2 n2 c2), (w.heap.size + 1, 2, .slice B2 m2 k2)] ((w.alloc (.cells #[.bool s1, .slice A1 n1 c1, .slice B1 m1 k1] 34)).alloc (.cells #[.bool s2, .slice A2 n2 c2, .slice B2 m2 k2] 65))) := Lib.hid (Cells.cons (by go_simp) (Cells.cons (by go_simp) (Cells.cons (by go_simp) (Cells.cons (by go_simp) (Cells.cons (by go_simp) (Cells.cons (by go_simp) (Cells.nil _)))))))
  have hbw : Below w.heap.size w ((w.alloc (.cells #[.bool s1, .slice A1 n1 c1, .slice B1 m1 k1] 34)).alloc (.cells #[.bool s2, .slice A2 n2 c2, .slice B2 m2 k2] 65)) := (by repeat (first | assumption | exact Below.refl _ _ | refine Below.drew ?_ | refine pw_below_drewN ?_ _ | refine Below.alloc ?_ (by first | omega | (simp <;> omega)) _ | refine Below.setCell ?_ (by first | omega | (simp <;> omega)) _ | refine Below.trans ?_ (Below.mono (by assumption) (by first | omega | (simp <;> omega)))))
  go_enter Try.func54, Try.ntmps54
  go_wp2_with fail
  generalize ((w.alloc (.cells #[.bool s1, .slice A1 n1 c1, .slice B1 m1 k1] 34)).alloc (.cells #[.bool s2, .slice A2 n2 c2, .slice B2 m2 k2] 65)) = W0 at HB hbw ⊢
  obtain ⟨y0, y1, y2, y3, y4, y5, _⟩ := id HB.out
  go_wp2_with fail
  clear y0 y1 y2 y3 y4 y5
  refine (HO.out _ (H1.out.ext hbw)).mono ?_
  rintro e W1 ⟨v1, rfl, hb1, hr1⟩
  obtain ⟨Es, EA, Ec, En, EB, Ed, Em, rfl, hr1⟩ := hr1.shape
  replace HB := Lib.hid (HB.out.ext hb1)
  replace hbw := Below.trans hbw (Below.mono hb1 hbw.size)
  have R0 := Lib.hid hr1
  clear hr1
  clear hb1
  have hn := R0.out.num
  rw [HS5.out] at hn
  obtain ⟨rfl, hn⟩ := hn
  have R1 := Lib.hid hn
  have R2 := Lib.hid R0.out.den
  clear hn R0
  go_upto_region 2 with (fail)
  have z_H5 := hbw.size
  replace HB := Lib.hid (HB.out.alloc (.cells #[.bool Es, .slice EA En Ec, .slice EB Em Ed] 65))
  replace R1 := Lib.hid (R1.out.alloc (.cells #[.bool Es, .slice EA En Ec, .slice EB Em Ed] 65))
  replace R2 := Lib.hid (R2.out.alloc (.cells #[.bool Es, .slice EA En Ec, .slice EB Em Ed] 65))
  replace hbw := Below.alloc hbw hbw.size (.cells #[.bool Es, .slice EA En Ec, .slice EB Em Ed] 65)
  have H5 := Lib.hid (Own.new' W1 65 [.bool Es, .slice EA En Ec, .slice EB Em Ed] W1.heap.size rfl)
  obtain ⟨bH5, e_H5⟩ : ∃ b, W1.heap.size = b := ⟨_, rfl⟩
  simp only [e_H5] at H5 z_H5 ⊢
  generalize (W1.alloc (.cells #[.bool Es, .slice EA En Ec, .slice EB Em Ed] 65)) = W2 at HB R1 R2 H5 hbw ⊢
  obtain ⟨y0, y1, y2, y3, y4, y5, _⟩ := id HB.out
  have x_H5_0 := H5.out.cell 0 _ rfl
  have f_H5_0 := H5.out.frozen 0
  have x_H5_1 := H5.out.cell 1 _ rfl
  have f_H5_1 := H5.out.frozen 1
  have x_H5_2 := H5.out.cell 2 _ rfl
  have f_H5_2 := H5.out.frozen 2
  go_wp2_with fail
  clear y0 y1 y2 y3 y4 y5 x_H5_0 f_H5_0 x_H5_1 f_H5_1 x_H5_2 f_H5_2
  refine (HC1.out _ _ R1.out (H2.out.ext hbw).num.2).mono ?_
  rintro e W3 ⟨v1, rfl, hb1, rfl⟩
  replace HB := Lib.hid (HB.out.ext hb1)
  replace R1 := Lib.hid (R1.out.ext hb1)
  replace R2 := Lib.hid (R2.out.ext hb1)
  replace H5 := Lib.hid (H5.out.ext hb1)
  replace hbw := Below.trans hbw (Below.mono hb1 hbw.size)
  clear hb1
  obtain ⟨y0, y1, y2, y3, y4, y5, _⟩ := id HB.out
  have x_H5_0 := H5.out.cell 0 _ rfl
  have f_H5_0 := H5.out.frozen 0
  have x_H5_1 := H5.out.cell 1 _ rfl
  have f_H5_1 := H5.out.frozen 1
  have x_H5_2 := H5.out.cell 2 _ rfl
  have f_H5_2 := H5.out.frozen 2
  by_cases hx : x = 0
  · have hxb : (x == 0) = true := by rw [beq_iff_eq]; exact hx
    by_cases hs : Es = s2
    · have hsb : (Es == s2) = true := by rw [beq_iff_eq]; exact hs
      have HXS := Lib.hid (And.intro hx hs)
      clear hx hs
      go_wp2_with fail
      clear y0 y1 y2 y3 y4 y5 x_H5_0 f_H5_0 x_H5_1 f_H5_1 x_H5_2 f_H5_2
      refine (HC2.out _ _ R2.out (H2.out.ext hbw).den).mono ?_
      rintro e W4 ⟨v1, rfl, hb1, rfl⟩
      replace HB := Lib.hid (HB.out.ext hb1)
      replace R1 := Lib.hid (R1.out.ext hb1)
      replace R2 := Lib.hid (R2.out.ext hb1)
      replace H5 := Lib.hid (H5.out.ext hb1)
      replace hbw := Below.trans hbw (Below.mono hb1 hbw.size)
      clear hb1
      go_wp2_with fail
      go_ret
      refine ⟨_, rfl, hbw, ?_⟩
      have he : (y == 0) = decide (a = b) := by
        have h1 := HAB.out
        by_cases hy : y = 0
        · rw [decide_eq_true (h1.2 ⟨HXS.out.1, HXS.out.2, hy⟩)]; simp [hy]
        · rw [decide_eq_false (fun e => hy (h1.1 e).2.2)]; simp [hy]
      rw [← he]
      rfl
    · have hsb : (Es == s2) = false := by rw [beq_eq_false_iff_ne]; exact hs
      have HXS := Lib.hid hs
      clear hs hx
      go_wp2_with fail
      go_ret
      refine ⟨_, rfl, hbw, ?_⟩
      rw [decide_eq_false (fun e => HXS.out (HAB.out.1 e).2.1)]
      rfl
  · have hxb : (x == 0) = false := by rw [beq_eq_false_iff_ne]; exact hx
    have HXS := Lib.hid hx
    clear hx
    go_wp2_with fail
    go_ret
    refine ⟨_, rfl, hbw, ?_⟩
    rw [decide_eq_false (fun e => HXS.out (HAB.out.1 e).1)]
    rfl
set_option maxRecDepth 100000 in
set_option maxHeartbeats 2000000 in
/-- Is, of small parts -/
theorem is_c (w : World) (va : Value) (a : Rat) (z : Int) (d : Nat) (ha : rQ w va a) (f1 : a.num.natAbs < 256) (f2 : a.den < 256) (hz : z.natAbs < 256) (hd : 0 < d ∧ d < 256) :
    Calls Try.prog 23 #[va, .int .i64 z, .int .i64 (d : Nat)] w (Post w fun r _ => r = .bool (decide (a = mkRat z d))) := by
  obtain ⟨s1, A1, c1, n1, B1, k1, m1, rfl, ha⟩ := ha.shape
  have H1 := Lib.hid ha
  have HV := Lib.hid (fun W => rover_c W z d (by omega) (by omega))
  obtain ⟨p1, p2⟩ := mkRat_parts z d (by omega)
  have b1 : (mkRat z d).num.natAbs < 256 := by rw [p1]; exact Nat.lt_of_le_of_lt (natAbs_ediv_le _ _) hz
  have b2 : (mkRat z d).den < 256 := by rw [p2]; exact Nat.lt_of_le_of_lt (Nat.div_le_self _ _) hd.2
  have HS := Lib.hid (fun W u h h' => same_c W (.agg #[.bool s1, .slice A1 n1 c1, .slice B1 m1 k1]) u a (mkRat z d) h h' f1 f2 b1 b2)
  have HB : Hid (Cells [(w.heap.size, 0, .bool s1), (w.heap.size, 1, .slice A1 n1 c1), (w.heap.size, 2, .slice B1 m1 k1)] (w.alloc (.cells #[.bool s1, .slice A1 n1 c1, .slice B1 m1 k1] 34))) := Lib.hid (Cells.cons (by go_simp) (Cells.cons (by go_simp) (Cells.cons (by go_simp) (Cells.nil _))))
  have hbw : Below w.heap.size w (w.alloc (.cells #[.bool s1, .slice A1 n1 c1, .slice B1 m1 k1] 34)) := (by repeat (first | assumption | exact Below.refl _ _ | refine Below.drew ?_ | refine pw_below_drewN ?_ _ | refine Below.alloc ?_ (by first | omega | (simp <;> omega)) _ | refine Below.setCell ?_ (by first | omega | (simp <;> omega)) _ | refine Below.trans ?_ (Below.mono (by assumption) (by first | omega | (simp <;> omega)))))
  clear ha f1 f2 hz hd p1 p2 b1 b2
  go_enter Try.func23, Try.ntmps23
  go_wp2_with fail
  generalize (w.alloc (.cells #[.bool s1, .slice A1 n1 c1, .slice B1 m1 k1] 34)) = W0 at HB hbw ⊢
  replace HB := Lib.hid (HB.out.drew)
  replace hbw := Below.drew hbw
  refine wp_hoist [(0, true), (1, true), (2, true), (3, false), (4, false), (5, false)] (Cells [(w.heap.size, 0, .bool s1), (w.heap.size, 1, .slice A1 n1 c1), (w.heap.size, 2, .slice B1 m1 k1)]) (by kernel_rfl) (by kernel_rfl) ?_ ?_
  · exact HB.out
  generalize W0.drew = W1 at HB hbw ⊢
  refine hz_yes (v := ?_) rfl (by kernel_rfl) (fun W hW => ?_) ?_; rotate_left; (obtain ⟨y0, y1, y2, _⟩ := hW; go_simp; try with_reducible rfl)
  (try (conv => arg 6; simp only [Act.put, gL1, gL2, gL3, gL4, gL5, gL6]))
  refine hz_yes (v := ?_) rfl (by kernel_rfl) (fun W hW => ?_) ?_; rotate_left; (go_simp; try with_reducible rfl)
  (try (conv => arg 6; simp only [Act.put, gL1, gL2, gL3, gL4, gL5, gL6]))
  refine hz_yes (v := ?_) rfl (by kernel_rfl) (fun W hW => ?_) ?_; rotate_left; (go_simp; try with_reducible rfl)
  (try (conv => arg 6; simp only [Act.put, gL1, gL2, gL3, gL4, gL5, gL6]))
  refine hz_eff rfl (by kernel_rfl) (fun K hK => ?_)
  refine wp_call (HV.out _) (by kernel_rfl) ?_
  rintro v1 W2 hb1 hr1
  obtain ⟨Es, EA, Ec, En, EB, Ed, Em, rfl, hr1⟩ := hr1.shape
  refine hK.out _ _ ?_ ?_
  · exact HB.out.ext hb1
  clear hK K
  (try (conv => arg 6; simp only [Act.put, gL1, gL2, gL3, gL4, gL5, gL6]))
  replace HB := Lib.hid (HB.out.ext hb1)
  replace hbw := Below.trans hbw (Below.mono hb1 hbw.size)
  have R1 := Lib.hid hr1
  clear hr1
  clear hb1
  refine hz_eff rfl (by kernel_rfl) (fun K hK => ?_)
  refine wp_call (HS.out _ _ (H1.out.ext hbw) R1.out) (by kernel_rfl) ?_
  rintro v1 W3 hb1 rfl
  refine hK.out _ _ ?_ ?_
  · exact HB.out.ext hb1
  clear hK K
  (try (conv => arg 6; simp only [Act.put, gL1, gL2, gL3, gL4, gL5, gL6]))
  replace HB := Lib.hid (HB.out.ext hb1)
  replace R1 := Lib.hid (R1.out.ext hb1)
  replace hbw := Below.trans hbw (Below.mono hb1 hbw.size)
  clear hb1
  refine hz_eff rfl (by kernel_rfl) (fun K hK => ?_)
  go_simp
  refine hK.out _ _ ?_ ?_
  · exact HB.out
  clear hK K
  (try (conv => arg 6; simp only [Act.put, gL1, gL2, gL3, gL4, gL5, gL6]))
  refine hz_nil ?_
  go_wp2_with fail
  go_ret
  exact ⟨_, rfl, hbw, rfl⟩
end Go.Proofs.Ytlaocmhcilhlbaa

/- abaculuslaw10.known. -/
namespace Go.Proofs.Ytlaocmhcilhlbaa
open Go.RowKit
theorem rLs_two {W : World} {b : Nat} {s s' : Bool} {A A' B B' : Option Addr} {n c n' c' m k m' k' : Nat} {p q : Rat} (h : Own W b 65 [.bool s, .slice A n c, .slice B m k, .bool s', .slice A' n' c', .slice B' m' k'])
    (h1 : rRQ W (.agg #[.bool s, .slice A n c, .slice B m k]) p) (h2 : rRQ W (.agg #[.bool s', .slice A' n' c', .slice B' m' k']) q) : rLs rRQ W (.slice (some ⟨b, 0, none⟩) 2 2) [p, q] := by
  refine ⟨_, 2, rfl, Nat.le_refl _, fun _ => ⟨b, 0, rfl, fun j hj => ?_⟩⟩
  match j, hj with
  | 0, _ => exact ⟨s, A, c, n, B, k, m, h.cell 0 _ rfl, h.cell 1 _ rfl, h.cell 2 _ rfl, h1⟩
  | 1, _ => exact ⟨s', A', c', n', B', k', m', h.cell 3 _ rfl, h.cell 4 _ rfl, h.cell 5 _ rfl, h2⟩
theorem k_x : dot [((3 : Int) : Rat), ((4 : Int) : Rat)] [((1 : Int) : Rat), ((0 : Int) : Rat)] = 3 := by kernel_rfl
theorem k_y : dot [((1 : Int) : Rat), ((0 : Int) : Rat)] [((1 : Int) : Rat), ((0 : Int) : Rat)] = 1 := by kernel_rfl
theorem k_l : less [((3 : Int) : Rat), ((4 : Int) : Rat)] [((1 : Int) : Rat), ((0 : Int) : Rat)] (3 / 1) = [0, 4] := by kernel_rfl
theorem k_w : wt [((3 : Int) : Rat), ((4 : Int) : Rat)] + wt [((1 : Int) : Rat), ((0 : Int) : Rat)] = 11 := by kernel_rfl
theorem known_part {W : World} {v : Value} (h : PartSaid W v [((3 : Int) : Rat), ((4 : Int) : Rat)] [((1 : Int) : Rat), ((0 : Int) : Rat)]) :
    ∃ s A c n B k m D e, v = .tuple #[.agg #[.bool s, .slice A n c, .slice B m k], .slice D 2 e, .int .i64 0] ∧ rQ W (.agg #[.bool s, .slice A n c, .slice B m k]) 3 ∧ rQs W (.slice D 2 e) [0, 4] := by
  unfold PartSaid at h
  rw [if_pos ⟨rfl, by decide⟩, k_x, k_y, if_neg (by decide), k_l] at h
  obtain ⟨q, l, hv, h1, h2⟩ := h
  obtain ⟨s, A, c, n, B, k, m, rfl, h1⟩ := h1.shape
  obtain ⟨D, e, rfl, h2⟩ := h2.shape
  refine ⟨s, A, c, n, B, k, m, D, e, hv, ?_, h2⟩
  have e3 : (3 : Rat) / 1 = 3 := by kernel_rfl
  rw [e3] at h1
  exact h1
theorem small_int (z : Int) (h : z.natAbs < 256) : SmallQ ((z : Int) : Rat) := ⟨h, by show (1 : Nat) < 256; omega⟩
set_option maxRecDepth 100000 in
set_option maxHeartbeats 4000000 in
/-- known, of chapter 10 -/
theorem known10_c (w : World) : Calls Try.prog 10 #[] w (Post w fun r _ => r = .bool true) := by
  have H3 := Lib.hid (fun W => rqof_c W 3 (by omega))
  have H4 := Lib.hid (fun W => rqof_c W 4 (by omega))
  have H1 := Lib.hid (fun W => rqof_c W 1 (by omega))
  have H0 := Lib.hid (fun W => rqof_c W 0 (by omega))
  have HI1 := Lib.hid (fun W v h => inrow_c W v [((3 : Int) : Rat), ((4 : Int) : Rat)] h (by intro q hq; simp only [List.mem_cons, List.not_mem_nil, or_false] at hq; rcases hq with rfl | rfl <;> exact small_int _ (by decide)) (by simp))
  have HI2 := Lib.hid (fun W v h => inrow_c W v [((1 : Int) : Rat), ((0 : Int) : Rat)] h (by intro q hq; simp only [List.mem_cons, List.not_mem_nil, or_false] at hq; rcases hq with rfl | rfl <;> exact small_int _ (by decide)) (by simp))
  have HP := Lib.hid (fun W v u h h' => (part_c W v u [((3 : Int) : Rat), ((4 : Int) : Rat)] [((1 : Int) : Rat), ((0 : Int) : Rat)] h h' (by simp) (by simp) (by rw [k_w]; omega)).mono (fun _ _ h => h.map (fun _ _ h => known_part h)))
  have HS1 := Lib.hid (fun W v h => is_c W v 3 3 1 h (by decide) (by decide) (by decide) (by decide))
  have HS2 := Lib.hid (fun W v h => is_c W v 0 0 1 h (by decide) (by decide) (by decide) (by decide))
  have HS3 := Lib.hid (fun W v h => is_c W v 4 4 1 h (by decide) (by decide) (by decide) (by decide))
  rw [show decide ((3 : Rat) = mkRat 3 1) = true by kernel_rfl] at HS1
  rw [show decide ((0 : Rat) = mkRat 0 1) = true by kernel_rfl] at HS2
  rw [show decide ((4 : Rat) = mkRat 4 1) = true by kernel_rfl] at HS3
  have HB : Hid (Cells [] w) := Lib.hid (Cells.nil _)
  have hbw : Below w.heap.size w w := Below.refl _ _
  go_enter Try.func10, Try.ntmps10
  go_wp2_with fail
  refine (H3.out _).mono ?_
  rintro e W1 ⟨v1, rfl, hb1, hr1⟩
  obtain ⟨Es, EA, Ec, En, EB, Ed, Em, rfl, hr1⟩ := hr1.shape
  replace HB := Lib.hid (HB.out.ext hb1)
  replace hbw := Below.trans hbw (Below.mono hb1 hbw.size)
  have R3 := Lib.hid hr1
  clear hr1
  clear hb1
  go_wp2_with fail
  refine (H4.out _).mono ?_
  rintro e W2 ⟨v1, rfl, hb1, hr1⟩
  obtain ⟨Fs, FA, Fc, Fn, FB, Fd, Fm, rfl, hr1⟩ := hr1.shape
  replace HB := Lib.hid (HB.out.ext hb1)
  replace R3 := Lib.hid (R3.out.ext hb1)
  replace hbw := Below.trans hbw (Below.mono hb1 hbw.size)
  have R4 := Lib.hid hr1
  clear hr1
  clear hb1
  go_wp2_with fail
  have HLS := Lib.hid (rLs_two (Own.new W2 65 [.bool Es, .slice EA En Ec, .slice EB Em Ed, .bool Fs, .slice FA Fn Fc, .slice FB Fm Fd]) (R3.out.alloc _) (R4.out.alloc _))
  have hbx := Below.alloc hbw hbw.size (.cells #[.bool Es, .slice EA En Ec, .slice EB Em Ed, .bool Fs, .slice FA Fn Fc, .slice FB Fm Fd] 65)
  refine (HI1.out _ _ HLS.out).mono ?_
  rintro e W3 ⟨v1, rfl, hb1, hr1⟩
  clear hbw HB
  have hbw := Below.trans hbx (Below.mono hb1 hbx.size)
  have RX := Lib.hid hr1
  clear hb1 hr1 hbx HLS R3 R4
  go_wp2_with fail
  refine (H1.out _).mono ?_
  rintro e W21 ⟨v1, rfl, hb1, hr1⟩
  obtain ⟨Gs, GA, Gc, Gn, GB, Gd, Gm, rfl, hr1⟩ := hr1.shape
  replace hbw := Below.trans hbw (Below.mono hb1 hbw.size)
  have R3 := Lib.hid hr1
  clear hr1
  have hb2 := hb1
  clear hb1
  replace RX := Lib.hid (RX.out.ext rQx hb2)
  go_wp2_with fail
  refine (H0.out _).mono ?_
  rintro e W22 ⟨v1, rfl, hb1, hr1⟩
  obtain ⟨Js, JA, Jc, Jn, JB, Jd, Jm, rfl, hr1⟩ := hr1.shape
  replace R3 := Lib.hid (R3.out.ext hb1)
  replace hbw := Below.trans hbw (Below.mono hb1 hbw.size)
  have R4 := Lib.hid hr1
  clear hr1
  have hb2 := hb1
  clear hb1
  replace RX := Lib.hid (RX.out.ext rQx hb2)
  go_wp2_with fail
  have HLS := Lib.hid (rLs_two (Own.new W22 65 [.bool Gs, .slice GA Gn Gc, .slice GB Gm Gd, .bool Js, .slice JA Jn Jc, .slice JB Jm Jd]) (R3.out.alloc _) (R4.out.alloc _))
  have hbx := Below.alloc hbw hbw.size (.cells #[.bool Gs, .slice GA Gn Gc, .slice GB Gm Gd, .bool Js, .slice JA Jn Jc, .slice JB Jm Jd] 65)
  have RX2 := Lib.hid (RX.out.ext rQx (ext_alloc W22 (.cells #[.bool Gs, .slice GA Gn Gc, .slice GB Gm Gd, .bool Js, .slice JA Jn Jc, .slice JB Jm Jd] 65)))
  refine (HI2.out _ _ HLS.out).mono ?_
  rintro e W30 ⟨v2, rfl, hb3, hr1⟩
  clear hbw
  have hbw := Below.trans hbx (Below.mono hb3 hbx.size)
  have RY := Lib.hid hr1
  have RX3 := Lib.hid (RX2.out.ext rQx hb3)
  clear hb3 hr1 hbx HLS R3 R4 RX RX2 hb2
  go_wp2_with fail
  refine (HP.out _ _ _ RX3.out.qs RY.out.qs).mono ?_
  rintro e W31 ⟨v3, rfl, hb4, s, A, c, n, B, k, m, D, e', rfl, hq, hl⟩
  have hbw1 := Below.trans hbw (Below.mono hb4 hbw.size)
  have RQ := Lib.hid hq
  have RL := Lib.hid hl
  clear hb4 hq hl hbw RX3 RY
  go_upto_region 2 with (fail)
  have he := ext_alloc W31 (.cells #[.bool s, .slice A n c, .slice B m k] 34)
  have HOQ := Lib.hid (Own.new W31 34 [.bool s, .slice A n c, .slice B m k])
  have hbw := Below.alloc hbw1 hbw1.size (.cells #[.bool s, .slice A n c, .slice B m k] 34)
  have RQ1 := Lib.hid (RQ.out.ext he)
  have RL1 := Lib.hid (RL.out.ext he)
  clear RQ RL hbw1 he
  generalize hb : W31.heap.size = b1 at HOQ ⊢
  generalize (W31.alloc (.cells #[.bool s, .slice A n c, .slice B m k] 34)) = W40 at HOQ hbw RQ1 RL1 ⊢
  clear hb
  have y0 := HOQ.out.cell 0 _ rfl
  have y1 := HOQ.out.cell 1 _ rfl
  have y2 := HOQ.out.cell 2 _ rfl
  go_wp2_with fail
  refine (HS1.out _ _ RQ1.out).mono ?_
  rintro e W41 ⟨v4, rfl, hb5, rfl⟩
  have hbw2 := Below.trans hbw (Below.mono hb5 hbw.size)
  have RL2 := Lib.hid (RL1.out.ext hb5)
  clear hb5 hbw RL1 RQ1 y0 y1 y2 HOQ
  obtain ⟨g, o, sa, Aa, ca, na, Ba, ka, ma, rfl, xa, ya, za, ra⟩ := RL2.out.at (j := 0) (by simp)
  have RA := Lib.hid (show rQ W41 _ 0 from ra)
  simp only [Nat.zero_mul, Nat.add_zero] at xa ya za
  clear ra
  go_wp2_with fail
  refine (HS2.out _ _ RA.out).mono ?_
  rintro e W42 ⟨v5, rfl, hb6, rfl⟩
  have hbw3 := Below.trans hbw2 (Below.mono hb6 hbw2.size)
  have RL3 := Lib.hid (RL2.out.ext hb6)
  clear hb6 hbw2 RL2 RA xa ya za
  obtain ⟨g', o', sb, Ab, cb, nb, Bb, kb, mb, e1, xb, yb, zb, rb⟩ := RL3.out.at (j := 1) (by simp)
  simp only [Option.some.injEq, Addr.mk.injEq, and_true] at e1
  obtain ⟨rfl, rfl⟩ := e1
  have RB := Lib.hid (show rQ W42 _ 4 from rb)
  simp only [Nat.one_mul, Nat.add_assoc, Nat.reduceAdd] at xb yb zb
  clear rb
  go_wp2_with fail
  refine (HS3.out _ _ RB.out).mono ?_
  rintro e W43 ⟨v6, rfl, hb7, rfl⟩
  have hbw4 := Below.trans hbw3 (Below.mono hb7 hbw3.size)
  clear hb7 hbw3 RL3 RB xb yb zb
  go_wp2_with fail
  go_ret
  exact ⟨_, rfl, hbw4, rfl⟩
end Go.Proofs.Ytlaocmhcilhlbaa

/- MatUpright: plain laws. -/
namespace Go.Proofs.Ytlaocmhcilhlbaa
open Go.RowKit
theorem less_length (x y : List Rat) (q : Rat) : (less x y q).length = x.length := by simp [less]
theorem less_at (x y : List Rat) (q : Rat) (i : Nat) (h : i < x.length) : (less x y q).getD i 0 = x.getD i 0 - q * y.getD i 0 := by
  rw [List.getD_eq_getElem?_getD, List.getElem?_eq_getElem (by rw [less_length]; exact h)]
  simp [less]
theorem dot_less_left (x y z : List Rat) (q : Rat) : ∀ k, k ≤ x.length → dotTo (less x y q) z k = dotTo x z k - q * dotTo y z k
  | 0, _ => by simp only [dotTo]; grind
  | k + 1, h => by
    simp only [dotTo]
    rw [dot_less_left x y z q k (by omega), less_at x y q k (by omega)]
    grind
theorem dot_comm (x y : List Rat) : ∀ k, dotTo x y k = dotTo y x k
  | 0 => rfl
  | k + 1 => by simp only [dotTo]; rw [dot_comm x y k]; grind
theorem dot_less_both (x y : List Rat) (q : Rat) (k : Nat) (h : k ≤ x.length) : dotTo (less x y q) (less x y q) k = dotTo x x k - 2 * q * dotTo x y k + q * q * dotTo y y k := by
  rw [dot_less_left x y _ q k h, dot_comm x, dot_comm y, dot_less_left x y x q k h, dot_less_left x y y q k h, dot_comm y x]
  grind
theorem dot_nonneg (y : List Rat) : ∀ k, 0 ≤ dotTo y y k
  | 0 => by simp only [dotTo]; exact Rat.le_refl
  | k + 1 => by
    simp only [dotTo]
    have h1 := dot_nonneg y k
    have h2 : 0 ≤ y.getD k 0 * y.getD k 0 := by
      rcases (Rat.le_total : (0 : Rat) ≤ y.getD k 0 ∨ y.getD k 0 ≤ 0) with h | h
      · exact Rat.mul_nonneg h h
      · have : 0 ≤ (-y.getD k 0) * (-y.getD k 0) := Rat.mul_nonneg (by grind) (by grind)
        grind
    grind
theorem up_zero (x y : List Rat) (h : x.length = y.length) (hy : dot y y ≠ 0) : dot (less x y (dot x y / dot y y)) y = 0 := by
  unfold dot at *
  rw [less_length, dot_less_left x y y _ _ (Nat.le_refl _), h]
  have e : dotTo x y y.length / dotTo y y y.length * dotTo y y y.length = dotTo x y y.length := Rat.div_mul_cancel hy
  grind
theorem up_le (x y : List Rat) (t : Rat) (h : x.length = y.length) (hy : dot y y ≠ 0) :
    dot (less x y (dot x y / dot y y)) (less x y (dot x y / dot y y)) ≤ dot (less x y t) (less x y t) := by
  have h0 := dot_nonneg y y.length
  unfold dot at *
  rw [less_length, less_length, dot_less_both _ _ _ _ (Nat.le_refl _), dot_less_both _ _ _ _ (Nat.le_refl _), h]
  obtain ⟨p, ep⟩ : ∃ p, dotTo x y y.length / dotTo y y y.length = p := ⟨_, rfl⟩
  have e : p * dotTo y y y.length = dotTo x y y.length := by rw [← ep]; exact Rat.div_mul_cancel hy
  rw [ep, ← e]
  generalize dotTo y y y.length = yy at *
  generalize dotTo x x y.length = xx at *
  have hs : 0 ≤ (p - t) * (p - t) := by
    rcases (Rat.le_total : (0 : Rat) ≤ p - t ∨ p - t ≤ 0) with h | h
    · exact Rat.mul_nonneg h h
    · have : 0 ≤ (-(p - t)) * (-(p - t)) := Rat.mul_nonneg (by grind) (by grind)
      grind
  have hm := Rat.mul_nonneg h0 hs
  grind
theorem wt_small (l : List Rat) (h : ∀ q ∈ l, SmallQ q) : wt l ≤ 9 * l.length := by
  unfold wt
  induction l with
  | nil => simp
  | cons q l ih =>
    have h1 := ih (fun x hx => h x (List.mem_cons_of_mem _ hx))
    have h2 := h q (List.mem_cons_self ..)
    have h3 : qb q ≤ 8 := by
      unfold qb
      have := bl_le_of_lt (k := 8) h2.1
      have := bl_le_of_lt (k := 8) h2.2
      omega
    simp only [List.map_cons, List.sum_cons, List.length_cons]
    omega
theorem qb_small {q : Rat} (h : SmallQ q) : qb q ≤ 8 := by
  unfold qb
  have := bl_le_of_lt (k := 8) h.1
  have := bl_le_of_lt (k := 8) h.2
  omega
theorem wt_bound (l : List Rat) (b : Nat) (h : ∀ q ∈ l, qb q ≤ b) : wt l ≤ (b + 1) * l.length := by
  unfold wt
  induction l with
  | nil => simp
  | cons q l ih =>
    have h1 := ih (fun x hx => h x (List.mem_cons_of_mem _ hx))
    have h2 := h q (List.mem_cons_self ..)
    simp only [List.map_cons, List.sum_cons, List.length_cons, Nat.mul_add, Nat.mul_one]
    omega
theorem wt_less (x y : List Rat) (q : Rat) (hx : ∀ z ∈ x, SmallQ z) (hy : ∀ z ∈ y, SmallQ z) : wt (less x y q) ≤ (qb q + 18) * x.length := by
  have := wt_bound (less x y q) (qb q + 17) (fun z hz => by
    unfold less at hz
    obtain ⟨i, hi, rfl⟩ := List.mem_map.1 hz
    have g : ∀ (l : List Rat), (∀ z ∈ l, SmallQ z) → qb (l.getD i 0) ≤ 8 := by
      intro l hl
      rw [List.getD_eq_getElem?_getD]
      rcases Nat.lt_or_ge i l.length with h | h
      · rw [List.getElem?_eq_getElem h]; exact qb_small (hl _ (List.getElem_mem h))
      · rw [List.getElem?_eq_none h]; show qb 0 ≤ 8; rw [qb_zero]; omega
    have h1 := g x hx
    have h2 := g y hy
    have h3 := qb_mul q (y.getD i 0)
    have h4 := qb_sub (x.getD i 0) (q * y.getD i 0)
    omega)
  rw [less_length] at this
  exact this
end Go.Proofs.Ytlaocmhcilhlbaa
