/- nat.FromBytes of one byte at most; abaculushand.Nat, Int, In, of small parts. -/
import Derived.Test.YtlaocmhcilhlbaaY18
import Derived.Test.YtlaocmhcilhlbaaY16
set_option linter.unusedVariables false
set_option linter.unusedSimpArgs false
namespace Go.Proofs.Ytlaocmhcilhlbaa
open Go.RowKit
set_option maxRecDepth 100000 in
set_option maxHeartbeats 1000000 in
/-- nat.FromBytes, of one byte at most -/
theorem frombytes_c (w : World) (v : Value) (n : Nat) (hb : rBy w v (byteOf n)) (fn : n < 256) : Calls Try.prog 82 #[v] w (Post w fun r w' => rNat w' r n) := by
 obtain ⟨A, c, rfl, hw⟩ := hb
 have hmk := mk64 1 1 rfl (by omega)
 rw [show zeroW .u64 1 = #[.int .u64 0] from rfl] at hmk
 have HT := Lib.hid (fun W (h : Words .u64 B64 W (some ⟨w.heap.size + 1, 0, none⟩) 1 [n]) => trim_c W (some ⟨w.heap.size + 1, 0, none⟩) 1 [n] h (by simp))
 rcases Nat.eq_zero_or_pos n with rfl | n0
 ·
  rw [show (byteOf 0).length = 0 from rfl]
  clear hw fn
  go_enter Try.func82, Try.ntmps82
  go_wp2_with fail
  go_loopw [12] (fun t W => t = .int .i64 0 ∧ Below w.heap.size w W ∧ Own W w.heap.size 30 [.slice none 0 0] ∧ Own W (w.heap.size + 1) 99 [.int .u64 0]) (fun _ _ => 0)
  case atStart => exact ⟨rfl, (by repeat (first | assumption | exact Below.refl _ _ | refine Below.drew ?_ | refine pw_below_drewN ?_ _ | refine Below.alloc ?_ (by first | omega | (simp <;> omega)) _ | refine Below.setCell ?_ (by first | omega | (simp <;> omega)) _ | refine Below.trans ?_ (Below.mono (by assumption) (by first | omega | (simp <;> omega))))), (Own.new w 30 [.slice none 0 0]).alloc _, Own.new' (w.alloc _) 99 [.int .u64 0] (w.heap.size + 1) (by simp)⟩
  case round =>
   obtain ⟨rfl, hbw, ho, hp⟩ := hrel
   have hwd : Words .u64 B64 wr (some ⟨w.heap.size + 1, 0, none⟩) 1 [0] := own_words (k := .u64) (l := [0]) (by simpa [wv] using hp) (by intro y hy; simp at hy; rw [hy]; exact B64_pos) 1 (by simp)
   have HR := Lib.hid (HT.out wr hwd)
   have HO0 := Lib.hid ho
   clear hwd ho hp
   go_wp2_with fail
   refine (HR.out).mono ?_
   rintro e W21 ⟨v1, rfl, hb1, hr1⟩
   obtain ⟨EA, Ec, En, rfl, hr1⟩ := hr1.shape
   replace HO0 := Lib.hid (HO0.out.ext hb1)
   replace hbw := nT hbw hb1
   have R1 := Lib.hid hr1
   clear hr1
   clear hb1
   have q0 := HO0.out.cell 0 _ rfl
   have f0 := HO0.out.frozen 0
   go_wp2_with fail
   replace HO0 := Lib.hid (HO0.out.set 0 (.slice EA En Ec))
   replace R1 := Lib.hid (R1.out.set (x := .slice EA En Ec) q0 rfl)
   replace hbw := Below.setCell hbw (show w.heap.size ≤ (⟨w.heap.size, 0, none⟩ : Addr).block by simp <;> omega) (.slice EA En Ec)
   clear q0 f0
   replace HO0 : Hid (Own _ _ _ [.slice EA En Ec]) := HO0
   generalize (W21.setCell ⟨w.heap.size, 0, none⟩ (.slice EA En Ec)) = W22 at HO0 R1 hbw ⊢
   have kk0 := HO0.out.cell 0 _ rfl
   refine bodyPost_ret (v := .agg #[.slice EA En Ec]) (by simp [results, Try.results82, go_sem, kk0]) rfl ⟨_, rfl, hbw, ?_⟩
   have := R1.out
   simpa [vl] using this
 ·
  have hbn : byteOf n = [n] := by unfold byteOf; rw [if_neg (by omega)]
  rw [hbn] at hw ⊢
  obtain ⟨g, o, rfl, hc⟩ := hw.2.2 (by simp)
  have xc : w.cell? ⟨g, o, none⟩ = some (.int .u8 (n : Nat)) := by have := hc 0 (by simp); simpa using this
  have hg := cell_lt xc
  have HC := Lib.hid xc
  have w1 : IntKind.u64.wrap (n : Int) = (n : Int) := by rw [IntKind.wrap_u64]; omega
  have hor : bits .or .u64 0 (n : Int) = (n : Int) := by
   have := bits_or_u64_nat 0 n (by omega) (by omega)
   simpa using this
  have HN := Lib.hid (And.intro n0 fn)
  have hw0 : IntKind.i64.wrap 0 = 0 := rfl
  clear hw hc xc fn n0 hbn
  go_enter Try.func82, Try.ntmps82
  go_wp2_with fail
  go_loopw [12] (fun t W => ∃ k x : Nat, t = .int .i64 (k : Nat) ∧ ((k = 0 ∧ x = 0) ∨ (k = 1 ∧ x = n)) ∧ Below w.heap.size w W ∧ Own W w.heap.size 30 [.slice none 0 0] ∧ Own W (w.heap.size + 1) 99 [.int .u64 (x : Nat)]) (fun t _ => (1 - intOf t).toNat)
  case atStart => exact ⟨0, 0, rfl, .inl ⟨rfl, rfl⟩, (by repeat (first | assumption | exact Below.refl _ _ | refine Below.drew ?_ | refine pw_below_drewN ?_ _ | refine Below.alloc ?_ (by first | omega | (simp <;> omega)) _ | refine Below.setCell ?_ (by first | omega | (simp <;> omega)) _ | refine Below.trans ?_ (Below.mono (by assumption) (by first | omega | (simp <;> omega))))), (Own.new w 30 [.slice none 0 0]).alloc _, Own.new' (w.alloc _) 99 [.int .u64 0] (w.heap.size + 1) (by simp)⟩
  case round =>
   obtain ⟨k, x, rfl, hk, hbw, ho, hp⟩ := hrel
   have HO0 := Lib.hid ho
   have HO1 := Lib.hid hp
   rcases hk with ⟨rfl, rfl⟩ | ⟨rfl, rfl⟩
   ·
    have xc := ext_cell hbw HC.out
    clear ho hp
    go_wp2_with fail
    have HB : Hid (Cells [(w.heap.size + 1, 0, .int .u64 0), (g, o, .int .u8 (n : Nat))] wr) := Lib.hid (Cells.cons (HO1.out.cell 0 _ rfl) (Cells.cons (xc) (Cells.nil _)))
    clear xc
    replace HB := Lib.hid (HB.out.drew)
    replace HO0 := Lib.hid (HO0.out.drew)
    replace HO1 := Lib.hid (HO1.out.drew)
    replace hbw := Below.drew hbw
    refine wp_hoistL [(0, true), (1, true), (2, true), (3, true), (4, true), (5, true), (6, true), (7, true), (8, true), (9, true), (10, true), (11, true), (12, true), (13, true), (14, true), (15, true), (16, true), (17, true), (18, true), (19, true), (20, false)] 20 (Cells [(w.heap.size + 1, 0, .int .u64 0), (g, o, .int .u8 (n : Nat))]) (by kernel_rfl) (by kernel_rfl) ?_ ?_
    · exact HB.out
    generalize wr.drew = W21 at HB HO0 HO1 hbw ⊢
    refine hl_yes (v := ?_) rfl (by kernel_rfl) (fun W hW => ?_) ?_; rotate_left; (go_simp; try with_reducible rfl)
    (try simp only [Act.put, gL])
    refine hl_yes (v := ?_) rfl (by kernel_rfl) (fun W hW => ?_) ?_; rotate_left; (go_simp; try with_reducible rfl)
    (try simp only [Act.put, gL])
    refine hl_yes (v := ?_) rfl (by kernel_rfl) (fun W hW => ?_) ?_; rotate_left; (go_simp; try with_reducible rfl)
    (try simp only [Act.put, gL])
    refine hl_yes (v := ?_) rfl (by kernel_rfl) (fun W hW => ?_) ?_; rotate_left; (go_simp; try with_reducible rfl)
    (try simp only [Act.put, gL])
    refine hl_yes (v := ?_) rfl (by kernel_rfl) (fun W hW => ?_) ?_; rotate_left; (obtain ⟨y0, y1, _⟩ := hW; go_simp; try with_reducible rfl)
    (try simp only [Act.put, gL])
    refine hl_yes (v := ?_) rfl (by kernel_rfl) (fun W hW => ?_) ?_; rotate_left; (go_simp; try with_reducible rfl)
    (try simp only [Act.put, gL])
    refine hl_yes (v := ?_) rfl (by kernel_rfl) (fun W hW => ?_) ?_; rotate_left; (go_simp; try with_reducible rfl)
    (try simp only [Act.put, gL])
    refine hl_yes (v := ?_) rfl (by kernel_rfl) (fun W hW => ?_) ?_; rotate_left; (go_simp; try with_reducible rfl)
    (try simp only [Act.put, gL])
    refine hl_yes (v := ?_) rfl (by kernel_rfl) (fun W hW => ?_) ?_; rotate_left; (go_simp; try with_reducible rfl)
    (try simp only [Act.put, gL])
    refine hl_yes (v := ?_) rfl (by kernel_rfl) (fun W hW => ?_) ?_; rotate_left; (go_simp; try with_reducible rfl)
    (try simp only [Act.put, gL])
    refine hl_yes (v := ?_) rfl (by kernel_rfl) (fun W hW => ?_) ?_; rotate_left; (go_simp; try with_reducible rfl)
    (try simp only [Act.put, gL])
    refine hl_yes (v := ?_) rfl (by kernel_rfl) (fun W hW => ?_) ?_; rotate_left; (go_simp; try with_reducible rfl)
    (try simp only [Act.put, gL])
    refine hl_yes (v := ?_) rfl (by kernel_rfl) (fun W hW => ?_) ?_; rotate_left; (obtain ⟨y0, y1, _⟩ := hW; go_simp; try with_reducible rfl)
    (try simp only [Act.put, gL])
    refine hl_yes (v := ?_) rfl (by kernel_rfl) (fun W hW => ?_) ?_; rotate_left; (go_simp; try with_reducible rfl)
    (try simp only [Act.put, gL])
    refine hl_yes (v := ?_) rfl (by kernel_rfl) (fun W hW => ?_) ?_; rotate_left; (go_simp; try with_reducible rfl)
    (try simp only [Act.put, gL])
    refine hl_yes (v := ?_) rfl (by kernel_rfl) (fun W hW => ?_) ?_; rotate_left; (go_simp; try with_reducible rfl)
    (try simp only [Act.put, gL])
    refine hl_yes (v := ?_) rfl (by kernel_rfl) (fun W hW => ?_) ?_; rotate_left; (go_simp; try with_reducible rfl)
    (try simp only [Act.put, gL])
    refine hl_yes (v := ?_) rfl (by kernel_rfl) (fun W hW => ?_) ?_; rotate_left; (go_simp; try with_reducible rfl)
    (try simp only [Act.put, gL])
    refine hl_yes (v := ?_) rfl (by kernel_rfl) (fun W hW => ?_) ?_; rotate_left; (go_simp; try with_reducible rfl)
    (try simp only [Act.put, gL])
    refine hl_yes (v := ?_) rfl (by kernel_rfl) (fun W hW => ?_) ?_; rotate_left; (go_simp; try with_reducible rfl)
    (try simp only [Act.put, gL])
    have q0 := HO1.out.cell 0 _ rfl
    have f0 := HO1.out.frozen 0
    refine hl_last rfl (by kernel_rfl) (fun K hK => ?_)
    go_simp
    refine hK.out _ _ ?_
    clear hK K HB
    (try simp only [Act.put, gL])
    replace HO0 := Lib.hid (HO0.out.other (p := ⟨w.heap.size + 1, 0, none⟩) (.int .u64 (n : Nat)) (by simp <;> omega))
    replace HO1 := Lib.hid (HO1.out.set 0 (.int .u64 (n : Nat)))
    replace hbw := Below.setCell hbw (show w.heap.size ≤ (⟨w.heap.size + 1, 0, none⟩ : Addr).block by simp <;> omega) (.int .u64 (n : Nat))
    clear q0 f0
    replace HO1 : Hid (Own _ _ _ [.int .u64 (n : Nat)]) := HO1
    generalize (W21.setCell ⟨w.heap.size + 1, 0, none⟩ (.int .u64 (n : Nat))) = W22 at HO0 HO1 hbw ⊢
    go_wp2
    go_roundw
    case rel => exact ⟨1, n, rfl, .inr ⟨rfl, rfl⟩, hbw, HO0.out, HO1.out⟩
    case measure => simp [intOf]
   ·
    have hwd : Words .u64 B64 wr (some ⟨w.heap.size + 1, 0, none⟩) 1 [x] := own_words (k := .u64) (l := [x]) (by simpa [wv] using hp) (by intro y hy; simp at hy; rw [hy]; have := HN.out; unfold B64; omega) 1 (by simp)
    have HR := Lib.hid (HT.out wr hwd)
    clear hwd ho hp HO1
    go_wp2_with fail
    refine (HR.out).mono ?_
    rintro e W21 ⟨v1, rfl, hb1, hr1⟩
    obtain ⟨EA, Ec, En, rfl, hr1⟩ := hr1.shape
    replace HO0 := Lib.hid (HO0.out.ext hb1)
    replace hbw := nT hbw hb1
    have R1 := Lib.hid hr1
    clear hr1
    clear hb1
    have q0 := HO0.out.cell 0 _ rfl
    have f0 := HO0.out.frozen 0
    go_wp2_with fail
    replace HO0 := Lib.hid (HO0.out.set 0 (.slice EA En Ec))
    replace R1 := Lib.hid (R1.out.set (x := .slice EA En Ec) q0 rfl)
    replace hbw := Below.setCell hbw (show w.heap.size ≤ (⟨w.heap.size, 0, none⟩ : Addr).block by simp <;> omega) (.slice EA En Ec)
    clear q0 f0
    replace HO0 : Hid (Own _ _ _ [.slice EA En Ec]) := HO0
    generalize (W21.setCell ⟨w.heap.size, 0, none⟩ (.slice EA En Ec)) = W22 at HO0 R1 hbw ⊢
    have kk0 := HO0.out.cell 0 _ rfl
    refine bodyPost_ret (v := .agg #[.slice EA En Ec]) (by simp [results, Try.results82, go_sem, kk0]) rfl ⟨_, rfl, hbw, ?_⟩
    have := R1.out
    simpa [vl] using this
set_option maxRecDepth 100000 in
set_option maxHeartbeats 1000000 in
/-- abaculushand.Nat, of one byte -/
theorem hnat_c (w : World) (v : Value) (n : Nat) (h : rR w v n) (fn : n < 256) : Calls Try.prog 58 #[v] w (Post w fun r w' => rNat w' r n) := by
 obtain ⟨A, c, m, rfl, h⟩ := h.shape
 have H1 := Lib.hid h
 have HB := Lib.hid (fun W h => rbytes_c W (.slice A m c) n h fn)
 have HF := Lib.hid (fun W v h => frombytes_c W v n h fn)
 have HX := HB
 clear HB
 have HB : Hid (Cells [] (w.alloc (.cells #[.slice none 0 0] 30))) := Lib.hid (Cells.nil _)
 have HO0 := Lib.hid (Own.new' w 30 [.slice none 0 0] (w.heap.size) (by simp))
 have hbw : Below w.heap.size w (w.alloc (.cells #[.slice none 0 0] 30)) := (by repeat (first | assumption | exact Below.refl _ _ | refine Below.drew ?_ | refine pw_below_drewN ?_ _ | refine Below.alloc ?_ (by first | omega | (simp <;> omega)) _ | refine Below.setCell ?_ (by first | omega | (simp <;> omega)) _ | refine Below.trans ?_ (Below.mono (by assumption) (by first | omega | (simp <;> omega)))))
 clear h fn
 go_enter Try.func58, Try.ntmps58
 go_wp2_with fail
 generalize (w.alloc (.cells #[.slice none 0 0] 30)) = W0 at HB HO0 hbw ⊢
 refine (HX.out _ (H1.out.ext hbw)).mono ?_
 rintro e W1 ⟨v1, rfl, hb1, hr1⟩
 replace HB := Lib.hid (HB.out.ext hb1)
 replace HO0 := Lib.hid (HO0.out.ext hb1)
 replace hbw := nT hbw hb1
 have R1 := Lib.hid hr1
 clear hr1
 clear hb1
 have h1 := R1.out
 go_wp2_with fail
 refine (HF.out _ _ R1.out).mono ?_
 rintro e W2 ⟨v1, rfl, hb1, hr1⟩
 obtain ⟨EA, Ec, En, rfl, hr1⟩ := hr1.shape
 replace HB := Lib.hid (HB.out.ext hb1)
 replace HO0 := Lib.hid (HO0.out.ext hb1)
 replace hbw := nT hbw hb1
 have R2 := Lib.hid hr1
 clear hr1
 clear hb1
 have q0 := HO0.out.cell 0 _ rfl
 have f0 := HO0.out.frozen 0
 go_wp2_with fail
 replace HB := Lib.hid (HB.out.set (p := ⟨w.heap.size, 0, none⟩) (.slice EA En Ec) (by simp <;> omega))
 replace HO0 := Lib.hid (HO0.out.set 0 (.slice EA En Ec))
 replace R2 := Lib.hid (R2.out.set (x := .slice EA En Ec) q0 rfl)
 replace hbw := Below.setCell hbw (show w.heap.size ≤ (⟨w.heap.size, 0, none⟩ : Addr).block by simp <;> omega) (.slice EA En Ec)
 clear q0 f0
 replace HO0 : Hid (Own _ _ _ [.slice EA En Ec]) := HO0
 generalize (W2.setCell ⟨w.heap.size, 0, none⟩ (.slice EA En Ec)) = W3 at HB HO0 R2 hbw ⊢
 have kk0 := HO0.out.cell 0 _ rfl
 refine bodyPost_ret (v := .agg #[.slice EA En Ec]) (by simp [results, Try.results58, go_sem, kk0]) rfl ⟨_, rfl, hbw, ?_⟩
 exact R2.out
set_option maxRecDepth 100000 in
set_option maxHeartbeats 1000000 in
/-- abaculushand.Int, of one byte -/
theorem hint_c (w : World) (v : Value) (z : Int) (h : rRI w v z) (fn : z.natAbs < 256) : Calls Try.prog 57 #[v] w (Post w fun r w' => rInt w' r z) := by
 have h1 := h.open
 clear h
 obtain ⟨A, c, m, rfl, h⟩ := h1
 obtain ⟨s, es⟩ : ∃ s, decide (z < 0) = s := ⟨_, rfl⟩
 rw [es]
 have H1 := Lib.hid h
 have HN := Lib.hid (fun W h => hnat_c W (.slice A m c) z.natAbs h fn)
 have HF := Lib.hid (fun W v h => from_c W s v z.natAbs h (Nat.le_trans (bl_le_of_lt (k := 8) fn) (by omega)))
 have e : sg s z.natAbs = z := by rw [← es]; unfold sg; split <;> rename_i h <;> simp at h <;> omega
 rw [e] at HF
 have HB : Hid (Cells [(w.heap.size, 0, .bool s), (w.heap.size, 1, .slice A m c)] ((w.alloc (.cells #[.bool s, .slice A m c] 63)).alloc (.cells #[.bool false, .slice none 0 0] 32))) := Lib.hid (Cells.cons (by go_simp) (Cells.cons (by go_simp) (Cells.nil _)))
 have HO0 := Lib.hid (Own.new' (w.alloc (.cells #[.bool s, .slice A m c] 63)) 32 [.bool false, .slice none 0 0] (w.heap.size + 1) (by simp))
 have hbw : Below w.heap.size w ((w.alloc (.cells #[.bool s, .slice A m c] 63)).alloc (.cells #[.bool false, .slice none 0 0] 32)) := (by repeat (first | assumption | exact Below.refl _ _ | refine Below.drew ?_ | refine pw_below_drewN ?_ _ | refine Below.alloc ?_ (by first | omega | (simp <;> omega)) _ | refine Below.setCell ?_ (by first | omega | (simp <;> omega)) _ | refine Below.trans ?_ (Below.mono (by assumption) (by first | omega | (simp <;> omega)))))
 clear h fn es e
 go_enter Try.func57, Try.ntmps57
 go_wp2_with fail
 generalize ((w.alloc (.cells #[.bool s, .slice A m c] 63)).alloc (.cells #[.bool false, .slice none 0 0] 32)) = W0 at HB HO0 hbw ⊢
 replace HB := Lib.hid (HB.out.drew)
 replace HO0 := Lib.hid (HO0.out.drew)
 replace hbw := Below.drew hbw
 refine wp_hoist [(0, true), (1, true), (2, true), (3, true), (4, false), (5, false), (6, false)] (Cells [(w.heap.size, 0, .bool s), (w.heap.size, 1, .slice A m c)]) (by kernel_rfl) (by kernel_rfl) ?_ ?_
 · exact HB.out
 generalize W0.drew = W1 at HB HO0 hbw ⊢
 refine hz_yes (v := ?_) rfl (by kernel_rfl) (fun W hW => ?_) ?_; rotate_left; (go_simp; try with_reducible rfl)
 (try (conv => arg 6; simp only [Act.put, gL]))
 refine hz_yes (v := ?_) rfl (by kernel_rfl) (fun W hW => ?_) ?_; rotate_left; (obtain ⟨y0, y1, _⟩ := hW; go_simp; try with_reducible rfl)
 (try (conv => arg 6; simp only [Act.put, gL]))
 refine hz_yes (v := ?_) rfl (by kernel_rfl) (fun W hW => ?_) ?_; rotate_left; (go_simp; try with_reducible rfl)
 (try (conv => arg 6; simp only [Act.put, gL]))
 refine hz_yes (v := ?_) rfl (by kernel_rfl) (fun W hW => ?_) ?_; rotate_left; (obtain ⟨y0, y1, _⟩ := hW; go_simp; try with_reducible rfl)
 (try (conv => arg 6; simp only [Act.put, gL]))
 refine hz_eff rfl (by kernel_rfl) (fun K hK => ?_)
 refine wp_call (HN.out _ (H1.out.ext hbw)) (by kernel_rfl) ?_
 rintro v1 W2 hb1 hr1
 obtain ⟨EA, Ec, En, rfl, hr1⟩ := hr1.shape
 refine hK.out _ _ ?_ ?_
 · exact HB.out.ext hb1
 clear hK K
 (try (conv => arg 6; simp only [Act.put, gL]))
 replace HB := Lib.hid (HB.out.ext hb1)
 replace HO0 := Lib.hid (HO0.out.ext hb1)
 replace hbw := nT hbw hb1
 have R1 := Lib.hid hr1
 clear hr1
 clear hb1
 refine hz_eff rfl (by kernel_rfl) (fun K hK => ?_)
 refine wp_call (HF.out _ _ R1.out) (by kernel_rfl) ?_
 rintro v1 W3 hb1 hr1
 obtain ⟨Fs, FA, Fc, Fn, rfl, hr1⟩ := hr1.shape
 refine hK.out _ _ ?_ ?_
 · exact HB.out.ext hb1
 clear hK K
 (try (conv => arg 6; simp only [Act.put, gL]))
 replace HB := Lib.hid (HB.out.ext hb1)
 replace HO0 := Lib.hid (HO0.out.ext hb1)
 replace R1 := Lib.hid (R1.out.ext hb1)
 replace hbw := nT hbw hb1
 have R2 := Lib.hid hr1
 clear hr1
 clear hb1
 have q0 := HO0.out.cell 0 _ rfl
 have f0 := HO0.out.frozen 0
 have q1 := HO0.out.cell 1 _ rfl
 have f1 := HO0.out.frozen 1
 refine hz_eff rfl (by kernel_rfl) (fun K hK => ?_)
 go_simp
 refine hK.out _ _ ?_ ?_
 · exact ((HB.out.set (p := ⟨w.heap.size + 1, 0, none⟩) _ (by simp <;> omega)).set (p := ⟨w.heap.size + 1, 1, none⟩) _ (by simp <;> omega))
 clear hK K
 (try (conv => arg 6; simp only [Act.put, gL]))
 replace HB := Lib.hid (HB.out.set (p := ⟨w.heap.size + 1, 0, none⟩) (.bool Fs) (by simp <;> omega))
 replace HO0 := Lib.hid (HO0.out.set 0 (.bool Fs))
 replace R1 := Lib.hid (R1.out.set (x := .bool Fs) q0 rfl)
 replace R2 := Lib.hid (R2.out.set (x := .bool Fs) q0 rfl)
 replace hbw := Below.setCell hbw (show w.heap.size ≤ (⟨w.heap.size + 1, 0, none⟩ : Addr).block by simp <;> omega) (.bool Fs)
 replace q1 := (World.cell?_setCell_other W3 ⟨w.heap.size + 1, 0, none⟩ ⟨w.heap.size + 1, 1, none⟩ (.bool Fs) (by simp)).trans q1
 replace HB := Lib.hid (HB.out.set (p := ⟨w.heap.size + 1, 1, none⟩) (.slice FA Fn Fc) (by simp <;> omega))
 replace HO0 := Lib.hid (HO0.out.set 1 (.slice FA Fn Fc))
 replace R1 := Lib.hid (R1.out.set (x := .slice FA Fn Fc) q1 rfl)
 replace R2 := Lib.hid (R2.out.set (x := .slice FA Fn Fc) q1 rfl)
 replace hbw := Below.setCell hbw (show w.heap.size ≤ (⟨w.heap.size + 1, 1, none⟩ : Addr).block by simp <;> omega) (.slice FA Fn Fc)
 clear q0 f0 q1 f1
 replace HO0 : Hid (Own _ _ _ [.bool Fs, .slice FA Fn Fc]) := HO0
 generalize ((W3.setCell ⟨w.heap.size + 1, 0, none⟩ (.bool Fs)).setCell ⟨w.heap.size + 1, 1, none⟩ (.slice FA Fn Fc)) = W4 at HB HO0 R1 R2 hbw ⊢
 refine hz_nil ?_
 go_wp2_with fail
 have kk0 := HO0.out.cell 0 _ rfl
 have kk1 := HO0.out.cell 1 _ rfl
 refine bodyPost_ret (v := .agg #[.bool Fs, .slice FA Fn Fc]) (by simp [results, Try.results57, go_sem, kk0, kk1]) rfl ⟨_, rfl, hbw, ?_⟩
 exact R2.out
theorem QMakeSaid.open {W : World} {v : Value} {n : Int} {d : Nat} {q : Rat} (e : mkRat n d = q) (h : QMakeSaid W v n d) : ∃ s A c n B k m, v = .tuple #[.agg #[.bool s, .slice A n c, .slice B m k], .bool true] ∧ rQ W (.agg #[.bool s, .slice A n c, .slice B m k]) q := by
 obtain ⟨q', hv, h⟩ := h
 obtain ⟨s, A, c, n, B, k, m, rfl, h⟩ := h.shape
 exact ⟨s, A, c, n, B, k, m, hv, e ▸ h⟩
set_option maxRecDepth 100000 in
set_option maxHeartbeats 4000000 in
/-- abaculushand.In, of small parts -/
theorem hin_c (w : World) (v : Value) (q : Rat) (h : rRQ w v q) (f1 : q.num.natAbs < 256) (f2 : q.den < 256) : Calls Try.prog 24 #[v] w (Post w fun r w' => rQ w' r q) := by
 obtain ⟨s, A, c, n, B, k, m, rfl, h⟩ := h.shape
 have b1 : bl q.num.natAbs ≤ 8 := bl_le_of_lt (k := 8) f1
 have b2 : bl q.den ≤ 8 := bl_le_of_lt (k := 8) f2
 have H1 := Lib.hid h
 have HI := Lib.hid (fun W h => hint_c W (.agg #[.bool s, .slice A n c]) q.num h f1)
 have HN := Lib.hid (fun W h => hnat_c W (.slice B m k) q.den h f2)
 have HF := Lib.hid (fun W v h => from_c W false v q.den h (by unfold Fit; omega))
 have HM := Lib.hid (fun W v u h h' => (qmake_c W v u q.num q.den h h' q.den_pos (by omega) (by omega)).mono (fun _ _ h => h.map (fun _ _ h => h.open (Rat.mkRat_self q))))
 have HQI := Lib.hid (show ∀ W, rRQ W (.agg #[.bool s, .slice A n c, .slice B m k]) q → rRI W (.agg #[.bool s, .slice A n c]) q.num from fun W h => ⟨_, by rw [h.num.1], h.num.2⟩)
 have HB : Hid (Cells [(w.heap.size, 0, .bool s), (w.heap.size, 1, .slice A n c), (w.heap.size, 2, .slice B m k)] ((w.alloc (.cells #[.bool s, .slice A n c, .slice B m k] 65)).alloc (.cells #[.bool false, .slice none 0 0, .slice none 0 0] 34))) := Lib.hid (Cells.cons (by go_simp) (Cells.cons (by go_simp) (Cells.cons (by go_simp) (Cells.nil _))))
 have HO0 := Lib.hid (Own.new' (w.alloc (.cells #[.bool s, .slice A n c, .slice B m k] 65)) 34 [.bool false, .slice none 0 0, .slice none 0 0] (w.heap.size + 1) (by simp))
 have hbw : Below w.heap.size w ((w.alloc (.cells #[.bool s, .slice A n c, .slice B m k] 65)).alloc (.cells #[.bool false, .slice none 0 0, .slice none 0 0] 34)) := (by repeat (first | assumption | exact Below.refl _ _ | refine Below.drew ?_ | refine pw_below_drewN ?_ _ | refine Below.alloc ?_ (by first | omega | (simp <;> omega)) _ | refine Below.setCell ?_ (by first | omega | (simp <;> omega)) _ | refine Below.trans ?_ (Below.mono (by assumption) (by first | omega | (simp <;> omega)))))
 clear h f1 f2 b1 b2
 go_enter Try.func24, Try.ntmps24
 go_wp2_with fail
 generalize ((w.alloc (.cells #[.bool s, .slice A n c, .slice B m k] 65)).alloc (.cells #[.bool false, .slice none 0 0, .slice none 0 0] 34)) = W0 at HB HO0 hbw ⊢
 go_upto_region 1 with (fail)
 go_cut [3] (fun p3 WC => ∃ bH3 : Nat, ∃ s1 : Bool, ∃ A1 : Option Addr, ∃ c1 : Nat, ∃ n1 : Nat, ∃ B1 : Option Addr, ∃ k1 : Nat, ∃ m1 : Nat, p3 = .pointer (some ⟨bH3, 0, none⟩) ∧ Below w.heap.size w WC ∧ Cells [(w.heap.size, 0, .bool s), (w.heap.size, 1, .slice A n c), (w.heap.size, 2, .slice B m k)] WC ∧ Own WC (w.heap.size + 1) 34 [.bool false, .slice none 0 0, .slice none 0 0] ∧ rQ WC (.agg #[.bool s1, .slice A1 n1 c1, .slice B1 m1 k1]) q ∧ Own WC (bH3) 34 [.bool s1, .slice A1 n1 c1, .slice B1 m1 k1] ∧ w.heap.size + 1 < bH3)
 case first =>
  replace HB := Lib.hid (HB.out.drew)
  replace HO0 := Lib.hid (HO0.out.drew)
  replace hbw := Below.drew hbw
  refine wp_hoistR (.yes 0 (.yes 1 (.yes 3 (.yes 4 (.act 2 (.act 5 (.act 6 (.act 7 (.yes 8 (.yes 9 (.yes 10 (.act 11 (.act 12 (.act 13 (.done) (.stop)) (.stop)) (.stop))))) (.act 11 (.act 7 (.yes 8 (.yes 9 (.yes 10 (.act 12 (.act 13 (.done) (.stop)) (.stop))))) (.stop)) (.stop))) (.act 11 (.act 6 (.act 7 (.yes 8 (.yes 9 (.yes 10 (.act 12 (.act 13 (.done) (.stop)) (.stop))))) (.stop)) (.stop)) (.stop))) (.act 11 (.act 5 (.act 6 (.act 7 (.yes 8 (.yes 9 (.yes 10 (.act 12 (.act 13 (.done) (.stop)) (.stop))))) (.stop)) (.stop)) (.stop)) (.stop))) (.act 11 (.act 2 (.act 5 (.act 6 (.act 7 (.yes 8 (.yes 9 (.yes 10 (.act 12 (.act 13 (.done) (.stop)) (.stop))))) (.stop)) (.stop)) (.stop)) (.stop)) (.stop))))))) (Cells [(w.heap.size, 0, .bool s), (w.heap.size, 1, .slice A n c), (w.heap.size, 2, .slice B m k)]) (by kernel_rfl) (by kernel_rfl) ?_ ?_
  · exact HB.out
  generalize W0.drew = W1 at HB HO0 hbw ⊢
  refine hr_yes (v := ?_) rfl (by kernel_rfl) (fun W hW => ?_) ?_; rotate_left; (go_simp; try with_reducible rfl)
  (try (conv => arg 6; simp only [Act.put, gL]))
  refine hr_yes (v := ?_) rfl (by kernel_rfl) (fun W hW => ?_) ?_; rotate_left; (obtain ⟨y0, y1, y2, _⟩ := hW; go_simp; try with_reducible rfl)
  (try (conv => arg 6; simp only [Act.put, gL]))
  refine hr_yes (v := ?_) rfl (by kernel_rfl) (fun W hW => ?_) ?_; rotate_left; (go_simp; try with_reducible rfl)
  (try (conv => arg 6; simp only [Act.put, gL]))
  refine hr_yes (v := ?_) rfl (by kernel_rfl) (fun W hW => ?_) ?_; rotate_left; (obtain ⟨y0, y1, y2, _⟩ := hW; go_simp; try with_reducible rfl)
  (try (conv => arg 6; simp only [Act.put, gL]))
  refine hr_eff rfl (by kernel_rfl) (fun K hK => ?_) ?_
  focus
   refine wp_call (HI.out _ (HQI.out _ (H1.out.ext hbw))) (by kernel_rfl) ?_
   rintro v1 W2 hb1 hr1
   obtain ⟨Es, EA, Ec, En, rfl, hr1⟩ := hr1.shape
   refine hK.out _ _ ?_ ?_
   · exact HB.out.ext hb1
   clear hK K
   (try (conv => arg 6; simp only [Act.put, gL]))
   replace HB := Lib.hid (HB.out.ext hb1)
   replace HO0 := Lib.hid (HO0.out.ext hb1)
   replace hbw := nT hbw hb1
   have R1 := Lib.hid hr1
   clear hr1
   clear hb1
   refine hr_eff rfl (by kernel_rfl) (fun K hK => ?_) ?_
   focus
    refine wp_call (HN.out _ (H1.out.ext hbw).den) (by kernel_rfl) ?_
    rintro v1 W3 hb1 hr1
    obtain ⟨FA, Fc, Fn, rfl, hr1⟩ := hr1.shape
    refine hK.out _ _ ?_ ?_
    · exact HB.out.ext hb1
    clear hK K
    (try (conv => arg 6; simp only [Act.put, gL]))
    replace HB := Lib.hid (HB.out.ext hb1)
    replace HO0 := Lib.hid (HO0.out.ext hb1)
    replace R1 := Lib.hid (R1.out.ext hb1)
    replace hbw := nT hbw hb1
    have R2 := Lib.hid hr1
    clear hr1
    clear hb1
    refine hr_eff rfl (by kernel_rfl) (fun K hK => ?_) ?_
    focus
     refine wp_call (HF.out _ _ R2.out) (by kernel_rfl) ?_
     rintro v1 W4 hb1 hr1
     obtain ⟨Gs, GA, Gc, Gn, rfl, hr1⟩ := hr1.shape
     refine hK.out _ _ ?_ ?_
     · exact HB.out.ext hb1
     clear hK K
     (try (conv => arg 6; simp only [Act.put, gL]))
     replace HB := Lib.hid (HB.out.ext hb1)
     replace HO0 := Lib.hid (HO0.out.ext hb1)
     replace R1 := Lib.hid (R1.out.ext hb1)
     replace R2 := Lib.hid (R2.out.ext hb1)
     replace hbw := nT hbw hb1
     have R3 := Lib.hid hr1
     clear hr1
     clear hb1
     refine hr_eff rfl (by kernel_rfl) (fun K hK => ?_) ?_
     focus
      refine wp_call (HM.out _ _ _ R1.out R3.out) (by kernel_rfl) ?_
      rintro v1 W5 hb1 ⟨s1, A1, c1, n1, B1, k1, m1, rfl, hr1⟩
      refine hK.out _ _ ?_ ?_
      · exact HB.out.ext hb1
      clear hK K
      (try (conv => arg 6; simp only [Act.put, gL]))
      replace HB := Lib.hid (HB.out.ext hb1)
      replace HO0 := Lib.hid (HO0.out.ext hb1)
      replace R1 := Lib.hid (R1.out.ext hb1)
      replace R2 := Lib.hid (R2.out.ext hb1)
      replace R3 := Lib.hid (R3.out.ext hb1)
      replace hbw := nT hbw hb1
      have R4 := Lib.hid hr1
      clear hr1
      clear hb1
      refine hr_yes (v := ?_) rfl (by kernel_rfl) (fun W hW => ?_) ?_; rotate_left; (go_simp; try with_reducible rfl)
      (try (conv => arg 6; simp only [Act.put, gL]))
      refine hr_yes (v := ?_) rfl (by kernel_rfl) (fun W hW => ?_) ?_; rotate_left; (go_simp; try with_reducible rfl)
      (try (conv => arg 6; simp only [Act.put, gL]))
      refine hr_yes (v := ?_) rfl (by kernel_rfl) (fun W hW => ?_) ?_; rotate_left; (go_simp; try with_reducible rfl)
      (try (conv => arg 6; simp only [Act.put, gL]))
      refine hr_one rfl (by kernel_rfl) (fun K hK => ?_)
      go_simp
      refine hK.out _ _ ?_ ?_
      · exact HB.out.alloc _
      clear hK K
      (try (conv => arg 6; simp only [Act.put, gL]))
      have z_H3 := hbw.size
      have z_H3_HO0 := HO0.out.lt
      replace HB := Lib.hid (HB.out.alloc (.cells #[.bool false, .slice none 0 0, .slice none 0 0] 34))
      replace HO0 := Lib.hid (HO0.out.alloc (.cells #[.bool false, .slice none 0 0, .slice none 0 0] 34))
      replace R1 := Lib.hid (R1.out.alloc (.cells #[.bool false, .slice none 0 0, .slice none 0 0] 34))
      replace R2 := Lib.hid (R2.out.alloc (.cells #[.bool false, .slice none 0 0, .slice none 0 0] 34))
      replace R3 := Lib.hid (R3.out.alloc (.cells #[.bool false, .slice none 0 0, .slice none 0 0] 34))
      replace R4 := Lib.hid (R4.out.alloc (.cells #[.bool false, .slice none 0 0, .slice none 0 0] 34))
      replace hbw := Below.alloc hbw hbw.size (.cells #[.bool false, .slice none 0 0, .slice none 0 0] 34)
      have H3 := Lib.hid (Own.new' W5 34 [.bool false, .slice none 0 0, .slice none 0 0] W5.heap.size rfl)
      obtain ⟨bH3, e_H3⟩ : ∃ b, W5.heap.size = b := ⟨_, rfl⟩
      simp only [e_H3] at H3 z_H3 z_H3_HO0 ⊢
      generalize (W5.alloc (.cells #[.bool false, .slice none 0 0, .slice none 0 0] 34)) = W6 at HB HO0 R1 R2 R3 R4 H3 hbw ⊢
     rotate_left 1
     refine hr_eff rfl (by kernel_rfl) (fun K hK => ?_) ?_
     focus
      go_simp
      refine hK.out _ _ ?_ ?_
      · exact HB.out.alloc _
      clear hK K
      (try (conv => arg 6; simp only [Act.put, gL]))
      have z_H3 := hbw.size
      have z_H3_HO0 := HO0.out.lt
      replace HB := Lib.hid (HB.out.alloc (.cells #[.bool false, .slice none 0 0, .slice none 0 0] 34))
      replace HO0 := Lib.hid (HO0.out.alloc (.cells #[.bool false, .slice none 0 0, .slice none 0 0] 34))
      replace R1 := Lib.hid (R1.out.alloc (.cells #[.bool false, .slice none 0 0, .slice none 0 0] 34))
      replace R2 := Lib.hid (R2.out.alloc (.cells #[.bool false, .slice none 0 0, .slice none 0 0] 34))
      replace R3 := Lib.hid (R3.out.alloc (.cells #[.bool false, .slice none 0 0, .slice none 0 0] 34))
      replace hbw := Below.alloc hbw hbw.size (.cells #[.bool false, .slice none 0 0, .slice none 0 0] 34)
      have H3 := Lib.hid (Own.new' W4 34 [.bool false, .slice none 0 0, .slice none 0 0] W4.heap.size rfl)
      obtain ⟨bH3, e_H3⟩ : ∃ b, W4.heap.size = b := ⟨_, rfl⟩
      simp only [e_H3] at H3 z_H3 z_H3_HO0 ⊢
      generalize (W4.alloc (.cells #[.bool false, .slice none 0 0, .slice none 0 0] 34)) = W5 at HB HO0 R1 R2 R3 H3 hbw ⊢
      refine hr_one rfl (by kernel_rfl) (fun K hK => ?_)
      refine wp_call (HM.out _ _ _ R1.out R3.out) (by kernel_rfl) ?_
      rintro v1 W6 hb1 ⟨s1, A1, c1, n1, B1, k1, m1, rfl, hr1⟩
      refine hK.out _ _ ?_ ?_
      · exact HB.out.ext hb1
      clear hK K
      (try (conv => arg 6; simp only [Act.put, gL]))
      replace HB := Lib.hid (HB.out.ext hb1)
      replace HO0 := Lib.hid (HO0.out.ext hb1)
      replace R1 := Lib.hid (R1.out.ext hb1)
      replace R2 := Lib.hid (R2.out.ext hb1)
      replace R3 := Lib.hid (R3.out.ext hb1)
      replace H3 := Lib.hid (H3.out.ext hb1)
      replace hbw := nT hbw hb1
      have R4 := Lib.hid hr1
      clear hr1
      clear hb1
      refine hr_yes (v := ?_) rfl (by kernel_rfl) (fun W hW => ?_) ?_; rotate_left; (go_simp; try with_reducible rfl)
      (try (conv => arg 6; simp only [Act.put, gL]))
      refine hr_yes (v := ?_) rfl (by kernel_rfl) (fun W hW => ?_) ?_; rotate_left; (go_simp; try with_reducible rfl)
      (try (conv => arg 6; simp only [Act.put, gL]))
      refine hr_yes (v := ?_) rfl (by kernel_rfl) (fun W hW => ?_) ?_; rotate_left; (go_simp; try with_reducible rfl)
      (try (conv => arg 6; simp only [Act.put, gL]))
     rotate_left 1
     exact trivial
    rotate_left 2
    refine hr_eff rfl (by kernel_rfl) (fun K hK => ?_) ?_
    focus
     go_simp
     refine hK.out _ _ ?_ ?_
     · exact HB.out.alloc _
     clear hK K
     (try (conv => arg 6; simp only [Act.put, gL]))
     have z_H3 := hbw.size
     have z_H3_HO0 := HO0.out.lt
     replace HB := Lib.hid (HB.out.alloc (.cells #[.bool false, .slice none 0 0, .slice none 0 0] 34))
     replace HO0 := Lib.hid (HO0.out.alloc (.cells #[.bool false, .slice none 0 0, .slice none 0 0] 34))
     replace R1 := Lib.hid (R1.out.alloc (.cells #[.bool false, .slice none 0 0, .slice none 0 0] 34))
     replace R2 := Lib.hid (R2.out.alloc (.cells #[.bool false, .slice none 0 0, .slice none 0 0] 34))
     replace hbw := Below.alloc hbw hbw.size (.cells #[.bool false, .slice none 0 0, .slice none 0 0] 34)
     have H3 := Lib.hid (Own.new' W3 34 [.bool false, .slice none 0 0, .slice none 0 0] W3.heap.size rfl)
     obtain ⟨bH3, e_H3⟩ : ∃ b, W3.heap.size = b := ⟨_, rfl⟩
     simp only [e_H3] at H3 z_H3 z_H3_HO0 ⊢
     generalize (W3.alloc (.cells #[.bool false, .slice none 0 0, .slice none 0 0] 34)) = W4 at HB HO0 R1 R2 H3 hbw ⊢
     refine hr_one rfl (by kernel_rfl) (fun K hK => ?_)
     refine wp_call (HF.out _ _ R2.out) (by kernel_rfl) ?_
     rintro v1 W5 hb1 hr1
     obtain ⟨Gs, GA, Gc, Gn, rfl, hr1⟩ := hr1.shape
     refine hK.out _ _ ?_ ?_
     · exact HB.out.ext hb1
     clear hK K
     (try (conv => arg 6; simp only [Act.put, gL]))
     replace HB := Lib.hid (HB.out.ext hb1)
     replace HO0 := Lib.hid (HO0.out.ext hb1)
     replace R1 := Lib.hid (R1.out.ext hb1)
     replace R2 := Lib.hid (R2.out.ext hb1)
     replace H3 := Lib.hid (H3.out.ext hb1)
     replace hbw := nT hbw hb1
     have R3 := Lib.hid hr1
     clear hr1
     clear hb1
     refine hr_one rfl (by kernel_rfl) (fun K hK => ?_)
     refine wp_call (HM.out _ _ _ R1.out R3.out) (by kernel_rfl) ?_
     rintro v1 W6 hb1 ⟨s1, A1, c1, n1, B1, k1, m1, rfl, hr1⟩
     refine hK.out _ _ ?_ ?_
     · exact HB.out.ext hb1
     clear hK K
     (try (conv => arg 6; simp only [Act.put, gL]))
     replace HB := Lib.hid (HB.out.ext hb1)
     replace HO0 := Lib.hid (HO0.out.ext hb1)
     replace R1 := Lib.hid (R1.out.ext hb1)
     replace R2 := Lib.hid (R2.out.ext hb1)
     replace H3 := Lib.hid (H3.out.ext hb1)
     replace R3 := Lib.hid (R3.out.ext hb1)
     replace hbw := nT hbw hb1
     have R4 := Lib.hid hr1
     clear hr1
     clear hb1
     refine hr_yes (v := ?_) rfl (by kernel_rfl) (fun W hW => ?_) ?_; rotate_left; (go_simp; try with_reducible rfl)
     (try (conv => arg 6; simp only [Act.put, gL]))
     refine hr_yes (v := ?_) rfl (by kernel_rfl) (fun W hW => ?_) ?_; rotate_left; (go_simp; try with_reducible rfl)
     (try (conv => arg 6; simp only [Act.put, gL]))
     refine hr_yes (v := ?_) rfl (by kernel_rfl) (fun W hW => ?_) ?_; rotate_left; (go_simp; try with_reducible rfl)
     (try (conv => arg 6; simp only [Act.put, gL]))
    rotate_left 1
    exact trivial
   rotate_left 3
   refine hr_eff rfl (by kernel_rfl) (fun K hK => ?_) ?_
   focus
    go_simp
    refine hK.out _ _ ?_ ?_
    · exact HB.out.alloc _
    clear hK K
    (try (conv => arg 6; simp only [Act.put, gL]))
    have z_H3 := hbw.size
    have z_H3_HO0 := HO0.out.lt
    replace HB := Lib.hid (HB.out.alloc (.cells #[.bool false, .slice none 0 0, .slice none 0 0] 34))
    replace HO0 := Lib.hid (HO0.out.alloc (.cells #[.bool false, .slice none 0 0, .slice none 0 0] 34))
    replace R1 := Lib.hid (R1.out.alloc (.cells #[.bool false, .slice none 0 0, .slice none 0 0] 34))
    replace hbw := Below.alloc hbw hbw.size (.cells #[.bool false, .slice none 0 0, .slice none 0 0] 34)
    have H3 := Lib.hid (Own.new' W2 34 [.bool false, .slice none 0 0, .slice none 0 0] W2.heap.size rfl)
    obtain ⟨bH3, e_H3⟩ : ∃ b, W2.heap.size = b := ⟨_, rfl⟩
    simp only [e_H3] at H3 z_H3 z_H3_HO0 ⊢
    generalize (W2.alloc (.cells #[.bool false, .slice none 0 0, .slice none 0 0] 34)) = W3 at HB HO0 R1 H3 hbw ⊢
    refine hr_one rfl (by kernel_rfl) (fun K hK => ?_)
    refine wp_call (HN.out _ (H1.out.ext hbw).den) (by kernel_rfl) ?_
    rintro v1 W4 hb1 hr1
    obtain ⟨FA, Fc, Fn, rfl, hr1⟩ := hr1.shape
    refine hK.out _ _ ?_ ?_
    · exact HB.out.ext hb1
    clear hK K
    (try (conv => arg 6; simp only [Act.put, gL]))
    replace HB := Lib.hid (HB.out.ext hb1)
    replace HO0 := Lib.hid (HO0.out.ext hb1)
    replace R1 := Lib.hid (R1.out.ext hb1)
    replace H3 := Lib.hid (H3.out.ext hb1)
    replace hbw := nT hbw hb1
    have R2 := Lib.hid hr1
    clear hr1
    clear hb1
    refine hr_one rfl (by kernel_rfl) (fun K hK => ?_)
    refine wp_call (HF.out _ _ R2.out) (by kernel_rfl) ?_
    rintro v1 W5 hb1 hr1
    obtain ⟨Gs, GA, Gc, Gn, rfl, hr1⟩ := hr1.shape
    refine hK.out _ _ ?_ ?_
    · exact HB.out.ext hb1
    clear hK K
    (try (conv => arg 6; simp only [Act.put, gL]))
    replace HB := Lib.hid (HB.out.ext hb1)
    replace HO0 := Lib.hid (HO0.out.ext hb1)
    replace R1 := Lib.hid (R1.out.ext hb1)
    replace H3 := Lib.hid (H3.out.ext hb1)
    replace R2 := Lib.hid (R2.out.ext hb1)
    replace hbw := nT hbw hb1
    have R3 := Lib.hid hr1
    clear hr1
    clear hb1
    refine hr_one rfl (by kernel_rfl) (fun K hK => ?_)
    refine wp_call (HM.out _ _ _ R1.out R3.out) (by kernel_rfl) ?_
    rintro v1 W6 hb1 ⟨s1, A1, c1, n1, B1, k1, m1, rfl, hr1⟩
    refine hK.out _ _ ?_ ?_
    · exact HB.out.ext hb1
    clear hK K
    (try (conv => arg 6; simp only [Act.put, gL]))
    replace HB := Lib.hid (HB.out.ext hb1)
    replace HO0 := Lib.hid (HO0.out.ext hb1)
    replace R1 := Lib.hid (R1.out.ext hb1)
    replace H3 := Lib.hid (H3.out.ext hb1)
    replace R2 := Lib.hid (R2.out.ext hb1)
    replace R3 := Lib.hid (R3.out.ext hb1)
    replace hbw := nT hbw hb1
    have R4 := Lib.hid hr1
    clear hr1
    clear hb1
    refine hr_yes (v := ?_) rfl (by kernel_rfl) (fun W hW => ?_) ?_; rotate_left; (go_simp; try with_reducible rfl)
    (try (conv => arg 6; simp only [Act.put, gL]))
    refine hr_yes (v := ?_) rfl (by kernel_rfl) (fun W hW => ?_) ?_; rotate_left; (go_simp; try with_reducible rfl)
    (try (conv => arg 6; simp only [Act.put, gL]))
    refine hr_yes (v := ?_) rfl (by kernel_rfl) (fun W hW => ?_) ?_; rotate_left; (go_simp; try with_reducible rfl)
    (try (conv => arg 6; simp only [Act.put, gL]))
   rotate_left 1
   exact trivial
  rotate_left 4
  refine hr_eff rfl (by kernel_rfl) (fun K hK => ?_) ?_
  focus
   go_simp
   refine hK.out _ _ ?_ ?_
   · exact HB.out.alloc _
   clear hK K
   (try (conv => arg 6; simp only [Act.put, gL]))
   have z_H3 := hbw.size
   have z_H3_HO0 := HO0.out.lt
   replace HB := Lib.hid (HB.out.alloc (.cells #[.bool false, .slice none 0 0, .slice none 0 0] 34))
   replace HO0 := Lib.hid (HO0.out.alloc (.cells #[.bool false, .slice none 0 0, .slice none 0 0] 34))
   replace hbw := Below.alloc hbw hbw.size (.cells #[.bool false, .slice none 0 0, .slice none 0 0] 34)
   have H3 := Lib.hid (Own.new' W1 34 [.bool false, .slice none 0 0, .slice none 0 0] W1.heap.size rfl)
   obtain ⟨bH3, e_H3⟩ : ∃ b, W1.heap.size = b := ⟨_, rfl⟩
   simp only [e_H3] at H3 z_H3 z_H3_HO0 ⊢
   generalize (W1.alloc (.cells #[.bool false, .slice none 0 0, .slice none 0 0] 34)) = W2 at HB HO0 H3 hbw ⊢
   refine hr_one rfl (by kernel_rfl) (fun K hK => ?_)
   refine wp_call (HI.out _ (HQI.out _ (H1.out.ext hbw))) (by kernel_rfl) ?_
   rintro v1 W3 hb1 hr1
   obtain ⟨Es, EA, Ec, En, rfl, hr1⟩ := hr1.shape
   refine hK.out _ _ ?_ ?_
   · exact HB.out.ext hb1
   clear hK K
   (try (conv => arg 6; simp only [Act.put, gL]))
   replace HB := Lib.hid (HB.out.ext hb1)
   replace HO0 := Lib.hid (HO0.out.ext hb1)
   replace H3 := Lib.hid (H3.out.ext hb1)
   replace hbw := nT hbw hb1
   have R1 := Lib.hid hr1
   clear hr1
   clear hb1
   refine hr_one rfl (by kernel_rfl) (fun K hK => ?_)
   refine wp_call (HN.out _ (H1.out.ext hbw).den) (by kernel_rfl) ?_
   rintro v1 W4 hb1 hr1
   obtain ⟨FA, Fc, Fn, rfl, hr1⟩ := hr1.shape
   refine hK.out _ _ ?_ ?_
   · exact HB.out.ext hb1
   clear hK K
   (try (conv => arg 6; simp only [Act.put, gL]))
   replace HB := Lib.hid (HB.out.ext hb1)
   replace HO0 := Lib.hid (HO0.out.ext hb1)
   replace H3 := Lib.hid (H3.out.ext hb1)
   replace R1 := Lib.hid (R1.out.ext hb1)
   replace hbw := nT hbw hb1
   have R2 := Lib.hid hr1
   clear hr1
   clear hb1
   refine hr_one rfl (by kernel_rfl) (fun K hK => ?_)
   refine wp_call (HF.out _ _ R2.out) (by kernel_rfl) ?_
   rintro v1 W5 hb1 hr1
   obtain ⟨Gs, GA, Gc, Gn, rfl, hr1⟩ := hr1.shape
   refine hK.out _ _ ?_ ?_
   · exact HB.out.ext hb1
   clear hK K
   (try (conv => arg 6; simp only [Act.put, gL]))
   replace HB := Lib.hid (HB.out.ext hb1)
   replace HO0 := Lib.hid (HO0.out.ext hb1)
   replace H3 := Lib.hid (H3.out.ext hb1)
   replace R1 := Lib.hid (R1.out.ext hb1)
   replace R2 := Lib.hid (R2.out.ext hb1)
   replace hbw := nT hbw hb1
   have R3 := Lib.hid hr1
   clear hr1
   clear hb1
   refine hr_one rfl (by kernel_rfl) (fun K hK => ?_)
   refine wp_call (HM.out _ _ _ R1.out R3.out) (by kernel_rfl) ?_
   rintro v1 W6 hb1 ⟨s1, A1, c1, n1, B1, k1, m1, rfl, hr1⟩
   refine hK.out _ _ ?_ ?_
   · exact HB.out.ext hb1
   clear hK K
   (try (conv => arg 6; simp only [Act.put, gL]))
   replace HB := Lib.hid (HB.out.ext hb1)
   replace HO0 := Lib.hid (HO0.out.ext hb1)
   replace H3 := Lib.hid (H3.out.ext hb1)
   replace R1 := Lib.hid (R1.out.ext hb1)
   replace R2 := Lib.hid (R2.out.ext hb1)
   replace R3 := Lib.hid (R3.out.ext hb1)
   replace hbw := nT hbw hb1
   have R4 := Lib.hid hr1
   clear hr1
   clear hb1
   refine hr_yes (v := ?_) rfl (by kernel_rfl) (fun W hW => ?_) ?_; rotate_left; (go_simp; try with_reducible rfl)
   (try (conv => arg 6; simp only [Act.put, gL]))
   refine hr_yes (v := ?_) rfl (by kernel_rfl) (fun W hW => ?_) ?_; rotate_left; (go_simp; try with_reducible rfl)
   (try (conv => arg 6; simp only [Act.put, gL]))
   refine hr_yes (v := ?_) rfl (by kernel_rfl) (fun W hW => ?_) ?_; rotate_left; (go_simp; try with_reducible rfl)
   (try (conv => arg 6; simp only [Act.put, gL]))
  rotate_left 1
  exact trivial
  all_goals
   refine hr_one rfl (by kernel_rfl) (fun K hK => ?_)
   have q0 := H3.out.cell 0 _ rfl
   have f0 := H3.out.frozen 0
   have q1 := H3.out.cell 1 _ rfl
   have f1 := H3.out.frozen 1
   have q2 := H3.out.cell 2 _ rfl
   have f2 := H3.out.frozen 2
   go_simp
   refine hK.out _ _ ?_ ?_
   · exact (((HB.out.set (p := ⟨bH3, 0, none⟩) _ (by simp <;> omega)).set (p := ⟨bH3, 1, none⟩) _ (by simp <;> omega)).set (p := ⟨bH3, 2, none⟩) _ (by simp <;> omega))
   clear hK K
   (try (conv => arg 6; simp only [Act.put, gL]))
   replace HB := Lib.hid (HB.out.set (p := ⟨bH3, 0, none⟩) (.bool s1) (by simp <;> omega))
   replace HO0 := Lib.hid (HO0.out.other (p := ⟨bH3, 0, none⟩) (.bool s1) (by simp <;> omega))
   replace H3 := Lib.hid (H3.out.set 0 (.bool s1))
   replace R1 := Lib.hid (R1.out.set (x := .bool s1) q0 rfl)
   replace R2 := Lib.hid (R2.out.set (x := .bool s1) q0 rfl)
   replace R3 := Lib.hid (R3.out.set (x := .bool s1) q0 rfl)
   replace R4 := Lib.hid (R4.out.set (x := .bool s1) q0 rfl)
   replace hbw := Below.setCell hbw (show w.heap.size ≤ (⟨bH3, 0, none⟩ : Addr).block by simp <;> omega) (.bool s1)
   replace q1 := (World.cell?_setCell_other W6 ⟨bH3, 0, none⟩ ⟨bH3, 1, none⟩ (.bool s1) (by simp)).trans q1
   replace q2 := (World.cell?_setCell_other W6 ⟨bH3, 0, none⟩ ⟨bH3, 2, none⟩ (.bool s1) (by simp)).trans q2
   replace HB := Lib.hid (HB.out.set (p := ⟨bH3, 1, none⟩) (.slice A1 n1 c1) (by simp <;> omega))
   replace HO0 := Lib.hid (HO0.out.other (p := ⟨bH3, 1, none⟩) (.slice A1 n1 c1) (by simp <;> omega))
   replace H3 := Lib.hid (H3.out.set 1 (.slice A1 n1 c1))
   replace R1 := Lib.hid (R1.out.set (x := .slice A1 n1 c1) q1 rfl)
   replace R2 := Lib.hid (R2.out.set (x := .slice A1 n1 c1) q1 rfl)
   replace R3 := Lib.hid (R3.out.set (x := .slice A1 n1 c1) q1 rfl)
   replace R4 := Lib.hid (R4.out.set (x := .slice A1 n1 c1) q1 rfl)
   replace hbw := Below.setCell hbw (show w.heap.size ≤ (⟨bH3, 1, none⟩ : Addr).block by simp <;> omega) (.slice A1 n1 c1)
   replace q2 := (World.cell?_setCell_other (W6.setCell ⟨bH3, 0, none⟩ (.bool s1)) ⟨bH3, 1, none⟩ ⟨bH3, 2, none⟩ (.slice A1 n1 c1) (by simp)).trans q2
   replace HB := Lib.hid (HB.out.set (p := ⟨bH3, 2, none⟩) (.slice B1 m1 k1) (by simp <;> omega))
   replace HO0 := Lib.hid (HO0.out.other (p := ⟨bH3, 2, none⟩) (.slice B1 m1 k1) (by simp <;> omega))
   replace H3 := Lib.hid (H3.out.set 2 (.slice B1 m1 k1))
   replace R1 := Lib.hid (R1.out.set (x := .slice B1 m1 k1) q2 rfl)
   replace R2 := Lib.hid (R2.out.set (x := .slice B1 m1 k1) q2 rfl)
   replace R3 := Lib.hid (R3.out.set (x := .slice B1 m1 k1) q2 rfl)
   replace R4 := Lib.hid (R4.out.set (x := .slice B1 m1 k1) q2 rfl)
   replace hbw := Below.setCell hbw (show w.heap.size ≤ (⟨bH3, 2, none⟩ : Addr).block by simp <;> omega) (.slice B1 m1 k1)
   clear q0 f0 q1 f1 q2 f2
   replace H3 : Hid (Own _ _ _ [.bool s1, .slice A1 n1 c1, .slice B1 m1 k1]) := H3
   generalize (((W6.setCell ⟨bH3, 0, none⟩ (.bool s1)).setCell ⟨bH3, 1, none⟩ (.slice A1 n1 c1)).setCell ⟨bH3, 2, none⟩ (.slice B1 m1 k1)) = W7 at HB HO0 H3 R1 R2 R3 R4 hbw ⊢
   refine hr_one rfl (by kernel_rfl) (fun K hK => ?_)
   go_simp
   refine hK.out _ _ ?_ ?_
   · exact HB.out
   clear hK K
   (try (conv => arg 6; simp only [Act.put, gL]))
   refine hr_done ?_
   go_wp2
   go_meet
   exact ⟨bH3, s1, A1, c1, n1, B1, k1, m1, rfl, hbw, HB.out, HO0.out, R4.out, H3.out, by omega⟩
 obtain ⟨bH3, s1, A1, c1, n1, B1, k1, m1, rfl, hbw, h_HB, h_HO0, h_R4, h_H3, z_H3_HO0⟩ := hcut
 try clear HB HO0 R4 H3
 have HB := Lib.hid h_HB
 clear h_HB
 have HO0 := Lib.hid h_HO0
 clear h_HO0
 have R4 := Lib.hid h_R4
 clear h_R4
 have H3 := Lib.hid h_H3
 clear h_H3
 replace HB := Lib.hid (Cells.cons (H3.out.cell 2 _ rfl) HB.out)
 replace HB := Lib.hid (Cells.cons (H3.out.cell 1 _ rfl) HB.out)
 replace HB := Lib.hid (Cells.cons (H3.out.cell 0 _ rfl) HB.out)
 obtain ⟨y0, y1, y2, y3, y4, y5, _⟩ := id HB.out
 have q0 := HO0.out.cell 0 _ rfl
 have f0 := HO0.out.frozen 0
 have q1 := HO0.out.cell 1 _ rfl
 have f1 := HO0.out.frozen 1
 have q2 := HO0.out.cell 2 _ rfl
 have f2 := HO0.out.frozen 2
 go_wp2_with fail
 replace HB := Lib.hid (HB.out.set (p := ⟨w.heap.size + 1, 0, none⟩) (.bool s1) (by simp <;> omega))
 replace HO0 := Lib.hid (HO0.out.set 0 (.bool s1))
 replace R4 := Lib.hid (R4.out.set (x := .bool s1) q0 rfl)
 replace hbw := Below.setCell hbw (show w.heap.size ≤ (⟨w.heap.size + 1, 0, none⟩ : Addr).block by simp <;> omega) (.bool s1)
 replace q1 := (World.cell?_setCell_other wc ⟨w.heap.size + 1, 0, none⟩ ⟨w.heap.size + 1, 1, none⟩ (.bool s1) (by simp)).trans q1
 replace q2 := (World.cell?_setCell_other wc ⟨w.heap.size + 1, 0, none⟩ ⟨w.heap.size + 1, 2, none⟩ (.bool s1) (by simp)).trans q2
 replace HB := Lib.hid (HB.out.set (p := ⟨w.heap.size + 1, 1, none⟩) (.slice A1 n1 c1) (by simp <;> omega))
 replace HO0 := Lib.hid (HO0.out.set 1 (.slice A1 n1 c1))
 replace R4 := Lib.hid (R4.out.set (x := .slice A1 n1 c1) q1 rfl)
 replace hbw := Below.setCell hbw (show w.heap.size ≤ (⟨w.heap.size + 1, 1, none⟩ : Addr).block by simp <;> omega) (.slice A1 n1 c1)
 replace q2 := (World.cell?_setCell_other (wc.setCell ⟨w.heap.size + 1, 0, none⟩ (.bool s1)) ⟨w.heap.size + 1, 1, none⟩ ⟨w.heap.size + 1, 2, none⟩ (.slice A1 n1 c1) (by simp)).trans q2
 replace HB := Lib.hid (HB.out.set (p := ⟨w.heap.size + 1, 2, none⟩) (.slice B1 m1 k1) (by simp <;> omega))
 replace HO0 := Lib.hid (HO0.out.set 2 (.slice B1 m1 k1))
 replace R4 := Lib.hid (R4.out.set (x := .slice B1 m1 k1) q2 rfl)
 replace hbw := Below.setCell hbw (show w.heap.size ≤ (⟨w.heap.size + 1, 2, none⟩ : Addr).block by simp <;> omega) (.slice B1 m1 k1)
 clear q0 f0 q1 f1 q2 f2
 replace HO0 : Hid (Own _ _ _ [.bool s1, .slice A1 n1 c1, .slice B1 m1 k1]) := HO0
 generalize (((wc.setCell ⟨w.heap.size + 1, 0, none⟩ (.bool s1)).setCell ⟨w.heap.size + 1, 1, none⟩ (.slice A1 n1 c1)).setCell ⟨w.heap.size + 1, 2, none⟩ (.slice B1 m1 k1)) = W8 at HB HO0 R4 hbw ⊢
 have kk0 := HO0.out.cell 0 _ rfl
 have kk1 := HO0.out.cell 1 _ rfl
 have kk2 := HO0.out.cell 2 _ rfl
 refine bodyPost_ret (v := .agg #[.bool s1, .slice A1 n1 c1, .slice B1 m1 k1]) (by simp [results, Try.results24, go_sem, kk0, kk1, kk2]) rfl ⟨_, rfl, hbw, ?_⟩
 exact R4.out
end Go.Proofs.Ytlaocmhcilhlbaa
