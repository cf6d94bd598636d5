/- The document's numbers: what it is for a value to be one; trim, NatOf, I, IntOf. -/
import Derived.Test.YtadpjidakippeaaGreatY12
set_option linter.unusedVariables false
set_option linter.unusedSimpArgs false
namespace Go.Proofs.YtadpjidakippeaaGreat
open Go.RowKit
/-- abaculusref1.Nat -/
def rR (w : World) (v : Value) (n : Nat) : Prop := ∃ A c l, v = .slice A l.length c ∧ Words .u32 B32 w A c l ∧ Norm l ∧ vl B32 l = n
theorem rR.ext {w w' : World} {v : Value} {n : Nat} (h : rR w v n) (he : Ext w w') : rR w' v n := by
 obtain ⟨A, c, l, hv, hw, hn, hl⟩ := h
 exact ⟨A, c, l, hv, hw.ext he, hn, hl⟩
theorem rR.drew {w : World} {v : Value} {n : Nat} (h : rR w v n) : rR w.drew v n := h
theorem rR.alloc {w : World} {v : Value} {n : Nat} (h : rR w v n) (o : Obj) : rR (w.alloc o) v n := h.ext (ext_alloc _ _)
theorem rR.set {w : World} {v : Value} {n : Nat} (h : rR w v n) {a : Addr} {u x : Value} (hc : w.cell? a = some u) (hu : noInt u = true) : rR (w.setCell a x) v n := by
 obtain ⟨A, c, l, hv, hw, hn, hl⟩ := h
 exact ⟨A, c, l, hv, hw.set hc hu, hn, hl⟩
theorem rR.shape {w : World} {v : Value} {n : Nat} (h : rR w v n) : ∃ A c m, v = .slice A m c ∧ rR w (.slice A m c) n := by
 obtain ⟨A, c, l, rfl, h⟩ := h
 exact ⟨A, c, _, rfl, A, c, l, rfl, h⟩
theorem rR.zero (w : World) : rR w (.slice none 0 0) 0 := ⟨none, 0, [], rfl, Words.nil _ _ _ _ _, by simp [Norm], rfl⟩
theorem rR.len0 {w : World} {A : Option Addr} {m c n : Nat} (h : rR w (.slice A m c) n) : m = 0 ↔ n = 0 := by
 obtain ⟨A', c', l, hv, hw, hn, rfl⟩ := h
 simp only [Value.slice.injEq] at hv
 obtain ⟨rfl, rfl, rfl⟩ := hv
 constructor
 · intro h; rw [List.eq_nil_of_length_eq_zero h]; rfl
 ·
  intro h
  rcases Nat.eq_zero_or_pos l.length with h0 | h0
  · exact h0
  ·
   have := vl_ge B32 l hn (by intro e; rw [e] at h0; simp at h0)
   have h2 : 0 < B32 ^ (l.length - 1) := Nat.pow_pos B32_pos
   omega
/-- A number of one limb at most. -/
theorem rR.one {w : World} {A : Option Addr} {m c n : Nat} (h : rR w (.slice A m c) n) (hn : n < B32) (h0 : 0 < n) : m = 1 ∧ 1 ≤ c ∧ ∃ g o, A = some ⟨g, o, none⟩ ∧ w.cell? ⟨g, o, none⟩ = some (.int .u32 (n : Nat)) := by
 obtain ⟨A', c', l, hv, hw, hnn, rfl⟩ := h
 simp only [Value.slice.injEq] at hv
 obtain ⟨rfl, rfl, rfl⟩ := hv
 have hl : l ≠ [] := by intro e; rw [e] at h0; simp [vl] at h0
 have h1 := vl_ge B32 l hnn hl
 have h2 : l.length = 1 := by
  have h3 : 0 < l.length := List.length_pos_iff.2 hl
  rcases Nat.lt_or_ge 1 l.length with h4 | h4
  ·
   exfalso
   have : B32 ^ 1 ≤ B32 ^ (l.length - 1) := Nat.pow_le_pow_right B32_pos (by omega)
   rw [Nat.pow_one] at this
   omega
  · omega
 obtain ⟨x, rfl⟩ : ∃ x, l = [x] := List.length_eq_one_iff.1 h2
 obtain ⟨g, o, hA, hc⟩ := hw.2.2 hl
 refine ⟨rfl, by have := hw.1; simpa using this, g, o, hA, ?_⟩
 have := hc 0 (by simp)
 simpa [vl] using this
theorem rR.nat {w : World} {A : Option Addr} {m c n : Nat} (h : rR w (.slice A m c) n) : m ≤ c := by
 obtain ⟨A', c', l, hv, hw, _⟩ := h
 simp only [Value.slice.injEq] at hv
 obtain ⟨rfl, rfl, rfl⟩ := hv
 exact hw.1
set_option maxHeartbeats 400000 in
/-- trim -/
theorem rtrim_c (w : World) (A : Option Addr) (c : Nat) (l : List Nat) (h : Words .u32 B32 w A c l) (hm : l.length ≤ 17592186044416) :
  Calls Tryz.prog 95 #[.slice A l.length c] w (Post w fun v w' => rR w' v (vl B32 l)) := by
 have Hw := Lib.hid h
 have hlc := h.1
 clear h
 go_enter Tryz.func95, Tryz.ntmps95
 go_wp2_with fail
 go_loop [3] (fun t => ∃ k : Nat, k ≤ l.length ∧ t = .int .i64 (k : Nat) ∧ vl B32 l = vl B32 (l.take k)) (fun t => (intOf t).toNat)
 case atStart => exact ⟨l.length, Nat.le_refl _, rfl, by simp⟩
 case round =>
  obtain ⟨k, hk, rfl, hv⟩ := hrel
  have HV := Lib.hid hv
  clear hv
  rcases Nat.eq_zero_or_pos k with rfl | hk0
  ·
   go_wp2
   go_ret
   exact ⟨_, rfl, Below.refl _ _, A, c, l.take 0, by simp, (Hw.out.take 0), by simp [Norm], HV.out.symm⟩
  ·
   obtain ⟨m, rfl⟩ : ∃ m, k = m + 1 := ⟨k - 1, by omega⟩
   have hne : l ≠ [] := by intro e; rw [e] at hk; simp at hk
   obtain ⟨g, o, rfl, hcl⟩ := Hw.out.2.2 hne
   have hcm := hcl m (by omega)
   have hg : g < w.heap.size := World.block_lt_of_cell? w _ hcm
   have hmi : (m : Int) + 1 - 1 = (m : Int) := by omega
   have hmw : IntKind.i64.wrap (m : Int) = (m : Int) := i64w (by omega) (by omega)
   clear hcl hk0 hne
   by_cases hz : l.getD m 0 = 0
   ·
    have Hz := Lib.hid hz
    rw [hz] at hcm
    clear hz
    go_wp2
    go_round
    case rel => exact ⟨m, by omega, rfl, HV.out.trans (vl_take_zero (by omega) Hz.out)⟩
    case measure => simp [intOf]
   ·
    have Hz := Lib.hid hz
    have hzb : (((l[m]?.getD 0 : Nat) : Int) == 0) = false := by simpa using hz
    clear hz
    go_wp2
    go_ret
    exact ⟨_, rfl, Below.refl _ _, some ⟨g, o, none⟩, c, l.take (m + 1), by simp [Nat.min_eq_left hk], (Hw.out.take (m + 1)), norm_take_pos (by omega) Hz.out, HV.out.symm⟩
end Go.Proofs.YtadpjidakippeaaGreat

/- The document's numbers: NatOf, I, IntOf. -/
namespace Go.Proofs.YtadpjidakippeaaGreat
open Go.RowKit
set_option maxRecDepth 100000 in
set_option maxHeartbeats 1000000 in
/-- NatOf, of a number of one limb -/
theorem rof_c (w : World) (n : Nat) (hn : n < B32) : Calls Tryz.prog 59 #[.int .u64 (n : Nat)] w (Post w fun v w' => rR w' v n) := by
 have hw1 : IntKind.u32.wrap (n : Int) = (n : Int) := by rw [IntKind.wrap_u32]; unfold B32 at hn; omega
 have hs : n >>> 32 = 0 := by rw [Nat.shiftRight_eq_div_pow]; exact Nat.div_eq_of_lt hn
 have HT := Lib.hid (fun W h => rtrim_c W (some ⟨w.heap.size, 0, none⟩) 2 [n, 0] h (by simp))
 have HB := Lib.hid hn
 have hdv : (n : Int) / 4294967296 = 0 := by unfold B32 at hn; omega
 clear hn
 go_enter Tryz.func59, Tryz.ntmps59
 go_wp2_with fail
 have hwd : Words .u32 B32 (w.alloc (.cells #[.int .u32 (n : Nat), .int .u32 0] 107)) (some ⟨w.heap.size, 0, none⟩) 2 [n, 0] := by
  have := own_words (B := B32) (Own.new w 107 (wv .u32 [n, 0])) (by intro x hx; simp at hx; rcases hx with rfl | rfl; exact HB.out; exact B32_pos) 2 (by simp)
  simpa [wv] using this
 refine (HT.out _ hwd).mono ?_
 rintro e w1 ⟨v1, rfl, hb1, hr1⟩
 have hbe : Below w.heap.size w w1 := (by repeat (first | assumption | exact nB1 _ _ | refine nB2 ?_ | refine pw_below_drewN ?_ _ | refine nB3 ?_ (by first | omega | (simp <;> omega)) _ | refine nB4 ?_ (by first | omega | (simp <;> omega)) _ | refine nB5 ?_ (by assumption) (by first | omega | (simp <;> omega))))
 have HR := Lib.hid (show rR w1 v1 n by simpa [vl] using hr1)
 clear hr1 hb1 hwd
 go_wp2_with fail
 go_ret
 exact ⟨_, rfl, hbe, HR.out⟩
set_option maxRecDepth 100000 in
set_option maxHeartbeats 1000000 in
/-- I -/
theorem ri_c (w : World) (neg : Bool) (A : Option Addr) (m c n : Nat) (h : rR w (.slice A m c) n) : Calls Tryz.prog 94 #[.bool neg, .slice A m c] w (Post w fun r w' => r = .agg #[.bool (neg && decide (0 < n)), .slice A m c]) := by
 have h0 := h.len0
 have hd : decide (0 < n) = decide (0 < m) := by
  by_cases hm : m = 0
  · have := h0.1 hm; rw [hm, this]
  ·
   have : ¬ n = 0 := fun e => hm (h0.2 e)
   rw [decide_eq_true (show 0 < n by omega), decide_eq_true (show 0 < m by omega)]
 rw [hd]
 clear hd h0 h
 cases neg
 ·
  skip
  have HB : Hid (Cells [] (w.alloc (.cells #[.bool false, .slice none 0 0] 39))) := Lib.hid (Cells.nil _)
  have HO0 := Lib.hid (Own.new' w 39 [.bool false, .slice none 0 0] (w.heap.size) (by simp))
  have hbw : Below w.heap.size w (w.alloc (.cells #[.bool false, .slice none 0 0] 39)) := (by repeat (first | assumption | exact nB1 _ _ | refine nB2 ?_ | refine pw_below_drewN ?_ _ | refine nB3 ?_ (by first | omega | (simp <;> omega)) _ | refine nB4 ?_ (by first | omega | (simp <;> omega)) _ | refine nB5 ?_ (by assumption) (by first | omega | (simp <;> omega))))
  go_enter Tryz.func94, Tryz.ntmps94
  go_upto_region 1 with (fail)
  generalize (w.alloc (.cells #[.bool false, .slice none 0 0] 39)) = W0 at HB HO0 hbw ⊢
  have q0 := HO0.out.cell 0 _ rfl
  have f0 := HO0.out.frozen 0
  have q1 := HO0.out.cell 1 _ rfl
  have f1 := HO0.out.frozen 1
  go_wp2_with fail
  replace HB := Lib.hid (HB.out.set (p := ⟨w.heap.size, 0, none⟩) (.bool false) (by simp <;> omega))
  replace HO0 := Lib.hid (HO0.out.set 0 (.bool false))
  replace hbw := nB4 hbw (show w.heap.size ≤ (⟨w.heap.size, 0, none⟩ : Addr).block by simp <;> omega) (.bool false)
  replace q1 := (nC W0 ⟨w.heap.size, 0, none⟩ ⟨w.heap.size, 1, none⟩ (.bool false) (by simp)).trans q1
  replace HB := Lib.hid (HB.out.set (p := ⟨w.heap.size, 1, none⟩) (.slice A m c) (by simp <;> omega))
  replace HO0 := Lib.hid (HO0.out.set 1 (.slice A m c))
  replace hbw := nB4 hbw (show w.heap.size ≤ (⟨w.heap.size, 1, none⟩ : Addr).block by simp <;> omega) (.slice A m c)
  clear q0 f0 q1 f1
  replace HO0 : Hid (Own _ _ _ [.bool false, .slice A m c]) := HO0
  generalize ((W0.setCell ⟨w.heap.size, 0, none⟩ (.bool false)).setCell ⟨w.heap.size, 1, none⟩ (.slice A m c)) = W1 at HB HO0 hbw ⊢
  have kk0 := HO0.out.cell 0 _ rfl
  have kk1 := HO0.out.cell 1 _ rfl
  refine bodyPost_ret (v := .agg #[.bool false, .slice A m c]) (by simp [results, Tryz.results94, go_sem, kk0, kk1]) rfl ⟨_, rfl, hbw, ?_⟩
  rfl
 ·
  by_cases hm : m = 0
  ·
   have hm' : ¬ (0 : Int) < (m : Int) := by omega
   have hm2 : ¬ 0 < m := by omega
   have HM := Lib.hid hm
   clear hm
   have HB : Hid (Cells [] (w.alloc (.cells #[.bool false, .slice none 0 0] 39))) := Lib.hid (Cells.nil _)
   have HO0 := Lib.hid (Own.new' w 39 [.bool false, .slice none 0 0] (w.heap.size) (by simp))
   have hbw : Below w.heap.size w (w.alloc (.cells #[.bool false, .slice none 0 0] 39)) := (by repeat (first | assumption | exact nB1 _ _ | refine nB2 ?_ | refine pw_below_drewN ?_ _ | refine nB3 ?_ (by first | omega | (simp <;> omega)) _ | refine nB4 ?_ (by first | omega | (simp <;> omega)) _ | refine nB5 ?_ (by assumption) (by first | omega | (simp <;> omega))))
   go_enter Tryz.func94, Tryz.ntmps94
   go_upto_region 1 with (fail)
   generalize (w.alloc (.cells #[.bool false, .slice none 0 0] 39)) = W0 at HB HO0 hbw ⊢
   have q0 := HO0.out.cell 0 _ rfl
   have f0 := HO0.out.frozen 0
   have q1 := HO0.out.cell 1 _ rfl
   have f1 := HO0.out.frozen 1
   go_wp2_with fail
   replace HB := Lib.hid (HB.out.set (p := ⟨w.heap.size, 0, none⟩) (.bool false) (by simp <;> omega))
   replace HO0 := Lib.hid (HO0.out.set 0 (.bool false))
   replace hbw := nB4 hbw (show w.heap.size ≤ (⟨w.heap.size, 0, none⟩ : Addr).block by simp <;> omega) (.bool false)
   replace q1 := (nC W0 ⟨w.heap.size, 0, none⟩ ⟨w.heap.size, 1, none⟩ (.bool false) (by simp)).trans q1
   replace HB := Lib.hid (HB.out.set (p := ⟨w.heap.size, 1, none⟩) (.slice A m c) (by simp <;> omega))
   replace HO0 := Lib.hid (HO0.out.set 1 (.slice A m c))
   replace hbw := nB4 hbw (show w.heap.size ≤ (⟨w.heap.size, 1, none⟩ : Addr).block by simp <;> omega) (.slice A m c)
   clear q0 f0 q1 f1
   replace HO0 : Hid (Own _ _ _ [.bool false, .slice A m c]) := HO0
   generalize ((W0.setCell ⟨w.heap.size, 0, none⟩ (.bool false)).setCell ⟨w.heap.size, 1, none⟩ (.slice A m c)) = W1 at HB HO0 hbw ⊢
   have kk0 := HO0.out.cell 0 _ rfl
   have kk1 := HO0.out.cell 1 _ rfl
   refine bodyPost_ret (v := .agg #[.bool false, .slice A m c]) (by simp [results, Tryz.results94, go_sem, kk0, kk1]) rfl ⟨_, rfl, hbw, ?_⟩
   rfl
  ·
   have hm' : (0 : Int) < (m : Int) := by omega
   have hm2 : 0 < m := by omega
   have HM := Lib.hid hm
   clear hm
   have HB : Hid (Cells [] (w.alloc (.cells #[.bool false, .slice none 0 0] 39))) := Lib.hid (Cells.nil _)
   have HO0 := Lib.hid (Own.new' w 39 [.bool false, .slice none 0 0] (w.heap.size) (by simp))
   have hbw : Below w.heap.size w (w.alloc (.cells #[.bool false, .slice none 0 0] 39)) := (by repeat (first | assumption | exact nB1 _ _ | refine nB2 ?_ | refine pw_below_drewN ?_ _ | refine nB3 ?_ (by first | omega | (simp <;> omega)) _ | refine nB4 ?_ (by first | omega | (simp <;> omega)) _ | refine nB5 ?_ (by assumption) (by first | omega | (simp <;> omega))))
   go_enter Tryz.func94, Tryz.ntmps94
   go_upto_region 1 with (fail)
   generalize (w.alloc (.cells #[.bool false, .slice none 0 0] 39)) = W0 at HB HO0 hbw ⊢
   have q0 := HO0.out.cell 0 _ rfl
   have f0 := HO0.out.frozen 0
   have q1 := HO0.out.cell 1 _ rfl
   have f1 := HO0.out.frozen 1
   go_wp2_with fail
   replace HB := Lib.hid (HB.out.set (p := ⟨w.heap.size, 0, none⟩) (.bool true) (by simp <;> omega))
   replace HO0 := Lib.hid (HO0.out.set 0 (.bool true))
   replace hbw := nB4 hbw (show w.heap.size ≤ (⟨w.heap.size, 0, none⟩ : Addr).block by simp <;> omega) (.bool true)
   replace q1 := (nC W0 ⟨w.heap.size, 0, none⟩ ⟨w.heap.size, 1, none⟩ (.bool true) (by simp)).trans q1
   replace HB := Lib.hid (HB.out.set (p := ⟨w.heap.size, 1, none⟩) (.slice A m c) (by simp <;> omega))
   replace HO0 := Lib.hid (HO0.out.set 1 (.slice A m c))
   replace hbw := nB4 hbw (show w.heap.size ≤ (⟨w.heap.size, 1, none⟩ : Addr).block by simp <;> omega) (.slice A m c)
   clear q0 f0 q1 f1
   replace HO0 : Hid (Own _ _ _ [.bool true, .slice A m c]) := HO0
   generalize ((W0.setCell ⟨w.heap.size, 0, none⟩ (.bool true)).setCell ⟨w.heap.size, 1, none⟩ (.slice A m c)) = W1 at HB HO0 hbw ⊢
   have kk0 := HO0.out.cell 0 _ rfl
   have kk1 := HO0.out.cell 1 _ rfl
   refine bodyPost_ret (v := .agg #[.bool true, .slice A m c]) (by simp [results, Tryz.results94, go_sem, kk0, kk1]) rfl ⟨_, rfl, hbw, ?_⟩
   first | rfl | (rw [decide_eq_true hm2]; rfl)
/-- abaculusref1.Int -/
def rRI (w : World) (v : Value) (z : Int) : Prop := ∃ s, v = .agg #[.bool (decide (z < 0)), s] ∧ rR w s z.natAbs
theorem rRI.ext {w w' : World} {v : Value} {z : Int} (h : rRI w v z) (he : Ext w w') : rRI w' v z := by
 obtain ⟨s, hv, h⟩ := h
 exact ⟨s, hv, h.ext he⟩
theorem rRI.drew {w : World} {v : Value} {z : Int} (h : rRI w v z) : rRI w.drew v z := h
theorem rRI.alloc {w : World} {v : Value} {z : Int} (h : rRI w v z) (o : Obj) : rRI (w.alloc o) v z := h.ext (ext_alloc _ _)
theorem rRI.set {w : World} {v : Value} {z : Int} (h : rRI w v z) {a : Addr} {u x : Value} (hc : w.cell? a = some u) (hu : noInt u = true) : rRI (w.setCell a x) v z := by
 obtain ⟨s, hv, h⟩ := h
 exact ⟨s, hv, h.set hc hu⟩
theorem rRI.open {w : World} {v : Value} {z : Int} (h : rRI w v z) : ∃ A c m, v = .agg #[.bool (decide (z < 0)), .slice A m c] ∧ rR w (.slice A m c) z.natAbs := by
 obtain ⟨s, hv, h⟩ := h
 obtain ⟨A, c, m, rfl, h⟩ := h.shape
 exact ⟨A, c, m, hv, h⟩
theorem rRI.shape {w : World} {v : Value} {z : Int} (h : rRI w v z) : ∃ s A c n, v = .agg #[.bool s, .slice A n c] ∧ rRI w (.agg #[.bool s, .slice A n c]) z := by
 obtain ⟨s, hv, h⟩ := h
 obtain ⟨A, c, m, rfl, h⟩ := h.shape
 exact ⟨_, A, c, m, hv, _, rfl, h⟩
theorem rRI.mk {w : World} {s : Bool} {A : Option Addr} {m c : Nat} {z : Int} (hs : s = decide (z < 0)) (h : rR w (.slice A m c) z.natAbs) : rRI w (.agg #[.bool s, .slice A m c]) z := ⟨_, by rw [hs], h⟩
set_option maxRecDepth 100000 in
set_option maxHeartbeats 1000000 in
/-- IntOf, of a small number -/
theorem riof_c (w : World) (z : Int) (hz : -2147483648 < z ∧ z < 2147483648) : Calls Tryz.prog 58 #[.int .i64 z] w (Post w fun v w' => rRI w' v z) := by
 have HO := Lib.hid (fun W => rof_c W z.natAbs (by unfold B32; omega))
 have HI := Lib.hid (fun W neg A m c h => ri_c W neg A m c z.natAbs h)
 have HT := Lib.hid (show z < 0 → ∀ W A m c, rR W (.slice A m c) z.natAbs → Calls Tryz.prog 94 #[.bool true, .slice A m c] W (Post W fun r w' => r = .agg #[.bool true, .slice A m c]) from fun hz0 W A m c h => by
  have h1 := ri_c W true A m c z.natAbs h
  rw [decide_eq_true (show 0 < z.natAbs by omega)] at h1
  exact h1)
 have HZ := Lib.hid hz
 by_cases h : z < 0
 ·
  have h1 : IntKind.u64.wrap z = z + 18446744073709551616 := by rw [IntKind.wrap_u64]; omega
  have h2 : IntKind.u64.wrap (-(z + 18446744073709551616)) = (z.natAbs : Int) := by rw [IntKind.wrap_u64]; omega
  clear hz
  have HB : Hid (Cells [] (w.alloc (.cells #[.bool false, .slice none 0 0] 39))) := Lib.hid (Cells.nil _)
  have HO0 := Lib.hid (Own.new' w 39 [.bool false, .slice none 0 0] (w.heap.size) (by simp))
  have hbw : Below w.heap.size w (w.alloc (.cells #[.bool false, .slice none 0 0] 39)) := (by repeat (first | assumption | exact nB1 _ _ | refine nB2 ?_ | refine pw_below_drewN ?_ _ | refine nB3 ?_ (by first | omega | (simp <;> omega)) _ | refine nB4 ?_ (by first | omega | (simp <;> omega)) _ | refine nB5 ?_ (by assumption) (by first | omega | (simp <;> omega))))
  go_enter Tryz.func58, Tryz.ntmps58
  go_wp2_with fail
  generalize (w.alloc (.cells #[.bool false, .slice none 0 0] 39)) = W0 at HB HO0 hbw ⊢
  refine (HO.out _).mono ?_
  rintro e W1 ⟨v1, rfl, hb1, hr1⟩
  replace HB := Lib.hid (HB.out.ext hb1)
  replace HO0 := Lib.hid (HO0.out.ext hb1)
  replace hbw := nT hbw hb1
  have R1 := Lib.hid hr1
  clear hr1
  clear hb1
  obtain ⟨A, c, m, rfl, h3⟩ := R1.out.shape
  clear R1
  have R1 := Lib.hid h3
  clear h3
  go_wp2_with fail
  refine (HT.out h _ _ _ _ R1.out).mono ?_
  rintro e W2 ⟨v1, rfl, hb1, rfl⟩
  replace HB := Lib.hid (HB.out.ext hb1)
  replace HO0 := Lib.hid (HO0.out.ext hb1)
  replace R1 := Lib.hid (R1.out.ext hb1)
  replace hbw := nT hbw hb1
  clear hb1
  have q0 := HO0.out.cell 0 _ rfl
  have f0 := HO0.out.frozen 0
  have q1 := HO0.out.cell 1 _ rfl
  have f1 := HO0.out.frozen 1
  go_wp2_with fail
  replace HB := Lib.hid (HB.out.set (p := ⟨w.heap.size, 0, none⟩) (.bool true) (by simp <;> omega))
  replace HO0 := Lib.hid (HO0.out.set 0 (.bool true))
  replace R1 := Lib.hid (R1.out.set (x := .bool true) q0 rfl)
  replace hbw := nB4 hbw (show w.heap.size ≤ (⟨w.heap.size, 0, none⟩ : Addr).block by simp <;> omega) (.bool true)
  replace q1 := (nC W2 ⟨w.heap.size, 0, none⟩ ⟨w.heap.size, 1, none⟩ (.bool true) (by simp)).trans q1
  replace HB := Lib.hid (HB.out.set (p := ⟨w.heap.size, 1, none⟩) (.slice A m c) (by simp <;> omega))
  replace HO0 := Lib.hid (HO0.out.set 1 (.slice A m c))
  replace R1 := Lib.hid (R1.out.set (x := .slice A m c) q1 rfl)
  replace hbw := nB4 hbw (show w.heap.size ≤ (⟨w.heap.size, 1, none⟩ : Addr).block by simp <;> omega) (.slice A m c)
  clear q0 f0 q1 f1
  replace HO0 : Hid (Own _ _ _ [.bool true, .slice A m c]) := HO0
  generalize ((W2.setCell ⟨w.heap.size, 0, none⟩ (.bool true)).setCell ⟨w.heap.size, 1, none⟩ (.slice A m c)) = W3 at HB HO0 R1 hbw ⊢
  have kk0 := HO0.out.cell 0 _ rfl
  have kk1 := HO0.out.cell 1 _ rfl
  refine bodyPost_ret (v := .agg #[.bool true, .slice A m c]) (by simp [results, Tryz.results58, go_sem, kk0, kk1]) rfl ⟨_, rfl, hbw, ?_⟩
  exact rRI.mk (by simp [h]) R1.out
 ·
  have h1 : IntKind.u64.wrap z = (z.natAbs : Int) := by rw [IntKind.wrap_u64]; omega
  clear hz
  have HB : Hid (Cells [] (w.alloc (.cells #[.bool false, .slice none 0 0] 39))) := Lib.hid (Cells.nil _)
  have HO0 := Lib.hid (Own.new' w 39 [.bool false, .slice none 0 0] (w.heap.size) (by simp))
  have hbw : Below w.heap.size w (w.alloc (.cells #[.bool false, .slice none 0 0] 39)) := (by repeat (first | assumption | exact nB1 _ _ | refine nB2 ?_ | refine pw_below_drewN ?_ _ | refine nB3 ?_ (by first | omega | (simp <;> omega)) _ | refine nB4 ?_ (by first | omega | (simp <;> omega)) _ | refine nB5 ?_ (by assumption) (by first | omega | (simp <;> omega))))
  go_enter Tryz.func58, Tryz.ntmps58
  go_wp2_with fail
  generalize (w.alloc (.cells #[.bool false, .slice none 0 0] 39)) = W0 at HB HO0 hbw ⊢
  refine (HO.out _).mono ?_
  rintro e W1 ⟨v1, rfl, hb1, hr1⟩
  replace HB := Lib.hid (HB.out.ext hb1)
  replace HO0 := Lib.hid (HO0.out.ext hb1)
  replace hbw := nT hbw hb1
  have R1 := Lib.hid hr1
  clear hr1
  clear hb1
  obtain ⟨A, c, m, rfl, h3⟩ := R1.out.shape
  clear R1
  have R1 := Lib.hid h3
  clear h3
  go_wp2_with fail
  refine (HI.out _ _ _ _ _ R1.out).mono ?_
  rintro e W2 ⟨v1, rfl, hb1, rfl⟩
  replace HB := Lib.hid (HB.out.ext hb1)
  replace HO0 := Lib.hid (HO0.out.ext hb1)
  replace R1 := Lib.hid (R1.out.ext hb1)
  replace hbw := nT hbw hb1
  clear hb1
  have q0 := HO0.out.cell 0 _ rfl
  have f0 := HO0.out.frozen 0
  have q1 := HO0.out.cell 1 _ rfl
  have f1 := HO0.out.frozen 1
  go_wp2_with fail
  replace HB := Lib.hid (HB.out.set (p := ⟨w.heap.size, 0, none⟩) (.bool false) (by simp <;> omega))
  replace HO0 := Lib.hid (HO0.out.set 0 (.bool false))
  replace R1 := Lib.hid (R1.out.set (x := .bool false) q0 rfl)
  replace hbw := nB4 hbw (show w.heap.size ≤ (⟨w.heap.size, 0, none⟩ : Addr).block by simp <;> omega) (.bool false)
  replace q1 := (nC W2 ⟨w.heap.size, 0, none⟩ ⟨w.heap.size, 1, none⟩ (.bool false) (by simp)).trans q1
  replace HB := Lib.hid (HB.out.set (p := ⟨w.heap.size, 1, none⟩) (.slice A m c) (by simp <;> omega))
  replace HO0 := Lib.hid (HO0.out.set 1 (.slice A m c))
  replace R1 := Lib.hid (R1.out.set (x := .slice A m c) q1 rfl)
  replace hbw := nB4 hbw (show w.heap.size ≤ (⟨w.heap.size, 1, none⟩ : Addr).block by simp <;> omega) (.slice A m c)
  clear q0 f0 q1 f1
  replace HO0 : Hid (Own _ _ _ [.bool false, .slice A m c]) := HO0
  generalize ((W2.setCell ⟨w.heap.size, 0, none⟩ (.bool false)).setCell ⟨w.heap.size, 1, none⟩ (.slice A m c)) = W3 at HB HO0 R1 hbw ⊢
  have kk0 := HO0.out.cell 0 _ rfl
  have kk1 := HO0.out.cell 1 _ rfl
  refine bodyPost_ret (v := .agg #[.bool false, .slice A m c]) (by simp [results, Tryz.results58, go_sem, kk0, kk1]) rfl ⟨_, rfl, hbw, ?_⟩
  exact rRI.mk (by simp [h]) R1.out
end Go.Proofs.YtadpjidakippeaaGreat

/- The document's numbers, of one limb: NatCmp, one. -/
namespace Go.Proofs.YtadpjidakippeaaGreat
open Go.RowKit
theorem rR.nil {w : World} {A : Option Addr} {m c : Nat} (h : rR w (.slice A m c) 0) : m = 0 := h.len0.2 rfl
set_option maxRecDepth 100000 in
set_option maxHeartbeats 1000000 in
/-- NatCmp, of one limb -/
theorem rcmp_c (w : World) (va vb : Value) (a b : Nat) (ha : rR w va a) (hb : rR w vb b) (fa : a < B32) (fb : b < B32) : Calls Tryz.prog 31 #[va, vb] w (Post w fun r _ => r = .int .i64 (cmpI a b)) := by
 obtain ⟨A, c, m, rfl, ha⟩ := ha.shape
 obtain ⟨B, d, n, rfl, hb⟩ := hb.shape
 rcases Nat.eq_zero_or_pos a with rfl | a0
 ·
  obtain rfl := ha.nil
  rcases Nat.eq_zero_or_pos b with rfl | b0
  ·
   obtain rfl := hb.nil
   clear ha hb fa fb
   have HB : Hid (Cells [] w) := Lib.hid (Cells.nil _)
   have hbw : Below w.heap.size w w := Below.refl _ _
   go_enter Tryz.func31, Tryz.ntmps31
   go_upto_block 0 with (fail)
   go_wp2_with fail
   go_loopw [5] (fun t W => t = .int .i64 (-1) ∧ Below w.heap.size w W) (fun t _ => 0)
   case atStart => exact ⟨rfl, hbw⟩
   case round =>
    obtain ⟨rfl, hbe⟩ := hrel
    go_wp2_with fail
    go_ret
    exact ⟨_, rfl, hbe, rfl⟩
  ·
   obtain ⟨rfl, _⟩ := hb.one fb b0
   have hc : cmpI 0 b = -1 := cmpI_lt b0
   rw [hc]
   clear ha hb fa fb hc
   have HB : Hid (Cells [] w) := Lib.hid (Cells.nil _)
   have hbw : Below w.heap.size w w := Below.refl _ _
   go_enter Tryz.func31, Tryz.ntmps31
   go_wp2_with fail
   go_ret
   exact ⟨_, rfl, hbw, rfl⟩
 ·
  obtain ⟨rfl, ha2, g, o, rfl, hca⟩ := ha.one fa a0
  rcases Nat.eq_zero_or_pos b with rfl | b0
  ·
   obtain rfl := hb.nil
   have hc : cmpI a 0 = 1 := cmpI_gt a0
   rw [hc]
   clear ha hb fa fb hc hca
   have HB : Hid (Cells [] w) := Lib.hid (Cells.nil _)
   have hbw : Below w.heap.size w w := Below.refl _ _
   go_enter Tryz.func31, Tryz.ntmps31
   go_wp2_with fail
   go_ret
   exact ⟨_, rfl, hbw, rfl⟩
  ·
   obtain ⟨rfl, hb2, g', o', rfl, hcb⟩ := hb.one fb b0
   have HA := Lib.hid hca
   have HC := Lib.hid hcb
   clear ha hb fa fb hca hcb a0 b0
   have HB : Hid (Cells [] w) := Lib.hid (Cells.nil _)
   have hbw : Below w.heap.size w w := Below.refl _ _
   go_enter Tryz.func31, Tryz.ntmps31
   go_upto_block 0 with (fail)
   go_wp2_with fail
   go_loopw [5] (fun t W => ((t = .int .i64 0) ∨ (t = .int .i64 (-1) ∧ a = b)) ∧ Below w.heap.size w W) (fun t _ => (intOf t + 1).toNat)
   case atStart => exact ⟨.inl rfl, hbw⟩
   case round =>
    obtain ⟨h, hbe⟩ := hrel
    clear hbw HB
    have hbw := hbe
    clear hbe
    rcases h with rfl | ⟨rfl, rfl⟩
    ·
     have xa := ext_cell hbw HA.out
     have xb := ext_cell hbw HC.out
     go_wp2_with fail
     have HB : Hid (Cells [(g, o, .int .u32 (a : Nat)), (g', o', .int .u32 (b : Nat))] wr) := Lib.hid (Cells.cons (xa) (Cells.cons (xb) (Cells.nil _)))
     clear xa xb
     replace HB := Lib.hid (HB.out.drew)
     replace hbw := Below.drew hbw
     refine wp_hoist [(0, true), (1, true), (2, true), (3, true), (4, true), (5, true), (6, true), (7, true), (8, true)] (Cells [(g, o, .int .u32 (a : Nat)), (g', o', .int .u32 (b : Nat))]) (by kernel_rfl) (by kernel_rfl) ?_ ?_
     · exact HB.out
     generalize wr.drew = W21 at HB hbw ⊢
     refine hz_yes (v := ?_) rfl (by kernel_rfl) (fun W hW => ?_) ?_; rotate_left; (go_simp; try with_reducible rfl)
     (try (conv => arg 6; simp only [Act.put, gL]))
     refine hz_yes (v := ?_) rfl (by kernel_rfl) (fun W hW => ?_) ?_; rotate_left; (go_simp; try with_reducible rfl)
     (try (conv => arg 6; simp only [Act.put, gL]))
     refine hz_yes (v := ?_) rfl (by kernel_rfl) (fun W hW => ?_) ?_; rotate_left; (go_simp; try with_reducible rfl)
     (try (conv => arg 6; simp only [Act.put, gL]))
     refine hz_yes (v := ?_) rfl (by kernel_rfl) (fun W hW => ?_) ?_; rotate_left; (obtain ⟨y0, y1, _⟩ := hW; go_simp; try with_reducible rfl)
     (try (conv => arg 6; simp only [Act.put, gL]))
     refine hz_yes (v := ?_) rfl (by kernel_rfl) (fun W hW => ?_) ?_; rotate_left; (go_simp; try with_reducible rfl)
     (try (conv => arg 6; simp only [Act.put, gL]))
     refine hz_yes (v := ?_) rfl (by kernel_rfl) (fun W hW => ?_) ?_; rotate_left; (go_simp; try with_reducible rfl)
     (try (conv => arg 6; simp only [Act.put, gL]))
     refine hz_yes (v := ?_) rfl (by kernel_rfl) (fun W hW => ?_) ?_; rotate_left; (go_simp; try with_reducible rfl)
     (try (conv => arg 6; simp only [Act.put, gL]))
     refine hz_yes (v := ?_) rfl (by kernel_rfl) (fun W hW => ?_) ?_; rotate_left; (obtain ⟨y0, y1, _⟩ := hW; go_simp; try with_reducible rfl)
     (try (conv => arg 6; simp only [Act.put, gL]))
     refine hz_yes (v := ?_) rfl (by kernel_rfl) (fun W hW => ?_) ?_; rotate_left; (go_simp; try with_reducible rfl)
     (try (conv => arg 6; simp only [Act.put, gL]))
     refine hz_nil ?_
     by_cases hab : a = b
     ·
      have hne : ((a : Int) != (b : Int)) = false := by rw [hab]; simp
      have HAB := Lib.hid hab
      clear hab
      go_wp2_with fail
      go_roundw
      case rel => exact ⟨.inr ⟨rfl, HAB.out⟩, hbw⟩
      case measure => simp [intOf]
     ·
      have hne : ((a : Int) != (b : Int)) = true := by rw [bne_iff_ne]; omega
      have HAB := Lib.hid hab
      go_wp2_with fail
      replace HB := Lib.hid (HB.out.drew)
      replace hbw := Below.drew hbw
      refine wp_hoist [(0, true), (1, true), (2, true), (3, true), (4, true), (5, true), (6, true), (7, true), (8, true)] (Cells [(g, o, .int .u32 (a : Nat)), (g', o', .int .u32 (b : Nat))]) (by kernel_rfl) (by kernel_rfl) ?_ ?_
      · exact HB.out
      generalize W21.drew = W22 at HB hbw ⊢
      refine hz_yes (v := ?_) rfl (by kernel_rfl) (fun W hW => ?_) ?_; rotate_left; (go_simp; try with_reducible rfl)
      (try (conv => arg 6; simp only [Act.put, gL]))
      refine hz_yes (v := ?_) rfl (by kernel_rfl) (fun W hW => ?_) ?_; rotate_left; (go_simp; try with_reducible rfl)
      (try (conv => arg 6; simp only [Act.put, gL]))
      refine hz_yes (v := ?_) rfl (by kernel_rfl) (fun W hW => ?_) ?_; rotate_left; (go_simp; try with_reducible rfl)
      (try (conv => arg 6; simp only [Act.put, gL]))
      refine hz_yes (v := ?_) rfl (by kernel_rfl) (fun W hW => ?_) ?_; rotate_left; (obtain ⟨y0, y1, _⟩ := hW; go_simp; try with_reducible rfl)
      (try (conv => arg 6; simp only [Act.put, gL]))
      refine hz_yes (v := ?_) rfl (by kernel_rfl) (fun W hW => ?_) ?_; rotate_left; (go_simp; try with_reducible rfl)
      (try (conv => arg 6; simp only [Act.put, gL]))
      refine hz_yes (v := ?_) rfl (by kernel_rfl) (fun W hW => ?_) ?_; rotate_left; (go_simp; try with_reducible rfl)
      (try (conv => arg 6; simp only [Act.put, gL]))
      refine hz_yes (v := ?_) rfl (by kernel_rfl) (fun W hW => ?_) ?_; rotate_left; (go_simp; try with_reducible rfl)
      (try (conv => arg 6; simp only [Act.put, gL]))
      refine hz_yes (v := ?_) rfl (by kernel_rfl) (fun W hW => ?_) ?_; rotate_left; (obtain ⟨y0, y1, _⟩ := hW; go_simp; try with_reducible rfl)
      (try (conv => arg 6; simp only [Act.put, gL]))
      refine hz_yes (v := ?_) rfl (by kernel_rfl) (fun W hW => ?_) ?_; rotate_left; (go_simp; try with_reducible rfl)
      (try (conv => arg 6; simp only [Act.put, gL]))
      refine hz_nil ?_
      rcases Nat.lt_or_ge a b with h1 | h1
      ·
       have HE := Lib.hid (cmpI_lt h1)
       have hlt : (a : Int) < (b : Int) := by omega
       clear hab h1
       go_wp2_with fail
       go_ret
       exact ⟨_, rfl, hbw, by rw [HE.out]; rfl⟩
      ·
       have HE := Lib.hid (cmpI_gt (show b < a by omega))
       have hlt : ¬ (a : Int) < (b : Int) := by omega
       clear hab h1
       go_wp2_with fail
       go_ret
       exact ⟨_, rfl, hbw, by rw [HE.out]; rfl⟩
    ·
     have HE := Lib.hid (cmpI_eq (rfl : a = a))
     go_wp2_with fail
     go_ret
     exact ⟨_, rfl, hbw, by rw [HE.out]; rfl⟩
theorem info32 : (Tryz.prog.info? 107).map (fun i => (i.zero, i.size, i.bytes)) = some (some (.int .u32 0), 1, 4) := by kernel_rfl
theorem und32 : Tryz.prog.underlying 37 = some (.slice 107) := by kernel_rfl
theorem mk32 (n : Int) (m : Nat) (e : n = m) (hn : m * 4 ≤ 281474976710656) (W : World) : (Instr.makeSlice 37 (.int .i64 n) (.int .i64 n)).run Tryz.prog W = .ok (.slice (some ⟨W.heap.size, 0, none⟩) m m) (W.alloc (.cells (zeroW .u32 m) 107)) := by
 rw [e]; exact mk_words _ _ _ 4 und32 info32 (by omega) m hn W
def ROneSaid (w' : World) (v : Value) (a b : Nat) : Prop := ∃ q, v = .tuple #[q, .int .u32 (a % b : Nat)] ∧ rR w' q (a / b)
set_option maxRecDepth 100000 in
set_option maxHeartbeats 1000000 in
/-- one, of one limb -/
theorem rone_c (w : World) (va : Value) (a b : Nat) (ha : rR w va a) (fa : a < B32) (fb : b < B32) (a0 : 0 < a) (b0 : 0 < b) : Calls Tryz.prog 126 #[va, .int .u32 (b : Nat)] w (Post w fun r w' => ROneSaid w' r a b) := by
 obtain ⟨A, c, m, rfl, ha⟩ := ha.shape
 obtain ⟨rfl, ha2, g, o, rfl, hca⟩ := ha.one fa a0
 have hmk := mk32 1 1 rfl (by omega)
 rw [show zeroW .u32 1 = #[.int .u32 0] from rfl] at hmk
 have hA := cell_lt hca
 have hne : g ≠ w.heap.size := by omega
 obtain ⟨q, eq⟩ : ∃ q, a / b = q := ⟨_, rfl⟩
 obtain ⟨r, er⟩ : ∃ r, a % b = r := ⟨_, rfl⟩
 have hq : q < B32 := by rw [← eq]; exact Nat.lt_of_le_of_lt (Nat.div_le_self _ _) fa
 have hr : r < B32 := by rw [← er]; exact Nat.lt_trans (Nat.mod_lt _ b0) fb
 have e1 : Int.tdiv (a : Int) (b : Int) = (q : Int) := by rw [Int.tdiv_eq_ediv_of_nonneg (by omega), ← eq]; rfl
 have e2 : Int.tmod (a : Int) (b : Int) = (r : Int) := by rw [Int.tmod_eq_emod_of_nonneg (by omega), ← er]; rfl
 have w1 : IntKind.u64.wrap (b : Int) = (b : Int) := by rw [IntKind.wrap_u64]; unfold B32 at fb; omega
 have w2 : IntKind.u64.wrap (a : Int) = (a : Int) := by rw [IntKind.wrap_u64]; unfold B32 at fa; omega
 have w3 : IntKind.u64.wrap (q : Int) = (q : Int) := by rw [IntKind.wrap_u64]; unfold B32 at hq; omega
 have w4 : IntKind.u32.wrap (q : Int) = (q : Int) := by rw [IntKind.wrap_u32]; unfold B32 at hq; omega
 have w5 : IntKind.u32.wrap (r : Int) = (r : Int) := by rw [IntKind.wrap_u32]; unfold B32 at hr; omega
 have w6 : IntKind.u64.wrap (r : Int) = (r : Int) := by rw [IntKind.wrap_u64]; unfold B32 at hr; omega
 have w7 : (q : Int) % 4294967296 = (q : Int) := by unfold B32 at hq; omega
 have w8 : (r : Int) % 4294967296 = (r : Int) := by unfold B32 at hr; omega
 have hor : bits .or .u64 0 (a : Int) = (a : Int) := by
  have := bits_or_u64_nat 0 a (by omega) (by unfold B32 at fa; omega)
  simpa using this
 have hb1 : ((b : Int) == 0) = false := by rw [beq_eq_false_iff_ne]; omega
 have hb2 : ¬ (b : Int) = 0 := by omega
 have hb3 : ¬ b = 0 := by omega
 have HQ := Lib.hid hq
 have HEQ := Lib.hid eq
 have HER := Lib.hid er
 have HA := Lib.hid hca
 clear ha hca fa fb hq hr eq er a0 b0
 go_enter Tryz.func126, Tryz.ntmps126
 go_wp2_with fail
 go_loopw [7, 8] (fun t7 t8 W => Below w.heap.size w W ∧ ((t7 = .int .u64 0 ∧ t8 = .int .i64 0 ∧ Own W w.heap.size 107 [.int .u32 0]) ∨ (t7 = .int .u64 (r : Nat) ∧ t8 = .int .i64 (-1) ∧ Own W w.heap.size 107 [.int .u32 (q : Nat)]))) (fun _ t _ => (intOf t + 1).toNat)
 case atStart => exact ⟨(by repeat (first | assumption | exact nB1 _ _ | refine nB2 ?_ | refine pw_below_drewN ?_ _ | refine nB3 ?_ (by first | omega | (simp <;> omega)) _ | refine nB4 ?_ (by first | omega | (simp <;> omega)) _ | refine nB5 ?_ (by assumption) (by first | omega | (simp <;> omega)))), .inl ⟨rfl, rfl, Own.new w 107 [.int .u32 0]⟩⟩
 case round =>
  obtain ⟨hbw, h⟩ := hrel
  have xa := ext_cell hbw HA.out
  rcases h with ⟨rfl, rfl, ho⟩ | ⟨rfl, rfl, ho⟩
  ·
   have HO := Lib.hid ho
   have q0 := ho.cell 0 _ rfl
   have f0 := ho.frozen 0
   clear ho
   go_wp2_with fail
   go_roundw
   case rel => exact ⟨hbw.setCell (Nat.le_refl _) _, .inr ⟨rfl, rfl, HO.out.set 0 _⟩⟩
   case measure => simp [intOf]
  ·
   have HO := Lib.hid ho
   have hwd : Words .u32 B32 wr (some ⟨w.heap.size, 0, none⟩) 1 [q] := own_words (k := .u32) (l := [q]) (by simpa [wv] using ho) (by intro x hx; simp at hx; rw [hx]; exact HQ.out) 1 (by simp)
   have HT := Lib.hid (rtrim_c wr (some ⟨w.heap.size, 0, none⟩) 1 [q] hwd (by simp))
   clear ho hwd
   go_wp2_with fail
   refine HT.out.mono ?_
   rintro e w1 ⟨v1, rfl, hb1, hr1⟩
   have hbe : Below w.heap.size w w1 := nT hbw hb1
   have HR := Lib.hid (show rR w1 v1 q by simpa [vl] using hr1)
   clear hr1 hb1
   go_wp2_with fail
   go_ret2
   exact ⟨_, rfl, hbe, v1, by rw [HER.out]; rfl, by rw [HEQ.out]; exact HR.out⟩
end Go.Proofs.YtadpjidakippeaaGreat

/- The document's numbers, of one limb: NatDiv, NatGcd. -/
namespace Go.Proofs.YtadpjidakippeaaGreat
open Go.RowKit
def RDivSaid (w' : World) (v : Value) (a b : Nat) : Prop := ∃ A c m B d n, v = .tuple #[.slice A m c, .slice B n d] ∧ rR w' (.slice A m c) (a / b) ∧ rR w' (.slice B n d) (a % b)
set_option maxRecDepth 100000 in
set_option maxHeartbeats 1000000 in
/-- NatDiv, of one limb -/
theorem rdiv_c (w : World) (va vb : Value) (a b : Nat) (ha : rR w va a) (hb : rR w vb b) (fa : a < B32) (fb : b < B32) (b0 : 0 < b) : Calls Tryz.prog 118 #[va, vb] w (Post w fun r w' => RDivSaid w' r a b) := by
 obtain ⟨A, c, m, rfl, ha⟩ := ha.shape
 obtain ⟨B, d, n, rfl, hb⟩ := hb.shape
 obtain ⟨rfl, hb2, g, o, rfl, hcb⟩ := hb.one fb b0
 have HC := Lib.hid (rcmp_c w _ _ a b ha hb fa fb)
 have H1 := Lib.hid ha
 have HX := Lib.hid hcb
 have HO := Lib.hid (fun W (h : rR W (.slice A m c) a) (h0 : 0 < a) => rone_c W _ a b h fa fb h0 b0)
 rcases Nat.lt_or_ge a b with h | h
 ·
  rw [cmpI_lt h] at HC
  have e1 : a / b = 0 := Nat.div_eq_of_lt h
  have e2 : a % b = a := Nat.mod_eq_of_lt h
  have HE := Lib.hid (And.intro e1 e2)
  clear ha hb fa fb b0 hcb h e1 e2
  go_enter Tryz.func118, Tryz.ntmps118
  go_wp2_with fail
  refine HC.out.mono ?_
  rintro e w1 ⟨v1, rfl, hb1, rfl⟩
  have hbe : Below w.heap.size w w1 := hb1
  have H2 := Lib.hid (H1.out.ext hb1)
  clear hb1
  go_wp2_with fail
  go_ret2
  exact ⟨_, rfl, hbe, none, 0, 0, A, c, m, rfl, by rw [HE.out.1]; exact rR.zero _, by rw [HE.out.2]; exact H2.out⟩
 ·
  obtain ⟨t, et⟩ : ∃ t, cmpI a b = t := ⟨_, rfl⟩
  have ht : ¬ t < 0 := by rw [← et]; unfold cmpI; rw [if_neg (by omega)]; split <;> omega
  rw [et] at HC
  have ha0 : 0 < a := by omega
  have HA0 := Lib.hid ha0
  have hr : a % b < B32 := Nat.lt_trans (Nat.mod_lt _ b0) fb
  have HR := Lib.hid (fun W => rof_c W (a % b) hr)
  obtain ⟨r, er⟩ : ∃ r, a % b = r := ⟨_, rfl⟩
  have HS := Lib.hid (show ∀ W v, ROneSaid W v a b → ∃ A1 c1 m1, v = .tuple #[.slice A1 m1 c1, .int .u32 (r : Nat)] ∧ rR W (.slice A1 m1 c1) (a / b) from fun W v ⟨q, hv, hq⟩ => by
   obtain ⟨A1, c1, m1, rfl, hq⟩ := hq.shape
   exact ⟨A1, c1, m1, by rw [hv, er], hq⟩)
  have HER := Lib.hid er
  rw [er] at HR hr
  have w1 : IntKind.u64.wrap (r : Int) = (r : Int) := by rw [IntKind.wrap_u64]; unfold B32 at hr; omega
  clear ha hb fa fb b0 hcb h et ha0 hr er
  go_enter Tryz.func118, Tryz.ntmps118
  go_wp2_with fail
  refine HC.out.mono ?_
  rintro e w1 ⟨v1, rfl, hb1, rfl⟩
  have hbe : Below w.heap.size w w1 := hb1
  have H2 := Lib.hid (H1.out.ext hb1)
  have xb := ext_cell hb1 HX.out
  clear hb1
  go_wp2_with fail
  refine ((HO.out _ H2.out HA0.out).mono (fun _ _ h => h.map HS.out)).mono ?_
  rintro e w2 ⟨v2, rfl, hb2, A1, c1, m1, rfl, hq⟩
  have hbe2 : Below w.heap.size w w2 := Below.trans hbe (Below.mono hb2 hbe.size)
  have H3 := Lib.hid hq
  clear hb2 hq xb hbe
  go_wp2_with fail
  refine (HR.out _).mono ?_
  rintro e w3 ⟨v3, rfl, hb3, hr3⟩
  have hbe3 : Below w.heap.size w w3 := Below.trans hbe2 (Below.mono hb3 hbe2.size)
  have H4 := Lib.hid (H3.out.ext hb3)
  obtain ⟨A3, c3, m3, rfl, hr3⟩ := hr3.shape
  have H5 := Lib.hid hr3
  clear hb3 hr3 hbe2
  go_wp2_with fail
  go_ret2
  exact ⟨_, rfl, hbe3, A1, c1, m1, A3, c3, m3, rfl, H4.out, by rw [HER.out]; exact H5.out⟩
/-- The one limb of a number. -/
def limb (t : Value) (W : World) : Nat := match t with
 | .slice (some p) (_ + 1) _ => (intOf ((W.cell? p).getD undef)).toNat
 | _ => 0
theorem limb_eq {w : World} {v : Value} {n : Nat} (h : rR w v n) (hn : n < B32) : limb v w = n := by
 obtain ⟨A, c, m, rfl, h⟩ := h.shape
 rcases Nat.eq_zero_or_pos n with rfl | h0
 ·
  obtain rfl := h.nil
  cases A <;> rfl
 ·
  obtain ⟨rfl, _, g, o, rfl, hc⟩ := h.one hn h0
  simp [limb, hc, intOf]
set_option maxRecDepth 100000 in
set_option maxHeartbeats 1000000 in
/-- NatGcd, of one limb -/
theorem rgcd_c (w : World) (va vb : Value) (a b : Nat) (ha : rR w va a) (hb : rR w vb b) (fa : a < B32) (fb : b < B32) : Calls Tryz.prog 117 #[va, vb] w (Post w fun r w' => rR w' r (Nat.gcd a b)) := by
 have HRD := Lib.hid (fun W v u a b h h' => rdiv_c W v u a b h h')
 obtain ⟨g, eg⟩ : ∃ g, Nat.gcd a b = g := ⟨_, rfl⟩
 rw [eg]
 have HA := Lib.hid ha
 have HB := Lib.hid hb
 have HF := Lib.hid (And.intro fa fb)
 have HG := Lib.hid eg
 clear ha hb fa fb eg
 go_enter Tryz.func117, Tryz.ntmps117
 go_wp2_with fail
 go_loopw [0, 1] (fun ta tb W => ∃ x y : Nat, rR W ta x ∧ rR W tb y ∧ x < B32 ∧ y < B32 ∧ Nat.gcd x y = g ∧ Below w.heap.size w W) (fun _ tb W => limb tb W)
 case atStart => exact ⟨a, b, HA.out, HB.out, HF.out.1, HF.out.2, HG.out, Below.refl _ _⟩
 case round =>
  obtain ⟨x, y, hx, hy, fx, fy, hg, hbe⟩ := hrel
  obtain ⟨A, c, m, rfl, hx⟩ := hx.shape
  obtain ⟨B, d, n, rfl, hy⟩ := hy.shape
  have HX := Lib.hid hx
  have HY := Lib.hid hy
  have HG' := Lib.hid hg
  rcases Nat.eq_zero_or_pos y with rfl | y0
  ·
   obtain rfl := hy.nil
   clear hx hy fx fy hg
   go_wp2_with fail
   go_ret
   exact ⟨_, rfl, hbe, by rw [← HG'.out, Nat.gcd_zero_right]; exact HX.out⟩
  ·
   obtain ⟨rfl, _, _⟩ := hy.one fy y0
   have HD := Lib.hid (HRD.out wr _ _ x y hx hy fx fy y0)
   have HF' := Lib.hid (And.intro fy (Nat.lt_trans (Nat.mod_lt x y0) fy))
   have HW := Lib.hid (words_step (a := x) (b := y) (by omega))
   have HL := Lib.hid (limb_eq hy fy)
   have HY0 := Lib.hid y0
   clear hx hy fx fy hg y0
   go_wp2_with fail
   refine HD.out.mono ?_
   rintro e w1 ⟨v1, rfl, hb1, A1, c1, m1, A2, c2, m2, rfl, h1, h2⟩
   have hbe1 : Below w.heap.size w w1 := Below.trans hbe (Below.mono hb1 hbe.size)
   have HY1 := Lib.hid (HY.out.ext hb1)
   have HR := Lib.hid h2
   clear hb1 h1 h2 hbe
   go_wp2_with fail
   go_roundw
   case rel => exact ⟨y, x % y, HY1.out, HR.out, HF'.out.1, HF'.out.2, by rw [← HG'.out]; exact HW.out.symm, hbe1⟩
   case measure =>
    rw [limb_eq HR.out HF'.out.2, HL.out]
    exact Nat.mod_lt _ HY0.out
end Go.Proofs.YtadpjidakippeaaGreat
