/- whole.top, whole.words. -/
import Derived.Test.YtadpjidakippeaaGreatY07
set_option linter.unusedVariables false
set_option linter.unusedSimpArgs false
namespace Go.Proofs.YtadpjidakippeaaGreat
open Go.RowKit
def topI (x k : Nat) : Int := IntKind.i64.wrap (if x / 2 ^ (min k 65536) < B64 then (x / 2 ^ (min k 65536) : Nat) else 0)
set_option maxHeartbeats 1000000 in
theorem top_c (w : World) (v : Value) (x k : Nat) (h : rNat w v x) (hf : Fit x) (hk : 1 ≤ k) (hk2 : k ≤ 9223372036854775807) :
  Calls Tryz.prog 123 #[v, .int .i64 (k : Nat)] w (Post w fun r _ => r = .int .i64 (topI x k)) := by
 obtain ⟨A, c, n, rfl, h⟩ := h.shape
 have HS := Lib.hid (fun W h => shift_d W (.agg #[.slice A n c]) x (-(k : Int)) (min k 65536) h hf (by omega) (by omega) (by omega))
 have HM := Lib.hid (fun W v h => small_c W v (x / 2 ^ (min k 65536)) h)
 have H1 := Lib.hid h
 have hw1 : IntKind.i64.wrap (-(k : Int)) = -(k : Int) := i64w (by omega) (by omega)
 obtain ⟨t, et⟩ : ∃ t, x / 2 ^ (min k 65536) = t := ⟨_, rfl⟩
 have hT : topI x k = IntKind.i64.wrap ((if t < B64 then t else 0 : Nat) : Int) := by unfold topI; rw [et]; split <;> rfl
 obtain ⟨u, eu⟩ : ∃ u, ((if t < B64 then t else 0 : Nat) : Int) = u := ⟨_, rfl⟩
 have hSaid : ∀ r, SmallSaid r t → r = .tuple #[.int .u64 u, .bool (decide (t < B64))] := fun r h => by rw [← eu]; exact h
 obtain ⟨y, ey⟩ : ∃ y, IntKind.i64.wrap u = y := ⟨_, rfl⟩
 obtain ⟨bb, eb⟩ : ∃ bb, decide (t < B64) = bb := ⟨_, rfl⟩
 rw [eu, ey] at hT
 rw [hT]
 rw [et] at HS HM
 rw [eb] at hSaid
 have HSAID := Lib.hid hSaid
 clear h hf hk hk2 et eu eb hSaid hT
 go_enter Tryz.func123, Tryz.ntmps123
 go_wp2_with fail
 refine (HS.out _ (H1.out.ext (by repeat (first | assumption | exact nB1 _ _ | refine nB2 ?_ | refine pw_below_drewN ?_ _ | refine nB3 ?_ (by first | omega | (simp <;> omega)) _ | refine nB4 ?_ (by first | omega | (simp <;> omega)) _ | refine nB5 ?_ (by assumption) (by first | omega | (simp <;> omega)))))).mono ?_
 rintro e w1 ⟨v1, rfl, hb1, hr1⟩
 have hbe1 : Below w.heap.size w w1 := (by repeat (first | assumption | exact nB1 _ _ | refine nB2 ?_ | refine pw_below_drewN ?_ _ | refine nB3 ?_ (by first | omega | (simp <;> omega)) _ | refine nB4 ?_ (by first | omega | (simp <;> omega)) _ | refine nB5 ?_ (by assumption) (by first | omega | (simp <;> omega))))
 clear hb1
 go_wp2_with fail
 refine (HM.out _ _ hr1).mono ?_
 rintro e w2 ⟨v2, rfl, hb2, hr2⟩
 obtain rfl := HSAID.out _ hr2
 have hbe2 : Below w.heap.size w w2 := Below.trans hbe1 (Below.mono hb2 hbe1.size)
 clear hr2 hb2 hbe1 hr1
 go_wp2_with fail
 go_ret
 exact ⟨_, rfl, hbe2, rfl⟩
/-- whole.words -/
theorem words_step {a b : Nat} (hb : b ≠ 0) : Nat.gcd a b = Nat.gcd b (a % b) := by
 rw [Nat.gcd_comm a b, Nat.gcd_rec, Nat.gcd_comm]
set_option maxHeartbeats 1000000 in
theorem words_c (w : World) (a b : Nat) (ha : a < B64) (hb : b < B64) : Calls Tryz.prog 108 #[.int .u64 (a : Nat), .int .u64 (b : Nat)] w (Post w fun r _ => r = .int .u64 (Nat.gcd a b : Nat)) := by
 go_enter Tryz.func108, Tryz.ntmps108
 go_wp2_with fail
 go_loopw [0, 1] (fun ta tb wr => ∃ p q : Nat, p < B64 ∧ q < B64 ∧ ta = .int .u64 (p : Nat) ∧ tb = .int .u64 (q : Nat) ∧ Nat.gcd p q = Nat.gcd a b ∧ Below w.heap.size w wr) (fun _ tb _ => (intOf tb).toNat)
 case atStart => exact ⟨a, b, ha, hb, rfl, rfl, rfl, Below.refl _ _⟩
 case round =>
  obtain ⟨p, q, hp, hq, rfl, rfl, hg, hbe⟩ := hrel
  have HG := Lib.hid hg
  have HP := Lib.hid hp
  have HQ := Lib.hid hq
  clear hg hp hq
  rcases Nat.eq_zero_or_pos q with rfl | hq0
  ·
   go_wp2
   go_ret
   exact ⟨_, rfl, hbe, by rw [← HG.out, Nat.gcd_zero_right]; rfl⟩
  ·
   have hne : ((q : Int) == 0) = false := by rw [beq_eq_false_iff_ne]; omega
   have hne2 : (q : Int) ≠ 0 := by omega
   have hne3 : ¬ (q : Int) = 0 := by omega
   have htm : Int.tmod (p : Int) (q : Int) = ((p % q : Nat) : Int) := by rw [Int.tmod_eq_emod_of_nonneg (by omega)]; rfl
   obtain ⟨r, er⟩ : ∃ r, p % q = r := ⟨_, rfl⟩
   have hrq : r < q := by rw [← er]; exact Nat.mod_lt _ hq0
   rw [er] at htm
   have ER := Lib.hid er
   have HQ0 := Lib.hid hq0
   clear er hq0
   go_wp2_with fail
   go_quiet (fail)
   go_wp2
   go_roundw
   case rel => exact ⟨q, r, HQ.out, Nat.lt_trans hrq HQ.out, rfl, rfl, by rw [← HG.out, ← ER.out]; exact (words_step (by have := HQ0.out; omega)).symm, pw_below_drewN hbe _⟩
   case measure => simp [intOf]; omega
end Go.Proofs.YtadpjidakippeaaGreat

/- whole.mixed. -/
namespace Go.Proofs.YtadpjidakippeaaGreat
open Go.RowKit
/-- Two boxes of one cell each. -/
structure Box11 (a b : Nat) (x y : Value) (W : World) : Prop where
 a0 : W.cell? ⟨a, 0, none⟩ = some x
 b0 : W.cell? ⟨b, 0, none⟩ = some y
theorem Box11.ext {a b : Nat} {x y : Value} {W W' : World} (h : Box11 a b x y W) (he : Ext W W') : Box11 a b x y W' := ⟨ext_cell he h.a0, ext_cell he h.b0⟩
theorem Box11.other {a b : Nat} {x y : Value} {W : World} (h : Box11 a b x y W) {p : Addr} (v : Value) (ha : p.block ≠ a) (hb : p.block ≠ b) : Box11 a b x y (W.setCell p v) :=
 ⟨(nC _ _ _ _ (fun e => ha (congrArg Addr.block e))).trans h.a0, (nC _ _ _ _ (fun e => hb (congrArg Addr.block e))).trans h.b0⟩
theorem bl_word {n : Nat} (h : n < B64) : bl n ≤ 64 := bl_le_of_lt (k := 64) h
theorem i64_abs {z : Int} (h : I64 z) : z.natAbs < B64 := by unfold I64 at h; unfold B64; omega
theorem post_open {w w' : World} {e : Ending} {z : Int} (h : Post w (fun r w' => rInt w' r z) e w') : Post w (fun r w' => ∃ A c n, r = .agg #[.bool (decide (z < 0)), .slice A n c] ∧ rNat w' (.agg #[.slice A n c]) z.natAbs) e w' := by
 obtain ⟨v, he, hb, hr⟩ := h
 exact ⟨v, he, hb, hr.open⟩
theorem int_field (sb : Bool) (A : Option Addr) (n c : Nat) (W : World) : (Instr.field 30 (.agg #[.bool sb, .slice A n c]) 1).run Tryz.prog W = .ok (.agg #[.slice A n c]) W := by
 first
 | kernel_rfl
 | (simp [Instr.field, go_sem, part, asAgg]; done)
set_option maxHeartbeats 2000000 in
theorem mixed_c (w : World) (vx vy : Value) (p q : Int) (x y : Nat) (hx : rNat w vx x) (hy : rNat w vy y) (hp : I64 p) (hq : I64 q) (fx : bl x ≤ 35184372088700) (fy : bl y ≤ 35184372088700) :
  Calls Tryz.prog 124 #[.int .i64 p, vx, .int .i64 q, vy] w (Post w fun r w' => rNat w' r (p * x + q * y).natAbs) := by
 obtain ⟨A, c, n, rfl, hx⟩ := hx.shape
 obtain ⟨A2, c2, n2, rfl, hy⟩ := hy.shape
 have hbp : bl p.natAbs ≤ 64 := bl_word (i64_abs hp)
 have hbq : bl q.natAbs ≤ 64 := bl_word (i64_abs hq)
 have hpx : bl (p * x).natAbs ≤ 35184372088831 := by rw [Int.natAbs_mul]; have := bl_mul p.natAbs x; simp only [Int.natAbs_natCast]; omega
 have hqy : bl (q * y).natAbs ≤ 35184372088831 := by rw [Int.natAbs_mul]; have := bl_mul q.natAbs y; simp only [Int.natAbs_natCast]; omega
 have HOP := Lib.hid (fun W => iof_c W p hp.1 hp.2)
 have HOQ := Lib.hid (fun W => iof_c W q hq.1 hq.2)
 have HFX := Lib.hid (fun W v h => from_c W false v x h (Nat.le_trans fx (by omega)))
 have HFY := Lib.hid (fun W v h => from_c W false v y h (Nat.le_trans fy (by omega)))
 have HMX := Lib.hid (fun W v u h h' => imul_c W v u p x h h' (by simp only [Int.natAbs_natCast]; omega))
 have HMY := Lib.hid (fun W v u h h' => imul_c W v u q y h h' (by simp only [Int.natAbs_natCast]; omega))
 have HAD := Lib.hid (fun W v u h h' => (iadd_c W v u (p * x) (q * y) h h' hpx hqy).mono (fun _ _ h => post_open h))
 have H1 := Lib.hid hx
 have H2 := Lib.hid hy
 have HB0 : Hid (Box11 w.heap.size (w.heap.size + 1) (.slice A n c) (.slice A2 n2 c2) (((w.alloc (.cells #[.slice A n c] 28)).alloc (.cells #[.slice A2 n2 c2] 28)).alloc (.cells #[.slice none 0 0] 28)).drew) := ⟨by go_simp, by go_simp⟩
 have HO0 := Lib.hid (Own.new' ((w.alloc (.cells #[.slice A n c] 28)).alloc (.cells #[.slice A2 n2 c2] 28)) 28 [.slice none 0 0] (w.heap.size + 1 + 1) (by simp)).drew
 have hbw : Below w.heap.size w (((w.alloc (.cells #[.slice A n c] 28)).alloc (.cells #[.slice A2 n2 c2] 28)).alloc (.cells #[.slice none 0 0] 28)).drew := (by repeat (first | assumption | exact nB1 _ _ | refine nB2 ?_ | refine pw_below_drewN ?_ _ | refine nB3 ?_ (by first | omega | (simp <;> omega)) _ | refine nB4 ?_ (by first | omega | (simp <;> omega)) _ | refine nB5 ?_ (by assumption) (by first | omega | (simp <;> omega))))
 clear hx hy hp hq fx fy hbp hbq hpx hqy
 have hfd := int_field
 go_enter Tryz.func124, Tryz.ntmps124
 go_wp2_with fail
 refine wp_hoistL [(0, true), (2, true), (5, true), (7, true), (1, false), (3, false), (4, false), (6, false), (8, false), (9, false), (10, false), (11, true), (12, false)] 12 (Box11 w.heap.size (w.heap.size + 1) (.slice A n c) (.slice A2 n2 c2)) (by kernel_rfl) (by kernel_rfl) ?_ ?_
 · exact HB0.out
 refine hl_yes (v := ?_) rfl (by kernel_rfl) (fun W hW => ?_) ?_; rotate_left; (go_simp; try with_reducible rfl)
 (try simp only [Act.put, gL])
 refine hl_yes (v := ?_) rfl (by kernel_rfl) (fun W hW => ?_) ?_; rotate_left; (obtain ⟨y1, y2⟩ := hW; go_simp; try with_reducible rfl)
 (try simp only [Act.put, gL])
 refine hl_yes (v := ?_) rfl (by kernel_rfl) (fun W hW => ?_) ?_; rotate_left; (go_simp; try with_reducible rfl)
 (try simp only [Act.put, gL])
 refine hl_yes (v := ?_) rfl (by kernel_rfl) (fun W hW => ?_) ?_; rotate_left; (obtain ⟨y1, y2⟩ := hW; go_simp; try with_reducible rfl)
 (try simp only [Act.put, gL])
 refine hl_eff rfl (by kernel_rfl) (fun K hK => ?_)
 go_simp
 refine (HOP.out _).mono ?_
 rintro e wq ⟨v1, rfl, hb1, hr1⟩
 refine hK.out _ _ ?_ ?_
 · exact HB0.out.ext hb1
 clear hK K
 (try simp only [Act.put, gL])
 obtain ⟨s1, Ax, cx, nx, rfl, hr1⟩ := hr1.shape
 have R1 := Lib.hid hr1
 replace HB0 := Lib.hid (HB0.out.ext hb1)
 replace HO0 := Lib.hid (HO0.out.ext hb1)
 replace hbw := nT hbw hb1
 clear hr1
 clear hb1
 refine hl_eff rfl (by kernel_rfl) (fun K hK => ?_)
 go_simp
 refine (HFX.out _ _ (H1.out.ext hbw)).mono ?_
 rintro e wq ⟨v1, rfl, hb1, hr1⟩
 refine hK.out _ _ ?_ ?_
 · exact HB0.out.ext hb1
 clear hK K
 (try simp only [Act.put, gL])
 obtain ⟨s1, Ax, cx, nx, rfl, hr1⟩ := hr1.shape
 have R2 := Lib.hid hr1
 replace HB0 := Lib.hid (HB0.out.ext hb1)
 replace HO0 := Lib.hid (HO0.out.ext hb1)
 replace hbw := nT hbw hb1
 clear hr1
 replace R1 := Lib.hid (R1.out.ext hb1)
 clear hb1
 refine hl_eff rfl (by kernel_rfl) (fun K hK => ?_)
 go_simp
 refine (HMX.out _ _ _ R1.out R2.out).mono ?_
 rintro e wq ⟨v1, rfl, hb1, hr1⟩
 refine hK.out _ _ ?_ ?_
 · exact HB0.out.ext hb1
 clear hK K
 (try simp only [Act.put, gL])
 obtain ⟨s1, Ax, cx, nx, rfl, hr1⟩ := hr1.shape
 have R3 := Lib.hid hr1
 replace HB0 := Lib.hid (HB0.out.ext hb1)
 replace HO0 := Lib.hid (HO0.out.ext hb1)
 replace hbw := nT hbw hb1
 clear hr1
 clear hb1
 refine hl_eff rfl (by kernel_rfl) (fun K hK => ?_)
 go_simp
 refine (HOQ.out _).mono ?_
 rintro e wq ⟨v1, rfl, hb1, hr1⟩
 refine hK.out _ _ ?_ ?_
 · exact HB0.out.ext hb1
 clear hK K
 (try simp only [Act.put, gL])
 obtain ⟨s1, Ax, cx, nx, rfl, hr1⟩ := hr1.shape
 have R4 := Lib.hid hr1
 replace HB0 := Lib.hid (HB0.out.ext hb1)
 replace HO0 := Lib.hid (HO0.out.ext hb1)
 replace hbw := nT hbw hb1
 clear hr1
 replace R3 := Lib.hid (R3.out.ext hb1)
 clear hb1
 refine hl_eff rfl (by kernel_rfl) (fun K hK => ?_)
 go_simp
 refine (HFY.out _ _ (H2.out.ext hbw)).mono ?_
 rintro e wq ⟨v1, rfl, hb1, hr1⟩
 refine hK.out _ _ ?_ ?_
 · exact HB0.out.ext hb1
 clear hK K
 (try simp only [Act.put, gL])
 obtain ⟨s1, Ax, cx, nx, rfl, hr1⟩ := hr1.shape
 have R5 := Lib.hid hr1
 replace HB0 := Lib.hid (HB0.out.ext hb1)
 replace HO0 := Lib.hid (HO0.out.ext hb1)
 replace hbw := nT hbw hb1
 clear hr1
 replace R3 := Lib.hid (R3.out.ext hb1)
 replace R4 := Lib.hid (R4.out.ext hb1)
 clear hb1
 refine hl_eff rfl (by kernel_rfl) (fun K hK => ?_)
 go_simp
 refine (HMY.out _ _ _ R4.out R5.out).mono ?_
 rintro e wq ⟨v1, rfl, hb1, hr1⟩
 refine hK.out _ _ ?_ ?_
 · exact HB0.out.ext hb1
 clear hK K
 (try simp only [Act.put, gL])
 obtain ⟨s1, Ax, cx, nx, rfl, hr1⟩ := hr1.shape
 have R6 := Lib.hid hr1
 replace HB0 := Lib.hid (HB0.out.ext hb1)
 replace HO0 := Lib.hid (HO0.out.ext hb1)
 replace hbw := nT hbw hb1
 clear hr1
 replace R3 := Lib.hid (R3.out.ext hb1)
 clear hb1
 refine hl_eff rfl (by kernel_rfl) (fun K hK => ?_)
 go_simp
 refine (HAD.out _ _ _ R3.out R6.out).mono ?_
 rintro e wq ⟨v1, rfl, hb1, Ax, cx, nx, rfl, hrn⟩
 refine hK.out _ _ ?_ ?_
 · exact HB0.out.ext hb1
 clear hK K
 (try simp only [Act.put, gL])
 refine hl_yes (v := ?_) rfl (by kernel_rfl) (fun W hW => ?_) ?_; rotate_left; (go_simp; try with_reducible rfl)
 (try simp only [Act.put, gL])
 replace HO0 := Lib.hid (HO0.out.ext hb1)
 replace hbw := nT hbw hb1
 have HN := Lib.hid hrn
 have hoc := HO0.out.cell 0 _ rfl
 have hof := HO0.out.frozen 0
 have hk := (HO0.out.set 0 (.slice Ax nx cx)).cell 0 _ rfl
 have HOC := Lib.hid hoc
 clear hrn hb1
 refine hl_last rfl (by kernel_rfl) (fun K hK => ?_)
 go_simp
 refine hK.out _ _ ?_
 clear hK K
 (try simp only [Act.put, gL])
 go_wp2
 refine bodyPost_ret (v := .agg #[.slice Ax nx cx]) (by simp [results, Tryz.results124, go_sem, hk]) rfl ⟨_, rfl, (by repeat (first | assumption | exact nB1 _ _ | refine nB2 ?_ | refine pw_below_drewN ?_ _ | refine nB3 ?_ (by first | omega | (simp <;> omega)) _ | refine nB4 ?_ (by first | omega | (simp <;> omega)) _ | refine nB5 ?_ (by assumption) (by first | omega | (simp <;> omega)))), ?_⟩
 exact HN.out.set HOC.out rfl
end Go.Proofs.YtadpjidakippeaaGreat

/- Lehmer's step: the plain law. -/
namespace Go.Proofs.YtadpjidakippeaaGreat
open Go.RowKit
/-- One round of Lehmer's step, even. -/
structure Leh (T a0 b0 a b m0 m1 m2 m3 X Y : Int) : Prop where
 s0 : 0 ≤ m0
 s1 : m1 ≤ 0
 s2 : m2 ≤ 0
 s3 : 0 ≤ m3
 xl : (a + m1) * T ≤ X
 xh : X ≤ (a + m0) * T
 yl : (b + m2) * T ≤ Y
 yh : Y ≤ (b + m3) * T
 ia : m3 * a - m1 * b = a0
 ib : m0 * b - m2 * a = b0
 pa : 1 ≤ a
 pb : 0 ≤ b
 n0 : 0 ≤ a + m1
 n1 : 0 ≤ b + m2
theorem Leh.step {T a0 b0 a b m0 m1 m2 m3 X Y n : Int} (hT : 0 < T) (h : Leh T a0 b0 a b m0 m1 m2 m3 X Y) (hb2 : 0 < b + m2) (hn : 0 ≤ n)
  (h1 : n * (b + m2) ≤ a + m0) (h2 : a + m0 < (n + 1) * (b + m2)) (h3 : n * (b + m3) ≤ a + m1) (h4 : a + m1 < (n + 1) * (b + m3)) :
  Leh T b0 a0 b (a - n * b) m3 m2 (m1 - n * m3) (m0 - n * m2) Y (X - n * Y) ∧ 0 ≤ X - n * Y ∧ X - n * Y < Y := by
 obtain ⟨s0, s1, s2, s3, xl, xh, yl, yh, ia, ib, pa, pb, n0, n1⟩ := h
 have e1 : n * Y ≤ n * ((b + m3) * T) := Int.mul_le_mul_of_nonneg_left yh hn
 have e2 : n * (b + m3) * T ≤ (a + m1) * T := Int.mul_le_mul_of_nonneg_right h3 (Int.le_of_lt hT)
 have e3 : n * ((b + m2) * T) ≤ n * Y := Int.mul_le_mul_of_nonneg_left yl hn
 have e4 : (a + m0 + 1) * T ≤ (n + 1) * (b + m2) * T := Int.mul_le_mul_of_nonneg_right (by omega) (Int.le_of_lt hT)
 have p3 : 0 ≤ n * m3 := Int.mul_nonneg hn s3
 have p2 : n * m2 ≤ 0 := by have := Int.mul_nonneg hn (show 0 ≤ -m2 by omega); rw [Int.mul_neg] at this; omega
 refine ⟨⟨s3, s2, by omega, by omega, yl, yh, ?_, ?_, ?_, ?_, by omega, ?_, by omega, ?_⟩, ?_, ?_⟩
 ·
  have : (a - n * b + (m1 - n * m3)) * T = (a + m1) * T - n * ((b + m3) * T) := by grind
  omega
 ·
  have : (a - n * b + (m0 - n * m2)) * T = (a + m0) * T - n * ((b + m2) * T) := by grind
  omega
 · grind
 · grind
 ·
  have : n * (b + m3) = n * b + n * m3 := by grind
  omega
 ·
  have : n * (b + m3) = n * b + n * m3 := by grind
  omega
 ·
  have : n * (b + m3) * T = n * ((b + m3) * T) := by grind
  omega
 ·
  have h5 : (n + 1) * ((b + m2) * T) ≤ (n + 1) * Y := Int.mul_le_mul_of_nonneg_left yl (by omega)
  have h6 : (n + 1) * (b + m2) * T = (n + 1) * ((b + m2) * T) := by grind
  have h7 : (n + 1) * Y = n * Y + Y := by grind
  have h8 : (a + m0 + 1) * T = (a + m0) * T + T := by grind
  omega

def W64 (z : Int) : Int := IntKind.i64.wrap z
theorem W64_eq (z : Int) : ∃ t : Int, W64 z = z + 18446744073709551616 * t ∧ -9223372036854775808 ≤ W64 z ∧ W64 z < 9223372036854775808 := by
 refine ⟨-((z + 9223372036854775808) / 18446744073709551616), ?_, ?_⟩ <;> (unfold W64; rw [IntKind.wrap_i64]; omega)
theorem W64_id {z : Int} (h : I64 z) : W64 z = z := i64w h.1 (by have := h.2; omega)
theorem W64_in (z : Int) : I64 (W64 z) := by obtain ⟨t, _, h⟩ := W64_eq z; exact h
theorem W64_of {z r t : Int} (h : z = r + 18446744073709551616 * t) (hr : I64 r) : W64 z = r := by
 obtain ⟨t', h', h1, h2⟩ := W64_eq z
 unfold I64 at hr
 omega
theorem lehmer_falls {a b m0 m2 n : Int} (hu : W64 (b + m2) ≠ 0) (hn : n = W64 (Int.tdiv (W64 (a + m0)) (W64 (b + m2)))) :
  (W64 (W64 (a - W64 (n * b)) + W64 (m0 - W64 (n * m2)))).natAbs < (W64 (b + m2)).natAbs := by
 obtain ⟨p, ep⟩ : ∃ p, W64 (a + m0) = p := ⟨_, rfl⟩
 obtain ⟨u, eu⟩ : ∃ u, W64 (b + m2) = u := ⟨_, rfl⟩
 obtain ⟨t1, h1, _⟩ := W64_eq (a + m0)
 obtain ⟨t2, h2, h2a, h2b⟩ := W64_eq (b + m2)
 obtain ⟨t3, h3, _⟩ := W64_eq (n * b)
 obtain ⟨t4, h4, _⟩ := W64_eq (n * m2)
 obtain ⟨t5, h5, _⟩ := W64_eq (a - W64 (n * b))
 obtain ⟨t6, h6, _⟩ := W64_eq (m0 - W64 (n * m2))
 obtain ⟨t7, h7, _⟩ := W64_eq (Int.tdiv p u)
 rw [ep] at h1 hn
 rw [eu] at h2 h2a h2b hn hu ⊢
 rw [← hn] at h7
 have hd := Int.mul_tdiv_add_tmod p u
 have hr : (Int.tmod p u).natAbs < u.natAbs := by
  rw [Int.natAbs_tmod]
  exact Nat.mod_lt _ (by omega)
 obtain ⟨r, er⟩ : ∃ r, Int.tmod p u = r := ⟨_, rfl⟩
 obtain ⟨d, ed⟩ : ∃ d, Int.tdiv p u = d := ⟨_, rfl⟩
 rw [er] at hd hr
 rw [ed] at hd h7
 have key : W64 (W64 (a - W64 (n * b)) + W64 (m0 - W64 (n * m2))) = r := by
  refine W64_of (t := t5 + t6 - t3 - t4 - t1 + n * t2 - t7 * u) ?_ ⟨by omega, by omega⟩
  rw [h5, h6, h3, h4]
  grind
 rw [key]
 exact hr
end Go.Proofs.YtadpjidakippeaaGreat

/- Lehmer's step: exact while the numbers have 62 bits. Plain. -/
namespace Go.Proofs.YtadpjidakippeaaGreat
open Go.RowKit
theorem Leh.bounds {T a0 b0 a b m0 m1 m2 m3 X Y : Int} (h : Leh T a0 b0 a b m0 m1 m2 m3 X Y) : -m2 ≤ b0 ∧ m3 ≤ a0 := by
 obtain ⟨s0, s1, s2, s3, xl, xh, yl, yh, ia, ib, pa, pb, n0, n1⟩ := h
 have e1 : 0 ≤ m0 * b := Int.mul_nonneg s0 pb
 have e2 : 0 ≤ (-m1) * b := Int.mul_nonneg (by omega) pb
 have e3 : 0 ≤ (-m2) * (a - 1) := Int.mul_nonneg (by omega) (by omega)
 have e4 : 0 ≤ m3 * (a - 1) := Int.mul_nonneg s3 (by omega)
 constructor <;> grind
theorem quo_of {p u n : Int} (hp : 0 ≤ p) (hp2 : p < 9223372036854775808) (hu : 0 < u) (hn : n = W64 (Int.tdiv p u)) : 0 ≤ n ∧ n * u ≤ p ∧ p < (n + 1) * u := by
 rw [Int.tdiv_eq_ediv_of_nonneg hp] at hn
 have h0 : 0 ≤ p / u := Int.ediv_nonneg hp (by omega)
 have h1 : p / u * u ≤ p := Int.ediv_mul_le p (by omega)
 have h2 : p < (p / u + 1) * u := Int.lt_ediv_add_one_mul_self p hu
 have h3 : p / u ≤ p := Int.ediv_le_self u hp
 rw [W64_id ⟨by omega, by omega⟩] at hn
 rw [hn]
 exact ⟨h0, h1, h2⟩
theorem Leh.exact {T a0 b0 a b m0 m1 m2 m3 X Y n C : Int} (hT : 0 < T) (h : Leh T a0 b0 a b m0 m1 m2 m3 X Y) (hC : C ≤ 4611686018427387904) (ha : a < C) (hb : b < C) (c0 : m0 ≤ C) (c1 : -C ≤ m1) (A0 : a0 ≤ C) (B0 : b0 ≤ C)
  (hu : W64 (b + m2) ≠ 0) (hv : W64 (b + m3) ≠ 0) (hn : n = W64 (Int.tdiv (W64 (a + m0)) (W64 (b + m2)))) (hn' : n = W64 (Int.tdiv (W64 (a + m1)) (W64 (b + m3)))) :
  (Leh T b0 a0 b (a - n * b) m3 m2 (m1 - n * m3) (m0 - n * m2) Y (X - n * Y) ∧ 0 ≤ X - n * Y ∧ X - n * Y < Y) ∧
  W64 (a - W64 (n * b)) = a - n * b ∧ W64 (m0 - W64 (n * m2)) = m0 - n * m2 ∧ W64 (m1 - W64 (n * m3)) = m1 - n * m3 ∧ a - n * b < C ∧ m0 - n * m2 ≤ C ∧ -C ≤ m1 - n * m3 := by
 obtain ⟨b2, b3⟩ := h.bounds
 have s0 := h.s0
 have s1 := h.s1
 have s2 := h.s2
 have s3 := h.s3
 have n0 := h.n0
 have n1 := h.n1
 have pa := h.pa
 have pb := h.pb
 rw [W64_id (show I64 (b + m2) from ⟨by omega, by omega⟩)] at hu hn
 rw [W64_id (show I64 (b + m3) from ⟨by omega, by omega⟩)] at hv hn'
 rw [W64_id (show I64 (a + m0) from ⟨by omega, by omega⟩)] at hn
 rw [W64_id (show I64 (a + m1) from ⟨by omega, by omega⟩)] at hn'
 obtain ⟨k0, k1, k2⟩ := quo_of (by omega) (by omega) (by omega) hn
 obtain ⟨_, k3, k4⟩ := quo_of (by omega) (by omega) (by omega) hn'
 have hs := h.step hT (by omega) k0 k1 k2 k3 k4
 obtain ⟨d2, d3⟩ := hs.1.bounds
 have e0 := hs.1.pb
 have e2 := hs.1.s2
 have e3 := hs.1.s3
 have f1 : 0 ≤ n * b := Int.mul_nonneg k0 pb
 have f3 : 0 ≤ n * m3 := Int.mul_nonneg k0 s3
 have f2 : n * m2 ≤ 0 := by have := Int.mul_nonneg k0 (show 0 ≤ -m2 by omega); rw [Int.mul_neg] at this; omega
 refine ⟨hs, ?_, ?_, ?_, by omega, by omega, by omega⟩
 · rw [W64_id (show I64 (n * b) from ⟨by omega, by omega⟩), W64_id ⟨by omega, by omega⟩]
 · rw [W64_id (show I64 (n * m2) from ⟨by omega, by omega⟩), W64_id ⟨by omega, by omega⟩]
 · rw [W64_id (show I64 (n * m3) from ⟨by omega, by omega⟩), W64_id ⟨by omega, by omega⟩]
/-- What nearer's loop keeps, while the numbers have 62 bits. -/
structure LehI (T a0 b0 x y : Int) (g : Nat) (a b m0 m1 m2 m3 : Int) : Prop where
 ex : ∃ X Y, X = m0 * x + m1 * y ∧ Y = m2 * x + m3 * y ∧ (Leh T a0 b0 a b m0 m1 m2 m3 X Y ∨ Leh T b0 a0 a b m1 m0 m3 m2 X Y) ∧ 0 ≤ Y ∧ Y ≤ X ∧ Nat.gcd X.natAbs Y.natAbs = g ∧ (m1 = 0 ∨ Y < y) ∧ Y ≤ y ∧ (X ≤ x ∨ X ≤ y)
 ba : a < 4611686018427387904
 bb : b < 4611686018427387904
 c0 : -4611686018427387904 ≤ m0 ∧ m0 ≤ 4611686018427387904
 c1 : -4611686018427387904 ≤ m1 ∧ m1 ≤ 4611686018427387904
theorem gcd_sub_mul (X Y n : Int) : Nat.gcd Y.natAbs (X - n * Y).natAbs = Nat.gcd X.natAbs Y.natAbs := by
 have : Int.gcd Y (X - n * Y) = Int.gcd X Y := by
  rw [Int.gcd_comm X Y]
  have := Int.gcd_sub_mul_right_right Y X n
  first | exact this | (rw [Int.mul_comm] at this; exact this)
 exact this
theorem LehI.step {T a0 b0 x y a b m0 m1 m2 m3 n : Int} {g : Nat} (hT : 0 < T) (h : LehI T a0 b0 x y g a b m0 m1 m2 m3) (A0 : a0 ≤ 4611686018427387904) (B0 : b0 ≤ 4611686018427387904)
  (hu : W64 (b + m2) ≠ 0) (hv : W64 (b + m3) ≠ 0) (hn : n = W64 (Int.tdiv (W64 (a + m0)) (W64 (b + m2)))) (hn' : n = W64 (Int.tdiv (W64 (a + m1)) (W64 (b + m3)))) :
  LehI T a0 b0 x y g b (W64 (a - W64 (n * b))) m2 m3 (W64 (m0 - W64 (n * m2))) (W64 (m1 - W64 (n * m3))) := by
 obtain ⟨⟨X, Y, hX, hY, hL, hY0, hYX, hg, hm, hyy, _⟩, ba, bb, c0, c1⟩ := h
 rcases hL with hL | hL
 ·
  obtain ⟨⟨q1, q2, q3⟩, w1, w2, w3, l1, l2, l3⟩ := hL.exact hT (Int.le_refl _) ba bb c0.2 c1.1 A0 B0 hu hv hn hn'
  obtain ⟨b2, b3⟩ := hL.bounds
  have s2 := hL.s2
  have s3 := hL.s3
  rw [w1, w2, w3]
  refine ⟨⟨Y, X - n * Y, hY, by rw [hX, hY]; grind, .inr q1, q2, Int.le_of_lt q3, by rw [gcd_sub_mul, hg], .inr (by omega), by omega, .inr hyy⟩, bb, l1, ⟨by omega, by omega⟩, ⟨by omega, by omega⟩⟩
 ·
  obtain ⟨⟨q1, q2, q3⟩, w1, w2, w3, l1, l2, l3⟩ := hL.exact hT (Int.le_refl _) ba bb c1.2 c0.1 B0 A0 hv hu hn' hn
  obtain ⟨b2, b3⟩ := hL.bounds
  have s2 := hL.s2
  have s3 := hL.s3
  rw [w1, w2, w3]
  refine ⟨⟨Y, X - n * Y, hY, by rw [hX, hY]; grind, .inl q1, q2, Int.le_of_lt q3, by rw [gcd_sub_mul, hg], .inr (by omega), by omega, .inr hyy⟩, bb, l1, ⟨by omega, by omega⟩, ⟨by omega, by omega⟩⟩
end Go.Proofs.YtadpjidakippeaaGreat

/- whole.nearer. -/
namespace Go.Proofs.YtadpjidakippeaaGreat
open Go.RowKit
theorem topI_in (x k : Nat) : I64 (topI x k) := W64_in _
theorem topI_eq {x k : Nat} (hk : k ≤ 65536) (h : x / 2 ^ k < 4611686018427387904) : topI x k = ((x / 2 ^ k : Nat) : Int) := by
 unfold topI
 rw [Nat.min_eq_left hk, if_pos (Nat.lt_trans h (by decide))]
 generalize x / 2 ^ k = a at *
 exact i64w (by omega) (by omega)
theorem bits_shift {x k : Nat} (hk : bl x = k + 62) : x / 2 ^ k < 4611686018427387904 ∧ 1 ≤ x / 2 ^ k := by
 have h1 := bl_lt x
 have h2 := bl_ge (n := x) (by intro e; rw [e] at hk; simp [bl] at hk)
 rw [hk] at h1 h2
 constructor
 · rw [Nat.div_lt_iff_lt_mul (Nat.pow_pos (by decide)), show 4611686018427387904 = 2 ^ 62 from rfl, ← Nat.pow_add, Nat.add_comm 62]; exact h1
 ·
  rw [Nat.le_div_iff_mul_le (Nat.pow_pos (by decide)), Nat.one_mul]
  exact Nat.le_trans (Nat.pow_le_pow_right (by decide) (by omega)) h2
theorem LehI.start {x y k : Nat} (hyx : y ≤ x) (hk : bl x = k + 62) (hk2 : k ≤ 65536) :
  LehI ((2 ^ k : Nat) : Int) (topI x k) (topI y k) x y (Nat.gcd x y) (topI x k) (topI y k) 1 0 0 1 := by
 obtain ⟨h1, h2⟩ := bits_shift hk
 have h3 : y / 2 ^ k ≤ x / 2 ^ k := Nat.div_le_div_right hyx
 rw [topI_eq hk2 h1, topI_eq hk2 (Nat.lt_of_le_of_lt h3 h1)]
 obtain ⟨T, eT⟩ : ∃ T, 2 ^ k = T := ⟨_, rfl⟩
 have hT : 0 < T := by rw [← eT]; exact Nat.pow_pos (by decide)
 rw [eT] at h1 h2 h3 ⊢
 have a1 := Nat.div_mul_le_self x T
 have a2 := Nat.div_mul_le_self y T
 have a3 : x < (x / T + 1) * T := by rw [← Nat.div_lt_iff_lt_mul hT]; omega
 have a4 : y < (y / T + 1) * T := by rw [← Nat.div_lt_iff_lt_mul hT]; omega
 obtain ⟨A, eA⟩ : ∃ A, x / T = A := ⟨_, rfl⟩
 obtain ⟨B, eB⟩ : ∃ B, y / T = B := ⟨_, rfl⟩
 rw [eA] at h1 h2 h3 a1 a3 ⊢
 rw [eB] at h3 a2 a4 ⊢
 have b1 : (A : Int) * (T : Int) ≤ (x : Int) := by exact_mod_cast a1
 have b2 : (B : Int) * (T : Int) ≤ (y : Int) := by exact_mod_cast a2
 have b3 : (x : Int) < ((A : Int) + 1) * (T : Int) := by exact_mod_cast a3
 have b4 : (y : Int) < ((B : Int) + 1) * (T : Int) := by exact_mod_cast a4
 refine ⟨⟨x, y, by omega, by omega, .inl ⟨by omega, by omega, by omega, by omega, by simpa using b1, Int.le_of_lt b3, by simpa using b2, Int.le_of_lt b4, by omega, by omega, by omega, by omega, by omega, by omega⟩, by omega, by omega, by simp, .inl rfl, Int.le_refl _, .inl (Int.le_refl _)⟩, by omega, by omega, by omega, by omega⟩
/-- What stands in memory while nearer runs. -/
structure NearM (w : World) (S M : Nat) (vx vy : Value) (m0 m1 m2 m3 : Int) (wr : World) : Prop where
 be : Below S w wr
 bx : Box11 S (S + 1) vx vy wr
 o4 : Own wr (S + 1 + 1) 28 [.slice none 0 0]
 o5 : Own wr (S + 1 + 1 + 1) 28 [.slice none 0 0]
 om : Own wr M 166 [.int .i64 m0, .int .i64 m1, .int .i64 m2, .int .i64 m3]
 sm : S + 1 + 1 + 1 < M
def NearIn (w : World) (S M : Nat) (vx vy : Value) (P : Int → Int → Int → Int → Int → Int → Prop) (ta tb : Value) (wr : World) : Prop :=
 ∃ a b m0 m1 m2 m3 : Int, ta = .int .i64 a ∧ tb = .int .i64 b ∧ NearM w S M vx vy m0 m1 m2 m3 wr ∧ P a b m0 m1 m2 m3
end Go.Proofs.YtadpjidakippeaaGreat
