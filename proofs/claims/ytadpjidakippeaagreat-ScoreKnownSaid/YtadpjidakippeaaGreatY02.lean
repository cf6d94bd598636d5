/- A digit of a quotient out of two halves: plain lemmas. -/
import Derived.Test.YtadpjidakippeaaGreatY01
import Derived.Deep.DeepCutAuto
import Derived.Deep.CutBlock
import Derived.WalkKit
import Derived.KernelRfl
import Derived.Below
import Derived.Deep.RegionHeld3
set_option linter.unusedVariables false
set_option linter.unusedSimpArgs false
namespace Go.Proofs.YtadpjidakippeaaGreat
theorem hs_test {U u1 y yn1 yn0 q r : Nat} (hy : y = yn1 * 4294967296 + yn0) (hU : U = q * yn1 + r) (h0 : 0 < y) : (4294967296 * r + u1 < q * yn0) ↔ (U * 4294967296 + u1) / y < q := by
 rw [Nat.div_lt_iff_lt_mul h0, hy, hU, Nat.mul_add, ← Nat.mul_assoc, Nat.add_mul]
 omega
theorem hs_big2 {U u1 y q : Nat} (hU : U < y) (h1 : u1 < 4294967296) (h2 : 4294967296 * y ≤ q * y) : U * 4294967296 + u1 < q * y := by
 omega
theorem hs_big {U u1 y q : Nat} (hU : U < y) (h1 : u1 < 4294967296) (hq : 4294967296 ≤ q) : (U * 4294967296 + u1) / y < q :=
 (Nat.div_lt_iff_lt_mul (by omega)).2 (hs_big2 hU h1 (Nat.mul_le_mul_right y hq))
theorem hs_init {U u1 y yn1 yn0 : Nat} (hy : y = yn1 * 4294967296 + yn0) (h1 : u1 < 4294967296) (hn : 0 < yn1) : (U * 4294967296 + u1) / y ≤ U / yn1 := by
 rw [Nat.le_div_iff_mul_le hn]
 have h := Nat.div_mul_le_self (U * 4294967296 + u1) y
 have h2 : (U * 4294967296 + u1) / y * yn1 * 4294967296 ≤ U * 4294967296 + u1 := by
  refine Nat.le_trans ?_ h
  rw [Nat.mul_assoc]
  exact Nat.mul_le_mul_left _ (by omega)
 omega
theorem hs_init_le {U y yn1 yn0 : Nat} (hy : y = yn1 * 4294967296 + yn0) (hU : U < y) (h0 : yn0 < 4294967296) (hn : 2147483648 ≤ yn1) : U / yn1 ≤ 4294967297 := by
 rw [Nat.div_le_iff_le_mul_add_pred (by omega)]
 have : 4294967297 * yn1 = yn1 * 4294967296 + yn1 := by omega
 omega
theorem hs_down {U yn1 q r : Nat} (hU : U = q * yn1 + r) (hq : 0 < q) : U = (q - 1) * yn1 + (r + yn1) := by
 obtain ⟨p, rfl⟩ : ∃ p, q = p + 1 := ⟨q - 1, by omega⟩
 rw [Nat.add_sub_cancel, hU, Nat.add_mul]
 omega
theorem hs_break {U u1 y yn1 yn0 q r : Nat} (hy : y = yn1 * 4294967296 + yn0) (hU : U = q * yn1 + r) (h0 : yn0 < 4294967296) (hr : 4294967296 ≤ r) (hq : q ≤ 4294967296) (hQ : (U * 4294967296 + u1) / y ≤ q) (hp : 0 < y) : q = (U * 4294967296 + u1) / y := by
 refine Nat.le_antisymm ?_ hQ
 rw [Nat.le_div_iff_mul_le hp, hy, hU, Nat.mul_add, ← Nat.mul_assoc, Nat.add_mul]
 have h1 := Nat.mul_le_mul hq (show yn0 ≤ 4294967295 by omega)
 omega
theorem div_norm {n y s : Nat} : (n * 2 ^ s) / (y * 2 ^ s) = n / y := Nat.mul_div_mul_right _ _ (Nat.pow_pos (by omega))
theorem mod_norm {n y s : Nat} : (n * 2 ^ s) % (y * 2 ^ s) / 2 ^ s = n % y := by
 rw [Nat.mul_mod_mul_right, Nat.mul_div_cancel _ (Nat.pow_pos (by omega))]
theorem two_steps {U u1 u0 y q1 r1 : Nat} (hy : 0 < y) (h1 : q1 = (U * 4294967296 + u1) / y) (h2 : r1 = (U * 4294967296 + u1) % y) :
  (U * 18446744073709551616 + (u1 * 4294967296 + u0)) / y = q1 * 4294967296 + (r1 * 4294967296 + u0) / y ∧ (U * 18446744073709551616 + (u1 * 4294967296 + u0)) % y = (r1 * 4294967296 + u0) % y := by
 have hd := Nat.div_add_mod (U * 4294967296 + u1) y
 rw [← h1, ← h2] at hd
 have e : U * 18446744073709551616 + (u1 * 4294967296 + u0) = (r1 * 4294967296 + u0) + y * (q1 * 4294967296) := by
  rw [← Nat.mul_assoc]; omega
 rw [e, Nat.add_mul_div_left _ _ hy, Nat.add_mul_mod_self_left]
 exact ⟨by omega, rfl⟩
theorem shl_norm {y : Nat} (h0 : 0 < y) (hy : y < 2 ^ 64) : 2 ^ 63 ≤ y * 2 ^ (64 - bl y) ∧ y * 2 ^ (64 - bl y) < 2 ^ 64 := by
 have hb : bl y ≤ 64 := bl_le_of_lt hy
 have hp : 0 < bl y := bl_pos.2 (by omega)
 have h1 := bl_ge (n := y) (by omega)
 have h2 := bl_lt y
 constructor
 ·
  have := Nat.mul_le_mul_right (2 ^ (64 - bl y)) h1
  rw [← Nat.pow_add, show bl y - 1 + (64 - bl y) = 63 by omega] at this
  exact this
 ·
  have := Nat.mul_lt_mul_of_pos_right h2 (Nat.pow_pos (n := 64 - bl y) (by omega : 0 < 2))
  rw [← Nat.pow_add, show bl y + (64 - bl y) = 64 by omega] at this
  exact this
theorem or_shl {h l s : Nat} (hl : l < 2 ^ s) : (h * 2 ^ s) ||| l = h * 2 ^ s + l := by
 rw [← Nat.shiftLeft_eq, Nat.shiftLeft_add_eq_or_of_lt hl]
theorem lo_split {lo s : Nat} (hs : s ≤ 64) : lo * 2 ^ s = lo / 2 ^ (64 - s) * 2 ^ 64 + lo * 2 ^ s % 2 ^ 64 := by
 have h : lo * 2 ^ s / 2 ^ 64 = lo / 2 ^ (64 - s) := by
  rw [show (2 : Nat) ^ 64 = 2 ^ (64 - s) * 2 ^ s by rw [← Nat.pow_add]; congr 1; omega]
  exact Nat.mul_div_mul_right _ _ (Nat.pow_pos (by omega))
 rw [← h]
 have := Nat.div_add_mod (lo * 2 ^ s) (2 ^ 64)
 omega
theorem div_setup {hi lo y s : Nat} (h0 : 0 < hi) (hlt : hi < y) (hl : lo < 18446744073709551616) (hy : y < 18446744073709551616) (hs : s = 64 - bl y) (hs64 : s ≤ 63) :
  ∃ Y H L1 L, Y = y * 2 ^ s ∧ H = hi * 2 ^ s ∧ L1 = lo / 2 ^ (64 - s) ∧ L = lo * 2 ^ s % 18446744073709551616 ∧ 9223372036854775808 ≤ Y ∧ Y < 18446744073709551616 ∧ H + L1 < Y ∧ H ||| L1 = H + L1 ∧
   (H + L1) * 18446744073709551616 + L = (hi * 18446744073709551616 + lo) * 2 ^ s ∧ L < 18446744073709551616 := by
 have hn := shl_norm (y := y) (by omega) hy
 rw [← hs] at hn
 have hp : 0 < 2 ^ s := Nat.pow_pos (by omega)
 have hl1 : lo / 2 ^ (64 - s) < 2 ^ s := by
  rw [Nat.div_lt_iff_lt_mul (Nat.pow_pos (by omega)), ← Nat.pow_add, show s + (64 - s) = 64 by omega]
  exact hl
 have hsp := lo_split (lo := lo) (s := s) (by omega)
 have e64 : (2 : Nat) ^ 64 = 18446744073709551616 := rfl
 rw [e64] at hsp
 have hm := Nat.mul_le_mul_right (2 ^ s) (show hi + 1 ≤ y from hlt)
 rw [Nat.add_mul, Nat.one_mul] at hm
 refine ⟨_, _, _, _, rfl, rfl, rfl, rfl, hn.1, hn.2, by omega, or_shl hl1, ?_, Nat.mod_lt _ (by omega)⟩
 rw [Nat.add_mul, Nat.add_mul (hi * 18446744073709551616), hsp, Nat.mul_right_comm hi]
 omega
end Go.Proofs.YtadpjidakippeaaGreat

namespace Go.Proofs.YtadpjidakippeaaGreat
open Go.RowKit
set_option maxRecDepth 100000 in
set_option maxHeartbeats 1000000 in
theorem div64_0 (lo y : Nat) (hl : lo < 18446744073709551616) (hy : y < 18446744073709551616) (h0 : 0 < y) (w : World) :
  Calls Tryz.prog 130 #[.int .u64 0, .int .u64 lo, .int .u64 y] w (Post w fun v _ => v = .tuple #[.int .u64 ((lo / y : Nat) : Int), .int .u64 ((lo % y : Nat) : Int)]) := by
 have hy0 : ((y : Int) == 0) = false := by rw [beq_eq_false_iff_ne]; omega
 have hy1 : ¬ ((y : Int) ≤ 0) := by omega
 have hy2 : ¬ (y : Int) = 0 := by omega
 go_enter Tryz.func130, Tryz.ntmps130
 go_wp2_with fail
 go_quiet (fail)
 go_wp2
 go_ret2
 exact ⟨_, rfl, (by repeat (first | assumption | exact nB1 _ _ | refine nB2 ?_ | refine pw_below_drewN ?_ _ | refine nB3 ?_ (by first | omega | (simp <;> omega)) _ | refine nB4 ?_ (by first | omega | (simp <;> omega)) _ | refine nB5 ?_ (by assumption) (by first | omega | (simp <;> omega)))), tup2 (by rw [← Int.natCast_ediv, wrapN _ (Nat.lt_of_le_of_lt (Nat.div_le_self _ _) hl)]) (by rw [← Int.natCast_emod])⟩
theorem shlN {x s X : Nat} (h : X = x * 2 ^ s) (hX : X < 18446744073709551616) : IntKind.u64.wrap ((x : Int) * 2 ^ s) = (X : Int) := by
 rw [show (x : Int) * 2 ^ s = ((x * 2 ^ s : Nat) : Int) by simp, ← h, wrapN _ hX]
theorem shlM {x s X : Nat} (h : X = x * 2 ^ s % 18446744073709551616) : IntKind.u64.wrap ((x : Int) * 2 ^ s) = (X : Int) := by
 rw [show (x : Int) * 2 ^ s = ((x * 2 ^ s : Nat) : Int) by simp, wrapM, ← h]
theorem shrN {x s X : Nat} (h : X = x / 2 ^ s) : (x : Int) / 2 ^ s = (X : Int) := by
 rw [h]; simp
theorem subN {a b c : Nat} (h : a = b + c) (ha : a < 18446744073709551616) : IntKind.u64.wrap ((a : Int) - (b : Int)) = (c : Int) := by
 rw [show (a : Int) - (b : Int) = (c : Int) by omega, wrapN _ (by omega)]
theorem subI {a b c : Nat} {x : Int} (h : a = b + c) (ha : a < 18446744073709551616) (hx : x = (b : Int)) : IntKind.u64.wrap ((a : Int) - x) = (c : Int) := by
 rw [hx]; exact subN h ha
theorem mulI {a b : Nat} (h : a * b < 18446744073709551616) : IntKind.u64.wrap ((a : Int) * (b : Int)) = (a : Int) * (b : Int) := by
 rw [← Int.natCast_mul, wrapN _ h]
theorem wrapI {a : Int} (h0 : 0 ≤ a) (h : a < 18446744073709551616) : IntKind.u64.wrap a = a := by rw [IntKind.wrap_u64]; omega
theorem hs_test' {U y yn1 yn0 q r : Nat} (u1 : Nat) (hy : y = yn1 * 4294967296 + yn0) (hU : U = q * yn1 + r) (h0 : 0 < y) : (4294967296 * r + u1 < q * yn0) ↔ (U * 4294967296 + u1) / y < q := hs_test hy hU h0
/-- What the loop that guesses a half digit knows. -/
def HalfIn (U yn1 Z : Nat) (q r : Value) : Prop := ∃ Q R : Nat, q = .int .u64 (Q : Int) ∧ r = .int .u64 (R : Int) ∧ U = Q * yn1 + R ∧ Z ≤ Q ∧ R < 4294967296 ∧ Q ≤ 4294967297
theorem HalfIn.mk (U yn1 Z Q R : Nat) {q r : Int} (h1 : q = Q) (h2 : r = R) (a : U = Q * yn1 + R) (b : Z ≤ Q) (c : R < 4294967296) (d : Q ≤ 4294967297) : HalfIn U yn1 Z (.int .u64 q) (.int .u64 r) := by
 subst h1; subst h2; exact ⟨Q, R, rfl, rfl, a, b, c, d⟩
set_option maxRecDepth 100000 in
set_option maxHeartbeats 1000000 in
theorem div64_1 (hi lo y s : Nat) (hl : lo < 18446744073709551616) (hy : y < 18446744073709551616) (h0 : 0 < hi) (hlt : hi < y) (hs : s = 64 - bl y) (w : World) :
  Calls Tryz.prog 130 #[.int .u64 hi, .int .u64 lo, .int .u64 y] w (Post w fun v _ => v = .tuple #[.int .u64 (((hi * 18446744073709551616 + lo) / y : Nat) : Int), .int .u64 (((hi * 18446744073709551616 + lo) % y : Nat) : Int)]) := by
 have hy0 : ((y : Int) == 0) = false := by rw [beq_eq_false_iff_ne]; omega
 have hy1 : ¬ ((y : Int) ≤ (hi : Int)) := by omega
 have hh0 : ((hi : Int) == 0) = false := by rw [beq_eq_false_iff_ne]; omega
 have HL := Lib.hid (lead_c y)
 rw [← hs] at HL
 have hs64 : s ≤ 63 := by
  have : 0 < bl y := bl_pos.2 (by omega)
  omega
 obtain ⟨Y, H, L1, L, eY, eH, eL1, eL, hY1, hY2, hUY, hor, htot, hL⟩ := div_setup h0 hlt hl hy hs hs64
 have rY := shlN eY hY2
 have rH := shlN eH (by omega)
 have rL1 : (lo : Int) / 2 ^ (64 - s) = (L1 : Int) := shrN eL1
 have rL := shlM eL
 obtain ⟨U, eU⟩ : ∃ U, H + L1 = U := ⟨_, rfl⟩
 have rU : bits .or .u64 (H : Int) (L1 : Int) = (U : Int) := by rw [bits_or_u64_nat _ _ (by omega) (by omega), hor, eU]
 obtain ⟨yn1, en1⟩ : ∃ z, Y / 4294967296 = z := ⟨_, rfl⟩
 obtain ⟨yn0, en0⟩ : ∃ z, Y % 4294967296 = z := ⟨_, rfl⟩
 obtain ⟨u1, e1⟩ : ∃ z, L / 4294967296 = z := ⟨_, rfl⟩
 obtain ⟨u0, e0⟩ : ∃ z, L % 4294967296 = z := ⟨_, rfl⟩
 have rn1 : (Y : Int) / 4294967296 = (yn1 : Int) := by omega
 have rn0 : bits .and .u64 (Y : Int) 4294967295 = (yn0 : Int) := by rw [maskN Y hY2, en0]
 have ru1 : (L : Int) / 4294967296 = (u1 : Int) := by omega
 have ru0 : bits .and .u64 (L : Int) 4294967295 = (u0 : Int) := by rw [maskN L hL, e0]
 rw [eU] at hUY htot
 have hyn0 := Lib.hid (show yn0 < 4294967296 by omega)
 have hyn1 := Lib.hid (show 2147483648 ≤ yn1 ∧ yn1 < 4294967296 by omega)
 have hu1 := Lib.hid (show u1 < 4294967296 by omega)
 have hu0 := Lib.hid (show u0 < 4294967296 by omega)
 have hYeq := Lib.hid (show Y = yn1 * 4294967296 + yn0 by omega)
 have hLeq := Lib.hid (show L = u1 * 4294967296 + u0 by omega)
 have hYpos := Lib.hid (show 0 < Y by omega)
 have HUY := Lib.hid hUY
 have HTOT := Lib.hid htot
 have HeY := Lib.hid eY
 have HY2 := Lib.hid hY2
 obtain ⟨q, eq⟩ : ∃ q, U / yn1 = q := ⟨_, rfl⟩
 obtain ⟨r, er⟩ : ∃ r, U % yn1 = r := ⟨_, rfl⟩
 have hqr : U = q * yn1 + r := by rw [← eq, ← er, Nat.mul_comm]; exact (Nat.div_add_mod U yn1).symm
 have hqb : q ≤ 4294967297 := eq ▸ hs_init_le hYeq.out hUY hyn0.out hyn1.out.1
 have rq : (U : Int).tdiv (yn1 : Int) = (q : Int) := by rw [← eq]; exact (Int.ofNat_tdiv U yn1).symm
 have rq2 : IntKind.u64.wrap (q : Int) = (q : Int) := wrapN _ (by omega)
 have hqy : q * yn1 ≤ U := by omega
 have rq3 : IntKind.u64.wrap ((q : Int) * (yn1 : Int)) = ((q * yn1 : Nat) : Int) := by rw [← Int.natCast_mul, wrapN _ (by omega)]
 have rr : IntKind.u64.wrap ((U : Int) - (q : Int) * (yn1 : Int)) = (r : Int) := subI hqr (by omega) (by rw [Int.natCast_mul])
 have hrr : r < yn1 := er ▸ Nat.mod_lt _ (by omega)
 have hz1 : ¬ (yn1 : Int) = 0 := by omega
 obtain ⟨Z, eZ⟩ : ∃ Z, (U * 4294967296 + u1) / Y = Z := ⟨_, rfl⟩
 have hZq : Z ≤ q := by rw [← eZ, ← eq]; exact hs_init hYeq.out hu1.out (by omega)
 have HZ := Lib.hid eZ
 have H1 : Hid (HalfIn U yn1 Z (.int .u64 (q : Int)) (.int .u64 (r : Int))) := ⟨q, r, rfl, rfl, hqr, hZq, by have := hyn1.out; omega, hqb⟩
 clear eZ hZq hs eY eH eL1 eL hY1 hY2 hUY hor htot hL eU en1 en0 e1 e0 eq er hqr hqb hqy hrr
 go_enter Tryz.func130, Tryz.ntmps130
 go_upto_block 0 with (go_at_call 131; refine (HL.out _ hy).mono ?_; rintro e w' ⟨rfl, rfl⟩)
 go_cut [15, 16] (fun q r W => w = W ∧ q = .int .u64 (Z : Int))
 case first =>
  go_wp2_with fail
  go_loop [15, 16] (fun q r => HalfIn U yn1 Z q r) (fun q _ => (intOf q).toNat)
  case atStart => exact H1.out
  case round =>
   obtain ⟨Q, R, rfl, rfl, hUQ, hQ, hR, hQb⟩ := hrel
   have HUQ := Lib.hid hUQ
   have HQ := Lib.hid hQ
   have HR := Lib.hid hR
   have HQb := Lib.hid hQb
   have ht := hs_test' u1 hYeq.out HUQ.out hYpos.out
   rw [HZ.out] at ht
   have hw3 : IntKind.u64.wrap ((R : Int) + (yn1 : Int)) = (R : Int) + (yn1 : Int) := by have := hyn1.out; exact wrapI (by omega) (by omega)
   have hw5 : IntKind.u64.wrap ((4294967296 : Int) * (R : Int)) = (4294967296 : Int) * (R : Int) := wrapI (by omega) (by omega)
   have hw6 : IntKind.u64.wrap ((4294967296 : Int) * (R : Int) + (u1 : Int)) = (4294967296 : Int) * (R : Int) + (u1 : Int) := by have := hu1.out; exact wrapI (by omega) (by omega)
   clear hUQ hR hQ
   by_cases hgt : Z < Q
   ·
    -- too great: one less
    have hw2 : IntKind.u64.wrap ((Q : Int) - 1) = (Q : Int) - 1 := wrapI (by omega) (by omega)
    have HT := Lib.hid (ht.2 hgt)
    have HDN := Lib.hid (hs_down HUQ.out (by omega))
    have HBR : Hid (4294967296 ≤ R + yn1 → Q - 1 = Z) := fun h => by rw [← HZ.out]; exact hs_break hYeq.out HDN.out hyn0.out h (by omega) (by rw [HZ.out]; omega) hYpos.out
    clear hQb ht
    rcases Nat.lt_or_ge Q 4294967296 with hqb | hqb
    ·
     have hb1 : ¬ ((4294967296 : Int) ≤ (Q : Int)) := by omega
     have hp1 : Q * yn0 < 18446744073709551616 := Nat.lt_of_le_of_lt (Nat.mul_le_mul (show Q ≤ 4294967295 by omega) (show yn0 ≤ 4294967295 by have := hyn0.out; omega)) (by decide)
     have hw4 := mulI hp1
     have hc1 : (4294967296 : Int) * (R : Int) + (u1 : Int) < (Q : Int) * (yn0 : Int) := by have h := HT.out; rw [← Int.natCast_mul]; omega
     clear hqb hp1
     rcases Nat.lt_or_ge (R + yn1) 4294967296 with hr | hr
     ·
      have hr1 : ¬ ((4294967296 : Int) ≤ (R : Int) + (yn1 : Int)) := by omega
      have HRR := Lib.hid hr
      clear hr
      go_wp2_with fail
      go_round
      case rel => exact HalfIn.mk _ _ _ (Q - 1) (R + yn1) (by omega) (by omega) HDN.out (by omega) HRR.out (by have := HQb.out; omega)
      case measure => simp [intOf]; omega
     ·
      have hr1 : (4294967296 : Int) ≤ (R : Int) + (yn1 : Int) := by omega
      have HRR := Lib.hid hr
      clear hr
      go_wp2_with fail
      go_meet
      exact ⟨rfl, by congr 1; have := HBR.out HRR.out; omega⟩
    ·
     have hb1 : (4294967296 : Int) ≤ (Q : Int) := by omega
     clear hqb
     rcases Nat.lt_or_ge (R + yn1) 4294967296 with hr | hr
     ·
      have hr1 : ¬ ((4294967296 : Int) ≤ (R : Int) + (yn1 : Int)) := by omega
      have HRR := Lib.hid hr
      clear hr
      go_wp2_with fail
      go_round
      case rel => exact HalfIn.mk _ _ _ (Q - 1) (R + yn1) (by omega) (by omega) HDN.out (by omega) HRR.out (by have := HQb.out; omega)
      case measure => simp [intOf]; omega
     ·
      have hr1 : (4294967296 : Int) ≤ (R : Int) + (yn1 : Int) := by omega
      have HRR := Lib.hid hr
      clear hr
      go_wp2_with fail
      go_meet
      exact ⟨rfl, by congr 1; have := HBR.out HRR.out; omega⟩
   ·
    have HE : Hid (Q = Z) := by have := HQ.out; show Q = Z; omega
    have hqb : Q < 4294967296 := by rw [HE.out, ← HZ.out]; exact hs_big HUY.out hu1.out (Nat.le_refl _)
    have hb1 : ¬ ((4294967296 : Int) ≤ (Q : Int)) := by omega
    have hp1 : Q * yn0 < 18446744073709551616 := Nat.lt_of_le_of_lt (Nat.mul_le_mul (show Q ≤ 4294967295 by omega) (show yn0 ≤ 4294967295 by have := hyn0.out; omega)) (by decide)
    have hw4 := mulI hp1
    have hc0 : ¬ (4294967296 * R + u1 < Q * yn0) := fun h => hgt (ht.1 h)
    have hc1 : ¬ ((4294967296 : Int) * (R : Int) + (u1 : Int) < (Q : Int) * (yn0 : Int)) := by rw [← Int.natCast_mul]; omega
    clear hqb hp1 hc0 hgt ht hQb
    go_wp2_with fail
    go_meet
    exact ⟨rfl, by congr 1; have := HE.out; omega⟩
 case rest =>
  obtain ⟨rfl, rfl⟩ := hcut
  obtain ⟨r1, er1⟩ : ∃ z, (U * 4294967296 + u1) % Y = z := ⟨_, rfl⟩
  have hr1 : r1 < Y := er1 ▸ Nat.mod_lt _ hYpos.out
  have hZY : U * 4294967296 + u1 = Z * Y + r1 := by rw [← HZ.out, ← er1, Nat.mul_comm _ Y]; exact (Nat.div_add_mod _ _).symm
  obtain ⟨V1, eV1⟩ : ∃ z, U * 4294967296 % 18446744073709551616 = z := ⟨_, rfl⟩
  obtain ⟨V2, eV2⟩ : ∃ z, (V1 + u1) % 18446744073709551616 = z := ⟨_, rfl⟩
  obtain ⟨V3, eV3⟩ : ∃ z, Z * Y % 18446744073709551616 = z := ⟨_, rfl⟩
  have a1 : IntKind.u64.wrap ((U : Int) * 4294967296) = (V1 : Int) := by rw [show (U : Int) * 4294967296 = ((U * 4294967296 : Nat) : Int) by simp, wrapM, eV1]
  have a2 : IntKind.u64.wrap ((V1 : Int) + (u1 : Int)) = (V2 : Int) := by rw [← Int.natCast_add, wrapM, eV2]
  have a3 : IntKind.u64.wrap ((Z : Int) * (Y : Int)) = (V3 : Int) := by rw [← Int.natCast_mul, wrapM, eV3]
  have a4 : IntKind.u64.wrap ((V2 : Int) - (V3 : Int)) = (r1 : Int) := by have := HY2.out; rw [IntKind.wrap_u64]; omega
  obtain ⟨q0, eq0⟩ : ∃ q, r1 / yn1 = q := ⟨_, rfl⟩
  obtain ⟨rr0, err⟩ : ∃ r, r1 % yn1 = r := ⟨_, rfl⟩
  have hqr0 : r1 = q0 * yn1 + rr0 := by rw [← eq0, ← err, Nat.mul_comm]; exact (Nat.div_add_mod r1 yn1).symm
  have hqb0 : q0 ≤ 4294967297 := eq0 ▸ hs_init_le hYeq.out hr1 hyn0.out hyn1.out.1
  have b1 : (r1 : Int).tdiv (yn1 : Int) = (q0 : Int) := by rw [← eq0]; exact (Int.ofNat_tdiv r1 yn1).symm
  have b2 : IntKind.u64.wrap (q0 : Int) = (q0 : Int) := wrapN _ (by omega)
  have b3 : IntKind.u64.wrap ((q0 : Int) * (yn1 : Int)) = ((q0 * yn1 : Nat) : Int) := by have := HY2.out; rw [← Int.natCast_mul, wrapN _ (by omega)]
  have b4 : IntKind.u64.wrap ((r1 : Int) - (q0 : Int) * (yn1 : Int)) = (rr0 : Int) := subI hqr0 (by have := HY2.out; omega) (by rw [Int.natCast_mul])
  have hrr0 : rr0 < yn1 := err ▸ Nat.mod_lt _ (by have := hyn1.out; omega)
  obtain ⟨Z0, eZ0⟩ : ∃ Z, (r1 * 4294967296 + u0) / Y = Z := ⟨_, rfl⟩
  have hZq0 : Z0 ≤ q0 := by rw [← eZ0, ← eq0]; exact hs_init hYeq.out hu0.out (by have := hyn1.out; omega)
  have HZ0 := Lib.hid eZ0
  have H2 : Hid (HalfIn r1 yn1 Z0 (.int .u64 (q0 : Int)) (.int .u64 (rr0 : Int))) := ⟨q0, rr0, rfl, rfl, hqr0, hZq0, by have := hyn1.out; omega, hqb0⟩
  have HR1 := Lib.hid hr1
  have Her1 := Lib.hid er1
  clear er1 hr1 hZY eV1 eV2 eV3 eq0 err hqr0 hqb0 eZ0 hZq0 hrr0 H1
  go_upto_block 2 with (fail)
  go_cut [18, 16] (fun q r W => w = W ∧ q = .int .u64 (Z0 : Int))
  case first =>
   go_wp2_with fail
   go_loop [18, 16] (fun q r => HalfIn r1 yn1 Z0 q r) (fun q _ => (intOf q).toNat)
   case atStart => exact H2.out
   case round =>
    obtain ⟨Q, R, rfl, rfl, hUQ, hQ, hR, hQb⟩ := hrel
    have HUQ := Lib.hid hUQ
    have HQ := Lib.hid hQ
    have HR := Lib.hid hR
    have HQb := Lib.hid hQb
    have ht := hs_test' u0 hYeq.out HUQ.out hYpos.out
    rw [HZ0.out] at ht
    have hw3 : IntKind.u64.wrap ((R : Int) + (yn1 : Int)) = (R : Int) + (yn1 : Int) := by have := hyn1.out; exact wrapI (by omega) (by omega)
    have hw5 : IntKind.u64.wrap ((4294967296 : Int) * (R : Int)) = (4294967296 : Int) * (R : Int) := wrapI (by omega) (by omega)
    have hw6 : IntKind.u64.wrap ((4294967296 : Int) * (R : Int) + (u0 : Int)) = (4294967296 : Int) * (R : Int) + (u0 : Int) := by have := hu0.out; exact wrapI (by omega) (by omega)
    clear hUQ hR hQ
    by_cases hgt : Z0 < Q
    ·
     -- too great: one less
     have hw2 : IntKind.u64.wrap ((Q : Int) - 1) = (Q : Int) - 1 := wrapI (by omega) (by omega)
     have HT := Lib.hid (ht.2 hgt)
     have HDN := Lib.hid (hs_down HUQ.out (by omega))
     have HBR : Hid (4294967296 ≤ R + yn1 → Q - 1 = Z0) := fun h => by rw [← HZ0.out]; exact hs_break hYeq.out HDN.out hyn0.out h (by omega) (by rw [HZ0.out]; omega) hYpos.out
     clear hQb ht
     rcases Nat.lt_or_ge Q 4294967296 with hqb | hqb
     ·
      have hb1 : ¬ ((4294967296 : Int) ≤ (Q : Int)) := by omega
      have hp1 : Q * yn0 < 18446744073709551616 := Nat.lt_of_le_of_lt (Nat.mul_le_mul (show Q ≤ 4294967295 by omega) (show yn0 ≤ 4294967295 by have := hyn0.out; omega)) (by decide)
      have hw4 := mulI hp1
      have hc1 : (4294967296 : Int) * (R : Int) + (u0 : Int) < (Q : Int) * (yn0 : Int) := by have h := HT.out; rw [← Int.natCast_mul]; omega
      clear hqb hp1
      rcases Nat.lt_or_ge (R + yn1) 4294967296 with hr | hr
      ·
       have hr1 : ¬ ((4294967296 : Int) ≤ (R : Int) + (yn1 : Int)) := by omega
       have HRR := Lib.hid hr
       clear hr
       go_wp2_with fail
       go_round
       case rel => exact HalfIn.mk _ _ _ (Q - 1) (R + yn1) (by omega) (by omega) HDN.out (by omega) HRR.out (by have := HQb.out; omega)
       case measure => simp [intOf]; omega
      ·
       have hr1 : (4294967296 : Int) ≤ (R : Int) + (yn1 : Int) := by omega
       have HRR := Lib.hid hr
       clear hr
       go_wp2_with fail
       go_meet
       exact ⟨rfl, by congr 1; have := HBR.out HRR.out; omega⟩
     ·
      have hb1 : (4294967296 : Int) ≤ (Q : Int) := by omega
      clear hqb
      rcases Nat.lt_or_ge (R + yn1) 4294967296 with hr | hr
      ·
       have hr1 : ¬ ((4294967296 : Int) ≤ (R : Int) + (yn1 : Int)) := by omega
       have HRR := Lib.hid hr
       clear hr
       go_wp2_with fail
       go_round
       case rel => exact HalfIn.mk _ _ _ (Q - 1) (R + yn1) (by omega) (by omega) HDN.out (by omega) HRR.out (by have := HQb.out; omega)
       case measure => simp [intOf]; omega
      ·
       have hr1 : (4294967296 : Int) ≤ (R : Int) + (yn1 : Int) := by omega
       have HRR := Lib.hid hr
       clear hr
       go_wp2_with fail
       go_meet
       exact ⟨rfl, by congr 1; have := HBR.out HRR.out; omega⟩
    ·
     have HE : Hid (Q = Z0) := by have := HQ.out; show Q = Z0; omega
     have hqb : Q < 4294967296 := by rw [HE.out, ← HZ0.out]; exact hs_big HR1.out hu0.out (Nat.le_refl _)
     have hb1 : ¬ ((4294967296 : Int) ≤ (Q : Int)) := by omega
     have hp1 : Q * yn0 < 18446744073709551616 := Nat.lt_of_le_of_lt (Nat.mul_le_mul (show Q ≤ 4294967295 by omega) (show yn0 ≤ 4294967295 by have := hyn0.out; omega)) (by decide)
     have hw4 := mulI hp1
     have hc0 : ¬ (4294967296 * R + u0 < Q * yn0) := fun h => hgt (ht.1 h)
     have hc1 : ¬ ((4294967296 : Int) * (R : Int) + (u0 : Int) < (Q : Int) * (yn0 : Int)) := by rw [← Int.natCast_mul]; omega
     clear hqb hp1 hc0 hgt ht hQb
     go_wp2_with fail
     go_meet
     exact ⟨rfl, by congr 1; have := HE.out; omega⟩
  case rest =>
   obtain ⟨rfl, rfl⟩ := hcut
   have hZb : Z < 4294967296 := by rw [← HZ.out]; exact hs_big HUY.out hu1.out (Nat.le_refl _)
   have hZb0 : Z0 < 4294967296 := by rw [← HZ0.out]; exact hs_big HR1.out hu0.out (Nat.le_refl _)
   obtain ⟨r2, er2⟩ : ∃ z, (r1 * 4294967296 + u0) % Y = z := ⟨_, rfl⟩
   have hr2 : r2 < Y := er2 ▸ Nat.mod_lt _ hYpos.out
   have hZY : r1 * 4294967296 + u0 = Z0 * Y + r2 := by rw [← HZ0.out, ← er2, Nat.mul_comm _ Y]; exact (Nat.div_add_mod _ _).symm
   obtain ⟨V4, eV4⟩ : ∃ z, r1 * 4294967296 % 18446744073709551616 = z := ⟨_, rfl⟩
   obtain ⟨V5, eV5⟩ : ∃ z, (V4 + u0) % 18446744073709551616 = z := ⟨_, rfl⟩
   obtain ⟨V6, eV6⟩ : ∃ z, Z0 * Y % 18446744073709551616 = z := ⟨_, rfl⟩
   have d1 : IntKind.u64.wrap ((r1 : Int) * 4294967296) = (V4 : Int) := by rw [show (r1 : Int) * 4294967296 = ((r1 * 4294967296 : Nat) : Int) by simp, wrapM, eV4]
   have d2 : IntKind.u64.wrap ((V4 : Int) + (u0 : Int)) = (V5 : Int) := by rw [← Int.natCast_add, wrapM, eV5]
   have d3 : IntKind.u64.wrap ((Z0 : Int) * (Y : Int)) = (V6 : Int) := by rw [← Int.natCast_mul, wrapM, eV6]
   have d4 : IntKind.u64.wrap ((V5 : Int) - (V6 : Int)) = (r2 : Int) := by have := HY2.out; rw [IntKind.wrap_u64]; omega
   obtain ⟨rem, erem⟩ : ∃ z, r2 / 2 ^ s = z := ⟨_, rfl⟩
   have d5 : (r2 : Int) / 2 ^ s = (rem : Int) := shrN erem.symm
   have c1 : IntKind.u64.wrap ((Z : Int) * 4294967296) = (Z : Int) * 4294967296 := wrapI (by omega) (by omega)
   have c2 : IntKind.u64.wrap ((Z : Int) * 4294967296 + (Z0 : Int)) = (Z : Int) * 4294967296 + (Z0 : Int) := wrapI (by omega) (by omega)
   have h2s := two_steps (U := U) (u1 := u1) (u0 := u0) hYpos.out HZ.out.symm Her1.out.symm
   rw [← hLeq.out, HTOT.out, HeY.out, div_norm] at h2s
   have hfin1 : ((hi * 18446744073709551616 + lo) / y : Nat) = Z * 4294967296 + Z0 := by rw [h2s.1, ← HeY.out, HZ0.out]
   have hfin2 : ((hi * 18446744073709551616 + lo) % y : Nat) = rem := by rw [← mod_norm (s := s), h2s.2, ← HeY.out, er2, erem]
   have F1 := Lib.hid hfin1
   have F2 := Lib.hid hfin2
   clear hfin1 hfin2 h2s erem eV4 eV5 eV6 hZY hr2 er2 hZb hZb0
   go_wp2
   go_ret2
   refine ⟨_, rfl, (by repeat (first | assumption | exact nB1 _ _ | refine nB2 ?_ | refine pw_below_drewN ?_ _ | refine nB3 ?_ (by first | omega | (simp <;> omega)) _ | refine nB4 ?_ (by first | omega | (simp <;> omega)) _ | refine nB5 ?_ (by assumption) (by first | omega | (simp <;> omega)))), ?_⟩
   rw [F1.out, F2.out]
   exact tup2 (by simp) rfl
/-- math/bits.Div64. -/
theorem div64_c (hi lo y : Nat) (hl : lo < B64) (hy : y < B64) (hlt : hi < y) (w : World) :
  Calls Tryz.prog 130 #[.int .u64 hi, .int .u64 lo, .int .u64 y] w (Post w fun v _ => v = .tuple #[.int .u64 (((hi * B64 + lo) / y : Nat) : Int), .int .u64 (((hi * B64 + lo) % y : Nat) : Int)]) := by
 rcases Nat.eq_zero_or_pos hi with rfl | h0
 ·
  have h := div64_0 lo y hl hy (by omega) w
  simpa using h
 · exact div64_1 hi lo y _ hl hy h0 hlt rfl w
end Go.Proofs.YtadpjidakippeaaGreat

namespace Go.Proofs.YtadpjidakippeaaGreat
open Go.RowKit
theorem sub_step {b : Nat} {X Y cur : List Nat} {k bo : Nat} (hb : 0 < b) (hbo : bo ≤ 1) (hx : X.getD k 0 < b) (hy : Y.getD k 0 < b) (hk : k < cur.length) (h : vl b (cur.take k) + vl b (Y.take k) = vl b (X.take k) + b ^ k * bo) :
  vl b ((cur.set k ((X.getD k 0 + b - Y.getD k 0 - bo) % b)).take (k + 1)) + vl b (Y.take (k + 1)) = vl b (X.take (k + 1)) + b ^ (k + 1) * (if X.getD k 0 < Y.getD k 0 + bo then 1 else 0) := by
 rw [set_take_succ _ _ _ hk, vl_snoc, List.length_take, Nat.min_eq_left (by omega), vl_take_succ b X, vl_take_succ b Y]
 have e : (X.getD k 0 + b - Y.getD k 0 - bo) % b + Y.getD k 0 + bo = X.getD k 0 + b * (if X.getD k 0 < Y.getD k 0 + bo then 1 else 0) := by
  split
  · rw [Nat.mod_eq_of_lt (by omega)]; omega
  · rw [show X.getD k 0 + b - Y.getD k 0 - bo = (X.getD k 0 - Y.getD k 0 - bo) + b by omega, Nat.add_mod_right, Nat.mod_eq_of_lt (by omega)]; omega
 have e2 : b ^ k * ((X.getD k 0 + b - Y.getD k 0 - bo) % b + Y.getD k 0 + bo) = b ^ k * (X.getD k 0 + b * (if X.getD k 0 < Y.getD k 0 + bo then 1 else 0)) := by rw [e]
 rw [Nat.pow_succ]
 grind
theorem sub_fin {b bo : Nat} {X Y cur : List Nat} (hb : 0 < b) (hc : ∀ x ∈ cur, x < b) (hl : cur.length = X.length) (h : vl b (cur.take X.length) + vl b (Y.take X.length) = vl b (X.take X.length) + b ^ X.length * bo) (hX : ∀ x ∈ X, x < b) (hN : Norm Y) (hle : vl b Y ≤ vl b X) :
  vl b cur = vl b X - vl b Y := by
 have hyl : Y.length ≤ X.length := by
  rcases Nat.lt_or_ge X.length Y.length with hlt | hge
  · have := vl_lt_len hb hX hN hlt; omega
  · exact hge
 rw [← hl, List.take_of_length_le (Nat.le_refl _), hl, List.take_of_length_le hyl, List.take_of_length_le (Nat.le_refl _)] at h
 have h1 := vl_lt b cur hc
 rw [hl] at h1
 rcases Nat.eq_zero_or_pos bo with rfl | hbo
 · omega
 ·
  have : b ^ X.length * 1 ≤ b ^ X.length * bo := Nat.mul_le_mul_left _ hbo
  omega
/-- What is known in a round of Sub. -/
structure SubIn (w wr : World) (X Y : List Nat) (k : Nat) (v7 : Value) (bo : Nat) : Prop where
 below : Below w.heap.size w wr
 sz : w.heap.size + 1 + 1 < bo
 st : ∃ cur cc, Own wr bo 101 (wv .u64 cur) ∧ cur.length = X.length ∧ (∀ x ∈ cur, x < B64) ∧ cc ≤ 1 ∧ v7 = .int .u64 (cc : Nat) ∧ vl B64 (cur.take k) + vl B64 (Y.take k) = vl B64 (X.take k) + B64 ^ k * cc
def SubCells (w wr : World) (A1 A2 : Option Addr) (n1 n2 c1 c2 : Nat) : Prop := wr.cell? ⟨w.heap.size, 0, none⟩ = some (.slice A1 n1 c1) ∧ wr.cell? ⟨w.heap.size + 1, 0, none⟩ = some (.slice A2 n2 c2) ∧ wr.cell? ⟨w.heap.size + 1 + 1, 0, none⟩ = some (.slice none 0 0) ∧ wr.frozen? ⟨w.heap.size + 1 + 1, 0, none⟩ = false
def SubSaid (w' : World) (v : Value) (a b : Nat) : Prop := ∃ u, v = .tuple #[u, .bool (decide (b ≤ a))] ∧ rNat w' u (a - b)
set_option maxRecDepth 100000 in
set_option maxHeartbeats 1000000 in
theorem sub_w (w : World) (A1 A2 : Option Addr) (c1 c2 : Nat) (X Y : List Nat) (h1 : Words .u64 B64 w A1 c1 X) (h2 : Words .u64 B64 w A2 c2 Y) (n1 : Norm X) (n2 : Norm Y) (b1 : X.length ≤ 1099511627776) (b2 : Y.length ≤ 1099511627776) :
  Calls Tryz.prog 115 #[.agg #[.slice A1 X.length c1], .agg #[.slice A2 Y.length c2]] w (Post w fun v w' => SubSaid w' v (vl B64 X) (vl B64 Y)) := by
 have Hw := Lib.hid h1
 have Hu := Lib.hid h2
 have N1 := Lib.hid n1
 have N2 := Lib.hid n2
 have hcmp := fun W h h' => cmp_c W A1 A2 c1 c2 X Y h h' n1 n2 (by omega) (by omega)
 have HC := Lib.hid hcmp
 clear hcmp h1 h2 n1 n2
 by_cases hlt : vl B64 X < vl B64 Y
 ·
  have HLT := Lib.hid hlt
  have hci := cmpI_lt hlt
  have HCI := Lib.hid hci
  clear hlt hci
  go_enter Tryz.func115, Tryz.ntmps115
  go_wp2_with (go_at_call 106; refine (HC.out _ (Hw.out.ext (by repeat (first | assumption | exact nB1 _ _ | refine nB2 ?_ | refine pw_below_drewN ?_ _ | refine nB3 ?_ (by first | omega | (simp <;> omega)) _ | refine nB4 ?_ (by first | omega | (simp <;> omega)) _ | refine nB5 ?_ (by assumption) (by first | omega | (simp <;> omega))))) (Hu.out.ext (by repeat (first | assumption | exact nB1 _ _ | refine nB2 ?_ | refine pw_below_drewN ?_ _ | refine nB3 ?_ (by first | omega | (simp <;> omega)) _ | refine nB4 ?_ (by first | omega | (simp <;> omega)) _ | refine nB5 ?_ (by assumption) (by first | omega | (simp <;> omega)))))).mono ?_; rintro e w1 ⟨v, rfl, hb1, rfl⟩; rw [HCI.out]; obtain ⟨hcw, hfw⟩ := bcell hb1)
  have hk1 : w1.cell? ⟨w.heap.size + 1 + 1, 0, none⟩ = some (.slice none 0 0) := (hcw _ _ (by first | omega | (simp <;> omega))).trans (by go_simp)
  have hk2 := World.cell?_setCell_same w1 ⟨w.heap.size + 1 + 1, 0, none⟩ (.slice none 0 0) hk1
  refine bodyPost_ret (v := .tuple #[.agg #[.slice none 0 0], .bool false]) (by simp [results, Tryz.results115, go_sem, hk2]) rfl ⟨_, rfl, (by repeat (first | assumption | exact nB1 _ _ | refine nB2 ?_ | refine pw_below_drewN ?_ _ | refine nB3 ?_ (by first | omega | (simp <;> omega)) _ | refine nB4 ?_ (by first | omega | (simp <;> omega)) _ | refine nB5 ?_ (by assumption) (by first | omega | (simp <;> omega)))), .agg #[.slice none 0 0], ?_, ?_⟩
  ·
   have := HLT.out
   rw [show decide (vl B64 Y ≤ vl B64 X) = false from decide_eq_false (by omega)]
  ·
   have := HLT.out
   rw [Nat.sub_eq_zero_of_le (by omega)]
   exact ⟨none, 0, [], rfl, Words.nil _ _ _ _ _, by simp [Norm], rfl⟩
 ·
  have HLE := Lib.hid (show vl B64 Y ≤ vl B64 X by omega)
  obtain ⟨cv, ecv⟩ : ∃ cv, cmpI (vl B64 X) (vl B64 Y) = cv := ⟨_, rfl⟩
  have hcv : ¬ (cv < 0) := by rw [← ecv]; unfold cmpI; rw [if_neg hlt]; split <;> omega
  have ECV := Lib.hid ecv
  have hmk := mk64 (X.length : Int) X.length rfl (by omega)
  clear hlt ecv
  go_enter Tryz.func115, Tryz.ntmps115
  go_wp2_with (go_at_call 106; refine (HC.out _ (Hw.out.ext (by repeat (first | assumption | exact nB1 _ _ | refine nB2 ?_ | refine pw_below_drewN ?_ _ | refine nB3 ?_ (by first | omega | (simp <;> omega)) _ | refine nB4 ?_ (by first | omega | (simp <;> omega)) _ | refine nB5 ?_ (by assumption) (by first | omega | (simp <;> omega))))) (Hu.out.ext (by repeat (first | assumption | exact nB1 _ _ | refine nB2 ?_ | refine pw_below_drewN ?_ _ | refine nB3 ?_ (by first | omega | (simp <;> omega)) _ | refine nB4 ?_ (by first | omega | (simp <;> omega)) _ | refine nB5 ?_ (by assumption) (by first | omega | (simp <;> omega)))))).mono ?_; rintro e w1 ⟨v, rfl, hb1, rfl⟩; rw [ECV.out]; obtain ⟨hcw, hfw⟩ := bcell hb1; have hz1 := sz_lt (a := w.heap.size + 1 + 1) hb1 (by first | omega | (simp <;> omega)); have hz1a := sz_lt (a := w.heap.size + 1) hb1 (by first | omega | (simp <;> omega)); have hz1b := sz_lt (a := w.heap.size) hb1 (by first | omega | (simp <;> omega)))
  have hcs : SubCells w w1 A1 A2 X.length Y.length c1 c2 := ⟨(hcw _ _ (by first | omega | (simp <;> omega))).trans (by go_simp), (hcw _ _ (by first | omega | (simp <;> omega))).trans (by go_simp), (hcw _ _ (by first | omega | (simp <;> omega))).trans (by go_simp), (hfw _ _ (by first | omega | (simp <;> omega))).trans (by go_simp)⟩
  clear hcw hfw
  go_loopw [7, 22] (fun c i wr => ∃ k : Nat, k ≤ X.length ∧ i = .int .i64 (k : Int) ∧ SubIn w wr X Y k c w1.heap.size ∧ SubCells w wr A1 A2 X.length Y.length c1 c2) (fun _ i _ => X.length - (intOf i).toNat)
  case atStart => exact ⟨0, Nat.zero_le _, rfl, ⟨(by repeat (first | assumption | exact nB1 _ _ | refine nB2 ?_ | refine pw_below_drewN ?_ _ | refine nB3 ?_ (by first | omega | (simp <;> omega)) _ | refine nB4 ?_ (by first | omega | (simp <;> omega)) _ | refine nB5 ?_ (by assumption) (by first | omega | (simp <;> omega)))), by omega, _, 0, own_zero' _ _ _ _ _ rfl, by simp, zeros_lt (by decide) _, by omega, rfl, by simp [vl]⟩, ⟨by have := hcs.1; go_simp, by have := hcs.2.1; go_simp, by have := hcs.2.2.1; go_simp, by have := hcs.2.2.2; go_simp⟩⟩
  case round =>
   obtain ⟨k, hk, rfl, ⟨hb, hz, cur, cc, hown, hcl, hlt, hcc, rfl, hv⟩, hq1, hq2, hr1, hr2⟩ := hrel
   have HV := Lib.hid hv
   have HO := Lib.hid hown
   have HL := Lib.hid hcl
   have Hlt := Lib.hid hlt
   have hl4 := hown.lt
   clear hv hown hcl hlt hcs hb1
   rcases Nat.lt_or_ge k X.length with hkx | hkx
   ·
    obtain ⟨g1, o1, rfl, hcl1⟩ := Hw.out.2.2 (by intro e; rw [e] at hkx; simp at hkx)
    have hx := hcl1 k hkx
    replace hx := hb.cell (World.block_lt_of_cell? w _ hx) |>.trans hx
    obtain ⟨x, ex⟩ : ∃ x, X.getD k 0 = x := ⟨_, rfl⟩
    rw [ex] at hx
    have Ex := Lib.hid ex
    have HXB : Hid (x < B64) := by have := Hw.out.2.1; show _ < _; rw [← ex]; exact getD_lt this (by decide) _
    clear ex hcl1
    have hoc := HO.out.cell k _ (wv_get _ _ _ (by rw [HL.out]; omega))
    have hof := HO.out.frozen k
    rcases Nat.lt_or_ge k Y.length with hky | hky
    ·
     obtain ⟨g2, o2, rfl, hcl2⟩ := Hu.out.2.2 (by intro e; rw [e] at hky; simp at hky)
     have hy := hcl2 k hky
     replace hy := hb.cell (World.block_lt_of_cell? w _ hy) |>.trans hy
     obtain ⟨y, ey⟩ : ∃ y, Y.getD k 0 = y := ⟨_, rfl⟩
     rw [ey] at hy
     have Ey := Lib.hid ey
     have HYB : Hid (y < B64) := by have := Hu.out.2.1; show _ < _; rw [← ey]; exact getD_lt this (by decide) _
     clear ey hcl2
     have hadd := sub64_run x y cc _ _ _ rfl rfl rfl hcc
     go_wp2_with fail
     go_roundw
     case rel => exact ⟨k + 1, by omega, by go_num, ⟨(by repeat (first | assumption | exact nB1 _ _ | refine nB2 ?_ | refine pw_below_drewN ?_ _ | refine nB3 ?_ (by first | omega | (simp <;> omega)) _ | refine nB4 ?_ (by first | omega | (simp <;> omega)) _ | refine nB5 ?_ (by assumption) (by first | omega | (simp <;> omega)))), by omega, cur.set k ((x + B64 - y - cc) % B64), if x < y + cc then 1 else 0, by rw [← wv_set]; exact HO.out.set _ _, by rw [set_length]; exact HL.out, set_lt Hlt.out _ _ (Nat.mod_lt _ (by decide)), by split <;> omega, by first | rfl | simp, by have := sub_step (b := B64) (by decide) hcc (by rw [Ex.out]; exact HXB.out) (by rw [Ey.out]; exact HYB.out) (by rw [HL.out]; omega) HV.out; rw [Ex.out, Ey.out] at this; exact this⟩, by go_simp, by go_simp, by go_simp, by go_simp⟩
     case measure => simp [intOf]; omega
    ·
     have hadd := sub64_run x 0 cc _ 0 _ rfl rfl rfl hcc
     have hnlt : ¬ (k : Int) < (Y.length : Int) := by omega
     have Ey : Hid (Y.getD k 0 = 0) := by show _ = _; rw [List.getD_eq_getElem?_getD, List.getElem?_eq_none hky]; rfl
     have HYB : Hid (0 < B64) := by show _ < _; decide
     go_wp2_with fail
     go_roundw
     case rel => exact ⟨k + 1, by omega, by go_num, ⟨(by repeat (first | assumption | exact nB1 _ _ | refine nB2 ?_ | refine pw_below_drewN ?_ _ | refine nB3 ?_ (by first | omega | (simp <;> omega)) _ | refine nB4 ?_ (by first | omega | (simp <;> omega)) _ | refine nB5 ?_ (by assumption) (by first | omega | (simp <;> omega)))), by omega, cur.set k ((x + B64 - 0 - cc) % B64), if x < 0 + cc then 1 else 0, by rw [← wv_set]; exact HO.out.set _ _, by rw [set_length]; exact HL.out, set_lt Hlt.out _ _ (Nat.mod_lt _ (by decide)), by split <;> omega, by first | rfl | simp, by have := sub_step (b := B64) (by decide) hcc (by rw [Ex.out]; exact HXB.out) (by rw [Ey.out]; exact HYB.out) (by rw [HL.out]; omega) HV.out; rw [Ex.out, Ey.out] at this; exact this⟩, by go_simp, by go_simp, by go_simp, by go_simp⟩
     case measure => simp [intOf]; omega
   ·
    obtain rfl : k = X.length := by omega
    have hnlt : ¬ (X.length : Int) < (X.length : Int) := by omega
    have hl5 : w.heap.size + 1 + 1 < wr.heap.size := by omega
    have ht := trim_c wr (some ⟨w1.heap.size, 0, none⟩) X.length cur (own_words HO.out Hlt.out _ (by rw [HL.out]; omega)) (by rw [HL.out]; omega)
    rw [HL.out] at ht
    have HT := Lib.hid ht
    clear ht
    go_wp2_with (go_at_call 113; refine HT.out.mono ?_; rintro e w2 ⟨v, rfl, hb2, A', c', l', rfl, hn⟩; have Hn := Lib.hid hn; clear hn; obtain ⟨hcw, hfw⟩ := bcell hb2)
    have hk1 : w2.cell? ⟨w.heap.size + 1 + 1, 0, none⟩ = some (.slice none 0 0) := (hcw _ _ (by first | omega | (simp <;> omega))).trans (by go_simp)
    have hk2 := World.cell?_setCell_same w2 ⟨w.heap.size + 1 + 1, 0, none⟩ (.slice A' l'.length c') hk1
    refine bodyPost_ret (v := .tuple #[.agg #[.slice A' l'.length c'], .bool true]) (by simp [results, Tryz.results115, go_sem, hk2]) rfl ⟨_, rfl, (by repeat (first | assumption | exact nB1 _ _ | refine nB2 ?_ | refine pw_below_drewN ?_ _ | refine nB3 ?_ (by first | omega | (simp <;> omega)) _ | refine nB4 ?_ (by first | omega | (simp <;> omega)) _ | refine nB5 ?_ (by assumption) (by first | omega | (simp <;> omega)))), .agg #[.slice A' l'.length c'], ?_, ?_⟩
    · rw [show decide (vl B64 Y ≤ vl B64 X) = true from decide_eq_true HLE.out]
    ·
     obtain ⟨hwd, hnn, hvl⟩ := Hn.out
     exact ⟨A', c', l', rfl, hwd.set hk1 rfl, hnn, hvl.trans (sub_fin (by decide) Hlt.out HL.out HV.out Hw.out.2.1 N2.out HLE.out)⟩
end Go.Proofs.YtadpjidakippeaaGreat

namespace Go.Proofs.YtadpjidakippeaaGreat
open Go.RowKit
theorem drop_set_at {l : List Nat} {j x : Nat} (h : j < l.length) : (l.set j x).drop j = x :: l.drop (j + 1) := by
 rw [List.drop_eq_getElem_cons (by simpa using h)]
 simp [List.drop_set_of_lt]
theorem drop_at {l : List Nat} {j : Nat} (h : j < l.length) : l.drop j = l.getD j 0 :: l.drop (j + 1) := by
 rw [List.drop_eq_getElem_cons h]
 simp [List.getD_eq_getElem?_getD, h]
theorem short_step {b v r j : Nat} {X cur : List Nat} (hj : j < X.length) (hl : cur.length = X.length) (h : vl b (X.drop (j + 1)) = vl b (cur.drop (j + 1)) * v + r) :
  vl b (X.drop j) = vl b ((cur.set j ((r * b + X.getD j 0) / v)).drop j) * v + (r * b + X.getD j 0) % v := by
 rw [drop_set_at (by omega), drop_at hj]
 simp only [vl]
 rw [h]
 have := Nat.div_add_mod (r * b + X.getD j 0) v
 grind
theorem dig_lt {r v x b : Nat} (hr : r < v) (hx : x < b) : r * b + x < b * v := by
 have := Nat.mul_le_mul_right b (show r + 1 ≤ v from hr)
 rw [Nat.add_mul, Nat.one_mul] at this
 rw [Nat.mul_comm b v]
 omega
def ShortSaid (w' : World) (val : Value) (X : List Nat) (v : Nat) : Prop := ∃ A q r, val = .tuple #[.slice A X.length X.length, .int .u64 (r : Nat)] ∧ Words .u64 B64 w' A X.length q ∧ q.length = X.length ∧ vl B64 X = vl B64 q * v + r ∧ r < v
set_option maxRecDepth 100000 in
set_option maxHeartbeats 1000000 in
theorem short_c (w : World) (A : Option Addr) (c : Nat) (X : List Nat) (v : Nat) (h1 : Words .u64 B64 w A c X) (b1 : X.length ≤ 1099511627776) (hv0 : 0 < v) (hvB : v < B64) :
  Calls Tryz.prog 121 #[.slice A X.length c, .int .u64 (v : Nat)] w (Post w fun val w' => ShortSaid w' val X v) := by
 have Hw := Lib.hid h1
 have HvB := Lib.hid hvB
 have hmk := mk64 (X.length : Int) X.length rfl (by omega)
 clear h1 hvB
 go_enter Tryz.func121, Tryz.ntmps121
 go_wp2_with fail
 clear hmk
 go_loopw [7, 8] (fun tr ti wr => ∃ (k r : Nat), k ≤ X.length ∧ ti = .int .i64 ((k : Int) - 1) ∧ tr = .int .u64 (r : Int) ∧ r < v ∧ Below w.heap.size w wr ∧ ∃ cur, Own wr w.heap.size 101 (wv .u64 cur) ∧ cur.length = X.length ∧ (∀ x ∈ cur, x < B64) ∧ vl B64 (X.drop k) = vl B64 (cur.drop k) * v + r) (fun _ ti _ => (intOf ti + 1).toNat)
 case atStart => exact ⟨X.length, 0, Nat.le_refl _, rfl, rfl, hv0, (by repeat (first | assumption | exact nB1 _ _ | refine nB2 ?_ | refine pw_below_drewN ?_ _ | refine nB3 ?_ (by first | omega | (simp <;> omega)) _ | refine nB4 ?_ (by first | omega | (simp <;> omega)) _ | refine nB5 ?_ (by assumption) (by first | omega | (simp <;> omega)))), _, own_zero' _ _ _ _ _ rfl, by simp, zeros_lt (by decide) _, by simp [vl]⟩
 case round =>
  obtain ⟨k, r, hk, rfl, rfl, hr, hb, cur, hown, hcl, hlt, hv⟩ := hrel
  have HV := Lib.hid hv
  have HO := Lib.hid hown
  have HL := Lib.hid hcl
  have Hlt := Lib.hid hlt
  have HR := Lib.hid hr
  clear hv hown hcl hlt hr
  rcases Nat.eq_zero_or_pos k with rfl | hk0
  ·
   rw [show ((0 : Nat) : Int) - 1 = -1 from rfl]
   go_wp2
   go_ret2
   exact ⟨_, rfl, hb, _, cur, r, rfl, own_words HO.out Hlt.out _ (by rw [HL.out]; exact Nat.le_refl _), HL.out, HV.out, HR.out⟩
  ·
   obtain ⟨j, rfl⟩ : ∃ j, k = j + 1 := ⟨k - 1, by omega⟩
   rw [show ((j + 1 : Nat) : Int) - 1 = (j : Int) from by omega]
   obtain ⟨g1, o1, rfl, hcl1⟩ := Hw.out.2.2 (by intro e; rw [e] at hk; simp at hk)
   have hx := hcl1 j (by omega)
   replace hx := hb.cell (World.block_lt_of_cell? w _ hx) |>.trans hx
   obtain ⟨x, ex⟩ : ∃ x, X.getD j 0 = x := ⟨_, rfl⟩
   rw [ex] at hx
   have Ex := Lib.hid ex
   have HXB : Hid (x < B64) := by have := Hw.out.2.1; show _ < _; rw [← ex]; exact getD_lt this (by decide) _
   have hoc := HO.out.cell j _ (wv_get _ _ _ (by rw [HL.out]; omega))
   have hof := HO.out.frozen j
   clear ex hcl1 hk0
   have hd := div64_c r x v HXB.out HvB.out HR.out
   obtain ⟨q1, eq1⟩ : ∃ z, (r * B64 + x) / v = z := ⟨_, rfl⟩
   obtain ⟨r1, er1⟩ : ∃ z, (r * B64 + x) % v = z := ⟨_, rfl⟩
   rw [eq1, er1] at hd
   have HD := Lib.hid hd
   have E1 := Lib.hid eq1
   have E2 := Lib.hid er1
   have hlk := HO.out.lt
   clear hd eq1 er1
   go_wp2_with (go_at_call 130; refine (HD.out _).mono ?_; rintro e w1 ⟨val, rfl, hb1, rfl⟩; obtain ⟨hcw, hfw⟩ := bcell hb1)
   go_roundw
   case rel => exact ⟨j, r1, by omega, by go_num, rfl, by rw [← E2.out]; exact Nat.mod_lt _ hv0, (by repeat (first | assumption | exact nB1 _ _ | refine nB2 ?_ | refine pw_below_drewN ?_ _ | refine nB3 ?_ (by first | omega | (simp <;> omega)) _ | refine nB4 ?_ (by first | omega | (simp <;> omega)) _ | refine nB5 ?_ (by assumption) (by first | omega | (simp <;> omega)))), cur.set j q1, by rw [← wv_set]; exact (HO.out.ext hb1).set _ _, by rw [set_length]; exact HL.out, set_lt Hlt.out _ _ (by rw [← E1.out, Nat.div_lt_iff_lt_mul hv0]; exact dig_lt HR.out HXB.out), by rw [← E1.out, ← E2.out, ← Ex.out]; exact short_step (by omega) HL.out HV.out⟩
   case measure => simp [intOf]
end Go.Proofs.YtadpjidakippeaaGreat

namespace Go.Proofs.YtadpjidakippeaaGreat
open Go.RowKit
theorem left_step' {b S q r x k c : Nat} {X cur : List Nat} (e : x * S = q * b + r) (hx : X.getD k 0 = x) (hk : k < cur.length) (h : vl b (cur.take k) + b ^ k * c = S * vl b (X.take k)) :
  vl b ((cur.set k (r + c)).take (k + 1)) + b ^ (k + 1) * q = S * vl b (X.take (k + 1)) := by
 rw [set_take_succ _ _ _ hk, vl_snoc, List.length_take, Nat.min_eq_left (by omega), vl_take_succ b X, hx]
 have e2 : b ^ k * (x * S) = b ^ k * (q * b + r) := by rw [e]
 rw [Nat.pow_succ]
 grind
theorem left_step {s k c : Nat} {X cur : List Nat} (hs : s ≤ 64) (hk : k < cur.length) (h : vl B64 (cur.take k) + B64 ^ k * c = 2 ^ s * vl B64 (X.take k)) :
  vl B64 ((cur.set k (X.getD k 0 * 2 ^ s % B64 + c)).take (k + 1)) + B64 ^ (k + 1) * (X.getD k 0 / 2 ^ (64 - s)) = 2 ^ s * vl B64 (X.take (k + 1)) := by
 have e := lo_split (lo := X.getD k 0) hs
 rw [← B64_pow] at e
 exact left_step' e rfl hk h
theorem left_step0 {b S k c : Nat} {X cur : List Nat} (hx : X.getD k 0 = 0) (hk : k < cur.length) (h : vl b (cur.take k) + b ^ k * c = S * vl b (X.take k)) :
  vl b ((cur.set k c).take (k + 1)) + b ^ (k + 1) * 0 = S * vl b (X.take (k + 1)) := by
 have := left_step' (b := b) (S := S) (q := 0) (r := 0) (x := 0) (by simp) hx hk h
 rwa [Nat.zero_add] at this
theorem left_or {x s c : Nat} (hs : s ≤ 64) (hc : c < 2 ^ s) : (x * 2 ^ s % B64) ||| c = x * 2 ^ s % B64 + c := by
 have e : x * 2 ^ s % B64 = (x % 2 ^ (64 - s)) * 2 ^ s := by
  rw [B64_pow, show (2 : Nat) ^ 64 = 2 ^ (64 - s) * 2 ^ s by rw [← Nat.pow_add]; congr 1; omega, Nat.mul_mod_mul_right]
 rw [e, or_shl hc]
theorem left_lt {x s c : Nat} (hs : s ≤ 64) (hc : c < 2 ^ s) : x * 2 ^ s % B64 + c < B64 := by
 have e : x * 2 ^ s % B64 = (x % 2 ^ (64 - s)) * 2 ^ s := by
  rw [B64_pow, show (2 : Nat) ^ 64 = 2 ^ (64 - s) * 2 ^ s by rw [← Nat.pow_add]; congr 1; omega, Nat.mul_mod_mul_right]
 have h1 : x % 2 ^ (64 - s) + 1 ≤ 2 ^ (64 - s) := Nat.mod_lt _ (Nat.pow_pos (by omega))
 have h2 := Nat.mul_le_mul_right (2 ^ s) h1
 rw [← Nat.pow_add, show 64 - s + s = 64 by omega, ← B64_pow, Nat.add_mul, Nat.one_mul] at h2
 omega
theorem shr_lt {x s : Nat} (hs : s ≤ 64) (hx : x < B64) : x / 2 ^ (64 - s) < 2 ^ s := by
 rw [Nat.div_lt_iff_lt_mul (Nat.pow_pos (by omega)), ← Nat.pow_add, show s + (64 - s) = 64 by omega]
 exact hx
theorem zero_or64 (c : Nat) (h : c < B64) : bits .or .u64 0 (c : Int) = (c : Int) := by
 have h := bits_or_u64_nat 0 c B64_pos h
 rw [Nat.zero_or] at h
 exact h
def LeftSaid (w' : World) (val : Value) (X : List Nat) (s n : Nat) (b0 : Nat) : Prop := ∃ out c, val = .slice (some ⟨b0, 0, none⟩) n n ∧ Own w' b0 101 (wv .u64 out) ∧ out.length = n ∧ (∀ x ∈ out, x < B64) ∧ vl B64 out + B64 ^ n * c = 2 ^ s * vl B64 (X.take n)
set_option maxRecDepth 100000 in
set_option maxHeartbeats 1000000 in
theorem left_c (w : World) (A : Option Addr) (c : Nat) (X : List Nat) (s n : Nat) (h1 : Words .u64 B64 w A c X) (b1 : X.length ≤ 1099511627776) (b2 : n ≤ 2199023255552) (hs : s ≤ 63) :
  Calls Tryz.prog 132 #[.slice A X.length c, .int .i64 (s : Nat), .int .i64 (n : Nat)] w (Post w fun val w' => LeftSaid w' val X s n w.heap.size) := by
 have Hw := Lib.hid h1
 have hmk := mk64 (n : Int) n rfl (by omega)
 clear h1
 go_enter Tryz.func132, Tryz.ntmps132
 go_wp2_with fail
 clear hmk
 go_loopw [8, 15] (fun tc ti wr => ∃ (k cc : Nat), k ≤ n ∧ ti = .int .i64 (k : Int) ∧ tc = .int .u64 (cc : Int) ∧ cc < 2 ^ s ∧ Below w.heap.size w wr ∧ ∃ cur, Own wr w.heap.size 101 (wv .u64 cur) ∧ cur.length = n ∧ (∀ x ∈ cur, x < B64) ∧ vl B64 (cur.take k) + B64 ^ k * cc = 2 ^ s * vl B64 (X.take k)) (fun _ ti _ => n - (intOf ti).toNat)
 case atStart => exact ⟨0, 0, Nat.zero_le _, rfl, rfl, Nat.pow_pos (by omega), (by repeat (first | assumption | exact nB1 _ _ | refine nB2 ?_ | refine pw_below_drewN ?_ _ | refine nB3 ?_ (by first | omega | (simp <;> omega)) _ | refine nB4 ?_ (by first | omega | (simp <;> omega)) _ | refine nB5 ?_ (by assumption) (by first | omega | (simp <;> omega)))), _, own_zero' _ _ _ _ _ rfl, by simp, zeros_lt (by decide) _, by simp [vl]⟩
 case round =>
  obtain ⟨k, cc, hk, rfl, rfl, hcc, hb, cur, hown, hcl, hlt, hv⟩ := hrel
  have HV := Lib.hid hv
  have HO := Lib.hid hown
  have HL := Lib.hid hcl
  have Hlt := Lib.hid hlt
  have HC := Lib.hid hcc
  have HCB : Hid (cc < B64) := Nat.lt_of_lt_of_le hcc (by rw [B64_pow]; exact Nat.pow_le_pow_right (by omega) (by omega))
  clear hv hown hcl hlt hcc
  rcases Nat.lt_or_ge k n with hkn | hkn
  ·
   have hoc := HO.out.cell k _ (wv_get _ _ _ (by rw [HL.out]; omega))
   have hof := HO.out.frozen k
   rcases Nat.lt_or_ge k X.length with hkx | hkx
   ·
    obtain ⟨g1, o1, rfl, hcl1⟩ := Hw.out.2.2 (by intro e; rw [e] at hkx; simp at hkx)
    have hx := hcl1 k (by omega)
    replace hx := hb.cell (World.block_lt_of_cell? w _ hx) |>.trans hx
    obtain ⟨x, ex⟩ : ∃ x, X.getD k 0 = x := ⟨_, rfl⟩
    rw [ex] at hx
    have Ex := Lib.hid ex
    have HXB : Hid (x < B64) := by have := Hw.out.2.1; show _ < _; rw [← ex]; exact getD_lt this (by decide) _
    clear ex hcl1
    have hs2 : x / 2 ^ (64 - s) < 18446744073709551616 := Nat.lt_of_le_of_lt (Nat.div_le_self _ _) HXB.out
    have r1 : IntKind.u64.wrap ((x : Int) * 2 ^ s) = ((x * 2 ^ s % B64 : Nat) : Int) := shlM rfl
    have r2 : bits .or .u64 ((x * 2 ^ s % B64 : Nat) : Int) (cc : Int) = ((x * 2 ^ s % B64 + cc : Nat) : Int) := by rw [bits_or_u64_nat (x * 2 ^ s % B64) cc (show x * 2 ^ s % B64 < B64 from Nat.mod_lt _ B64_pos) HCB.out, left_or (by omega) HC.out]
    have r3 : (x : Int) / 2 ^ (64 - s) = ((x / 2 ^ (64 - s) : Nat) : Int) := shrN rfl
    obtain ⟨z1, ez1⟩ : ∃ z, x * 2 ^ s % B64 = z := ⟨_, rfl⟩
    obtain ⟨z2, ez2⟩ : ∃ z, z1 + cc = z := ⟨_, rfl⟩
    obtain ⟨z3, ez3⟩ : ∃ z, x / 2 ^ (64 - s) = z := ⟨_, rfl⟩
    rw [ez1] at r1 r2
    rw [ez2] at r2
    rw [ez3] at r3
    have Z := Lib.hid ez1
    have Z2 := Lib.hid ez2
    have Z3 := Lib.hid ez3
    clear ez1 ez2 ez3 hs2
    go_wp2_with fail
    go_roundw
    case rel => exact ⟨k + 1, z3, by omega, by go_num, rfl, by rw [← Z3.out]; exact shr_lt (by omega) HXB.out, (by repeat (first | assumption | exact nB1 _ _ | refine nB2 ?_ | refine pw_below_drewN ?_ _ | refine nB3 ?_ (by first | omega | (simp <;> omega)) _ | refine nB4 ?_ (by first | omega | (simp <;> omega)) _ | refine nB5 ?_ (by assumption) (by first | omega | (simp <;> omega)))), cur.set k z2, by rw [← wv_set]; exact HO.out.set _ _, by rw [set_length]; exact HL.out, set_lt Hlt.out _ _ (by rw [← Z2.out, ← Z.out]; exact left_lt (by omega) HC.out), by rw [← Z2.out, ← Z.out, ← Z3.out, ← Ex.out]; exact left_step (by omega) (by rw [HL.out]; exact hkn) HV.out⟩
    case measure => simp [intOf]; omega
   ·
    have hnx : ¬ (k : Int) < (X.length : Int) := by omega
    obtain ⟨x, ex⟩ : ∃ x : Nat, x = 0 := ⟨0, rfl⟩
    have Ex : Hid (X.getD k 0 = 0) := by show _ = _; rw [List.getD_eq_getElem?_getD, List.getElem?_eq_none hkx]; rfl
    have hz := zero_or64 cc HCB.out
    clear ex
    go_wp2_with fail
    go_roundw
    case rel => exact ⟨k + 1, 0, by omega, by go_num, by first | rfl | simp, Nat.pow_pos (by omega), (by repeat (first | assumption | exact nB1 _ _ | refine nB2 ?_ | refine pw_below_drewN ?_ _ | refine nB3 ?_ (by first | omega | (simp <;> omega)) _ | refine nB4 ?_ (by first | omega | (simp <;> omega)) _ | refine nB5 ?_ (by assumption) (by first | omega | (simp <;> omega)))), cur.set k cc, by rw [← wv_set]; exact HO.out.set _ _, by rw [set_length]; exact HL.out, set_lt Hlt.out _ _ HCB.out, left_step0 Ex.out (by rw [HL.out]; exact hkn) HV.out⟩
    case measure => simp [intOf]; omega
  ·
   obtain rfl : k = n := by omega
   have hnlt : ¬ (k : Int) < (k : Int) := by omega
   go_wp2
   go_ret
   exact ⟨_, rfl, hb, cur, cc, rfl, HO.out, HL.out, Hlt.out, by have h := HV.out; rwa [List.take_of_length_le (Nat.le_of_eq HL.out)] at h⟩
end Go.Proofs.YtadpjidakippeaaGreat

namespace Go.Proofs.YtadpjidakippeaaGreat
open Go.RowKit
/-- The post of a region that ends normally. -/
def Qn (N : Act → World → Prop) : Exit → Act → World → Prop
 | .normal, a, w => N a w
 | _, _, _ => False
section
variable {P : Program} {ops : Array Oper} {N : Act → World → Prop} {S : World → Prop}
/-- The walk of a region in one fixed order: 'true': an operation that yields its value in every world that meets S. -/
def wpH (P : Program) (ops : Array Oper) (N : Act → World → Prop) (S : World → Prop) : List (Nat × Bool) → Act → World → Prop
 | [], a, w => N a w
 | (i, true) :: rest, a, w => ∃ o v, ops[i]? = some o ∧ YieldsIf P ops S o v a ∧ wpH P ops N S rest (a.put o.dst v) w
 | (i, false) :: rest, a, w => wpOp P ops (Qn N) i (fun a' w' => S w' ∧ wpH P ops N S rest a' w') a w
def chk (ops : Array Oper) : List (Nat × Bool) → Array Bool → Bool
 | [], l => (Region.ready .any ops l).isEmpty
 | (i, true) :: rest, l => Region.free .any ops l i && (Region.ready .any ops l).contains i && chk ops rest (l.setIfInBounds i true)
 | (i, false) :: rest, l => (Region.ready .any ops l == [i]) && chk ops rest (l.setIfInBounds i true)
theorem wpH_sound (hsel : Region.noSelect ops = true) : ∀ (l : List (Nat × Bool)) (listed : Array Bool) (a : Act) (w : World),
  chk ops l listed = true → S w → wpH P ops N S l a w → wpAnyH P .any ops (Qn N) S l.length listed a w
 | [], listed, a, w, hc, _, h => wpAnyH_done (by simpa [chk] using hc) h _
 | (i, true) :: rest, listed, a, w, hc, hS, h => by
  obtain ⟨o, v, ho, hy, hr⟩ := h
  simp only [chk, Bool.and_eq_true] at hc
  exact wpAnyH_take ho hsel hc.1.1 hc.1.2 (fun _ _ _ h => h) hy hS (wpH_sound hsel rest _ _ _ hc.2 hS hr)
 | (i, false) :: rest, listed, a, w, hc, hS, h => by
  simp only [chk, Bool.and_eq_true, beq_iff_eq] at hc
  refine wpAnyH_all hc.1 (by simp) fun j hj => ?_
  obtain rfl : j = i := by simpa using hj
  exact wpOp_mono (fun a' w' h' => ⟨h'.1, wpH_sound hsel rest _ _ _ hc.2 h'.1 h'.2⟩) h
theorem wp_hoist {Q : Exit → Act → World → Prop} {id : Nat} {a : Act} {w : World} {l : List Oper} (ord : List (Nat × Bool)) (S : World → Prop) (hm : P.follows .mixedOrders = true)
  (hc : (Region.noSelect l.toArray && (ord.length == l.length) && chk l.toArray ord (Array.replicate l.length false)) = true)
  (hS : S w.drew) (h : wpH P l.toArray (fun a w => Q .normal a w) S ord a w.drew) : (Code.region id l.toArray true).wp P Q a w := by
 simp only [Bool.and_eq_true, beq_iff_eq] at hc
 refine Code.wp_mono (Q := Qn (fun a w => Q .normal a w)) (fun e a w h => by cases e <;> first | exact h | exact h.elim) ?_
 refine wp_region_held (S := S) hm ?_
 have := wpH_sound hc.1.1 ord _ a w.drew hc.2 hS h
 rw [hc.1.2] at this
 simpa using this
theorem hz_nil {a : Act} {w : World} (h : N a w) : wpH P ops N S [] a w := h
theorem hz_yes {i : Nat} {rest : List (Nat × Bool)} {a : Act} {w : World} {o : Oper} (v : Value) (ho : ops[i]? = some o) (hw : Region.wanted o (yielded ops a.tmps) = true)
 (hv : ∀ w, S w → (execOp a.eval o).run P w = .ok (.value v) w) (h : wpH P ops N S rest (a.put o.dst v) w) : wpH P ops N S ((i, true) :: rest) a w := ⟨o, v, ho, .inl ⟨hw, hv⟩, h⟩
theorem hz_no {i : Nat} {rest : List (Nat × Bool)} {a : Act} {w : World} {o : Oper} (ho : ops[i]? = some o) (hw : Region.wanted o (yielded ops a.tmps) = false)
 (h : wpH P ops N S rest (a.put o.dst undef) w) : wpH P ops N S ((i, true) :: rest) a w := ⟨o, undef, ho, .inr ⟨hw, rfl⟩, h⟩
theorem hz_eff {i : Nat} {rest : List (Nat × Bool)} {a : Act} {w : World} {o : Oper} (ho : ops[i]? = some o) (hw : Region.wanted o (yielded ops a.tmps) = true)
  (h : ∀ K : Act → World → Prop, Shut (∀ a w, S w → wpH P ops N S rest a w → K a w) → o.wp P a w K (Qn N)) : wpH P ops N S ((i, false) :: rest) a w := by
 show wpOp P ops (Qn N) i _ a w
 refine wpOp_step ho fun K hK => ?_
 rw [if_pos hw]
 exact h K (fun a w hs hr => hK a w ⟨hs, hr⟩)
theorem hz_effno {i : Nat} {rest : List (Nat × Bool)} {a : Act} {w : World} {o : Oper} (ho : ops[i]? = some o) (hw : Region.wanted o (yielded ops a.tmps) = false)
  (hS : S w) (h : wpH P ops N S rest (a.put o.dst undef) w) : wpH P ops N S ((i, false) :: rest) a w := by
 show wpOp P ops (Qn N) i _ a w
 refine wpOp_step ho fun K hK => ?_
 rw [if_neg (by simp [hw])]
 exact hK _ _ ⟨hS, h⟩
end
end Go.Proofs.YtadpjidakippeaaGreat
