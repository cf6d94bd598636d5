/- Part of a proof: see the texts that import it. -/
import Derived.Test.YtadpjidakippeaaGreatY02
import Derived.Test.YtadpjidakippeaaGreatY01
set_option linter.unusedVariables false
set_option linter.unusedSimpArgs false
namespace Go.Proofs.YtadpjidakippeaaGreat
open Go.RowKit
theorem right_step' {b S k x q r z r2 : Nat} {X cur : List Nat} {t : Nat} (hx : X.getD k 0 = x) (e : x = q * S + r) (e2 : S * z = b * r2) (hk : k < cur.length) (h : S * vl b (cur.take k) + t = vl b (X.take k) + b ^ k * r) :
  S * vl b ((cur.set k (q + z)).take (k + 1)) + t = vl b (X.take (k + 1)) + b ^ (k + 1) * r2 := by
 rw [set_take_succ _ _ _ hk, vl_snoc, List.length_take, Nat.min_eq_left (by omega), vl_take_succ b X, hx]
 rw [Nat.pow_succ]
 grind
theorem right_step0 {b S k x q r : Nat} {X cur : List Nat} {t : Nat} (hx : X.getD k 0 = x) (e : x = q * S + r) (hk : k < cur.length) (h : S * vl b (cur.take k) + t = vl b (X.take k) + b ^ k * r) :
  S * vl b ((cur.set k q).take (k + 1)) + t = vl b (X.take (k + 1)) + b ^ (k + 1) * 0 := by
 have := right_step' (b := b) (z := 0) (r2 := 0) hx e (by simp) hk h
 simpa using this
theorem getD_end (l : List Nat) : l.getD l.length 0 = 0 := by
 rw [List.getD_eq_getElem?_getD, List.getElem?_eq_none (Nat.le_refl _)]; rfl
theorem shl_part {x s : Nat} (hs : s ≤ 64) : 2 ^ s * (x * 2 ^ (64 - s) % B64) = B64 * (x % 2 ^ s) := by
 have e : x * 2 ^ (64 - s) % B64 = (x % 2 ^ s) * 2 ^ (64 - s) := by
  rw [B64_pow, show (2 : Nat) ^ 64 = 2 ^ s * 2 ^ (64 - s) by rw [← Nat.pow_add]; congr 1; omega, Nat.mul_mod_mul_right]
 rw [e, Nat.mul_comm (x % 2 ^ s), ← Nat.mul_assoc, ← Nat.pow_add, show s + (64 - s) = 64 by omega, ← B64_pow]
theorem right_or {x y s : Nat} (hs : s ≤ 64) (hx : x < B64) : (x / 2 ^ s) ||| (y * 2 ^ (64 - s) % B64) = x / 2 ^ s + y * 2 ^ (64 - s) % B64 := by
 have e : y * 2 ^ (64 - s) % B64 = (y % 2 ^ s) * 2 ^ (64 - s) := by
  rw [B64_pow, show (2 : Nat) ^ 64 = 2 ^ s * 2 ^ (64 - s) by rw [← Nat.pow_add]; congr 1; omega, Nat.mul_mod_mul_right]
 have hl : x / 2 ^ s < 2 ^ (64 - s) := by
  rw [Nat.div_lt_iff_lt_mul (Nat.pow_pos (by omega)), ← Nat.pow_add, show 64 - s + s = 64 by omega]; exact hx
 rw [e, Nat.or_comm, or_shl hl, Nat.add_comm]
theorem right_lt {x y s : Nat} (hs : s ≤ 64) (hx : x < B64) : x / 2 ^ s + y * 2 ^ (64 - s) % B64 < B64 := by
 have h := left_lt (x := y) (s := 64 - s) (c := x / 2 ^ s) (by omega) (by
  rw [Nat.div_lt_iff_lt_mul (Nat.pow_pos (by omega)), ← Nat.pow_add, show 64 - s + s = 64 by omega]; exact hx)
 omega
theorem div_parts (x s : Nat) : x = x / 2 ^ s * 2 ^ s + x % 2 ^ s := by
 have := Nat.div_add_mod x (2 ^ s)
 rw [Nat.mul_comm] at this
 omega
def RightSaid (w' : World) (val : Value) (X : List Nat) (s : Nat) (b0 : Nat) : Prop := ∃ out, val = .slice (some ⟨b0, 0, none⟩) X.length X.length ∧ Own w' b0 101 (wv .u64 out) ∧ out.length = X.length ∧ (∀ x ∈ out, x < B64) ∧ vl B64 out = vl B64 X / 2 ^ s
theorem right_fin {S t V : Nat} {o : Nat} (h : S * o + t = V) (ht : t < S) : o = V / S := by
 rw [← h, Nat.mul_add_div (by omega), Nat.div_eq_of_lt ht]; simp
set_option maxRecDepth 100000 in
set_option maxHeartbeats 1000000 in
theorem right_c (w : World) (A : Option Addr) (c : Nat) (X : List Nat) (s : Nat) (h1 : Words .u64 B64 w A c X) (b1 : X.length ≤ 2199023255552) (hs : s ≤ 63) :
  Calls Tryz.prog 136 #[.slice A X.length c, .int .i64 (s : Nat)] w (Post w fun val w' => RightSaid w' val X s w.heap.size) := by
 have Hw := Lib.hid h1
 have hmk := mk64 (X.length : Int) X.length rfl (by omega)
 clear h1
 go_enter Tryz.func136, Tryz.ntmps136
 go_wp2_with fail
 clear hmk
 go_loopw [12] (fun ti wr => ∃ k : Nat, k ≤ X.length ∧ ti = .int .i64 (k : Int) ∧ Below w.heap.size w wr ∧ ∃ cur, Own wr w.heap.size 101 (wv .u64 cur) ∧ cur.length = X.length ∧ (∀ x ∈ cur, x < B64) ∧ 2 ^ s * vl B64 (cur.take k) + X.getD 0 0 % 2 ^ s = vl B64 (X.take k) + B64 ^ k * (X.getD k 0 % 2 ^ s)) (fun ti _ => X.length - (intOf ti).toNat)
 case atStart => exact ⟨0, Nat.zero_le _, rfl, (by repeat (first | assumption | exact nB1 _ _ | refine nB2 ?_ | refine pw_below_drewN ?_ _ | refine nB3 ?_ (by first | omega | (simp <;> omega)) _ | refine nB4 ?_ (by first | omega | (simp <;> omega)) _ | refine nB5 ?_ (by assumption) (by first | omega | (simp <;> omega)))), _, own_zero' _ _ _ _ _ rfl, by simp, zeros_lt (by decide) _, by simp [vl]⟩
 case round =>
  obtain ⟨k, hk, rfl, hb, cur, hown, hcl, hlt, hv⟩ := hrel
  have HV := Lib.hid hv
  have HO := Lib.hid hown
  have HL := Lib.hid hcl
  have Hlt := Lib.hid hlt
  clear hv hown hcl hlt
  rcases Nat.lt_or_ge k X.length with hkn | hkn
  ·
   have hoc := HO.out.cell k _ (wv_get _ _ _ (by rw [HL.out]; omega))
   have hof := HO.out.frozen k
   obtain ⟨g1, o1, rfl, hcl1⟩ := Hw.out.2.2 (by intro e; rw [e] at hkn; simp at hkn)
   have hx := hcl1 k (by omega)
   have hg1 : g1 ≠ w.heap.size := Nat.ne_of_lt (World.block_lt_of_cell? w _ hx)
   replace hx := hb.cell (World.block_lt_of_cell? w _ hx) |>.trans hx
   obtain ⟨x, ex⟩ : ∃ x, X.getD k 0 = x := ⟨_, rfl⟩
   rw [ex] at hx
   have Ex := Lib.hid ex
   have HXB : Hid (x < B64) := by have := Hw.out.2.1; show _ < _; rw [← ex]; exact getD_lt this (by decide) _
   have r1 : (x : Int) / 2 ^ s = ((x / 2 ^ s : Nat) : Int) := shrN rfl
   obtain ⟨z1, ez1⟩ : ∃ z, x / 2 ^ s = z := ⟨_, rfl⟩
   rw [ez1] at r1
   have Z1 := Lib.hid ez1
   clear ex ez1
   rcases Nat.lt_or_ge (k + 1) X.length with hk1 | hk1
   ·
    have hk1i : (k : Int) + 1 < (X.length : Int) := by omega
    have hy := hcl1 (k + 1) (by omega)
    replace hy := hb.cell (World.block_lt_of_cell? w _ hy) |>.trans hy
    obtain ⟨y, ey⟩ : ∃ y, X.getD (k + 1) 0 = y := ⟨_, rfl⟩
    rw [ey] at hy
    have Ey := Lib.hid ey
    have hoc2 := (HO.out.set k (.int .u64 (z1 : Nat))).cell k (.int .u64 (z1 : Nat)) (by simp [wv_length, HL.out, hkn])
    have hof2 := (HO.out.set k (.int .u64 (z1 : Nat))).frozen k
    have hy2 : (wr.setCell ⟨w.heap.size, k, none⟩ (.int .u64 (z1 : Nat))).cell? ⟨g1, o1 + (k + 1), none⟩ = some (.int .u64 (y : Nat)) := (nC _ _ _ _ (fun e => hg1 (congrArg Addr.block e).symm)).trans hy
    clear ey hcl1
    have r4 : IntKind.u64.wrap ((y : Int) * 2 ^ (64 - s)) = ((y * 2 ^ (64 - s) % B64 : Nat) : Int) := shlM rfl
    have r5 : bits .or .u64 ((z1 : Nat) : Int) ((y * 2 ^ (64 - s) % B64 : Nat) : Int) = ((x / 2 ^ s + y * 2 ^ (64 - s) % B64 : Nat) : Int) := by rw [bits_or_u64_nat z1 (y * 2 ^ (64 - s) % B64) (show z1 < B64 by rw [← Z1.out]; exact Nat.lt_of_le_of_lt (Nat.div_le_self _ _) HXB.out) (show y * 2 ^ (64 - s) % B64 < B64 from Nat.mod_lt _ B64_pos), ← Z1.out, right_or (by omega) HXB.out]
    obtain ⟨z2, ez2⟩ : ∃ z, y * 2 ^ (64 - s) % B64 = z := ⟨_, rfl⟩
    rw [ez2] at r4 r5
    obtain ⟨z3, ez3⟩ : ∃ z, x / 2 ^ s + z2 = z := ⟨_, rfl⟩
    rw [ez3] at r5
    have Z2 := Lib.hid ez2
    have Z3 := Lib.hid ez3
    clear ez2 ez3
    go_wp2_with fail
    have s1 : IntKind.i64.wrap ((k : Int) + 1) = (k : Int) + 1 := i64w (by omega) (by omega)
    have s2 : 0 ≤ (k : Int) + 1 := by omega
    have s3 : ((k : Int) + 1).toNat = k + 1 := by omega
    have s4 : IntKind.i64.wrap ((64 : Int) - (s : Int)) = (64 : Int) - (s : Int) := i64w (by omega) (by omega)
    have s5 : ¬ ((64 : Int) - (s : Int) < 0) := by omega
    have s6 : ((64 : Int) - (s : Int)).toNat = 64 - s := by omega
    refine wp_hoist [(0, true), (1, true), (2, true), (4, true), (5, true), (6, true), (7, true), (8, true), (9, true), (10, true), (11, true), (3, false), (12, true), (13, true), (14, false)] (fun W => W.cell? ⟨g1, o1 + (k + 1), none⟩ = some (.int .u64 (y : Nat))) (by kernel_rfl) (by kernel_rfl) ?_ ?_
    · exact hy2
    refine hz_yes (v := ?_) rfl (by kernel_rfl) (fun W hW => ?_) ?_; rotate_left; (go_simp; try with_reducible rfl)
    (try (conv => arg 6; simp only [Act.put, gL]))
    refine hz_yes (v := ?_) rfl (by kernel_rfl) (fun W hW => ?_) ?_; rotate_left; (go_simp; try with_reducible rfl)
    (try (conv => arg 6; simp only [Act.put, gL]))
    refine hz_yes (v := ?_) rfl (by kernel_rfl) (fun W hW => ?_) ?_; rotate_left; (go_simp; try with_reducible rfl)
    (try (conv => arg 6; simp only [Act.put, gL]))
    refine hz_yes (v := ?_) rfl (by kernel_rfl) (fun W hW => ?_) ?_; rotate_left; (go_simp; try with_reducible rfl)
    (try (conv => arg 6; simp only [Act.put, gL]))
    refine hz_yes (v := ?_) rfl (by kernel_rfl) (fun W hW => ?_) ?_; rotate_left; (go_simp; try with_reducible rfl)
    (try (conv => arg 6; simp only [Act.put, gL]))
    refine hz_yes (v := ?_) rfl (by kernel_rfl) (fun W hW => ?_) ?_; rotate_left; (go_simp; try with_reducible rfl)
    (try (conv => arg 6; simp only [Act.put, gL]))
    refine hz_yes (v := ?_) rfl (by kernel_rfl) (fun W hW => ?_) ?_; rotate_left; (go_simp; try with_reducible rfl)
    (try (conv => arg 6; simp only [Act.put, gL]))
    refine hz_yes (v := ?_) rfl (by kernel_rfl) (fun W hW => ?_) ?_; rotate_left; (go_simp; try with_reducible rfl)
    (try (conv => arg 6; simp only [Act.put, gL]))
    refine hz_yes (v := ?_) rfl (by kernel_rfl) (fun W hW => ?_) ?_; rotate_left; (go_simp; try with_reducible rfl)
    (try (conv => arg 6; simp only [Act.put, gL]))
    refine hz_yes (v := ?_) rfl (by kernel_rfl) (fun W hW => ?_) ?_; rotate_left; (go_simp; try with_reducible rfl)
    (try (conv => arg 6; simp only [Act.put, gL]))
    refine hz_yes (v := ?_) rfl (by kernel_rfl) (fun W hW => ?_) ?_; rotate_left; (go_simp; try with_reducible rfl)
    (try (conv => arg 6; simp only [Act.put, gL]))
    refine hz_eff rfl (by kernel_rfl) (fun K hK => ?_)
    go_simp
    refine hK.out _ _ ?_ ?_
    · exact hy2
    clear hK K
    (try (conv => arg 6; simp only [Act.put, gL]))
    refine hz_yes (v := ?_) rfl (by kernel_rfl) (fun W hW => ?_) ?_; rotate_left; (go_simp; try with_reducible rfl)
    (try (conv => arg 6; simp only [Act.put, gL]))
    refine hz_yes (v := ?_) rfl (by kernel_rfl) (fun W hW => ?_) ?_; rotate_left; (go_simp; try with_reducible rfl)
    (try (conv => arg 6; simp only [Act.put, gL]))
    refine hz_eff rfl (by kernel_rfl) (fun K hK => ?_)
    go_simp
    refine hK.out _ _ ?_ ?_
    · exact (nC _ _ _ _ (fun e => hg1 (congrArg Addr.block e).symm)).trans hy2
    clear hK K
    (try (conv => arg 6; simp only [Act.put, gL]))
    refine hz_nil ?_
    clear s1 s2 s3 s4 s5 s6
    go_wp2_with fail
    go_roundw
    case rel => exact ⟨k + 1, by omega, by go_num, (by repeat (first | assumption | exact nB1 _ _ | refine nB2 ?_ | refine pw_below_drewN ?_ _ | refine nB3 ?_ (by first | omega | (simp <;> omega)) _ | refine nB4 ?_ (by first | omega | (simp <;> omega)) _ | refine nB5 ?_ (by assumption) (by first | omega | (simp <;> omega)))), cur.set k z3, by rw [← List.set_set (a := z1), ← wv_set, ← wv_set]; exact ((HO.out.set _ _).drew).set _ _, by rw [set_length]; exact HL.out, set_lt Hlt.out _ _ (by rw [← Z3.out, ← Z2.out]; exact right_lt (by omega) HXB.out), by rw [← Z3.out, Ey.out]; exact right_step' Ex.out (div_parts x s) (by rw [← Z2.out]; exact shl_part (by omega)) (by rw [HL.out]; exact hkn) (by rw [← Ex.out]; exact HV.out)⟩
    case measure => simp [intOf]; omega
   ·
    have hk1i : ¬ ((k : Int) + 1 < (X.length : Int)) := by omega
    have Ey : Hid (X.getD (k + 1) 0 = 0) := by show _ = _; rw [List.getD_eq_getElem?_getD, List.getElem?_eq_none hk1]; rfl
    go_wp2_with fail
    go_roundw
    case rel => exact ⟨k + 1, by omega, by go_num, (by repeat (first | assumption | exact nB1 _ _ | refine nB2 ?_ | refine pw_below_drewN ?_ _ | refine nB3 ?_ (by first | omega | (simp <;> omega)) _ | refine nB4 ?_ (by first | omega | (simp <;> omega)) _ | refine nB5 ?_ (by assumption) (by first | omega | (simp <;> omega)))), cur.set k z1, by rw [← wv_set]; exact HO.out.set _ _, by rw [set_length]; exact HL.out, set_lt Hlt.out _ _ (by rw [← Z1.out]; exact Nat.lt_of_le_of_lt (Nat.div_le_self _ _) HXB.out), by rw [← Z1.out, Ey.out, Nat.zero_mod]; exact right_step0 Ex.out (div_parts x s) (by rw [HL.out]; exact hkn) (by rw [← Ex.out]; exact HV.out)⟩
    case measure => simp [intOf]; omega
  ·
   obtain rfl : k = X.length := by omega
   have hnlt : ¬ (X.length : Int) < (X.length : Int) := by omega
   go_wp2
   go_ret
   exact ⟨_, rfl, hb, cur, rfl, HO.out, HL.out, Hlt.out, by have h := HV.out; rw [List.take_of_length_le (Nat.le_of_eq HL.out), List.take_of_length_le (Nat.le_refl _), getD_end, Nat.zero_mod, Nat.mul_zero, Nat.add_zero] at h; exact right_fin h (Nat.mod_lt _ (Nat.pow_pos (by omega)))⟩
end Go.Proofs.YtadpjidakippeaaGreat

namespace Go.Proofs.YtadpjidakippeaaGreat
open Go.RowKit
theorem guess_less {B a b c v w q r Q : Nat} (h : a * B + b = q * v + r) (hgt : r * B + c < q * w) (hQ : Q * (v * B + w) ≤ (a * B + b) * B + c) (hle : Q ≤ q) : Q ≤ q - 1 := by
 rcases Nat.lt_or_ge Q q with h1 | h1
 · omega
 ·
  obtain rfl : Q = q := by omega
  rw [h, Nat.mul_add, Nat.add_mul, ← Nat.mul_assoc] at hQ
  omega
theorem guess_cmp {B q w r c h l : Nat} (hB : 0 < B) (eh : q * w / B = h) (el : q * w % B = l) (hc : c < B) : q * w ≤ r * B + c ↔ h < r ∨ h = r ∧ l ≤ c := by
 have e := Nat.div_add_mod (q * w) B
 rw [eh, el, Nat.mul_comm B h] at e
 have hl : l < B := el ▸ Nat.mod_lt _ hB
 constructor
 ·
  intro hle
  rcases Nat.lt_trichotomy h r with h1 | h1 | h1
  · exact .inl h1
  · subst h1; exact .inr ⟨rfl, by omega⟩
  ·
   have := Nat.mul_le_mul_right B (show r + 1 ≤ h from h1)
   rw [Nat.add_mul, Nat.one_mul] at this
   omega
 ·
  rintro (h1 | ⟨rfl, h2⟩)
  ·
   have := Nat.mul_le_mul_right B (show h + 1 ≤ r from h1)
   rw [Nat.add_mul, Nat.one_mul] at this
   omega
  · omega
def GuessSaid (val : Value) (a b c v w : Nat) : Prop := ∃ q : Nat, val = .int .u64 (q : Int) ∧ q < B64 ∧ ∀ Q, Q < B64 → Q * (v * B64 + w) ≤ (a * B64 + b) * B64 + c → Q ≤ q
set_option maxRecDepth 100000 in
set_option maxHeartbeats 1000000 in
theorem guess_c (a b c v w0 : Nat) (ha : a < B64) (hb : b < B64) (hc : c < B64) (hv : v < B64) (hw0 : w0 < B64) (w : World) :
  Calls Tryz.prog 133 #[.int .u64 a, .int .u64 b, .int .u64 c, .int .u64 v, .int .u64 w0] w (Post w fun val _ => GuessSaid val a b c v w0) := by
 have HA := Lib.hid ha
 have HB := Lib.hid hb
 have HC := Lib.hid hc
 have HV := Lib.hid hv
 have HW := Lib.hid hw0
 clear ha hb hc hv hw0
 rcases Nat.lt_or_ge a v with hav | hav
 ·
  have hnl : ¬ ((v : Int) ≤ (a : Int)) := by omega
  have hd := div64_c a b v HB.out HV.out hav
  obtain ⟨q, eq⟩ : ∃ z, (a * B64 + b) / v = z := ⟨_, rfl⟩
  obtain ⟨r, er⟩ : ∃ z, (a * B64 + b) % v = z := ⟨_, rfl⟩
  rw [eq, er] at hd
  have HD := Lib.hid hd
  have HQ : Hid (q < B64 ∧ r < B64 ∧ a * B64 + b = q * v + r ∧ ∀ Q, Q * (v * B64 + w0) ≤ (a * B64 + b) * B64 + c → Q ≤ q) := by
   have h1 := Nat.div_add_mod (a * B64 + b) v
   rw [eq, er, Nat.mul_comm] at h1
   refine ⟨by rw [← eq, Nat.div_lt_iff_lt_mul (by omega)]; exact dig_lt hav HB.out, Nat.lt_trans (er ▸ Nat.mod_lt _ (by omega)) HV.out, h1.symm, fun Q hQ => ?_⟩
   rw [← eq, Nat.le_div_iff_mul_le (by omega)]
   have h2 : Q * v * B64 < (a * B64 + b + 1) * B64 := by
    rw [Nat.mul_add, ← Nat.mul_assoc] at hQ
    have := HC.out
    rw [Nat.add_mul _ 1, Nat.one_mul]
    omega
   have := Nat.lt_of_mul_lt_mul_right h2
   omega
  clear hd eq er
  go_enter Tryz.func133, Tryz.ntmps133
  go_wp2_with (go_at_call 130; refine (HD.out _).mono ?_; rintro e w1 ⟨val, rfl, hb1, rfl⟩)
  go_loopw [11, 12] (fun tq tr wr => ∃ q r : Nat, tq = .int .u64 (q : Int) ∧ tr = .int .u64 (r : Int) ∧ Below w.heap.size w wr ∧ q < B64 ∧ r < B64 ∧ a * B64 + b = q * v + r ∧ ∀ Q, Q * (v * B64 + w0) ≤ (a * B64 + b) * B64 + c → Q ≤ q) (fun tq _ _ => (intOf tq).toNat)
  case atStart => exact ⟨q, r, rfl, rfl, hb1, HQ.out⟩
  case round =>
   clear HQ HD
   obtain ⟨q, r, rfl, rfl, hb, hq, hr, he, hall⟩ := hrel
   have HQ := Lib.hid hq
   have HR := Lib.hid hr
   have HE := Lib.hid he
   have HALL := Lib.hid hall
   have hm := mul64_c q w0 HQ.out HW.out
   obtain ⟨h, eh⟩ : ∃ h, q * w0 / B64 = h := ⟨_, rfl⟩
   obtain ⟨l, el⟩ : ∃ l, q * w0 % B64 = l := ⟨_, rfl⟩
   have hcmp := guess_cmp (r := r) B64_pos eh el HC.out
   rw [eh, el] at hm
   have HM := Lib.hid hm
   clear hq hr he hall hm eh el
   by_cases hle : q * w0 ≤ r * B64 + c
   ·
    have ho := hcmp.1 hle
    clear hcmp hle
    rcases ho with h1 | ⟨h1, h2⟩
    ·
     have hi : (h : Int) < (r : Int) := by omega
     clear h1
     go_wp2_with (go_at_call 111; refine (HM.out _).mono ?_; rintro e w' ⟨rfl, rfl⟩)
     go_ret
     exact ⟨_, rfl, hb, q, rfl, HQ.out, fun Q _ hQ => HALL.out Q hQ⟩
    ·
     have hi : ¬ ((h : Int) < (r : Int)) := by omega
     have hj : ((h : Int) == (r : Int)) = true := by rw [beq_iff_eq]; omega
     have hk : (l : Int) ≤ (c : Int) := by omega
     clear h1 h2
     go_wp2_with (go_at_call 111; refine (HM.out _).mono ?_; rintro e w' ⟨rfl, rfl⟩)
     go_ret
     exact ⟨_, rfl, hb, q, rfl, HQ.out, fun Q _ hQ => HALL.out Q hQ⟩
   ·
    have hno : ¬ (h < r ∨ h = r ∧ l ≤ c) := fun h => hle (hcmp.2 h)
    have hq0 : 0 < q := by
     rcases Nat.eq_zero_or_pos q with rfl | h0
     · exact absurd (by rw [Nat.zero_mul]; exact Nat.zero_le _) hle
     · exact h0
    have HN : Hid (∀ Q, Q * (v * B64 + w0) ≤ (a * B64 + b) * B64 + c → Q ≤ q - 1) := fun Q hQ => guess_less HE.out (by omega) hQ (HALL.out Q hQ)
    have hw2 : IntKind.u64.wrap ((q : Int) - 1) = (q : Int) - 1 := wrapI (by omega) (by have h : q < 18446744073709551616 := HQ.out; omega)
    have hadd := add64_run r v 0 _ _ 0 rfl rfl rfl (by omega)
    rw [Nat.add_zero] at hadd
    obtain ⟨r1, er1⟩ : ∃ z, (r + v) % B64 = z := ⟨_, rfl⟩
    obtain ⟨ov, eov⟩ : ∃ z, (r + v) / B64 = z := ⟨_, rfl⟩
    rw [er1, eov] at hadd
    have HE2 : Hid (ov = 0 → a * B64 + b = (q - 1) * v + r1 ∧ r1 < B64) := fun h0 => by
     have hlt : r + v < B64 := by
      rw [h0] at eov
      exact Nat.lt_of_div_eq_zero B64_pos eov
     rw [Nat.mod_eq_of_lt hlt] at er1
     exact ⟨er1 ▸ hs_down HE.out hq0, er1 ▸ hlt⟩
    clear hcmp hle er1 eov
    rcases Nat.lt_or_ge h r with h1 | h1
    · exact absurd (.inl h1) hno
    ·
     have hi : ¬ ((h : Int) < (r : Int)) := by omega
     have hcase : ((h : Int) == (r : Int)) = false ∨ ((h : Int) == (r : Int)) = true ∧ ¬ ((l : Int) ≤ (c : Int)) := by
      by_cases e : h = r
      · exact .inr ⟨by rw [beq_iff_eq]; omega, fun h' => hno (.inr ⟨e, by omega⟩)⟩
      · exact .inl (by rw [beq_eq_false_iff_ne]; omega)
     clear h1 hno
     rcases Nat.eq_zero_or_pos ov with rfl | hov
     ·
      have hz : ((0 : Int) != 0) = false := by decide
      rcases hcase with hj | ⟨hj, hk⟩
      all_goals
       go_wp2_with (go_at_call 111; refine (HM.out _).mono ?_; rintro e w' ⟨rfl, rfl⟩)
       go_roundw
       case rel => exact ⟨q - 1, r1, by congr 1; omega, rfl, hb, by have := HQ.out; omega, (HE2.out (by trivial)).2, (HE2.out (by trivial)).1, HN.out⟩
       case measure => simp [intOf]; omega
     ·
      have hz : ((ov : Int) != 0) = true := by rw [bne_iff_ne]; omega
      rcases hcase with hj | ⟨hj, hk⟩
      all_goals
       go_wp2_with (go_at_call 111; refine (HM.out _).mono ?_; rintro e w' ⟨rfl, rfl⟩)
       go_ret
       exact ⟨_, rfl, hb, q - 1, vint (by omega), by have := HQ.out; omega, fun Q _ hQ => HN.out Q hQ⟩
 ·
  have hnl : ((v : Int) ≤ (a : Int)) := by omega
  go_enter Tryz.func133, Tryz.ntmps133
  go_wp2_with fail
  go_ret
  exact ⟨_, rfl, (by repeat (first | assumption | exact nB1 _ _ | refine nB2 ?_ | refine pw_below_drewN ?_ _ | refine nB3 ?_ (by first | omega | (simp <;> omega)) _ | refine nB4 ?_ (by first | omega | (simp <;> omega)) _ | refine nB5 ?_ (by assumption) (by first | omega | (simp <;> omega)))), 18446744073709551615, rfl, by decide, fun Q hQ _ => by rw [B64_eq] at hQ; omega⟩
end Go.Proofs.YtadpjidakippeaaGreat

namespace Go.Proofs.YtadpjidakippeaaGreat
open Go.RowKit
theorem less_step {b p o o' l1 un un' cc cc' d y v0 j i : Nat} {L Y : List Nat} (hp : j + i = p) (hl : p < L.length) (ho : L.getD p 0 = o) (hy : Y.getD i 0 = y)
  (h : vl b L + b ^ j * (d * vl b (Y.take i)) = v0 + b ^ p * (cc + un)) (e1 : d * y + cc = l1 + b * cc') (e2 : o' + l1 + un = o + b * un') :
  vl b (L.set p o') + b ^ j * (d * vl b (Y.take (i + 1))) = v0 + b ^ (p + 1) * (cc' + un') := by
 have hs := vl_set b L p o' hl
 rw [ho] at hs
 rw [vl_take_succ, hy]
 subst hp
 rw [Nat.pow_succ]
 rw [Nat.pow_add] at *
 grind
theorem less_fin {b p o o' un un' cc dv v0 : Nat} {L : List Nat} (hl : p < L.length) (ho : L.getD p 0 = o)
  (h : vl b L + dv = v0 + b ^ p * (cc + un)) (e2 : o' + cc + un = o + b * un') :
  vl b (L.set p o') + dv = v0 + b ^ (p + 1) * un' := by
 have hs := vl_set b L p o' hl
 rw [ho] at hs
 rw [Nat.pow_succ]
 grind
theorem mul_add_digits {B d y c l1 k1 h l : Nat} (hB : 0 < B) (eh : d * y / B = h) (el : d * y % B = l) (e1 : (l + c) % B = l1) (ek : (l + c) / B = k1) : d * y + c = l1 + B * (h + k1) := by
 have a := Nat.div_add_mod (d * y) B
 have b := Nat.div_add_mod (l + c) B
 rw [eh, el] at a
 rw [e1, ek] at b
 grind
theorem sub_digits {B x y bo d : Nat} (hbo : bo ≤ 1) (hx : x < B) (hy : y < B) (hd : (x + B - y - bo) % B = d) : d + y + bo = x + B * (if x < y + bo then 1 else 0) := by
 subst hd
 split
 · rw [Nat.mod_eq_of_lt (by omega)]; omega
 · rw [show x + B - y - bo = (x - y - bo) + B by omega, Nat.add_mod_right, Nat.mod_eq_of_lt (by omega)]; omega
theorem carry_lt {d y c l1 k1 h : Nat} (hd : d < B64) (hy : y < B64) (hc : c < B64) (e : d * y + c = l1 + B64 * (h + k1)) : h + k1 < B64 := by
 have hp : d * y ≤ 18446744073709551615 * 18446744073709551615 := Nat.mul_le_mul (by rw [B64_eq] at hd; omega) (by rw [B64_eq] at hy; omega)
 generalize d * y = P at *
 rw [B64_eq] at *
 omega
/-- What less, more leave behind. -/
structure InPlace (bx j n : Nat) (L : List Nat) (w w' : World) (L' : List Nat) : Prop where
 but : But bx w w'
 own : Own w' bx 101 (wv .u64 L')
 len : L'.length = L.length
 lt : ∀ x ∈ L', x < B64
 same : ∀ p, p < j ∨ j + n < p → L'.getD p 0 = L.getD p 0
theorem InPlace.trans {bx j n : Nat} {L L' L'' : List Nat} {w w' w'' : World} (h : InPlace bx j n L w w' L') (k : InPlace bx j n L' w' w'' L'') : InPlace bx j n L w w'' L'' :=
 ⟨h.but.trans k.but, k.own, k.len.trans h.len, k.lt, fun p hp => (k.same p hp).trans (h.same p hp)⟩
def LessSaid (bx j : Nat) (L Y : List Nat) (d : Nat) (w : World) (e : Ending) (w' : World) : Prop :=
 ∃ (L' : List Nat) (un : Nat), e = .returned (.bool (decide (un ≠ 0))) ∧ un ≤ 1 ∧ InPlace bx j Y.length L w w' L' ∧ vl B64 L' + B64 ^ j * (d * vl B64 Y) = vl B64 L + B64 ^ (j + Y.length + 1) * un
set_option maxRecDepth 100000 in
set_option maxHeartbeats 1000000 in
theorem less_c (w : World) (bx j cx cy d : Nat) (A2 : Option Addr) (L Y : List Nat) (hx : Own w bx 101 (wv .u64 L)) (hL : ∀ x ∈ L, x < B64) (hj : j + Y.length + 1 ≤ L.length) (hy : Words .u64 B64 w A2 cy Y) (hne : ∀ g o, A2 = some ⟨g, o, none⟩ → g ≠ bx) (hd : d < B64) (b1 : L.length ≤ 2199023255552) :
  Calls Tryz.prog 134 #[.slice (some ⟨bx, j, none⟩) (Y.length + 1) cx, .slice A2 Y.length cy, .int .u64 d] w (LessSaid bx j L Y d w) := by
 have Hx := Lib.hid hx
 have HL0 := Lib.hid hL
 have Hy := Lib.hid hy
 have HNE := Lib.hid hne
 have HD := Lib.hid hd
 clear hx hL hy hne hd
 go_enter Tryz.func134, Tryz.ntmps134
 go_wp2_with fail
 go_loopw [7, 8, 16] (fun tc tu ti wr => ∃ i cc un : Nat, i ≤ Y.length ∧ ti = .int .i64 (i : Int) ∧ tc = .int .u64 (cc : Int) ∧ tu = .int .u64 (un : Int) ∧ cc < B64 ∧ un ≤ 1 ∧ ∃ L', InPlace bx j Y.length L w wr L' ∧ vl B64 L' + B64 ^ j * (d * vl B64 (Y.take i)) = vl B64 L + B64 ^ (j + i) * (cc + un)) (fun _ _ ti _ => Y.length - (intOf ti).toNat)
 case atStart => exact ⟨0, 0, 0, Nat.zero_le _, rfl, rfl, rfl, by decide, by omega, L, ⟨But.refl _ _, Hx.out, rfl, HL0.out, fun _ _ => rfl⟩, by simp [vl]⟩
 case round =>
  obtain ⟨i, cc, un, hi, rfl, rfl, rfl, hcc, hun, L', hin, hv⟩ := hrel
  have HV := Lib.hid hv
  have HIN := Lib.hid hin
  have HC := Lib.hid hcc
  have hlen : L'.length = L.length := hin.len
  have HLEN := Lib.hid hlen
  clear hv hin hcc hlen
  rcases Nat.lt_or_ge i Y.length with hik | hik
  ·
   obtain ⟨g2, o2, rfl, hcl2⟩ := Hy.out.2.2 (by intro e; rw [e] at hik; simp at hik)
   have hy := HIN.out.but.cell (hcl2 i hik) (HNE.out _ _ rfl)
   obtain ⟨y, ey⟩ : ∃ y, Y.getD i 0 = y := ⟨_, rfl⟩
   rw [ey] at hy
   have Ey := Lib.hid ey
   have HYB : Hid (y < B64) := by have := Hy.out.2.1; show _ < _; rw [← ey]; exact getD_lt this (by decide) _
   obtain ⟨o, eo⟩ : ∃ o, L'.getD (j + i) 0 = o := ⟨_, rfl⟩
   have Eo := Lib.hid eo
   have hoc := HIN.out.own.cell (j + i) _ (wv_get _ _ _ (by rw [HLEN.out]; omega))
   rw [eo] at hoc
   have hof := HIN.out.own.frozen (j + i)
   have HOB : Hid (o < B64) := by show _ < _; rw [← eo]; exact getD_lt HIN.out.lt (by decide) _
   obtain ⟨h, eh⟩ : ∃ h, d * y / B64 = h := ⟨_, rfl⟩
   obtain ⟨l, el⟩ : ∃ l, d * y % B64 = l := ⟨_, rfl⟩
   obtain ⟨l1, el1⟩ : ∃ l1, (l + cc) % B64 = l1 := ⟨_, rfl⟩
   obtain ⟨k1, ek1⟩ : ∃ k1, (l + cc) / B64 = k1 := ⟨_, rfl⟩
   have hma := mul_add_digits B64_pos eh el el1 ek1
   have hl1 : l1 < B64 := el1 ▸ Nat.mod_lt _ B64_pos
   have hcar := carry_lt HD.out HYB.out HC.out hma
   have hm := mul64_c d y HD.out HYB.out
   rw [eh, el] at hm
   have HM := Lib.hid hm
   have ha1 := add64_run l cc 0 _ _ 0 rfl rfl rfl (by omega)
   rw [Nat.add_zero, el1, ek1] at ha1
   have hsb := sub64_run o l1 un _ _ _ rfl rfl rfl hun
   obtain ⟨o', eo'⟩ : ∃ z, (o + B64 - l1 - un) % B64 = z := ⟨_, rfl⟩
   obtain ⟨un', eun⟩ : ∃ z, (if o < l1 + un then 1 else 0) = z := ⟨_, rfl⟩
   have hsd := sub_digits hun HOB.out hl1 eo'
   rw [eo', eun] at hsb
   rw [eun] at hsd
   have hun' : un' ≤ 1 := by rw [← eun]; split <;> omega
   have hq1 : IntKind.u64.wrap ((h : Int) + (k1 : Int)) = (h : Int) + (k1 : Int) := wrapI (by omega) (by have : h + k1 < 18446744073709551616 := hcar; omega)
   have HMA := Lib.hid hma
   have HSD := Lib.hid hsd
   have HCAR := Lib.hid hcar
   have HO' : Hid (o' < B64) := eo' ▸ Nat.mod_lt _ B64_pos
   clear ey hcl2 eo eh el el1 ek1 hma hl1 hcar hm eo' eun hsd
   go_wp2_with (go_at_call 111; refine (HM.out _).mono ?_; rintro e w' ⟨rfl, rfl⟩)
   go_roundw
   case rel => exact ⟨i + 1, h + k1, un', by omega, by go_num, by go_num, rfl, HCAR.out, hun', L'.set (j + i) o', ⟨HIN.out.but.set _ _, by rw [← wv_set]; exact HIN.out.own.set _ _, by rw [set_length]; exact HLEN.out, set_lt HIN.out.lt _ _ HO'.out, fun p hp => by rw [lset_ne (by omega)]; exact HIN.out.same p hp⟩, less_step (v0 := vl B64 L) rfl (by rw [HLEN.out]; omega) Eo.out Ey.out HV.out HMA.out HSD.out⟩
   case measure => simp [intOf]; omega
  ·
   obtain rfl : i = Y.length := by omega
   have hnlt : ¬ (Y.length : Int) < (Y.length : Int) := by omega
   obtain ⟨o, eo⟩ : ∃ o, L'.getD (j + Y.length) 0 = o := ⟨_, rfl⟩
   have Eo := Lib.hid eo
   have hoc := HIN.out.own.cell (j + Y.length) _ (wv_get _ _ _ (by rw [HLEN.out]; omega))
   rw [eo] at hoc
   have hof := HIN.out.own.frozen (j + Y.length)
   have HOB : Hid (o < B64) := by show _ < _; rw [← eo]; exact getD_lt HIN.out.lt (by decide) _
   have hsb := sub64_run o cc un _ _ _ rfl rfl rfl hun
   obtain ⟨o', eo'⟩ : ∃ z, (o + B64 - cc - un) % B64 = z := ⟨_, rfl⟩
   obtain ⟨un', eun⟩ : ∃ z, (if o < cc + un then 1 else 0) = z := ⟨_, rfl⟩
   have hsd := sub_digits hun HOB.out HC.out eo'
   rw [eo', eun] at hsb
   rw [eun] at hsd
   have hun' : un' ≤ 1 := by rw [← eun]; split <;> omega
   have HSD := Lib.hid hsd
   have HO' : Hid (o' < B64) := eo' ▸ Nat.mod_lt _ B64_pos
   clear eo eo' eun hsd
   have hfin : ∀ un' : Nat, un' ≤ 1 → ((((un' : Nat) : Int) != 0) = decide (un' ≠ 0)) := fun u _ => by
    rw [Bool.eq_iff_iff]; simp
   have HF := Lib.hid (hfin un' hun')
   clear hfin
   go_wp2
   go_ret
   exact ⟨L'.set (j + Y.length) o', un', by rw [← HF.out]; rfl, hun', ⟨HIN.out.but.set _ _, by rw [← wv_set]; exact HIN.out.own.set _ _, by rw [set_length]; exact HLEN.out, set_lt HIN.out.lt _ _ HO'.out, fun p hp => by rw [lset_ne (by omega)]; exact HIN.out.same p hp⟩, by have h := HV.out; rw [List.take_of_length_le (Nat.le_refl _)] at h; exact less_fin (by rw [HLEN.out]; omega) Eo.out h HSD.out⟩
theorem more_step {b p o o' c c' y v0 j i : Nat} {L Y : List Nat} (hp : j + i = p) (hl : p < L.length) (ho : L.getD p 0 = o) (hy : Y.getD i 0 = y)
  (h : vl b L + b ^ p * c = v0 + b ^ j * vl b (Y.take i)) (e1 : o + y + c = o' + b * c') :
  vl b (L.set p o') + b ^ (p + 1) * c' = v0 + b ^ j * vl b (Y.take (i + 1)) := by
 have hs := vl_set b L p o' hl
 rw [ho] at hs
 rw [vl_take_succ, hy]
 subst hp
 rw [Nat.pow_succ]
 rw [Nat.pow_add] at *
 grind
theorem more_fin {b p o o' c c' v0 : Nat} {L : List Nat} (hl : p < L.length) (ho : L.getD p 0 = o) (h : vl b L + b ^ p * c = v0) (e1 : o + c = o' + b * c') :
  vl b (L.set p o') + b ^ (p + 1) * c' = v0 := by
 have hs := vl_set b L p o' hl
 rw [ho] at hs
 rw [Nat.pow_succ]
 grind
theorem add_digits {B s o' c' : Nat} (e1 : s % B = o') (e2 : s / B = c') : s = o' + B * c' := by
 have := Nat.div_add_mod s B
 rw [e1, e2] at this
 omega
def MoreSaid (bx j : Nat) (L Y : List Nat) (w : World) (e : Ending) (w' : World) : Prop :=
 ∃ (L' : List Nat) (c : Nat), e = .returned (.bool (decide (c ≠ 0))) ∧ c ≤ 1 ∧ InPlace bx j Y.length L w w' L' ∧ vl B64 L' + B64 ^ (j + Y.length + 1) * c = vl B64 L + B64 ^ j * vl B64 Y
set_option maxRecDepth 100000 in
set_option maxHeartbeats 1000000 in
theorem more_c (w : World) (bx j cx cy : Nat) (A2 : Option Addr) (L Y : List Nat) (hx : Own w bx 101 (wv .u64 L)) (hL : ∀ x ∈ L, x < B64) (hj : j + Y.length + 1 ≤ L.length) (hy : Words .u64 B64 w A2 cy Y) (hne : ∀ g o, A2 = some ⟨g, o, none⟩ → g ≠ bx) (b1 : L.length ≤ 2199023255552) :
  Calls Tryz.prog 135 #[.slice (some ⟨bx, j, none⟩) (Y.length + 1) cx, .slice A2 Y.length cy] w (MoreSaid bx j L Y w) := by
 have Hx := Lib.hid hx
 have HL0 := Lib.hid hL
 have Hy := Lib.hid hy
 have HNE := Lib.hid hne
 clear hx hL hy hne
 go_enter Tryz.func135, Tryz.ntmps135
 go_wp2_with fail
 go_loopw [5, 10] (fun tc ti wr => ∃ i c : Nat, i ≤ Y.length ∧ ti = .int .i64 (i : Int) ∧ tc = .int .u64 (c : Int) ∧ c ≤ 1 ∧ ∃ L', InPlace bx j Y.length L w wr L' ∧ vl B64 L' + B64 ^ (j + i) * c = vl B64 L + B64 ^ j * vl B64 (Y.take i)) (fun _ ti _ => Y.length - (intOf ti).toNat)
 case atStart => exact ⟨0, 0, Nat.zero_le _, rfl, rfl, by omega, L, ⟨But.refl _ _, Hx.out, rfl, HL0.out, fun _ _ => rfl⟩, by simp [vl]⟩
 case round =>
  obtain ⟨i, c, hi, rfl, rfl, hc, L', hin, hv⟩ := hrel
  have HV := Lib.hid hv
  have HIN := Lib.hid hin
  have hlen : L'.length = L.length := hin.len
  have HLEN := Lib.hid hlen
  clear hv hin hlen
  rcases Nat.lt_or_ge i Y.length with hik | hik
  ·
   obtain ⟨g2, o2, rfl, hcl2⟩ := Hy.out.2.2 (by intro e; rw [e] at hik; simp at hik)
   have hy := HIN.out.but.cell (hcl2 i hik) (HNE.out _ _ rfl)
   obtain ⟨y, ey⟩ : ∃ y, Y.getD i 0 = y := ⟨_, rfl⟩
   rw [ey] at hy
   have Ey := Lib.hid ey
   have HYB : Hid (y < B64) := by have := Hy.out.2.1; show _ < _; rw [← ey]; exact getD_lt this (by decide) _
   obtain ⟨o, eo⟩ : ∃ o, L'.getD (j + i) 0 = o := ⟨_, rfl⟩
   have Eo := Lib.hid eo
   have hoc := HIN.out.own.cell (j + i) _ (wv_get _ _ _ (by rw [HLEN.out]; omega))
   rw [eo] at hoc
   have hof := HIN.out.own.frozen (j + i)
   have HOB : Hid (o < B64) := by show _ < _; rw [← eo]; exact getD_lt HIN.out.lt (by decide) _
   have hadd := add64_run o y c _ _ _ rfl rfl rfl hc
   obtain ⟨o', eo'⟩ : ∃ z, (o + y + c) % B64 = z := ⟨_, rfl⟩
   obtain ⟨c', ec'⟩ : ∃ z, (o + y + c) / B64 = z := ⟨_, rfl⟩
   have hsd := add_digits eo' ec'
   have hc' : c' ≤ 1 := ec' ▸ carry_le HOB.out HYB.out hc
   rw [eo', ec'] at hadd
   have HSD := Lib.hid hsd
   have HO' : Hid (o' < B64) := eo' ▸ Nat.mod_lt _ B64_pos
   clear ey hcl2 eo eo' ec' hsd
   go_wp2_with fail
   go_roundw
   case rel => exact ⟨i + 1, c', by omega, by go_num, rfl, hc', L'.set (j + i) o', ⟨HIN.out.but.set _ _, by rw [← wv_set]; exact HIN.out.own.set _ _, by rw [set_length]; exact HLEN.out, set_lt HIN.out.lt _ _ HO'.out, fun p hp => by rw [lset_ne (by omega)]; exact HIN.out.same p hp⟩, more_step (v0 := vl B64 L) rfl (by rw [HLEN.out]; omega) Eo.out Ey.out HV.out HSD.out⟩
   case measure => simp [intOf]; omega
  ·
   obtain rfl : i = Y.length := by omega
   have hnlt : ¬ (Y.length : Int) < (Y.length : Int) := by omega
   obtain ⟨o, eo⟩ : ∃ o, L'.getD (j + Y.length) 0 = o := ⟨_, rfl⟩
   have Eo := Lib.hid eo
   have hoc := HIN.out.own.cell (j + Y.length) _ (wv_get _ _ _ (by rw [HLEN.out]; omega))
   rw [eo] at hoc
   have hof := HIN.out.own.frozen (j + Y.length)
   have HOB : Hid (o < B64) := by show _ < _; rw [← eo]; exact getD_lt HIN.out.lt (by decide) _
   have hadd := add64_run o 0 c _ 0 _ rfl rfl rfl hc
   rw [Nat.add_zero] at hadd
   obtain ⟨o', eo'⟩ : ∃ z, (o + c) % B64 = z := ⟨_, rfl⟩
   obtain ⟨c', ec'⟩ : ∃ z, (o + c) / B64 = z := ⟨_, rfl⟩
   have hsd := add_digits eo' ec'
   have hc' : c' ≤ 1 := ec' ▸ (by have := carry_le (x := o) (y := 0) HOB.out B64_pos hc; rwa [Nat.add_zero] at this)
   rw [eo', ec'] at hadd
   have HSD := Lib.hid hsd
   have HO' : Hid (o' < B64) := eo' ▸ Nat.mod_lt _ B64_pos
   clear eo eo' ec' hsd
   have hfin : ((((c' : Nat) : Int) != 0) = decide (c' ≠ 0)) := by rw [Bool.eq_iff_iff]; simp
   have HF := Lib.hid hfin
   clear hfin
   go_wp2
   go_ret
   exact ⟨L'.set (j + Y.length) o', c', by rw [← HF.out]; rfl, hc', ⟨HIN.out.but.set _ _, by rw [← wv_set]; exact HIN.out.own.set _ _, by rw [set_length]; exact HLEN.out, set_lt HIN.out.lt _ _ HO'.out, fun p hp => by rw [lset_ne (by omega)]; exact HIN.out.same p hp⟩, by have h := HV.out; rw [List.take_of_length_le (Nat.le_refl _)] at h; exact more_fin (by rw [HLEN.out]; omega) Eo.out h HSD.out⟩
end Go.Proofs.YtadpjidakippeaaGreat

/- Division digit by digit: plain lemmas. -/
namespace Go.Proofs.YtadpjidakippeaaGreat
theorem hi_zero {b k p : Nat} {l : List Nat} (hb : 0 < b) (h : vl b l < b ^ k) (hp : k ≤ p) : l.getD p 0 = 0 := by
 rcases Nat.lt_or_ge p l.length with hl | hl
 ·
  have h1 := vl_at b l p hl
  rcases Nat.eq_zero_or_pos (l.getD p 0) with h0 | h0
  · exact h0
  ·
   have h2 : b ^ k ≤ b ^ p := Nat.pow_le_pow_right hb hp
   have h3 : b ^ p * 1 ≤ b ^ p * (l.getD p 0 + b * vl b (l.drop (p + 1))) := Nat.mul_le_mul_left _ (by omega)
   omega
 · rw [List.getD_eq_getElem?_getD, List.getElem?_eq_none hl]; rfl
theorem vl_top2 (b : Nat) (l : List Nat) (k : Nat) : vl b (l.take (k + 2)) = vl b (l.take k) + b ^ k * (l.getD k 0 + b * l.getD (k + 1) 0) := by
 rw [vl_take_succ, vl_take_succ, Nat.pow_succ]; grind
theorem vl_top3 (b : Nat) (l : List Nat) (k : Nat) : vl b (l.take (k + 3)) = vl b (l.take k) + b ^ k * (l.getD k 0 + b * (l.getD (k + 1) 0 + b * l.getD (k + 2) 0)) := by
 rw [vl_take_succ, vl_top2, Nat.pow_succ, Nat.pow_succ]; grind
theorem vl_take_of_hi {b k : Nat} {l : List Nat} (hb : 0 < b) (hd : ∀ x ∈ l, x < b) (h : vl b l < b ^ k) : vl b (l.take k) = vl b l := by
 rcases Nat.lt_or_ge k l.length with hl | hl
 ·
  have h1 := vl_take b l k
  rw [Nat.min_eq_left (by omega)] at h1
  rcases Nat.eq_zero_or_pos (vl b (l.drop k)) with h0 | h0
  · rw [h0] at h1; omega
  ·
   have : b ^ k * 1 ≤ b ^ k * vl b (l.drop k) := Nat.mul_le_mul_left _ h0
   omega
 · rw [List.take_of_length_le hl]
theorem guess_ok {B j N Q V a b c v w : Nat} {L Y : List Nat} (hB : 0 < B) (hL : ∀ x ∈ L, x < B) (hV : vl B Y = V) (hn : Y.length = N + 2) (hlt : vl B L < B ^ (j + N + 3)) (hQ : Q * V * B ^ j ≤ vl B L)
  (ha : L.getD (j + N + 2) 0 = a) (hb : L.getD (j + N + 1) 0 = b) (hc : L.getD (j + N) 0 = c) (hv : Y.getD (N + 1) 0 = v) (hw : Y.getD N 0 = w) : Q * (v * B + w) ≤ (a * B + b) * B + c := by
 have h1 := vl_take_of_hi hB hL hlt
 rw [show j + N + 3 = (j + N) + 3 from rfl, vl_top3] at h1
 have h2 := vl_lt B (L.take (j + N)) (fun x hx => hL x (List.mem_of_mem_take hx))
 have h2' : vl B (L.take (j + N)) < B ^ (j + N) := Nat.lt_of_lt_of_le h2 (Nat.pow_le_pow_right hB (by rw [List.length_take]; exact Nat.min_le_left _ _))
 have h3 := vl_top2 B Y N
 rw [← hn, List.take_of_length_le (Nat.le_refl _), hV, hv, hw] at h3
 rw [hc, show j + N + 1 = j + N + 1 from rfl, hb, ha] at h1
 have h4 : Q * (v * B + w) * B ^ (j + N) ≤ vl B L := by
  refine Nat.le_trans ?_ hQ
  rw [Nat.pow_add]
  have : B ^ N * (w + B * v) ≤ V := by omega
  have h5 := Nat.mul_le_mul_left (Q * B ^ j) this
  have e1 : Q * B ^ j * (B ^ N * (w + B * v)) = Q * (v * B + w) * (B ^ j * B ^ N) := by grind
  have e2 : Q * B ^ j * V = Q * V * B ^ j := by grind
  omega
 have h6 : vl B L < ((a * B + b) * B + c + 1) * B ^ (j + N) := by
  rw [← h1]
  have e : ((a * B + b) * B + c + 1) * B ^ (j + N) = B ^ (j + N) * (c + B * (b + B * a)) + B ^ (j + N) := by grind
  omega
 have h7 := Nat.lt_of_mul_lt_mul_right (Nat.lt_of_le_of_lt h4 h6)
 omega
theorem lead_norm {x : Nat} (h0 : 0 < x) (hx : x < B64) : 2 ^ (64 - bl x) * (x + 1) ≤ B64 ∧ 9223372036854775808 ≤ 2 ^ (64 - bl x) * x := by
 have h := shl_norm h0 (by rw [← B64_pow]; exact hx)
 have hb : bl x ≤ 64 := bl_le_of_lt (by rw [← B64_pow]; exact hx)
 have h1 := bl_lt x
 constructor
 ·
  have := Nat.mul_le_mul_left (2 ^ (64 - bl x)) (show x + 1 ≤ 2 ^ bl x from h1)
  rw [← Nat.pow_add, show 64 - bl x + bl x = 64 by omega] at this
  exact this
 · rw [Nat.mul_comm]; exact h.1
/-- The divisor, moved up, fits into its words. -/
theorem div_fit {b S top n : Nat} {Y : List Nat} (hd : ∀ x ∈ Y, x < b) (hn : Y.length = n + 1) (ht : Y.getD n 0 = top) (h : S * (top + 1) ≤ b) : S * vl b Y < b ^ (n + 1) ∧ S * top * b ^ n ≤ S * vl b Y := by
 have h1 := vl_take_succ b Y n
 rw [List.take_of_length_le (by omega), ht] at h1
 have h2 := vl_lt b (Y.take n) (fun x hx => hd x (List.mem_of_mem_take hx))
 rw [List.length_take, Nat.min_eq_left (by omega)] at h2
 rcases Nat.eq_zero_or_pos S with rfl | hS
 ·
  constructor
  ·
   rw [Nat.zero_mul]
   refine Nat.pow_pos ?_
   exact Nat.lt_of_le_of_lt (Nat.zero_le _) (hd (Y[n]'(by omega)) (List.getElem_mem _))
  · simp
 ·
  constructor
  ·
   have h3 : S * vl b Y < S * ((top + 1) * b ^ n) := Nat.mul_lt_mul_of_pos_left (by rw [h1, Nat.add_mul, Nat.one_mul, Nat.mul_comm top]; omega) hS
   have h4 := Nat.mul_le_mul_right (b ^ n) h
   rw [Nat.pow_succ, Nat.mul_comm (b ^ n) b]
   rw [Nat.mul_assoc] at h4
   omega
  ·
   rw [h1, Nat.mul_add, ← Nat.mul_assoc, Nat.mul_right_comm S]
   have : S * b ^ n * top ≤ S * vl b (Y.take n) + S * b ^ n * top := Nat.le_add_left _ _
   exact this
theorem c_zero {b n c x y : Nat} (h : x + b ^ n * c = y) (hy : y < b ^ n) : c = 0 ∧ x = y := by
 rcases Nat.eq_zero_or_pos c with rfl | hc
 · simp at h; exact ⟨rfl, h⟩
 ·
  have : b ^ n * 1 ≤ b ^ n * c := Nat.mul_le_mul_left _ hc
  omega
theorem long_fin {S X Y q r : Nat} (hS : 0 < S) (h : S * X = S * Y * q + r) (hr : r < S * Y) : X / Y = q ∧ X % Y = r / S := by
 have hY : 0 < Y := by
  rcases Nat.eq_zero_or_pos Y with rfl | h
  · simp at hr
  · exact h
 have h1 : r % S = 0 := by
  have : (S * Y * q + r) % S = 0 := by rw [← h]; exact Nat.mul_mod_right _ _
  rwa [Nat.mul_assoc, Nat.mul_add_mod] at this
 obtain ⟨R, rfl⟩ := Nat.dvd_of_mod_eq_zero h1
 have h2 : X = Y * q + R := by
  rw [Nat.mul_assoc, ← Nat.mul_add] at h
  exact Nat.eq_of_mul_eq_mul_left hS h
 have h3 : R < Y := Nat.lt_of_mul_lt_mul_left hr
 rw [Nat.mul_div_cancel_left _ hS, h2, Nat.mul_add_div hY, Nat.mul_add_mod, Nat.div_eq_of_lt h3, Nat.mod_eq_of_lt h3]
 exact ⟨by omega, rfl⟩
theorem long_start {s m N top V XV : Nat} {X : List Nat} (hs : s ≤ 63) (hd : ∀ x ∈ X, x < B64) (hm : N + 2 ≤ X.length) (hX : m = X.length) (hXV : XV = 2 ^ s * vl B64 X) (ht : 9223372036854775808 ≤ 2 ^ s * top) (hV : 2 ^ s * top * B64 ^ (N + 1) ≤ V) :
  XV < V * B64 ^ (m - (N + 2) + 1) := by
 have h1 := vl_lt B64 X hd
 rw [← hX] at h1 hm
 have hp : 0 < 2 ^ s := Nat.pow_pos (by omega)
 have h2 : 2 ^ s * vl B64 X < 2 ^ s * B64 ^ m := Nat.mul_lt_mul_of_pos_left h1 hp
 have h3 : 2 ^ s ≤ 2 ^ 63 := Nat.pow_le_pow_right (by omega) hs
 have h4 : 2 ^ s * B64 ^ m ≤ 2 ^ s * top * B64 ^ m := Nat.mul_le_mul_right _ (Nat.le_trans h3 ht)
 have h5 := Nat.mul_le_mul_right (B64 ^ (m - (N + 2) + 1)) hV
 rw [Nat.mul_assoc, ← Nat.pow_add, show N + 1 + (m - (N + 2) + 1) = m by omega] at h5
 rw [hXV]
 omega
theorem shl_fit {s m : Nat} {X : List Nat} (hs : s ≤ 63) (hd : ∀ x ∈ X, x < B64) (hX : X.length = m) : 2 ^ s * vl B64 X < B64 ^ (m + 1) := by
 have h1 := vl_lt B64 X hd
 rw [hX] at h1
 have h3 : 2 ^ s < B64 := by rw [B64_pow]; exact Nat.pow_lt_pow_right (by omega) (by omega)
 rw [Nat.pow_succ, Nat.mul_comm (B64 ^ m)]
 exact Nat.mul_lt_mul'' h3 h1
theorem long_round {b j V XV d vL vL' : Nat} {Lq : List Nat} (hj : j < Lq.length) (h : XV = V * (b ^ (j + 1) * vl b (Lq.drop (j + 1))) + vL) (hv : vL' + b ^ j * (d * V) = vL) :
  XV = V * (b ^ j * vl b ((Lq.set j d).drop j)) + vL' := by
 have e : (Lq.set j d).drop j = d :: Lq.drop (j + 1) := by
  rw [List.drop_eq_getElem_cons (by simpa using hj)]
  simp [List.drop_set_of_lt]
 rw [e]
 simp only [vl]
 rw [h, ← hv, Nat.pow_succ]
 grind
/-- No borrow: the digit is right. -/
theorem long_done {b j d Q V vL vL' : Nat} (hV : 0 < V * b ^ j) (hQ : Q = vL / (V * b ^ j)) (hd : Q ≤ d) (h : vL' + b ^ j * (d * V) = vL) : d = Q ∧ vL' < V * b ^ j := by
 have h1 : d * (V * b ^ j) ≤ vL := by rw [← h, show d * (V * b ^ j) = b ^ j * (d * V) by grind]; exact Nat.le_add_left _ _
 have h2 : d ≤ Q := by rw [hQ, Nat.le_div_iff_mul_le hV]; exact h1
 have h3 : d = Q := by omega
 refine ⟨h3, ?_⟩
 have h4 := Nat.div_add_mod vL (V * b ^ j)
 have h5 := Nat.mod_lt vL hV
 rw [← hQ, ← h3, show V * b ^ j * d = b ^ j * (d * V) by grind] at h4
 omega
/-- A borrow: the digit is too great. -/
theorem long_more {b j n d Q V vL vL' : Nat} (hV : 0 < V * b ^ j) (hQ : Q = vL / (V * b ^ j)) (h : vL' + b ^ j * (d * V) = vL + b ^ (j + n + 1)) (hlt : vL' < b ^ (j + n + 1)) : Q + 1 ≤ d := by
 rcases Nat.lt_or_ge Q d with h1 | h1
 · exact h1
 ·
  exfalso
  have h2 : d * (V * b ^ j) ≤ vL := by
   have := Nat.mul_le_mul_right (V * b ^ j) h1
   have h3 := Nat.div_mul_le_self vL (V * b ^ j)
   rw [← hQ] at h3
   omega
  rw [show d * (V * b ^ j) = b ^ j * (d * V) by grind] at h2
  omega
theorem long_add {b j n d V vL vL' vL'' c : Nat} (h : vL' + b ^ j * (d * V) = vL + b ^ (j + n + 1) * 1) (h2 : vL'' + b ^ (j + n + 1) * c = vL' + b ^ j * V) (hd : 0 < d) (hc : c ≤ 1) : vL'' + b ^ j * ((d - 1) * V) = vL + b ^ (j + n + 1) * (1 - c) := by
 obtain ⟨e, rfl⟩ : ∃ e, d = e + 1 := ⟨d - 1, by omega⟩
 rw [Nat.add_sub_cancel]
 rw [Nat.add_mul, Nat.one_mul, Nat.mul_add] at h
 have hc' : c = 0 ∨ c = 1 := by omega
 rcases hc' with rfl | rfl
 · simp at *; omega
 · simp at *; omega
/-- The words above stay 0. -/
theorem lt_of_same {b k : Nat} {l m : List Nat} (hb : 0 < b) (hl : vl b l < b ^ k) (hd : ∀ x ∈ m, x < b) (hs : ∀ p, k ≤ p → m.getD p 0 = l.getD p 0) : vl b m < b ^ k := by
 have hz : ∀ p, k ≤ p → m.getD p 0 = 0 := fun p hp => (hs p hp).trans (hi_zero hb hl hp)
 rcases Nat.lt_or_ge k m.length with hk | hk
 ·
  have h1 := vl_take b m k
  rw [Nat.min_eq_left (by omega)] at h1
  have h2 : vl b (m.drop k) = 0 := by
   have : m.drop k = List.replicate (m.length - k) 0 := by
    apply List.ext_getElem
    · simp
    ·
     intro i h1 h2
     have := hz (k + i) (by omega)
     rw [List.getD_eq_getElem?_getD, List.getElem?_eq_getElem (by simp at h1; omega)] at this
     simpa using this
   rw [this, vl_zeros]
  rw [h2] at h1
  have h3 := vl_lt b (m.take k) (fun x hx => hd x (List.mem_of_mem_take hx))
  rw [List.length_take, Nat.min_eq_left (by omega)] at h3
  omega
 · exact Nat.lt_of_lt_of_le (vl_lt b m hd) (Nat.pow_le_pow_right hb hk)
theorem bl_top {m x : Nat} {l : List Nat} (hd : ∀ y ∈ l, y < B64) (hn : Norm l) (hm : l.length = m + 1) (hx : l.getD m 0 = x) : bl (vl B64 l) = 64 * m + bl x := by
 have h1 := vl_take_succ B64 l m
 rw [List.take_of_length_le (by omega), hx] at h1
 have h2 := vl_lt B64 (l.take m) (fun y hy => hd y (List.mem_of_mem_take hy))
 rw [List.length_take, Nat.min_eq_left (by omega)] at h2
 have hx0 : 0 < x := by
  rcases Nat.eq_zero_or_pos x with h0 | h0
  ·
   exfalso
   refine hn ?_
   rw [List.getLast?_eq_getElem?, hm, Nat.add_sub_cancel, List.getElem?_eq_getElem (by omega)]
   rw [List.getD_eq_getElem?_getD, List.getElem?_eq_getElem (by omega)] at hx
   simp only [Option.getD_some] at hx
   rw [hx, h0]
  · exact h0
 have hb := bl_lt x
 have hg := bl_ge (n := x) (by omega)
 have hp : 0 < bl x := bl_pos.2 (by omega)
 have e : B64 ^ m = 2 ^ (64 * m) := by rw [B64_pow, ← Nat.pow_mul]
 rw [e] at h1 h2
 refine bl_unique ?_ ?_ (by omega)
 ·
  rw [Nat.pow_add]
  have := Nat.mul_le_mul_left (2 ^ (64 * m)) (show x + 1 ≤ 2 ^ bl x from hb)
  rw [Nat.mul_add, Nat.mul_one] at this
  omega
 ·
  rw [show 64 * m + bl x - 1 = 64 * m + (bl x - 1) by omega, Nat.pow_add]
  have := Nat.mul_le_mul_left (2 ^ (64 * m)) hg
  omega
end Go.Proofs.YtadpjidakippeaaGreat
