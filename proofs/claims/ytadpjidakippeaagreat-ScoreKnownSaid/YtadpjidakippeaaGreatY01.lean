/- Numbers as lists of digits, and what it is for a value to stand for a number: plain lemmas, no program. -/
import Derived.WalkKit
import Derived.KernelRfl
import Derived.Below
import Derived.Deep.Draws
import Derived.Lib.Hide
import Derived.Test.YtadpjidakippeaaGreatProg
import Derived.Lib.Mul64
import Derived.Laws.Bits64b
import Derived.Laws.Externs
import Derived.Outline
import Derived.Deep.QuietTactic
import Derived.BigQuiet
import Derived.Lib.Strings
import Derived.Lib.Slices
import Derived.Lib.Small
import Derived.Lib.Walk
import Derived.Lib.BitFns
import Derived.Deep.Light
set_option linter.unusedVariables false
set_option linter.unusedSimpArgs false
namespace Go.Proofs.YtadpjidakippeaaGreat
open Go.RowKit
theorem gL : (∀ (xs : List Oper) (i : Nat) (h : i < xs.toArray.size), xs.toArray[i] = xs[i]'(by simpa using h)) ∧ (∀ (a : Oper) (l : List Oper) (h : 0 < (a :: l).length), (a :: l)[0] = a) ∧ (∀ (a : Oper) (l : List Oper) (i : Nat) (h : i + 1 < (a :: l).length), (a :: l)[i + 1] = l[i]'(by simpa using h)) ∧
    (∀ (xs : List Value) (i : Nat) (v : Value), xs.toArray.setIfInBounds i v = (xs.set i v).toArray) ∧ (∀ (a v : Value) (l : List Value), (a :: l).set 0 v = v :: l) ∧ (∀ (a v : Value) (l : List Value) (i : Nat), (a :: l).set (i + 1) v = a :: l.set i v) :=
  ⟨fun xs i h => by simp, fun _ _ _ => rfl, fun _ _ _ _ => rfl, fun xs i v => by simp, fun _ _ _ => rfl, fun _ _ _ _ => rfl⟩
theorem nT {a b c : World} (h : Below a.heap.size a b) (k : Below b.heap.size b c) : Below a.heap.size a c := Below.trans h (Below.mono k h.size)
theorem nB1 (n : Nat) (w : World) : Below n w w := Below.refl n w
theorem nB2 {n : Nat} {a b : World} (h : Below n a b) : Below n a b.drew := Below.drew h
theorem nB3 {n : Nat} {a b : World} (h : Below n a b) (k : n ≤ b.heap.size) (o : Obj) : Below n a (b.alloc o) := Below.alloc h k o
theorem nB4 {n : Nat} {a b : World} (h : Below n a b) {p : Addr} (k : n ≤ p.block) (v : Value) : Below n a (b.setCell p v) := Below.setCell h k v
theorem nB5 {n m : Nat} {a b c : World} (h : Below n a b) (k : Below m b c) (l : n ≤ m) : Below n a c := Below.trans h (Below.mono k l)
theorem nC (w : World) (a b : Addr) (v : Value) (h : a ≠ b) : (w.setCell a v).cell? b = w.cell? b := World.cell?_setCell_other w a b v h

/-! ### digits -/
def vl (b : Nat) : List Nat → Nat
 | [] => 0
 | x :: l => x + b * vl b l
def Norm (l : List Nat) : Prop := l.getLast? ≠ some 0
theorem vl_append (b : Nat) (l m : List Nat) : vl b (l ++ m) = vl b l + b ^ l.length * vl b m := by
 induction l with
 | nil => simp [vl]
 | cons x l ih => simp only [List.cons_append, vl, ih, List.length_cons, Nat.pow_succ]; grind
theorem vl_lt (b : Nat) (l : List Nat) (h : ∀ x ∈ l, x < b) : vl b l < b ^ l.length := by
 induction l with
 | nil => simp [vl]
 | cons x l ih =>
  have h1 := ih (fun y hy => h y (List.mem_cons_of_mem _ hy))
  have h2 := h x (List.mem_cons_self ..)
  simp only [vl, List.length_cons, Nat.pow_succ]
  have : b * (vl b l + 1) ≤ b * b ^ l.length := Nat.mul_le_mul_left _ h1
  rw [Nat.mul_add] at this
  rw [Nat.mul_comm (b ^ l.length) b]
  omega
theorem vl_zeros (b n : Nat) : vl b (List.replicate n 0) = 0 := by
 induction n with
 | zero => rfl
 | succ n ih => simp [List.replicate_succ, vl, ih]
theorem vl_snoc (b : Nat) (l : List Nat) (x : Nat) : vl b (l ++ [x]) = vl b l + b ^ l.length * x := by
 rw [vl_append]; simp [vl]
theorem vl_ge (b : Nat) (l : List Nat) (hn : Norm l) (h : l ≠ []) : b ^ (l.length - 1) ≤ vl b l := by
 obtain ⟨m, x, rfl⟩ : ∃ m x, l = m ++ [x] := ⟨l.dropLast, l.getLast h, (List.dropLast_concat_getLast h).symm⟩
 have hx : x ≠ 0 := by
  intro e; subst e
  exact hn (by simp)
 rw [vl_snoc]
 simp only [List.length_append, List.length_cons, List.length_nil, Nat.add_sub_cancel]
 have : b ^ m.length * 1 ≤ b ^ m.length * x := Nat.mul_le_mul_left _ (by omega)
 omega
theorem vl_inj (b : Nat) : ∀ (l m : List Nat), (∀ x ∈ l, x < b) → (∀ x ∈ m, x < b) → l.length = m.length → vl b l = vl b m → l = m
 | [], [], _, _, _, _ => rfl
 | [], _ :: _, _, _, h, _ => by simp at h
 | _ :: _, [], _, _, h, _ => by simp at h
 | x :: l, y :: m, hl, hm, h, e => by
  have hx := hl x (List.mem_cons_self ..)
  have hy := hm y (List.mem_cons_self ..)
  simp only [vl] at e
  have hxy : x = y := by
   have h1 : (x + b * vl b l) % b = x := by rw [Nat.add_mul_mod_self_left]; exact Nat.mod_eq_of_lt hx
   have h2 : (y + b * vl b m) % b = y := by rw [Nat.add_mul_mod_self_left]; exact Nat.mod_eq_of_lt hy
   rw [← h1, ← h2, e]
  subst hxy
  have hb : 0 < b := by omega
  have he : vl b l = vl b m := Nat.eq_of_mul_eq_mul_left hb (by omega)
  rw [vl_inj b l m (fun z hz => hl z (List.mem_cons_of_mem _ hz)) (fun z hz => hm z (List.mem_cons_of_mem _ hz)) (by simpa using h) he]
theorem vl_set (b : Nat) (l : List Nat) (i x : Nat) (h : i < l.length) : vl b (l.set i x) + b ^ i * l.getD i 0 = vl b l + b ^ i * x := by
 induction l generalizing i with
 | nil => simp at h
 | cons y l ih =>
  cases i with
  | zero => simp [vl]; omega
  | succ i =>
   have := ih i (by simpa using h)
   simp only [List.set_cons_succ, vl, List.getD_cons_succ, Nat.pow_succ]
   have e : b * (vl b (l.set i x) + b ^ i * l.getD i 0) = b * (vl b l + b ^ i * x) := by rw [this]
   grind
theorem vl_take (b : Nat) (l : List Nat) (k : Nat) : vl b l = vl b (l.take k) + b ^ (min k l.length) * vl b (l.drop k) := by
 conv => lhs; rw [← List.take_append_drop k l]
 rw [vl_append, List.length_take]
theorem getD_lt {b : Nat} {l : List Nat} (h : ∀ x ∈ l, x < b) (hb : 0 < b) (i : Nat) : l.getD i 0 < b := by
 rw [List.getD_eq_getElem?_getD]
 rcases Nat.lt_or_ge i l.length with hi | hi
 · rw [List.getElem?_eq_getElem hi]; exact h _ (List.getElem_mem hi)
 · rw [List.getElem?_eq_none hi]; exact hb
theorem take_snoc (l : List Nat) (k : Nat) (h : k < l.length) : l.take (k + 1) = l.take k ++ [l.getD k 0] := by
 rw [List.take_succ_eq_append_getElem h, List.getD_eq_getElem?_getD, List.getElem?_eq_getElem h]; rfl
theorem vl_take_succ (b : Nat) (l : List Nat) (k : Nat) : vl b (l.take (k + 1)) = vl b (l.take k) + b ^ k * l.getD k 0 := by
 rcases Nat.lt_or_ge k l.length with h | h
 · rw [take_snoc l k h, vl_snoc, List.length_take, Nat.min_eq_left (by omega)]
 · rw [List.take_of_length_le (by omega), List.take_of_length_le h, List.getD_eq_getElem?_getD, List.getElem?_eq_none h]; simp

/-! ### comparing -/
def cmpI (a b : Nat) : Int := if a < b then -1 else if a = b then 0 else 1
theorem cmpI_lt {a b : Nat} (h : a < b) : cmpI a b = -1 := by simp [cmpI, h]
theorem cmpI_eq {a b : Nat} (h : a = b) : cmpI a b = 0 := by simp [cmpI, h]
theorem cmpI_gt {a b : Nat} (h : b < a) : cmpI a b = 1 := by simp [cmpI]; omega
theorem vl_at (b : Nat) (l : List Nat) (k : Nat) (h : k < l.length) : vl b l = vl b (l.take k) + b ^ k * (l.getD k 0 + b * vl b (l.drop (k + 1))) := by
 rw [vl_take b l k, Nat.min_eq_left (by omega), List.drop_eq_getElem_cons h]
 simp [vl, List.getD_eq_getElem?_getD, h]
theorem vl_lt_at {b : Nat} {l m : List Nat} {k : Nat} (hl : ∀ x ∈ l, x < b) (h1 : k < l.length) (h2 : k < m.length) (hd : l.drop (k + 1) = m.drop (k + 1)) (hx : l.getD k 0 < m.getD k 0) : vl b l < vl b m := by
 rw [vl_at b l k h1, vl_at b m k h2, hd]
 have h3 := vl_lt b (l.take k) (fun x hx => hl x (List.mem_of_mem_take hx))
 rw [List.length_take, Nat.min_eq_left (by omega)] at h3
 have h4 : b ^ k * (l.getD k 0 + b * vl b (m.drop (k + 1)) + 1) ≤ b ^ k * (m.getD k 0 + b * vl b (m.drop (k + 1))) := Nat.mul_le_mul_left _ (by omega)
 rw [Nat.mul_add, Nat.mul_one] at h4
 omega
theorem drop_eq_of {l m : List Nat} {k : Nat} (h1 : k < l.length) (h2 : k < m.length) (hd : l.drop (k + 1) = m.drop (k + 1)) (hx : l.getD k 0 = m.getD k 0) : l.drop k = m.drop k := by
 rw [List.drop_eq_getElem_cons h1, List.drop_eq_getElem_cons h2, hd]
 simp [List.getD_eq_getElem?_getD, h1, h2] at hx
 rw [hx]
theorem vl_lt_len {b : Nat} (hb : 0 < b) {l m : List Nat} (hl : ∀ x ∈ l, x < b) (hm : Norm m) (h : l.length < m.length) : vl b l < vl b m := by
 have hne : m ≠ [] := by intro e; rw [e] at h; simp at h
 have h1 := vl_lt b l hl
 have h2 := vl_ge b m hm hne
 have h3 : b ^ l.length ≤ b ^ (m.length - 1) := Nat.pow_le_pow_right hb (by omega)
 omega

/-! ### how many bits -/
def bl (n : Nat) : Nat := if n = 0 then 0 else n.log2 + 1
theorem bl_zero : bl 0 = 0 := rfl
theorem bl_lt (n : Nat) : n < 2 ^ bl n := by
 unfold bl
 split
 · subst_vars; simp
 · exact Nat.lt_log2_self
theorem bl_le_of_lt {n k : Nat} (h : n < 2 ^ k) : bl n ≤ k := by
 unfold bl
 split
 · exact Nat.zero_le _
 ·
  rename_i h0
  exact (Nat.log2_lt h0).2 h
theorem bl_ge {n : Nat} (h : n ≠ 0) : 2 ^ (bl n - 1) ≤ n := by
 unfold bl
 rw [if_neg h]
 exact Nat.log2_self_le h
theorem bl_mono {a b : Nat} (h : a ≤ b) : bl a ≤ bl b := bl_le_of_lt (Nat.lt_of_le_of_lt h (bl_lt b))
theorem bl_pos {n : Nat} : 0 < bl n ↔ n ≠ 0 := by
 unfold bl
 split <;> simp_all
theorem bl_mul (a b : Nat) : bl (a * b) ≤ bl a + bl b := by
 rcases Nat.eq_zero_or_pos a with rfl | ha
 · simp [bl_zero]
 rcases Nat.eq_zero_or_pos b with rfl | hb
 · simp [bl_zero]
 refine bl_le_of_lt ?_
 rw [Nat.pow_add]
 exact Nat.mul_lt_mul'' (bl_lt a) (bl_lt b)
theorem bl_add (a b : Nat) : bl (a + b) ≤ max (bl a) (bl b) + 1 := by
 refine bl_le_of_lt ?_
 rw [Nat.pow_succ]
 have h1 : 2 ^ bl a ≤ 2 ^ max (bl a) (bl b) := Nat.pow_le_pow_right (by omega) (Nat.le_max_left _ _)
 have h2 : 2 ^ bl b ≤ 2 ^ max (bl a) (bl b) := Nat.pow_le_pow_right (by omega) (Nat.le_max_right _ _)
 have := bl_lt a
 have := bl_lt b
 omega
theorem bl_unique {n k : Nat} (h : n < 2 ^ k) (h1 : 2 ^ (k - 1) ≤ n) (hk : 0 < k) : bl n = k := by
 have a := bl_le_of_lt h
 have hn : n ≠ 0 := by
  have : 0 < 2 ^ (k - 1) := Nat.pow_pos (by omega)
  omega
 rcases Nat.lt_or_ge (bl n) k with hlt | hge
 ·
  have h2 := bl_lt n
  have h3 : 2 ^ bl n ≤ 2 ^ (k - 1) := Nat.pow_le_pow_right (by omega) (by omega)
  omega
 · omega
theorem vl_length {s : Nat} (hs : 0 < s) {l : List Nat} (hn : Norm l) : (l.length - 1) * s < bl (vl (2 ^ s) l) ∨ l = [] := by
 by_cases h : l = []
 · exact .inr h
 ·
  refine .inl ?_
  have h1 := vl_ge (2 ^ s) l hn h
  rw [← Nat.pow_mul] at h1
  have h2 := bl_lt (vl (2 ^ s) l)
  have h3 : 2 ^ (s * (l.length - 1)) < 2 ^ bl (vl (2 ^ s) l) := Nat.lt_of_le_of_lt h1 h2
  have h4 := (Nat.pow_lt_pow_iff_right (by omega : 1 < 2)).1 h3
  rw [Nat.mul_comm]; exact h4
end Go.Proofs.YtadpjidakippeaaGreat

/- What it is for a value in memory to stand for a number, a list of numbers; how calls are told. No program. -/
namespace Go.Proofs.YtadpjidakippeaaGreat
open Go.RowKit

/-- A call returns a value, leaves old memory as it was, and the value is so in the world behind it. -/
def Post (w : World) (Φ : Value → World → Prop) (e : Ending) (w' : World) : Prop := ∃ v, e = .returned v ∧ Below w.heap.size w w' ∧ Φ v w'
theorem Post.mono {w : World} {Φ Ψ : Value → World → Prop} {e : Ending} {w' : World} (h : Post w Φ e w') (hm : ∀ v, Φ v w' → Ψ v w') : Post w Ψ e w' := by
 obtain ⟨v, he, hb, hv⟩ := h
 exact ⟨v, he, hb, hm v hv⟩
abbrev Ext (w w' : World) : Prop := Below w.heap.size w w'
theorem Ext.trans {a b c : World} (h : Ext a b) (k : Ext b c) : Ext a c := Below.trans h (Below.mono k h.size)
theorem bcell {W w1 : World} {B : Nat} (hb : Below B W w1) : (∀ b o, b < B → w1.cell? ⟨b, o, none⟩ = W.cell? ⟨b, o, none⟩) ∧ (∀ b o, b < B → w1.frozen? ⟨b, o, none⟩ = W.frozen? ⟨b, o, none⟩) :=
 ⟨fun b o h => hb.cell (p := ⟨b, o, none⟩) h, fun b o h => hb.frozen (p := ⟨b, o, none⟩) h⟩
theorem sz_lt {B a : Nat} {W w1 : World} (h : Below B W w1) (ha : a < W.heap.size) : a < w1.heap.size := Nat.lt_of_lt_of_le ha h.size
theorem ext_cell {w w1 : World} (h : Ext w w1) {a : Addr} {v : Value} (hc : w.cell? a = some v) : w1.cell? a = some v := (h.cell (World.block_lt_of_cell? w a hc)).trans hc

theorem pw_below_drewN {B : Nat} {w W : World} (h : Below B w W) (n : Nat) : Below B w (W.drewN n) := ⟨h.os, h.tape, h.output, h.size, h.block⟩

theorem tup2 {k k' : IntKind} {a a' b b' : Int} (h1 : a = a') (h2 : b = b') : Value.tuple #[.int k a, .int k' b] = .tuple #[.int k a', .int k' b'] := by rw [h1, h2]
theorem vint {k : IntKind} {a b : Int} (h : a = b) : Value.int k a = .int k b := by rw [h]
theorem ret_int {k : IntKind} {a b : Int} (h : a = b) : Ending.returned (.int k a) = .returned (.int k b) := by rw [h]

/-! ### words in memory -/
def Words (k : IntKind) (b : Nat) (w : World) (A : Option Addr) (c : Nat) (l : List Nat) : Prop :=
 l.length ≤ c ∧ (∀ x ∈ l, x < b) ∧ (l ≠ [] → ∃ g o, A = some ⟨g, o, none⟩ ∧ ∀ j, j < l.length → w.cell? ⟨g, o + j, none⟩ = some (.int k (l.getD j 0 : Nat)))
theorem Words.ext {k : IntKind} {b : Nat} {w w' : World} {A : Option Addr} {c : Nat} {l : List Nat} (h : Words k b w A c l) (he : Ext w w') : Words k b w' A c l :=
 ⟨h.1, h.2.1, fun hl => by
  obtain ⟨g, o, hA, hc⟩ := h.2.2 hl
  exact ⟨g, o, hA, fun j hj => ext_cell he (hc j hj)⟩⟩
theorem Words.take {k : IntKind} {b : Nat} {w : World} {A : Option Addr} {c : Nat} {l : List Nat} (h : Words k b w A c l) (n : Nat) : Words k b w A c (l.take n) :=
 ⟨Nat.le_trans (by simp; omega) h.1, fun x hx => h.2.1 x (List.mem_of_mem_take hx), fun hl => by
  have hl' : l ≠ [] := fun e => hl (by rw [e]; simp)
  obtain ⟨g, o, hA, hc⟩ := h.2.2 hl'
  refine ⟨g, o, hA, fun j hj => ?_⟩
  rw [List.length_take] at hj
  rw [hc j (by omega)]
  simp [List.getD_eq_getElem?_getD, List.getElem?_take, show j < n by omega]⟩
theorem Words.nil (k : IntKind) (b : Nat) (w : World) (A : Option Addr) (c : Nat) : Words k b w A c [] := ⟨Nat.zero_le _, by simp, fun h => absurd rfl h⟩

/-- A store into a cell that holds no whole number touches no word. -/
def noInt : Value → Bool
 | .int .. => false
 | _ => true
theorem Words.set {k : IntKind} {b : Nat} {w : World} {A : Option Addr} {c : Nat} {l : List Nat} (h : Words k b w A c l) {a : Addr} {u v : Value} (hc : w.cell? a = some u) (hu : noInt u = true) : Words k b (w.setCell a v) A c l :=
 ⟨h.1, h.2.1, fun hl => by
  obtain ⟨g, o, hA, hcl⟩ := h.2.2 hl
  refine ⟨g, o, hA, fun j hj => ?_⟩
  rw [nC w a _ v, hcl j hj]
  intro e
  rw [e, hcl j hj] at hc
  injection hc with hc
  rw [← hc] at hu
  simp [noInt] at hu⟩
theorem i64w {n : Int} (h0 : -9223372036854775808 ≤ n) (h1 : n ≤ 9223372036854775807) : IntKind.i64.wrap n = n := by rw [IntKind.wrap_i64]; omega
/-- A word's bits. -/
def B64 : Nat := 18446744073709551616
def B32 : Nat := 4294967296
theorem B64_eq : B64 = 18446744073709551616 := rfl
theorem B64_pow : B64 = 2 ^ 64 := rfl
theorem B64_pos : 0 < B64 := by decide
theorem B32_pos : 0 < B32 := by decide
theorem B32_eq : B32 = 4294967296 := rfl
theorem B32_pow : B32 = 2 ^ 32 := rfl

/-- nat.Nat -/
def rNat (w : World) (v : Value) (n : Nat) : Prop := ∃ A c l, v = .agg #[.slice A l.length c] ∧ Words .u64 B64 w A c l ∧ Norm l ∧ vl B64 l = n
theorem rNat.ext {w w' : World} {v : Value} {n : Nat} (h : rNat w v n) (he : Ext w w') : rNat w' v n := by
 obtain ⟨A, c, l, hv, hw, hn, hl⟩ := h
 exact ⟨A, c, l, hv, hw.ext he, hn, hl⟩
theorem rNat.set {w : World} {v : Value} {n : Nat} (h : rNat w v n) {a : Addr} {u x : Value} (hc : w.cell? a = some u) (hu : noInt u = true) : rNat (w.setCell a x) v n := by
 obtain ⟨A, c, l, hv, hw, hn, hl⟩ := h
 exact ⟨A, c, l, hv, hw.set hc hu, hn, hl⟩
/-- A number that is far from filling the memory. -/
def Fit (n : Nat) : Prop := bl n ≤ 35184372088832
theorem Fit.len {n : Nat} {l : List Nat} (h : Fit n) (hn : Norm l) (hv : vl B64 l = n) : l.length ≤ 1099511627776 := by
 unfold Fit at h
 rcases vl_length (s := 64) (by omega) hn with h1 | h1
 · rw [← B64_pow, hv] at h1; omega
 · rw [h1]; simp
theorem norm_nil_iff {l : List Nat} (hn : Norm l) : l = [] ↔ vl B64 l = 0 := by
 constructor
 · rintro rfl; rfl
 ·
  intro h
  rcases Classical.em (l = []) with h1 | h1
  · exact h1
  ·
   have := vl_ge B64 l hn h1
   have h2 : 0 < B64 ^ (l.length - 1) := Nat.pow_pos (by decide)
   omega
theorem norm_one {l : List Nat} (hd : ∀ x ∈ l, x < B64) (hn : Norm l) (h : l.length = 1) : ∃ x, l = [x] ∧ vl B64 l = x ∧ x < B64 ∧ 0 < x := by
 obtain ⟨x, rfl⟩ := List.length_eq_one_iff.1 h
 refine ⟨x, rfl, by simp [vl], hd x (by simp), ?_⟩
 rcases Nat.eq_zero_or_pos x with h0 | h0
 · exact absurd (by simp [h0]) hn
 · exact h0
theorem rNat.zero (w : World) : rNat w (.agg #[.slice none 0 0]) 0 := ⟨none, 0, [], rfl, Words.nil _ _ _ _ _, by simp [Norm], rfl⟩
/-- whole.Int -/
def rInt (w : World) (v : Value) (z : Int) : Prop := ∃ u, rNat w (.agg #[u]) z.natAbs ∧ v = .agg #[.bool (decide (z < 0)), u]
theorem rInt.ext {w w' : World} {v : Value} {z : Int} (h : rInt w v z) (he : Ext w w') : rInt w' v z := by
 obtain ⟨u, hu, hv⟩ := h
 exact ⟨u, hu.ext he, hv⟩
theorem rInt.set {w : World} {v : Value} {z : Int} (h : rInt w v z) {a : Addr} {u x : Value} (hc : w.cell? a = some u) (hu : noInt u = true) : rInt (w.setCell a x) v z := by
 obtain ⟨u', hu', hv⟩ := h
 exact ⟨u', hu'.set hc hu, hv⟩
end Go.Proofs.YtadpjidakippeaaGreat

/- A block of the call's own, known whole; what make lays. No program. -/
namespace Go.Proofs.YtadpjidakippeaaGreat
open Go.RowKit
def Own (w : World) (b : Nat) (t : TypeId) (cs : List Value) : Prop := w.heap[b]? = some (.cells cs.toArray t (0, 0))
theorem Own.cell {w : World} {b : Nat} {t : TypeId} {cs : List Value} (h : Own w b t cs) (i : Nat) (v : Value) (hi : cs[i]? = some v) : w.cell? ⟨b, i, none⟩ = some v := by
 unfold Own at h
 simp [World.cell?, h, hi]
theorem Own.frozen {w : World} {b : Nat} {t : TypeId} {cs : List Value} (h : Own w b t cs) (i : Nat) : w.frozen? ⟨b, i, none⟩ = false := by
 unfold Own at h
 simp [World.frozen?, h]
theorem Own.lt {w : World} {b : Nat} {t : TypeId} {cs : List Value} (h : Own w b t cs) : b < w.heap.size := by
 unfold Own at h
 exact (Array.getElem?_eq_some_iff.1 h).1
theorem Own.set {w : World} {b : Nat} {t : TypeId} {cs : List Value} (h : Own w b t cs) (i : Nat) (v : Value) : Own (w.setCell ⟨b, i, none⟩ v) b t (cs.set i v) := by
 unfold Own at *
 simp only [World.setCell, Array.getElem?_modify, ↓reduceIte, h, Option.map_some, Option.isSome_none, Bool.false_eq_true, List.setIfInBounds_toArray]
theorem Own.other {w : World} {b : Nat} {t : TypeId} {cs : List Value} (h : Own w b t cs) {p : Addr} (v : Value) (hp : b ≠ p.block) : Own (w.setCell p v) b t cs :=
 (Below.heap_setCell w p v b hp).trans h
theorem Own.alloc {w : World} {b : Nat} {t : TypeId} {cs : List Value} (h : Own w b t cs) (o : Obj) : Own (w.alloc o) b t cs :=
 (Below.heap_alloc w o b h.lt).trans h
theorem Own.drew {w : World} {b : Nat} {t : TypeId} {cs : List Value} (h : Own w b t cs) : Own w.drew b t cs := h
theorem Own.drewN {w : World} {b : Nat} {t : TypeId} {cs : List Value} (h : Own w b t cs) (n : Nat) : Own (w.drewN n) b t cs := h
theorem Own.below {w w' : World} {b B : Nat} {t : TypeId} {cs : List Value} (h : Own w b t cs) (hb : Below B w w') (hB : b < B) : Own w' b t cs := (hb.block b hB).trans h
theorem Own.ext {w w' : World} {b : Nat} {t : TypeId} {cs : List Value} (h : Own w b t cs) (hb : Ext w w') : Own w' b t cs := h.below hb h.lt
theorem Own.new (w : World) (t : TypeId) (cs : List Value) : Own (w.alloc (.cells cs.toArray t)) w.heap.size t cs := by
 unfold Own
 show (w.heap.push _)[w.heap.size]? = _
 simp

theorem Own.new' (w : World) (t : TypeId) (cs : List Value) (b : Nat) (hb : b = w.heap.size) : Own (w.alloc (.cells cs.toArray t)) b t cs := hb ▸ Own.new w t cs
/-- All that was there is as it was, but for block X. -/
structure But (X : Nat) (w w' : World) : Prop where
 os : w'.os = w.os
 tape : w'.tape = w.tape
 output : w'.output = w.output
 size : w.heap.size ≤ w'.heap.size
 block : ∀ k, k < w.heap.size → k ≠ X → w'.heap[k]? = w.heap[k]?
theorem But.refl (X : Nat) (w : World) : But X w w := ⟨rfl, rfl, rfl, Nat.le_refl _, fun _ _ _ => rfl⟩
theorem But.trans {X : Nat} {a b c : World} (h : But X a b) (k : But X b c) : But X a c :=
 ⟨k.os.trans h.os, k.tape.trans h.tape, k.output.trans h.output, Nat.le_trans h.size k.size, fun i hi hx => (k.block i (Nat.lt_of_lt_of_le hi h.size) hx).trans (h.block i hi hx)⟩
theorem But.set {X : Nat} {a b : World} (h : But X a b) (i : Nat) (v : Value) : But X a (b.setCell ⟨X, i, none⟩ v) :=
 h.trans ⟨rfl, rfl, rfl, by simp [World.setCell], fun k _ hx => Below.heap_setCell _ _ _ _ hx⟩
theorem But.drew {X : Nat} {a b : World} (h : But X a b) : But X a b.drew := ⟨h.os, h.tape, h.output, h.size, h.block⟩
theorem But.ext {X : Nat} {a b c : World} (h : But X a b) (k : Ext b c) : But X a c :=
 ⟨k.os.trans h.os, k.tape.trans h.tape, k.output.trans h.output, Nat.le_trans h.size k.size, fun i hi hx => (k.block i (Nat.lt_of_lt_of_le hi h.size)).trans (h.block i hi hx)⟩
theorem But.cell {X : Nat} {a b : World} (h : But X a b) {p : Addr} {v : Value} (hc : a.cell? p = some v) (hx : p.block ≠ X) : b.cell? p = some v := by
 have hb := h.block p.block (World.block_lt_of_cell? a p hc) hx
 unfold World.cell? at hc ⊢
 rw [hb]; exact hc
theorem But.below {X B : Nat} {w0 a b : World} (h : But X a b) (k : Below B w0 a) (hB : B ≤ X) (hs : B ≤ a.heap.size) : Below B w0 b :=
 ⟨h.os.trans k.os, h.tape.trans k.tape, h.output.trans k.output, Nat.le_trans k.size h.size, fun i hi => (h.block i (by omega) (by omega)).trans (k.block i hi)⟩
theorem Own.but {w w' : World} {b X : Nat} {t : TypeId} {cs : List Value} (h : Own w b t cs) (hb : But X w w') (hx : b ≠ X) : Own w' b t cs := (hb.block b h.lt hx).trans h
/-- Words as cells. -/
def wv (k : IntKind) (l : List Nat) : List Value := l.map fun x => Value.int k (x : Nat)
theorem wv_set (k : IntKind) (l : List Nat) (i x : Nat) : (wv k l).set i (.int k (x : Nat)) = wv k (l.set i x) := by simp [wv, List.map_set]
theorem wv_get (k : IntKind) (l : List Nat) (i : Nat) (h : i < l.length) : (wv k l)[i]? = some (.int k (l.getD i 0 : Nat)) := by
 simp [wv, h]
theorem wv_length (k : IntKind) (l : List Nat) : (wv k l).length = l.length := by simp [wv]
theorem own_words {k : IntKind} {b B : Nat} {w : World} {t : TypeId} {l : List Nat} (h : Own w b t (wv k l)) (hl : ∀ x ∈ l, x < B) (c : Nat) (hc : l.length ≤ c) : Words k B w (some ⟨b, 0, none⟩) c l :=
 ⟨hc, hl, fun _ => ⟨b, 0, rfl, fun j hj => by rw [Nat.zero_add]; exact h.cell j _ (wv_get k l j hj)⟩⟩
/-- What make lays: kept behind a name. -/
def zeroW (k : IntKind) (m : Nat) : Array Value := (wv k (List.replicate m 0)).toArray
theorem madeCells_zeroW (k : IntKind) (m : Nat) : madeCells #[.int k 0] m = zeroW k m := by
 apply Array.ext'
 rw [toList_madeCells_one]
 simp [zeroW, wv]
theorem own_zero (w : World) (k : IntKind) (m : Nat) (t : TypeId) : Own (w.alloc (.cells (zeroW k m) t)) w.heap.size t (wv k (List.replicate m 0)) := Own.new w t _
theorem own_zero' (w : World) (k : IntKind) (m : Nat) (t : TypeId) (b : Nat) (hb : b = w.heap.size) : Own (w.alloc (.cells (zeroW k m) t)) b t (wv k (List.replicate m 0)) := hb ▸ own_zero w k m t
/-- make, of whole numbers. -/
theorem mk_words {P : Program} (t e : TypeId) (k : IntKind) (bytes : Nat) (ht : P.underlying t = some (.slice e)) (hinfo : (P.info? e).map (fun i => (i.zero, i.size, i.bytes)) = some (some (.int k 0), 1, bytes)) (hb0 : 0 < bytes)
  (m : Nat) (hn : m * bytes ≤ 281474976710656) :
  ∀ W : World, (Instr.makeSlice t (.int .i64 (m : Int)) (.int .i64 (m : Int))).run P W = .ok (.slice (some ⟨W.heap.size, 0, none⟩) m m) (W.alloc (.cells (zeroW k m) e)) := by
 intro W
 have hm : m ≤ 281474976710656 := Nat.le_trans (Nat.le_mul_of_pos_right _ hb0) hn
 obtain ⟨i, hi, hzz⟩ := Option.map_eq_some_iff.1 hinfo
 simp only [Prod.mk.injEq] at hzz
 obtain ⟨hz0, hz1, hz2⟩ := hzz
 have hbm : (i.bytes : Int) * (m : Int) ≤ 281474976710656 := by
  rw [hz2, ← Int.natCast_mul, Nat.mul_comm]; omega
 have h := run_make W t e i (.int k 0) ht hi hz0 .i64 .i64 m m (by omega) (by omega) hbm (by omega)
 rw [h, hz1, ← madeCells_zeroW]
 simp [Value.cells]
theorem set_take_succ (l : List Nat) (k x : Nat) (h : k < l.length) : (l.set k x).take (k + 1) = l.take k ++ [x] := by
 rw [take_snoc _ _ (by simpa using h), List.take_set_of_le (Nat.le_refl _)]
 simp [List.getD_eq_getElem?_getD, h]
theorem lset_ne {l : List Nat} {i p x : Nat} (h : i ≠ p) : (l.set i x).getD p 0 = l.getD p 0 := by
 rw [List.getD_eq_getElem?_getD, List.getD_eq_getElem?_getD, List.getElem?_set_ne h]
theorem set_length (l : List Nat) (k x : Nat) : (l.set k x).length = l.length := List.length_set
theorem set_lt {b : Nat} {l : List Nat} (hl : ∀ x ∈ l, x < b) (k x : Nat) (hx : x < b) : ∀ y ∈ l.set k x, y < b := fun y hy => by
 rcases List.mem_or_eq_of_mem_set hy with h | h
 · exact hl y h
 · rw [h]; exact hx
theorem zeros_lt {b : Nat} (hb : 0 < b) (m : Nat) : ∀ y ∈ List.replicate m 0, y < b := fun y hy => by
 rw [List.eq_of_mem_replicate hy]; exact hb
end Go.Proofs.YtadpjidakippeaaGreat

/- math/bits: the calls that the model answers in place; Len64, LeadingZeros64, Mul64. -/
namespace Go.Proofs.YtadpjidakippeaaGreat
open Go.RowKit
def sub64Entry : Array Value → Sem Value := fun args => do
 let (x, y, b) ← Extern.MathBitsCarry.three "Sub64" args
 pure (Extern.MathBitsCarry.pair ((x + Extern.MathBitsCarry.m64 - y - b) % Extern.MathBitsCarry.m64) (if x < y + b then 1 else 0))
theorem run_sub64 {P : Program} (x y b : Nat) (hb : b ≤ 1) (w : World) :
  (sub64Entry #[.int .u64 x, .int .u64 y, .int .u64 b]).run P w =
   .ok (.tuple #[.int .u64 (((x + 18446744073709551616 - y - b) % 18446744073709551616 : Nat) : Int), .int .u64 ((if x < y + b then 1 else 0 : Nat) : Int)]) w := by
 have : b = 0 ∨ b = 1 := by omega
 rcases this with rfl | rfl <;> rfl
theorem add64_run (x y c : Nat) (X Y C : Int) (hX : X = x) (hY : Y = y) (hC : C = c) (hc : c ≤ 1) (w : World) :
  (callFunc 112 #[.int .u64 X, .int .u64 Y, .int .u64 C]).run Tryz.prog w =
   .ok (.value (.tuple #[.int .u64 (((x + y + c) % B64 : Nat) : Int), .int .u64 (((x + y + c) / B64 : Nat) : Int)])) w := by
 rw [hX, hY, hC, run_callFunc_extern Tryz.func112 (by kernel_rfl) (by kernel_rfl) (by kernel_rfl) (e := add64Entry) (by kernel_rfl), run_add64 x y c (by omega) (by omega) (by omega) (by omega)]
 simp only [Result.andThen, B64_eq]
 congr 5 <;> omega
theorem sub64_run (x y b : Nat) (X Y C : Int) (hX : X = x) (hY : Y = y) (hC : C = b) (hb : b ≤ 1) (w : World) :
  (callFunc 125 #[.int .u64 X, .int .u64 Y, .int .u64 C]).run Tryz.prog w =
   .ok (.value (.tuple #[.int .u64 (((x + B64 - y - b) % B64 : Nat) : Int), .int .u64 ((if x < y + b then 1 else 0 : Nat) : Int)])) w := by
 rw [hX, hY, hC, run_callFunc_extern Tryz.func125 (by kernel_rfl) (by kernel_rfl) (by kernel_rfl) (e := sub64Entry) (by kernel_rfl), run_sub64 x y b hb]
 rfl

theorem maskN (a : Nat) (ha : a < 18446744073709551616) : bits .and .u64 (a : Int) 4294967295 = ((a % 4294967296 : Nat) : Int) := by
 have h := bits_and_u64_nat a 4294967295 ha (by omega)
 have e : a &&& 4294967295 = a % 4294967296 := Nat.and_two_pow_sub_one_eq_mod a 32
 rw [e] at h
 exact h
theorem divN (a : Nat) : (a : Int) / 4294967296 = ((a / 4294967296 : Nat) : Int) := by omega
theorem mulN (a b : Nat) : (a : Int) * (b : Int) = ((a * b : Nat) : Int) := (Int.natCast_mul a b).symm
theorem addN (a b : Nat) : (a : Int) + (b : Int) = ((a + b : Nat) : Int) := (Int.natCast_add a b).symm
theorem wrapN (a : Nat) (ha : a < 18446744073709551616) : IntKind.u64.wrap (a : Int) = (a : Int) := by rw [IntKind.wrap_u64]; omega
theorem wrapM (a : Nat) : IntKind.u64.wrap (a : Int) = ((a % 18446744073709551616 : Nat) : Int) := by rw [IntKind.wrap_u64]; omega
set_option maxHeartbeats 1000000 in
theorem mul64_c (x y : Nat) (hx : x < 18446744073709551616) (hy : y < 18446744073709551616) (w : World) :
  Calls Tryz.prog 111 #[.int .u64 x, .int .u64 y] w fun e w' => e = .returned (.tuple #[.int .u64 ((x * y / B64 : Nat) : Int), .int .u64 ((x * y % B64 : Nat) : Int)]) ∧ w = w' := by
 obtain ⟨bd, bt, bw, hhi⟩ := Lib.mul64_hi x y hx hy
 have ba := Lib.half_mul_le (a := x / 4294967296) (b := y / 4294967296) (by omega) (by omega)
 have bb := Lib.half_mul_le (a := x / 4294967296) (b := y % 4294967296) (by omega) (by omega)
 have bc := Lib.half_mul_le (a := x % 4294967296) (b := y / 4294967296) (by omega) (by omega)
 have ba' : x / 4294967296 * (y / 4294967296) < 18446744073709551616 := by omega
 have bb' : x / 4294967296 * (y % 4294967296) < 18446744073709551616 := by omega
 have bc' : x % 4294967296 * (y / 4294967296) < 18446744073709551616 := by omega
 have bh1 : x / 4294967296 * (y / 4294967296) + (x / 4294967296 * (y % 4294967296) + x % 4294967296 * (y % 4294967296) / 4294967296) / 4294967296 < 18446744073709551616 := by omega
 have bh : x / 4294967296 * (y / 4294967296) + (x / 4294967296 * (y % 4294967296) + x % 4294967296 * (y % 4294967296) / 4294967296) / 4294967296 + ((x / 4294967296 * (y % 4294967296) + x % 4294967296 * (y % 4294967296) / 4294967296) % 4294967296 + x % 4294967296 * (y / 4294967296)) / 4294967296 < 18446744073709551616 := by omega
 go_enter Tryz.func111, Tryz.ntmps111
 go_wp2
 simp only [maskN x hx, maskN y hy, divN, mulN, addN, wrapN _ bd, wrapN _ bb', wrapN _ bt, maskN _ bt, wrapN _ bc', wrapN _ bw, wrapN _ ba', wrapN _ bh1, wrapN _ bh, wrapM (x * y)]
 rw [hhi]
 go_ret2
 exact ⟨rfl, rfl⟩
end Go.Proofs.YtadpjidakippeaaGreat

namespace Go.Proofs.YtadpjidakippeaaGreat
open Go.RowKit
theorem trim_done {w w' : World} {A : Option Addr} {c : Nat} {l : List Nat} {k : Nat} (h : Words .u64 B64 w A c l) (hk : k ≤ l.length) (hv : vl B64 l = vl B64 (l.take k)) (hn : Norm (l.take k)) (he : Ext w w') :
  rNat w' (.agg #[.slice A k c]) (vl B64 l) :=
 ⟨A, c, l.take k, by rw [List.length_take, Nat.min_eq_left hk], (h.take k).ext he, hn, hv.symm⟩
theorem norm_take_pos {l : List Nat} {m : Nat} (hm : m < l.length) (hz : l.getD m 0 ≠ 0) : Norm (l.take (m + 1)) := by
 unfold Norm
 rw [take_snoc l m hm, List.getLast?_append]
 simpa using hz
theorem vl_take_zero {b : Nat} {l : List Nat} {m : Nat} (hm : m < l.length) (hz : l.getD m 0 = 0) : vl b (l.take (m + 1)) = vl b (l.take m) := by
 rw [take_snoc l m hm, vl_snoc, hz]; simp
set_option maxHeartbeats 400000 in
theorem trim_c (w : World) (A : Option Addr) (c : Nat) (l : List Nat) (h : Words .u64 B64 w A c l) (hm : l.length ≤ 17592186044416) :
  Calls Tryz.prog 113 #[.slice A l.length c] w (Post w fun v w' => rNat w' v (vl B64 l)) := by
 have Hw := Lib.hid h
 have hlc := h.1
 clear h
 go_enter Tryz.func113, Tryz.ntmps113
 go_wp2_with fail
 go_loop [0] (fun t => ∃ k : Nat, k ≤ l.length ∧ t = .slice A k c ∧ vl B64 l = vl B64 (l.take k)) (fun t => match t with | .slice _ k _ => k | _ => 0)
 case atStart => exact ⟨l.length, Nat.le_refl _, rfl, by simp⟩
 case round =>
  obtain ⟨k, hk, rfl, hv⟩ := hrel
  have HV := Lib.hid hv
  clear hv
  rcases Nat.eq_zero_or_pos k with rfl | hk0
  ·
   go_wp2
   exact bodyPost_ret (v := .agg #[.slice A 0 c]) (by simp [results, Tryz.results113, go_sem]) rfl ⟨_, rfl, (Below.refl _ _).alloc (Nat.le_refl _) _, trim_done Hw.out (Nat.zero_le _) HV.out (by simp [Norm]) ((Below.refl _ _).alloc (Nat.le_refl _) _)⟩
  ·
   obtain ⟨m, rfl⟩ : ∃ m, k = m + 1 := ⟨k - 1, by omega⟩
   have hne : l ≠ [] := by intro e; rw [e] at hk; simp at hk
   obtain ⟨g, o, rfl, hcl⟩ := Hw.out.2.2 hne
   have hcm := hcl m (by omega)
   have hg : g < w.heap.size := World.block_lt_of_cell? w _ hcm
   clear hcl hk0 hne
   by_cases hz : l.getD m 0 = 0
   ·
    have Hz := Lib.hid hz
    rw [hz] at hcm
    clear hz
    go_wp2
    go_round
    case rel => exact ⟨m, by omega, rfl, HV.out.trans (vl_take_zero (by omega) Hz.out)⟩
    case measure => simp
   ·
    have Hz := Lib.hid hz
    have hzb : (((l[m]?.getD 0 : Nat) : Int) == 0) = false := by simpa using hz
    clear hz
    go_wp2
    exact bodyPost_ret (v := .agg #[.slice (some ⟨g, o, none⟩) (m + 1) c]) (by simp [results, Tryz.results113, go_sem]) rfl ⟨_, rfl, (Below.refl _ _).alloc (Nat.le_refl _) _, trim_done Hw.out hk HV.out (norm_take_pos (by omega) Hz.out) ((Below.refl _ _).alloc (Nat.le_refl _) _)⟩
end Go.Proofs.YtadpjidakippeaaGreat

namespace Go.Proofs.YtadpjidakippeaaGreat
open Go.RowKit
/-- What is known in a round of Cmp. -/
def CmpIn (w wr : World) (A1 A2 : Option Addr) (n1 n2 c1 c2 : Nat) : Prop := Below w.heap.size w wr ∧ w.heap.size + 2 ≤ wr.heap.size ∧ wr.cell? ⟨w.heap.size, 0, none⟩ = some (.slice A1 n1 c1) ∧ wr.cell? ⟨w.heap.size + 1, 0, none⟩ = some (.slice A2 n2 c2)
set_option maxHeartbeats 1000000 in
theorem cmp_c (w : World) (A1 A2 : Option Addr) (c1 c2 : Nat) (l m : List Nat) (h1 : Words .u64 B64 w A1 c1 l) (h2 : Words .u64 B64 w A2 c2 m) (n1 : Norm l) (n2 : Norm m) (b1 : l.length ≤ 17592186044416) (b2 : m.length ≤ 17592186044416) :
  Calls Tryz.prog 106 #[.agg #[.slice A1 l.length c1], .agg #[.slice A2 m.length c2]] w (Post w fun v _ => v = .int .i64 (cmpI (vl B64 l) (vl B64 m))) := by
 have Hw := Lib.hid h1
 have Hu := Lib.hid h2
 have N1 := Lib.hid n1
 have N2 := Lib.hid n2
 clear h1 h2 n1 n2
 rcases Nat.lt_trichotomy l.length m.length with hlt | heq | hgt
 ·
  go_enter Tryz.func106, Tryz.ntmps106
  have hne : (((l.length : Int) != (m.length : Int))) = true := by rw [bne_iff_ne]; omega
  go_wp2
  go_ret
  exact ⟨_, rfl, (((Below.refl _ _).alloc (Nat.le_refl _) _).alloc (by simp) _), by rw [cmpI_lt (vl_lt_len (by decide) Hw.out.2.1 N2.out hlt)]; rfl⟩
 ·
  have Heq := Lib.hid heq
  rw [heq]
  clear heq
  go_enter Tryz.func106, Tryz.ntmps106
  go_wp2_with fail
  go_loopw [5] (fun i wr => ∃ k : Nat, k ≤ m.length ∧ i = .int .i64 ((k : Int) - 1) ∧ l.drop k = m.drop k ∧ CmpIn w wr A1 A2 m.length m.length c1 c2) (fun i _ => (intOf i + 1).toNat)
  case atStart => exact ⟨m.length, Nat.le_refl _, rfl, by rw [List.drop_eq_nil_of_le (Nat.le_of_eq Heq.out), List.drop_length], ((Below.refl _ _).alloc (Nat.le_refl _) _).alloc (by simp) _, by simp, by simp, by simp⟩
  case round =>
   obtain ⟨k, hk, rfl, hd, hb, hz, hc1, hc2⟩ := hrel
   have HD := Lib.hid hd
   clear hd
   rcases Nat.eq_zero_or_pos k with rfl | hk0
   ·
    rw [show ((0 : Nat) : Int) - 1 = -1 from rfl]
    go_wp2
    go_ret
    exact ⟨_, rfl, hb, by rw [cmpI_eq (by have := HD.out; simp at this; rw [this])]; rfl⟩
   ·
    obtain ⟨j, rfl⟩ : ∃ j, k = j + 1 := ⟨k - 1, by omega⟩
    rw [show ((j + 1 : Nat) : Int) - 1 = (j : Int) from by omega]
    obtain ⟨g1, o1, rfl, hcl1⟩ := Hw.out.2.2 (by intro e; rw [← Heq.out, e] at hk; simp at hk)
    obtain ⟨g2, o2, rfl, hcl2⟩ := Hu.out.2.2 (by intro e; rw [e] at hk; simp at hk)
    have hx := hcl1 j (by rw [Heq.out]; omega)
    have hy := hcl2 j (by omega)
    replace hx := hb.cell (World.block_lt_of_cell? w _ hx) |>.trans hx
    replace hy := hb.cell (World.block_lt_of_cell? w _ hy) |>.trans hy
    obtain ⟨x, ex⟩ : ∃ x, l.getD j 0 = x := ⟨_, rfl⟩
    obtain ⟨y, ey⟩ : ∃ y, m.getD j 0 = y := ⟨_, rfl⟩
    rw [ex] at hx
    rw [ey] at hy
    have Ex := Lib.hid ex
    have Ey := Lib.hid ey
    clear ex ey hcl1 hcl2 hk0
    rcases Nat.lt_trichotomy x y with hxy | hxy | hxy
    ·
     have hi : (x : Int) < (y : Int) := by omega
     go_wp2_with fail
     go_quiet (fail)
     go_wp2
     go_ret
     exact ⟨_, rfl, pw_below_drewN hb _, by rw [cmpI_lt (vl_lt_at Hw.out.2.1 (by rw [Heq.out]; omega) (by omega) HD.out (by rw [Ex.out, Ey.out]; exact hxy))]; rfl⟩
    ·
     have Exy := Lib.hid hxy
     subst hxy
     go_wp2_with fail
     go_quiet (fail)
     go_wp2_with fail
     go_quiet (fail)
     go_wp2
     go_roundw
     case rel => exact ⟨j, by omega, rfl, drop_eq_of (by rw [Heq.out]; omega) (by omega) HD.out (Ex.out.trans Ey.out.symm), pw_below_drewN hb _, by simpa using hz, by simpa using hc1, by simpa using hc2⟩
     case measure => simp [intOf]
    ·
     have hi : ¬ (x : Int) < (y : Int) := by omega
     have hj : (y : Int) < (x : Int) := by omega
     go_wp2_with fail
     go_quiet (fail)
     go_wp2_with fail
     go_quiet (fail)
     go_wp2
     go_ret
     exact ⟨_, rfl, pw_below_drewN (pw_below_drewN hb _) _, by rw [cmpI_gt (vl_lt_at Hu.out.2.1 (by omega) (by rw [Heq.out]; omega) HD.out.symm (by rw [Ex.out, Ey.out]; exact hxy))]; rfl⟩
 ·
  go_enter Tryz.func106, Tryz.ntmps106
  have hne : (((l.length : Int) != (m.length : Int))) = true := by rw [bne_iff_ne]; omega
  have hnl : ¬ ((l.length : Int) < (m.length : Int)) := by omega
  go_wp2
  go_ret
  exact ⟨_, rfl, (((Below.refl _ _).alloc (Nat.le_refl _) _).alloc (by simp) _), by rw [cmpI_gt (vl_lt_len (by decide) Hu.out.2.1 N1.out hgt)]; rfl⟩
end Go.Proofs.YtadpjidakippeaaGreat

namespace Go.Proofs.YtadpjidakippeaaGreat
open Go.RowKit
theorem info64 : (Tryz.prog.info? 101).map (fun i => (i.zero, i.size, i.bytes)) = some (some (.int .u64 0), 1, 8) := by kernel_rfl
theorem und64 : Tryz.prog.underlying 26 = some (.slice 101) := by kernel_rfl
theorem mk64 (n : Int) (m : Nat) (e : n = m) (hn : m * 8 ≤ 281474976710656) (W : World) : (Instr.makeSlice 26 (.int .i64 n) (.int .i64 n)).run Tryz.prog W = .ok (.slice (some ⟨W.heap.size, 0, none⟩) m m) (W.alloc (.cells (zeroW .u64 m) 101)) := by
 rw [e]; exact mk_words _ _ _ 8 und64 info64 (by omega) m hn W
theorem add_step {b : Nat} {X Y cur : List Nat} {k cc : Nat} (hk : k < cur.length) (h : vl b (cur.take k) + b ^ k * cc = vl b (X.take k) + vl b (Y.take k)) :
  vl b ((cur.set k ((X.getD k 0 + Y.getD k 0 + cc) % b)).take (k + 1)) + b ^ (k + 1) * ((X.getD k 0 + Y.getD k 0 + cc) / b) = vl b (X.take (k + 1)) + vl b (Y.take (k + 1)) := by
 rw [set_take_succ _ _ _ hk, vl_snoc, List.length_take, Nat.min_eq_left (by omega), vl_take_succ, vl_take_succ]
 have hd := Nat.div_add_mod (X.getD k 0 + Y.getD k 0 + cc) b
 have e : b ^ (k + 1) * ((X.getD k 0 + Y.getD k 0 + cc) / b) + b ^ k * ((X.getD k 0 + Y.getD k 0 + cc) % b) = b ^ k * (X.getD k 0 + Y.getD k 0 + cc) := by
  conv => rhs; rw [← hd]
  rw [Nat.pow_succ]; grind
 grind
theorem carry_le {x y c : Nat} (hx : x < B64) (hy : y < B64) (hc : c ≤ 1) : (x + y + c) / B64 ≤ 1 := by
 rw [B64_eq] at *
 omega
theorem add_fin {b cc : Nat} {X Y cur : List Nat} (hl : cur.length = X.length + 1) (h : vl b (cur.take X.length) + b ^ X.length * cc = vl b (X.take X.length) + vl b (Y.take X.length)) (hy : Y.length ≤ X.length) :
  vl b (cur.set X.length cc) = vl b X + vl b Y := by
 rw [List.take_of_length_le (Nat.le_refl _), List.take_of_length_le hy] at h
 rw [← h, ← List.take_of_length_le (l := cur.set X.length cc) (i := X.length + 1) (by rw [List.length_set]; omega), set_take_succ _ _ _ (by omega), vl_snoc, List.length_take, Nat.min_eq_left (by omega)]
/-- What is known in a round of Add. -/
structure AddIn (w wr : World) (X Y : List Nat) (k : Nat) (v8 : Value) (bo : Nat) : Prop where
 below : Below w.heap.size w wr
 sz : w.heap.size ≤ bo
 st : ∃ cur cc, Own wr bo 101 (wv .u64 cur) ∧ cur.length = X.length + 1 ∧ (∀ x ∈ cur, x < B64) ∧ cc ≤ 1 ∧ v8 = .int .u64 (cc : Nat) ∧ vl B64 (cur.take k) + B64 ^ k * cc = vl B64 (X.take k) + vl B64 (Y.take k)
set_option maxRecDepth 100000 in
set_option maxHeartbeats 1000000 in
theorem add_w (w : World) (A1 A2 : Option Addr) (c1 c2 : Nat) (l m : List Nat) (h1 : Words .u64 B64 w A1 c1 l) (h2 : Words .u64 B64 w A2 c2 m) (b1 : l.length ≤ 1099511627776) (b2 : m.length ≤ 1099511627776) :
  Calls Tryz.prog 114 #[.agg #[.slice A1 l.length c1], .agg #[.slice A2 m.length c2]] w (Post w fun v w' => rNat w' v (vl B64 l + vl B64 m)) := by
 have Hw := Lib.hid h1
 have Hu := Lib.hid h2
 clear h1 h2
 rcases Nat.lt_or_ge l.length m.length with hlt | hge
 ·
  rw [Nat.add_comm (vl B64 l)]
  go_enter Tryz.func114, Tryz.ntmps114
  have hmk := mk64 ((m.length : Int) + 1) (m.length + 1) (by omega) (by omega)
  go_wp2_with fail
  go_quiet (fail)
  go_wp2_with fail
  go_loopw [8, 28] (fun c i wr => ∃ k : Nat, k ≤ m.length ∧ i = .int .i64 (k : Int) ∧ AddIn w wr m l k c (w.heap.size + 1 + 1 + 1) ∧ wr.cell? ⟨w.heap.size + 1 + 1, 0, none⟩ = some (.slice none 0 0) ∧ wr.frozen? ⟨w.heap.size + 1 + 1, 0, none⟩ = false) (fun _ i _ => m.length - (intOf i).toNat)
  case atStart => exact ⟨0, Nat.zero_le _, rfl, ⟨(by repeat (first | assumption | exact nB1 _ _ | refine nB2 ?_ | refine pw_below_drewN ?_ _ | refine nB3 ?_ (by first | omega | (simp <;> omega)) _ | refine nB4 ?_ (by first | omega | (simp <;> omega)) _ | refine nB5 ?_ (by assumption) (by first | omega | (simp <;> omega)))), by omega, _, 0, own_zero' _ _ _ _ _ (by simp), by simp, zeros_lt (by decide) _, by omega, rfl, by simp [vl]⟩, by go_simp, by go_simp⟩
  case round =>
   obtain ⟨k, hk, rfl, ⟨hb, hz, cur, cc, hown, hcl, hlt, hcc, rfl, hv⟩, hr1, hr2⟩ := hrel
   have HV := Lib.hid hv
   have HO := Lib.hid hown
   have HL := Lib.hid hcl
   have Hlt := Lib.hid hlt
   clear hv hown hcl hlt
   rcases Nat.lt_or_ge k m.length with hkx | hkx
   ·
    obtain ⟨g1, o1, rfl, hcl1⟩ := Hu.out.2.2 (by intro e; rw [e] at hkx; simp at hkx)
    have hx := hcl1 k hkx
    replace hx := hb.cell (World.block_lt_of_cell? w _ hx) |>.trans hx
    obtain ⟨x, ex⟩ : ∃ x, m.getD k 0 = x := ⟨_, rfl⟩
    rw [ex] at hx
    have Ex := Lib.hid ex
    clear ex hcl1
    have hoc := HO.out.cell k _ (wv_get _ _ _ (by rw [HL.out]; omega))
    have hof := HO.out.frozen k
    rcases Nat.lt_or_ge k l.length with hky | hky
    ·
     obtain ⟨g2, o2, rfl, hcl2⟩ := Hw.out.2.2 (by intro e; rw [e] at hky; simp at hky)
     have hy := hcl2 k hky
     replace hy := hb.cell (World.block_lt_of_cell? w _ hy) |>.trans hy
     obtain ⟨y, ey⟩ : ∃ y, l.getD k 0 = y := ⟨_, rfl⟩
     rw [ey] at hy
     have Ey := Lib.hid ey
     clear ey hcl2
     have hadd := add64_run x y cc _ _ _ rfl rfl rfl hcc
     go_wp2_with fail
     go_roundw
     case rel => exact ⟨k + 1, by omega, by go_num, ⟨(by repeat (first | assumption | exact nB1 _ _ | refine nB2 ?_ | refine pw_below_drewN ?_ _ | refine nB3 ?_ (by first | omega | (simp <;> omega)) _ | refine nB4 ?_ (by first | omega | (simp <;> omega)) _ | refine nB5 ?_ (by assumption) (by first | omega | (simp <;> omega)))), by omega, cur.set k ((x + y + cc) % B64), (x + y + cc) / B64, by rw [← wv_set]; exact HO.out.set _ _, by rw [set_length]; exact HL.out, set_lt Hlt.out _ _ (Nat.mod_lt _ (by decide)), carry_le (by have := Hu.out.2.1; rw [← Ex.out]; exact getD_lt this (by decide) _) (by have := Hw.out.2.1; rw [← Ey.out]; exact getD_lt this (by decide) _) hcc, rfl, by have := add_step (b := B64) (by rw [HL.out]; omega) HV.out; rw [Ex.out, Ey.out] at this; exact this⟩, by go_simp, by go_simp⟩
     case measure => simp [intOf]; omega
    ·
     have hadd := add64_run x 0 cc _ 0 _ rfl rfl rfl hcc
     have hnlt : ¬ (k : Int) < (l.length : Int) := by omega
     have Ey : Hid (l.getD k 0 = 0) := by show _ = _; rw [List.getD_eq_getElem?_getD, List.getElem?_eq_none hky]; rfl
     go_wp2_with fail
     go_roundw
     case rel => exact ⟨k + 1, by omega, by go_num, ⟨(by repeat (first | assumption | exact nB1 _ _ | refine nB2 ?_ | refine pw_below_drewN ?_ _ | refine nB3 ?_ (by first | omega | (simp <;> omega)) _ | refine nB4 ?_ (by first | omega | (simp <;> omega)) _ | refine nB5 ?_ (by assumption) (by first | omega | (simp <;> omega)))), by omega, cur.set k ((x + 0 + cc) % B64), (x + 0 + cc) / B64, by rw [← wv_set]; exact HO.out.set _ _, by rw [set_length]; exact HL.out, set_lt Hlt.out _ _ (Nat.mod_lt _ (by decide)), carry_le (by have := Hu.out.2.1; rw [← Ex.out]; exact getD_lt this (by decide) _) (by decide) hcc, rfl, by have := add_step (b := B64) (by rw [HL.out]; omega) HV.out; rw [Ex.out, Ey.out] at this; exact this⟩, by go_simp, by go_simp⟩
     case measure => simp [intOf]; omega
   ·
    obtain rfl : k = m.length := by omega
    have hoc := HO.out.cell m.length _ (wv_get _ _ _ (by rw [HL.out]; omega))
    have hof := HO.out.frozen m.length
    have hnlt : ¬ (m.length : Int) < (m.length : Int) := by omega
    have ht := trim_c (wr.setCell ⟨w.heap.size + 1 + 1 + 1, m.length, none⟩ (.int .u64 (cc : Nat))) (some ⟨w.heap.size + 1 + 1 + 1, 0, none⟩) (m.length + 1) (cur.set m.length cc) (own_words (by rw [← wv_set]; exact HO.out.set _ _) (set_lt Hlt.out _ _ (Nat.lt_of_le_of_lt hcc (by decide))) _ (by rw [set_length, HL.out]; omega)) (by rw [set_length, HL.out]; omega)
    rw [set_length, HL.out] at ht
    have HT := Lib.hid ht
    clear ht
    have hl4 := HO.out.lt
    have hl5 : w.heap.size + 1 + 1 < wr.heap.size := by omega
    go_wp2_with (go_at_call 113; refine HT.out.mono ?_; rintro e w1 ⟨v, rfl, hb1, A', c', l', rfl, hn⟩; have Hn := Lib.hid hn; clear hn; obtain ⟨hcw, hfw⟩ := bcell hb1)
    have hk1 : w1.cell? ⟨w.heap.size + 1 + 1, 0, none⟩ = some (.slice none 0 0) := (hcw _ _ (by first | omega | (simp <;> omega))).trans (by go_simp)
    have hk2 := World.cell?_setCell_same w1 ⟨w.heap.size + 1 + 1, 0, none⟩ (.slice A' l'.length c') hk1
    refine bodyPost_ret (v := .agg #[.slice A' l'.length c']) (by simp [results, Tryz.results114, go_sem, hk2]) rfl ⟨_, rfl, (by repeat (first | assumption | exact nB1 _ _ | refine nB2 ?_ | refine pw_below_drewN ?_ _ | refine nB3 ?_ (by first | omega | (simp <;> omega)) _ | refine nB4 ?_ (by first | omega | (simp <;> omega)) _ | refine nB5 ?_ (by assumption) (by first | omega | (simp <;> omega)))), ?_⟩
    obtain ⟨hwd, hnn, hvl⟩ := Hn.out
    refine ⟨A', c', l', rfl, hwd.set hk1 rfl, hnn, hvl.trans ?_⟩
    exact add_fin HL.out HV.out (by omega)
 ·
  go_enter Tryz.func114, Tryz.ntmps114
  have hmk := mk64 ((l.length : Int) + 1) (l.length + 1) (by omega) (by omega)
  go_wp2_with fail
  go_quiet (fail)
  go_wp2_with fail
  go_loopw [8, 28] (fun c i wr => ∃ k : Nat, k ≤ l.length ∧ i = .int .i64 (k : Int) ∧ AddIn w wr l m k c (w.heap.size + 1 + 1 + 1) ∧ wr.cell? ⟨w.heap.size + 1 + 1, 0, none⟩ = some (.slice none 0 0) ∧ wr.frozen? ⟨w.heap.size + 1 + 1, 0, none⟩ = false) (fun _ i _ => l.length - (intOf i).toNat)
  case atStart => exact ⟨0, Nat.zero_le _, rfl, ⟨(by repeat (first | assumption | exact nB1 _ _ | refine nB2 ?_ | refine pw_below_drewN ?_ _ | refine nB3 ?_ (by first | omega | (simp <;> omega)) _ | refine nB4 ?_ (by first | omega | (simp <;> omega)) _ | refine nB5 ?_ (by assumption) (by first | omega | (simp <;> omega)))), by omega, _, 0, own_zero' _ _ _ _ _ (by simp), by simp, zeros_lt (by decide) _, by omega, rfl, by simp [vl]⟩, by go_simp, by go_simp⟩
  case round =>
   obtain ⟨k, hk, rfl, ⟨hb, hz, cur, cc, hown, hcl, hlt, hcc, rfl, hv⟩, hr1, hr2⟩ := hrel
   have HV := Lib.hid hv
   have HO := Lib.hid hown
   have HL := Lib.hid hcl
   have Hlt := Lib.hid hlt
   clear hv hown hcl hlt
   rcases Nat.lt_or_ge k l.length with hkx | hkx
   ·
    obtain ⟨g1, o1, rfl, hcl1⟩ := Hw.out.2.2 (by intro e; rw [e] at hkx; simp at hkx)
    have hx := hcl1 k hkx
    replace hx := hb.cell (World.block_lt_of_cell? w _ hx) |>.trans hx
    obtain ⟨x, ex⟩ : ∃ x, l.getD k 0 = x := ⟨_, rfl⟩
    rw [ex] at hx
    have Ex := Lib.hid ex
    clear ex hcl1
    have hoc := HO.out.cell k _ (wv_get _ _ _ (by rw [HL.out]; omega))
    have hof := HO.out.frozen k
    rcases Nat.lt_or_ge k m.length with hky | hky
    ·
     obtain ⟨g2, o2, rfl, hcl2⟩ := Hu.out.2.2 (by intro e; rw [e] at hky; simp at hky)
     have hy := hcl2 k hky
     replace hy := hb.cell (World.block_lt_of_cell? w _ hy) |>.trans hy
     obtain ⟨y, ey⟩ : ∃ y, m.getD k 0 = y := ⟨_, rfl⟩
     rw [ey] at hy
     have Ey := Lib.hid ey
     clear ey hcl2
     have hadd := add64_run x y cc _ _ _ rfl rfl rfl hcc
     go_wp2_with fail
     go_roundw
     case rel => exact ⟨k + 1, by omega, by go_num, ⟨(by repeat (first | assumption | exact nB1 _ _ | refine nB2 ?_ | refine pw_below_drewN ?_ _ | refine nB3 ?_ (by first | omega | (simp <;> omega)) _ | refine nB4 ?_ (by first | omega | (simp <;> omega)) _ | refine nB5 ?_ (by assumption) (by first | omega | (simp <;> omega)))), by omega, cur.set k ((x + y + cc) % B64), (x + y + cc) / B64, by rw [← wv_set]; exact HO.out.set _ _, by rw [set_length]; exact HL.out, set_lt Hlt.out _ _ (Nat.mod_lt _ (by decide)), carry_le (by have := Hw.out.2.1; rw [← Ex.out]; exact getD_lt this (by decide) _) (by have := Hu.out.2.1; rw [← Ey.out]; exact getD_lt this (by decide) _) hcc, rfl, by have := add_step (b := B64) (by rw [HL.out]; omega) HV.out; rw [Ex.out, Ey.out] at this; exact this⟩, by go_simp, by go_simp⟩
     case measure => simp [intOf]; omega
    ·
     have hadd := add64_run x 0 cc _ 0 _ rfl rfl rfl hcc
     have hnlt : ¬ (k : Int) < (m.length : Int) := by omega
     have Ey : Hid (m.getD k 0 = 0) := by show _ = _; rw [List.getD_eq_getElem?_getD, List.getElem?_eq_none hky]; rfl
     go_wp2_with fail
     go_roundw
     case rel => exact ⟨k + 1, by omega, by go_num, ⟨(by repeat (first | assumption | exact nB1 _ _ | refine nB2 ?_ | refine pw_below_drewN ?_ _ | refine nB3 ?_ (by first | omega | (simp <;> omega)) _ | refine nB4 ?_ (by first | omega | (simp <;> omega)) _ | refine nB5 ?_ (by assumption) (by first | omega | (simp <;> omega)))), by omega, cur.set k ((x + 0 + cc) % B64), (x + 0 + cc) / B64, by rw [← wv_set]; exact HO.out.set _ _, by rw [set_length]; exact HL.out, set_lt Hlt.out _ _ (Nat.mod_lt _ (by decide)), carry_le (by have := Hw.out.2.1; rw [← Ex.out]; exact getD_lt this (by decide) _) (by decide) hcc, rfl, by have := add_step (b := B64) (by rw [HL.out]; omega) HV.out; rw [Ex.out, Ey.out] at this; exact this⟩, by go_simp, by go_simp⟩
     case measure => simp [intOf]; omega
   ·
    obtain rfl : k = l.length := by omega
    have hoc := HO.out.cell l.length _ (wv_get _ _ _ (by rw [HL.out]; omega))
    have hof := HO.out.frozen l.length
    have hnlt : ¬ (l.length : Int) < (l.length : Int) := by omega
    have ht := trim_c (wr.setCell ⟨w.heap.size + 1 + 1 + 1, l.length, none⟩ (.int .u64 (cc : Nat))) (some ⟨w.heap.size + 1 + 1 + 1, 0, none⟩) (l.length + 1) (cur.set l.length cc) (own_words (by rw [← wv_set]; exact HO.out.set _ _) (set_lt Hlt.out _ _ (Nat.lt_of_le_of_lt hcc (by decide))) _ (by rw [set_length, HL.out]; omega)) (by rw [set_length, HL.out]; omega)
    rw [set_length, HL.out] at ht
    have HT := Lib.hid ht
    clear ht
    have hl4 := HO.out.lt
    have hl5 : w.heap.size + 1 + 1 < wr.heap.size := by omega
    go_wp2_with (go_at_call 113; refine HT.out.mono ?_; rintro e w1 ⟨v, rfl, hb1, A', c', l', rfl, hn⟩; have Hn := Lib.hid hn; clear hn; obtain ⟨hcw, hfw⟩ := bcell hb1)
    have hk1 : w1.cell? ⟨w.heap.size + 1 + 1, 0, none⟩ = some (.slice none 0 0) := (hcw _ _ (by first | omega | (simp <;> omega))).trans (by go_simp)
    have hk2 := World.cell?_setCell_same w1 ⟨w.heap.size + 1 + 1, 0, none⟩ (.slice A' l'.length c') hk1
    refine bodyPost_ret (v := .agg #[.slice A' l'.length c']) (by simp [results, Tryz.results114, go_sem, hk2]) rfl ⟨_, rfl, (by repeat (first | assumption | exact nB1 _ _ | refine nB2 ?_ | refine pw_below_drewN ?_ _ | refine nB3 ?_ (by first | omega | (simp <;> omega)) _ | refine nB4 ?_ (by first | omega | (simp <;> omega)) _ | refine nB5 ?_ (by assumption) (by first | omega | (simp <;> omega)))), ?_⟩
    obtain ⟨hwd, hnn, hvl⟩ := Hn.out
    refine ⟨A', c', l', rfl, hwd.set hk1 rfl, hnn, hvl.trans ?_⟩
    exact add_fin HL.out HV.out (by omega)
end Go.Proofs.YtadpjidakippeaaGreat

/- math/bits.Len64, LeadingZeros64. -/
namespace Go.Proofs.YtadpjidakippeaaGreat
open Go.RowKit
theorem bitLenAux_eq : ∀ (f x : Nat), x < 2 ^ f → Lib.bitLenAux f x = bl x
 | 0, x, h => by
  have : x = 0 := by simp at h; omega
  subst this; rfl
 | f + 1, x, h => by
  unfold Lib.bitLenAux
  by_cases h0 : x = 0
  · subst h0; rfl
  ·
   rw [if_neg h0, bitLenAux_eq f (x / 2) (by rw [Nat.pow_succ] at h; omega)]
   unfold bl
   rw [if_neg h0, Nat.log2_def x]
   by_cases h1 : x / 2 = 0
   · rw [if_pos h1, if_neg (by omega)]
   · rw [if_neg h1, if_pos (by omega)]; omega
theorem bitLen_eq (x : Nat) (h : x < 18446744073709551616) : Lib.bitLen x = bl x := bitLenAux_eq 64 x h
set_option maxRecDepth 100000 in
theorem len8tab_size : (Lib.len8tab.size : Int) = 256 := by
 have : Lib.len8tab.size = 256 := by decide
 omega
theorem wrap_add (k a b : Nat) (hk : k ≤ 56) (ha : a ≤ 8) (hb : b = k + a) : RowKit.wrap64 ((k : Int) + RowKit.wrap64 (a : Int)) = (b : Int) := by
 unfold RowKit.wrap64
 omega
theorem wrap_wrap (a : Nat) (ha : a ≤ 8) : RowKit.wrap64 (RowKit.wrap64 (a : Int)) = (a : Int) := by
 unfold RowKit.wrap64
 omega
theorem wrap_one (a : Nat) (ha : a ≤ 8) : RowKit.wrap64 (a : Int) = (a : Int) := by
 unfold RowKit.wrap64
 omega
theorem len8_get (y : Int) (h : y.toNat < Lib.len8tab.size) : ((Lib.len8tab[y.toNat]'h).toNat : Int) = Lib.len8 y := by
 unfold Lib.len8
 rw [getElem?_pos Lib.len8tab y.toNat h]
 rfl
set_option maxHeartbeats 32000000 in
set_option maxRecDepth 1000000 in
theorem len64_i (x : Int) (w : World) (h0 : 0 ≤ x) (h1 : x ≤ 18446744073709551615) :
    Calls Tryz.prog 103 #[.int .u64 x] w fun e w' => e = .returned (.int .i64 (Lib.bitLen x.toNat)) ∧ w' = w := by
  go_enter Tryz.func103, Tryz.ntmps103
  go_wp2
  all_goals first
    | (go_ret; refine ⟨congrArg Ending.returned (congrArg (Value.int IntKind.i64) ?_), rfl⟩; go_light)
    | (exfalso
       go_light
       have hs := len8tab_size
       omega)
  all_goals first
    | (rw [len8_get (x / 4294967296 / 65536 / 256) _, Lib.len8_of (x / 4294967296 / 65536 / 256) (by omega) (by omega)]
       have e : (x / 4294967296 / 65536 / 256).toNat = x.toNat / 72057594037927936 := by omega
       have l := Lib.bitLen_le8' (x / 4294967296 / 65536 / 256) (by omega) (by omega)
       have s := Lib.bitLen_shift56 x.toNat (by omega) (by omega)
       rw [e] at l ⊢
       exact wrap_add 56 _ _ (by decide) l s)
    | (rw [len8_get (x / 4294967296 / 65536) _, Lib.len8_of (x / 4294967296 / 65536) (by omega) (by omega)]
       have e : (x / 4294967296 / 65536).toNat = x.toNat / 281474976710656 := by omega
       have l := Lib.bitLen_le8' (x / 4294967296 / 65536) (by omega) (by omega)
       have s := Lib.bitLen_shift48 x.toNat (by omega) (by omega)
       rw [e] at l ⊢
       exact wrap_add 48 _ _ (by decide) l s)
    | (rw [len8_get (x / 4294967296 / 256) _, Lib.len8_of (x / 4294967296 / 256) (by omega) (by omega)]
       have e : (x / 4294967296 / 256).toNat = x.toNat / 1099511627776 := by omega
       have l := Lib.bitLen_le8' (x / 4294967296 / 256) (by omega) (by omega)
       have s := Lib.bitLen_shift40 x.toNat (by omega) (by omega)
       rw [e] at l ⊢
       exact wrap_add 40 _ _ (by decide) l s)
    | (rw [len8_get (x / 4294967296) _, Lib.len8_of (x / 4294967296) (by omega) (by omega)]
       have e : (x / 4294967296).toNat = x.toNat / 4294967296 := by omega
       have l := Lib.bitLen_le8' (x / 4294967296) (by omega) (by omega)
       have s := Lib.bitLen_shift32 x.toNat (by omega) (by omega)
       rw [e] at l ⊢
       exact wrap_add 32 _ _ (by decide) l s)
    | (rw [len8_get (x / 65536 / 256) _, Lib.len8_of (x / 65536 / 256) (by omega) (by omega)]
       have e : (x / 65536 / 256).toNat = x.toNat / 16777216 := by omega
       have l := Lib.bitLen_le8' (x / 65536 / 256) (by omega) (by omega)
       have s := Lib.bitLen_shift24 x.toNat (by omega) (by omega)
       rw [e] at l ⊢
       exact wrap_add 24 _ _ (by decide) l s)
    | (rw [len8_get (x / 65536) _, Lib.len8_of (x / 65536) (by omega) (by omega)]
       have e : (x / 65536).toNat = x.toNat / 65536 := by omega
       have l := Lib.bitLen_le8' (x / 65536) (by omega) (by omega)
       have s := Lib.bitLen_shift16 x.toNat (by omega) (by omega)
       rw [e] at l ⊢
       exact wrap_add 16 _ _ (by decide) l s)
    | (rw [len8_get (x / 256) _, Lib.len8_of (x / 256) (by omega) (by omega)]
       have e : (x / 256).toNat = x.toNat / 256 := by omega
       have l := Lib.bitLen_le8' (x / 256) (by omega) (by omega)
       have s := Lib.bitLen_shift8 x.toNat (by omega) (by omega)
       rw [e] at l ⊢
       exact wrap_add 8 _ _ (by decide) l s)
    | (rw [len8_get (x) _, Lib.len8_of (x) (by omega) (by omega)]
       have e : (x).toNat = x.toNat := by omega
       have l := Lib.bitLen_le8' (x) (by omega) (by omega)
       rw [e] at l ⊢
       first | exact wrap_wrap _ l | exact wrap_add 0 _ _ (by decide) l (by omega) | exact wrap_one _ l)
theorem len64_c (x : Nat) (w : World) (h : x < 18446744073709551616) :
  Calls Tryz.prog 103 #[.int .u64 (x : Int)] w fun e w' => e = .returned (.int .i64 (bl x : Nat)) ∧ w = w' :=
 (len64_i x w (by omega) (by omega)).mono fun e w' ⟨he, hw⟩ => ⟨by rw [he, Int.toNat_natCast, bitLen_eq x h], hw.symm⟩
theorem lead_c (x : Nat) (w : World) (h : x < 18446744073709551616) :
  Calls Tryz.prog 131 #[.int .u64 (x : Int)] w fun e w' => e = .returned (.int .i64 ((64 - bl x : Nat) : Int)) ∧ w = w' := by
 have hb : bl x ≤ 64 := bl_le_of_lt h
 have hc := len64_c x w h
 have Hc := Lib.hid hc
 clear hc
 go_enter Tryz.func131, Tryz.ntmps131
 go_wp2_with (go_at_call 103; refine Hc.out.mono ?_; rintro e w' ⟨rfl, rfl⟩)
 go_ret
 exact ⟨ret_int (by omega), rfl⟩
end Go.Proofs.YtadpjidakippeaaGreat
