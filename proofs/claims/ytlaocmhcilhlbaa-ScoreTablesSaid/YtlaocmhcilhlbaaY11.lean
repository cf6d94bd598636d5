/- score.matched; the closures; slices.IndexFunc and ContainsFunc over whole numbers; score.count. -/
import Derived.Test.YtlaocmhcilhlbaaY10
set_option linter.unusedVariables false
set_option linter.unusedSimpArgs false
namespace Go.Proofs.Ytlaocmhcilhlbaa
open Go.RowKit
theorem rIs.ext {w w' : World} {v : Value} {l : List Int} (h : rIs w v l) (he : Ext w w') : rIs w' v l := by
 obtain ⟨A, c, hv, hc, hI, h⟩ := h
 refine ⟨A, c, hv, hc, hI, fun hl => ?_⟩
 obtain ⟨g, o, hA, h⟩ := h hl
 exact ⟨g, o, hA, fun j hj => ext_cell he (h j hj)⟩
theorem rIs.drew {w : World} {v : Value} {l : List Int} (h : rIs w v l) : rIs w.drew v l := h
theorem rIs.alloc {w : World} {v : Value} {l : List Int} (h : rIs w v l) (o : Obj) : rIs (w.alloc o) v l := h.ext (ext_alloc _ _)
set_option maxRecDepth 100000 in
/-- matched -/
theorem matched_c (w : World) (A B : Option Addr) (n m c d : Nat) : Calls Try.prog 42 #[.slice A n c, .slice B m d] w (Post w fun r _ => r = .bool (decide (n = m ∧ 0 < n))) := by
 by_cases h : n = m
 ·
  subst h
  have e1 : ((n : Int) == (n : Int)) = true := by simp
  by_cases h0 : 0 < n
  ·
   have e2 : (0 : Int) < (n : Int) := by omega
   go_enter Try.func42, Try.ntmps42
   go_wp2_with fail
   go_ret
   exact ⟨_, rfl, Below.refl _ _, by simp [h0]⟩
  ·
   have e2 : ¬ (0 : Int) < (n : Int) := by omega
   go_enter Try.func42, Try.ntmps42
   go_wp2_with fail
   go_ret
   exact ⟨_, rfl, Below.refl _ _, by simp [h0]⟩
 ·
  have e1 : ((n : Int) == (m : Int)) = false := by rw [beq_eq_false_iff_ne]; omega
  have e2 : ¬ (n : Int) = (m : Int) := by omega
  go_enter Try.func42, Try.ntmps42
  go_wp2_with fail
  go_ret
  exact ⟨_, rfl, Below.refl _ _, by simp [h]⟩
set_option maxRecDepth 100000 in
/-- Table$1 -/
theorem none_c (w : World) (b : Nat) (x k : Int) (hc : w.cell? ⟨b, 0, none⟩ = some (.int .i64 k)) : Calls Try.prog 43 #[.int .i64 x, .pointer (some ⟨b, 0, none⟩)] w (Post w fun r _ => r = .bool (decide (x < 0 ∨ k ≤ x))) := by
 rcases Int.lt_or_le x 0 with h | h
 ·
  go_enter Try.func43, Try.ntmps43
  go_wp2_with fail
  go_ret
  exact ⟨_, rfl, Below.refl _ _, by simp [h]⟩
 ·
  have h1 : ¬ x < 0 := by omega
  rcases Int.lt_or_le x k with h2 | h2
  ·
   have h3 : ¬ k ≤ x := by omega
   go_enter Try.func43, Try.ntmps43
   go_wp2_with fail
   go_ret
   exact ⟨_, rfl, Below.refl _ _, by simp [h1, h3]⟩
  ·
   go_enter Try.func43, Try.ntmps43
   go_wp2_with fail
   go_ret
   exact ⟨_, rfl, Below.refl _ _, by simp [h2]⟩
/-- Where the first that is out of the classes stands. -/
def badC (k x : Int) : Bool := decide (x < 0 ∨ k ≤ x)
def IdxSaid (l : List Int) (k : Int) (r : Value) : Prop := ∃ z : Int, r = .int .i64 z ∧ (0 ≤ z ↔ l.any (badC k) = true)
theorem any_take_succ {l : List Int} {p : Int → Bool} {j : Nat} (hj : j < l.length) (h0 : (l.take j).any p = false) (h : p l[j] = false) : (l.take (j + 1)).any p = false := by
 rw [List.take_succ_eq_append_getElem hj, List.any_append, h0]; simp [h]
theorem any_at {l : List Int} {p : Int → Bool} {j : Nat} (hj : j < l.length) (h : p l[j] = true) : l.any p = true := List.any_eq_true.2 ⟨_, List.getElem_mem hj, h⟩
set_option maxRecDepth 100000 in
set_option maxHeartbeats 1000000 in
/-- IndexFunc, of Table$1 -/
theorem index_c (w : World) (v : Value) (b : Nat) (l : List Int) (k : Int) (hl : rIs w v l) (hn : l.length ≤ 1099511627775) (hc : w.cell? ⟨b, 0, none⟩ = some (.int .i64 k)) :
  Calls Try.prog 76 #[v, .func (.func 43) #[] #[.pointer (some ⟨b, 0, none⟩)]] w (Post w fun r _ => IdxSaid l k r) := by
 obtain ⟨A, c, rfl, hl⟩ := hl.shape
 have H1 := Lib.hid hl
 have HN := Lib.hid hn
 have HC := Lib.hid hc
 obtain ⟨n, en⟩ : ∃ n, l.length = n := ⟨_, rfl⟩
 rw [en] at hn ⊢
 have EN := Lib.hid en
 clear hl hc en
 go_enter Try.func76, Try.ntmps76
 go_wp2_with fail
 go_loopw [8] (fun t W => ∃ j : Nat, t = .int .i64 (j : Nat) ∧ j ≤ n ∧ (l.take j).any (badC k) = false ∧ Below w.heap.size w W) (fun t _ => (n - (intOf t).toNat))
 case atStart => exact ⟨0, rfl, Nat.zero_le _, rfl, Below.refl _ _⟩
 case round =>
  obtain ⟨j, rfl, hj, ht, hbw⟩ := hrel
  have HT := Lib.hid ht
  clear ht
  rcases Nat.lt_or_ge j n with hjn | hjn
  ·
   have hji : (j : Int) < (n : Int) := by omega
   have HJ := Lib.hid (show j < l.length by rw [EN.out]; exact hjn)
   obtain ⟨g, o, rfl, xa, hI⟩ := H1.out.at HJ.out
   have xa := ext_cell hbw xa
   obtain ⟨x, ex⟩ : ∃ x, l[j]'HJ.out = x := ⟨_, rfl⟩
   rw [ex] at xa hI
   have EX := Lib.hid ex
   have HK := Lib.hid (none_c wr b x k (ext_cell hbw HC.out))
   have hwj : IntKind.i64.wrap ((j : Int) + 1) = ((j + 1 : Nat) : Int) := i64w (by omega) (by omega)
   clear ex hI
   obtain ⟨y, ey⟩ : ∃ y, decide (x < 0 ∨ k ≤ x) = y := ⟨_, rfl⟩
   rw [ey] at HK
   have EY := Lib.hid (show badC k x = y from ey)
   clear ey
   go_wp2_with fail
   refine HK.out.mono ?_
   rintro e w1 ⟨v1, rfl, hb1, rfl⟩
   have hbw1 := nT hbw hb1
   clear hb1
   cases y with
   | true =>
    have hj0 : (0 : Int) ≤ (j : Int) := by omega
    go_wp2_with fail
    go_ret
    exact ⟨_, rfl, hbw1, _, rfl, by
     have := any_at HJ.out (p := badC k) (by rw [EX.out]; exact EY.out)
     simp only [this, hj0]⟩
   | false =>
    go_wp2
    go_roundw
    case rel => exact ⟨j + 1, rfl, hjn, any_take_succ HJ.out HT.out (by rw [EX.out]; exact EY.out), hbw1⟩
    case measure => simp [intOf]; omega
  ·
   obtain rfl : j = n := by omega
   have hji : ¬ (j : Int) < (j : Int) := by omega
   go_wp2_with fail
   go_ret
   exact ⟨_, rfl, hbw, -1, rfl, by
    have h1 := HT.out
    rw [List.take_of_length_le (by rw [EN.out]; omega)] at h1
    rw [h1]; decide⟩
set_option maxRecDepth 100000 in
/-- ContainsFunc, of Table$1 -/
theorem contains_c (w : World) (v : Value) (b : Nat) (l : List Int) (k : Int) (hl : rIs w v l) (hn : l.length ≤ 1099511627775) (hc : w.cell? ⟨b, 0, none⟩ = some (.int .i64 k)) :
  Calls Try.prog 44 #[v, .func (.func 43) #[] #[.pointer (some ⟨b, 0, none⟩)]] w (Post w fun r _ => r = .bool (l.any (badC k))) := by
 have HI := Lib.hid (index_c w v b l k hl hn hc)
 obtain ⟨A, c, rfl, hl⟩ := hl.shape
 obtain ⟨n, en⟩ : ∃ n, l.length = n := ⟨_, rfl⟩
 rw [en] at HI ⊢
 clear hl hc en hn
 go_enter Try.func44, Try.ntmps44
 go_wp2_with fail
 refine HI.out.mono ?_
 rintro e w1 ⟨v1, rfl, hb1, z, rfl, hz⟩
 have HZ := Lib.hid hz
 clear hz
 go_wp2_with fail
 go_ret
 exact ⟨_, rfl, hb1, (by
  have := HZ.out
  show Value.bool (decide (0 ≤ z)) = _
  congr 1
  rw [Bool.eq_iff_iff, decide_eq_true_iff]
  exact this)⟩
/-- In how many of the first n places two lists are alike. -/
def alike (a b : List Int) : Nat → Nat
 | 0 => 0
 | n + 1 => alike a b n + (if a.getD n 0 = b.getD n 0 then 1 else 0)
theorem alike_le (a b : List Int) : ∀ n, alike a b n ≤ n
 | 0 => Nat.le_refl _
 | n + 1 => by have := alike_le a b n; simp only [alike]; split <;> omega
set_option maxRecDepth 100000 in
set_option maxHeartbeats 1000000 in
/-- Right$1 -/
theorem alike_c (w : World) (b1 b2 : Nat) (A B : Option Addr) (n c d : Nat) (la lb : List Int) (i : Nat) (h1 : w.cell? ⟨b1, 0, none⟩ = some (.slice A n c)) (h2 : w.cell? ⟨b2, 0, none⟩ = some (.slice B n d))
  (ha : rIs w (.slice A n c) la) (hb : rIs w (.slice B n d) lb) (hi : i < n) (hla : la.length = n) (hlb : lb.length = n) :
  Calls Try.prog 50 #[.int .i64 (i : Nat), .pointer (some ⟨b1, 0, none⟩), .pointer (some ⟨b2, 0, none⟩)] w (Post w fun r _ => r = .bool (decide (la.getD i 0 = lb.getD i 0))) := by
 obtain ⟨g, o, rfl, xa, _⟩ := ha.at (j := i) (by omega)
 obtain ⟨g', o', rfl, xb, _⟩ := hb.at (j := i) (by omega)
 have e1 : la[i]'(by omega) = la.getD i 0 := by rw [List.getD_eq_getElem?_getD, List.getElem?_eq_getElem (by omega)]; rfl
 have e2 : lb[i]'(by omega) = lb.getD i 0 := by rw [List.getD_eq_getElem?_getD, List.getElem?_eq_getElem (by omega)]; rfl
 rw [e1] at xa
 rw [e2] at xb
 generalize la.getD i 0 = x at xa ⊢
 generalize lb.getD i 0 = y at xb ⊢
 have hi0 : (i : Int) < (n : Int) := by omega
 have hi1 : (0 : Int) ≤ (i : Int) := by omega
 have H1 := Lib.hid (Cells.cons h1 (Cells.cons h2 (Cells.cons xa (Cells.cons xb (Cells.nil w)))))
 have hbw := Below.refl w.heap.size w
 obtain ⟨h1, h2, xa, xb, _⟩ := H1.out
 clear e1 e2 ha hb
 have HB : Hid (Cells [] w) := Lib.hid (Cells.nil _)
 have hbw : Below w.heap.size w w := Below.refl _ _
 go_enter Try.func50, Try.ntmps50
 go_wp2_with fail
 have HB : Hid (Cells [(b1, 0, .slice (some ⟨g, o, none⟩) n c), (b2, 0, .slice (some ⟨g', o', none⟩) n d), (g, o + i, .int .i64 x), (g', o' + i, .int .i64 y)] w) := Lib.hid (Cells.cons (h1) (Cells.cons (h2) (Cells.cons (xa) (Cells.cons (xb) (Cells.nil _)))))
 replace HB := Lib.hid (HB.out.drew)
 replace hbw := Below.drew hbw
 refine wp_hoist [(0, true), (1, true), (2, true), (3, true), (4, true), (5, true), (6, true), (7, true), (8, true), (9, false)] (Cells [(b1, 0, .slice (some ⟨g, o, none⟩) n c), (b2, 0, .slice (some ⟨g', o', none⟩) n d), (g, o + i, .int .i64 x), (g', o' + i, .int .i64 y)]) (by kernel_rfl) (by kernel_rfl) ?_ ?_
 · exact HB.out
 generalize w.drew = W1 at HB hbw ⊢
 refine hz_yes (v := ?_) rfl (by kernel_rfl) (fun W hW => ?_) ?_; rotate_left; (obtain ⟨y0, y1, y2, y3, _⟩ := hW; go_simp; try with_reducible rfl)
 (try (conv => arg 6; simp only [Act.put, gL]))
 refine hz_yes (v := ?_) rfl (by kernel_rfl) (fun W hW => ?_) ?_; rotate_left; (go_simp; try with_reducible rfl)
 (try (conv => arg 6; simp only [Act.put, gL]))
 refine hz_yes (v := ?_) rfl (by kernel_rfl) (fun W hW => ?_) ?_; rotate_left; (go_simp; try with_reducible rfl)
 (try (conv => arg 6; simp only [Act.put, gL]))
 refine hz_yes (v := ?_) rfl (by kernel_rfl) (fun W hW => ?_) ?_; rotate_left; (obtain ⟨y0, y1, y2, y3, _⟩ := hW; go_simp; try with_reducible rfl)
 (try (conv => arg 6; simp only [Act.put, gL]))
 refine hz_yes (v := ?_) rfl (by kernel_rfl) (fun W hW => ?_) ?_; rotate_left; (obtain ⟨y0, y1, y2, y3, _⟩ := hW; go_simp; try with_reducible rfl)
 (try (conv => arg 6; simp only [Act.put, gL]))
 refine hz_yes (v := ?_) rfl (by kernel_rfl) (fun W hW => ?_) ?_; rotate_left; (go_simp; try with_reducible rfl)
 (try (conv => arg 6; simp only [Act.put, gL]))
 refine hz_yes (v := ?_) rfl (by kernel_rfl) (fun W hW => ?_) ?_; rotate_left; (go_simp; try with_reducible rfl)
 (try (conv => arg 6; simp only [Act.put, gL]))
 refine hz_yes (v := ?_) rfl (by kernel_rfl) (fun W hW => ?_) ?_; rotate_left; (obtain ⟨y0, y1, y2, y3, _⟩ := hW; go_simp; try with_reducible rfl)
 (try (conv => arg 6; simp only [Act.put, gL]))
 refine hz_yes (v := ?_) rfl (by kernel_rfl) (fun W hW => ?_) ?_; rotate_left; (go_simp; try with_reducible rfl)
 (try (conv => arg 6; simp only [Act.put, gL]))
 refine hz_eff rfl (by kernel_rfl) (fun K hK => ?_)
 go_simp
 refine hK.out _ _ ?_ ?_
 · exact HB.out
 clear hK K
 (try (conv => arg 6; simp only [Act.put, gL]))
 refine hz_nil ?_
 go_wp2_with fail
 go_ret
 exact ⟨_, rfl, hbw, by
  show Value.bool (x == y) = _
  rfl⟩
set_option maxRecDepth 100000 in
set_option maxHeartbeats 1000000 in
/-- count, of Right$1 -/
theorem count_c (w : World) (b1 b2 : Nat) (A B : Option Addr) (n c d : Nat) (la lb : List Int) (h1 : w.cell? ⟨b1, 0, none⟩ = some (.slice A n c)) (h2 : w.cell? ⟨b2, 0, none⟩ = some (.slice B n d))
  (ha : rIs w (.slice A n c) la) (hb : rIs w (.slice B n d) lb) (hla : la.length = n) (hlb : lb.length = n) (hn : n ≤ 1099511627775) :
  Calls Try.prog 49 #[.int .i64 (n : Nat), .func (.func 50) #[] #[.pointer (some ⟨b1, 0, none⟩), .pointer (some ⟨b2, 0, none⟩)]] w (Post w fun r _ => r = .int .i64 (alike la lb n : Nat)) := by
 have H1 := Lib.hid h1
 have H2 := Lib.hid h2
 have HA := Lib.hid ha
 have HB := Lib.hid hb
 have HLA := Lib.hid hla
 have HLB := Lib.hid hlb
 clear h1 h2 ha hb hla hlb
 go_enter Try.func49, Try.ntmps49
 go_wp2_with fail
 go_loopw [5, 8] (fun t5 t W => ∃ j : Nat, t = .int .i64 (j : Nat) ∧ j ≤ n ∧ t5 = .int .i64 (alike la lb j : Nat) ∧ Below w.heap.size w W) (fun _ t _ => (n - (intOf t).toNat))
 case atStart => exact ⟨0, rfl, Nat.zero_le _, rfl, Below.refl _ _⟩
 case round =>
  obtain ⟨j, rfl, hj, rfl, hbw⟩ := hrel
  rcases Nat.lt_or_ge j n with hjn | hjn
  ·
   have hji : (j : Int) < (n : Int) := by omega
   have hal := alike_le la lb j
   obtain ⟨s, es⟩ : ∃ s, alike la lb j = s := ⟨_, rfl⟩
   rw [es] at hal ⊢
   have HS := Lib.hid es
   have hwj : IntKind.i64.wrap ((j : Int) + 1) = ((j + 1 : Nat) : Int) := i64w (by omega) (by omega)
   have hws : IntKind.i64.wrap ((s : Int) + 1) = ((s + 1 : Nat) : Int) := i64w (by omega) (by omega)
   have HK := Lib.hid (alike_c wr b1 b2 A B n c d la lb j (ext_cell hbw H1.out) (ext_cell hbw H2.out) (HA.out.ext hbw) (HB.out.ext hbw) hjn HLA.out HLB.out)
   have HT : Hid (alike la lb (j + 1) = s + (if la.getD j 0 = lb.getD j 0 then 1 else 0)) := Lib.hid (by simp only [alike]; rw [HS.out])
   clear es hal
   by_cases hx : la.getD j 0 = lb.getD j 0
   ·
    rw [decide_eq_true hx] at HK
    rw [if_pos hx] at HT
    clear hx
    go_wp2_with fail
    refine HK.out.mono ?_
    rintro e w1 ⟨v1, rfl, hb1, rfl⟩
    have hbw1 := nT hbw hb1
    clear hb1
    go_wp2
    go_roundw
    case rel => exact ⟨j + 1, rfl, hjn, by rw [HT.out]; exact vint (by omega), hbw1⟩
    case measure => simp [intOf]; omega
   ·
    rw [decide_eq_false hx] at HK
    rw [if_neg hx] at HT
    clear hx
    go_wp2_with fail
    refine HK.out.mono ?_
    rintro e w1 ⟨v1, rfl, hb1, rfl⟩
    have hbw1 := nT hbw hb1
    clear hb1
    go_wp2
    go_roundw
    case rel => exact ⟨j + 1, rfl, hjn, by rw [HT.out]; rfl, hbw1⟩
    case measure => simp [intOf]; omega
  ·
   obtain rfl : j = n := by omega
   have hji : ¬ (j : Int) < (j : Int) := by omega
   go_wp2_with fail
   go_ret
   exact ⟨_, rfl, hbw, rfl⟩
end Go.Proofs.Ytlaocmhcilhlbaa

/- Tables of counts: lists of lists of whole numbers in memory; score.Table. -/
namespace Go.Proofs.Ytlaocmhcilhlbaa
open Go.RowKit
/-- A list of lists of whole numbers. -/
def rIss (w : World) (v : Value) (T : List (List Int)) : Prop := ∃ A c, v = .slice A T.length c ∧ T.length ≤ c ∧ (T ≠ [] → ∃ g o, A = some ⟨g, o, none⟩ ∧ ∀ i (hi : i < T.length), ∃ u, w.cell? ⟨g, o + i, none⟩ = some u ∧ rIs w u T[i])
theorem rIss.ext {w w' : World} {v : Value} {T : List (List Int)} (h : rIss w v T) (he : Ext w w') : rIss w' v T := by
 obtain ⟨A, c, hv, hc, h⟩ := h
 refine ⟨A, c, hv, hc, fun hl => ?_⟩
 obtain ⟨g, o, hA, h⟩ := h hl
 refine ⟨g, o, hA, fun i hi => ?_⟩
 obtain ⟨u, h1, h2⟩ := h i hi
 exact ⟨u, ext_cell he h1, h2.ext he⟩
theorem rIss.drew {w : World} {v : Value} {T : List (List Int)} (h : rIss w v T) : rIss w.drew v T := h
theorem rIss.alloc {w : World} {v : Value} {T : List (List Int)} (h : rIss w v T) (o : Obj) : rIss (w.alloc o) v T := h.ext (ext_alloc _ _)
theorem rIss.shape {w : World} {v : Value} {T : List (List Int)} (h : rIss w v T) : ∃ A c, v = .slice A T.length c ∧ rIss w (.slice A T.length c) T := by
 obtain ⟨A, c, rfl, h⟩ := h
 exact ⟨A, c, rfl, A, c, rfl, h⟩
theorem rIss.nil (w : World) : rIss w (.slice none 0 0) [] := ⟨none, 0, rfl, Nat.le_refl _, fun h => absurd rfl h⟩
theorem rIss.at {w : World} {A : Option Addr} {n c : Nat} {T : List (List Int)} (h : rIss w (.slice A n c) T) {i : Nat} (hi : i < T.length) :
  ∃ g o A1 c1, A = some ⟨g, o, none⟩ ∧ w.cell? ⟨g, o + i, none⟩ = some (.slice A1 T[i].length c1) ∧ rIs w (.slice A1 T[i].length c1) T[i] := by
 obtain ⟨A', c', hv, hc, h⟩ := h
 simp only [Value.slice.injEq] at hv
 obtain ⟨rfl, rfl, rfl⟩ := hv
 obtain ⟨g, o, hA, h⟩ := h (by intro e; rw [e] at hi; simp at hi)
 obtain ⟨u, h1, h2⟩ := h i hi
 obtain ⟨A1, c1, rfl, h2⟩ := h2.shape
 exact ⟨g, o, A1, c1, hA, h1, h2⟩
/-! ### what Table counts -/
def tabTo (a b : List Int) : Nat → Nat → Nat → Int
 | 0, _, _ => 0
 | n + 1, i, j => tabTo a b n i j + (if a.getD n 0 = (i : Int) ∧ b.getD n 0 = (j : Int) then 1 else 0)
def tabL (k : Nat) (f : Nat → Nat → Int) : List (List Int) := (List.range k).map (fun i => (List.range k).map (f i))
theorem tabTo_bound (a b : List Int) : ∀ n i j, 0 ≤ tabTo a b n i j ∧ tabTo a b n i j ≤ n
 | 0, _, _ => ⟨Int.le_refl _, Int.le_refl _⟩
 | n + 1, i, j => by have := tabTo_bound a b n i j; simp only [tabTo]; split <;> omega
theorem tabTo_inc (a b : List Int) (n i j : Nat) (hi : a.getD n 0 = (i : Int)) (hj : b.getD n 0 = (j : Int)) : ∀ i' j', tabTo a b (n + 1) i' j' = if i' = i ∧ j' = j then tabTo a b n i j + 1 else tabTo a b n i' j' := by
 intro i' j'
 simp only [tabTo]
 rw [hi, hj]
 split
 ·
  rename_i h
  rw [if_pos ⟨by omega, by omega⟩]
  have h1 : i' = i := by omega
  have h2 : j' = j := by omega
  rw [h1, h2]
 ·
  rename_i h
  rw [if_neg (by omega)]
  omega
/-- The first i0 rows of a table of k rows are there. -/
structure TabIn (W : World) (b k i0 : Nat) (f : Nat → Nat → Int) : Prop where
 outer : Own W b 22 ((List.range k).map fun i => if i < i0 then .slice (some ⟨b + 1 + i, 0, none⟩) k k else .slice none 0 0)
 rows : ∀ i, i < i0 → Own W (b + 1 + i) 3 ((List.range k).map fun j => .int .i64 (f i j))
theorem TabIn.ext {W W' : World} {b k i0 : Nat} {f : Nat → Nat → Int} (h : TabIn W b k i0 f) (he : Ext W W') : TabIn W' b k i0 f := ⟨h.outer.ext he, fun i hi => (h.rows i hi).ext he⟩
theorem TabIn.drew {W : World} {b k i0 : Nat} {f : Nat → Nat → Int} (h : TabIn W b k i0 f) : TabIn W.drew b k i0 f := ⟨h.outer, h.rows⟩
theorem TabIn.alloc {W : World} {b k i0 : Nat} {f : Nat → Nat → Int} (h : TabIn W b k i0 f) (o : Obj) : TabIn (W.alloc o) b k i0 f := h.ext (ext_alloc _ _)
theorem TabIn.other {W : World} {b k i0 : Nat} {f : Nat → Nat → Int} (h : TabIn W b k i0 f) {p : Addr} (v : Value) (hp : p.block < b) : TabIn (W.setCell p v) b k i0 f :=
 ⟨h.outer.other v (by omega), fun i hi => (h.rows i hi).other v (by omega)⟩
theorem madeOne (z : Value) (n : Nat) : madeCells #[z] n = ((List.range n).map (fun _ => z)).toArray := by
 apply Array.ext
 · rw [size_madeCells]; simp
 ·
  intro i h1 h2
  simp [madeCells, Nat.mod_one]
theorem TabIn.start (w : World) (k : Nat) (f : Nat → Nat → Int) : TabIn (w.alloc (.cells (madeCells #[.slice none 0 0] k) 22)) w.heap.size k 0 f := by
 refine ⟨?_, fun i hi => absurd hi (by omega)⟩
 rw [madeOne]
 have := Own.new w 22 ((List.range k).map fun _ => Value.slice none 0 0)
 simpa using this
theorem TabIn.row {W : World} {b k i0 : Nat} {f : Nat → Nat → Int} (h : TabIn W b k i0 f) (hs : W.heap.size = b + 1 + i0) (hf : ∀ j, f i0 j = 0) :
  TabIn ((W.setCell ⟨b, i0, none⟩ (.slice (some ⟨b + 1 + i0, 0, none⟩) k k)).alloc (.cells (madeCells #[.int .i64 0] k) 3)) b k (i0 + 1) f := by
 have h1 := (h.outer.set i0 (.slice (some ⟨b + 1 + i0, 0, none⟩) k k)).alloc (.cells (madeCells #[.int .i64 0] k) 3)
 refine ⟨?_, fun i hi => ?_⟩
 ·
  have e : (((List.range k).map fun i => if i < i0 then Value.slice (some ⟨b + 1 + i, 0, none⟩) k k else .slice none 0 0).set i0 (.slice (some ⟨b + 1 + i0, 0, none⟩) k k)) = (List.range k).map fun i => if i < i0 + 1 then Value.slice (some ⟨b + 1 + i, 0, none⟩) k k else .slice none 0 0 := by
   apply List.ext_getElem?
   intro i
   rw [List.getElem?_set]
   simp only [List.length_map, List.length_range, List.getElem?_map]
   rcases Nat.lt_or_ge i k with hik | hik
   ·
    rw [List.getElem?_range hik]
    simp only [Option.map_some]
    by_cases e : i0 = i
    ·
     subst e
     simp [hik]
    ·
     rw [if_neg e]
     congr 1
     by_cases h2 : i < i0
     · rw [if_pos h2, if_pos (by omega)]
     · rw [if_neg h2, if_neg (by omega)]
   ·
    rw [List.getElem?_eq_none (by simpa using hik)]
    simp only [Option.map_none]
    split
    · rw [if_neg (by omega)]
    · rfl
  rw [e] at h1
  exact h1
 ·
  rcases Nat.lt_or_ge i i0 with hi2 | hi2
  · exact ((h.rows i hi2).other _ (by simp <;> omega)).alloc _
  ·
   obtain rfl : i = i0 := by omega
   have h2 := Own.new' (W.setCell ⟨b, i, none⟩ (.slice (some ⟨b + 1 + i, 0, none⟩) k k)) 3 ((List.range k).map fun j => Value.int .i64 (f i j)) (b + 1 + i) (by simp [World.setCell, hs])
   have e2 : madeCells #[.int .i64 0] k = ((List.range k).map fun j => Value.int .i64 (f i j)).toArray := by
    rw [madeOne]
    congr 2
    funext j
    rw [hf]
   rw [e2]
   exact h2
theorem TabIn.inc {W : World} {b k : Nat} {f f' : Nat → Nat → Int} (h : TabIn W b k k f) {i j : Nat} {z : Int} (hi : i < k) (hj : j < k) (hf : ∀ i' j', f' i' j' = if i' = i ∧ j' = j then z else f i' j') :
  TabIn (W.setCell ⟨b + 1 + i, j, none⟩ (.int .i64 z)) b k k f' := by
 refine ⟨h.outer.other _ (by simp <;> omega), fun i' hi' => ?_⟩
 by_cases e : i' = i
 ·
  subst e
  have h1 := (h.rows i' hi).set j (.int .i64 z)
  have e2 : ((List.range k).map fun j => Value.int .i64 (f i' j)).set j (.int .i64 z) = (List.range k).map fun j => Value.int .i64 (f' i' j) := by
   apply List.ext_getElem?
   intro m
   rw [List.getElem?_set]
   simp only [List.length_map, List.length_range, List.getElem?_map]
   rcases Nat.lt_or_ge m k with hmk | hmk
   ·
    rw [List.getElem?_range hmk]
    simp only [Option.map_some]
    by_cases e : j = m
    ·
     subst e
     rw [if_pos rfl, if_pos hj, hf, if_pos ⟨rfl, rfl⟩]
    · rw [if_neg e, hf, if_neg (by omega)]
   ·
    rw [List.getElem?_eq_none (by simpa using hmk)]
    simp only [Option.map_none]
    split
    · omega
    · rfl
  rw [e2] at h1
  exact h1
 ·
  have h1 := (h.rows i' hi').other (p := ⟨b + 1 + i, j, none⟩) (.int .i64 z) (by simp <;> omega)
  have e2 : ((List.range k).map fun j => Value.int .i64 (f i' j)) = (List.range k).map fun j => Value.int .i64 (f' i' j) := by
   congr 1
   funext m
   rw [hf, if_neg (by omega)]
  rw [e2] at h1
  exact h1
theorem TabIn.cell1 {W : World} {b k i0 : Nat} {f : Nat → Nat → Int} (h : TabIn W b k i0 f) {i : Nat} (hi : i < i0) (hk : i < k) : W.cell? ⟨b, i, none⟩ = some (.slice (some ⟨b + 1 + i, 0, none⟩) k k) := by
 refine h.outer.cell i _ ?_
 rw [List.getElem?_map, List.getElem?_range hk, Option.map_some, if_pos hi]
theorem TabIn.cell0 {W : World} {b k i0 : Nat} {f : Nat → Nat → Int} (h : TabIn W b k i0 f) {i : Nat} (hi : i0 ≤ i) (hk : i < k) : W.cell? ⟨b, i, none⟩ = some (.slice none 0 0) := by
 refine h.outer.cell i _ ?_
 rw [List.getElem?_map, List.getElem?_range hk, Option.map_some, if_neg (by omega)]
theorem TabIn.cell2 {W : World} {b k i0 : Nat} {f : Nat → Nat → Int} (h : TabIn W b k i0 f) {i j : Nat} (hi : i < i0) (hj : j < k) : W.cell? ⟨b + 1 + i, j, none⟩ = some (.int .i64 (f i j)) := by
 refine (h.rows i hi).cell j _ ?_
 rw [List.getElem?_map, List.getElem?_range hj, Option.map_some]
theorem tabL_length (k : Nat) (f : Nat → Nat → Int) : (tabL k f).length = k := by simp [tabL]
theorem tabL_row (k : Nat) (f : Nat → Nat → Int) (i : Nat) (h : i < (tabL k f).length) : (tabL k f)[i] = (List.range k).map (f i) := by simp [tabL]
theorem TabIn.done {W : World} {b k : Nat} {f : Nat → Nat → Int} (h : TabIn W b k k f) (hf : ∀ i j, I64 (f i j)) : rIss W (.slice (some ⟨b, 0, none⟩) k k) (tabL k f) := by
 refine ⟨_, k, by rw [tabL_length], by rw [tabL_length]; omega, fun _ => ⟨b, 0, rfl, fun i hi => ?_⟩⟩
 have hik : i < k := by rw [tabL_length] at hi; exact hi
 refine ⟨_, by rw [Nat.zero_add]; exact h.cell1 hik hik, _, k, by rw [tabL_row]; simp, by rw [tabL_row]; simp, ?_, fun _ => ⟨b + 1 + i, 0, rfl, fun j hj => ?_⟩⟩
 ·
  intro x hx
  rw [tabL_row] at hx
  obtain ⟨j, _, rfl⟩ := List.mem_map.1 hx
  exact hf i j
 ·
  have hjk : j < k := by rw [tabL_row] at hj; simpa using hj
  have e : (tabL k f)[i][j] = f i j := by simp [tabL]
  rw [e, Nat.zero_add]
  exact h.cell2 hik hjk
theorem undI : Try.prog.underlying 22 = some (.slice 3) := by kernel_rfl
theorem undIs : Try.prog.underlying 46 = some (.slice 22) := by kernel_rfl
theorem infoI : ∃ i z, Try.prog.info? 3 = some i ∧ i.zero = some z ∧ z.cells = #[.int .i64 0] ∧ i.size = 1 ∧ i.bytes ≤ 64 := by
 have h : (Try.prog.info? 3).map (fun i => (i.zero.map Value.cells, i.size, decide (i.bytes ≤ 64))) = some (some #[.int .i64 0], 1, true) := by kernel_rfl
 obtain ⟨i, hi, he⟩ := Option.map_eq_some_iff.1 h
 simp only [Prod.mk.injEq] at he
 obtain ⟨z, hz, hc⟩ := Option.map_eq_some_iff.1 he.1
 exact ⟨i, z, hi, hz, hc, he.2.1, of_decide_eq_true he.2.2⟩
theorem infoIs : ∃ i z, Try.prog.info? 22 = some i ∧ i.zero = some z ∧ z.cells = #[.slice none 0 0] ∧ i.size = 1 ∧ i.bytes ≤ 64 := by
 have h : (Try.prog.info? 22).map (fun i => (i.zero.map Value.cells, i.size, decide (i.bytes ≤ 64))) = some (some #[.slice none 0 0], 1, true) := by kernel_rfl
 obtain ⟨i, hi, he⟩ := Option.map_eq_some_iff.1 h
 simp only [Prod.mk.injEq] at he
 obtain ⟨z, hz, hc⟩ := Option.map_eq_some_iff.1 he.1
 exact ⟨i, z, hi, hz, hc, he.2.1, of_decide_eq_true he.2.2⟩
theorem mkI (n : Int) (m : Nat) (e : n = m) (hn : m ≤ 1099511627776) (W : World) : (Instr.makeSlice 22 (.int .i64 n) (.int .i64 n)).run Try.prog W = .ok (.slice (some ⟨W.heap.size, 0, none⟩) m m) (W.alloc (.cells (madeCells #[.int .i64 0] m) 3)) := by
 subst e
 obtain ⟨i, z, hi, hz, h1, h2, h3⟩ := infoI
 have hb : (i.bytes : Int) * (m : Int) ≤ 64 * m := Int.mul_le_mul_of_nonneg_right (by omega) (by omega)
 have h := run_make (P := Try.prog) W _ _ i z undI hi hz .i64 .i64 m m (by omega) (by omega) (by omega) (by omega)
 rw [h, h1, h2]
 simp
theorem mkIs (n : Int) (m : Nat) (e : n = m) (hn : m ≤ 1099511627776) (W : World) : (Instr.makeSlice 46 (.int .i64 n) (.int .i64 n)).run Try.prog W = .ok (.slice (some ⟨W.heap.size, 0, none⟩) m m) (W.alloc (.cells (madeCells #[.slice none 0 0] m) 22)) := by
 subst e
 obtain ⟨i, z, hi, hz, h1, h2, h3⟩ := infoIs
 have hb : (i.bytes : Int) * (m : Int) ≤ 64 * m := Int.mul_le_mul_of_nonneg_right (by omega) (by omega)
 have h := run_make (P := Try.prog) W _ _ i z undIs hi hz .i64 .i64 m m (by omega) (by omega) (by omega) (by omega)
 rw [h, h1, h2]
 simp
end Go.Proofs.Ytlaocmhcilhlbaa

/- score.Table, of classes that may be. -/
namespace Go.Proofs.Ytlaocmhcilhlbaa
open Go.RowKit
def TableSaid (w' : World) (r : Value) (k : Nat) (a b : List Int) : Prop := ∃ A c, r = .tuple #[.slice A k c, .int .i64 0] ∧ rIss w' (.slice A k c) (tabL k (tabTo a b a.length))
structure TabMid (w : World) (bT k i : Nat) (W : World) : Prop where
 be : Below w.heap.size w W
 bx : W.cell? ⟨w.heap.size, 0, none⟩ = some (.int .i64 (k : Nat))
 tb : TabIn W bT k i (fun _ _ => 0)
 sz : W.heap.size = bT + 1 + i
 lt : w.heap.size < bT
structure TabRun (w : World) (bT k : Nat) (f : Nat → Nat → Int) (W : World) : Prop where
 be : Below w.heap.size w W
 tb : TabIn W bT k k f
 lt : w.heap.size < bT
structure TabNew (W : World) (b k : Nat) (f : Nat → Nat → Int) : Prop where
 tb : TabIn W b k 0 f
 sz : W.heap.size = b + 1 + 0
theorem TabNew.start (w : World) (k : Nat) (f : Nat → Nat → Int) : TabNew (w.alloc (.cells (madeCells #[.slice none 0 0] k) 22)) w.heap.size k f := ⟨TabIn.start w k f, by show (w.heap.push _).size = _; simp⟩
theorem good_at {l : List Int} {k : Nat} (h : l.any (badC (k : Int)) = false) {j : Nat} (hj : j < l.length) : ∃ i : Nat, i < k ∧ l.getD j 0 = (i : Int) ∧ l[j] = (i : Int) := by
 have e : l.getD j 0 = l[j] := by rw [List.getD_eq_getElem?_getD, List.getElem?_eq_getElem hj]; rfl
 have h1 : badC (k : Int) l[j] = false := by
  cases h2 : badC (k : Int) l[j] with
  | false => rfl
  | true => rw [any_at hj h2] at h; cases h
 simp only [badC, decide_eq_false_iff_not, not_or, Int.not_lt, Int.not_le] at h1
 exact ⟨l[j].toNat, by omega, by rw [e]; omega, by omega⟩
set_option maxRecDepth 100000 in
set_option maxHeartbeats 4000000 in
/-- Table -/
theorem table_c (w : World) (va vb : Value) (a b : List Int) (k : Nat) (ha : rIs w va a) (hb : rIs w vb b) (hab : b.length = a.length) (h0 : 0 < a.length) (hn : a.length ≤ 1099511627775) (hk : 0 < k) (hk2 : k ≤ 12)
  (hga : a.any (badC (k : Int)) = false) (hgb : b.any (badC (k : Int)) = false) : Calls Try.prog 17 #[va, vb, .int .i64 (k : Nat)] w (Post w fun r w' => TableSaid w' r k a b) := by
 obtain ⟨A, c, rfl, ha⟩ := ha.shape
 obtain ⟨B, d, rfl, hb⟩ := hb.shape
 have HC1 := Lib.hid (fun W bx h hc => contains_c W (.slice A a.length c) bx a (k : Int) h hn hc)
 have HC2 := Lib.hid (fun W bx h hc => contains_c W (.slice B b.length d) bx b (k : Int) h (by omega) hc)
 rw [hga] at HC1
 rw [hgb] at HC2
 have H1 := Lib.hid ha
 have H2 := Lib.hid hb
 have HG1 := Lib.hid hga
 have HG2 := Lib.hid hgb
 have HE : Hid (∀ W bT, rIss W (.slice (some ⟨bT, 0, none⟩) k k) (tabL k (tabTo a b a.length)) → TableSaid W (.tuple #[.slice (some ⟨bT, 0, none⟩) k k, .int .i64 0]) k a b) := Lib.hid (fun W bT h => ⟨_, _, rfl, h⟩)
 rw [hab] at HC2 H2 ⊢
 obtain ⟨n, en⟩ : ∃ n, a.length = n := ⟨_, rfl⟩
 have HBN := Lib.hid (hab.trans en)
 rw [en] at HC1 HC2 H1 H2 HE h0 hn ⊢
 have HAN := Lib.hid en
 have HM := Lib.hid (fun W => matched_c W A B n n c d)
 rw [show decide (n = n ∧ 0 < n) = true from by simp [h0]] at HM
 have hk3 : ¬ (k : Int) < 1 := by omega
 have hk4 : ¬ (12 : Int) < (k : Int) := by omega
 have hmk1 := fun W => mkIs (k : Int) k rfl (by omega) W
 have hmk2 := fun W => mkI (k : Int) k rfl (by omega) W
 have HKK := Lib.hid hk2
 have hmf : ∀ (fn : Fn) (first cap : Array Value) (w : World), (Instr.makeFunc fn first cap).run Try.prog w = .ok (.func fn first cap) w := fun _ _ _ _ => rfl
 clear ha hb hab hga hgb en
 have HB : Hid (Cells [(w.heap.size, 0, .int .i64 (k : Nat))] (w.alloc (.cells #[.int .i64 (k : Nat)] 3))) := Lib.hid (Cells.cons (by go_simp) (Cells.nil _))
 have hbw : Below w.heap.size w (w.alloc (.cells #[.int .i64 (k : Nat)] 3)) := (by repeat (first | assumption | exact Below.refl _ _ | refine Below.drew ?_ | refine pw_below_drewN ?_ _ | refine Below.alloc ?_ (by first | omega | (simp <;> omega)) _ | refine Below.setCell ?_ (by first | omega | (simp <;> omega)) _ | refine Below.trans ?_ (Below.mono (by assumption) (by first | omega | (simp <;> omega)))))
 go_enter Try.func17, Try.ntmps17
 go_wp2_with fail
 generalize (w.alloc (.cells #[.int .i64 (k : Nat)] 3)) = W0 at HB hbw ⊢
 refine (HM.out _).mono ?_
 rintro e W1 ⟨v1, rfl, hb1, rfl⟩
 replace HB := Lib.hid (HB.out.ext hb1)
 replace hbw := nT hbw hb1
 clear hb1
 obtain ⟨y0, _⟩ := id HB.out
 go_wp2_with fail
 clear y0
 refine (HC1.out _ _ (H1.out.ext hbw) HB.out.1).mono ?_
 rintro e W2 ⟨v1, rfl, hb1, rfl⟩
 replace HB := Lib.hid (HB.out.ext hb1)
 replace hbw := nT hbw hb1
 clear hb1
 obtain ⟨y0, _⟩ := id HB.out
 go_wp2_with fail
 clear y0
 refine (HC2.out _ _ (H2.out.ext hbw) HB.out.1).mono ?_
 rintro e W3 ⟨v1, rfl, hb1, rfl⟩
 replace HB := Lib.hid (HB.out.ext hb1)
 replace hbw := nT hbw hb1
 clear hb1
 obtain ⟨y0, _⟩ := id HB.out
 go_upto_region 7 with (fail)
 clear y0
 have zb := cell_lt HB.out.1
 have z_HT := hbw.size
 replace HB := Lib.hid (HB.out.alloc (.cells (madeCells #[.slice none 0 0] k) 22))
 replace hbw := Below.alloc hbw hbw.size (.cells (madeCells #[.slice none 0 0] k) 22)
 have HT := Lib.hid (TabNew.start W3 k (fun _ _ => 0))
 obtain ⟨bHT, e_HT⟩ : ∃ b, W3.heap.size = b := ⟨_, rfl⟩
 simp only [e_HT] at HT z_HT ⊢
 generalize (W3.alloc (.cells (madeCells #[.slice none 0 0] k) 22)) = W4 at HB HT hbw ⊢
 rw [e_HT] at zb
 go_upto_block 0 with (fail)
 go_cut [] (fun WC => TabMid w bHT k k WC)
 case first =>
  go_wp2_with fail
  go_loopw [37] (fun t W => ∃ i : Nat, t = .int .i64 (i : Nat) ∧ i ≤ k ∧ TabMid w bHT k i W) (fun t _ => (k - (intOf t).toNat))
  case atStart => exact ⟨0, rfl, Nat.zero_le _, hbw, HB.out.1, HT.out.tb, HT.out.sz, zb⟩
  case round =>
   obtain ⟨i, rfl, hi, hd⟩ := hrel
   clear HB HT hbw
   have HD := Lib.hid hd
   clear hd
   rcases Nat.lt_or_ge i k with hik | hik
   ·
    have hii : (i : Int) < (k : Int) := by omega
    have HIK := Lib.hid hik
    have hwi : IntKind.i64.wrap ((i : Int) + 1) = ((i + 1 : Nat) : Int) := i64w (by omega) (by omega)
    have y0 := HD.out.bx
    have q0 := HD.out.tb.cell0 (Nat.le_refl i) hik
    have f0 := HD.out.tb.outer.frozen i
    have l0 := HD.out.tb.outer.lt
    have l1 := cell_lt y0
    clear hi
    go_wp2
    go_roundw
    case rel =>
     have hs := HD.out.sz
     have hr := HD.out.tb.row (f := fun _ _ => 0) hs (fun _ => rfl)
     rw [← hs] at hr
     have hlt := HD.out.lt
     refine ⟨i + 1, rfl, HIK.out, ?_, ?_, hr, ?_, hlt⟩
     · exact (Below.setCell HD.out.be (by show w.heap.size ≤ bHT; omega) _).alloc (by simp [World.setCell]; omega) _
     ·
      refine ext_cell (ext_alloc _ _) ?_
      rw [World.cell?_setCell_other _ _ _ _ (by simp <;> omega)]
      exact y0
     ·
      rw [World.alloc]
      simp [World.setCell]; omega
    case measure => simp [intOf]; have := HIK.out; omega
   ·
    obtain rfl : i = k := by omega
    have hii : ¬ (i : Int) < (i : Int) := by omega
    have y0 := HD.out.bx
    go_wp2_with fail
    go_meet
    exact HD.out
 clear HB HT hbw zb z_HT hmk1 hmk2
 have HD := Lib.hid hcut
 clear hcut
 go_upto_block 2 with (fail)
 go_cut [] (fun WC => TabRun w bHT k (tabTo a b n) WC)
 case first =>
  go_wp2_with fail
  go_loopw [48] (fun t W => ∃ x : Nat, t = .int .i64 (x : Nat) ∧ x ≤ n ∧ TabRun w bHT k (tabTo a b x) W) (fun t _ => (n - (intOf t).toNat))
  case atStart => exact ⟨0, rfl, Nat.zero_le _, HD.out.be, HD.out.tb, HD.out.lt⟩
  case round =>
   obtain ⟨x, rfl, hx, hd⟩ := hrel
   clear HD
   have HD := Lib.hid hd
   clear hd
   rcases Nat.lt_or_ge x n with hxn | hxn
   ·
    have hxi : (x : Int) < (n : Int) := by omega
    have HXN := Lib.hid hxn
    have hwx : IntKind.i64.wrap ((x : Int) + 1) = ((x + 1 : Nat) : Int) := i64w (by omega) (by omega)
    obtain ⟨i, hik, ei, ei2⟩ := good_at HG1.out (j := x) (by rw [HAN.out]; exact hxn)
    obtain ⟨j, hjk, ej, ej2⟩ := good_at HG2.out (j := x) (by rw [HBN.out]; exact hxn)
    have HIJ := Lib.hid (tabTo_inc a b x i j ei ej)
    have hbw := HD.out.be
    obtain ⟨g, o, rfl, xa, _⟩ := H1.out.at (j := x) (by rw [HAN.out]; exact hxn)
    obtain ⟨g', o', rfl, xb, _⟩ := H2.out.at (j := x) (by rw [HBN.out]; exact hxn)
    rw [ei2] at xa
    rw [ej2] at xb
    have ya := ext_cell hbw xa
    have yb := ext_cell hbw xb
    have gl := cell_lt xa
    have gl' := cell_lt xb
    have hbd := tabTo_bound a b x i j
    have hT := HD.out.tb
    have HT := Lib.hid hT
    have c1 := hT.cell1 hik hik
    have c2 := hT.cell2 hik hjk
    obtain ⟨z, ez⟩ : ∃ z, tabTo a b x i j = z := ⟨_, rfl⟩
    rw [ez] at c2 hbd HIJ
    have hwz : IntKind.i64.wrap (z + 1) = z + 1 := i64w (by omega) (by omega)
    have hii : (i : Int) < (k : Int) := by omega
    have hjj : (j : Int) < (k : Int) := by omega
    have zb := HD.out.lt
    have HKI := Lib.hid (And.intro hik hjk)
    clear xa xb hT ez hbd hx hik hjk ei ej ei2 ej2
    go_wp2_with fail
    have HB : Hid (Cells [(g, o + x, .int .i64 (i : Nat)), (bHT, i, .slice (some ⟨bHT + 1 + i, 0, none⟩) k k), (g', o' + x, .int .i64 (j : Nat)), (bHT + 1 + i, j, .int .i64 z)] wr) := Lib.hid (Cells.cons (ya) (Cells.cons (c1) (Cells.cons (yb) (Cells.cons (c2) (Cells.nil _)))))
    clear ya yb c1 c2
    replace HB := Lib.hid (HB.out.drew)
    replace HT := Lib.hid (HT.out.drew)
    replace hbw := Below.drew hbw
    refine wp_hoistL [(0, true), (1, true), (2, true), (3, true), (4, true), (5, true), (6, true), (7, true), (8, true), (9, true), (10, true), (11, true), (12, true), (13, true), (14, true), (15, false)] 15 (Cells [(g, o + x, .int .i64 (i : Nat)), (bHT, i, .slice (some ⟨bHT + 1 + i, 0, none⟩) k k), (g', o' + x, .int .i64 (j : Nat)), (bHT + 1 + i, j, .int .i64 z)]) (by kernel_rfl) (by kernel_rfl) ?_ ?_
    · exact HB.out
    generalize wr.drew = W21 at HB HT hbw ⊢
    refine hl_yes (v := ?_) rfl (by kernel_rfl) (fun W hW => ?_) ?_; rotate_left; (go_simp; try with_reducible rfl)
    (try simp only [Act.put, gL])
    refine hl_yes (v := ?_) rfl (by kernel_rfl) (fun W hW => ?_) ?_; rotate_left; (go_simp; try with_reducible rfl)
    (try simp only [Act.put, gL])
    refine hl_yes (v := ?_) rfl (by kernel_rfl) (fun W hW => ?_) ?_; rotate_left; (go_simp; try with_reducible rfl)
    (try simp only [Act.put, gL])
    refine hl_yes (v := ?_) rfl (by kernel_rfl) (fun W hW => ?_) ?_; rotate_left; (go_simp; try with_reducible rfl)
    (try simp only [Act.put, gL])
    refine hl_yes (v := ?_) rfl (by kernel_rfl) (fun W hW => ?_) ?_; rotate_left; (obtain ⟨y0, y1, y2, y3, _⟩ := hW; go_simp; try with_reducible rfl)
    (try simp only [Act.put, gL])
    refine hl_yes (v := ?_) rfl (by kernel_rfl) (fun W hW => ?_) ?_; rotate_left; (go_simp; try with_reducible rfl)
    (try simp only [Act.put, gL])
    refine hl_yes (v := ?_) rfl (by kernel_rfl) (fun W hW => ?_) ?_; rotate_left; (obtain ⟨y0, y1, y2, y3, _⟩ := hW; go_simp; try with_reducible rfl)
    (try simp only [Act.put, gL])
    refine hl_yes (v := ?_) rfl (by kernel_rfl) (fun W hW => ?_) ?_; rotate_left; (go_simp; try with_reducible rfl)
    (try simp only [Act.put, gL])
    refine hl_yes (v := ?_) rfl (by kernel_rfl) (fun W hW => ?_) ?_; rotate_left; (go_simp; try with_reducible rfl)
    (try simp only [Act.put, gL])
    refine hl_yes (v := ?_) rfl (by kernel_rfl) (fun W hW => ?_) ?_; rotate_left; (go_simp; try with_reducible rfl)
    (try simp only [Act.put, gL])
    refine hl_yes (v := ?_) rfl (by kernel_rfl) (fun W hW => ?_) ?_; rotate_left; (obtain ⟨y0, y1, y2, y3, _⟩ := hW; go_simp; try with_reducible rfl)
    (try simp only [Act.put, gL])
    refine hl_yes (v := ?_) rfl (by kernel_rfl) (fun W hW => ?_) ?_; rotate_left; (go_simp; try with_reducible rfl)
    (try simp only [Act.put, gL])
    refine hl_yes (v := ?_) rfl (by kernel_rfl) (fun W hW => ?_) ?_; rotate_left; (obtain ⟨y0, y1, y2, y3, _⟩ := hW; go_simp; try with_reducible rfl)
    (try simp only [Act.put, gL])
    refine hl_yes (v := ?_) rfl (by kernel_rfl) (fun W hW => ?_) ?_; rotate_left; (go_simp; try with_reducible rfl)
    (try simp only [Act.put, gL])
    refine hl_yes (v := ?_) rfl (by kernel_rfl) (fun W hW => ?_) ?_; rotate_left; (go_simp; try with_reducible rfl)
    (try simp only [Act.put, gL])
    have q0 := HT.out.cell2 HKI.out.1 HKI.out.2
    have f0 := (HT.out.rows i HKI.out.1).frozen j
    refine hl_last rfl (by kernel_rfl) (fun K hK => ?_)
    go_simp
    refine hK.out _ _ ?_
    clear hK K HB
    go_wp2
    go_roundw
    case rel => exact ⟨x + 1, rfl, HXN.out, Below.setCell hbw (by show w.heap.size ≤ bHT + 1 + i; omega) _, HT.out.inc HKI.out.1 HKI.out.2 HIJ.out, zb⟩
    case measure => simp [intOf]; have := HXN.out; omega
   ·
    obtain rfl : x = n := by omega
    have hxi : ¬ (x : Int) < (x : Int) := by omega
    go_wp2_with fail
    go_meet
    exact HD.out
 clear HD
 have HD := Lib.hid hcut
 clear hcut
 go_wp2_with fail
 refine bodyPost_ret (v := .tuple #[.slice (some ⟨bHT, 0, none⟩) k k, .int .i64 0]) (by simp [results, Try.results17, go_sem]) rfl ⟨_, rfl, HD.out.be, ?_⟩
 exact HE.out _ _ (HD.out.tb.done (fun i j => by have := tabTo_bound a b n i j; unfold I64; omega))
end Go.Proofs.Ytlaocmhcilhlbaa

/- Tables that are square: score.counted; the second ContainsFunc. -/
namespace Go.Proofs.Ytlaocmhcilhlbaa
open Go.RowKit
def at2 (T : List (List Int)) (i j : Nat) : Int := (T.getD i []).getD j 0
def sumF (f : Nat → Int) : Nat → Int
 | 0 => 0
 | n + 1 => sumF f n + f n
theorem sumF_nonneg {f : Nat → Int} {k : Nat} (h : ∀ j, j < k → 0 ≤ f j) : ∀ n, n ≤ k → 0 ≤ sumF f n
 | 0, _ => Int.le_refl _
 | n + 1, hn => by have := sumF_nonneg h n (by omega); have := h n (by omega); simp only [sumF]; omega
theorem sumF_mono {f : Nat → Int} {k : Nat} (h : ∀ j, j < k → 0 ≤ f j) : ∀ n m, n ≤ m → m ≤ k → sumF f n ≤ sumF f m
 | n, 0, hnm, _ => by rw [show n = 0 by omega]; exact Int.le_refl _
 | n, m + 1, hnm, hm => by
  rcases Nat.lt_or_ge n (m + 1) with h1 | h1
  · have := sumF_mono h n m (by omega) (by omega); have := h m (by omega); simp only [sumF]; omega
  · rw [show n = m + 1 by omega]; exact Int.le_refl _
theorem sumF_term {f : Nat → Int} {k : Nat} (h : ∀ j, j < k → 0 ≤ f j) (j : Nat) (hj : j < k) : f j ≤ sumF f k := by
 have h1 := sumF_mono h (j + 1) k (by omega) (Nat.le_refl _)
 have h2 := sumF_nonneg h j (by omega)
 simp only [sumF] at h1
 omega
structure Sq (T : List (List Int)) (k : Nat) : Prop where
 len : T.length = k
 row : ∀ l ∈ T, l.length = k
structure OkT (T : List (List Int)) (k : Nat) : Prop where
 pos : ∀ i j, i < k → j < k → 0 ≤ at2 T i j
 all : sumF (fun i => sumF (at2 T i) k) k ≤ 2147483647
theorem rIss.row {w : World} {A : Option Addr} {n c k : Nat} {T : List (List Int)} (h : rIss w (.slice A n c) T) (hs : Sq T k) {i : Nat} (hi : i < k) :
  ∃ g o g1 o1 c1, A = some ⟨g, o, none⟩ ∧ w.cell? ⟨g, o + i, none⟩ = some (.slice (some ⟨g1, o1, none⟩) k c1) ∧ ∀ j, j < k → w.cell? ⟨g1, o1 + j, none⟩ = some (.int .i64 (at2 T i j)) ∧ I64 (at2 T i j) := by
 have hiT : i < T.length := by rw [hs.len]; exact hi
 obtain ⟨g, o, A1, c1, hA, h1, h2⟩ := h.at hiT
 have hl : T[i].length = k := hs.row _ (List.getElem_mem hiT)
 have e : T.getD i [] = T[i] := by rw [List.getD_eq_getElem?_getD, List.getElem?_eq_getElem hiT]; rfl
 rw [hl] at h1 h2
 obtain ⟨A', c', hv, _, hI, h3⟩ := h2
 simp only [Value.slice.injEq] at hv
 obtain ⟨rfl, _, rfl⟩ := hv
 obtain ⟨g1, o1, rfl, h4⟩ := h3 (by intro e; rw [e] at hl; simp at hl; omega)
 refine ⟨g, o, g1, o1, c1, hA, h1, fun j hj => ?_⟩
 have hj' : j < T[i].length := by rw [hl]; exact hj
 have e2 : at2 T i j = T[i][j] := by unfold at2; rw [e, List.getD_eq_getElem?_getD, List.getElem?_eq_getElem hj']; rfl
 rw [e2]
 exact ⟨h4 j hj', hI _ (List.getElem_mem hj')⟩
set_option maxRecDepth 100000 in
set_option maxHeartbeats 2000000 in
/-- counted, of counts that are not too many -/
theorem counted_c (w : World) (v : Value) (T : List (List Int)) (k : Nat) (hT : rIss w v T) (hs : Sq T k) (hk : k ≤ 1099511627775) (ho : OkT T k) : Calls Try.prog 47 #[v] w (Post w fun r _ => r = .bool true) := by
 obtain ⟨A, c, rfl, hT⟩ := hT.shape
 rw [hs.len] at hT ⊢
 have H1 := Lib.hid hT
 have HS := Lib.hid hs
 have HO := Lib.hid ho
 have HK := Lib.hid hk
 clear hT hs ho
 go_enter Try.func47, Try.ntmps47
 go_wp2_with fail
 go_loopw [3, 10] (fun t3 t W => ∃ i : Nat, t = .int .i64 (i : Nat) ∧ i ≤ k ∧ t3 = .int .i64 (2147483647 - sumF (fun i => sumF (at2 T i) k) i) ∧ Below w.heap.size w W) (fun _ t _ => (k - (intOf t).toNat))
 case atStart => exact ⟨0, rfl, Nat.zero_le _, rfl, Below.refl _ _⟩
 case round =>
  obtain ⟨i, rfl, hi, rfl, hbw⟩ := hrel
  rcases Nat.lt_or_ge i k with hik | hik
  ·
   have hii : (i : Int) < (k : Int) := by omega
   have HIK := Lib.hid hik
   have hwi : IntKind.i64.wrap ((i : Int) + 1) = ((i + 1 : Nat) : Int) := i64w (by omega) (by omega)
   obtain ⟨g, o, g1, o1, c1, rfl, xa, xb⟩ := H1.out.row HS.out hik
   have ya := ext_cell hbw xa
   have HB := Lib.hid xb
   have e0 : ∀ i j, i < k → j ≤ k → 0 ≤ sumF (at2 T i) j := fun i j hi hj => sumF_nonneg (fun j hj => HO.out.pos i j hi hj) j hj
   have e1 : sumF (fun i => sumF (at2 T i) k) (i + 1) ≤ 2147483647 := Int.le_trans (sumF_mono (fun i hi => e0 i k hi (Nat.le_refl _)) (i + 1) k (by omega) (Nat.le_refl _)) HO.out.all
   have e2 : 0 ≤ sumF (fun i => sumF (at2 T i) k) i := sumF_nonneg (fun i hi => e0 i k hi (Nat.le_refl _)) i hi
   have ES : sumF (fun i => sumF (at2 T i) k) (i + 1) = sumF (fun i => sumF (at2 T i) k) i + sumF (at2 T i) k := rfl
   have EI := Lib.hid ES
   obtain ⟨s, es⟩ : ∃ s, sumF (fun i => sumF (at2 T i) k) i = s := ⟨_, rfl⟩
   rw [ES] at e1
   rw [es] at e1 e2 EI ⊢
   have E1 := Lib.hid e1
   have E2 := Lib.hid e2
   clear xa xb hi es ES e1 e2 e0
   go_wp2_with fail
   go_loopw [3, 16] (fun t3 t W => ∃ j : Nat, t = .int .i64 (j : Nat) ∧ j ≤ k ∧ t3 = .int .i64 (2147483647 - s - sumF (at2 T i) j) ∧ Below w.heap.size w W) (fun _ t _ => (k - (intOf t).toNat))
   case atStart => exact ⟨0, rfl, Nat.zero_le _, by simp [sumF], hbw⟩
   case round =>
    obtain ⟨j, rfl, hj, rfl, hbw⟩ := hrel
    rcases Nat.lt_or_ge j k with hjk | hjk
    ·
     have hjj : (j : Int) < (k : Int) := by omega
     have hwj : IntKind.i64.wrap ((j : Int) + 1) = ((j + 1 : Nat) : Int) := i64w (by omega) (by omega)
     have ya := ext_cell hbw (HB.out j hjk).1
     have p0 := HO.out.pos i j HIK.out hjk
     have p1 := sumF_mono (fun j hj => HO.out.pos i j HIK.out hj) (j + 1) k (by omega) (Nat.le_refl _)
     have p2 := sumF_nonneg (fun j hj => HO.out.pos i j HIK.out hj) j (by omega)
     simp only [sumF] at p1
     have EJ := Lib.hid (show sumF (at2 T i) (j + 1) = sumF (at2 T i) j + at2 T i j from rfl)
     have p3 := E1.out
     have p4 := E2.out
     obtain ⟨x, ex⟩ : ∃ x, at2 T i j = x := ⟨_, rfl⟩
     obtain ⟨u, eu⟩ : ∃ u, sumF (at2 T i) j = u := ⟨_, rfl⟩
     rw [eu] at p1 p2 EJ ⊢
     rw [ex] at p0 p1 EJ ya
     obtain ⟨q, eq⟩ : ∃ q, 2147483647 - s - u = q := ⟨_, rfl⟩
     rw [eq]
     have EQ := Lib.hid eq
     have hx0 : ¬ x < 0 := by omega
     have hxl : ¬ q < x := by omega
     have hwq : IntKind.i64.wrap (q - x) = q - x := i64w (by omega) (by omega)
     clear ex eu eq p0 p1 p2 p3 p4
     go_wp2
     go_roundw
     case rel => exact ⟨j + 1, rfl, hjk, by rw [EJ.out, ← EQ.out]; exact vint (by omega), hbw⟩
     case measure => simp [intOf]; omega
    ·
     obtain rfl : j = k := by omega
     have hjj : ¬ (j : Int) < (j : Int) := by omega
     go_wp2
     go_roundw
     case rel => exact ⟨i + 1, rfl, HIK.out, by rw [EI.out]; exact vint (by omega), hbw⟩
     case measure => simp [intOf]; have := HIK.out; omega
  ·
   obtain rfl : i = k := by omega
   have hii : ¬ (i : Int) < (i : Int) := by omega
   go_wp2_with fail
   go_ret
   exact ⟨_, rfl, hbw, rfl⟩
set_option maxRecDepth 100000 in
/-- Rates$1 -/
theorem notlen_c (w : World) (b n m c d : Nat) (A B : Option Addr) (hc : w.cell? ⟨b, 0, none⟩ = some (.slice B m d)) : Calls Try.prog 46 #[.slice A n c, .pointer (some ⟨b, 0, none⟩)] w (Post w fun r _ => r = .bool (decide (n ≠ m))) := by
 by_cases h : n = m
 ·
  have h1 : ((n : Int) != (m : Int)) = false := by rw [h]; simp
  go_enter Try.func46, Try.ntmps46
  go_wp2_with fail
  go_ret
  exact ⟨_, rfl, Below.refl _ _, by simp [h]⟩
 ·
  have h1 : ((n : Int) != (m : Int)) = true := by rw [bne_iff_ne]; omega
  go_enter Try.func46, Try.ntmps46
  go_wp2_with fail
  go_ret
  exact ⟨_, rfl, Below.refl _ _, by simp [h]⟩
set_option maxRecDepth 100000 in
set_option maxHeartbeats 1000000 in
/-- IndexFunc, of Rates$1, of a square table -/
theorem index2_c (w : World) (v : Value) (b : Nat) (T : List (List Int)) (k d : Nat) (B : Option Addr) (hT : rIss w v T) (hs : Sq T k) (hk : k ≤ 1099511627775) (hc : w.cell? ⟨b, 0, none⟩ = some (.slice B k d)) :
  Calls Try.prog 77 #[v, .func (.func 46) #[] #[.pointer (some ⟨b, 0, none⟩)]] w (Post w fun r _ => r = .int .i64 (-1)) := by
 obtain ⟨A, c, rfl, hT⟩ := hT.shape
 rw [hs.len] at hT ⊢
 have H1 := Lib.hid hT
 have HS := Lib.hid hs
 have HC := Lib.hid hc
 clear hT hs hc
 go_enter Try.func77, Try.ntmps77
 go_wp2_with fail
 go_loopw [8] (fun t W => ∃ i : Nat, t = .int .i64 (i : Nat) ∧ i ≤ k ∧ Below w.heap.size w W) (fun t _ => (k - (intOf t).toNat))
 case atStart => exact ⟨0, rfl, Nat.zero_le _, Below.refl _ _⟩
 case round =>
  obtain ⟨i, rfl, hi, hbw⟩ := hrel
  rcases Nat.lt_or_ge i k with hik | hik
  ·
   have hii : (i : Int) < (k : Int) := by omega
   have hwi : IntKind.i64.wrap ((i : Int) + 1) = ((i + 1 : Nat) : Int) := i64w (by omega) (by omega)
   obtain ⟨g, o, g1, o1, c1, rfl, xa, xb⟩ := H1.out.row HS.out hik
   have ya := ext_cell hbw xa
   have HK := Lib.hid (notlen_c wr b k k c1 d (some ⟨g1, o1, none⟩) B (ext_cell hbw HC.out))
   rw [show decide (k ≠ k) = false from by simp] at HK
   clear xa xb
   go_wp2_with fail
   refine HK.out.mono ?_
   rintro e w1 ⟨v1, rfl, hb1, rfl⟩
   have hbw1 := nT hbw hb1
   clear hb1
   go_wp2
   go_roundw
   case rel => exact ⟨i + 1, rfl, hik, hbw1⟩
   case measure => simp [intOf]; omega
  ·
   obtain rfl : i = k := by omega
   have hii : ¬ (i : Int) < (i : Int) := by omega
   go_wp2_with fail
   go_ret
   exact ⟨_, rfl, hbw, rfl⟩
set_option maxRecDepth 100000 in
/-- ContainsFunc, of Rates$1, of a square table -/
theorem contains2_c (w : World) (v : Value) (b : Nat) (T : List (List Int)) (k d : Nat) (B : Option Addr) (hT : rIss w v T) (hs : Sq T k) (hk : k ≤ 1099511627775) (hc : w.cell? ⟨b, 0, none⟩ = some (.slice B k d)) :
  Calls Try.prog 45 #[v, .func (.func 46) #[] #[.pointer (some ⟨b, 0, none⟩)]] w (Post w fun r _ => r = .bool false) := by
 have HI := Lib.hid (index2_c w v b T k d B hT hs hk hc)
 obtain ⟨A, c, rfl, hT⟩ := hT.shape
 rw [hs.len] at HI ⊢
 clear hT hs hc
 go_enter Try.func45, Try.ntmps45
 go_wp2_with fail
 refine HI.out.mono ?_
 rintro e w1 ⟨v1, rfl, hb1, rfl⟩
 go_wp2_with fail
 go_ret
 exact ⟨_, rfl, hb1, rfl⟩
end Go.Proofs.Ytlaocmhcilhlbaa
