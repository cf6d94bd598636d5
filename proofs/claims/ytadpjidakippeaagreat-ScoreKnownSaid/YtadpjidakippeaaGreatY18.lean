/- score.matched; the closures; slices.IndexFunc and ContainsFunc over whole numbers; score.count. -/
import Derived.Test.YtadpjidakippeaaGreatY17
set_option linter.unusedVariables false
set_option linter.unusedSimpArgs false
namespace Go.Proofs.YtadpjidakippeaaGreat
open Go.RowKit
theorem rIs.ext {w w' : World} {v : Value} {l : List Int} (h : rIs w v l) (he : Ext w w') : rIs w' v l := by
 obtain ⟨A, c, hv, hc, hI, h⟩ := h
 refine ⟨A, c, hv, hc, hI, fun hl => ?_⟩
 obtain ⟨g, o, hA, h⟩ := h hl
 exact ⟨g, o, hA, fun j hj => ext_cell he (h j hj)⟩
theorem rIs.drew {w : World} {v : Value} {l : List Int} (h : rIs w v l) : rIs w.drew v l := h
theorem rIs.alloc {w : World} {v : Value} {l : List Int} (h : rIs w v l) (o : Obj) : rIs (w.alloc o) v l := h.ext (ext_alloc _ _)
set_option maxRecDepth 100000 in
/-- matched -/
theorem matched_c (w : World) (A B : Option Addr) (n m c d : Nat) : Calls Tryz.prog 22 #[.slice A n c, .slice B m d] w (Post w fun r _ => r = .bool (decide (n = m ∧ 0 < n))) := by
 by_cases h : n = m
 ·
  subst h
  have e1 : ((n : Int) == (n : Int)) = true := by simp
  by_cases h0 : 0 < n
  ·
   have e2 : (0 : Int) < (n : Int) := by omega
   go_enter Tryz.func22, Tryz.ntmps22
   go_wp2_with fail
   go_ret
   exact ⟨_, rfl, Below.refl _ _, by simp [h0]⟩
  ·
   have e2 : ¬ (0 : Int) < (n : Int) := by omega
   go_enter Tryz.func22, Tryz.ntmps22
   go_wp2_with fail
   go_ret
   exact ⟨_, rfl, Below.refl _ _, by simp [h0]⟩
 ·
  have e1 : ((n : Int) == (m : Int)) = false := by rw [beq_eq_false_iff_ne]; omega
  have e2 : ¬ (n : Int) = (m : Int) := by omega
  go_enter Tryz.func22, Tryz.ntmps22
  go_wp2_with fail
  go_ret
  exact ⟨_, rfl, Below.refl _ _, by simp [h]⟩
set_option maxRecDepth 100000 in
/-- Table$1 -/
theorem none_c (w : World) (b : Nat) (x k : Int) (hc : w.cell? ⟨b, 0, none⟩ = some (.int .i64 k)) : Calls Tryz.prog 28 #[.int .i64 x, .pointer (some ⟨b, 0, none⟩)] w (Post w fun r _ => r = .bool (decide (x < 0 ∨ k ≤ x))) := by
 rcases Int.lt_or_le x 0 with h | h
 ·
  go_enter Tryz.func28, Tryz.ntmps28
  go_wp2_with fail
  go_ret
  exact ⟨_, rfl, Below.refl _ _, by simp [h]⟩
 ·
  have h1 : ¬ x < 0 := by omega
  rcases Int.lt_or_le x k with h2 | h2
  ·
   have h3 : ¬ k ≤ x := by omega
   go_enter Tryz.func28, Tryz.ntmps28
   go_wp2_with fail
   go_ret
   exact ⟨_, rfl, Below.refl _ _, by simp [h1, h3]⟩
  ·
   go_enter Tryz.func28, Tryz.ntmps28
   go_wp2_with fail
   go_ret
   exact ⟨_, rfl, Below.refl _ _, by simp [h2]⟩
/-- Where the first that is out of the classes stands. -/
def badC (k x : Int) : Bool := decide (x < 0 ∨ k ≤ x)
def IdxSaid (l : List Int) (p : Int → Bool) (r : Value) : Prop := ∃ z : Int, r = .int .i64 z ∧ (0 ≤ z ↔ l.any p = true)
theorem any_take_succ {l : List Int} {p : Int → Bool} {j : Nat} (hj : j < l.length) (h0 : (l.take j).any p = false) (h : p l[j] = false) : (l.take (j + 1)).any p = false := by
 rw [List.take_succ_eq_append_getElem hj, List.any_append, h0]; simp [h]
theorem any_at {l : List Int} {p : Int → Bool} {j : Nat} (hj : j < l.length) (h : p l[j] = true) : l.any p = true := List.any_eq_true.2 ⟨_, List.getElem_mem hj, h⟩
set_option maxRecDepth 100000 in
set_option maxHeartbeats 1000000 in
/-- IndexFunc, of any test by a closure -/
theorem indexf_c (w : World) (v : Value) (fk : Nat) (caps : Array Value) (hen : ∀ args W, (callFunc fk args).run Tryz.prog W = .ok (.enter fk args) W) (l : List Int) (p : Int → Bool) (hl : rIs w v l) (hn : l.length ≤ 1099511627775) (hc : ∀ x ∈ l, ∀ W, Ext w W → Calls Tryz.prog fk (#[.int .i64 x] ++ caps) W (Post W fun r _ => r = .bool (p x))) :
  Calls Tryz.prog 60 #[v, .func (.func fk) #[] caps] w (Post w fun r _ => IdxSaid l p r) := by
 obtain ⟨A, c, rfl, hl⟩ := hl.shape
 have H1 := Lib.hid hl
 have HN := Lib.hid hn
 have HC := Lib.hid hc
 obtain ⟨n, en⟩ : ∃ n, l.length = n := ⟨_, rfl⟩
 rw [en] at hn ⊢
 have EN := Lib.hid en
 clear hl hc en
 go_enter Tryz.func60, Tryz.ntmps60
 go_wp2_with fail
 go_loopw [8] (fun t W => ∃ j : Nat, t = .int .i64 (j : Nat) ∧ j ≤ n ∧ (l.take j).any p = false ∧ Below w.heap.size w W) (fun t _ => (n - (intOf t).toNat))
 case atStart => exact ⟨0, rfl, Nat.zero_le _, rfl, Below.refl _ _⟩
 case round =>
  obtain ⟨j, rfl, hj, ht, hbw⟩ := hrel
  have HT := Lib.hid ht
  clear ht
  rcases Nat.lt_or_ge j n with hjn | hjn
  ·
   have hji : (j : Int) < (n : Int) := by omega
   have HJ := Lib.hid (show j < l.length by rw [EN.out]; exact hjn)
   obtain ⟨g, o, rfl, xa, hI⟩ := H1.out.at HJ.out
   have xa := ext_cell hbw xa
   obtain ⟨x, ex⟩ : ∃ x, l[j]'HJ.out = x := ⟨_, rfl⟩
   rw [ex] at xa hI
   have EX := Lib.hid ex
   have HK := Lib.hid (HC.out x (by rw [← ex]; exact List.getElem_mem HJ.out) wr hbw)
   have hwj : IntKind.i64.wrap ((j : Int) + 1) = ((j + 1 : Nat) : Int) := i64w (by omega) (by omega)
   clear ex hI
   obtain ⟨y, ey⟩ : ∃ y, p x = y := ⟨_, rfl⟩
   rw [ey] at HK
   have EY := Lib.hid (show p x = y from ey)
   clear ey
   go_wp2_with fail
   refine HK.out.mono ?_
   rintro e w1 ⟨v1, rfl, hb1, rfl⟩
   have hbw1 := nT hbw hb1
   clear hb1
   cases y with
   | true =>
    have hj0 : (0 : Int) ≤ (j : Int) := by omega
    go_wp2_with fail
    go_ret
    exact ⟨_, rfl, hbw1, _, rfl, by
     have := any_at HJ.out (p := p) (by rw [EX.out]; exact EY.out)
     simp only [this, hj0]⟩
   | false =>
    go_wp2
    go_roundw
    case rel => exact ⟨j + 1, rfl, hjn, any_take_succ HJ.out HT.out (by rw [EX.out]; exact EY.out), hbw1⟩
    case measure => simp [intOf]; omega
  ·
   obtain rfl : j = n := by omega
   have hji : ¬ (j : Int) < (j : Int) := by omega
   go_wp2_with fail
   go_ret
   exact ⟨_, rfl, hbw, -1, rfl, by
    have h1 := HT.out
    rw [List.take_of_length_le (by rw [EN.out]; omega)] at h1
    rw [h1]; decide⟩
set_option maxRecDepth 100000 in
/-- ContainsFunc, of any test by a closure -/
theorem containsf_c (w : World) (v : Value) (fk : Nat) (caps : Array Value) (hen : ∀ args W, (callFunc fk args).run Tryz.prog W = .ok (.enter fk args) W) (l : List Int) (p : Int → Bool) (hl : rIs w v l) (hn : l.length ≤ 1099511627775) (hc : ∀ x ∈ l, ∀ W, Ext w W → Calls Tryz.prog fk (#[.int .i64 x] ++ caps) W (Post W fun r _ => r = .bool (p x))) :
  Calls Tryz.prog 29 #[v, .func (.func fk) #[] caps] w (Post w fun r _ => r = .bool (l.any p)) := by
 have HI := Lib.hid (indexf_c w v fk caps hen l p hl hn hc)
 obtain ⟨A, c, rfl, hl⟩ := hl.shape
 obtain ⟨n, en⟩ : ∃ n, l.length = n := ⟨_, rfl⟩
 rw [en] at HI ⊢
 clear hl hc en hn
 go_enter Tryz.func29, Tryz.ntmps29
 go_wp2_with fail
 refine HI.out.mono ?_
 rintro e w1 ⟨v1, rfl, hb1, z, rfl, hz⟩
 have HZ := Lib.hid hz
 clear hz
 go_wp2_with fail
 go_ret
 exact ⟨_, rfl, hb1, (by
  have := HZ.out
  show Value.bool (decide (0 ≤ z)) = _
  congr 1
  rw [Bool.eq_iff_iff, decide_eq_true_iff]
  exact this)⟩
theorem contains_c (w : World) (v : Value) (b : Nat) (l : List Int) (k : Int) (hl : rIs w v l) (hn : l.length ≤ 1099511627775) (hc : w.cell? ⟨b, 0, none⟩ = some (.int .i64 k)) :
  Calls Tryz.prog 29 #[v, .func (.func 28) #[] #[.pointer (some ⟨b, 0, none⟩)]] w (Post w fun r _ => r = .bool (l.any (badC k))) :=
 containsf_c w v _ _ (fun _ _ => by kernel_rfl) l (badC k) hl hn (fun x _ W he => none_c W b x k (ext_cell he hc))
/-- In how many of the first n places two lists are alike. -/
def alike (a b : List Int) : Nat → Nat
 | 0 => 0
 | n + 1 => alike a b n + (if a.getD n 0 = b.getD n 0 then 1 else 0)
theorem alike_le (a b : List Int) : ∀ n, alike a b n ≤ n
 | 0 => Nat.le_refl _
 | n + 1 => by have := alike_le a b n; simp only [alike]; split <;> omega
set_option maxRecDepth 100000 in
set_option maxHeartbeats 1000000 in
/-- Right$1 -/
theorem alike_c (w : World) (b1 b2 : Nat) (A B : Option Addr) (n c d : Nat) (la lb : List Int) (i : Nat) (h1 : w.cell? ⟨b1, 0, none⟩ = some (.slice A n c)) (h2 : w.cell? ⟨b2, 0, none⟩ = some (.slice B n d))
  (ha : rIs w (.slice A n c) la) (hb : rIs w (.slice B n d) lb) (hi : i < n) (hla : la.length = n) (hlb : lb.length = n) :
  Calls Tryz.prog 25 #[.int .i64 (i : Nat), .pointer (some ⟨b1, 0, none⟩), .pointer (some ⟨b2, 0, none⟩)] w (Post w fun r _ => r = .bool (decide (la.getD i 0 = lb.getD i 0))) := by
 obtain ⟨g, o, rfl, xa, _⟩ := ha.at (j := i) (by omega)
 obtain ⟨g', o', rfl, xb, _⟩ := hb.at (j := i) (by omega)
 have e1 : la[i]'(by omega) = la.getD i 0 := by rw [List.getD_eq_getElem?_getD, List.getElem?_eq_getElem (by omega)]; rfl
 have e2 : lb[i]'(by omega) = lb.getD i 0 := by rw [List.getD_eq_getElem?_getD, List.getElem?_eq_getElem (by omega)]; rfl
 rw [e1] at xa
 rw [e2] at xb
 generalize la.getD i 0 = x at xa ⊢
 generalize lb.getD i 0 = y at xb ⊢
 have hi0 : (i : Int) < (n : Int) := by omega
 have hi1 : (0 : Int) ≤ (i : Int) := by omega
 have H1 := Lib.hid (Cells.cons h1 (Cells.cons h2 (Cells.cons xa (Cells.cons xb (Cells.nil w)))))
 have hbw := Below.refl w.heap.size w
 obtain ⟨h1, h2, xa, xb, _⟩ := H1.out
 clear e1 e2 ha hb
 have HB : Hid (Cells [] w) := Lib.hid (Cells.nil _)
 have hbw : Below w.heap.size w w := Below.refl _ _
 go_enter Tryz.func25, Tryz.ntmps25
 go_wp2_with fail
 have HB : Hid (Cells [(b1, 0, .slice (some ⟨g, o, none⟩) n c), (b2, 0, .slice (some ⟨g', o', none⟩) n d), (g, o + i, .int .i64 x), (g', o' + i, .int .i64 y)] w) := Lib.hid (Cells.cons (h1) (Cells.cons (h2) (Cells.cons (xa) (Cells.cons (xb) (Cells.nil _)))))
 replace HB := Lib.hid (HB.out.drew)
 replace hbw := Below.drew hbw
 refine wp_hoist [(0, true), (1, true), (2, true), (3, true), (4, true), (5, true), (6, true), (7, true), (8, true), (9, false)] (Cells [(b1, 0, .slice (some ⟨g, o, none⟩) n c), (b2, 0, .slice (some ⟨g', o', none⟩) n d), (g, o + i, .int .i64 x), (g', o' + i, .int .i64 y)]) (by kernel_rfl) (by kernel_rfl) ?_ ?_
 · exact HB.out
 generalize w.drew = W1 at HB hbw ⊢
 refine hz_yes (v := ?_) rfl (by kernel_rfl) (fun W hW => ?_) ?_; rotate_left; (obtain ⟨y0, y1, y2, y3, _⟩ := hW; go_simp; try with_reducible rfl)
 (try (conv => arg 6; simp only [Act.put, gL]))
 refine hz_yes (v := ?_) rfl (by kernel_rfl) (fun W hW => ?_) ?_; rotate_left; (go_simp; try with_reducible rfl)
 (try (conv => arg 6; simp only [Act.put, gL]))
 refine hz_yes (v := ?_) rfl (by kernel_rfl) (fun W hW => ?_) ?_; rotate_left; (go_simp; try with_reducible rfl)
 (try (conv => arg 6; simp only [Act.put, gL]))
 refine hz_yes (v := ?_) rfl (by kernel_rfl) (fun W hW => ?_) ?_; rotate_left; (obtain ⟨y0, y1, y2, y3, _⟩ := hW; go_simp; try with_reducible rfl)
 (try (conv => arg 6; simp only [Act.put, gL]))
 refine hz_yes (v := ?_) rfl (by kernel_rfl) (fun W hW => ?_) ?_; rotate_left; (obtain ⟨y0, y1, y2, y3, _⟩ := hW; go_simp; try with_reducible rfl)
 (try (conv => arg 6; simp only [Act.put, gL]))
 refine hz_yes (v := ?_) rfl (by kernel_rfl) (fun W hW => ?_) ?_; rotate_left; (go_simp; try with_reducible rfl)
 (try (conv => arg 6; simp only [Act.put, gL]))
 refine hz_yes (v := ?_) rfl (by kernel_rfl) (fun W hW => ?_) ?_; rotate_left; (go_simp; try with_reducible rfl)
 (try (conv => arg 6; simp only [Act.put, gL]))
 refine hz_yes (v := ?_) rfl (by kernel_rfl) (fun W hW => ?_) ?_; rotate_left; (obtain ⟨y0, y1, y2, y3, _⟩ := hW; go_simp; try with_reducible rfl)
 (try (conv => arg 6; simp only [Act.put, gL]))
 refine hz_yes (v := ?_) rfl (by kernel_rfl) (fun W hW => ?_) ?_; rotate_left; (go_simp; try with_reducible rfl)
 (try (conv => arg 6; simp only [Act.put, gL]))
 refine hz_eff rfl (by kernel_rfl) (fun K hK => ?_)
 go_simp
 refine hK.out _ _ ?_ ?_
 · exact HB.out
 clear hK K
 (try (conv => arg 6; simp only [Act.put, gL]))
 refine hz_nil ?_
 go_wp2_with fail
 go_ret
 exact ⟨_, rfl, hbw, by
  show Value.bool (x == y) = _
  rfl⟩
/-- How many of the first n are so. -/
def cntTo (p : Nat → Bool) : Nat → Nat
 | 0 => 0
 | n + 1 => cntTo p n + (if p n = true then 1 else 0)
theorem cntTo_le (p : Nat → Bool) : ∀ n, cntTo p n ≤ n
 | 0 => Nat.le_refl _
 | n + 1 => by have := cntTo_le p n; simp only [cntTo]; split <;> omega
theorem alike_cnt (a b : List Int) : ∀ n, alike a b n = cntTo (fun i => decide (a.getD i 0 = b.getD i 0)) n
 | 0 => rfl
 | n + 1 => by
  simp only [alike, cntTo]
  rw [alike_cnt a b n]
  by_cases h : a.getD n 0 = b.getD n 0
  · rw [if_pos h, if_pos (decide_eq_true h)]
  · rw [if_neg h, if_neg (by rw [decide_eq_false h]; simp)]
set_option maxRecDepth 100000 in
set_option maxHeartbeats 1000000 in
/-- count, of any test by a closure -/
theorem countf_c (w : World) (fk : Nat) (caps : Array Value) (hen : ∀ args W, (callFunc fk args).run Tryz.prog W = .ok (.enter fk args) W) (n : Nat) (p : Nat → Bool) (hc : ∀ i, i < n → ∀ W, Ext w W → Calls Tryz.prog fk (#[.int .i64 (i : Nat)] ++ caps) W (Post W fun r _ => r = .bool (p i))) (hn : n ≤ 1099511627775) :
  Calls Tryz.prog 24 #[.int .i64 (n : Nat), .func (.func fk) #[] caps] w (Post w fun r _ => r = .int .i64 (cntTo p n : Nat)) := by
 have HC := Lib.hid hc
 clear hc
 go_enter Tryz.func24, Tryz.ntmps24
 go_wp2_with fail
 go_loopw [5, 8] (fun t5 t W => ∃ j : Nat, t = .int .i64 (j : Nat) ∧ j ≤ n ∧ t5 = .int .i64 (cntTo p j : Nat) ∧ Below w.heap.size w W) (fun _ t _ => (n - (intOf t).toNat))
 case atStart => exact ⟨0, rfl, Nat.zero_le _, rfl, Below.refl _ _⟩
 case round =>
  obtain ⟨j, rfl, hj, rfl, hbw⟩ := hrel
  rcases Nat.lt_or_ge j n with hjn | hjn
  ·
   have hji : (j : Int) < (n : Int) := by omega
   have hal := cntTo_le p j
   obtain ⟨s, es⟩ : ∃ s, cntTo p j = s := ⟨_, rfl⟩
   rw [es] at hal ⊢
   have HS := Lib.hid es
   have hwj : IntKind.i64.wrap ((j : Int) + 1) = ((j + 1 : Nat) : Int) := i64w (by omega) (by omega)
   have hws : IntKind.i64.wrap ((s : Int) + 1) = ((s + 1 : Nat) : Int) := i64w (by omega) (by omega)
   have HK := Lib.hid (HC.out j hjn wr hbw)
   have HT : Hid (cntTo p (j + 1) = s + (if p j = true then 1 else 0)) := Lib.hid (by simp only [cntTo]; rw [HS.out])
   obtain ⟨y, ey⟩ : ∃ y, p j = y := ⟨_, rfl⟩
   rw [ey] at HK HT
   clear es hal ey
   cases y with
   | true =>
    rw [if_pos rfl] at HT
    go_wp2_with fail
    refine HK.out.mono ?_
    rintro e w1 ⟨v1, rfl, hb1, rfl⟩
    have hbw1 := nT hbw hb1
    clear hb1
    go_wp2
    go_roundw
    case rel => exact ⟨j + 1, rfl, hjn, by rw [HT.out]; exact vint (by omega), hbw1⟩
    case measure => simp [intOf]; omega
   | false =>
    rw [if_neg (by simp)] at HT
    go_wp2_with fail
    refine HK.out.mono ?_
    rintro e w1 ⟨v1, rfl, hb1, rfl⟩
    have hbw1 := nT hbw hb1
    clear hb1
    go_wp2
    go_roundw
    case rel => exact ⟨j + 1, rfl, hjn, by rw [HT.out]; rfl, hbw1⟩
    case measure => simp [intOf]; omega
  ·
   obtain rfl : j = n := by omega
   have hji : ¬ (j : Int) < (j : Int) := by omega
   go_wp2_with fail
   go_ret
   exact ⟨_, rfl, hbw, rfl⟩
theorem count_c (w : World) (b1 b2 : Nat) (A B : Option Addr) (n c d : Nat) (la lb : List Int) (h1 : w.cell? ⟨b1, 0, none⟩ = some (.slice A n c)) (h2 : w.cell? ⟨b2, 0, none⟩ = some (.slice B n d))
  (ha : rIs w (.slice A n c) la) (hb : rIs w (.slice B n d) lb) (hla : la.length = n) (hlb : lb.length = n) (hn : n ≤ 1099511627775) :
  Calls Tryz.prog 24 #[.int .i64 (n : Nat), .func (.func 25) #[] #[.pointer (some ⟨b1, 0, none⟩), .pointer (some ⟨b2, 0, none⟩)]] w (Post w fun r _ => r = .int .i64 (alike la lb n : Nat)) := by
 rw [alike_cnt]
 exact countf_c w _ _ (fun _ _ => by kernel_rfl) n _ (fun i hi W he => alike_c W b1 b2 A B n c d la lb i (ext_cell he h1) (ext_cell he h2) (ha.ext he) (hb.ext he) hi hla hlb) hn
end Go.Proofs.YtadpjidakippeaaGreat

/- Tables of counts: lists of lists of whole numbers in memory; score.Table. -/
namespace Go.Proofs.YtadpjidakippeaaGreat
open Go.RowKit
/-- A list of lists of whole numbers. -/
def rIss (w : World) (v : Value) (T : List (List Int)) : Prop := ∃ A c, v = .slice A T.length c ∧ T.length ≤ c ∧ (T ≠ [] → ∃ g o, A = some ⟨g, o, none⟩ ∧ ∀ i (hi : i < T.length), ∃ u, w.cell? ⟨g, o + i, none⟩ = some u ∧ rIs w u T[i])
theorem rIss.ext {w w' : World} {v : Value} {T : List (List Int)} (h : rIss w v T) (he : Ext w w') : rIss w' v T := by
 obtain ⟨A, c, hv, hc, h⟩ := h
 refine ⟨A, c, hv, hc, fun hl => ?_⟩
 obtain ⟨g, o, hA, h⟩ := h hl
 refine ⟨g, o, hA, fun i hi => ?_⟩
 obtain ⟨u, h1, h2⟩ := h i hi
 exact ⟨u, ext_cell he h1, h2.ext he⟩
theorem rIss.drew {w : World} {v : Value} {T : List (List Int)} (h : rIss w v T) : rIss w.drew v T := h
theorem rIss.alloc {w : World} {v : Value} {T : List (List Int)} (h : rIss w v T) (o : Obj) : rIss (w.alloc o) v T := h.ext (ext_alloc _ _)
theorem rIss.shape {w : World} {v : Value} {T : List (List Int)} (h : rIss w v T) : ∃ A c, v = .slice A T.length c ∧ rIss w (.slice A T.length c) T := by
 obtain ⟨A, c, rfl, h⟩ := h
 exact ⟨A, c, rfl, A, c, rfl, h⟩
theorem rIss.nil (w : World) : rIss w (.slice none 0 0) [] := ⟨none, 0, rfl, Nat.le_refl _, fun h => absurd rfl h⟩
theorem rIss.at {w : World} {A : Option Addr} {n c : Nat} {T : List (List Int)} (h : rIss w (.slice A n c) T) {i : Nat} (hi : i < T.length) :
  ∃ g o A1 c1, A = some ⟨g, o, none⟩ ∧ w.cell? ⟨g, o + i, none⟩ = some (.slice A1 T[i].length c1) ∧ rIs w (.slice A1 T[i].length c1) T[i] := by
 obtain ⟨A', c', hv, hc, h⟩ := h
 simp only [Value.slice.injEq] at hv
 obtain ⟨rfl, rfl, rfl⟩ := hv
 obtain ⟨g, o, hA, h⟩ := h (by intro e; rw [e] at hi; simp at hi)
 obtain ⟨u, h1, h2⟩ := h i hi
 obtain ⟨A1, c1, rfl, h2⟩ := h2.shape
 exact ⟨g, o, A1, c1, hA, h1, h2⟩
/-! ### what Table counts -/
def tabTo (a b : List Int) : Nat → Nat → Nat → Int
 | 0, _, _ => 0
 | n + 1, i, j => tabTo a b n i j + (if a.getD n 0 = (i : Int) ∧ b.getD n 0 = (j : Int) then 1 else 0)
def tabL (k : Nat) (f : Nat → Nat → Int) : List (List Int) := (List.range k).map (fun i => (List.range k).map (f i))
theorem tabTo_bound (a b : List Int) : ∀ n i j, 0 ≤ tabTo a b n i j ∧ tabTo a b n i j ≤ n
 | 0, _, _ => ⟨Int.le_refl _, Int.le_refl _⟩
 | n + 1, i, j => by have := tabTo_bound a b n i j; simp only [tabTo]; split <;> omega
theorem tabTo_inc (a b : List Int) (n i j : Nat) (hi : a.getD n 0 = (i : Int)) (hj : b.getD n 0 = (j : Int)) : ∀ i' j', tabTo a b (n + 1) i' j' = if i' = i ∧ j' = j then tabTo a b n i j + 1 else tabTo a b n i' j' := by
 intro i' j'
 simp only [tabTo]
 rw [hi, hj]
 split
 ·
  rename_i h
  rw [if_pos ⟨by omega, by omega⟩]
  have h1 : i' = i := by omega
  have h2 : j' = j := by omega
  rw [h1, h2]
 ·
  rename_i h
  rw [if_neg (by omega)]
  omega
/-- The first i0 rows of a table of k rows are there. -/
structure TabIn (W : World) (b k i0 : Nat) (f : Nat → Nat → Int) : Prop where
 outer : Own W b 22 ((List.range k).map fun i => if i < i0 then .slice (some ⟨b + 1 + i, 0, none⟩) k k else .slice none 0 0)
 rows : ∀ i, i < i0 → Own W (b + 1 + i) 3 ((List.range k).map fun j => .int .i64 (f i j))
theorem TabIn.ext {W W' : World} {b k i0 : Nat} {f : Nat → Nat → Int} (h : TabIn W b k i0 f) (he : Ext W W') : TabIn W' b k i0 f := ⟨h.outer.ext he, fun i hi => (h.rows i hi).ext he⟩
theorem TabIn.drew {W : World} {b k i0 : Nat} {f : Nat → Nat → Int} (h : TabIn W b k i0 f) : TabIn W.drew b k i0 f := ⟨h.outer, h.rows⟩
theorem TabIn.alloc {W : World} {b k i0 : Nat} {f : Nat → Nat → Int} (h : TabIn W b k i0 f) (o : Obj) : TabIn (W.alloc o) b k i0 f := h.ext (ext_alloc _ _)
theorem TabIn.other {W : World} {b k i0 : Nat} {f : Nat → Nat → Int} (h : TabIn W b k i0 f) {p : Addr} (v : Value) (hp : p.block < b) : TabIn (W.setCell p v) b k i0 f :=
 ⟨h.outer.other v (by omega), fun i hi => (h.rows i hi).other v (by omega)⟩
theorem madeOne (z : Value) (n : Nat) : madeCells #[z] n = ((List.range n).map (fun _ => z)).toArray := by
 apply Array.ext
 · rw [size_madeCells]; simp
 ·
  intro i h1 h2
  simp [madeCells, Nat.mod_one]
theorem TabIn.start (w : World) (k : Nat) (f : Nat → Nat → Int) : TabIn (w.alloc (.cells (madeCells #[.slice none 0 0] k) 22)) w.heap.size k 0 f := by
 refine ⟨?_, fun i hi => absurd hi (by omega)⟩
 rw [madeOne]
 have := Own.new w 22 ((List.range k).map fun _ => Value.slice none 0 0)
 simpa using this
theorem TabIn.row {W : World} {b k i0 : Nat} {f : Nat → Nat → Int} (h : TabIn W b k i0 f) (hs : W.heap.size = b + 1 + i0) (hf : ∀ j, f i0 j = 0) :
  TabIn ((W.setCell ⟨b, i0, none⟩ (.slice (some ⟨b + 1 + i0, 0, none⟩) k k)).alloc (.cells (madeCells #[.int .i64 0] k) 3)) b k (i0 + 1) f := by
 have h1 := (h.outer.set i0 (.slice (some ⟨b + 1 + i0, 0, none⟩) k k)).alloc (.cells (madeCells #[.int .i64 0] k) 3)
 refine ⟨?_, fun i hi => ?_⟩
 ·
  have e : (((List.range k).map fun i => if i < i0 then Value.slice (some ⟨b + 1 + i, 0, none⟩) k k else .slice none 0 0).set i0 (.slice (some ⟨b + 1 + i0, 0, none⟩) k k)) = (List.range k).map fun i => if i < i0 + 1 then Value.slice (some ⟨b + 1 + i, 0, none⟩) k k else .slice none 0 0 := by
   apply List.ext_getElem?
   intro i
   rw [List.getElem?_set]
   simp only [List.length_map, List.length_range, List.getElem?_map]
   rcases Nat.lt_or_ge i k with hik | hik
   ·
    rw [List.getElem?_range hik]
    simp only [Option.map_some]
    by_cases e : i0 = i
    ·
     subst e
     simp [hik]
    ·
     rw [if_neg e]
     congr 1
     by_cases h2 : i < i0
     · rw [if_pos h2, if_pos (by omega)]
     · rw [if_neg h2, if_neg (by omega)]
   ·
    rw [List.getElem?_eq_none (by simpa using hik)]
    simp only [Option.map_none]
    split
    · rw [if_neg (by omega)]
    · rfl
  rw [e] at h1
  exact h1
 ·
  rcases Nat.lt_or_ge i i0 with hi2 | hi2
  · exact ((h.rows i hi2).other _ (by simp <;> omega)).alloc _
  ·
   obtain rfl : i = i0 := by omega
   have h2 := Own.new' (W.setCell ⟨b, i, none⟩ (.slice (some ⟨b + 1 + i, 0, none⟩) k k)) 3 ((List.range k).map fun j => Value.int .i64 (f i j)) (b + 1 + i) (by simp [World.setCell, hs])
   have e2 : madeCells #[.int .i64 0] k = ((List.range k).map fun j => Value.int .i64 (f i j)).toArray := by
    rw [madeOne]
    congr 2
    funext j
    rw [hf]
   rw [e2]
   exact h2
theorem TabIn.inc {W : World} {b k : Nat} {f f' : Nat → Nat → Int} (h : TabIn W b k k f) {i j : Nat} {z : Int} (hi : i < k) (hj : j < k) (hf : ∀ i' j', f' i' j' = if i' = i ∧ j' = j then z else f i' j') :
  TabIn (W.setCell ⟨b + 1 + i, j, none⟩ (.int .i64 z)) b k k f' := by
 refine ⟨h.outer.other _ (by simp <;> omega), fun i' hi' => ?_⟩
 by_cases e : i' = i
 ·
  subst e
  have h1 := (h.rows i' hi).set j (.int .i64 z)
  have e2 : ((List.range k).map fun j => Value.int .i64 (f i' j)).set j (.int .i64 z) = (List.range k).map fun j => Value.int .i64 (f' i' j) := by
   apply List.ext_getElem?
   intro m
   rw [List.getElem?_set]
   simp only [List.length_map, List.length_range, List.getElem?_map]
   rcases Nat.lt_or_ge m k with hmk | hmk
   ·
    rw [List.getElem?_range hmk]
    simp only [Option.map_some]
    by_cases e : j = m
    ·
     subst e
     rw [if_pos rfl, if_pos hj, hf, if_pos ⟨rfl, rfl⟩]
    · rw [if_neg e, hf, if_neg (by omega)]
   ·
    rw [List.getElem?_eq_none (by simpa using hmk)]
    simp only [Option.map_none]
    split
    · omega
    · rfl
  rw [e2] at h1
  exact h1
 ·
  have h1 := (h.rows i' hi').other (p := ⟨b + 1 + i, j, none⟩) (.int .i64 z) (by simp <;> omega)
  have e2 : ((List.range k).map fun j => Value.int .i64 (f i' j)) = (List.range k).map fun j => Value.int .i64 (f' i' j) := by
   congr 1
   funext m
   rw [hf, if_neg (by omega)]
  rw [e2] at h1
  exact h1
theorem TabIn.cell1 {W : World} {b k i0 : Nat} {f : Nat → Nat → Int} (h : TabIn W b k i0 f) {i : Nat} (hi : i < i0) (hk : i < k) : W.cell? ⟨b, i, none⟩ = some (.slice (some ⟨b + 1 + i, 0, none⟩) k k) := by
 refine h.outer.cell i _ ?_
 rw [List.getElem?_map, List.getElem?_range hk, Option.map_some, if_pos hi]
theorem TabIn.cell0 {W : World} {b k i0 : Nat} {f : Nat → Nat → Int} (h : TabIn W b k i0 f) {i : Nat} (hi : i0 ≤ i) (hk : i < k) : W.cell? ⟨b, i, none⟩ = some (.slice none 0 0) := by
 refine h.outer.cell i _ ?_
 rw [List.getElem?_map, List.getElem?_range hk, Option.map_some, if_neg (by omega)]
theorem TabIn.cell2 {W : World} {b k i0 : Nat} {f : Nat → Nat → Int} (h : TabIn W b k i0 f) {i j : Nat} (hi : i < i0) (hj : j < k) : W.cell? ⟨b + 1 + i, j, none⟩ = some (.int .i64 (f i j)) := by
 refine (h.rows i hi).cell j _ ?_
 rw [List.getElem?_map, List.getElem?_range hj, Option.map_some]
theorem tabL_length (k : Nat) (f : Nat → Nat → Int) : (tabL k f).length = k := by simp [tabL]
theorem tabL_row (k : Nat) (f : Nat → Nat → Int) (i : Nat) (h : i < (tabL k f).length) : (tabL k f)[i] = (List.range k).map (f i) := by simp [tabL]
theorem TabIn.done {W : World} {b k : Nat} {f : Nat → Nat → Int} (h : TabIn W b k k f) (hf : ∀ i j, I64 (f i j)) : rIss W (.slice (some ⟨b, 0, none⟩) k k) (tabL k f) := by
 refine ⟨_, k, by rw [tabL_length], by rw [tabL_length]; omega, fun _ => ⟨b, 0, rfl, fun i hi => ?_⟩⟩
 have hik : i < k := by rw [tabL_length] at hi; exact hi
 refine ⟨_, by rw [Nat.zero_add]; exact h.cell1 hik hik, _, k, by rw [tabL_row]; simp, by rw [tabL_row]; simp, ?_, fun _ => ⟨b + 1 + i, 0, rfl, fun j hj => ?_⟩⟩
 ·
  intro x hx
  rw [tabL_row] at hx
  obtain ⟨j, _, rfl⟩ := List.mem_map.1 hx
  exact hf i j
 ·
  have hjk : j < k := by rw [tabL_row] at hj; simpa using hj
  have e : (tabL k f)[i][j] = f i j := by simp [tabL]
  rw [e, Nat.zero_add]
  exact h.cell2 hik hjk
theorem undI : Tryz.prog.underlying 22 = some (.slice 3) := by kernel_rfl
theorem undIs : Tryz.prog.underlying 23 = some (.slice 22) := by kernel_rfl
theorem infoI : ∃ i z, Tryz.prog.info? 3 = some i ∧ i.zero = some z ∧ z.cells = #[.int .i64 0] ∧ i.size = 1 ∧ i.bytes ≤ 64 := by
 have h : (Tryz.prog.info? 3).map (fun i => (i.zero.map Value.cells, i.size, decide (i.bytes ≤ 64))) = some (some #[.int .i64 0], 1, true) := by kernel_rfl
 obtain ⟨i, hi, he⟩ := Option.map_eq_some_iff.1 h
 simp only [Prod.mk.injEq] at he
 obtain ⟨z, hz, hc⟩ := Option.map_eq_some_iff.1 he.1
 exact ⟨i, z, hi, hz, hc, he.2.1, of_decide_eq_true he.2.2⟩
theorem infoIs : ∃ i z, Tryz.prog.info? 22 = some i ∧ i.zero = some z ∧ z.cells = #[.slice none 0 0] ∧ i.size = 1 ∧ i.bytes ≤ 64 := by
 have h : (Tryz.prog.info? 22).map (fun i => (i.zero.map Value.cells, i.size, decide (i.bytes ≤ 64))) = some (some #[.slice none 0 0], 1, true) := by kernel_rfl
 obtain ⟨i, hi, he⟩ := Option.map_eq_some_iff.1 h
 simp only [Prod.mk.injEq] at he
 obtain ⟨z, hz, hc⟩ := Option.map_eq_some_iff.1 he.1
 exact ⟨i, z, hi, hz, hc, he.2.1, of_decide_eq_true he.2.2⟩
theorem mkI (n : Int) (m : Nat) (e : n = m) (hn : m ≤ 1099511627776) (W : World) : (Instr.makeSlice 22 (.int .i64 n) (.int .i64 n)).run Tryz.prog W = .ok (.slice (some ⟨W.heap.size, 0, none⟩) m m) (W.alloc (.cells (madeCells #[.int .i64 0] m) 3)) := by
 subst e
 obtain ⟨i, z, hi, hz, h1, h2, h3⟩ := infoI
 have hb : (i.bytes : Int) * (m : Int) ≤ 64 * m := Int.mul_le_mul_of_nonneg_right (by omega) (by omega)
 have h := run_make (P := Tryz.prog) W _ _ i z undI hi hz .i64 .i64 m m (by omega) (by omega) (by omega) (by omega)
 rw [h, h1, h2]
 simp
theorem mkIs (n : Int) (m : Nat) (e : n = m) (hn : m ≤ 1099511627776) (W : World) : (Instr.makeSlice 23 (.int .i64 n) (.int .i64 n)).run Tryz.prog W = .ok (.slice (some ⟨W.heap.size, 0, none⟩) m m) (W.alloc (.cells (madeCells #[.slice none 0 0] m) 22)) := by
 subst e
 obtain ⟨i, z, hi, hz, h1, h2, h3⟩ := infoIs
 have hb : (i.bytes : Int) * (m : Int) ≤ 64 * m := Int.mul_le_mul_of_nonneg_right (by omega) (by omega)
 have h := run_make (P := Tryz.prog) W _ _ i z undIs hi hz .i64 .i64 m m (by omega) (by omega) (by omega) (by omega)
 rw [h, h1, h2]
 simp
end Go.Proofs.YtadpjidakippeaaGreat

/- Tables that are square: score.counted; the second ContainsFunc. -/
namespace Go.Proofs.YtadpjidakippeaaGreat
open Go.RowKit
def at2 (T : List (List Int)) (i j : Nat) : Int := (T.getD i []).getD j 0
def sumF (f : Nat → Int) : Nat → Int
 | 0 => 0
 | n + 1 => sumF f n + f n
theorem sumF_nonneg {f : Nat → Int} {k : Nat} (h : ∀ j, j < k → 0 ≤ f j) : ∀ n, n ≤ k → 0 ≤ sumF f n
 | 0, _ => Int.le_refl _
 | n + 1, hn => by have := sumF_nonneg h n (by omega); have := h n (by omega); simp only [sumF]; omega
theorem sumF_mono {f : Nat → Int} {k : Nat} (h : ∀ j, j < k → 0 ≤ f j) : ∀ n m, n ≤ m → m ≤ k → sumF f n ≤ sumF f m
 | n, 0, hnm, _ => by rw [show n = 0 by omega]; exact Int.le_refl _
 | n, m + 1, hnm, hm => by
  rcases Nat.lt_or_ge n (m + 1) with h1 | h1
  · have := sumF_mono h n m (by omega) (by omega); have := h m (by omega); simp only [sumF]; omega
  · rw [show n = m + 1 by omega]; exact Int.le_refl _
theorem sumF_term {f : Nat → Int} {k : Nat} (h : ∀ j, j < k → 0 ≤ f j) (j : Nat) (hj : j < k) : f j ≤ sumF f k := by
 have h1 := sumF_mono h (j + 1) k (by omega) (Nat.le_refl _)
 have h2 := sumF_nonneg h j (by omega)
 simp only [sumF] at h1
 omega
structure Sq (T : List (List Int)) (k : Nat) : Prop where
 len : T.length = k
 row : ∀ l ∈ T, l.length = k
structure OkT (T : List (List Int)) (k : Nat) : Prop where
 pos : ∀ i j, i < k → j < k → 0 ≤ at2 T i j
 all : sumF (fun i => sumF (at2 T i) k) k ≤ 2147483647
theorem rIss.row {w : World} {A : Option Addr} {n c k : Nat} {T : List (List Int)} (h : rIss w (.slice A n c) T) (hs : Sq T k) {i : Nat} (hi : i < k) :
  ∃ g o g1 o1 c1, A = some ⟨g, o, none⟩ ∧ w.cell? ⟨g, o + i, none⟩ = some (.slice (some ⟨g1, o1, none⟩) k c1) ∧ ∀ j, j < k → w.cell? ⟨g1, o1 + j, none⟩ = some (.int .i64 (at2 T i j)) ∧ I64 (at2 T i j) := by
 have hiT : i < T.length := by rw [hs.len]; exact hi
 obtain ⟨g, o, A1, c1, hA, h1, h2⟩ := h.at hiT
 have hl : T[i].length = k := hs.row _ (List.getElem_mem hiT)
 have e : T.getD i [] = T[i] := by rw [List.getD_eq_getElem?_getD, List.getElem?_eq_getElem hiT]; rfl
 rw [hl] at h1 h2
 obtain ⟨A', c', hv, _, hI, h3⟩ := h2
 simp only [Value.slice.injEq] at hv
 obtain ⟨rfl, _, rfl⟩ := hv
 obtain ⟨g1, o1, rfl, h4⟩ := h3 (by intro e; rw [e] at hl; simp at hl; omega)
 refine ⟨g, o, g1, o1, c1, hA, h1, fun j hj => ?_⟩
 have hj' : j < T[i].length := by rw [hl]; exact hj
 have e2 : at2 T i j = T[i][j] := by unfold at2; rw [e, List.getD_eq_getElem?_getD, List.getElem?_eq_getElem hj']; rfl
 rw [e2]
 exact ⟨h4 j hj', hI _ (List.getElem_mem hj')⟩
set_option maxRecDepth 100000 in
set_option maxHeartbeats 2000000 in
/-- counted, of counts that are not too many -/
theorem counted_c (w : World) (v : Value) (T : List (List Int)) (k : Nat) (hT : rIss w v T) (hs : Sq T k) (hk : k ≤ 1099511627775) (ho : OkT T k) : Calls Tryz.prog 35 #[v] w (Post w fun r _ => r = .bool true) := by
 obtain ⟨A, c, rfl, hT⟩ := hT.shape
 rw [hs.len] at hT ⊢
 have H1 := Lib.hid hT
 have HS := Lib.hid hs
 have HO := Lib.hid ho
 have HK := Lib.hid hk
 clear hT hs ho
 go_enter Tryz.func35, Tryz.ntmps35
 go_wp2_with fail
 go_loopw [3, 10] (fun t3 t W => ∃ i : Nat, t = .int .i64 (i : Nat) ∧ i ≤ k ∧ t3 = .int .i64 (2147483647 - sumF (fun i => sumF (at2 T i) k) i) ∧ Below w.heap.size w W) (fun _ t _ => (k - (intOf t).toNat))
 case atStart => exact ⟨0, rfl, Nat.zero_le _, rfl, Below.refl _ _⟩
 case round =>
  obtain ⟨i, rfl, hi, rfl, hbw⟩ := hrel
  rcases Nat.lt_or_ge i k with hik | hik
  ·
   have hii : (i : Int) < (k : Int) := by omega
   have HIK := Lib.hid hik
   have hwi : IntKind.i64.wrap ((i : Int) + 1) = ((i + 1 : Nat) : Int) := i64w (by omega) (by omega)
   obtain ⟨g, o, g1, o1, c1, rfl, xa, xb⟩ := H1.out.row HS.out hik
   have ya := ext_cell hbw xa
   have HB := Lib.hid xb
   have e0 : ∀ i j, i < k → j ≤ k → 0 ≤ sumF (at2 T i) j := fun i j hi hj => sumF_nonneg (fun j hj => HO.out.pos i j hi hj) j hj
   have e1 : sumF (fun i => sumF (at2 T i) k) (i + 1) ≤ 2147483647 := Int.le_trans (sumF_mono (fun i hi => e0 i k hi (Nat.le_refl _)) (i + 1) k (by omega) (Nat.le_refl _)) HO.out.all
   have e2 : 0 ≤ sumF (fun i => sumF (at2 T i) k) i := sumF_nonneg (fun i hi => e0 i k hi (Nat.le_refl _)) i hi
   have ES : sumF (fun i => sumF (at2 T i) k) (i + 1) = sumF (fun i => sumF (at2 T i) k) i + sumF (at2 T i) k := rfl
   have EI := Lib.hid ES
   obtain ⟨s, es⟩ : ∃ s, sumF (fun i => sumF (at2 T i) k) i = s := ⟨_, rfl⟩
   rw [ES] at e1
   rw [es] at e1 e2 EI ⊢
   have E1 := Lib.hid e1
   have E2 := Lib.hid e2
   clear xa xb hi es ES e1 e2 e0
   go_wp2_with fail
   go_loopw [3, 16] (fun t3 t W => ∃ j : Nat, t = .int .i64 (j : Nat) ∧ j ≤ k ∧ t3 = .int .i64 (2147483647 - s - sumF (at2 T i) j) ∧ Below w.heap.size w W) (fun _ t _ => (k - (intOf t).toNat))
   case atStart => exact ⟨0, rfl, Nat.zero_le _, by simp [sumF], hbw⟩
   case round =>
    obtain ⟨j, rfl, hj, rfl, hbw⟩ := hrel
    rcases Nat.lt_or_ge j k with hjk | hjk
    ·
     have hjj : (j : Int) < (k : Int) := by omega
     have hwj : IntKind.i64.wrap ((j : Int) + 1) = ((j + 1 : Nat) : Int) := i64w (by omega) (by omega)
     have ya := ext_cell hbw (HB.out j hjk).1
     have p0 := HO.out.pos i j HIK.out hjk
     have p1 := sumF_mono (fun j hj => HO.out.pos i j HIK.out hj) (j + 1) k (by omega) (Nat.le_refl _)
     have p2 := sumF_nonneg (fun j hj => HO.out.pos i j HIK.out hj) j (by omega)
     simp only [sumF] at p1
     have EJ := Lib.hid (show sumF (at2 T i) (j + 1) = sumF (at2 T i) j + at2 T i j from rfl)
     have p3 := E1.out
     have p4 := E2.out
     obtain ⟨x, ex⟩ : ∃ x, at2 T i j = x := ⟨_, rfl⟩
     obtain ⟨u, eu⟩ : ∃ u, sumF (at2 T i) j = u := ⟨_, rfl⟩
     rw [eu] at p1 p2 EJ ⊢
     rw [ex] at p0 p1 EJ ya
     obtain ⟨q, eq⟩ : ∃ q, 2147483647 - s - u = q := ⟨_, rfl⟩
     rw [eq]
     have EQ := Lib.hid eq
     have hx0 : ¬ x < 0 := by omega
     have hxl : ¬ q < x := by omega
     have hwq : IntKind.i64.wrap (q - x) = q - x := i64w (by omega) (by omega)
     clear ex eu eq p0 p1 p2 p3 p4
     go_wp2
     go_roundw
     case rel => exact ⟨j + 1, rfl, hjk, by rw [EJ.out, ← EQ.out]; exact vint (by omega), hbw⟩
     case measure => simp [intOf]; omega
    ·
     obtain rfl : j = k := by omega
     have hjj : ¬ (j : Int) < (j : Int) := by omega
     go_wp2
     go_roundw
     case rel => exact ⟨i + 1, rfl, HIK.out, by rw [EI.out]; exact vint (by omega), hbw⟩
     case measure => simp [intOf]; have := HIK.out; omega
  ·
   obtain rfl : i = k := by omega
   have hii : ¬ (i : Int) < (i : Int) := by omega
   go_wp2_with fail
   go_ret
   exact ⟨_, rfl, hbw, rfl⟩
set_option maxRecDepth 100000 in
/-- Rates$1 -/
theorem notlen_c (w : World) (b n m c d : Nat) (A B : Option Addr) (hc : w.cell? ⟨b, 0, none⟩ = some (.slice B m d)) : Calls Tryz.prog 34 #[.slice A n c, .pointer (some ⟨b, 0, none⟩)] w (Post w fun r _ => r = .bool (decide (n ≠ m))) := by
 by_cases h : n = m
 ·
  have h1 : ((n : Int) != (m : Int)) = false := by rw [h]; simp
  go_enter Tryz.func34, Tryz.ntmps34
  go_wp2_with fail
  go_ret
  exact ⟨_, rfl, Below.refl _ _, by simp [h]⟩
 ·
  have h1 : ((n : Int) != (m : Int)) = true := by rw [bne_iff_ne]; omega
  go_enter Tryz.func34, Tryz.ntmps34
  go_wp2_with fail
  go_ret
  exact ⟨_, rfl, Below.refl _ _, by simp [h]⟩
def IdxSaid2 (T : List (List Int)) (p : List Int → Bool) (r : Value) : Prop := ∃ z : Int, r = .int .i64 z ∧ (0 ≤ z ↔ T.any p = true)
theorem anyl_take_succ {α : Type} {l : List α} {p : α → Bool} {j : Nat} (hj : j < l.length) (h0 : (l.take j).any p = false) (h : p l[j] = false) : (l.take (j + 1)).any p = false := by
 rw [List.take_succ_eq_append_getElem hj, List.any_append, h0]; simp [h]
theorem anyl_at {α : Type} {l : List α} {p : α → Bool} {j : Nat} (hj : j < l.length) (h : p l[j] = true) : l.any p = true := List.any_eq_true.2 ⟨_, List.getElem_mem hj, h⟩
set_option maxRecDepth 100000 in
set_option maxHeartbeats 1000000 in
/-- IndexFunc of lists, of any test by a closure -/
theorem index2f_c (w : World) (v : Value) (fk : Nat) (caps : Array Value) (hen : ∀ args W, (callFunc fk args).run Tryz.prog W = .ok (.enter fk args) W) (T : List (List Int)) (p : List Int → Bool) (hT : rIss w v T) (hn : T.length ≤ 1099511627775) (hc : ∀ l ∈ T, ∀ A c W, Ext w W → rIs W (.slice A l.length c) l → Calls Tryz.prog fk (#[.slice A l.length c] ++ caps) W (Post W fun r _ => r = .bool (p l))) :
  Calls Tryz.prog 69 #[v, .func (.func fk) #[] caps] w (Post w fun r _ => IdxSaid2 T p r) := by
 obtain ⟨A, c, rfl, hT⟩ := hT.shape
 have H1 := Lib.hid hT
 have HC := Lib.hid hc
 obtain ⟨n, en⟩ : ∃ n, T.length = n := ⟨_, rfl⟩
 rw [en] at hn ⊢
 have EN := Lib.hid en
 clear hT hc en
 go_enter Tryz.func69, Tryz.ntmps69
 go_wp2_with fail
 go_loopw [8] (fun t W => ∃ j : Nat, t = .int .i64 (j : Nat) ∧ j ≤ n ∧ (T.take j).any p = false ∧ Below w.heap.size w W) (fun t _ => (n - (intOf t).toNat))
 case atStart => exact ⟨0, rfl, Nat.zero_le _, rfl, Below.refl _ _⟩
 case round =>
  obtain ⟨j, rfl, hj, ht, hbw⟩ := hrel
  have HT := Lib.hid ht
  clear ht
  rcases Nat.lt_or_ge j n with hjn | hjn
  ·
   have hji : (j : Int) < (n : Int) := by omega
   have HJ := Lib.hid (show j < T.length by rw [EN.out]; exact hjn)
   obtain ⟨g, o, A1, c1, rfl, xa, xr⟩ := H1.out.at HJ.out
   have xa := ext_cell hbw xa
   obtain ⟨l, el⟩ : ∃ l, T[j]'HJ.out = l := ⟨_, rfl⟩
   rw [el] at xa xr
   have EL := Lib.hid el
   have HK := Lib.hid (HC.out l (by rw [← el]; exact List.getElem_mem HJ.out) A1 c1 wr hbw (xr.ext hbw))
   have hwj : IntKind.i64.wrap ((j : Int) + 1) = ((j + 1 : Nat) : Int) := i64w (by omega) (by omega)
   obtain ⟨y, ey⟩ : ∃ y, p l = y := ⟨_, rfl⟩
   rw [ey] at HK
   have EY := Lib.hid ey
   clear ey el xr
   go_wp2_with fail
   refine HK.out.mono ?_
   rintro e w1 ⟨v1, rfl, hb1, rfl⟩
   have hbw1 := nT hbw hb1
   clear hb1
   cases y with
   | true =>
    have hj0 : (0 : Int) ≤ (j : Int) := by omega
    go_wp2_with fail
    go_ret
    exact ⟨_, rfl, hbw1, _, rfl, by
     have := anyl_at HJ.out (p := p) (by rw [EL.out]; exact EY.out)
     simp only [this, hj0]⟩
   | false =>
    go_wp2
    go_roundw
    case rel => exact ⟨j + 1, rfl, hjn, anyl_take_succ HJ.out HT.out (by rw [EL.out]; exact EY.out), hbw1⟩
    case measure => simp [intOf]; omega
  ·
   obtain rfl : j = n := by omega
   have hji : ¬ (j : Int) < (j : Int) := by omega
   go_wp2_with fail
   go_ret
   exact ⟨_, rfl, hbw, -1, rfl, by
    have h1 := HT.out
    rw [List.take_of_length_le (by rw [EN.out]; omega)] at h1
    rw [h1]; decide⟩
set_option maxRecDepth 100000 in
/-- ContainsFunc of lists, of Rates$1: is one of another length? -/
theorem contains2_any (w : World) (v : Value) (b : Nat) (T : List (List Int)) (k d : Nat) (B : Option Addr) (hT : rIss w v T) (hk : T.length ≤ 1099511627775) (hc : w.cell? ⟨b, 0, none⟩ = some (.slice B k d)) :
  Calls Tryz.prog 33 #[v, .func (.func 34) #[] #[.pointer (some ⟨b, 0, none⟩)]] w (Post w fun r _ => r = .bool (T.any (fun l => decide (l.length ≠ k)))) := by
 have HI := Lib.hid (index2f_c w v _ #[.pointer (some ⟨b, 0, none⟩)] (fun _ _ => by kernel_rfl) T (fun l => decide (l.length ≠ k)) hT hk (fun l _ A c W he _ => notlen_c W b l.length k c d A B (ext_cell he hc)))
 obtain ⟨A, c, rfl, hT⟩ := hT.shape
 obtain ⟨n, en⟩ : ∃ n, T.length = n := ⟨_, rfl⟩
 rw [en] at HI ⊢
 clear hT hc en hk
 go_enter Tryz.func33, Tryz.ntmps33
 go_wp2_with fail
 refine HI.out.mono ?_
 rintro e w1 ⟨v1, rfl, hb1, z, rfl, hz⟩
 have HZ := Lib.hid hz
 clear hz
 go_wp2_with fail
 go_ret
 exact ⟨_, rfl, hb1, (by
  have := HZ.out
  show Value.bool (decide (0 ≤ z)) = _
  congr 1
  rw [Bool.eq_iff_iff, decide_eq_true_iff]
  exact this)⟩
theorem contains2_c (w : World) (v : Value) (b : Nat) (T : List (List Int)) (k d : Nat) (B : Option Addr) (hT : rIss w v T) (hs : Sq T k) (hk : k ≤ 1099511627775) (hc : w.cell? ⟨b, 0, none⟩ = some (.slice B k d)) :
  Calls Tryz.prog 33 #[v, .func (.func 34) #[] #[.pointer (some ⟨b, 0, none⟩)]] w (Post w fun r _ => r = .bool false) := by
 have h := contains2_any w v b T k d B hT (by rw [hs.len]; exact hk) hc
 rw [show T.any (fun l => decide (l.length ≠ k)) = false from by
  rw [List.any_eq_false]
  intro l hl
  have := hs.row l hl
  simp [this]] at h
 exact h
end Go.Proofs.YtadpjidakippeaaGreat
