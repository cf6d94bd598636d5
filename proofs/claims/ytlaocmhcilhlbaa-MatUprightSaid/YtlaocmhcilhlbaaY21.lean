/- Lists that grow; abaculushand.Row. -/
import Derived.Test.YtlaocmhcilhlbaaY20
import Derived.Test.YtlaocmhcilhlbaaY18
set_option linter.unusedVariables false
set_option linter.unusedSimpArgs false
namespace Go.Proofs.Ytlaocmhcilhlbaa
open Go.RowKit
/-- A list of the call's own that grows: its elements are of three cells. -/
def AppL (rel : World → Value → Rat → Prop) (T : TypeId) (W : World) (base : Nat) (v : Value) (l : List Rat) : Prop :=
  ∃ xs, RowN W base T 3 v l.length xs ∧ ∀ j (hj : j < l.length), ∃ s A c n B k m, xs[j * 3]? = some (.bool s) ∧ xs[j * 3 + 1]? = some (.slice A n c) ∧ xs[j * 3 + 2]? = some (.slice B m k) ∧ rel W (.agg #[.bool s, .slice A n c, .slice B m k]) l[j]
/-- A list in memory. -/
def rLs (rel : World → Value → Rat → Prop) (w : World) (v : Value) (l : List Rat) : Prop := ∃ A c, v = .slice A l.length c ∧ l.length ≤ c ∧ (l ≠ [] → ∃ g o, A = some ⟨g, o, none⟩ ∧
  ∀ j (hj : j < l.length), ∃ s A1 c1 n1 B1 k1 m1, w.cell? ⟨g, o + j * 3, none⟩ = some (.bool s) ∧ w.cell? ⟨g, o + j * 3 + 1, none⟩ = some (.slice A1 n1 c1) ∧ w.cell? ⟨g, o + j * 3 + 2, none⟩ = some (.slice B1 m1 k1) ∧ rel w (.agg #[.bool s, .slice A1 n1 c1, .slice B1 m1 k1]) l[j])
theorem rLs.qs {w : World} {v : Value} {l : List Rat} (h : rLs rQ w v l) : rQs w v l := by
  obtain ⟨A, c, hv, hc, h⟩ := h
  refine ⟨A, c, hv, hc, fun hl => ?_⟩
  obtain ⟨g, o, hA, h⟩ := h hl
  refine ⟨g, o, hA, fun j hj => ?_⟩
  obtain ⟨s, A1, c1, n1, B1, k1, m1, h1, h2, h3, h4⟩ := h j hj
  exact ⟨s, _, _, h1, h2, h3, h4⟩
section
variable {rel : World → Value → Rat → Prop} {T : TypeId}
theorem rLs.ext (hre : ∀ W w' v q, rel W v q → Ext W w' → rel w' v q) {w w' : World} {v : Value} {l : List Rat} (h : rLs rel w v l) (he : Ext w w') : rLs rel w' v l := by
  obtain ⟨A, c, hv, hc, h⟩ := h
  refine ⟨A, c, hv, hc, fun hl => ?_⟩
  obtain ⟨g, o, hA, h⟩ := h hl
  refine ⟨g, o, hA, fun j hj => ?_⟩
  obtain ⟨s, A1, c1, n1, B1, k1, m1, h1, h2, h3, h4⟩ := h j hj
  exact ⟨s, A1, c1, n1, B1, k1, m1, ext_cell he h1, ext_cell he h2, ext_cell he h3, hre _ _ _ _ h4 he⟩
theorem rLs.at {w : World} {A : Option Addr} {n c : Nat} {l : List Rat} (h : rLs rel w (.slice A n c) l) {j : Nat} (hj : j < l.length) :
    ∃ g o s A1 c1 n1 B1 k1 m1, A = some ⟨g, o, none⟩ ∧ w.cell? ⟨g, o + j * 3, none⟩ = some (.bool s) ∧ w.cell? ⟨g, o + j * 3 + 1, none⟩ = some (.slice A1 n1 c1) ∧ w.cell? ⟨g, o + j * 3 + 2, none⟩ = some (.slice B1 m1 k1) ∧
      rel w (.agg #[.bool s, .slice A1 n1 c1, .slice B1 m1 k1]) l[j] := by
  obtain ⟨A', c', hv, hc, h⟩ := h
  simp only [Value.slice.injEq] at hv
  obtain ⟨rfl, rfl, rfl⟩ := hv
  obtain ⟨g, o, hA, h⟩ := h (by intro e; rw [e] at hj; simp at hj)
  obtain ⟨s, A1, c1, n1, B1, k1, m1, h1, h2, h3, h4⟩ := h j hj
  exact ⟨g, o, s, A1, c1, n1, B1, k1, m1, hA, h1, h2, h3, h4⟩
theorem rLs.shape {w : World} {v : Value} {l : List Rat} (h : rLs rel w v l) : ∃ A c, v = .slice A l.length c ∧ rLs rel w (.slice A l.length c) l := by
  obtain ⟨A, c, rfl, h⟩ := h
  exact ⟨A, c, rfl, A, c, rfl, h⟩
theorem AppL.nil (W : World) (base : Nat) : AppL rel T W base (.slice none 0 0) [] := ⟨[], RowN.nil W base T 3, fun j hj => absurd hj (by simp)⟩
theorem AppL.ext (hre : ∀ W w' v q, rel W v q → Ext W w' → rel w' v q) {W w' : World} {base : Nat} {v : Value} {l : List Rat} (h : AppL rel T W base v l) (he : Ext W w') : AppL rel T w' base v l := by
  obtain ⟨xs, h1, h2⟩ := h
  refine ⟨xs, h1.ext he, fun j hj => ?_⟩
  obtain ⟨s, A, c, n, B, k, m, e1, e2, e3, e4⟩ := h2 j hj
  exact ⟨s, A, c, n, B, k, m, e1, e2, e3, hre _ _ _ _ e4 he⟩
theorem AppL.drew (hrd : ∀ W v q, rel W v q → rel W.drew v q) {W : World} {base : Nat} {v : Value} {l : List Rat} (h : AppL rel T W base v l) : AppL rel T W.drew base v l := by
  obtain ⟨xs, h1, h2⟩ := h
  refine ⟨xs, ⟨h1.own, h1.ni⟩, fun j hj => ?_⟩
  obtain ⟨s, A, c, n, B, k, m, e1, e2, e3, e4⟩ := h2 j hj
  exact ⟨s, A, c, n, B, k, m, e1, e2, e3, hrd _ _ _ e4⟩
theorem AppL.done {W : World} {base : Nat} {v : Value} {l : List Rat} (h : AppL rel T W base v l) : rLs rel W v l := by
  obtain ⟨xs, h1, h2⟩ := h
  rcases h1.own.2 with ⟨rfl, h0⟩ | ⟨g, cap, cur, rfl, hb, hg, hnc, _⟩
  · have : l = [] := List.eq_nil_of_length_eq_zero h0
    subst this
    exact ⟨none, 0, rfl, Nat.le_refl _, fun h => absurd rfl h⟩
  · refine ⟨_, cap, rfl, hnc, fun _ => ⟨g, 0, rfl, fun j hj => ?_⟩⟩
    obtain ⟨s, A, c, n, B, k, m, e1, e2, e3, e4⟩ := h2 j hj
    have hc := h1.own.cells (g := g) rfl
    have hadd : ∀ i, (⟨g, 0, none⟩ : Addr).add i = ⟨g, i, none⟩ := by intro i; unfold Addr.add; split <;> simp_all
    have f1 := hc _ _ e1
    have f2 := hc _ _ e2
    have f3 := hc _ _ e3
    rw [hadd] at f1 f2 f3
    simp only [Nat.zero_add]
    exact ⟨s, A, c, n, B, k, m, f1, f2, f3, e4⟩
theorem AppL.slice {W : World} {base : Nat} {v : Value} {l : List Rat} (h : AppL rel T W base v l) : ∃ A c, v = .slice A l.length c := by
  obtain ⟨A, c, hv, _⟩ := h.done
  exact ⟨A, c, hv⟩
theorem wp_push {P : Program} {o : Oper} {a : Act} {w : World} {K : Act → World → Prop} {Q : Exit → Act → World → Prop} (hrk : ∀ W w' v q, rel W v q → Keep W w' → rel w' v q) (s x : Operand) (t : TypeId)
    (ho : o.op = .call { callee := .builtin .append, args := #[s, x], argTypes := #[t, t] }) (ht : P.underlying t = some (.slice T))
    (hinfo : ∃ i z, P.info? T = some i ∧ i.zero = some z ∧ z.cells.size = 3 ∧ i.size = 3 ∧ i.bytes ≤ 64 ∧ ∀ u ∈ z.cells.toList, noInt u = true)
    (base : Nat) (v : Value) (l : List Rat) (hs : a.eval s = v) (happ : AppL rel T w base v l)
    (b c : Nat) (hx : a.eval x = .slice (some ⟨b, 0, none⟩) 1 c) {s1 : Bool} {A1 B1 : Option Addr} {n1 c1 m1 k1 : Nat} (hown : Own w b T [.bool s1, .slice A1 n1 c1, .slice B1 m1 k1])
    (q : Rat) (hq : rel w (.agg #[.bool s1, .slice A1 n1 c1, .slice B1 m1 k1]) q) (hlen : l.length + 1 ≤ 1099511627776) (hbase : base ≤ w.heap.size)
    (h : ∀ v' w', AppL rel T w' base v' (l ++ [q]) → Keep w w' → Below base w w' → K (a.put o.dst v') w') : o.wp P a w K Q := by
  obtain ⟨xs, hrow, hel⟩ := happ
  obtain ⟨i, z, hi, hz, hzs, hisz, hby, hzn⟩ := hinfo
  have hnews : ∀ j u, [Value.bool s1, .slice A1 n1 c1, .slice B1 m1 k1][j]? = some u → w.cell? ((⟨b, 0, none⟩ : Addr).add j) = some u := by
    intro j u hu
    have hadd : (⟨b, 0, none⟩ : Addr).add j = ⟨b, j, none⟩ := by unfold Addr.add; split <;> simp_all
    rw [hadd]
    exact hown.cell j u hu
  obtain ⟨v', w', hr, hrow', hg⟩ := app_row (P := P) w base t o.type T i z 3 i.bytes ht hi hz hisz rfl hzs (by omega) hzn v l.length xs hrow ⟨b, 0, none⟩ c _ (by simp) hnews (by intro u hu; simp at hu; rcases hu with rfl | rfl | rfl <;> rfl) (by intro u hu; simp at hu; rcases hu with rfl | rfl | rfl <;> rfl)
    (by simp only [maxLen]; omega) (by
      have : (l.length + 1) * i.bytes ≤ 1099511627776 * 64 := Nat.mul_le_mul hlen hby
      omega) hbase
  have hkeep := grown_keep hrow hg
  have hb := grown_below (B := base) hrow hg (Nat.le_refl _) hbase
  have hxl : xs.length = l.length * 3 := hrow.own.1
  unfold Oper.wp execOp
  simp only [ho, resolve, invoke, builtin, Sem.run_bind, Sem.run_pure, Result.andThen_ok, List.map_toArray, List.map_cons, List.map_nil, hs, hx, hr]
  refine h v' w' ⟨_, by simpa using hrow', fun j hj => ?_⟩ hkeep hb
  rcases Nat.lt_or_ge j l.length with hjl | hjl
  · obtain ⟨s, A, c, n, B, k, m, e1, e2, e3, e4⟩ := hel j hjl
    refine ⟨s, A, c, n, B, k, m, ?_, ?_, ?_, ?_⟩
    · rw [List.getElem?_append_left (by omega)]; exact e1
    · rw [List.getElem?_append_left (by omega)]; exact e2
    · rw [List.getElem?_append_left (by omega)]; exact e3
    · rw [List.getElem_append_left hjl]; exact hrk _ _ _ _ e4 hkeep
  · obtain rfl : j = l.length := by simp at hj; omega
    refine ⟨s1, A1, c1, n1, B1, k1, m1, ?_, ?_, ?_, ?_⟩
    · rw [List.getElem?_append_right (by omega), hxl]; simp
    · rw [List.getElem?_append_right (by omega), hxl]; simp
    · rw [List.getElem?_append_right (by omega), hxl]; simp
    · simp; exact hrk _ _ _ _ hq hkeep
end
theorem zeroQ_mem : ∀ u ∈ zeroQ.toList, noInt u = true := by intro u hu; simp [zeroQ] at hu; rcases hu with rfl | rfl <;> rfl
theorem pushQ_info : ∃ i z, Try.prog.info? 34 = some i ∧ i.zero = some z ∧ z.cells.size = 3 ∧ i.size = 3 ∧ i.bytes ≤ 64 ∧ ∀ u ∈ z.cells.toList, noInt u = true := by
  obtain ⟨i, z, h1, h2, h3, h4, h5⟩ := infoQ2
  exact ⟨i, z, h1, h2, by rw [h3]; rfl, h4, h5, by rw [h3]; exact zeroQ_mem⟩
theorem pushR_info : ∃ i z, Try.prog.info? 65 = some i ∧ i.zero = some z ∧ z.cells.size = 3 ∧ i.size = 3 ∧ i.bytes ≤ 64 ∧ ∀ u ∈ z.cells.toList, noInt u = true := by
  have h : (Try.prog.info? 65).map (fun i => (i.zero.map Value.cells, i.size, decide (i.bytes ≤ 64))) = some (some zeroQ, 3, true) := by kernel_rfl
  obtain ⟨i, hi, he⟩ := Option.map_eq_some_iff.1 h
  simp only [Prod.mk.injEq] at he
  obtain ⟨z, hz, hc⟩ := Option.map_eq_some_iff.1 he.1
  exact ⟨i, z, hi, hz, by rw [hc]; rfl, he.2.1, of_decide_eq_true he.2.2, by rw [hc]; exact zeroQ_mem⟩
end Go.Proofs.Ytlaocmhcilhlbaa

/- abaculushand.Row, InRow. -/
namespace Go.Proofs.Ytlaocmhcilhlbaa
open Go.RowKit
theorem wpList_push {P : Program} {rel : World → Value → Rat → Prop} {T : TypeId} {ops : Array Oper} {rest : List Oper} {o : Oper} {a : Act} {w : World} {Q : Exit → Act → World → Prop} (hrk : ∀ W w' v q, rel W v q → Keep W w' → rel w' v q) (hgd : o.guard = none) (s x : Operand) (t : TypeId)
    (ho : o.op = .call { callee := .builtin .append, args := #[s, x], argTypes := #[t, t] }) (ht : P.underlying t = some (.slice T))
    (hinfo : ∃ i z, P.info? T = some i ∧ i.zero = some z ∧ z.cells.size = 3 ∧ i.size = 3 ∧ i.bytes ≤ 64 ∧ ∀ u ∈ z.cells.toList, noInt u = true)
    (base : Nat) (v : Value) (l : List Rat) (hs : a.eval s = v) (happ : AppL rel T w base v l)
    (b c : Nat) (hx : a.eval x = .slice (some ⟨b, 0, none⟩) 1 c) {s1 : Bool} {A1 B1 : Option Addr} {n1 c1 m1 k1 : Nat} (hown : Own w b T [.bool s1, .slice A1 n1 c1, .slice B1 m1 k1])
    (q : Rat) (hq : rel w (.agg #[.bool s1, .slice A1 n1 c1, .slice B1 m1 k1]) q) (hlen : l.length + 1 ≤ 1099511627776) (hbase : base ≤ w.heap.size)
    (h : ∀ v' w', AppL rel T w' base v' (l ++ [q]) → Keep w w' → Below base w w' → wpList P ops Q rest (a.put o.dst v') w') : wpList P ops Q (o :: rest) a w :=
  wpList_plain hgd fun _ hK => wp_push hrk s x t ho ht hinfo base v l hs happ b c hx hown q hq hlen hbase fun v' w' h1 h2 h3 => hK _ _ (h v' w' h1 h2 h3)
theorem undQs' : Try.prog.underlying 24 = some (.slice 34) := undQs
theorem undRs : Try.prog.underlying 26 = some (.slice 65) := by kernel_rfl
/-- A list of whole numbers. -/
def rIs (w : World) (v : Value) (l : List Int) : Prop := ∃ A c, v = .slice A l.length c ∧ l.length ≤ c ∧ (∀ x ∈ l, I64 x) ∧ (l ≠ [] → ∃ g o, A = some ⟨g, o, none⟩ ∧ ∀ j (hj : j < l.length), w.cell? ⟨g, o + j, none⟩ = some (.int .i64 l[j]))
theorem rIs.shape {w : World} {v : Value} {l : List Int} (h : rIs w v l) : ∃ A c, v = .slice A l.length c ∧ rIs w (.slice A l.length c) l := by
  obtain ⟨A, c, rfl, h⟩ := h
  exact ⟨A, c, rfl, A, c, rfl, h⟩
theorem rIs.at {w : World} {A : Option Addr} {n c : Nat} {l : List Int} (h : rIs w (.slice A n c) l) {j : Nat} (hj : j < l.length) : ∃ g o, A = some ⟨g, o, none⟩ ∧ w.cell? ⟨g, o + j, none⟩ = some (.int .i64 l[j]) ∧ I64 l[j] := by
  obtain ⟨A', c', hv, _, hI, h⟩ := h
  simp only [Value.slice.injEq] at hv
  obtain ⟨rfl, rfl, rfl⟩ := hv
  obtain ⟨g, o, hA, h⟩ := h (by intro e; rw [e] at hj; simp at hj)
  exact ⟨g, o, hA, h j hj, hI _ (List.getElem_mem hj)⟩
/-- The i-th fraction of a row of raw numbers. -/
def rowAt (l : List Int) (i : Nat) : Rat := match l[i]? with
  | some x => rawQ x
  | none => 0
def rowL (l : List Int) (n : Nat) : List Rat := (List.range n).map (rowAt l)
theorem rowL_succ (l : List Int) (n : Nat) : rowL l (n + 1) = rowL l n ++ [rowAt l n] := by unfold rowL; rw [List.range_succ, List.map_append]; rfl
theorem rowL_length (l : List Int) (n : Nat) : (rowL l n).length = n := by simp [rowL]
theorem rRQx (W w' : World) (v : Value) (q : Rat) (h : rRQ W v q) (he : Ext W w') : rRQ w' v q := h.ext he
theorem rRQk (W w' : World) (v : Value) (q : Rat) (h : rRQ W v q) (he : Keep W w') : rRQ w' v q := h.keep he
theorem rQx (W w' : World) (v : Value) (q : Rat) (h : rQ W v q) (he : Ext W w') : rQ w' v q := h.ext he
theorem rQk (W w' : World) (v : Value) (q : Rat) (h : rQ W v q) (he : Keep W w') : rQ w' v q := h.keep he
set_option maxRecDepth 100000 in
set_option maxHeartbeats 4000000 in
/-- Row -/
theorem row_c (w : World) (v : Value) (l : List Int) (n : Nat) (hl : rIs w v l) (hn : n ≤ 1099511627775) : Calls Try.prog 7 #[v, .int .i64 (n : Nat)] w (Post w fun r w' => rLs rRQ w' r (rowL l n)) := by
  obtain ⟨A, c, rfl, hl⟩ := hl.shape
  have H1 := Lib.hid hl
  have HN := Lib.hid hn
  clear hl
  go_enter Try.func7, Try.ntmps7
  go_wp2_with fail
  go_loopw [5, 6] (fun t5 t6 W => ∃ k : Nat, t6 = .int .i64 (k : Nat) ∧ k ≤ n ∧ AppL rRQ 65 W w.heap.size t5 (rowL l k) ∧ Below w.heap.size w W) (fun _ t _ => (n - (intOf t).toNat))
  case atStart => exact ⟨0, rfl, Nat.zero_le _, AppL.nil _ _, Below.refl _ _⟩
  case round =>
    obtain ⟨k, rfl, hk, happ, hbw⟩ := hrel
    have HAP := Lib.hid happ
    clear happ
    rcases Nat.lt_or_ge k n with hkn | hkn
    · have hki : (k : Int) < (n : Int) := by omega
      have HKN := Lib.hid hkn
      have hwk : IntKind.i64.wrap ((k : Int) + 1) = ((k + 1 : Nat) : Int) := i64w (by omega) (by omega)
      clear hkn hk
      rcases Nat.lt_or_ge k l.length with hkl | hkl
      · have hkl2 : (k : Int) < (l.length : Int) := by omega
        obtain ⟨g, o, rfl, xa, hI⟩ := H1.out.at hkl
        have xa := ext_cell hbw xa
        obtain ⟨x, ex⟩ : ∃ x, l[k] = x := ⟨_, rfl⟩
        rw [ex] at xa hI
        have HC := Lib.hid (fun W => hr_c W x hI)
        have HE := Lib.hid (show rowAt l k = rawQ x by unfold rowAt; rw [List.getElem?_eq_getElem hkl, ex])
        clear hI ex
        go_wp2_with fail
        refine (HC.out _).mono ?_
        rintro e w1 ⟨v1, rfl, hb1, hr1⟩
        obtain ⟨s, A1, c1, n1, B1, k1, m1, rfl, hr1⟩ := hr1.shape
        have hbw1 := Below.trans hbw (Below.mono hb1 hbw.size)
        have HA1 := Lib.hid (HAP.out.ext rRQx hb1)
        have HR1 := Lib.hid hr1
        clear hb1 hr1
        go_wp2_with (at_builtin; refine wpList_push (rel := rRQ) rRQk rfl _ _ 26 rfl undRs pushR_info w.heap.size _ _ rfl (HA1.out.ext rRQx (ext_alloc _ _)) w1.heap.size 1 rfl (Own.new w1 65 [.bool s, .slice A1 n1 c1, .slice B1 m1 k1]) _ (HR1.out.alloc _) (by rw [rowL_length]; have := HN.out; omega) (by have := hbw1.size; simp; omega) ?_)
        intro v' w2 happ2 hkeep hbe2
        have HA2 := Lib.hid happ2
        have hbw2 : Below w.heap.size w w2 := Below.trans (Below.alloc hbw1 hbw1.size _) hbe2
        clear happ2 hkeep hbe2
        go_wp2
        go_roundw
        case rel => exact ⟨k + 1, rfl, HKN.out, by rw [rowL_succ, HE.out]; exact HA2.out, hbw2⟩
        case measure => simp [intOf]; have := HKN.out; omega
      · have hkl2 : ¬ (k : Int) < (l.length : Int) := by omega
        have HC := Lib.hid (fun W => rqof_c W 0 (by omega))
        have HE := Lib.hid (show rowAt l k = ((0 : Int) : Rat) by unfold rowAt; rw [List.getElem?_eq_none hkl]; rfl)
        go_wp2_with fail
        refine (HC.out _).mono ?_
        rintro e w1 ⟨v1, rfl, hb1, hr1⟩
        obtain ⟨s, A1, c1, n1, B1, k1, m1, rfl, hr1⟩ := hr1.shape
        have hbw1 := Below.trans hbw (Below.mono hb1 hbw.size)
        have HA1 := Lib.hid (HAP.out.ext rRQx hb1)
        have HR1 := Lib.hid hr1
        clear hb1 hr1
        go_wp2_with (at_builtin; refine wpList_push (rel := rRQ) rRQk rfl _ _ 26 rfl undRs pushR_info w.heap.size _ _ rfl (HA1.out.ext rRQx (ext_alloc _ _)) w1.heap.size 1 rfl (Own.new w1 65 [.bool s, .slice A1 n1 c1, .slice B1 m1 k1]) _ (HR1.out.alloc _) (by rw [rowL_length]; have := HN.out; omega) (by have := hbw1.size; simp; omega) ?_)
        intro v' w2 happ2 hkeep hbe2
        have HA2 := Lib.hid happ2
        have hbw2 : Below w.heap.size w w2 := Below.trans (Below.alloc hbw1 hbw1.size _) hbe2
        clear happ2 hkeep hbe2
        go_wp2
        go_roundw
        case rel => exact ⟨k + 1, rfl, HKN.out, by rw [rowL_succ, HE.out]; exact HA2.out, hbw2⟩
        case measure => simp [intOf]; have := HKN.out; omega
    · obtain rfl : k = n := by omega
      have hki : ¬ (k : Int) < (k : Int) := by omega
      go_wp2_with fail
      go_ret
      exact ⟨_, rfl, hbw, HAP.out.done⟩
end Go.Proofs.Ytlaocmhcilhlbaa

/- abaculushand.InRow. -/
namespace Go.Proofs.Ytlaocmhcilhlbaa
open Go.RowKit
def SmallQ (q : Rat) : Prop := q.num.natAbs < 256 ∧ q.den < 256
theorem rowAt_small (l : List Int) (i : Nat) : SmallQ (rowAt l i) := by
  unfold rowAt
  split
  · exact rawQ_small _
  · exact ⟨by decide, by decide⟩
theorem rowL_small (l : List Int) (n : Nat) : ∀ q ∈ rowL l n, SmallQ q := by
  intro q hq
  unfold rowL at hq
  obtain ⟨i, _, rfl⟩ := List.mem_map.1 hq
  exact rowAt_small l i
set_option maxRecDepth 100000 in
set_option maxHeartbeats 4000000 in
/-- InRow -/
theorem inrow_c (w : World) (v : Value) (l : List Rat) (hl : rLs rRQ w v l) (hs : ∀ q ∈ l, SmallQ q) (hn : l.length ≤ 1099511627775) : Calls Try.prog 6 #[v] w (Post w fun r w' => rLs rQ w' r l) := by
  obtain ⟨A, c, rfl, hl⟩ := hl.shape
  obtain ⟨n, en⟩ : ∃ n, l.length = n := ⟨_, rfl⟩
  rw [en] at hl hn ⊢
  have H1 := Lib.hid hl
  have HN := Lib.hid hn
  have HS := Lib.hid hs
  have EN := Lib.hid en
  clear hl hs en
  go_enter Try.func6, Try.ntmps6
  go_wp2_with fail
  go_loopw [3, 4] (fun t3 t4 W => ∃ k : Nat, t4 = .int .i64 (k : Nat) ∧ k ≤ n ∧ AppL rQ 34 W w.heap.size t3 (l.take k) ∧ Below w.heap.size w W) (fun _ t _ => (n - (intOf t).toNat))
  case atStart => exact ⟨0, rfl, Nat.zero_le _, AppL.nil _ _, Below.refl _ _⟩
  case round =>
    obtain ⟨k, rfl, hk, happ, hbw⟩ := hrel
    have HAP := Lib.hid happ
    clear happ
    rcases Nat.lt_or_ge k n with hkn | hkn
    · have hki : (k : Int) < (n : Int) := by omega
      have HKN := Lib.hid hkn
      have hwk : IntKind.i64.wrap ((k : Int) + 1) = ((k + 1 : Nat) : Int) := i64w (by omega) (by omega)
      have hkl : k < l.length := by rw [EN.out]; exact hkn
      obtain ⟨g, o, s0, A0, c0, n0, B0, k0, m0, rfl, xa, xb, xc, xr⟩ := H1.out.at hkl
      have xa := ext_cell hbw xa
      have xb := ext_cell hbw xb
      have xc := ext_cell hbw xc
      have hq := HS.out l[k] (List.getElem_mem hkl)
      obtain ⟨q, eq⟩ : ∃ q, l[k] = q := ⟨_, rfl⟩
      rw [eq] at xr hq
      have HR0 := Lib.hid (xr.ext hbw)
      have HC := Lib.hid (fun W h => hin_c W (.agg #[.bool s0, .slice A0 n0 c0, .slice B0 m0 k0]) q h hq.1 hq.2)
      have HE := Lib.hid (show l.take (k + 1) = l.take k ++ [q] by rw [List.take_succ_eq_append_getElem hkl, eq])
      have HTL := Lib.hid (show (l.take k).length = k by rw [List.length_take]; omega)
      clear hkn hk xr hq eq hkl
      go_wp2_with fail
      refine (HC.out _ HR0.out).mono ?_
      rintro e w1 ⟨v1, rfl, hb1, hr1⟩
      obtain ⟨s, A1, c1, n1, B1, k1, m1, rfl, hr1⟩ := hr1.shape
      have hbw1 := Below.trans hbw (Below.mono hb1 hbw.size)
      have HA1 := Lib.hid (HAP.out.ext rQx hb1)
      have HR1 := Lib.hid hr1
      clear hb1 hr1
      go_wp2_with (at_builtin; refine wpList_push (rel := rQ) rQk rfl _ _ 24 rfl undQs pushQ_info w.heap.size _ _ rfl (HA1.out.ext rQx (ext_alloc _ _)) w1.heap.size 1 rfl (Own.new w1 34 [.bool s, .slice A1 n1 c1, .slice B1 m1 k1]) _ (HR1.out.alloc _) (by rw [HTL.out]; have := HN.out; have := HKN.out; omega) (by have := hbw1.size; simp; omega) ?_)
      intro v' w2 happ2 hkeep hbe2
      have HA2 := Lib.hid happ2
      have hbw2 : Below w.heap.size w w2 := Below.trans (Below.alloc hbw1 hbw1.size _) hbe2
      clear happ2 hkeep hbe2
      go_wp2
      go_roundw
      case rel => exact ⟨k + 1, rfl, HKN.out, by rw [HE.out]; exact HA2.out, hbw2⟩
      case measure => simp [intOf]; have := HKN.out; omega
    · obtain rfl : k = n := by omega
      have hki : ¬ (k : Int) < (k : Int) := by omega
      have hd := HAP.out.done
      rw [← EN.out, List.take_length] at hd
      have HD := Lib.hid hd
      clear hd
      go_wp2_with fail
      go_ret
      exact ⟨_, rfl, hbw, HD.out⟩
end Go.Proofs.Ytlaocmhcilhlbaa

/- nat.Bytes, NatFrom, of one byte; abaculushand.OutNat, OutInt, Out. -/
namespace Go.Proofs.Ytlaocmhcilhlbaa
open Go.RowKit
/-- A number of one word at most. -/
theorem rNat.one {w : World} {A : Option Addr} {m c n : Nat} (h : rNat w (.agg #[.slice A m c]) n) (hn : n < B64) : (n = 0 → m = 0) ∧ (0 < n → m = 1 ∧ ∃ g o, A = some ⟨g, o, none⟩ ∧ w.cell? ⟨g, o, none⟩ = some (.int .u64 (n : Nat))) := by
  obtain ⟨A', c', l, hv, hw, hnn, rfl⟩ := h
  simp only [Value.agg.injEq, Array.mk.injEq, List.cons.injEq, Value.slice.injEq, and_true] at hv
  obtain ⟨rfl, rfl, rfl⟩ := hv
  by_cases hl : l = []
  · subst hl
    exact ⟨fun _ => rfl, fun h => absurd h (by simp [vl])⟩
  · have h1 := vl_ge B64 l hnn hl
    have h3 : 0 < l.length := List.length_pos_iff.2 hl
    have h2 : l.length = 1 := by
      rcases Nat.lt_or_ge 1 l.length with h4 | h4
      · exfalso
        have : B64 ^ 1 ≤ B64 ^ (l.length - 1) := Nat.pow_le_pow_right B64_pos (by omega)
        rw [Nat.pow_one] at this
        omega
      · omega
    have hp : 0 < vl B64 l := Nat.lt_of_lt_of_le (Nat.pow_pos B64_pos) h1
    refine ⟨fun e => absurd e (by omega), fun _ => ?_⟩
    obtain ⟨x, rfl⟩ : ∃ x, l = [x] := List.length_eq_one_iff.1 h2
    obtain ⟨g, o, hA, hc⟩ := hw.2.2 hl
    refine ⟨rfl, g, o, hA, ?_⟩
    have := hc 0 (by simp)
    simpa [vl] using this
theorem byteOf_pos {n : Nat} (h : 0 < n) : byteOf n = [n] := by unfold byteOf; rw [if_neg (by omega)]
set_option maxRecDepth 100000 in
set_option maxHeartbeats 1000000 in
/-- nat.Bytes, of one byte -/
theorem bytes_c (w : World) (v : Value) (a : Nat) (ha : rNat w v a) (fa : a < 256) : Calls Try.prog 106 #[v] w (Post w fun r w' => rBy w' r (byteOf a)) := by
  obtain ⟨A, c, m, rfl, ha⟩ := ha.shape
  have f8 : bl a ≤ 8 := bl_le_of_lt (k := 8) fa
  have HB := Lib.hid (fun W h => bits_c W (.agg #[.slice A m c]) a h (by unfold Fit; omega))
  have H1 := Lib.hid ha
  have hone := ha.one (by unfold B64; omega)
  have HX := HB
  clear HB
  rcases Nat.eq_zero_or_pos a with rfl | a0
  · have hmk := mk8 0 0 rfl (by omega)
    rw [show zeroW .u8 0 = #[] from rfl] at hmk
    rw [bl_zero] at HX
    obtain rfl := hone.1 rfl
    clear hone
    have HB : Hid (Cells [(w.heap.size, 0, .slice A 0 c)] (w.alloc (.cells #[.slice A 0 c] 30))) := Lib.hid (Cells.cons (by go_simp) (Cells.nil _))
    have hbw : Below w.heap.size w (w.alloc (.cells #[.slice A 0 c] 30)) := (by repeat (first | assumption | exact Below.refl _ _ | refine Below.drew ?_ | refine pw_below_drewN ?_ _ | refine Below.alloc ?_ (by first | omega | (simp <;> omega)) _ | refine Below.setCell ?_ (by first | omega | (simp <;> omega)) _ | refine Below.trans ?_ (Below.mono (by assumption) (by first | omega | (simp <;> omega)))))
    clear ha fa f8
    go_enter Try.func106, Try.ntmps106
    go_wp2_with fail
    generalize (w.alloc (.cells #[.slice A 0 c] 30)) = W0 at HB hbw ⊢
    obtain ⟨y0, _⟩ := id HB.out
    go_wp2_with fail
    clear y0
    refine (HX.out _ (H1.out.ext hbw)).mono ?_
    rintro e W1 ⟨v1, rfl, hb1, rfl⟩
    replace HB := Lib.hid (HB.out.ext hb1)
    replace hbw := Below.trans hbw (Below.mono hb1 hbw.size)
    clear hb1
    go_wp2_with fail
    have hbe := Below.alloc hbw hbw.size (.cells #[] 5)
    go_loopw [12] (fun t W => t = .int .i64 0 ∧ Below w.heap.size w W) (fun _ _ => 0)
    case atStart => exact ⟨rfl, hbe⟩
    case round =>
      obtain ⟨rfl, hrel⟩ := hrel
      go_wp2_with fail
      go_ret
      exact ⟨_, rfl, hrel, _, 0, rfl, Words.nil _ _ _ _ _⟩
  · have hmk := mk8 1 1 rfl (by omega)
    rw [show zeroW .u8 1 = #[.int .u8 0] from rfl] at hmk
    obtain ⟨rfl, g, o, rfl, hc⟩ := hone.2 a0
    have hg := cell_lt hc
    obtain ⟨b, eb⟩ : ∃ b, bl a = b := ⟨_, rfl⟩
    have hb0 : 0 < b := by rw [← eb]; exact bl_pos.2 (by omega)
    rw [eb] at HX f8
    have hd : Int.tdiv ((b : Int) + 7) 8 = 1 := by rw [Int.tdiv_eq_ediv_of_nonneg (by omega)]; omega
    have hw : IntKind.i64.wrap ((b : Int) + 7) = (b : Int) + 7 := i64w (by omega) (by omega)
    have hm8 : (a : Int) % 256 = (a : Int) := by omega
    have hw0 : IntKind.i64.wrap 0 = 0 := rfl
    have HC := Lib.hid hc
    have HA := Lib.hid (And.intro a0 fa)
    clear hone
    have HB : Hid (Cells [(w.heap.size, 0, .slice (some ⟨g, o, none⟩) 1 c)] (w.alloc (.cells #[.slice (some ⟨g, o, none⟩) 1 c] 30))) := Lib.hid (Cells.cons (by go_simp) (Cells.nil _))
    have hbw : Below w.heap.size w (w.alloc (.cells #[.slice (some ⟨g, o, none⟩) 1 c] 30)) := (by repeat (first | assumption | exact Below.refl _ _ | refine Below.drew ?_ | refine pw_below_drewN ?_ _ | refine Below.alloc ?_ (by first | omega | (simp <;> omega)) _ | refine Below.setCell ?_ (by first | omega | (simp <;> omega)) _ | refine Below.trans ?_ (Below.mono (by assumption) (by first | omega | (simp <;> omega)))))
    clear ha fa a0 eb f8 hb0 hc
    go_enter Try.func106, Try.ntmps106
    go_wp2_with fail
    generalize (w.alloc (.cells #[.slice (some ⟨g, o, none⟩) 1 c] 30)) = W0 at HB hbw ⊢
    obtain ⟨y0, _⟩ := id HB.out
    go_wp2_with fail
    clear y0
    refine (HX.out _ (H1.out.ext hbw)).mono ?_
    rintro e W1 ⟨v1, rfl, hb1, rfl⟩
    replace HB := Lib.hid (HB.out.ext hb1)
    replace hbw := Below.trans hbw (Below.mono hb1 hbw.size)
    clear hb1
    have gl : w.heap.size < W1.heap.size := cell_lt HB.out.1
    have hne : g ≠ W1.heap.size := by omega
    have HXA := Lib.hid (ext_cell (ext_alloc W1 (.cells #[.int .u8 0] 5)) (ext_cell hbw HC.out))
    have HXB := Lib.hid (ext_cell (ext_alloc W1 (.cells #[.int .u8 0] 5)) HB.out.1)
    have hbe := Below.alloc hbw hbw.size (.cells #[.int .u8 0] 5)
    go_wp2_with fail
    go_loopw [12] (fun t W => ∃ k x : Nat, t = .int .i64 (k : Nat) ∧ ((k = 0 ∧ x = 0) ∨ (k = 1 ∧ x = a)) ∧ Below w.heap.size w W ∧ W.cell? ⟨g, o, none⟩ = some (.int .u64 (a : Nat)) ∧ W.cell? ⟨w.heap.size, 0, none⟩ = some (.slice (some ⟨g, o, none⟩) 1 c) ∧ Own W W1.heap.size 5 [.int .u8 (x : Nat)]) (fun t _ => (1 - intOf t).toNat)
    case atStart => exact ⟨0, 0, rfl, .inl ⟨rfl, rfl⟩, hbe, HXA.out, HXB.out, Own.new W1 5 [.int .u8 0]⟩
    case round =>
      obtain ⟨k, x, rfl, hk, hbw', xa, xb, ho⟩ := hrel
      have HO := Lib.hid ho
      have q0 := ho.cell 0 _ rfl
      have f0 := ho.frozen 0
      clear ho
      rcases hk with ⟨rfl, rfl⟩ | ⟨rfl, rfl⟩
      · have XA := Lib.hid ((World.cell?_setCell_other wr ⟨W1.heap.size, 0, none⟩ ⟨g, o, none⟩ (.int .u8 (a : Nat)) (by simp <;> omega)).trans xa)
        have XB := Lib.hid ((World.cell?_setCell_other wr ⟨W1.heap.size, 0, none⟩ ⟨w.heap.size, 0, none⟩ (.int .u8 (a : Nat)) (by simp <;> omega)).trans xb)
        go_wp2_with fail
        go_roundw
        case rel => exact ⟨1, a, rfl, .inr ⟨rfl, rfl⟩, hbw'.setCell (by simp <;> omega) _, XA.out, XB.out, HO.out.set 0 _⟩
        case measure => simp [intOf]
      · go_wp2_with fail
        go_ret
        refine ⟨_, rfl, hbw', ?_⟩
        rw [byteOf_pos HA.out.1]
        exact ⟨_, 1, rfl, own_words (k := .u8) (l := [x]) (by simpa [wv] using HO.out) (by intro y hy; simp at hy; rw [hy]; exact HA.out.2) 1 (by simp)⟩
end Go.Proofs.Ytlaocmhcilhlbaa
