/- ScoreTables: the walk. -/
import Derived.Test.YtlaocmhcilhlbaaY17
import Derived.Test.YtlaocmhcilhlbaaY21
import Derived.Test.YtlaocmhcilhlbaaY22
import Derived.Test.YtlaocmhcilhlbaaY23
set_option linter.unusedVariables false
set_option linter.unusedSimpArgs false
namespace Go.Proofs.Ytlaocmhcilhlbaa
open Go.RowKit
/-- The i-th raw number; what stands for those that lack. -/
def rawAt (l : List Int) (m : Int) (i : Nat) : Int := match l[i]? with
 | some x => x
 | none => (i : Int) * m
def rawL (l : List Int) (m k : Int) (n : Nat) : List Int := (List.range n).map (fun i => rawAt l m i % k)
theorem rawL_succ (l : List Int) (m k : Int) (n : Nat) : rawL l m k (n + 1) = rawL l m k n ++ [rawAt l m n % k] := by unfold rawL; rw [List.range_succ, List.map_append]; rfl
theorem rawL_length (l : List Int) (m k : Int) (n : Nat) : (rawL l m k n).length = n := by simp [rawL]
theorem rawL_good (l : List Int) (m : Int) (k n : Nat) (hk : 0 < k) : (rawL l m (k : Int) n).any (badC (k : Int)) = false := by
 rw [List.any_eq_false]
 intro x hx
 unfold rawL at hx
 obtain ⟨i, _, rfl⟩ := List.mem_map.1 hx
 have h1 := Int.emod_nonneg (rawAt l m i) (show (k : Int) ≠ 0 by omega)
 have h2 := Int.emod_lt_of_pos (rawAt l m i) (show (0 : Int) < (k : Int) by omega)
 simp only [badC, decide_eq_true_eq]
 omega
theorem rawL_I64 (l : List Int) (m : Int) (k n : Nat) (hk : 0 < k) (hk2 : k ≤ 12) : ∀ x ∈ rawL l m (k : Int) n, I64 x := by
 intro x hx
 unfold rawL at hx
 obtain ⟨i, _, rfl⟩ := List.mem_map.1 hx
 have h1 := Int.emod_nonneg (rawAt l m i) (show (k : Int) ≠ 0 by omega)
 have h2 := Int.emod_lt_of_pos (rawAt l m i) (show (0 : Int) < (k : Int) by omega)
 unfold I64
 omega
structure ListsIn (w : World) (t10 t11 : Value) (l1 l2 : List Int) (W : World) : Prop where
 be : Below w.heap.size w W
 a1 : AppI W w.heap.size t10 l1
 a2 : AppI W w.heap.size t11 l2
 d1 : Apart t10 t11
 d2 : Apart t11 t10
theorem ListsIn.ext {w : World} {t10 t11 : Value} {l1 l2 : List Int} {W W' : World} (h : ListsIn w t10 t11 l1 l2 W) (he : Ext W W') : ListsIn w t10 t11 l1 l2 W' :=
 ⟨Below.trans h.be (Below.mono he h.be.size), h.a1.ext he, h.a2.ext he, h.d1, h.d2⟩
theorem Apart.grow {w : World} {base : Nat} {u v v' : Value} {l : List Int} (h : Apart u v) (hu : AppI w base u l) (hv : v'.ownBlock = v.ownBlock ∨ v'.ownBlock = some w.heap.size) : Apart u v' := by
 intro g hg e
 rcases hv with hv | hv
 · exact h g hg (hv ▸ e)
 ·
  rw [hv] at e
  have := (World.ownsRow.lt hu g hg).2
  injection e with e
  omega
theorem Apart.symm {u v : Value} (h : Apart u v) : Apart v u := fun g hg e => h g e hg
theorem ListsIn.one {w : World} {t10 t11 v' : Value} {l1 l2 : List Int} {W W' : World} {z : Int} (h : ListsIn w t10 t11 l1 l2 W) (h1 : AppI W' w.heap.size v' (l1 ++ [z])) (hg : W.grownBy W' t10.ownBlock) (hv : v'.ownBlock = t10.ownBlock ∨ v'.ownBlock = some W.heap.size) (hb : Below w.heap.size W W') :
 ListsIn w v' t11 (l1 ++ [z]) l2 W' := ⟨Below.trans h.be hb, h1, h.a2.kept hg h.d2, (h.d2.grow h.a2 hv).symm, h.d2.grow h.a2 hv⟩
theorem ListsIn.two {w : World} {t10 t11 v' : Value} {l1 l2 : List Int} {W W' : World} {z : Int} (h : ListsIn w t10 t11 l1 l2 W) (h1 : AppI W' w.heap.size v' (l2 ++ [z])) (hg : W.grownBy W' t11.ownBlock) (hv : v'.ownBlock = t11.ownBlock ∨ v'.ownBlock = some W.heap.size) (hb : Below w.heap.size W W') :
 ListsIn w t10 v' l1 (l2 ++ [z]) W' := ⟨Below.trans h.be hb, h.a1.kept hg h.d1, h1, h.d1.grow h.a1 hv, (h.d1.grow h.a1 hv).symm⟩
theorem hsz_alloc (W : World) (o : Obj) : (W.alloc o).heap.size = W.heap.size + 1 := by show (W.heap.push o).size = _; simp
theorem infoI' : ∃ i z, Try.prog.info? 3 = some i ∧ i.zero = some z ∧ z.cells.size = 1 ∧ i.size = 1 ∧ i.bytes ≤ 64 := by
 obtain ⟨i, z, h1, h2, h3, h4, h5⟩ := infoI
 exact ⟨i, z, h1, h2, by rw [h3]; rfl, h4, h5⟩
theorem qb_int (z : Int) (h : z.natAbs < 18446744073709551616) : qb (z : Rat) ≤ 64 := by
 unfold qb
 rw [Rat.num_intCast, Rat.den_intCast]
 have b1 : bl z.natAbs ≤ 64 := bl_le_of_lt (k := 64) (by omega)
 have b2 : bl 1 ≤ 64 := by decide
 omega
theorem FillT.recall {t : TypeId} {W : World} {b k : Nat} {f : Nat → Rat} (h : FillT t W b (3 * k) (3 * k) f) {i : Nat} (hi : i < k) :
  ∃ s A c n B d m, W.cell? ⟨b, i * 9 + 3, none⟩ = some (.bool s) ∧ W.cell? ⟨b, i * 9 + 4, none⟩ = some (.slice A n c) ∧ W.cell? ⟨b, i * 9 + 5, none⟩ = some (.slice B m d) ∧ rQ W (.agg #[.bool s, .slice A n c, .slice B m d]) (f (3 * i + 1)) := by
 obtain ⟨s, u, r, h1, h2, h3, h4⟩ := h.got (3 * i + 1) (by omega)
 obtain ⟨s', A, c, n, B, d, m, e, h4⟩ := h4.shape
 simp only [Value.agg.injEq, Array.mk.injEq, List.cons.injEq, Value.bool.injEq, and_true] at e
 obtain ⟨rfl, rfl, rfl⟩ := e
 have e1 : (3 * i + 1) * 3 = i * 9 + 3 := by omega
 rw [e1] at h1 h2 h3
 exact ⟨s, A, c, n, B, d, m, h1, h2, h3, h4⟩
def diagS (T : List (List Int)) (i : Nat) : Int := sumF (fun i => at2 T i i) i
def allS (T : List (List Int)) (k i : Nat) : Int := sumF (fun i => sumF (at2 T i) k) i
structure SumIn (w : World) (b k : Nat) (T : List (List Int)) (i : Nat) (s : Bool) (u r : Value) (W : World) : Prop where
 be : Below w.heap.size w W
 own : Own W b 34 [.bool s, u, r]
 hq : rQ W (.agg #[.bool s, u, r]) ((diagS T i : Int) : Rat)
theorem OkT.allS {T : List (List Int)} {k : Nat} (h : OkT T k) (i : Nat) (hi : i ≤ k) : 0 ≤ allS T k i ∧ allS T k i ≤ 2147483647 := by
 have e0 : ∀ i, i < k → 0 ≤ sumF (at2 T i) k := fun i hi => (h.row hi k (Nat.le_refl _)).1
 have h1 := sumF_nonneg (f := fun i => sumF (at2 T i) k) e0 i hi
 have h2 := sumF_mono (f := fun i => sumF (at2 T i) k) e0 i k hi (Nat.le_refl _)
 have h3 := h.all
 unfold Go.Proofs.Ytlaocmhcilhlbaa.allS
 omega
theorem OkT.diagS {T : List (List Int)} {k : Nat} (h : OkT T k) (i : Nat) (hi : i ≤ k) : 0 ≤ diagS T i ∧ diagS T i ≤ 2147483647 := by
 have h1 := sumF_nonneg (f := fun i => at2 T i i) (k := k) (fun i hi => h.pos i i hi hi) i hi
 have h2 := sumF_le (f := fun i => at2 T i i) (g := fun i => sumF (at2 T i) k) (k := k) (fun i hi => sumF_term (fun m hm => h.pos i m hi hm) i hi) i hi
 have h3 := (h.allS i hi).2
 unfold Go.Proofs.Ytlaocmhcilhlbaa.allS at h3
 unfold Go.Proofs.Ytlaocmhcilhlbaa.diagS
 omega
theorem mkRat_small (G n : Nat) (hG : G ≤ 25) (hn : 0 < n) (hn2 : n ≤ 25) : (mkRat (G : Int) n).num.natAbs < 256 ∧ (mkRat (G : Int) n).den < 256 := by
 obtain ⟨p1, p2⟩ := mkRat_parts (G : Int) n (by omega)
 rw [p1, p2, Int.natAbs_natCast, ← Int.natCast_ediv, Int.natAbs_natCast]
 have a1 := Nat.div_le_self G (Nat.gcd G n)
 have a2 := Nat.div_le_self n (Nat.gcd G n)
 omega
set_option maxRecDepth 100000 in
set_option maxHeartbeats 8000000 in
/-- ScoreTables -/
theorem tables_c (w : World) (va vb : Value) (a b : List Int) (nn cc : Int) (ha : rIs w va a) (hb : rIs w vb b) (hn : I64 nn) (hc : I64 cc) : Calls Try.prog 4 #[va, vb, .int .i64 nn, .int .i64 cc] w (Post w fun r _ => r = .bool true) := by
 obtain ⟨A, c, rfl, ha⟩ := ha.shape
 obtain ⟨B, d, rfl, hb⟩ := hb.shape
 have HC1 := Lib.hid (fun W => pick_c W cc 6 hc (by omega))
 have HC2 := Lib.hid (fun W => pick_c W nn 25 hn (by omega))
 have m1 := Int.emod_nonneg cc (show (6 : Int) ≠ 0 by omega)
 have m2 := Int.emod_lt_of_pos cc (show (0 : Int) < 6 by omega)
 have m3 := Int.emod_nonneg nn (show (25 : Int) ≠ 0 by omega)
 have m4 := Int.emod_lt_of_pos nn (show (0 : Int) < 25 by omega)
 obtain ⟨k0, ek⟩ : ∃ k : Nat, cc % 6 = (k : Int) := ⟨_, (Int.toNat_of_nonneg m1).symm⟩
 obtain ⟨n0, en⟩ : ∃ n : Nat, nn % 25 = (n : Int) := ⟨_, (Int.toNat_of_nonneg m3).symm⟩
 rw [ek] at HC1 m2
 rw [en] at HC2 m4
 obtain ⟨k, rk⟩ : ∃ k, k0 + 1 = k := ⟨_, rfl⟩
 obtain ⟨n, rn⟩ : ∃ n, n0 + 1 = n := ⟨_, rfl⟩
 have hw1 : IntKind.i64.wrap (1 + (k0 : Int)) = (k : Int) := by rw [i64w (by omega) (by omega)]; omega
 have hw2 : IntKind.i64.wrap (1 + (n0 : Int)) = (n : Int) := by rw [i64w (by omega) (by omega)]; omega
 have hk1 : 0 < k := by omega
 have hk2 : k ≤ 6 := by omega
 have hn1 : 0 < n := by omega
 have hn2 : n ≤ 25 := by omega
 have HK := Lib.hid (show (0 : Int) < ((k : Nat) : Int) ∧ ((k : Nat) : Int) ≤ 1073741824 from by omega)
 have H1 := Lib.hid ha
 have H2 := Lib.hid hb
 have HKN := Lib.hid (And.intro (And.intro hk1 hk2) (And.intro hn1 hn2))
 clear ha hb hn hc m1 m2 m3 m4 ek en rk rn
 go_enter Try.func4, Try.ntmps4
 go_wp2_with fail
 refine (HC1.out _).mono ?_
 rintro e w1 ⟨v1, rfl, hb1, rfl⟩
 go_wp2_with fail
 refine (HC2.out _).mono ?_
 rintro e w2 ⟨v2, rfl, hb2, rfl⟩
 have hbw := Below.trans hb1 (Below.mono hb2 hb1.size)
 clear hb1 hb2
 go_upto_block 0 with (fail)
 go_cut [10, 11] (fun p10 p11 WC => ListsIn w p10 p11 (rawL a 1 (k : Int) n) (rawL b 3 (k : Int) n) WC)
 case first =>
  go_wp2_with fail
  go_loopw [10, 11, 12] (fun t10 t11 t W => ∃ i : Nat, t = .int .i64 (i : Nat) ∧ i ≤ n ∧ ListsIn w t10 t11 (rawL a 1 (k : Int) i) (rawL b 3 (k : Int) i) W) (fun _ _ t _ => (n - (intOf t).toNat))
  case atStart => exact ⟨0, rfl, Nat.zero_le _, hbw, AppI.nil _ _, AppI.nil _ _, fun g h => by simp [Value.ownBlock] at h, fun g h => by simp [Value.ownBlock] at h⟩
  case round =>
    obtain ⟨i, rfl, hi, hd⟩ := hrel
    have HL := Lib.hid hd
    clear hd hbw
    rcases Nat.lt_or_ge i n with hin | hin
    ·
     have hii : (i : Int) < (n : Int) := by omega
     have HIN := Lib.hid hin
     have hwi : IntKind.i64.wrap ((i : Int) + 1) = ((i + 1 : Nat) : Int) := i64w (by omega) (by omega)
     have hw3 : IntKind.i64.wrap ((i : Int) * 3) = (i : Int) * 3 := i64w (by omega) (by omega)
     have hbw := HL.out.be
     have hin' : i < 25 := by omega
     clear hin hi
     rcases Nat.lt_or_ge i a.length with hia | hia
     ·
      obtain ⟨g, o, rfl, xa, hI⟩ := H1.out.at hia
      have xa := ext_cell hbw xa
      obtain ⟨x, ex⟩ : ∃ x, a[i] = x := ⟨_, rfl⟩
      rw [ex] at xa hI
      have HX := Lib.hid hI
      have EX := Lib.hid (show rawAt a 1 i = x by unfold rawAt; rw [List.getElem?_eq_getElem hia, ex])
      have hia2 : (i : Int) < (a.length : Int) := by omega
      clear ex hI
      rcases Nat.lt_or_ge i b.length with hib | hib
      ·
       obtain ⟨g', o', rfl, xb, hI⟩ := H2.out.at hib
       have xb := ext_cell hbw xb
       obtain ⟨y, ey⟩ : ∃ y, b[i] = y := ⟨_, rfl⟩
       rw [ey] at xb hI
       have HY := Lib.hid hI
       have EY := Lib.hid (show rawAt b 3 i = y by unfold rawAt; rw [List.getElem?_eq_getElem hib, ey])
       have hib2 : (i : Int) < (b.length : Int) := by omega
       clear ey hI
       have HP1 := Lib.hid (fun W => pick_c W (x) (k : Nat) HX.out HK.out)
       have HP2 := Lib.hid (fun W => pick_c W (y) (k : Nat) HY.out HK.out)
       go_wp2_with fail
       refine (HP1.out _).mono ?_
       rintro e w1 ⟨v1, rfl, hb1, rfl⟩
       have HL1 := Lib.hid (HL.out.ext hb1)
       clear hb1
       have hs1 := HL1.out.be.size
       go_wp2_with (at_builtin; refine wpList_pushI rfl _ _ 22 rfl undI infoI' w.heap.size _ _ rfl (HL1.out.a1.ext (ext_alloc _ _)) w1.heap.size 1 rfl _ (Own.new w1 3 [.int .i64 _]) (by rw [rawL_length]; omega) (by simp; omega) ?_)
       intro v1 w2 p1 p2 p3 p4
       have HL2 := Lib.hid ((HL1.out.ext (ext_alloc _ _)).one p1 p2 (by rw [hsz_alloc]; exact p3) p4)
       clear p1 p2 p3 p4 hs1
       go_wp2_with fail
       refine (HP2.out _).mono ?_
       rintro e w3 ⟨v3, rfl, hb1, rfl⟩
       have HL3 := Lib.hid (HL2.out.ext hb1)
       clear hb1
       have hs1 := HL3.out.be.size
       go_wp2_with (at_builtin; refine wpList_pushI rfl _ _ 22 rfl undI infoI' w.heap.size _ _ rfl (HL3.out.a2.ext (ext_alloc _ _)) w3.heap.size 1 rfl _ (Own.new w3 3 [.int .i64 _]) (by rw [rawL_length]; omega) (by simp; omega) ?_)
       intro v3 w4 p1 p2 p3 p4
       have HL4 := Lib.hid ((HL3.out.ext (ext_alloc _ _)).two p1 p2 (by rw [hsz_alloc]; exact p3) p4)
       clear p1 p2 p3 p4 hs1
       go_wp2
       go_roundw
       case rel => exact ⟨i + 1, rfl, HIN.out, by rw [rawL_succ, rawL_succ, EX.out, EY.out]; exact HL4.out⟩
       case measure => simp [intOf]; have := HIN.out; omega
      ·
       have HY := Lib.hid (show I64 ((i : Int) * 3) from ⟨by omega, by omega⟩)
       have EY := Lib.hid (show rawAt b 3 i = (i : Int) * 3 by unfold rawAt; rw [List.getElem?_eq_none hib])
       have hib2 : ¬ (i : Int) < (b.length : Int) := by omega
       have HP1 := Lib.hid (fun W => pick_c W (x) (k : Nat) HX.out HK.out)
       have HP2 := Lib.hid (fun W => pick_c W ((i : Int) * 3) (k : Nat) HY.out HK.out)
       go_wp2_with fail
       refine (HP1.out _).mono ?_
       rintro e w1 ⟨v1, rfl, hb1, rfl⟩
       have HL1 := Lib.hid (HL.out.ext hb1)
       clear hb1
       have hs1 := HL1.out.be.size
       go_wp2_with (at_builtin; refine wpList_pushI rfl _ _ 22 rfl undI infoI' w.heap.size _ _ rfl (HL1.out.a1.ext (ext_alloc _ _)) w1.heap.size 1 rfl _ (Own.new w1 3 [.int .i64 _]) (by rw [rawL_length]; omega) (by simp; omega) ?_)
       intro v1 w2 p1 p2 p3 p4
       have HL2 := Lib.hid ((HL1.out.ext (ext_alloc _ _)).one p1 p2 (by rw [hsz_alloc]; exact p3) p4)
       clear p1 p2 p3 p4 hs1
       go_wp2_with fail
       refine (HP2.out _).mono ?_
       rintro e w3 ⟨v3, rfl, hb1, rfl⟩
       have HL3 := Lib.hid (HL2.out.ext hb1)
       clear hb1
       have hs1 := HL3.out.be.size
       go_wp2_with (at_builtin; refine wpList_pushI rfl _ _ 22 rfl undI infoI' w.heap.size _ _ rfl (HL3.out.a2.ext (ext_alloc _ _)) w3.heap.size 1 rfl _ (Own.new w3 3 [.int .i64 _]) (by rw [rawL_length]; omega) (by simp; omega) ?_)
       intro v3 w4 p1 p2 p3 p4
       have HL4 := Lib.hid ((HL3.out.ext (ext_alloc _ _)).two p1 p2 (by rw [hsz_alloc]; exact p3) p4)
       clear p1 p2 p3 p4 hs1
       go_wp2
       go_roundw
       case rel => exact ⟨i + 1, rfl, HIN.out, by rw [rawL_succ, rawL_succ, EX.out, EY.out]; exact HL4.out⟩
       case measure => simp [intOf]; have := HIN.out; omega
     ·
      have HX := Lib.hid (show I64 (i : Int) from ⟨by omega, by omega⟩)
      have EX := Lib.hid (show rawAt a 1 i = (i : Int) by unfold rawAt; rw [List.getElem?_eq_none hia]; simp)
      have hia2 : ¬ (i : Int) < (a.length : Int) := by omega
      rcases Nat.lt_or_ge i b.length with hib | hib
      ·
       obtain ⟨g', o', rfl, xb, hI⟩ := H2.out.at hib
       have xb := ext_cell hbw xb
       obtain ⟨y, ey⟩ : ∃ y, b[i] = y := ⟨_, rfl⟩
       rw [ey] at xb hI
       have HY := Lib.hid hI
       have EY := Lib.hid (show rawAt b 3 i = y by unfold rawAt; rw [List.getElem?_eq_getElem hib, ey])
       have hib2 : (i : Int) < (b.length : Int) := by omega
       clear ey hI
       have HP1 := Lib.hid (fun W => pick_c W ((i : Int)) (k : Nat) HX.out HK.out)
       have HP2 := Lib.hid (fun W => pick_c W (y) (k : Nat) HY.out HK.out)
       go_wp2_with fail
       refine (HP1.out _).mono ?_
       rintro e w1 ⟨v1, rfl, hb1, rfl⟩
       have HL1 := Lib.hid (HL.out.ext hb1)
       clear hb1
       have hs1 := HL1.out.be.size
       go_wp2_with (at_builtin; refine wpList_pushI rfl _ _ 22 rfl undI infoI' w.heap.size _ _ rfl (HL1.out.a1.ext (ext_alloc _ _)) w1.heap.size 1 rfl _ (Own.new w1 3 [.int .i64 _]) (by rw [rawL_length]; omega) (by simp; omega) ?_)
       intro v1 w2 p1 p2 p3 p4
       have HL2 := Lib.hid ((HL1.out.ext (ext_alloc _ _)).one p1 p2 (by rw [hsz_alloc]; exact p3) p4)
       clear p1 p2 p3 p4 hs1
       go_wp2_with fail
       refine (HP2.out _).mono ?_
       rintro e w3 ⟨v3, rfl, hb1, rfl⟩
       have HL3 := Lib.hid (HL2.out.ext hb1)
       clear hb1
       have hs1 := HL3.out.be.size
       go_wp2_with (at_builtin; refine wpList_pushI rfl _ _ 22 rfl undI infoI' w.heap.size _ _ rfl (HL3.out.a2.ext (ext_alloc _ _)) w3.heap.size 1 rfl _ (Own.new w3 3 [.int .i64 _]) (by rw [rawL_length]; omega) (by simp; omega) ?_)
       intro v3 w4 p1 p2 p3 p4
       have HL4 := Lib.hid ((HL3.out.ext (ext_alloc _ _)).two p1 p2 (by rw [hsz_alloc]; exact p3) p4)
       clear p1 p2 p3 p4 hs1
       go_wp2
       go_roundw
       case rel => exact ⟨i + 1, rfl, HIN.out, by rw [rawL_succ, rawL_succ, EX.out, EY.out]; exact HL4.out⟩
       case measure => simp [intOf]; have := HIN.out; omega
      ·
       have HY := Lib.hid (show I64 ((i : Int) * 3) from ⟨by omega, by omega⟩)
       have EY := Lib.hid (show rawAt b 3 i = (i : Int) * 3 by unfold rawAt; rw [List.getElem?_eq_none hib])
       have hib2 : ¬ (i : Int) < (b.length : Int) := by omega
       have HP1 := Lib.hid (fun W => pick_c W ((i : Int)) (k : Nat) HX.out HK.out)
       have HP2 := Lib.hid (fun W => pick_c W ((i : Int) * 3) (k : Nat) HY.out HK.out)
       go_wp2_with fail
       refine (HP1.out _).mono ?_
       rintro e w1 ⟨v1, rfl, hb1, rfl⟩
       have HL1 := Lib.hid (HL.out.ext hb1)
       clear hb1
       have hs1 := HL1.out.be.size
       go_wp2_with (at_builtin; refine wpList_pushI rfl _ _ 22 rfl undI infoI' w.heap.size _ _ rfl (HL1.out.a1.ext (ext_alloc _ _)) w1.heap.size 1 rfl _ (Own.new w1 3 [.int .i64 _]) (by rw [rawL_length]; omega) (by simp; omega) ?_)
       intro v1 w2 p1 p2 p3 p4
       have HL2 := Lib.hid ((HL1.out.ext (ext_alloc _ _)).one p1 p2 (by rw [hsz_alloc]; exact p3) p4)
       clear p1 p2 p3 p4 hs1
       go_wp2_with fail
       refine (HP2.out _).mono ?_
       rintro e w3 ⟨v3, rfl, hb1, rfl⟩
       have HL3 := Lib.hid (HL2.out.ext hb1)
       clear hb1
       have hs1 := HL3.out.be.size
       go_wp2_with (at_builtin; refine wpList_pushI rfl _ _ 22 rfl undI infoI' w.heap.size _ _ rfl (HL3.out.a2.ext (ext_alloc _ _)) w3.heap.size 1 rfl _ (Own.new w3 3 [.int .i64 _]) (by rw [rawL_length]; omega) (by simp; omega) ?_)
       intro v3 w4 p1 p2 p3 p4
       have HL4 := Lib.hid ((HL3.out.ext (ext_alloc _ _)).two p1 p2 (by rw [hsz_alloc]; exact p3) p4)
       clear p1 p2 p3 p4 hs1
       go_wp2
       go_roundw
       case rel => exact ⟨i + 1, rfl, HIN.out, by rw [rawL_succ, rawL_succ, EX.out, EY.out]; exact HL4.out⟩
       case measure => simp [intOf]; have := HIN.out; omega
    ·
     obtain rfl : i = n := by omega
     have hii : ¬ (i : Int) < (i : Int) := by omega
     go_wp2_with fail
     go_meet
     exact HL.out
 clear hbw
 have hbw := hcut.be
 have ra := hcut.a1.done (rawL_I64 a 1 k n hk1 (by omega))
 have rb := hcut.a2.done (rawL_I64 b 3 k n hk1 (by omega))
 have good1 := rawL_good a 1 k n hk1
 have good2 := rawL_good b 3 k n hk1
 have len1 := rawL_length a 1 k n
 have len2 := rawL_length b 3 k n
 clear hcut H1 H2 HC1 HC2 hw1 hw2
 generalize rawL a 1 (k : Int) n = L1 at ra good1 len1
 generalize rawL b 3 (k : Int) n = L2 at rb good2 len2
 obtain ⟨A1, c1, rfl, ra⟩ := ra.shape
 obtain ⟨B1, d1, rfl, rb⟩ := rb.shape
 have HGD : ∀ m, m < n → ∃ i j : Nat, i < k ∧ j < k ∧ L1.getD m 0 = (i : Int) ∧ L2.getD m 0 = (j : Int) := by
  intro m hm
  obtain ⟨i, h1, h2, _⟩ := good_at good1 (j := m) (by omega)
  obtain ⟨j, h3, h4, _⟩ := good_at good2 (j := m) (by omega)
  exact ⟨i, j, h1, h3, h2, h4⟩
 have hok := tab_okT HGD (by omega)
 have hsq := tab_sq k (tabTo L1 L2 n)
 have hall : allS (tabL k (tabTo L1 L2 n)) k k = (n : Int) := (sumF_congr k (fun i hi => tab_row k (tabTo L1 L2 n) hi k (Nat.le_refl _))).trans (tab_all n HGD)
 have hdiag : diagS (tabL k (tabTo L1 L2 n)) k = ((alike L1 L2 n : Nat) : Int) := (sumF_congr k (fun i hi => at2_tab k (tabTo L1 L2 n) hi hi)).trans (tab_diag n HGD)
 have hTB := fun W h h' => table_c W (.slice A1 L1.length c1) (.slice B1 L2.length d1) L1 L2 k h h' (by omega) (by omega) (by omega) hk1 (by omega) good1 good2
 have hRI := fun W h h' => sright_c W (.slice A1 L1.length c1) (.slice B1 L2.length d1) L1 L2 h h' (by omega) (by omega) (by omega)
 have hal := alike_le L1 L2 n
 rw [len1, len2] at hTB
 rw [len1, len2] at hRI
 rw [len1] at ra
 rw [len2] at rb
 unfold TableSaid at hTB
 rw [len1] at hTB
 rw [len1, len2]
 generalize tabL k (tabTo L1 L2 n) = T at hok hsq hall hdiag hTB
 generalize alike L1 L2 n = G at hdiag hRI hal
 have HTB := Lib.hid hTB
 have HRI := Lib.hid hRI
 have HRT := Lib.hid (fun W v h => rates_c W v T k h hsq hk1 (by omega) hok)
 have HKW := Lib.hid known9_c
 have RA := Lib.hid ra
 have RB := Lib.hid rb
 have HOK := Lib.hid hok
 have HSQ := Lib.hid hsq
 have HALL := Lib.hid hall
 have HDG := Lib.hid hdiag
 clear ra rb hTB hRI hok hsq good1 good2 len1 len2 HGD hall hdiag
 go_wp2_with fail
 refine (HTB.out _ RA.out RB.out).mono ?_
 rintro e W21 ⟨v1, rfl, hb1, ⟨A2, c2, rfl, ht⟩⟩
 replace RA := Lib.hid (RA.out.ext hb1)
 replace RB := Lib.hid (RB.out.ext hb1)
 replace hbw := nT hbw hb1
 have RT := Lib.hid ht
 clear ht
 clear hb1
 go_wp2_with fail
 refine (HRT.out _ _ RT.out).mono ?_
 rintro e W22 ⟨v1, rfl, hb1, ⟨bR, cR, rfl, hr⟩⟩
 replace RA := Lib.hid (RA.out.ext hb1)
 replace RB := Lib.hid (RB.out.ext hb1)
 replace RT := Lib.hid (RT.out.ext hb1)
 replace hbw := nT hbw hb1
 have RR := Lib.hid hr
 clear hr
 clear hb1
 go_wp2_with fail
 refine (HRI.out _ RA.out RB.out).mono ?_
 rintro e W23 ⟨v1, rfl, hb1, s1, E1, e1, n1, F1, k1, m1, rfl, hr1⟩
 replace RA := Lib.hid (RA.out.ext hb1)
 replace RB := Lib.hid (RB.out.ext hb1)
 replace RT := Lib.hid (RT.out.ext hb1)
 replace RR := Lib.hid (RR.out.ext hb1)
 replace hbw := nT hbw hb1
 have R1 := Lib.hid hr1
 clear hr1
 clear hb1
 go_upto_region 18 with (fail)
 have z_H19 := hbw.size
 replace RA := Lib.hid (RA.out.alloc (.cells #[.bool s1, .slice E1 n1 e1, .slice F1 m1 k1] 34))
 replace RB := Lib.hid (RB.out.alloc (.cells #[.bool s1, .slice E1 n1 e1, .slice F1 m1 k1] 34))
 replace RT := Lib.hid (RT.out.alloc (.cells #[.bool s1, .slice E1 n1 e1, .slice F1 m1 k1] 34))
 replace RR := Lib.hid (RR.out.alloc (.cells #[.bool s1, .slice E1 n1 e1, .slice F1 m1 k1] 34))
 replace R1 := Lib.hid (R1.out.alloc (.cells #[.bool s1, .slice E1 n1 e1, .slice F1 m1 k1] 34))
 replace hbw := Below.alloc hbw hbw.size (.cells #[.bool s1, .slice E1 n1 e1, .slice F1 m1 k1] 34)
 have H19 := Lib.hid (Own.new' W23 34 [.bool s1, .slice E1 n1 e1, .slice F1 m1 k1] W23.heap.size rfl)
 obtain ⟨bH19, e_H19⟩ : ∃ b, W23.heap.size = b := ⟨_, rfl⟩
 simp only [e_H19] at H19 z_H19 ⊢
 generalize (W23.alloc (.cells #[.bool s1, .slice E1 n1 e1, .slice F1 m1 k1] 34)) = W24 at RA RB RT RR R1 H19 hbw ⊢
 go_wp2_with fail
 refine (HKW.out _).mono ?_
 rintro e W25 ⟨v1, rfl, hb1, rfl⟩
 replace RA := Lib.hid (RA.out.ext hb1)
 replace RB := Lib.hid (RB.out.ext hb1)
 replace RT := Lib.hid (RT.out.ext hb1)
 replace RR := Lib.hid (RR.out.ext hb1)
 replace R1 := Lib.hid (R1.out.ext hb1)
 replace H19 := Lib.hid (H19.out.ext hb1)
 replace hbw := nT hbw hb1
 clear hb1
 go_upto_region 20 with (fail)
 have HBW0 := Lib.hid hbw
 obtain ⟨w, ew⟩ : ∃ w', w' = W25 := ⟨_, rfl⟩
 subst ew
 clear hbw
 have hbw := Below.refl w.heap.size w
 have HOF := Lib.hid (fun W (z : Int) (h0 : 0 ≤ z) (h1 : z ≤ 2147483647) => qof_c W z ⟨by omega, by omega⟩)
 go_upto_region 21 with (fail)
 have z_H21 := hbw.size
 replace hbw := Below.alloc hbw hbw.size (.cells #[.bool false, .slice none 0 0, .slice none 0 0] 34)
 have H21 := Lib.hid (Own.new' w 34 [.bool false, .slice none 0 0, .slice none 0 0] w.heap.size rfl)
 obtain ⟨bH21, e_H21⟩ : ∃ b, w.heap.size = b := ⟨_, rfl⟩
 simp only [e_H21] at H21 z_H21 ⊢
 generalize (w.alloc (.cells #[.bool false, .slice none 0 0, .slice none 0 0] 34)) = W21 at H21 hbw ⊢
 go_upto_block 2 with (fail)
 go_cut [22, 23] (fun p22 p23 WC => p22 = .int .i64 ((G : Nat) : Int) ∧ p23 = .int .i64 ((n : Nat) : Int) ∧ ∃ s A3 n3 c3 B3 d3 m3, SumIn w bH21 k T k s (.slice A3 n3 c3) (.slice B3 m3 d3) WC)
 case first =>
  go_wp2_with fail
  go_loopw [22, 23, 24] (fun t22 t23 t W => ∃ i : Nat, t = .int .i64 (i : Nat) ∧ i ≤ k ∧ t22 = .int .i64 (diagS T i) ∧ t23 = .int .i64 (allS T k i) ∧ ∃ s A3 n3 c3 B3 d3 m3, SumIn w bH21 k T i s (.slice A3 n3 c3) (.slice B3 m3 d3) W) (fun _ _ t _ => (k - (intOf t).toNat))
  case atStart => exact ⟨0, rfl, Nat.zero_le _, rfl, rfl, _, _, _, _, _, _, _, hbw, H21.out, by rw [show ((diagS T 0 : Int) : Rat) = 0 from rfl]; exact rQd.mk (by exact ⟨_, rNat.zero _, rfl⟩) (rNat.zero _)⟩
  case round =>
    obtain ⟨i, rfl, hi, rfl, rfl, s, A3, n3, c3, B3, d3, m3, hd⟩ := hrel
    clear H21 hbw
    have HD := Lib.hid hd
    clear hd
    rcases Nat.lt_or_ge i k with hik | hik
    ·
     have hii : (i : Int) < (k : Int) := by omega
     have HIK := Lib.hid hik
     have hwi : IntKind.i64.wrap ((i : Int) + 1) = ((i + 1 : Nat) : Int) := i64w (by omega) (by omega)
     obtain ⟨g, o, g1, o1, cc1, rfl, xa, xb⟩ := RT.out.row HSQ.out hik
     obtain ⟨s4, A4, c4, n4, B4, d4, m4, za, zb, zc, zq⟩ := RR.out.recall hik
     have hbw := HD.out.be
     have ya := ext_cell hbw xa
     have HY := Lib.hid (fun j hj => ext_cell hbw (xb j hj).1)
     have hent := HOK.out.entry hik hik
     have p1 := HOK.out.row hik k (Nat.le_refl _)
     have p2 := HOK.out.allS i (by omega)
     have p3 := HOK.out.allS (i + 1) (by omega)
     have p4 := HOK.out.diagS i (by omega)
     have p5 := HOK.out.diagS (i + 1) (by omega)
     have EA := Lib.hid (show allS T k (i + 1) = allS T k i + sumF (at2 T i) k from rfl)
     have ED := Lib.hid (show diagS T (i + 1) = diagS T i + at2 T i i from rfl)
     have EM := Lib.hid (ratR_mul HOK.out hik)
     rw [EA.out] at p3
     rw [ED.out] at p5
     have yd := HY.out i hik
     have R0 := Lib.hid HD.out.hq
     have H21 := Lib.hid HD.out.own
     have bc : qb (ratR T k i) ≤ 64 := qb_mkRat _ _ (by omega) (by omega)
     have hzq := zq
     rw [rateQ_1] at hzq
     have RC := Lib.hid (hzq.ext hbw)
     obtain ⟨x, ex⟩ : ∃ x, at2 T i i = x := ⟨_, rfl⟩
     obtain ⟨u, eu⟩ : ∃ u, sumF (at2 T i) k = u := ⟨_, rfl⟩
     obtain ⟨rc, erc⟩ : ∃ rc, ratR T k i = rc := ⟨_, rfl⟩
     obtain ⟨aa, eaa⟩ : ∃ a, allS T k i = a := ⟨_, rfl⟩
     obtain ⟨dd, edd⟩ : ∃ d, diagS T i = d := ⟨_, rfl⟩
     rw [ex] at hent EM ED p5 yd
     rw [eu] at EM EA p1 p3
     rw [erc] at EM RC bc
     rw [eaa] at EA p2 p3 ⊢
     rw [edd] at ED p4 p5 R0 ⊢
     have EU := Lib.hid eu
     have hwa : IntKind.i64.wrap (aa + u) = aa + u := i64w (by omega) (by omega)
     have hwd : IntKind.i64.wrap (dd + x) = dd + x := i64w (by omega) (by omega)
     have HO1 := Lib.hid (HOF.out · u p1.1 p1.2)
     have hM := fun W v u' h h' => qmul_c W v u' rc ((u : Int) : Rat) h h' (by have := qb_int u (by omega); omega)
     rw [EM.out] at hM
     have HM := Lib.hid hM
     have hA := fun W v u' h h' => qadd_c W v u' ((dd : Int) : Rat) ((x : Int) : Rat) h h' (by have := qb_int dd (by omega); have := qb_int x (by omega); omega)
     rw [← Rat.intCast_add, ← ED.out] at hA
     have HA := Lib.hid hA
     have HZ := Lib.hid (Cells.cons (ext_cell hbw za) (Cells.cons (ext_cell hbw zb) (Cells.cons (ext_cell hbw zc) (Cells.nil wr))))
     clear hM hA hzq zq za zb zc xa xb ex eu erc eaa edd hent p1 p2 p3 p4 p5 bc hi
     go_wp2_with fail
     go_loopw [25, 26] (fun t25 t W => ∃ j : Nat, t = .int .i64 (j : Nat) ∧ j ≤ k ∧ t25 = .int .i64 (sumF (at2 T i) j) ∧ W = wr) (fun _ t _ => (k - (intOf t).toNat))
     case atStart => exact ⟨0, rfl, Nat.zero_le _, rfl, rfl⟩
     case round =>
      obtain ⟨j, rfl, hj, rfl, rfl⟩ := hrel
      rcases Nat.lt_or_ge j k with hjk | hjk
      ·
       have hjj : (j : Int) < (k : Int) := by omega
       have HJK := Lib.hid hjk
       have hwj : IntKind.i64.wrap ((j : Int) + 1) = ((j + 1 : Nat) : Int) := i64w (by omega) (by omega)
       have z3 := HY.out j hjk
       have p1 := HOK.out.row HIK.out (j + 1) (by omega)
       have p2 := HOK.out.row HIK.out j (by omega)
       have E1 := Lib.hid (show sumF (at2 T i) (j + 1) = sumF (at2 T i) j + at2 T i j from rfl)
       rw [E1.out] at p1
       obtain ⟨u1, eu1⟩ : ∃ u, sumF (at2 T i) j = u := ⟨_, rfl⟩
       obtain ⟨x1, ex1⟩ : ∃ x, at2 T i j = x := ⟨_, rfl⟩
       rw [eu1, ex1] at p1 E1
       rw [eu1]
       rw [ex1] at z3
       have hw1 : IntKind.i64.wrap (u1 + x1) = u1 + x1 := i64w (by omega) (by omega)
       clear p1 p2 eu1 ex1 hj
       go_wp2
       go_roundw
       case rel => exact ⟨j + 1, rfl, HJK.out, by rw [E1.out], trivial⟩
       case measure => simp [intOf]; have := HJK.out; omega
      ·
       obtain rfl : j = k := by omega
       have hjj : ¬ (j : Int) < (j : Int) := by omega
       rw [EU.out]
       go_wp2_with fail
       obtain ⟨za, zb, zc, _⟩ := HZ.out
       have HB : Hid (Cells [(bH21, 0, .bool s), (bH21, 1, .slice A3 n3 c3), (bH21, 2, .slice B3 m3 d3), (bR, i * 9 + 3, .bool s4), (bR, i * 9 + 4, .slice A4 n4 c4), (bR, i * 9 + 5, .slice B4 m4 d4)] wr) := Lib.hid (Cells.cons (H21.out.cell 0 _ rfl) (Cells.cons (H21.out.cell 1 _ rfl) (Cells.cons (H21.out.cell 2 _ rfl) (Cells.cons (za) (Cells.cons (zb) (Cells.cons (zc) (Cells.nil _)))))))
       clear za zb zc
       replace HB := Lib.hid (HB.out.drew)
       replace H21 := Lib.hid (H21.out.drew)
       replace R0 := Lib.hid (R0.out.drew)
       replace RC := Lib.hid (RC.out.drew)
       replace hbw := Below.drew hbw
       refine wp_hoistL [(0, true), (1, true), (2, true), (3, true), (4, true), (5, true), (6, true), (7, false), (8, false), (9, false), (10, false)] 10 (Cells [(bH21, 0, .bool s), (bH21, 1, .slice A3 n3 c3), (bH21, 2, .slice B3 m3 d3), (bR, i * 9 + 3, .bool s4), (bR, i * 9 + 4, .slice A4 n4 c4), (bR, i * 9 + 5, .slice B4 m4 d4)]) (by kernel_rfl) (by kernel_rfl) ?_ ?_
       · exact HB.out
       generalize wr.drew = W21 at HB H21 R0 RC hbw ⊢
       refine hl_yes (v := ?_) rfl (by kernel_rfl) (fun W hW => ?_) ?_; rotate_left; (obtain ⟨y0, y1, y2, y3, y4, y5, _⟩ := hW; go_simp; try with_reducible rfl)
       (try simp only [Act.put, gL])
       refine hl_yes (v := ?_) rfl (by kernel_rfl) (fun W hW => ?_) ?_; rotate_left; (go_simp; try with_reducible rfl)
       (try simp only [Act.put, gL])
       refine hl_yes (v := ?_) rfl (by kernel_rfl) (fun W hW => ?_) ?_; rotate_left; (go_simp; try with_reducible rfl)
       (try simp only [Act.put, gL])
       refine hl_yes (v := ?_) rfl (by kernel_rfl) (fun W hW => ?_) ?_; rotate_left; (go_simp; try with_reducible rfl)
       (try simp only [Act.put, gL])
       refine hl_yes (v := ?_) rfl (by kernel_rfl) (fun W hW => ?_) ?_; rotate_left; (go_simp; try with_reducible rfl)
       (try simp only [Act.put, gL])
       refine hl_yes (v := ?_) rfl (by kernel_rfl) (fun W hW => ?_) ?_; rotate_left; (obtain ⟨y0, y1, y2, y3, y4, y5, _⟩ := hW; go_simp; try with_reducible rfl)
       (try simp only [Act.put, gL])
       refine hl_yes (v := ?_) rfl (by kernel_rfl) (fun W hW => ?_) ?_; rotate_left; (go_simp; try with_reducible rfl)
       (try simp only [Act.put, gL])
       refine hl_eff rfl (by kernel_rfl) (fun K hK => ?_)
       refine wp_call (HO1.out _) (by kernel_rfl) ?_
       rintro v1 W22 hb1 hr1
       obtain ⟨Vs, VA, Vc, Vn, VB, Vd, Vm, rfl, hr1⟩ := hr1.shape
       refine hK.out _ _ ?_ ?_
       · exact HB.out.ext hb1
       clear hK K
       (try simp only [Act.put, gL])
       replace HB := Lib.hid (HB.out.ext hb1)
       replace H21 := Lib.hid (H21.out.ext hb1)
       replace R0 := Lib.hid (R0.out.ext hb1)
       replace RC := Lib.hid (RC.out.ext hb1)
       replace hbw := nT hbw hb1
       have R3 := Lib.hid hr1
       clear hr1
       clear hb1
       refine hl_eff rfl (by kernel_rfl) (fun K hK => ?_)
       refine wp_call (HM.out _ _ _ RC.out R3.out) (by kernel_rfl) ?_
       rintro v1 W23 hb1 hr1
       obtain ⟨Fs, FA, Fc, Fn, FB, Fd, Fm, rfl, hr1⟩ := hr1.shape
       refine hK.out _ _ ?_ ?_
       · exact HB.out.ext hb1
       clear hK K
       (try simp only [Act.put, gL])
       replace HB := Lib.hid (HB.out.ext hb1)
       replace H21 := Lib.hid (H21.out.ext hb1)
       replace R0 := Lib.hid (R0.out.ext hb1)
       replace RC := Lib.hid (RC.out.ext hb1)
       replace R3 := Lib.hid (R3.out.ext hb1)
       replace hbw := nT hbw hb1
       have R4 := Lib.hid hr1
       clear hr1
       clear hb1
       refine hl_eff rfl (by kernel_rfl) (fun K hK => ?_)
       refine wp_call (HA.out _ _ _ R0.out R4.out) (by kernel_rfl) ?_
       rintro v1 W24 hb1 hr1
       obtain ⟨Js, JA, Jc, Jn, JB, Jd, Jm, rfl, hr1⟩ := hr1.shape
       refine hK.out _ _ ?_ ?_
       · exact HB.out.ext hb1
       clear hK K
       (try simp only [Act.put, gL])
       replace HB := Lib.hid (HB.out.ext hb1)
       replace H21 := Lib.hid (H21.out.ext hb1)
       replace R0 := Lib.hid (R0.out.ext hb1)
       replace RC := Lib.hid (RC.out.ext hb1)
       replace R3 := Lib.hid (R3.out.ext hb1)
       replace R4 := Lib.hid (R4.out.ext hb1)
       replace hbw := nT hbw hb1
       have R5 := Lib.hid hr1
       clear hr1
       clear hb1
       have q0 := H21.out.cell 0 _ rfl
       have f0 := H21.out.frozen 0
       have q1 := H21.out.cell 1 _ rfl
       have f1 := H21.out.frozen 1
       have q2 := H21.out.cell 2 _ rfl
       have f2 := H21.out.frozen 2
       refine hl_last rfl (by kernel_rfl) (fun K hK => ?_)
       go_simp
       refine hK.out _ _ ?_
       clear hK K HB
       (try simp only [Act.put, gL])
       replace H21 := Lib.hid (H21.out.set 0 (.bool Js))
       replace R0 := Lib.hid (R0.out.set (x := .bool Js) q0 rfl)
       replace RC := Lib.hid (RC.out.set (x := .bool Js) q0 rfl)
       replace R3 := Lib.hid (R3.out.set (x := .bool Js) q0 rfl)
       replace R4 := Lib.hid (R4.out.set (x := .bool Js) q0 rfl)
       replace R5 := Lib.hid (R5.out.set (x := .bool Js) q0 rfl)
       replace hbw := Below.setCell hbw (show w.heap.size ≤ (⟨bH21, 0, none⟩ : Addr).block by simp <;> omega) (.bool Js)
       replace q1 := (World.cell?_setCell_other W24 ⟨bH21, 0, none⟩ ⟨bH21, 1, none⟩ (.bool Js) (by simp)).trans q1
       replace q2 := (World.cell?_setCell_other W24 ⟨bH21, 0, none⟩ ⟨bH21, 2, none⟩ (.bool Js) (by simp)).trans q2
       replace H21 := Lib.hid (H21.out.set 1 (.slice JA Jn Jc))
       replace R0 := Lib.hid (R0.out.set (x := .slice JA Jn Jc) q1 rfl)
       replace RC := Lib.hid (RC.out.set (x := .slice JA Jn Jc) q1 rfl)
       replace R3 := Lib.hid (R3.out.set (x := .slice JA Jn Jc) q1 rfl)
       replace R4 := Lib.hid (R4.out.set (x := .slice JA Jn Jc) q1 rfl)
       replace R5 := Lib.hid (R5.out.set (x := .slice JA Jn Jc) q1 rfl)
       replace hbw := Below.setCell hbw (show w.heap.size ≤ (⟨bH21, 1, none⟩ : Addr).block by simp <;> omega) (.slice JA Jn Jc)
       replace q2 := (World.cell?_setCell_other (W24.setCell ⟨bH21, 0, none⟩ (.bool Js)) ⟨bH21, 1, none⟩ ⟨bH21, 2, none⟩ (.slice JA Jn Jc) (by simp)).trans q2
       replace H21 := Lib.hid (H21.out.set 2 (.slice JB Jm Jd))
       replace R0 := Lib.hid (R0.out.set (x := .slice JB Jm Jd) q2 rfl)
       replace RC := Lib.hid (RC.out.set (x := .slice JB Jm Jd) q2 rfl)
       replace R3 := Lib.hid (R3.out.set (x := .slice JB Jm Jd) q2 rfl)
       replace R4 := Lib.hid (R4.out.set (x := .slice JB Jm Jd) q2 rfl)
       replace R5 := Lib.hid (R5.out.set (x := .slice JB Jm Jd) q2 rfl)
       replace hbw := Below.setCell hbw (show w.heap.size ≤ (⟨bH21, 2, none⟩ : Addr).block by simp <;> omega) (.slice JB Jm Jd)
       clear q0 f0 q1 f1 q2 f2
       replace H21 : Hid (Own _ _ _ [.bool Js, .slice JA Jn Jc, .slice JB Jm Jd]) := H21
       generalize (((W24.setCell ⟨bH21, 0, none⟩ (.bool Js)).setCell ⟨bH21, 1, none⟩ (.slice JA Jn Jc)).setCell ⟨bH21, 2, none⟩ (.slice JB Jm Jd)) = W25 at H21 R0 RC R3 R4 R5 hbw ⊢
       go_wp2
       go_roundw
       case rel => exact ⟨i + 1, rfl, HIK.out, by rw [ED.out], by rw [EA.out], _, _, _, _, _, _, _, hbw, H21.out, R5.out⟩
       case measure => simp [intOf]; have := HIK.out; omega
    ·
     obtain rfl : i = k := by omega
     have hii : ¬ (i : Int) < (i : Int) := by omega
     go_wp2_with fail
     go_meet
     exact ⟨by rw [HDG.out], by rw [HALL.out], _, _, _, _, _, _, _, HD.out⟩
 clear H21 hbw
 obtain ⟨rfl, rfl, s, A3, n3, c3, B3, d3, m3, hd⟩ := hcut
 have hbw := hd.be
 have hG : G ≤ 25 := by omega
 have eD := HDG.out
 have hq := hd.hq
 rw [eD] at hq
 have RS := Lib.hid hq
 have H21 := Lib.hid hd.own
 have RP := Lib.hid (R1.out.ext hbw)
 have H19b := Lib.hid (H19.out.ext hbw)
 have eDiv : (((G : Nat) : Int) : Rat) / (((n : Nat) : Int) : Rat) = mkRat ((G : Nat) : Int) n := by rw [Rat.mkRat_eq_div]; rfl
 have HON := Lib.hid (fun W => HOF.out W ((n : Nat) : Int) (by omega) (by omega))
 have hdv := fun W v u h h' => qdiv_c W v u (((G : Nat) : Int) : Rat) (((n : Nat) : Int) : Rat) h h' (by have := qb_int (G : Int) (by omega); have := qb_int (n : Int) (by omega); omega)
 have HDV := Lib.hid (fun W v u h h' => (hdv W v u h h').mono (fun _ _ h => h.map (fun _ _ h => h.open)))
 rw [eDiv] at HDV
 obtain ⟨bb, ebb⟩ : ∃ b, decide ((((n : Nat) : Int) : Rat) ≠ 0) = b := ⟨_, rfl⟩
 rw [ebb] at HDV
 have sm := mkRat_small G n hG hn1 hn2
 have bq : qb (mkRat ((G : Nat) : Int) n) ≤ 64 := qb_mkRat _ _ (by omega) (by omega)
 have HIS := Lib.hid (fun W v h => is_c W v (mkRat ((G : Nat) : Int) n) ((G : Nat) : Int) n h sm.1 sm.2 (by omega) (by omega))
 rw [decide_eq_true rfl] at HIS
 obtain ⟨P, eP⟩ : ∃ P, mkRat ((G : Nat) : Int) n = P := ⟨_, rfl⟩
 rw [eP] at HDV HIS RP bq
 have HCM := Lib.hid (fun W v u h h' => qcmp_c W v u P P h h' (by omega))
 rw [(cmpQ_eq P P).2 rfl] at HCM
 have hnn : (((n : Nat) : Int) == ((n : Nat) : Int)) = true := by simp
 clear hd hq hdv eDiv ebb sm bq eP eD hG RA RB RT RR R1 H19
 have HB : Hid (Cells [(bH21, 0, .bool s), (bH21, 1, .slice A3 n3 c3), (bH21, 2, .slice B3 m3 d3), (bH19, 0, .bool s1), (bH19, 1, .slice E1 n1 e1), (bH19, 2, .slice F1 m1 k1)] wc) := Lib.hid (Cells.cons (H21.out.cell 0 _ rfl) (Cells.cons (H21.out.cell 1 _ rfl) (Cells.cons (H21.out.cell 2 _ rfl) (Cells.cons (H19b.out.cell 0 _ rfl) (Cells.cons (H19b.out.cell 1 _ rfl) (Cells.cons (H19b.out.cell 2 _ rfl) (Cells.nil _)))))))
 go_upto_region 34 with (fail)
 go_cut [27] (fun p27 WC => ∃ bH27 : Nat, ∃ Ls : Bool, ∃ LA : Option Addr, ∃ Lc : Nat, ∃ Ln : Nat, ∃ LB : Option Addr, ∃ Ld : Nat, ∃ Lm : Nat, p27 = .pointer (some ⟨bH27, 0, none⟩) ∧ Below w.heap.size w WC ∧ Cells [(bH21, 0, .bool s), (bH21, 1, .slice A3 n3 c3), (bH21, 2, .slice B3 m3 d3), (bH19, 0, .bool s1), (bH19, 1, .slice E1 n1 e1), (bH19, 2, .slice F1 m1 k1)] WC ∧ rQ WC (.agg #[.bool s, .slice A3 n3 c3, .slice B3 m3 d3]) (((G : Nat) : Int) : Rat) ∧ rQ WC (.agg #[.bool s1, .slice E1 n1 e1, .slice F1 m1 k1]) P ∧ rQ WC (.agg #[.bool Ls, .slice LA Ln Lc, .slice LB Lm Ld]) P ∧ Own WC (bH27) 34 [.bool Ls, .slice LA Ln Lc, .slice LB Lm Ld] ∧ bH21 < bH27 ∧ bH19 < bH27)
 case first =>
  replace HB := Lib.hid (HB.out.drew)
  replace RS := Lib.hid (RS.out.drew)
  replace RP := Lib.hid (RP.out.drew)
  replace hbw := Below.drew hbw
  refine wp_hoistR (.yes 0 (.yes 1 (.act 2 (.act 3 (.yes 4 (.yes 5 (.yes 6 (.act 7 (.act 8 (.act 9 (.done) (.stop)) (.stop)) (.stop))))) (.act 7 (.act 3 (.yes 4 (.yes 5 (.yes 6 (.act 8 (.act 9 (.done) (.stop)) (.stop))))) (.stop)) (.stop))) (.act 7 (.act 2 (.act 3 (.yes 4 (.yes 5 (.yes 6 (.act 8 (.act 9 (.done) (.stop)) (.stop))))) (.stop)) (.stop)) (.stop))))) (Cells [(bH21, 0, .bool s), (bH21, 1, .slice A3 n3 c3), (bH21, 2, .slice B3 m3 d3), (bH19, 0, .bool s1), (bH19, 1, .slice E1 n1 e1), (bH19, 2, .slice F1 m1 k1)]) (by kernel_rfl) (by kernel_rfl) ?_ ?_
  · exact HB.out
  generalize wc.drew = W21 at HB RS RP hbw ⊢
  refine hr_yes (v := ?_) rfl (by kernel_rfl) (fun W hW => ?_) ?_; rotate_left; (obtain ⟨y0, y1, y2, y3, y4, y5, _⟩ := hW; go_simp; try with_reducible rfl)
  (try simp only [Act.put, gL])
  refine hr_yes (v := ?_) rfl (by kernel_rfl) (fun W hW => ?_) ?_; rotate_left; (go_simp; try with_reducible rfl)
  (try simp only [Act.put, gL])
  refine hr_eff rfl (by kernel_rfl) (fun K hK => ?_) ?_
  focus
   refine wp_call (HON.out _) (by kernel_rfl) ?_
   rintro v1 W22 hb1 hr1
   obtain ⟨Vs, VA, Vc, Vn, VB, Vd, Vm, rfl, hr1⟩ := hr1.shape
   refine hK.out _ _ ?_ ?_
   · exact HB.out.ext hb1
   clear hK K
   (try simp only [Act.put, gL])
   replace HB := Lib.hid (HB.out.ext hb1)
   replace RS := Lib.hid (RS.out.ext hb1)
   replace RP := Lib.hid (RP.out.ext hb1)
   replace hbw := nT hbw hb1
   have R3 := Lib.hid hr1
   clear hr1
   clear hb1
   refine hr_eff rfl (by kernel_rfl) (fun K hK => ?_) ?_
   focus
    refine wp_call (HDV.out _ _ _ RS.out R3.out) (by kernel_rfl) ?_
    rintro v1 W23 hb1 ⟨Ls, LA, Lc, Ln, LB, Ld, Lm, rfl, hr1⟩
    refine hK.out _ _ ?_ ?_
    · exact HB.out.ext hb1
    clear hK K
    (try simp only [Act.put, gL])
    replace HB := Lib.hid (HB.out.ext hb1)
    replace RS := Lib.hid (RS.out.ext hb1)
    replace RP := Lib.hid (RP.out.ext hb1)
    replace R3 := Lib.hid (R3.out.ext hb1)
    replace hbw := nT hbw hb1
    have R4 := Lib.hid hr1
    clear hr1
    clear hb1
    refine hr_yes (v := ?_) rfl (by kernel_rfl) (fun W hW => ?_) ?_; rotate_left; (go_simp; try with_reducible rfl)
    (try simp only [Act.put, gL])
    refine hr_yes (v := ?_) rfl (by kernel_rfl) (fun W hW => ?_) ?_; rotate_left; (go_simp; try with_reducible rfl)
    (try simp only [Act.put, gL])
    refine hr_yes (v := ?_) rfl (by kernel_rfl) (fun W hW => ?_) ?_; rotate_left; (go_simp; try with_reducible rfl)
    (try simp only [Act.put, gL])
    refine hr_one rfl (by kernel_rfl) (fun K hK => ?_)
    go_simp
    refine hK.out _ _ ?_ ?_
    · exact HB.out.alloc _
    clear hK K
    (try simp only [Act.put, gL])
    have z_H27 := hbw.size
    have z_H27_H21 := cell_lt HB.out.1
    have z_H27_H19 := cell_lt HB.out.2.2.2.1
    replace HB := Lib.hid (HB.out.alloc (.cells #[.bool false, .slice none 0 0, .slice none 0 0] 34))
    replace RS := Lib.hid (RS.out.alloc (.cells #[.bool false, .slice none 0 0, .slice none 0 0] 34))
    replace RP := Lib.hid (RP.out.alloc (.cells #[.bool false, .slice none 0 0, .slice none 0 0] 34))
    replace R3 := Lib.hid (R3.out.alloc (.cells #[.bool false, .slice none 0 0, .slice none 0 0] 34))
    replace R4 := Lib.hid (R4.out.alloc (.cells #[.bool false, .slice none 0 0, .slice none 0 0] 34))
    replace hbw := Below.alloc hbw hbw.size (.cells #[.bool false, .slice none 0 0, .slice none 0 0] 34)
    have H27 := Lib.hid (Own.new' W23 34 [.bool false, .slice none 0 0, .slice none 0 0] W23.heap.size rfl)
    obtain ⟨bH27, e_H27⟩ : ∃ b, W23.heap.size = b := ⟨_, rfl⟩
    simp only [e_H27] at H27 z_H27 z_H27_H21 z_H27_H19 ⊢
    generalize (W23.alloc (.cells #[.bool false, .slice none 0 0, .slice none 0 0] 34)) = W24 at HB RS RP R3 R4 H27 hbw ⊢
   rotate_left 1
   refine hr_eff rfl (by kernel_rfl) (fun K hK => ?_) ?_
   focus
    go_simp
    refine hK.out _ _ ?_ ?_
    · exact HB.out.alloc _
    clear hK K
    (try simp only [Act.put, gL])
    have z_H27 := hbw.size
    have z_H27_H21 := cell_lt HB.out.1
    have z_H27_H19 := cell_lt HB.out.2.2.2.1
    replace HB := Lib.hid (HB.out.alloc (.cells #[.bool false, .slice none 0 0, .slice none 0 0] 34))
    replace RS := Lib.hid (RS.out.alloc (.cells #[.bool false, .slice none 0 0, .slice none 0 0] 34))
    replace RP := Lib.hid (RP.out.alloc (.cells #[.bool false, .slice none 0 0, .slice none 0 0] 34))
    replace R3 := Lib.hid (R3.out.alloc (.cells #[.bool false, .slice none 0 0, .slice none 0 0] 34))
    replace hbw := Below.alloc hbw hbw.size (.cells #[.bool false, .slice none 0 0, .slice none 0 0] 34)
    have H27 := Lib.hid (Own.new' W22 34 [.bool false, .slice none 0 0, .slice none 0 0] W22.heap.size rfl)
    obtain ⟨bH27, e_H27⟩ : ∃ b, W22.heap.size = b := ⟨_, rfl⟩
    simp only [e_H27] at H27 z_H27 z_H27_H21 z_H27_H19 ⊢
    generalize (W22.alloc (.cells #[.bool false, .slice none 0 0, .slice none 0 0] 34)) = W23 at HB RS RP R3 H27 hbw ⊢
    refine hr_one rfl (by kernel_rfl) (fun K hK => ?_)
    refine wp_call (HDV.out _ _ _ RS.out R3.out) (by kernel_rfl) ?_
    rintro v1 W24 hb1 ⟨Ls, LA, Lc, Ln, LB, Ld, Lm, rfl, hr1⟩
    refine hK.out _ _ ?_ ?_
    · exact HB.out.ext hb1
    clear hK K
    (try simp only [Act.put, gL])
    replace HB := Lib.hid (HB.out.ext hb1)
    replace RS := Lib.hid (RS.out.ext hb1)
    replace RP := Lib.hid (RP.out.ext hb1)
    replace R3 := Lib.hid (R3.out.ext hb1)
    replace H27 := Lib.hid (H27.out.ext hb1)
    replace hbw := nT hbw hb1
    have R4 := Lib.hid hr1
    clear hr1
    clear hb1
    refine hr_yes (v := ?_) rfl (by kernel_rfl) (fun W hW => ?_) ?_; rotate_left; (go_simp; try with_reducible rfl)
    (try simp only [Act.put, gL])
    refine hr_yes (v := ?_) rfl (by kernel_rfl) (fun W hW => ?_) ?_; rotate_left; (go_simp; try with_reducible rfl)
    (try simp only [Act.put, gL])
    refine hr_yes (v := ?_) rfl (by kernel_rfl) (fun W hW => ?_) ?_; rotate_left; (go_simp; try with_reducible rfl)
    (try simp only [Act.put, gL])
   rotate_left 1
   exact trivial
  rotate_left 2
  refine hr_eff rfl (by kernel_rfl) (fun K hK => ?_) ?_
  focus
   go_simp
   refine hK.out _ _ ?_ ?_
   · exact HB.out.alloc _
   clear hK K
   (try simp only [Act.put, gL])
   have z_H27 := hbw.size
   have z_H27_H21 := cell_lt HB.out.1
   have z_H27_H19 := cell_lt HB.out.2.2.2.1
   replace HB := Lib.hid (HB.out.alloc (.cells #[.bool false, .slice none 0 0, .slice none 0 0] 34))
   replace RS := Lib.hid (RS.out.alloc (.cells #[.bool false, .slice none 0 0, .slice none 0 0] 34))
   replace RP := Lib.hid (RP.out.alloc (.cells #[.bool false, .slice none 0 0, .slice none 0 0] 34))
   replace hbw := Below.alloc hbw hbw.size (.cells #[.bool false, .slice none 0 0, .slice none 0 0] 34)
   have H27 := Lib.hid (Own.new' W21 34 [.bool false, .slice none 0 0, .slice none 0 0] W21.heap.size rfl)
   obtain ⟨bH27, e_H27⟩ : ∃ b, W21.heap.size = b := ⟨_, rfl⟩
   simp only [e_H27] at H27 z_H27 z_H27_H21 z_H27_H19 ⊢
   generalize (W21.alloc (.cells #[.bool false, .slice none 0 0, .slice none 0 0] 34)) = W22 at HB RS RP H27 hbw ⊢
   refine hr_one rfl (by kernel_rfl) (fun K hK => ?_)
   refine wp_call (HON.out _) (by kernel_rfl) ?_
   rintro v1 W23 hb1 hr1
   obtain ⟨Vs, VA, Vc, Vn, VB, Vd, Vm, rfl, hr1⟩ := hr1.shape
   refine hK.out _ _ ?_ ?_
   · exact HB.out.ext hb1
   clear hK K
   (try simp only [Act.put, gL])
   replace HB := Lib.hid (HB.out.ext hb1)
   replace RS := Lib.hid (RS.out.ext hb1)
   replace RP := Lib.hid (RP.out.ext hb1)
   replace H27 := Lib.hid (H27.out.ext hb1)
   replace hbw := nT hbw hb1
   have R3 := Lib.hid hr1
   clear hr1
   clear hb1
   refine hr_one rfl (by kernel_rfl) (fun K hK => ?_)
   refine wp_call (HDV.out _ _ _ RS.out R3.out) (by kernel_rfl) ?_
   rintro v1 W24 hb1 ⟨Ls, LA, Lc, Ln, LB, Ld, Lm, rfl, hr1⟩
   refine hK.out _ _ ?_ ?_
   · exact HB.out.ext hb1
   clear hK K
   (try simp only [Act.put, gL])
   replace HB := Lib.hid (HB.out.ext hb1)
   replace RS := Lib.hid (RS.out.ext hb1)
   replace RP := Lib.hid (RP.out.ext hb1)
   replace H27 := Lib.hid (H27.out.ext hb1)
   replace R3 := Lib.hid (R3.out.ext hb1)
   replace hbw := nT hbw hb1
   have R4 := Lib.hid hr1
   clear hr1
   clear hb1
   refine hr_yes (v := ?_) rfl (by kernel_rfl) (fun W hW => ?_) ?_; rotate_left; (go_simp; try with_reducible rfl)
   (try simp only [Act.put, gL])
   refine hr_yes (v := ?_) rfl (by kernel_rfl) (fun W hW => ?_) ?_; rotate_left; (go_simp; try with_reducible rfl)
   (try simp only [Act.put, gL])
   refine hr_yes (v := ?_) rfl (by kernel_rfl) (fun W hW => ?_) ?_; rotate_left; (go_simp; try with_reducible rfl)
   (try simp only [Act.put, gL])
  rotate_left 1
  exact trivial
  all_goals
   refine hr_one rfl (by kernel_rfl) (fun K hK => ?_)
   have q0 := H27.out.cell 0 _ rfl
   have f0 := H27.out.frozen 0
   have q1 := H27.out.cell 1 _ rfl
   have f1 := H27.out.frozen 1
   have q2 := H27.out.cell 2 _ rfl
   have f2 := H27.out.frozen 2
   go_simp
   refine hK.out _ _ ?_ ?_
   · exact (((HB.out.set (p := ⟨bH27, 0, none⟩) _ (by simp <;> omega)).set (p := ⟨bH27, 1, none⟩) _ (by simp <;> omega)).set (p := ⟨bH27, 2, none⟩) _ (by simp <;> omega))
   clear hK K
   (try simp only [Act.put, gL])
   replace HB := Lib.hid (HB.out.set (p := ⟨bH27, 0, none⟩) (.bool Ls) (by simp <;> omega))
   replace RS := Lib.hid (RS.out.set (x := .bool Ls) q0 rfl)
   replace RP := Lib.hid (RP.out.set (x := .bool Ls) q0 rfl)
   replace H27 := Lib.hid (H27.out.set 0 (.bool Ls))
   replace R3 := Lib.hid (R3.out.set (x := .bool Ls) q0 rfl)
   replace R4 := Lib.hid (R4.out.set (x := .bool Ls) q0 rfl)
   replace hbw := Below.setCell hbw (show w.heap.size ≤ (⟨bH27, 0, none⟩ : Addr).block by simp <;> omega) (.bool Ls)
   replace q1 := (World.cell?_setCell_other W24 ⟨bH27, 0, none⟩ ⟨bH27, 1, none⟩ (.bool Ls) (by simp)).trans q1
   replace q2 := (World.cell?_setCell_other W24 ⟨bH27, 0, none⟩ ⟨bH27, 2, none⟩ (.bool Ls) (by simp)).trans q2
   replace HB := Lib.hid (HB.out.set (p := ⟨bH27, 1, none⟩) (.slice LA Ln Lc) (by simp <;> omega))
   replace RS := Lib.hid (RS.out.set (x := .slice LA Ln Lc) q1 rfl)
   replace RP := Lib.hid (RP.out.set (x := .slice LA Ln Lc) q1 rfl)
   replace H27 := Lib.hid (H27.out.set 1 (.slice LA Ln Lc))
   replace R3 := Lib.hid (R3.out.set (x := .slice LA Ln Lc) q1 rfl)
   replace R4 := Lib.hid (R4.out.set (x := .slice LA Ln Lc) q1 rfl)
   replace hbw := Below.setCell hbw (show w.heap.size ≤ (⟨bH27, 1, none⟩ : Addr).block by simp <;> omega) (.slice LA Ln Lc)
   replace q2 := (World.cell?_setCell_other (W24.setCell ⟨bH27, 0, none⟩ (.bool Ls)) ⟨bH27, 1, none⟩ ⟨bH27, 2, none⟩ (.slice LA Ln Lc) (by simp)).trans q2
   replace HB := Lib.hid (HB.out.set (p := ⟨bH27, 2, none⟩) (.slice LB Lm Ld) (by simp <;> omega))
   replace RS := Lib.hid (RS.out.set (x := .slice LB Lm Ld) q2 rfl)
   replace RP := Lib.hid (RP.out.set (x := .slice LB Lm Ld) q2 rfl)
   replace H27 := Lib.hid (H27.out.set 2 (.slice LB Lm Ld))
   replace R3 := Lib.hid (R3.out.set (x := .slice LB Lm Ld) q2 rfl)
   replace R4 := Lib.hid (R4.out.set (x := .slice LB Lm Ld) q2 rfl)
   replace hbw := Below.setCell hbw (show w.heap.size ≤ (⟨bH27, 2, none⟩ : Addr).block by simp <;> omega) (.slice LB Lm Ld)
   clear q0 f0 q1 f1 q2 f2
   replace H27 : Hid (Own _ _ _ [.bool Ls, .slice LA Ln Lc, .slice LB Lm Ld]) := H27
   generalize (((W24.setCell ⟨bH27, 0, none⟩ (.bool Ls)).setCell ⟨bH27, 1, none⟩ (.slice LA Ln Lc)).setCell ⟨bH27, 2, none⟩ (.slice LB Lm Ld)) = W25 at HB RS RP H27 R3 R4 hbw ⊢
   refine hr_one rfl (by kernel_rfl) (fun K hK => ?_)
   go_simp
   refine hK.out _ _ ?_ ?_
   · exact HB.out
   clear hK K
   (try simp only [Act.put, gL])
   refine hr_done ?_
   go_wp2
   go_meet
   exact ⟨bH27, Ls, LA, Lc, Ln, LB, Ld, Lm, rfl, hbw, HB.out, RS.out, RP.out, R4.out, H27.out, by omega, by omega⟩
 obtain ⟨bH27, Ls, LA, Lc, Ln, LB, Ld, Lm, rfl, hbw, h_HB, h_RS, h_RP, h_R4, h_H27, z_H27_H21, z_H27_H19⟩ := hcut
 try clear HB RS RP R4 H27
 have HB := Lib.hid h_HB
 clear h_HB
 have RS := Lib.hid h_RS
 clear h_RS
 have RP := Lib.hid h_RP
 clear h_RP
 have R4 := Lib.hid h_R4
 clear h_R4
 have H27 := Lib.hid h_H27
 clear h_H27
 replace HB := Lib.hid (Cells.cons (H27.out.cell 2 _ rfl) HB.out)
 replace HB := Lib.hid (Cells.cons (H27.out.cell 1 _ rfl) HB.out)
 replace HB := Lib.hid (Cells.cons (H27.out.cell 0 _ rfl) HB.out)
 obtain ⟨y0, y1, y2, y3, y4, y5, y6, y7, y8, _⟩ := id HB.out
 go_wp2_with fail
 clear y0 y1 y2 y3 y4 y5 y6 y7 y8
 refine (HCM.out _ _ _ R4.out RP.out).mono ?_
 rintro e W26 ⟨v1, rfl, hb1, rfl⟩
 replace HB := Lib.hid (HB.out.ext hb1)
 replace RS := Lib.hid (RS.out.ext hb1)
 replace RP := Lib.hid (RP.out.ext hb1)
 replace R4 := Lib.hid (R4.out.ext hb1)
 replace hbw := nT hbw hb1
 clear hb1
 obtain ⟨y0, y1, y2, y3, y4, y5, y6, y7, y8, _⟩ := id HB.out
 go_wp2_with fail
 clear y0 y1 y2 y3 y4 y5 y6 y7 y8
 refine (HIS.out _ _ RP.out).mono ?_
 rintro e W27 ⟨v1, rfl, hb1, rfl⟩
 replace HB := Lib.hid (HB.out.ext hb1)
 replace RS := Lib.hid (RS.out.ext hb1)
 replace RP := Lib.hid (RP.out.ext hb1)
 replace R4 := Lib.hid (R4.out.ext hb1)
 replace hbw := nT hbw hb1
 clear hb1
 go_wp2_with fail
 go_ret
 exact ⟨_, rfl, Below.trans HBW0.out (Below.mono hbw HBW0.out.size), rfl⟩
end Go.Proofs.Ytlaocmhcilhlbaa
