/- whole.nearer: the walk. -/
import Derived.Test.YtadpjidakippeaaGreatY08
import Derived.Test.YtadpjidakippeaaGreatY02
set_option linter.unusedVariables false
set_option linter.unusedSimpArgs false
namespace Go.Proofs.YtadpjidakippeaaGreat
open Go.RowKit
def NearSaid (w' : World) (v : Value) (x y : Nat) : Prop := ∃ q r x' y', v = .tuple #[q, r] ∧ rNat w' q x' ∧ rNat w' r y' ∧ Nat.gcd x' y' = Nat.gcd x y ∧ y' ≤ x' ∧ y' < y ∧ x' ≤ x
/-- The pair that is looked at: X, Y of the loop's law; the rest of a state. -/
def NearP (x y k : Nat) (a b m0 m1 m2 m3 : Int) : Prop := (k ≤ 65536 → LehI ((2 ^ k : Nat) : Int) (topI x k) (topI y k) x y (Nat.gcd x y) a b m0 m1 m2 m3) ∧ I64 a ∧ I64 b ∧ I64 m0 ∧ I64 m1 ∧ I64 m2 ∧ I64 m3
theorem NearP.step {x y k : Nat} {a b m0 m1 m2 m3 n : Int} (hk : bl x = k + 62) (hyx : y ≤ x) (h : NearP x y k a b m0 m1 m2 m3) (hu : W64 (b + m2) ≠ 0) (hv : W64 (b + m3) ≠ 0)
  (hn : W64 (Int.tdiv (W64 (a + m0)) (W64 (b + m2))) = n) (hn' : W64 (Int.tdiv (W64 (a + m1)) (W64 (b + m3))) = n) :
  NearP x y k b (W64 (a - W64 (n * b))) m2 m3 (W64 (m0 - W64 (n * m2))) (W64 (m1 - W64 (n * m3))) := by
 obtain ⟨h0, h1, h2, h3, h4, h5, h6⟩ := h
 refine ⟨fun hk2 => ?_, h2, W64_in _, h5, h6, W64_in _, W64_in _⟩
 obtain ⟨e1, e2⟩ := bits_shift hk
 have e3 : y / 2 ^ k ≤ x / 2 ^ k := Nat.div_le_div_right hyx
 refine (h0 hk2).step (by exact_mod_cast Nat.pow_pos (by decide)) ?_ ?_ hu hv hn.symm hn'.symm
 · rw [topI_eq hk2 e1]; generalize x / 2 ^ k = A at *; omega
 · rw [topI_eq hk2 (Nat.lt_of_le_of_lt e3 e1)]; generalize x / 2 ^ k = A at *; generalize y / 2 ^ k = B at *; omega
theorem NearM.sets {w wr : World} {S M : Nat} {vx vy : Value} {m0 m1 m2 m3 : Int} (h : NearM w S M vx vy m0 m1 m2 m3 wr) (n0 n1 n2 n3 : Int) :
  NearM w S M vx vy n0 n1 n2 n3 ((((wr.setCell ⟨M, 0, none⟩ (.int .i64 n0)).setCell ⟨M, 1, none⟩ (.int .i64 n1)).setCell ⟨M, 2, none⟩ (.int .i64 n2)).setCell ⟨M, 3, none⟩ (.int .i64 n3)) := by
 have sm := h.sm
 refine ⟨?_, ?_, ?_, ?_, (((h.om.set 0 _).set 1 _).set 2 _).set 3 _, sm⟩
 · exact (((h.be.setCell (by simp <;> omega) _).setCell (by simp <;> omega) _).setCell (by simp <;> omega) _).setCell (by simp <;> omega) _
 · exact (((h.bx.other _ (by simp <;> omega) (by simp <;> omega)).other _ (by simp <;> omega) (by simp <;> omega)).other _ (by simp <;> omega) (by simp <;> omega)).other _ (by simp <;> omega) (by simp <;> omega)
 · exact (((h.o4.other _ (by simp <;> omega)).other _ (by simp <;> omega)).other _ (by simp <;> omega)).other _ (by simp <;> omega)
 · exact (((h.o5.other _ (by simp <;> omega)).other _ (by simp <;> omega)).other _ (by simp <;> omega)).other _ (by simp <;> omega)
theorem w64_is (z : Int) : Go.RowKit.wrap64 z = W64 z := (IntWalk.i64_left z).symm
structure Near12 (S M : Nat) (vx vy : Value) (m0 m1 m2 m3 : Int) (W : World) : Prop where
 bx : Box11 S (S + 1) vx vy W
 c0 : W.cell? ⟨M, 0, none⟩ = some (.int .i64 m0)
 c1 : W.cell? ⟨M, 1, none⟩ = some (.int .i64 m1)
 c2 : W.cell? ⟨M, 2, none⟩ = some (.int .i64 m2)
 c3 : W.cell? ⟨M, 3, none⟩ = some (.int .i64 m3)
theorem Near12.ext {S M : Nat} {vx vy : Value} {m0 m1 m2 m3 : Int} {W W' : World} (h : Near12 S M vx vy m0 m1 m2 m3 W) (he : Ext W W') : Near12 S M vx vy m0 m1 m2 m3 W' :=
 ⟨h.bx.ext he, ext_cell he h.c0, ext_cell he h.c1, ext_cell he h.c2, ext_cell he h.c3⟩
theorem Near12.other {S M : Nat} {vx vy : Value} {m0 m1 m2 m3 : Int} {W : World} (h : Near12 S M vx vy m0 m1 m2 m3 W) {p : Addr} (v : Value) (ha : p.block ≠ S) (hb : p.block ≠ S + 1) (hm : p.block ≠ M) : Near12 S M vx vy m0 m1 m2 m3 (W.setCell p v) :=
 ⟨h.bx.other v ha hb, (nC _ _ _ _ (fun e => hm (congrArg Addr.block e))).trans h.c0, (nC _ _ _ _ (fun e => hm (congrArg Addr.block e))).trans h.c1, (nC _ _ _ _ (fun e => hm (congrArg Addr.block e))).trans h.c2, (nC _ _ _ _ (fun e => hm (congrArg Addr.block e))).trans h.c3⟩
theorem near_end {x y k : Nat} {a b m0 m1 m2 m3 : Int} {w' : World} {q r : Value} (h1 : m1 ≠ 0) (hk : k ≤ 65536) (hp : NearP x y k a b m0 m1 m2 m3) (hyx : y ≤ x)
  (hq : rNat w' q (m0 * x + m1 * y).natAbs) (hr : rNat w' r (m2 * x + m3 * y).natAbs) : NearSaid w' (.tuple #[q, r]) x y := by
 obtain ⟨X, Y, hX, hY, _, hY0, hYX, hg, hm, hyy, hXX⟩ := (hp.1 hk).ex
 rw [← hX] at hq
 rw [← hY] at hr
 refine ⟨q, r, _, _, rfl, hq, hr, hg, by omega, ?_, by omega⟩
 rcases hm with hm | hm
 · exact absurd hm h1
 · omega
theorem two_ones {w1 : World} {b b' : Nat} {t t' : TypeId} {x0 y0 x y : Value} (h : Own w1 b t [x0]) (h' : Own w1 b' t' [y0]) (hne : b ≠ b') (h0 : noInt x0 = true) (h2 : noInt y0 = true) :
  (((w1.setCell ⟨b, 0, none⟩ x).setCell ⟨b', 0, none⟩ y).cell? ⟨b, 0, none⟩ = some x ∧ ((w1.setCell ⟨b, 0, none⟩ x).setCell ⟨b', 0, none⟩ y).cell? ⟨b', 0, none⟩ = some y) ∧ ∀ v n, rNat w1 v n → rNat ((w1.setCell ⟨b, 0, none⟩ x).setCell ⟨b', 0, none⟩ y) v n := by
 have k1 := h.set 0 x
 have k2 := k1.other (p := ⟨b', 0, none⟩) y hne
 have l1 := h'.other (p := ⟨b, 0, none⟩) x (Ne.symm hne)
 have l2 := l1.set 0 y
 exact ⟨⟨k2.cell 0 x rfl, l2.cell 0 y rfl⟩, fun v n hv => (hv.set (h.cell 0 x0 rfl) h0).set (l1.cell 0 y0 rfl) h2⟩
set_option maxRecDepth 100000 in
set_option maxHeartbeats 4000000 in
theorem nearer_c (w : World) (vx vy : Value) (x y : Nat) (hx : rNat w vx x) (hy : rNat w vy y) (fx : bl x ≤ 35184372088700) (hyx : y ≤ x) (hbig : B64 ≤ y) :
  Calls Tryz.prog 109 #[vx, vy] w (Post w fun r w' => NearSaid w' r x y) := by
 obtain ⟨A, c, n, rfl, hx⟩ := hx.shape
 obtain ⟨A2, c2, n2, rfl, hy⟩ := hy.shape
 have hb65 : 65 ≤ bl x := by
  rcases Nat.lt_or_ge (bl x) 65 with h | h
  ·
   have h1 := bl_lt x
   have h2 : 2 ^ bl x ≤ 2 ^ 64 := Nat.pow_le_pow_right (by decide) (by omega)
   rw [← B64_pow] at h2
   omega
  · exact h
 obtain ⟨k, hk⟩ : ∃ k, bl x = k + 62 := ⟨bl x - 62, by omega⟩
 have hk3 : 3 ≤ k := by omega
 have ffx : Fit x := Nat.le_trans fx (by omega)
 have fy : bl y ≤ 35184372088700 := Nat.le_trans (bl_mono hyx) fx
 have ffy : Fit y := Nat.le_trans fy (by omega)
 have hkb : k ≤ 35184372088700 := by omega
 have HBT := Lib.hid (fun W h => bits_c W (.agg #[.slice A n c]) x h ffx)
 rw [hk] at HBT
 have hk62 : (((k + 62 : Nat) : Int) - 62) = (k : Int) := by omega
 have hkw : IntKind.i64.wrap (((k + 62 : Nat) : Int) - 62) = (k : Int) := by rw [hk62]; exact i64w (by omega) (by omega)
 have hkw2 : IntKind.i64.wrap ((k : Int) + 62 - 62) = (k : Int) := by rw [show (k : Int) + 62 - 62 = k by omega]; exact i64w (by omega) (by omega)
 have HTX := Lib.hid (fun W h => top_c W (.agg #[.slice A n c]) x k h ffx (by omega) (by omega))
 have HTY := Lib.hid (fun W h => top_c W (.agg #[.slice A2 n2 c2]) y k h ffy (by omega) (by omega))
 have HDV := Lib.hid (fun W h h' => div_n W (.agg #[.slice A n c]) (.agg #[.slice A2 n2 c2]) x y h h' ffx ffy)
 have HMX := Lib.hid (fun W p q h h' hp hq => mixed_c W (.agg #[.slice A n c]) (.agg #[.slice A2 n2 c2]) p q x y h h' hp hq fx fy)
 have HST := Lib.hid (fun h => LehI.start hyx hk h)
 have HK := Lib.hid hk
 have HXY := Lib.hid hyx
 have HBG := Lib.hid hbig
 have H1 := Lib.hid hx
 have H2 := Lib.hid hy
 have HB0 : Hid (Box11 w.heap.size (w.heap.size + 1) (.slice A n c) (.slice A2 n2 c2) ((((w.alloc (.cells #[.slice A n c] 28)).alloc (.cells #[.slice A2 n2 c2] 28)).alloc (.cells #[.slice none 0 0] 28)).alloc (.cells #[.slice none 0 0] 28))) := ⟨by go_simp, by go_simp⟩
 have HO4 := Lib.hid ((Own.new' ((w.alloc (.cells #[.slice A n c] 28)).alloc (.cells #[.slice A2 n2 c2] 28)) 28 [.slice none 0 0] (w.heap.size + 1 + 1) (by simp)).alloc (.cells #[.slice none 0 0] 28))
 have HO5 := Lib.hid (Own.new' (((w.alloc (.cells #[.slice A n c] 28)).alloc (.cells #[.slice A2 n2 c2] 28)).alloc (.cells #[.slice none 0 0] 28)) 28 [.slice none 0 0] (w.heap.size + 1 + 1 + 1) (by simp))
 have hbw : Below w.heap.size w ((((w.alloc (.cells #[.slice A n c] 28)).alloc (.cells #[.slice A2 n2 c2] 28)).alloc (.cells #[.slice none 0 0] 28)).alloc (.cells #[.slice none 0 0] 28)) := (by repeat (first | assumption | exact nB1 _ _ | refine nB2 ?_ | refine pw_below_drewN ?_ _ | refine nB3 ?_ (by first | omega | (simp <;> omega)) _ | refine nB4 ?_ (by first | omega | (simp <;> omega)) _ | refine nB5 ?_ (by assumption) (by first | omega | (simp <;> omega))))
 clear hx hy hb65 hk fx fy ffx ffy hyx hbig
 go_enter Tryz.func109, Tryz.ntmps109
 go_wp2_with fail
 refine (HBT.out _ (H1.out.ext hbw)).mono ?_
 rintro e w1 ⟨v1, rfl, hb1, rfl⟩
 replace HB0 := Lib.hid (HB0.out.ext (Below.drew hb1))
 replace HO4 := Lib.hid (HO4.out.ext hb1).drew
 replace HO5 := Lib.hid (HO5.out.ext hb1).drew
 replace hbw := (nT hbw hb1).drew
 clear hb1
 go_wp2_with fail
 refine wp_hoist [(0, true), (1, true), (3, true), (4, true), (2, false), (5, false), (6, false), (7, false)] (Box11 w.heap.size (w.heap.size + 1) (.slice A n c) (.slice A2 n2 c2)) (by kernel_rfl) (by kernel_rfl) ?_ ?_
 · exact HB0.out
 refine hz_yes (v := ?_) rfl (by kernel_rfl) (fun W hW => ?_) ?_; rotate_left; (obtain ⟨y1, y2⟩ := hW; go_simp; try with_reducible rfl)
 (try (conv => arg 6; simp only [Act.put, gL]))
 refine hz_yes (v := ?_) rfl (by kernel_rfl) (fun W hW => ?_) ?_; rotate_left; (go_simp; try with_reducible rfl)
 (try (conv => arg 6; simp only [Act.put, gL]))
 refine hz_yes (v := ?_) rfl (by kernel_rfl) (fun W hW => ?_) ?_; rotate_left; (obtain ⟨y1, y2⟩ := hW; go_simp; try with_reducible rfl)
 (try (conv => arg 6; simp only [Act.put, gL]))
 refine hz_yes (v := ?_) rfl (by kernel_rfl) (fun W hW => ?_) ?_; rotate_left; (go_simp; try with_reducible rfl)
 (try (conv => arg 6; simp only [Act.put, gL]))
 refine hz_eff rfl (by kernel_rfl) (fun K hK => ?_)
 go_simp
 refine (HTX.out _ (H1.out.ext hbw)).mono ?_
 rintro e wq ⟨v1, rfl, hb1, rfl⟩
 refine hK.out _ _ ?_ ?_
 · exact HB0.out.ext hb1
 clear hK K
 (try (conv => arg 6; simp only [Act.put, gL]))
 replace HB0 := Lib.hid (HB0.out.ext hb1)
 replace HO4 := Lib.hid (HO4.out.ext hb1)
 replace HO5 := Lib.hid (HO5.out.ext hb1)
 replace hbw := nT hbw hb1
 clear hb1
 refine hz_eff rfl (by kernel_rfl) (fun K hK => ?_)
 go_simp
 refine (HTY.out _ (H2.out.ext hbw)).mono ?_
 rintro e wq ⟨v1, rfl, hb1, rfl⟩
 refine hK.out _ _ ?_ ?_
 · exact HB0.out.ext hb1
 clear hK K
 (try (conv => arg 6; simp only [Act.put, gL]))
 replace HB0 := Lib.hid (HB0.out.ext hb1)
 replace HO4 := Lib.hid (HO4.out.ext hb1)
 replace HO5 := Lib.hid (HO5.out.ext hb1)
 replace hbw := nT hbw hb1
 clear hb1
 refine hz_eff rfl (by kernel_rfl) (fun K hK => ?_)
 go_simp
 refine hK.out _ _ ?_ ?_
 · exact HB0.out
 clear hK K
 (try (conv => arg 6; simp only [Act.put, gL]))
 refine hz_eff rfl (by kernel_rfl) (fun K hK => ?_)
 go_simp
 refine hK.out _ _ ?_ ?_
 · exact HB0.out
 clear hK K
 (try (conv => arg 6; simp only [Act.put, gL]))
 refine hz_nil ?_
 have z1 := HO5.out.lt
 have HIN : Hid (NearIn w w.heap.size wq.heap.size (.slice A n c) (.slice A2 n2 c2) (NearP x y k) (.int .i64 (topI x k)) (.int .i64 (topI y k)) (wq.alloc (.cells #[.int .i64 1, .int .i64 0, .int .i64 0, .int .i64 1] 166))) :=
  ⟨_, _, _, _, _, _, rfl, rfl, ⟨hbw.alloc hbw.size _, HB0.out.ext (ext_alloc _ _), HO4.out.alloc _, HO5.out.alloc _, Own.new wq 166 [.int .i64 1, .int .i64 0, .int .i64 0, .int .i64 1], z1⟩, fun h => HST.out h, topI_in _ _, topI_in _ _, ⟨by omega, by omega⟩, ⟨by omega, by omega⟩, ⟨by omega, by omega⟩, ⟨by omega, by omega⟩⟩
 go_upto_block 0 with (fail)
 go_cut [7, 8] (fun ta tb W => NearIn w w.heap.size wq.heap.size (.slice A n c) (.slice A2 n2 c2) (NearP x y k) ta tb W)
 case first =>
  clear HB0 HO4 HO5 hbw z1
  go_wp2_with fail
  go_loopw [7, 8] (fun ta tb W => NearIn w w.heap.size wq.heap.size (.slice A n c) (.slice A2 n2 c2) (NearP x y k) ta tb W) (fun ta tb W => (W64 (intOf tb + intOf ((W.cell? ⟨wq.heap.size, 2, none⟩).getD undef))).natAbs)
  case atStart => exact HIN.out
  case round =>
   obtain ⟨a, b, m0, m1, m2, m3, rfl, rfl, hm, hp⟩ := hrel
   have HM := Lib.hid hm
   have HP := Lib.hid hp
   have q0 := hm.om.cell 0 _ rfl
   have q1 := hm.om.cell 1 _ rfl
   have q2 := hm.om.cell 2 _ rfl
   have q3 := hm.om.cell 3 _ rfl
   have f0 := hm.om.frozen 0
   have f1 := hm.om.frozen 1
   have f2 := hm.om.frozen 2
   have f3 := hm.om.frozen 3
   obtain ⟨u, eu⟩ : ∃ u, IntKind.i64.wrap (b + m2) = u := ⟨_, rfl⟩
   obtain ⟨v, ev⟩ : ∃ v, IntKind.i64.wrap (b + m3) = v := ⟨_, rfl⟩
   obtain ⟨p, ep⟩ : ∃ p, IntKind.i64.wrap (a + m0) = p := ⟨_, rfl⟩
   obtain ⟨q, eq⟩ : ∃ q, IntKind.i64.wrap (a + m1) = q := ⟨_, rfl⟩
   obtain ⟨nn, en⟩ : ∃ z, IntKind.i64.wrap (Int.tdiv p u) = z := ⟨_, rfl⟩
   obtain ⟨nq, en2⟩ : ∃ z, IntKind.i64.wrap (Int.tdiv q v) = z := ⟨_, rfl⟩
   clear hm hp
   by_cases hu : u = 0
   ·
    subst hu
    go_wp2_with fail
    go_meet
    exact ⟨a, b, m0, m1, m2, m3, rfl, rfl, HM.out, HP.out⟩
   ·
    have hub : (u == 0) = false := by rw [beq_eq_false_iff_ne]; exact hu
    have hub2 : (u != 0) = true := by rw [bne_iff_ne]; exact hu
    by_cases hv : v = 0
    ·
     subst hv
     go_wp2_with fail
     go_meet
     exact ⟨a, b, m0, m1, m2, m3, rfl, rfl, HM.out, HP.out⟩
    ·
     have hvb : (v == 0) = false := by rw [beq_eq_false_iff_ne]; exact hv
     have hvb2 : (v != 0) = true := by rw [bne_iff_ne]; exact hv
     by_cases hnn : nn = nq
     ·
      subst hnn
      go_wp2_with fail
      go_roundw
      case rel =>
       simp only [w64_is]
       exact ⟨_, _, _, _, _, _, rfl, rfl, HM.out.sets _ _ _ _, NearP.step HK.out HXY.out HP.out (by show IntKind.i64.wrap _ ≠ 0; rw [eu]; exact hu) (by show IntKind.i64.wrap _ ≠ 0; rw [ev]; exact hv) (by show IntKind.i64.wrap (Int.tdiv (IntKind.i64.wrap _) (IntKind.i64.wrap _)) = _; rw [ep, eu]; exact en) (by show IntKind.i64.wrap (Int.tdiv (IntKind.i64.wrap _) (IntKind.i64.wrap _)) = _; rw [eq, ev]; exact en2)⟩
      case measure =>
       simp only [w64_is]
       rw [(HM.out.sets m2 m3 (W64 (m0 - W64 (nn * m2))) (W64 (m1 - W64 (nn * m3)))).om.cell 2 _ rfl, HM.out.om.cell 2 _ rfl]
       exact lehmer_falls (by show IntKind.i64.wrap _ ≠ 0; rw [eu]; exact hu) (by show _ = IntKind.i64.wrap (Int.tdiv (IntKind.i64.wrap _) (IntKind.i64.wrap _)); rw [ep, eu]; exact en.symm)
     ·
      have hnb : (nn == nq) = false := by rw [beq_eq_false_iff_ne]; exact hnn
      have hnb2 : (nn != nq) = true := by rw [bne_iff_ne]; exact hnn
      go_wp2_with fail
      all_goals go_meet
      all_goals exact ⟨a, b, m0, m1, m2, m3, rfl, rfl, HM.out, HP.out⟩
 case rest =>
  clear HB0 HO4 HO5 hbw z1 HIN
  obtain ⟨a, b, m0, m1, m2, m3, rfl, rfl, hm, hp⟩ := hcut
  have HM := Lib.hid hm
  have HP := Lib.hid hp
  have q1 := hm.om.cell 1 _ rfl
  have hbx := hm.bx
  obtain ⟨y1, y2⟩ := hbx
  clear hm hp
  by_cases h1 : m1 = 0
  ·
   subst h1
   go_wp2_with fail
   refine (HDV.out _ (H1.out.ext HM.out.be) (H2.out.ext HM.out.be)).mono ?_
   rintro e w4 ⟨v4, rfl, hb4, q, r, rfl, hq, hr⟩
   obtain ⟨A3, c3, n3, rfl, hq⟩ := hq.shape
   obtain ⟨A4, c4, n4, rfl, hr⟩ := hr.shape
   have HB4 := Lib.hid (HM.out.bx.ext hb4)
   have HO4 := Lib.hid (HM.out.o4.ext hb4)
   have HO5 := Lib.hid (HM.out.o5.ext hb4)
   have hbw := Below.trans HM.out.be (Below.mono hb4 HM.out.be.size)
   have HR := Lib.hid hr
   have z1 := HO5.out.lt
   have z2 : w.heap.size + 1 + 1 < w4.heap.size := by omega
   have z3 : w.heap.size + 1 < w4.heap.size := by omega
   have z4 : w.heap.size < w4.heap.size := by omega
   clear hq hr hb4 y1 y2 q1
   obtain ⟨y1, y2⟩ := id HB4.out
   go_wp2_with fail
   have hbw2 : Below w.heap.size w ((w4.alloc (.cells #[.slice A3 n3 c3] 28)).alloc (.cells #[.slice A4 n4 c4] 28)) := ((hbw.alloc hbw.size _).alloc (by have := hbw.size; simp <;> omega) _)
   have HX := Lib.hid ((HO4.out.alloc (.cells #[.slice A3 n3 c3] 28)).alloc (.cells #[.slice A4 n4 c4] 28))
   have HY := Lib.hid ((HO5.out.alloc (.cells #[.slice A3 n3 c3] 28)).alloc (.cells #[.slice A4 n4 c4] 28))
   have HBX : Hid (Box11 (w.heap.size + 1) (w4.heap.size + 1) (.slice A2 n2 c2) (.slice A4 n4 c4) ((w4.alloc (.cells #[.slice A3 n3 c3] 28)).alloc (.cells #[.slice A4 n4 c4] 28)).drew) := ⟨by go_simp, by go_simp⟩
   have HR5 := Lib.hid ((HR.out.ext (ext_alloc _ (.cells #[.slice A3 n3 c3] 28))).ext (ext_alloc _ (.cells #[.slice A4 n4 c4] 28)))
   have z5 : w.heap.size + 1 + 1 + 1 < w4.heap.size + 1 := by omega
   clear y1 y2
   generalize ((w4.alloc (.cells #[.slice A3 n3 c3] 28)).alloc (.cells #[.slice A4 n4 c4] 28)) = W4 at HBX HX HY HR5 hbw2 ⊢
   have hq0 := HX.out.cell 0 _ rfl
   have hf0 := HX.out.frozen 0
   have hr0 := HY.out.cell 0 _ rfl
   have hg0 := HY.out.frozen 0
   refine wp_hoist [(0, true), (1, true), (2, false), (3, false)] (Box11 (w.heap.size + 1) (w4.heap.size + 1) (.slice A2 n2 c2) (.slice A4 n4 c4)) (by kernel_rfl) (by kernel_rfl) ?_ ?_
   · exact HBX.out
   refine hz_yes (v := ?_) rfl (by kernel_rfl) (fun W hW => ?_) ?_; rotate_left; (obtain ⟨y1, y2⟩ := hW; go_simp; try with_reducible rfl)
   (try (conv => arg 6; simp only [Act.put, gL]))
   refine hz_yes (v := ?_) rfl (by kernel_rfl) (fun W hW => ?_) ?_; rotate_left; (obtain ⟨y1, y2⟩ := hW; go_simp; try with_reducible rfl)
   (try (conv => arg 6; simp only [Act.put, gL]))
   refine hz_eff rfl (by kernel_rfl) (fun K hK => ?_)
   go_simp
   refine hK.out _ _ ?_ ?_
   · exact HBX.out.other (p := ⟨w.heap.size + 1 + 1, 0, none⟩) _ (by simp <;> omega) (by simp <;> omega)
   clear hK K
   (try (conv => arg 6; simp only [Act.put, gL]))
   refine hz_eff rfl (by kernel_rfl) (fun K hK => ?_)
   go_simp
   refine hK.out _ _ ?_ ?_
   · exact (HBX.out.other (p := ⟨w.heap.size + 1 + 1, 0, none⟩) _ (by simp <;> omega) (by simp <;> omega)).other (p := ⟨w.heap.size + 1 + 1 + 1, 0, none⟩) _ (by simp <;> omega) (by simp <;> omega)
   clear hK K
   (try (conv => arg 6; simp only [Act.put, gL]))
   refine hz_nil ?_
   go_wp2
   have k0 := (HX.out.set 0 (.slice A2 n2 c2)).cell 0 _ rfl
   obtain ⟨⟨k1, k2⟩, k3⟩ := two_ones (x := .slice A2 n2 c2) (y := .slice A4 n4 c4) HX.out HY.out (by omega) rfl rfl
   refine bodyPost_ret (v := .tuple #[.agg #[.slice A2 n2 c2], .agg #[.slice A4 n4 c4]]) (by simp [results, Tryz.results109, go_sem, k0, k1, k2]) rfl ⟨_, rfl, (by repeat (first | assumption | exact nB1 _ _ | refine nB2 ?_ | refine pw_below_drewN ?_ _ | refine nB3 ?_ (by first | omega | (simp <;> omega)) _ | refine nB4 ?_ (by first | omega | (simp <;> omega)) _ | refine nB5 ?_ (by assumption) (by first | omega | (simp <;> omega)))), ?_⟩
   have hy0 : y ≠ 0 := by have := HBG.out; unfold B64 at this; omega
   rw [if_neg hy0] at HR5
   exact ⟨_, _, y, x % y, rfl, k3 _ _ (H2.out.ext hbw2), k3 _ _ HR5.out, by rw [Nat.gcd_comm x y, Nat.gcd_rec y x, Nat.gcd_comm], Nat.le_of_lt (Nat.mod_lt _ (by omega)), Nat.mod_lt _ (by omega), HXY.out⟩
  have h1b : (m1 == 0) = false := by rw [beq_eq_false_iff_ne]; exact h1
  have h1c : (m1 != 0) = true := by rw [bne_iff_ne]; exact h1
  by_cases hk6 : 65536 < k
  ·
   have hk7 : (65536 : Int) < (k : Int) := by omega
   go_wp2_with fail
   refine (HDV.out _ (H1.out.ext HM.out.be) (H2.out.ext HM.out.be)).mono ?_
   rintro e w4 ⟨v4, rfl, hb4, q, r, rfl, hq, hr⟩
   obtain ⟨A3, c3, n3, rfl, hq⟩ := hq.shape
   obtain ⟨A4, c4, n4, rfl, hr⟩ := hr.shape
   have HB4 := Lib.hid (HM.out.bx.ext hb4)
   have HO4 := Lib.hid (HM.out.o4.ext hb4)
   have HO5 := Lib.hid (HM.out.o5.ext hb4)
   have hbw := Below.trans HM.out.be (Below.mono hb4 HM.out.be.size)
   have HR := Lib.hid hr
   have z1 := HO5.out.lt
   have z2 : w.heap.size + 1 + 1 < w4.heap.size := by omega
   have z3 : w.heap.size + 1 < w4.heap.size := by omega
   have z4 : w.heap.size < w4.heap.size := by omega
   clear hq hr hb4 y1 y2 q1
   obtain ⟨y1, y2⟩ := id HB4.out
   go_wp2_with fail
   have hbw2 : Below w.heap.size w ((w4.alloc (.cells #[.slice A3 n3 c3] 28)).alloc (.cells #[.slice A4 n4 c4] 28)) := ((hbw.alloc hbw.size _).alloc (by have := hbw.size; simp <;> omega) _)
   have HX := Lib.hid ((HO4.out.alloc (.cells #[.slice A3 n3 c3] 28)).alloc (.cells #[.slice A4 n4 c4] 28))
   have HY := Lib.hid ((HO5.out.alloc (.cells #[.slice A3 n3 c3] 28)).alloc (.cells #[.slice A4 n4 c4] 28))
   have HBX : Hid (Box11 (w.heap.size + 1) (w4.heap.size + 1) (.slice A2 n2 c2) (.slice A4 n4 c4) ((w4.alloc (.cells #[.slice A3 n3 c3] 28)).alloc (.cells #[.slice A4 n4 c4] 28)).drew) := ⟨by go_simp, by go_simp⟩
   have HR5 := Lib.hid ((HR.out.ext (ext_alloc _ (.cells #[.slice A3 n3 c3] 28))).ext (ext_alloc _ (.cells #[.slice A4 n4 c4] 28)))
   have z5 : w.heap.size + 1 + 1 + 1 < w4.heap.size + 1 := by omega
   clear y1 y2
   generalize ((w4.alloc (.cells #[.slice A3 n3 c3] 28)).alloc (.cells #[.slice A4 n4 c4] 28)) = W4 at HBX HX HY HR5 hbw2 ⊢
   have hq0 := HX.out.cell 0 _ rfl
   have hf0 := HX.out.frozen 0
   have hr0 := HY.out.cell 0 _ rfl
   have hg0 := HY.out.frozen 0
   refine wp_hoist [(0, true), (1, true), (2, false), (3, false)] (Box11 (w.heap.size + 1) (w4.heap.size + 1) (.slice A2 n2 c2) (.slice A4 n4 c4)) (by kernel_rfl) (by kernel_rfl) ?_ ?_
   · exact HBX.out
   refine hz_yes (v := ?_) rfl (by kernel_rfl) (fun W hW => ?_) ?_; rotate_left; (obtain ⟨y1, y2⟩ := hW; go_simp; try with_reducible rfl)
   (try (conv => arg 6; simp only [Act.put, gL]))
   refine hz_yes (v := ?_) rfl (by kernel_rfl) (fun W hW => ?_) ?_; rotate_left; (obtain ⟨y1, y2⟩ := hW; go_simp; try with_reducible rfl)
   (try (conv => arg 6; simp only [Act.put, gL]))
   refine hz_eff rfl (by kernel_rfl) (fun K hK => ?_)
   go_simp
   refine hK.out _ _ ?_ ?_
   · exact HBX.out.other (p := ⟨w.heap.size + 1 + 1, 0, none⟩) _ (by simp <;> omega) (by simp <;> omega)
   clear hK K
   (try (conv => arg 6; simp only [Act.put, gL]))
   refine hz_eff rfl (by kernel_rfl) (fun K hK => ?_)
   go_simp
   refine hK.out _ _ ?_ ?_
   · exact (HBX.out.other (p := ⟨w.heap.size + 1 + 1, 0, none⟩) _ (by simp <;> omega) (by simp <;> omega)).other (p := ⟨w.heap.size + 1 + 1 + 1, 0, none⟩) _ (by simp <;> omega) (by simp <;> omega)
   clear hK K
   (try (conv => arg 6; simp only [Act.put, gL]))
   refine hz_nil ?_
   go_wp2
   have k0 := (HX.out.set 0 (.slice A2 n2 c2)).cell 0 _ rfl
   obtain ⟨⟨k1, k2⟩, k3⟩ := two_ones (x := .slice A2 n2 c2) (y := .slice A4 n4 c4) HX.out HY.out (by omega) rfl rfl
   refine bodyPost_ret (v := .tuple #[.agg #[.slice A2 n2 c2], .agg #[.slice A4 n4 c4]]) (by simp [results, Tryz.results109, go_sem, k0, k1, k2]) rfl ⟨_, rfl, (by repeat (first | assumption | exact nB1 _ _ | refine nB2 ?_ | refine pw_below_drewN ?_ _ | refine nB3 ?_ (by first | omega | (simp <;> omega)) _ | refine nB4 ?_ (by first | omega | (simp <;> omega)) _ | refine nB5 ?_ (by assumption) (by first | omega | (simp <;> omega)))), ?_⟩
   have hy0 : y ≠ 0 := by have := HBG.out; unfold B64 at this; omega
   rw [if_neg hy0] at HR5
   exact ⟨_, _, y, x % y, rfl, k3 _ _ (H2.out.ext hbw2), k3 _ _ HR5.out, by rw [Nat.gcd_comm x y, Nat.gcd_rec y x, Nat.gcd_comm], Nat.le_of_lt (Nat.mod_lt _ (by omega)), Nat.mod_lt _ (by omega), HXY.out⟩
  have hk7 : ¬ ((65536 : Int) < (k : Int)) := by omega
  have HN : Hid (Near12 w.heap.size wq.heap.size (.slice A n c) (.slice A2 n2 c2) m0 m1 m2 m3 wc.drew) := ⟨⟨HM.out.bx.a0, HM.out.bx.b0⟩, HM.out.om.cell 0 _ rfl, HM.out.om.cell 1 _ rfl, HM.out.om.cell 2 _ rfl, HM.out.om.cell 3 _ rfl⟩
  have HO4 := Lib.hid HM.out.o4.drew
  have HO5 := Lib.hid HM.out.o5.drew
  have hbw := HM.out.be.drew
  have z0 := HM.out.sm
  have z1 := HO5.out.lt
  obtain ⟨i0, i1, i2, i3⟩ := (⟨HP.out.2.2.2.1, HP.out.2.2.2.2.1, HP.out.2.2.2.2.2.1, HP.out.2.2.2.2.2.2⟩ : I64 m0 ∧ I64 m1 ∧ I64 m2 ∧ I64 m3)
  have HM1 := Lib.hid (fun W h h' => HMX.out W m0 m1 h h' i0 i1)
  have HM2 := Lib.hid (fun W h h' => HMX.out W m2 m3 h h' i2 i3)
  clear i0 i1 i2 i3
  go_wp2_with fail
  refine wp_hoist [(0, true), (1, true), (2, true), (3, true), (4, true), (5, true), (7, true), (8, true), (9, true), (10, true), (11, true), (12, true), (6, false), (13, false), (14, false), (15, false)] (Near12 w.heap.size wq.heap.size (.slice A n c) (.slice A2 n2 c2) m0 m1 m2 m3) (by kernel_rfl) (by kernel_rfl) ?_ ?_
  · exact HN.out
  refine hz_yes (v := ?_) rfl (by kernel_rfl) (fun W hW => ?_) ?_; rotate_left; (go_simp; try with_reducible rfl)
  (try (conv => arg 6; simp only [Act.put, gL]))
  refine hz_yes (v := ?_) rfl (by kernel_rfl) (fun W hW => ?_) ?_; rotate_left; (obtain ⟨⟨y1, y2⟩, x0, x1, x2, x3⟩ := hW; go_simp; try with_reducible rfl)
  (try (conv => arg 6; simp only [Act.put, gL]))
  refine hz_yes (v := ?_) rfl (by kernel_rfl) (fun W hW => ?_) ?_; rotate_left; (obtain ⟨⟨y1, y2⟩, x0, x1, x2, x3⟩ := hW; go_simp; try with_reducible rfl)
  (try (conv => arg 6; simp only [Act.put, gL]))
  refine hz_yes (v := ?_) rfl (by kernel_rfl) (fun W hW => ?_) ?_; rotate_left; (go_simp; try with_reducible rfl)
  (try (conv => arg 6; simp only [Act.put, gL]))
  refine hz_yes (v := ?_) rfl (by kernel_rfl) (fun W hW => ?_) ?_; rotate_left; (obtain ⟨⟨y1, y2⟩, x0, x1, x2, x3⟩ := hW; go_simp; try with_reducible rfl)
  (try (conv => arg 6; simp only [Act.put, gL]))
  refine hz_yes (v := ?_) rfl (by kernel_rfl) (fun W hW => ?_) ?_; rotate_left; (obtain ⟨⟨y1, y2⟩, x0, x1, x2, x3⟩ := hW; go_simp; try with_reducible rfl)
  (try (conv => arg 6; simp only [Act.put, gL]))
  refine hz_yes (v := ?_) rfl (by kernel_rfl) (fun W hW => ?_) ?_; rotate_left; (go_simp; try with_reducible rfl)
  (try (conv => arg 6; simp only [Act.put, gL]))
  refine hz_yes (v := ?_) rfl (by kernel_rfl) (fun W hW => ?_) ?_; rotate_left; (obtain ⟨⟨y1, y2⟩, x0, x1, x2, x3⟩ := hW; go_simp; try with_reducible rfl)
  (try (conv => arg 6; simp only [Act.put, gL]))
  refine hz_yes (v := ?_) rfl (by kernel_rfl) (fun W hW => ?_) ?_; rotate_left; (obtain ⟨⟨y1, y2⟩, x0, x1, x2, x3⟩ := hW; go_simp; try with_reducible rfl)
  (try (conv => arg 6; simp only [Act.put, gL]))
  refine hz_yes (v := ?_) rfl (by kernel_rfl) (fun W hW => ?_) ?_; rotate_left; (go_simp; try with_reducible rfl)
  (try (conv => arg 6; simp only [Act.put, gL]))
  refine hz_yes (v := ?_) rfl (by kernel_rfl) (fun W hW => ?_) ?_; rotate_left; (obtain ⟨⟨y1, y2⟩, x0, x1, x2, x3⟩ := hW; go_simp; try with_reducible rfl)
  (try (conv => arg 6; simp only [Act.put, gL]))
  refine hz_yes (v := ?_) rfl (by kernel_rfl) (fun W hW => ?_) ?_; rotate_left; (obtain ⟨⟨y1, y2⟩, x0, x1, x2, x3⟩ := hW; go_simp; try with_reducible rfl)
  (try (conv => arg 6; simp only [Act.put, gL]))
  refine hz_eff rfl (by kernel_rfl) (fun K hK => ?_)
  go_simp
  refine (HM1.out _ (H1.out.ext hbw) (H2.out.ext hbw)).mono ?_
  rintro e wq ⟨v1, rfl, hb1, hr1⟩
  refine hK.out _ _ ?_ ?_
  · exact HN.out.ext hb1
  clear hK K
  (try (conv => arg 6; simp only [Act.put, gL]))
  replace HN := Lib.hid (HN.out.ext hb1)
  replace HO4 := Lib.hid (HO4.out.ext hb1)
  replace HO5 := Lib.hid (HO5.out.ext hb1)
  replace hbw := nT hbw hb1
  obtain ⟨A3, c3, n3, rfl, hr1⟩ := hr1.shape
  have R1 := Lib.hid hr1
  clear hr1 hb1
  refine hz_eff rfl (by kernel_rfl) (fun K hK => ?_)
  go_simp
  refine (HM2.out _ (H1.out.ext hbw) (H2.out.ext hbw)).mono ?_
  rintro e wq ⟨v1, rfl, hb1, hr1⟩
  refine hK.out _ _ ?_ ?_
  · exact HN.out.ext hb1
  clear hK K
  (try (conv => arg 6; simp only [Act.put, gL]))
  replace HN := Lib.hid (HN.out.ext hb1)
  replace HO4 := Lib.hid (HO4.out.ext hb1)
  replace HO5 := Lib.hid (HO5.out.ext hb1)
  replace hbw := nT hbw hb1
  replace R1 := Lib.hid (R1.out.ext hb1)
  obtain ⟨A4, c4, n4, rfl, hr1⟩ := hr1.shape
  have R2 := Lib.hid hr1
  clear hr1 hb1
  have hq0 := HO4.out.cell 0 _ rfl
  have hf0 := HO4.out.frozen 0
  have hr0 := HO5.out.cell 0 _ rfl
  have hg0 := HO5.out.frozen 0
  refine hz_eff rfl (by kernel_rfl) (fun K hK => ?_)
  go_simp
  refine hK.out _ _ ?_ ?_
  · exact HN.out.other (p := ⟨w.heap.size + 1 + 1, 0, none⟩) _ (by simp <;> omega) (by simp <;> omega) (by simp <;> omega)
  clear hK K
  (try (conv => arg 6; simp only [Act.put, gL]))
  refine hz_eff rfl (by kernel_rfl) (fun K hK => ?_)
  go_simp
  refine hK.out _ _ ?_ ?_
  · exact (HN.out.other (p := ⟨w.heap.size + 1 + 1, 0, none⟩) _ (by simp <;> omega) (by simp <;> omega) (by simp <;> omega)).other (p := ⟨w.heap.size + 1 + 1 + 1, 0, none⟩) _ (by simp <;> omega) (by simp <;> omega) (by simp <;> omega)
  clear hK K
  (try (conv => arg 6; simp only [Act.put, gL]))
  refine hz_nil ?_
  go_wp2
  obtain ⟨⟨k1, k2⟩, k3⟩ := two_ones (x := .slice A3 n3 c3) (y := .slice A4 n4 c4) HO4.out HO5.out (by omega) rfl rfl
  refine bodyPost_ret (v := .tuple #[.agg #[.slice A3 n3 c3], .agg #[.slice A4 n4 c4]]) (by simp [results, Tryz.results109, go_sem, k1, k2]) rfl ⟨_, rfl, (by repeat (first | assumption | exact nB1 _ _ | refine nB2 ?_ | refine pw_below_drewN ?_ _ | refine nB3 ?_ (by first | omega | (simp <;> omega)) _ | refine nB4 ?_ (by first | omega | (simp <;> omega)) _ | refine nB5 ?_ (by assumption) (by first | omega | (simp <;> omega)))), ?_⟩
  exact near_end h1 (by omega) HP.out HXY.out (k3 _ _ R1.out) (k3 _ _ R2.out)
end Go.Proofs.YtadpjidakippeaaGreat

/- A region whose order is drawn, where two operations that act may come in either order: both orders are walked. -/
namespace Go.Proofs.YtadpjidakippeaaGreat
open Go.RowKit
section
variable {P : Program} {ops : Array Oper} {N : Act → World → Prop} {S : World → Prop}
/-- First all that yields, then two orders. -/
def wpT (P : Program) (ops : Array Oper) (N : Act → World → Prop) (S : World → Prop) (l1 l2 : List (Nat × Bool)) : List Nat → Act → World → Prop
 | [], a, w => wpH P ops N S l1 a w ∧ wpH P ops N S l2 a w
 | i :: rest, a, w => ∃ o v, ops[i]? = some o ∧ YieldsIf P ops S o v a ∧ wpT P ops N S l1 l2 rest (a.put o.dst v) w
def head2 : List (Nat × Bool) → List (Nat × Bool) → List Nat
 | (i, false) :: _, (j, false) :: _ => [i, j]
 | _, _ => []
def tail1 (ops : Array Oper) : List (Nat × Bool) → Array Bool → Bool
 | (i, false) :: rest, l => chk ops rest (l.setIfInBounds i true)
 | _, _ => false
def chkT (ops : Array Oper) (l1 l2 : List (Nat × Bool)) : List Nat → Array Bool → Bool
 | [], l => (head2 l1 l2 != []) && (Region.ready .any ops l == head2 l1 l2) && tail1 ops l1 l && tail1 ops l2 l
 | i :: rest, l => Region.free .any ops l i && (Region.ready .any ops l).contains i && chkT ops l1 l2 rest (l.setIfInBounds i true)
theorem wpT_sound (hsel : Region.noSelect ops = true) (l1 l2 : List (Nat × Bool)) (hlen : l1.length = l2.length) : ∀ (l : List Nat) (listed : Array Bool) (a : Act) (w : World),
  chkT ops l1 l2 l listed = true → S w → wpT P ops N S l1 l2 l a w → wpAnyH P .any ops (Qn N) S (l.length + l1.length) listed a w
 | [], listed, a, w, hc, hS, h => by
  obtain ⟨h1, h2⟩ := h
  simp only [chkT, Bool.and_eq_true, beq_iff_eq] at hc
  obtain ⟨⟨⟨hne, hr⟩, ht1⟩, ht2⟩ := hc
  match l1, l2, hne with
  | (i, false) :: r1, (j, false) :: r2, _ =>
   simp only [head2] at hr
   simp only [tail1] at ht1 ht2
   have hl : r1.length = r2.length := by simpa using hlen
   simp only [List.length_nil, List.length_cons, Nat.zero_add]
   refine wpAnyH_all hr (by simp) fun k hk => ?_
   have hk : k = i ∨ k = j := by simpa using hk
   rcases hk with rfl | rfl
   · exact wpOp_mono (fun a' w' h' => ⟨h'.1, wpH_sound hsel r1 _ _ _ ht1 h'.1 h'.2⟩) h1
   ·
    rw [hl]
    exact wpOp_mono (fun a' w' h' => ⟨h'.1, wpH_sound hsel r2 _ _ _ ht2 h'.1 h'.2⟩) h2
 | i :: rest, listed, a, w, hc, hS, h => by
  obtain ⟨o, v, ho, hy, hr⟩ := h
  simp only [chkT, Bool.and_eq_true] at hc
  rw [show (i :: rest).length + l1.length = (rest.length + l1.length) + 1 by simp only [List.length_cons]; omega]
  exact wpAnyH_take ho hsel hc.1.1 hc.1.2 (fun _ _ _ h => h) hy hS (wpT_sound hsel l1 l2 hlen rest _ _ _ hc.2 hS hr)
theorem wp_hoistT {Q : Exit → Act → World → Prop} {id : Nat} {a : Act} {w : World} {l : List Oper} (pre : List Nat) (l1 l2 : List (Nat × Bool)) (S : World → Prop) (hm : P.follows .mixedOrders = true)
  (hc : (Region.noSelect l.toArray && (pre.length + l1.length == l.length) && (l1.length == l2.length) && chkT l.toArray l1 l2 pre (Array.replicate l.length false)) = true)
  (hS : S w.drew) (h : wpT P l.toArray (fun a w => Q .normal a w) S l1 l2 pre a w.drew) : (Code.region id l.toArray true).wp P Q a w := by
 simp only [Bool.and_eq_true, beq_iff_eq] at hc
 refine Code.wp_mono (Q := Qn (fun a w => Q .normal a w)) (fun e a w h => by cases e <;> first | exact h | exact h.elim) ?_
 refine wp_region_held (S := S) hm ?_
 have := wpT_sound hc.1.1.1 l1 l2 hc.1.2 pre _ a w.drew hc.2 hS h
 rw [hc.1.1.2] at this
 simpa using this
theorem ht_two {l1 l2 : List (Nat × Bool)} {a : Act} {w : World} (h1 : wpH P ops N S l1 a w) (h2 : wpH P ops N S l2 a w) : wpT P ops N S l1 l2 [] a w := ⟨h1, h2⟩
theorem ht_yes {l1 l2 : List (Nat × Bool)} {i : Nat} {rest : List Nat} {a : Act} {w : World} {o : Oper} (v : Value) (ho : ops[i]? = some o) (hw : Region.wanted o (yielded ops a.tmps) = true)
 (hv : ∀ w, S w → (execOp a.eval o).run P w = .ok (.value v) w) (h : wpT P ops N S l1 l2 rest (a.put o.dst v) w) : wpT P ops N S l1 l2 (i :: rest) a w := ⟨o, v, ho, .inl ⟨hw, hv⟩, h⟩
theorem ht_no {l1 l2 : List (Nat × Bool)} {i : Nat} {rest : List Nat} {a : Act} {w : World} {o : Oper} (ho : ops[i]? = some o) (hw : Region.wanted o (yielded ops a.tmps) = false)
 (h : wpT P ops N S l1 l2 rest (a.put o.dst undef) w) : wpT P ops N S l1 l2 (i :: rest) a w := ⟨o, undef, ho, .inr ⟨hw, rfl⟩, h⟩
end
end Go.Proofs.YtadpjidakippeaaGreat
