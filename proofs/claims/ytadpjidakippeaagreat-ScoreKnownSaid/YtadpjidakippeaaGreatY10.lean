/- whole.Gcd. -/
import Derived.Test.YtadpjidakippeaaGreatY09
set_option linter.unusedVariables false
set_option linter.unusedSimpArgs false
namespace Go.Proofs.YtadpjidakippeaaGreat
open Go.RowKit
theorem rNat.uniq {w : World} {v : Value} {m n : Nat} (h : rNat w v m) (h' : rNat w v n) : m = n := by
 obtain ⟨A, c, l, rfl, hw, hn, rfl⟩ := h
 obtain ⟨A', c', l', e, hw', hn', rfl⟩ := h'
 simp only [Value.agg.injEq, Array.mk.injEq, List.cons.injEq, Value.slice.injEq, and_true] at e
 obtain ⟨rfl, el, rfl⟩ := e
 have : l = l' := by
  by_cases h1 : l = []
  ·
   subst h1
   exact (List.eq_nil_of_length_eq_zero (by simpa using el.symm)).symm
  ·
   have h2 : l' ≠ [] := by intro e; rw [e] at el; exact h1 (List.eq_nil_of_length_eq_zero (by simpa using el))
   obtain ⟨g, o, hA, hc⟩ := hw.2.2 h1
   obtain ⟨g', o', hA', hc'⟩ := hw'.2.2 h2
   rw [hA] at hA'
   simp only [Option.some.injEq, Addr.mk.injEq, and_true] at hA'
   obtain ⟨rfl, rfl⟩ := hA'
   refine List.ext_getElem el (fun i h3 h4 => ?_)
   have e1 := hc i h3
   rw [hc' i h4] at e1
   simp only [Option.some.injEq, Value.int.injEq, true_and] at e1
   rw [List.getD_eq_getElem?_getD, List.getD_eq_getElem?_getD, List.getElem?_eq_getElem h3, List.getElem?_eq_getElem h4] at e1
   simp only [Option.getD_some] at e1
   omega
 rw [this]
theorem natAt_ex : ∃ f : World → Value → Nat, ∀ w v n, rNat w v n → f w v = n := by
 refine ⟨fun w v => Classical.epsilon (fun n => rNat w v n), fun w v n h => ?_⟩
 exact rNat.uniq (Classical.epsilon_spec (p := fun n => rNat w v n) ⟨n, h⟩) h
structure GcdM (w : World) (b5 b6 : Nat) (vx vy : Value) (wr : World) : Prop where
 be : Below w.heap.size w wr
 o2 : Own wr (w.heap.size + 1 + 1) 28 [.slice none 0 0]
 o3 : Own wr b5 28 [vx]
 o4 : Own wr b6 28 [vy]
 g5 : w.heap.size + 1 + 1 < b5
 g6 : w.heap.size + 1 + 1 < b6
 ne : b5 ≠ b6
theorem GcdM.ext {w : World} {b5 b6 : Nat} {vx vy : Value} {wr wr' : World} (h : GcdM w b5 b6 vx vy wr) (he : Below wr.heap.size wr wr') : GcdM w b5 b6 vx vy wr' :=
 ⟨Below.trans h.be (Below.mono he h.be.size), h.o2.ext he, h.o3.ext he, h.o4.ext he, h.g5, h.g6, h.ne⟩
theorem GcdM.sets {w : World} {b5 b6 : Nat} {vx vy : Value} {wr : World} (h : GcdM w b5 b6 vx vy wr) (x y : Value) :
  GcdM w b5 b6 x y ((wr.setCell ⟨b5, 0, none⟩ x).setCell ⟨b6, 0, none⟩ y) := by
 have g5 := h.g5
 have g6 := h.g6
 have ne := h.ne
 exact ⟨(h.be.setCell (by simp <;> omega) _).setCell (by simp <;> omega) _, (h.o2.other _ (by simp <;> omega)).other _ (by simp <;> omega), (h.o3.set 0 _).other _ (by simp <;> omega), (h.o4.other _ (by simp <;> omega)).set 0 _, g5, g6, ne⟩
theorem GcdM.num {w : World} {b5 b6 : Nat} {A A2 : Option Addr} {c n c2 n2 : Nat} {wr : World} (h : GcdM w b5 b6 (.slice A c n) (.slice A2 c2 n2) wr) (x y : Value) {v : Value} {k : Nat} (hv : rNat wr v k) :
  rNat ((wr.setCell ⟨b5, 0, none⟩ x).setCell ⟨b6, 0, none⟩ y) v k :=
 (hv.set (h.o3.cell 0 _ rfl) rfl).set ((h.o4.other (p := ⟨b5, 0, none⟩) x (Ne.symm h.ne)).cell 0 _ rfl) rfl
def GcdIn (w : World) (b5 b6 g : Nat) (wr : World) : Prop :=
 ∃ x y A n c A2 n2 c2, GcdM w b5 b6 (.slice A n c) (.slice A2 n2 c2) wr ∧ rNat wr (.agg #[.slice A n c]) x ∧ rNat wr (.agg #[.slice A2 n2 c2]) y ∧ y ≤ x ∧ bl x ≤ 35184372088700 ∧ Nat.gcd x y = g
theorem GcdM.fin {w : World} {b5 b6 : Nat} {vx vy : Value} {wr : World} (h : GcdM w b5 b6 vx vy wr) (x : Value) {v : Value} {n : Nat} (hn : rNat wr v n) :
  Below w.heap.size w (wr.setCell ⟨w.heap.size + 1 + 1, 0, none⟩ x) ∧ (wr.setCell ⟨w.heap.size + 1 + 1, 0, none⟩ x).cell? ⟨w.heap.size + 1 + 1, 0, none⟩ = some x ∧ rNat (wr.setCell ⟨w.heap.size + 1 + 1, 0, none⟩ x) v n :=
 ⟨h.be.setCell (by simp <;> omega) _, (h.o2.set 0 x).cell 0 _ rfl, hn.set (h.o2.cell 0 _ rfl) rfl⟩
set_option maxRecDepth 100000 in
set_option maxHeartbeats 4000000 in
theorem gcd_c (w : World) (va vb : Value) (a b : Int) (ha : rInt w va a) (hb : rInt w vb b) (fa : bl a.natAbs ≤ 35184372088700) (fb : bl b.natAbs ≤ 35184372088700) :
  Calls Tryz.prog 74 #[va, vb] w (Post w fun r w' => rNat w' r (Nat.gcd a.natAbs b.natAbs)) := by
 obtain ⟨nat_at, hat⟩ := natAt_ex
 obtain ⟨A, c, n, rfl, hx⟩ := ha.open
 obtain ⟨A2, c2, n2, rfl, hy⟩ := hb.open
 obtain ⟨s1, e1⟩ : ∃ s, decide (a < 0) = s := ⟨_, rfl⟩
 obtain ⟨s2, e2⟩ : ∃ s, decide (b < 0) = s := ⟨_, rfl⟩
 obtain ⟨x, ex⟩ : ∃ x, a.natAbs = x := ⟨_, rfl⟩
 obtain ⟨y, ey⟩ : ∃ y, b.natAbs = y := ⟨_, rfl⟩
 rw [e1, e2]
 rw [ex] at fa hx ⊢
 rw [ey] at fb hy ⊢
 clear e1 e2 ex ey ha hb a b
 obtain ⟨g, eg⟩ : ∃ g, Nat.gcd x y = g := ⟨_, rfl⟩
 rw [eg]
 have HCM := Lib.hid (fun W h h' => cmp_n W (.agg #[.slice A n c]) (.agg #[.slice A2 n2 c2]) x y h h' (Nat.le_trans fa (by omega)) (Nat.le_trans fb (by omega)))
 have HSM := Lib.hid (fun W v n h => small_c W v n h)
 have H1 := Lib.hid hx
 have H2 := Lib.hid hy
 have FA := Lib.hid fa
 have FB := Lib.hid fb
 have EG := Lib.hid eg
 have HAT := Lib.hid hat
 have HB0 : Hid (Box2 w.heap.size (w.heap.size + 1) (.bool s1) (.slice A n c) (.bool s2) (.slice A2 n2 c2) (((w.alloc (.cells #[.bool s1, .slice A n c] 30)).alloc (.cells #[.bool s2, .slice A2 n2 c2] 30)).alloc (.cells #[.slice none 0 0] 28))) := ⟨by go_simp, by go_simp, by go_simp, by go_simp⟩
 have HO2 := Lib.hid (Own.new' ((w.alloc (.cells #[.bool s1, .slice A n c] 30)).alloc (.cells #[.bool s2, .slice A2 n2 c2] 30)) 28 [.slice none 0 0] (w.heap.size + 1 + 1) (by simp))
 have hbw : Below w.heap.size w (((w.alloc (.cells #[.bool s1, .slice A n c] 30)).alloc (.cells #[.bool s2, .slice A2 n2 c2] 30)).alloc (.cells #[.slice none 0 0] 28)) := (by repeat (first | assumption | exact nB1 _ _ | refine nB2 ?_ | refine pw_below_drewN ?_ _ | refine nB3 ?_ (by first | omega | (simp <;> omega)) _ | refine nB4 ?_ (by first | omega | (simp <;> omega)) _ | refine nB5 ?_ (by assumption) (by first | omega | (simp <;> omega))))
 have hsz : (((w.alloc (.cells #[.bool s1, .slice A n c] 30)).alloc (.cells #[.bool s2, .slice A2 n2 c2] 30)).alloc (.cells #[.slice none 0 0] 28)).heap.size = w.heap.size + 1 + 1 + 1 := by simp
 clear hx hy fa fb eg hat
 go_enter Tryz.func74, Tryz.ntmps74
 go_wp2_with fail
 generalize (((w.alloc (.cells #[.bool s1, .slice A n c] 30)).alloc (.cells #[.bool s2, .slice A2 n2 c2] 30)).alloc (.cells #[.slice none 0 0] 28)) = W0 at HB0 HO2 hbw hsz ⊢
 have HBW := HB0
 replace HB0 : Hid (Box2 w.heap.size (w.heap.size + 1) (.bool s1) (.slice A n c) (.bool s2) (.slice A2 n2 c2) W0.drew) := ⟨HB0.out.a0, HB0.out.a1, HB0.out.b0, HB0.out.b1⟩
 go_upto_region 1 with (fail)
 go_cut [5, 6] (fun p5 p6 W => ∃ b5 b6, p5 = .pointer (some ⟨b5, 0, none⟩) ∧ p6 = .pointer (some ⟨b6, 0, none⟩) ∧ GcdM w b5 b6 (.slice A n c) (.slice A2 n2 c2) W)
 case first =>
  refine wp_hoistT [0, 1, 2, 3] [(4, false), (5, false), (6, false), (7, false)] [(5, false), (4, false), (6, false), (7, false)] (Box2 w.heap.size (w.heap.size + 1) (.bool s1) (.slice A n c) (.bool s2) (.slice A2 n2 c2)) (by kernel_rfl) (by kernel_rfl) ?_ ?_
  · exact HB0.out
  refine ht_yes (v := ?_) rfl (by kernel_rfl) (fun W hW => ?_) ?_; rotate_left; (go_simp; try with_reducible rfl)
  (try simp only [Act.put, gL])
  refine ht_yes (v := ?_) rfl (by kernel_rfl) (fun W hW => ?_) ?_; rotate_left; (obtain ⟨y1, y2, y3, y4⟩ := hW; go_simp; try with_reducible rfl)
  (try simp only [Act.put, gL])
  refine ht_yes (v := ?_) rfl (by kernel_rfl) (fun W hW => ?_) ?_; rotate_left; (go_simp; try with_reducible rfl)
  (try simp only [Act.put, gL])
  refine ht_yes (v := ?_) rfl (by kernel_rfl) (fun W hW => ?_) ?_; rotate_left; (obtain ⟨y1, y2, y3, y4⟩ := hW; go_simp; try with_reducible rfl)
  (try simp only [Act.put, gL])
  refine ht_two ?_ ?_
  ·
   skip
   skip
   refine hz_eff rfl (by kernel_rfl) (fun K hK => ?_)
   go_simp
   refine hK.out _ _ ?_ ?_
   · exact HB0.out.ext (ext_alloc _ _)
   clear hK K
   (try (conv => arg 6; simp only [Act.put, gL]))
   refine hz_eff rfl (by kernel_rfl) (fun K hK => ?_)
   go_simp
   refine hK.out _ _ ?_ ?_
   · exact (HB0.out.ext (ext_alloc _ _)).ext (ext_alloc _ _)
   clear hK K
   (try (conv => arg 6; simp only [Act.put, gL]))
   have HX2 := Lib.hid ((HO2.out.alloc (.cells #[.slice none 0 0] 28)).alloc (.cells #[.slice none 0 0] 28)).drew
   have HX3 := Lib.hid ((Own.new' W0 28 [.slice none 0 0] (w.heap.size + 1 + 1 + 1) (by simp [hsz])).alloc (.cells #[.slice none 0 0] 28)).drew
   have HX4 := Lib.hid (Own.new' (W0.alloc (.cells #[.slice none 0 0] 28)) 28 [.slice none 0 0] (w.heap.size + 1 + 1 + 1 + 1) (by simp [hsz])).drew
   have hbe : Below w.heap.size w ((W0.alloc (.cells #[.slice none 0 0] 28)).alloc (.cells #[.slice none 0 0] 28)).drew := (by repeat (first | assumption | exact nB1 _ _ | refine nB2 ?_ | refine pw_below_drewN ?_ _ | refine nB3 ?_ (by first | omega | (simp <;> omega)) _ | refine nB4 ?_ (by first | omega | (simp <;> omega)) _ | refine nB5 ?_ (by assumption) (by first | omega | (simp <;> omega))))
   have HBA := Lib.hid ((HBW.out.ext (ext_alloc _ (.cells #[.slice none 0 0] 28))).ext (ext_alloc _ (.cells #[.slice none 0 0] 28)))
   have HBB : Hid (Box2 w.heap.size (w.heap.size + 1) (.bool s1) (.slice A n c) (.bool s2) (.slice A2 n2 c2) ((W0.alloc (.cells #[.slice none 0 0] 28)).alloc (.cells #[.slice none 0 0] 28)).drew) := ⟨HBA.out.a0, HBA.out.a1, HBA.out.b0, HBA.out.b1⟩
   generalize ((W0.alloc (.cells #[.slice none 0 0] 28)).alloc (.cells #[.slice none 0 0] 28)).drew = W4 at HX2 HX3 HX4 hbe HBB ⊢
   have q3 := HX3.out.cell 0 _ rfl
   have q4 := HX4.out.cell 0 _ rfl
   have f3 := HX3.out.frozen 0
   have f4 := HX4.out.frozen 0
   refine hz_eff rfl (by kernel_rfl) (fun K hK => ?_)
   go_simp
   refine hK.out _ _ ?_ ?_
   · exact HBB.out.other (p := ⟨(w.heap.size + 1 + 1 + 1), 0, none⟩) _ (by simp <;> omega) (by simp <;> omega)
   clear hK K
   (try (conv => arg 6; simp only [Act.put, gL]))
   refine hz_eff rfl (by kernel_rfl) (fun K hK => ?_)
   go_simp
   refine hK.out _ _ ?_ ?_
   · exact (HBB.out.other (p := ⟨(w.heap.size + 1 + 1 + 1), 0, none⟩) _ (by simp <;> omega) (by simp <;> omega)).other (p := ⟨(w.heap.size + 1 + 1 + 1 + 1), 0, none⟩) _ (by simp <;> omega) (by simp <;> omega)
   clear hK K
   (try (conv => arg 6; simp only [Act.put, gL]))
   refine hz_nil ?_
   go_wp2
   go_meet
   exact ⟨_, _, rfl, rfl, ⟨(by repeat (first | assumption | exact nB1 _ _ | refine nB2 ?_ | refine pw_below_drewN ?_ _ | refine nB3 ?_ (by first | omega | (simp <;> omega)) _ | refine nB4 ?_ (by first | omega | (simp <;> omega)) _ | refine nB5 ?_ (by assumption) (by first | omega | (simp <;> omega)))), (HX2.out.other _ (by simp)).other _ (by simp), (HX3.out.set 0 _).other _ (by simp), (HX4.out.other _ (by simp)).set 0 _, by omega, by omega, by simp⟩⟩
  ·
   skip
   skip
   refine hz_eff rfl (by kernel_rfl) (fun K hK => ?_)
   go_simp
   refine hK.out _ _ ?_ ?_
   · exact HB0.out.ext (ext_alloc _ _)
   clear hK K
   (try (conv => arg 6; simp only [Act.put, gL]))
   refine hz_eff rfl (by kernel_rfl) (fun K hK => ?_)
   go_simp
   refine hK.out _ _ ?_ ?_
   · exact (HB0.out.ext (ext_alloc _ _)).ext (ext_alloc _ _)
   clear hK K
   (try (conv => arg 6; simp only [Act.put, gL]))
   have HX2 := Lib.hid ((HO2.out.alloc (.cells #[.slice none 0 0] 28)).alloc (.cells #[.slice none 0 0] 28)).drew
   have HX3 := Lib.hid ((Own.new' W0 28 [.slice none 0 0] (w.heap.size + 1 + 1 + 1) (by simp [hsz])).alloc (.cells #[.slice none 0 0] 28)).drew
   have HX4 := Lib.hid (Own.new' (W0.alloc (.cells #[.slice none 0 0] 28)) 28 [.slice none 0 0] (w.heap.size + 1 + 1 + 1 + 1) (by simp [hsz])).drew
   have hbe : Below w.heap.size w ((W0.alloc (.cells #[.slice none 0 0] 28)).alloc (.cells #[.slice none 0 0] 28)).drew := (by repeat (first | assumption | exact nB1 _ _ | refine nB2 ?_ | refine pw_below_drewN ?_ _ | refine nB3 ?_ (by first | omega | (simp <;> omega)) _ | refine nB4 ?_ (by first | omega | (simp <;> omega)) _ | refine nB5 ?_ (by assumption) (by first | omega | (simp <;> omega))))
   have HBA := Lib.hid ((HBW.out.ext (ext_alloc _ (.cells #[.slice none 0 0] 28))).ext (ext_alloc _ (.cells #[.slice none 0 0] 28)))
   have HBB : Hid (Box2 w.heap.size (w.heap.size + 1) (.bool s1) (.slice A n c) (.bool s2) (.slice A2 n2 c2) ((W0.alloc (.cells #[.slice none 0 0] 28)).alloc (.cells #[.slice none 0 0] 28)).drew) := ⟨HBA.out.a0, HBA.out.a1, HBA.out.b0, HBA.out.b1⟩
   generalize ((W0.alloc (.cells #[.slice none 0 0] 28)).alloc (.cells #[.slice none 0 0] 28)).drew = W4 at HX2 HX3 HX4 hbe HBB ⊢
   have q3 := HX3.out.cell 0 _ rfl
   have q4 := HX4.out.cell 0 _ rfl
   have f3 := HX3.out.frozen 0
   have f4 := HX4.out.frozen 0
   refine hz_eff rfl (by kernel_rfl) (fun K hK => ?_)
   go_simp
   refine hK.out _ _ ?_ ?_
   · exact HBB.out.other (p := ⟨(w.heap.size + 1 + 1 + 1 + 1), 0, none⟩) _ (by simp <;> omega) (by simp <;> omega)
   clear hK K
   (try (conv => arg 6; simp only [Act.put, gL]))
   refine hz_eff rfl (by kernel_rfl) (fun K hK => ?_)
   go_simp
   refine hK.out _ _ ?_ ?_
   · exact (HBB.out.other (p := ⟨(w.heap.size + 1 + 1 + 1 + 1), 0, none⟩) _ (by simp <;> omega) (by simp <;> omega)).other (p := ⟨(w.heap.size + 1 + 1 + 1), 0, none⟩) _ (by simp <;> omega) (by simp <;> omega)
   clear hK K
   (try (conv => arg 6; simp only [Act.put, gL]))
   refine hz_nil ?_
   go_wp2
   go_meet
   exact ⟨_, _, rfl, rfl, ⟨(by repeat (first | assumption | exact nB1 _ _ | refine nB2 ?_ | refine pw_below_drewN ?_ _ | refine nB3 ?_ (by first | omega | (simp <;> omega)) _ | refine nB4 ?_ (by first | omega | (simp <;> omega)) _ | refine nB5 ?_ (by assumption) (by first | omega | (simp <;> omega)))), (HX2.out.other _ (by simp)).other _ (by simp), (HX4.out.set 0 _).other _ (by simp), (HX3.out.other _ (by simp)).set 0 _, by omega, by omega, by simp⟩⟩
 case rest =>
  obtain ⟨b5, b6, rfl, rfl, hst⟩ := hcut
  have HM := Lib.hid hst
  have q3 := HM.out.o3.cell 0 _ rfl
  have q4 := HM.out.o4.cell 0 _ rfl
  have f3 := HM.out.o3.frozen 0
  have f4 := HM.out.o4.frozen 0
  have hbw := hst.be
  have g5 := hst.g5
  have g6 := hst.g6
  have ne := hst.ne
  have ne' := Ne.symm hst.ne
  clear hst
  go_wp2_with fail
  refine (HCM.out _ (H1.out.ext hbw) (H2.out.ext hbw)).mono ?_
  rintro e w1 ⟨v1, rfl, hb1, rfl⟩
  replace HM := Lib.hid (HM.out.ext hb1)
  have HX := Lib.hid (H1.out.ext (nT hbw hb1))
  have HY := Lib.hid (H2.out.ext (nT hbw hb1))
  clear hb1 hbw q3 q4 f3 f4
  have q2 := HM.out.o2.cell 0 _ rfl
  have q3 := HM.out.o3.cell 0 _ rfl
  have q4 := HM.out.o4.cell 0 _ rfl
  have f2 := HM.out.o2.frozen 0
  have f3 := HM.out.o3.frozen 0
  have f4 := HM.out.o4.frozen 0
  by_cases hlt : x < y
  ·
   rw [cmpI_lt hlt]
   have HIN : Hid (GcdIn w b5 b6 g ((w1.setCell ⟨b5, 0, none⟩ (.slice A2 n2 c2)).setCell ⟨b6, 0, none⟩ (.slice A n c))) :=
    ⟨y, x, A2, n2, c2, A, n, c, HM.out.sets _ _, HM.out.num _ _ HY.out, HM.out.num _ _ HX.out, Nat.le_of_lt hlt, FB.out, by rw [Nat.gcd_comm]; exact EG.out⟩
   clear H1 H2 hlt
   go_wp2_with fail
   generalize ((w1.setCell ⟨b5, 0, none⟩ (.slice A2 n2 c2)).setCell ⟨b6, 0, none⟩ (.slice A n c)) = WL at HIN ⊢
   clear HM HX HY FA FB EG q2 q3 q4 f2 f3 f4
   clear HCM x y
   go_loopw [] (fun W => GcdIn w b5 b6 g W) (fun W => nat_at W (.agg #[(W.cell? ⟨b6, 0, none⟩).getD undef]))
   case atStart => exact HIN.out
   case round =>
    obtain ⟨x, y, A, n, c, A2, n2, c2, hm, hx, hy, hyx, hb, hg⟩ := hrel
    have HM := Lib.hid hm
    have HX := Lib.hid hx
    have HY := Lib.hid hy
    have HG := Lib.hid hg
    have HB := Lib.hid hb
    have HL := Lib.hid hyx
    have g5 := hm.g5
    have g6 := hm.g6
    have ne := hm.ne
    have ne' := Ne.symm hm.ne
    clear hm hx hy hyx hb hg HIN
    have q2 := HM.out.o2.cell 0 _ rfl
    have q3 := HM.out.o3.cell 0 _ rfl
    have q4 := HM.out.o4.cell 0 _ rfl
    have f2 := HM.out.o2.frozen 0
    have f3 := HM.out.o3.frozen 0
    have f4 := HM.out.o4.frozen 0
    have HNX : Hid (nat_at wr (.agg #[(wr.cell? ⟨b6, 0, none⟩).getD undef]) = y) := by
     have h := HAT.out _ _ _ HY.out
     rw [← h, q4]
     exact Lib.hid rfl
    go_wp2_with fail
    refine (HSM.out _ _ _ HY.out).mono ?_
    rintro e w1 ⟨v1, rfl, hb1, hr1⟩
    replace HM := Lib.hid (HM.out.ext hb1)
    replace HX := Lib.hid (HX.out.ext hb1)
    replace HY := Lib.hid (HY.out.ext hb1)
    clear hb1 q2 q3 q4 f2 f3 f4
    have q2 := HM.out.o2.cell 0 _ rfl
    have q3 := HM.out.o3.cell 0 _ rfl
    have q4 := HM.out.o4.cell 0 _ rfl
    have f2 := HM.out.o2.frozen 0
    have f3 := HM.out.o3.frozen 0
    have f4 := HM.out.o4.frozen 0
    by_cases hyb : y < B64
    ·
     rw [SmallSaid, if_pos hyb, decide_eq_true hyb] at hr1
     subst hr1
     by_cases hy0 : y = 0
     ·
      subst hy0
      go_wp2_with fail
      obtain ⟨e1, e2, e3⟩ := HM.out.fin (.slice A n c) HX.out
      refine bodyPost_ret (v := .agg #[.slice A n c]) (by simp [results, Tryz.results74, go_sem, e2]) rfl ⟨_, rfl, e1, ?_⟩
      rw [← HG.out, Nat.gcd_zero_right]
      exact e3
     ·
      have hyi : ((y : Int) == 0) = false := by rw [beq_eq_false_iff_ne]; omega
      have hyi2 : ¬ (y : Int) = 0 := by omega
      have HDV := Lib.hid (div_n w1 (.agg #[.slice A n c]) (.agg #[.slice A2 n2 c2]) x y HX.out HY.out (Nat.le_trans HB.out (by omega)) (Nat.le_trans (bl_mono HL.out) (Nat.le_trans HB.out (by omega))))
      have hrs : x % y < B64 := Nat.lt_trans (Nat.mod_lt _ (by omega)) hyb
      have HWD := Lib.hid (fun W => words_c W y (x % y) hyb hrs)
      have hgg : Nat.gcd y (x % y) = g := by rw [← HG.out]; exact (words_step hy0).symm
      have HOF := Lib.hid (fun W => of_c g (by rw [← hgg]; exact Nat.lt_of_le_of_lt (Nat.gcd_le_left _ (by omega)) hyb) W)
      rw [hgg] at HWD
      obtain ⟨r, er⟩ : ∃ r, x % y = r := ⟨_, rfl⟩
      have HDS := Lib.hid (show ∀ W v, DivSaid W v x y → ∃ A3 n3 c3 A4 n4 c4, v = .tuple #[.agg #[.slice A3 n3 c3], .agg #[.slice A4 n4 c4], .bool true] ∧ rNat W (.agg #[.slice A4 n4 c4]) r from fun W v ⟨q, t, hv, h1, h2⟩ => by
       obtain ⟨A3, c3, n3, rfl, h1⟩ := h1.shape
       obtain ⟨A4, c4, n4, rfl, h2⟩ := h2.shape
       rw [if_neg hy0, er] at h2
       rw [decide_eq_true hy0] at hv
       exact ⟨A3, n3, c3, A4, n4, c4, hv, h2⟩)
      rw [er] at hrs HWD
      have HR := Lib.hid hrs
      clear hgg er hrs hy0 hyb
      go_wp2_with fail
      refine HDV.out.mono ?_
      rintro e w2 ⟨v2, rfl, hb2, hr2⟩
      obtain ⟨A3, n3, c3, A4, n4, c4, rfl, h4⟩ := HDS.out _ _ hr2
      replace HM := Lib.hid (HM.out.ext hb2)
      have H4 := Lib.hid h4
      clear hb2 hr2 h4 q2 q3 q4 f2 f3 f4
      go_wp2_with fail
      have he2 : Below w2.heap.size w2 ((w2.alloc (.cells #[.slice A3 n3 c3] 28)).alloc (.cells #[.slice A4 n4 c4] 28)) := Ext.trans (ext_alloc _ (.cells #[.slice A3 n3 c3] 28)) (ext_alloc _ (.cells #[.slice A4 n4 c4] 28))
      replace HM := Lib.hid (HM.out.ext he2)
      refine (HSM.out _ _ _ (H4.out.ext he2)).mono ?_
      rintro e w3 ⟨v3, rfl, hb3, hr3⟩
      rw [SmallSaid, if_pos HR.out, decide_eq_true HR.out] at hr3
      subst hr3
      replace HM := Lib.hid (HM.out.ext hb3)
      clear he2 hb3
      go_wp2_with fail
      refine (HWD.out _).mono ?_
      rintro e w4 ⟨v4, rfl, hb4, rfl⟩
      replace HM := Lib.hid (HM.out.ext hb4)
      clear hb4
      go_wp2_with fail
      refine (HOF.out _).mono ?_
      rintro e w5 ⟨v5, rfl, hb5, hr5⟩
      replace HM := Lib.hid (HM.out.ext hb5)
      obtain ⟨A5, c5, n5, rfl, hr5⟩ := hr5.shape
      have H5 := Lib.hid hr5
      clear hb5 hr5
      have q2 := HM.out.o2.cell 0 _ rfl
      have q3 := HM.out.o3.cell 0 _ rfl
      have q4 := HM.out.o4.cell 0 _ rfl
      have f2 := HM.out.o2.frozen 0
      have f3 := HM.out.o3.frozen 0
      have f4 := HM.out.o4.frozen 0
      go_wp2_with fail
      obtain ⟨e1, e2, e3⟩ := HM.out.fin (.slice A5 n5 c5) H5.out
      exact bodyPost_ret (v := .agg #[.slice A5 n5 c5]) (by simp [results, Tryz.results74, go_sem, e2]) rfl ⟨_, rfl, e1, e3⟩
    ·
     rw [SmallSaid, if_neg hyb, decide_eq_false hyb] at hr1
     subst hr1
     have HNR := Lib.hid (nearer_c w1 (.agg #[.slice A n c]) (.agg #[.slice A2 n2 c2]) x y HX.out HY.out HB.out HL.out (Nat.le_of_not_lt hyb))
     have HND := Lib.hid (show ∀ W v, NearSaid W v x y → ∃ A3 n3 c3 A4 n4 c4 x' y', v = .tuple #[.agg #[.slice A3 n3 c3], .agg #[.slice A4 n4 c4]] ∧ rNat W (.agg #[.slice A3 n3 c3]) x' ∧ rNat W (.agg #[.slice A4 n4 c4]) y' ∧ Nat.gcd x' y' = g ∧ y' ≤ x' ∧ y' < y ∧ bl x' ≤ 35184372088700 from fun W v ⟨q, t, x', y', hv, h1, h2, h3, h4, h5, h6⟩ => by
       obtain ⟨A3, c3, n3, rfl, h1⟩ := h1.shape
       obtain ⟨A4, c4, n4, rfl, h2⟩ := h2.shape
       exact ⟨A3, n3, c3, A4, n4, c4, x', y', hv, h1, h2, h3.trans HG.out, h4, h5, Nat.le_trans (bl_mono h6) HB.out⟩)
     clear hyb
     go_wp2_with fail
     refine HNR.out.mono ?_
     rintro e w2 ⟨v2, rfl, hb2, hr2⟩
     obtain ⟨A3, n3, c3, A4, n4, c4, x', y', rfl, h1, h2, h3, h4, h5, h6⟩ := HND.out _ _ hr2
     replace HM := Lib.hid (HM.out.ext hb2)
     have H1 := Lib.hid h1
     have H2 := Lib.hid h2
     have HE := Lib.hid (show Nat.gcd x' y' = g ∧ y' ≤ x' ∧ y' < y ∧ bl x' ≤ 35184372088700 from ⟨h3, h4, h5, h6⟩)
     clear hb2 hr2 q2 q3 q4 f2 f3 f4 h1 h2 h3 h4 h5 h6
     have q2 := HM.out.o2.cell 0 _ rfl
     have q3 := HM.out.o3.cell 0 _ rfl
     have q4 := HM.out.o4.cell 0 _ rfl
     have f2 := HM.out.o2.frozen 0
     have f3 := HM.out.o3.frozen 0
     have f4 := HM.out.o4.frozen 0
     go_wp2_with fail
     go_roundw
     case rel => exact ⟨x', y', A3, n3, c3, A4, n4, c4, HM.out.sets _ _, HM.out.num _ _ H1.out, HM.out.num _ _ H2.out, HE.out.2.1, HE.out.2.2.2, HE.out.1⟩
     case measure =>
      have hs := HM.out.sets (.slice A3 n3 c3) (.slice A4 n4 c4)
      rw [hs.o4.cell 0 _ rfl, HNX.out]
      rw [show nat_at _ (.agg #[Option.getD (some (.slice A4 n4 c4)) undef]) = y' from HAT.out _ _ _ (HM.out.num _ _ H2.out)]
      exact HE.out.2.2.1
  ·
   have HIN : Hid (GcdIn w b5 b6 g w1) := ⟨x, y, A, n, c, A2, n2, c2, HM.out, HX.out, HY.out, Nat.le_of_not_lt hlt, FA.out, EG.out⟩
   obtain ⟨z, ez⟩ : ∃ z, cmpI x y = z := ⟨_, rfl⟩
   have hz : ¬ z < 0 := by rw [← ez]; unfold cmpI; rw [if_neg hlt]; split <;> omega
   rw [ez]
   clear HCM H1 H2 hlt ez
   go_wp2_with fail
   generalize w1 = WL at HIN ⊢
   clear HM HX HY FA FB EG q2 q3 q4 f2 f3 f4
   clear x y
   go_loopw [] (fun W => GcdIn w b5 b6 g W) (fun W => nat_at W (.agg #[(W.cell? ⟨b6, 0, none⟩).getD undef]))
   case atStart => exact HIN.out
   case round =>
    obtain ⟨x, y, A, n, c, A2, n2, c2, hm, hx, hy, hyx, hb, hg⟩ := hrel
    have HM := Lib.hid hm
    have HX := Lib.hid hx
    have HY := Lib.hid hy
    have HG := Lib.hid hg
    have HB := Lib.hid hb
    have HL := Lib.hid hyx
    have g5 := hm.g5
    have g6 := hm.g6
    have ne := hm.ne
    have ne' := Ne.symm hm.ne
    clear hm hx hy hyx hb hg HIN
    have q2 := HM.out.o2.cell 0 _ rfl
    have q3 := HM.out.o3.cell 0 _ rfl
    have q4 := HM.out.o4.cell 0 _ rfl
    have f2 := HM.out.o2.frozen 0
    have f3 := HM.out.o3.frozen 0
    have f4 := HM.out.o4.frozen 0
    have HNX : Hid (nat_at wr (.agg #[(wr.cell? ⟨b6, 0, none⟩).getD undef]) = y) := by
     have h := HAT.out _ _ _ HY.out
     rw [← h, q4]
     exact Lib.hid rfl
    go_wp2_with fail
    refine (HSM.out _ _ _ HY.out).mono ?_
    rintro e w1 ⟨v1, rfl, hb1, hr1⟩
    replace HM := Lib.hid (HM.out.ext hb1)
    replace HX := Lib.hid (HX.out.ext hb1)
    replace HY := Lib.hid (HY.out.ext hb1)
    clear hb1 q2 q3 q4 f2 f3 f4
    have q2 := HM.out.o2.cell 0 _ rfl
    have q3 := HM.out.o3.cell 0 _ rfl
    have q4 := HM.out.o4.cell 0 _ rfl
    have f2 := HM.out.o2.frozen 0
    have f3 := HM.out.o3.frozen 0
    have f4 := HM.out.o4.frozen 0
    by_cases hyb : y < B64
    ·
     rw [SmallSaid, if_pos hyb, decide_eq_true hyb] at hr1
     subst hr1
     by_cases hy0 : y = 0
     ·
      subst hy0
      go_wp2_with fail
      obtain ⟨e1, e2, e3⟩ := HM.out.fin (.slice A n c) HX.out
      refine bodyPost_ret (v := .agg #[.slice A n c]) (by simp [results, Tryz.results74, go_sem, e2]) rfl ⟨_, rfl, e1, ?_⟩
      rw [← HG.out, Nat.gcd_zero_right]
      exact e3
     ·
      have hyi : ((y : Int) == 0) = false := by rw [beq_eq_false_iff_ne]; omega
      have hyi2 : ¬ (y : Int) = 0 := by omega
      have HDV := Lib.hid (div_n w1 (.agg #[.slice A n c]) (.agg #[.slice A2 n2 c2]) x y HX.out HY.out (Nat.le_trans HB.out (by omega)) (Nat.le_trans (bl_mono HL.out) (Nat.le_trans HB.out (by omega))))
      have hrs : x % y < B64 := Nat.lt_trans (Nat.mod_lt _ (by omega)) hyb
      have HWD := Lib.hid (fun W => words_c W y (x % y) hyb hrs)
      have hgg : Nat.gcd y (x % y) = g := by rw [← HG.out]; exact (words_step hy0).symm
      have HOF := Lib.hid (fun W => of_c g (by rw [← hgg]; exact Nat.lt_of_le_of_lt (Nat.gcd_le_left _ (by omega)) hyb) W)
      rw [hgg] at HWD
      obtain ⟨r, er⟩ : ∃ r, x % y = r := ⟨_, rfl⟩
      have HDS := Lib.hid (show ∀ W v, DivSaid W v x y → ∃ A3 n3 c3 A4 n4 c4, v = .tuple #[.agg #[.slice A3 n3 c3], .agg #[.slice A4 n4 c4], .bool true] ∧ rNat W (.agg #[.slice A4 n4 c4]) r from fun W v ⟨q, t, hv, h1, h2⟩ => by
       obtain ⟨A3, c3, n3, rfl, h1⟩ := h1.shape
       obtain ⟨A4, c4, n4, rfl, h2⟩ := h2.shape
       rw [if_neg hy0, er] at h2
       rw [decide_eq_true hy0] at hv
       exact ⟨A3, n3, c3, A4, n4, c4, hv, h2⟩)
      rw [er] at hrs HWD
      have HR := Lib.hid hrs
      clear hgg er hrs hy0 hyb
      go_wp2_with fail
      refine HDV.out.mono ?_
      rintro e w2 ⟨v2, rfl, hb2, hr2⟩
      obtain ⟨A3, n3, c3, A4, n4, c4, rfl, h4⟩ := HDS.out _ _ hr2
      replace HM := Lib.hid (HM.out.ext hb2)
      have H4 := Lib.hid h4
      clear hb2 hr2 h4 q2 q3 q4 f2 f3 f4
      go_wp2_with fail
      have he2 : Below w2.heap.size w2 ((w2.alloc (.cells #[.slice A3 n3 c3] 28)).alloc (.cells #[.slice A4 n4 c4] 28)) := Ext.trans (ext_alloc _ (.cells #[.slice A3 n3 c3] 28)) (ext_alloc _ (.cells #[.slice A4 n4 c4] 28))
      replace HM := Lib.hid (HM.out.ext he2)
      refine (HSM.out _ _ _ (H4.out.ext he2)).mono ?_
      rintro e w3 ⟨v3, rfl, hb3, hr3⟩
      rw [SmallSaid, if_pos HR.out, decide_eq_true HR.out] at hr3
      subst hr3
      replace HM := Lib.hid (HM.out.ext hb3)
      clear he2 hb3
      go_wp2_with fail
      refine (HWD.out _).mono ?_
      rintro e w4 ⟨v4, rfl, hb4, rfl⟩
      replace HM := Lib.hid (HM.out.ext hb4)
      clear hb4
      go_wp2_with fail
      refine (HOF.out _).mono ?_
      rintro e w5 ⟨v5, rfl, hb5, hr5⟩
      replace HM := Lib.hid (HM.out.ext hb5)
      obtain ⟨A5, c5, n5, rfl, hr5⟩ := hr5.shape
      have H5 := Lib.hid hr5
      clear hb5 hr5
      have q2 := HM.out.o2.cell 0 _ rfl
      have q3 := HM.out.o3.cell 0 _ rfl
      have q4 := HM.out.o4.cell 0 _ rfl
      have f2 := HM.out.o2.frozen 0
      have f3 := HM.out.o3.frozen 0
      have f4 := HM.out.o4.frozen 0
      go_wp2_with fail
      obtain ⟨e1, e2, e3⟩ := HM.out.fin (.slice A5 n5 c5) H5.out
      exact bodyPost_ret (v := .agg #[.slice A5 n5 c5]) (by simp [results, Tryz.results74, go_sem, e2]) rfl ⟨_, rfl, e1, e3⟩
    ·
     rw [SmallSaid, if_neg hyb, decide_eq_false hyb] at hr1
     subst hr1
     have HNR := Lib.hid (nearer_c w1 (.agg #[.slice A n c]) (.agg #[.slice A2 n2 c2]) x y HX.out HY.out HB.out HL.out (Nat.le_of_not_lt hyb))
     have HND := Lib.hid (show ∀ W v, NearSaid W v x y → ∃ A3 n3 c3 A4 n4 c4 x' y', v = .tuple #[.agg #[.slice A3 n3 c3], .agg #[.slice A4 n4 c4]] ∧ rNat W (.agg #[.slice A3 n3 c3]) x' ∧ rNat W (.agg #[.slice A4 n4 c4]) y' ∧ Nat.gcd x' y' = g ∧ y' ≤ x' ∧ y' < y ∧ bl x' ≤ 35184372088700 from fun W v ⟨q, t, x', y', hv, h1, h2, h3, h4, h5, h6⟩ => by
       obtain ⟨A3, c3, n3, rfl, h1⟩ := h1.shape
       obtain ⟨A4, c4, n4, rfl, h2⟩ := h2.shape
       exact ⟨A3, n3, c3, A4, n4, c4, x', y', hv, h1, h2, h3.trans HG.out, h4, h5, Nat.le_trans (bl_mono h6) HB.out⟩)
     clear hyb
     go_wp2_with fail
     refine HNR.out.mono ?_
     rintro e w2 ⟨v2, rfl, hb2, hr2⟩
     obtain ⟨A3, n3, c3, A4, n4, c4, x', y', rfl, h1, h2, h3, h4, h5, h6⟩ := HND.out _ _ hr2
     replace HM := Lib.hid (HM.out.ext hb2)
     have H1 := Lib.hid h1
     have H2 := Lib.hid h2
     have HE := Lib.hid (show Nat.gcd x' y' = g ∧ y' ≤ x' ∧ y' < y ∧ bl x' ≤ 35184372088700 from ⟨h3, h4, h5, h6⟩)
     clear hb2 hr2 q2 q3 q4 f2 f3 f4 h1 h2 h3 h4 h5 h6
     have q2 := HM.out.o2.cell 0 _ rfl
     have q3 := HM.out.o3.cell 0 _ rfl
     have q4 := HM.out.o4.cell 0 _ rfl
     have f2 := HM.out.o2.frozen 0
     have f3 := HM.out.o3.frozen 0
     have f4 := HM.out.o4.frozen 0
     go_wp2_with fail
     go_roundw
     case rel => exact ⟨x', y', A3, n3, c3, A4, n4, c4, HM.out.sets _ _, HM.out.num _ _ H1.out, HM.out.num _ _ H2.out, HE.out.2.1, HE.out.2.2.2, HE.out.1⟩
     case measure =>
      have hs := HM.out.sets (.slice A3 n3 c3) (.slice A4 n4 c4)
      rw [hs.o4.cell 0 _ rfl, HNX.out]
      rw [show nat_at _ (.agg #[Option.getD (some (.slice A4 n4 c4)) undef]) = y' from HAT.out _ _ _ (HM.out.num _ _ H2.out)]
      exact HE.out.2.2.1
end Go.Proofs.YtadpjidakippeaaGreat

/- A region whose order is drawn, where several operations that act may be ready at once: a tree of orders is walked. -/
namespace Go.Proofs.YtadpjidakippeaaGreat
open Go.RowKit
inductive Tr where
 | done
 | yes (i : Nat) (t : Tr)
 | act (i : Nat) (t more : Tr)
 | stop
section
variable {P : Program} {ops : Array Oper} {N : Act → World → Prop} {S : World → Prop}
def wpR (P : Program) (ops : Array Oper) (N : Act → World → Prop) (S : World → Prop) : Tr → Act → World → Prop
 | .done, a, w => N a w
 | .yes i t, a, w => ∃ o v, ops[i]? = some o ∧ YieldsIf P ops S o v a ∧ wpR P ops N S t (a.put o.dst v) w
 | .act i t m, a, w => wpOp P ops (Qn N) i (fun a' w' => S w' ∧ wpR P ops N S t a' w') a w ∧ wpR P ops N S m a w
 | .stop, _, _ => True
def Tr.heads : Tr → List Nat
 | .act i _ m => i :: m.heads
 | _ => []
def chkR (ops : Array Oper) : Tr → Nat → Array Bool → Bool → Bool
 | .done, n, l, inner => !inner && n == 0 && (Region.ready .any ops l).isEmpty
 | .yes i t, n, l, inner => !inner && n != 0 && Region.free .any ops l i && (Region.ready .any ops l).contains i && chkR ops t (n - 1) (l.setIfInBounds i true) false
 | .act i t m, n, l, inner => n != 0 && (inner || Region.ready .any ops l == (Tr.act i t m).heads) && chkR ops t (n - 1) (l.setIfInBounds i true) false && chkR ops m n l true
 | .stop, _, _, inner => inner
theorem wpR_sound (hsel : Region.noSelect ops = true) : ∀ (t : Tr) (n : Nat) (l : Array Bool) (a : Act) (w : World),
  (chkR ops t n l false = true → S w → wpR P ops N S t a w → wpAnyH P .any ops (Qn N) S n l a w) ∧
  (chkR ops t n l true = true → wpR P ops N S t a w → ∀ j ∈ t.heads, wpOp P ops (Qn N) j (fun a' w' => S w' ∧ wpAnyH P .any ops (Qn N) S (n - 1) (l.setIfInBounds j true) a' w') a w)
 | .done, n, l, a, w => by
  constructor
  ·
   intro hc _ h
   simp only [chkR, Bool.and_eq_true, beq_iff_eq, Bool.not_eq_true'] at hc
   exact wpAnyH_done (by simpa using hc.2) h _
  · intro hc; simp [chkR] at hc
 | .yes i t, n, l, a, w => by
  constructor
  ·
   intro hc hS h
   obtain ⟨o, v, ho, hy, hr⟩ := h
   simp only [chkR, Bool.and_eq_true, bne_iff_ne, ne_eq] at hc
   obtain ⟨⟨⟨⟨_, hn⟩, hf⟩, hm⟩, ht⟩ := hc
   obtain ⟨k, rfl⟩ : ∃ k, n = k + 1 := ⟨n - 1, by omega⟩
   exact wpAnyH_take ho hsel hf hm (fun _ _ _ h => h) hy hS ((wpR_sound hsel t _ _ _ _).1 ht hS hr)
  · intro hc; simp [chkR] at hc
 | .stop, n, l, a, w => by
  constructor
  · intro hc; simp [chkR] at hc
  · intro _ _ j hj; simp [Tr.heads] at hj
 | .act i t m, n, l, a, w => by
  have key : n ≠ 0 → chkR ops t (n - 1) (l.setIfInBounds i true) false = true → chkR ops m n l true = true → wpR P ops N S (.act i t m) a w →
    ∀ j ∈ (Tr.act i t m).heads, wpOp P ops (Qn N) j (fun a' w' => S w' ∧ wpAnyH P .any ops (Qn N) S (n - 1) (l.setIfInBounds j true) a' w') a w := by
   intro _ ht hm h j hj
   simp only [Tr.heads, List.mem_cons] at hj
   rcases hj with rfl | hj
   · exact wpOp_mono (fun a' w' h' => ⟨h'.1, (wpR_sound hsel t _ _ _ _).1 ht h'.1 h'.2⟩) h.1
   · exact (wpR_sound hsel m _ _ _ _).2 hm h.2 j hj
  constructor
  ·
   intro hc _ h
   simp only [chkR, Bool.and_eq_true, bne_iff_ne, ne_eq, Bool.false_or, beq_iff_eq] at hc
   obtain ⟨⟨⟨hn, hr⟩, ht⟩, hm⟩ := hc
   obtain ⟨k, rfl⟩ : ∃ k, n = k + 1 := ⟨n - 1, by omega⟩
   exact wpAnyH_all hr (by simp [Tr.heads]) (key hn ht hm h)
  ·
   intro hc h
   simp only [chkR, Bool.and_eq_true, bne_iff_ne, ne_eq, Bool.true_or, and_true] at hc
   exact key hc.1.1 hc.1.2 hc.2 h
theorem wp_hoistR {Q : Exit → Act → World → Prop} {id : Nat} {a : Act} {w : World} {l : List Oper} (t : Tr) (S : World → Prop) (hm : P.follows .mixedOrders = true)
  (hc : (Region.noSelect l.toArray && chkR l.toArray t l.length (Array.replicate l.length false) false) = true)
  (hS : S w.drew) (h : wpR P l.toArray (fun a w => Q .normal a w) S t a w.drew) : (Code.region id l.toArray true).wp P Q a w := by
 simp only [Bool.and_eq_true] at hc
 refine Code.wp_mono (Q := Qn (fun a w => Q .normal a w)) (fun e a w h => by cases e <;> first | exact h | exact h.elim) ?_
 refine wp_region_held (S := S) hm ?_
 have := (wpR_sound hc.1 t _ _ a w.drew).1 hc.2 hS h
 simpa using this
theorem hr_done {a : Act} {w : World} (h : N a w) : wpR P ops N S .done a w := h
theorem hr_yes {i : Nat} {t : Tr} {a : Act} {w : World} {o : Oper} (v : Value) (ho : ops[i]? = some o) (hw : Region.wanted o (yielded ops a.tmps) = true)
 (hv : ∀ w, S w → (execOp a.eval o).run P w = .ok (.value v) w) (h : wpR P ops N S t (a.put o.dst v) w) : wpR P ops N S (.yes i t) a w := ⟨o, v, ho, .inl ⟨hw, hv⟩, h⟩
theorem hr_no {i : Nat} {t : Tr} {a : Act} {w : World} {o : Oper} (ho : ops[i]? = some o) (hw : Region.wanted o (yielded ops a.tmps) = false)
 (h : wpR P ops N S t (a.put o.dst undef) w) : wpR P ops N S (.yes i t) a w := ⟨o, undef, ho, .inr ⟨hw, rfl⟩, h⟩
theorem hr_eff {i : Nat} {t m : Tr} {a : Act} {w : World} {o : Oper} (ho : ops[i]? = some o) (hw : Region.wanted o (yielded ops a.tmps) = true)
  (h : ∀ K : Act → World → Prop, Shut (∀ a w, S w → wpR P ops N S t a w → K a w) → o.wp P a w K (Qn N)) (hm : wpR P ops N S m a w) : wpR P ops N S (.act i t m) a w := by
 refine ⟨?_, hm⟩
 refine wpOp_step ho fun K hK => ?_
 rw [if_pos hw]
 exact h K (fun a w hs hr => hK a w ⟨hs, hr⟩)
theorem hr_one {i : Nat} {t : Tr} {a : Act} {w : World} {o : Oper} (ho : ops[i]? = some o) (hw : Region.wanted o (yielded ops a.tmps) = true)
 (h : ∀ K : Act → World → Prop, Shut (∀ a w, S w → wpR P ops N S t a w → K a w) → o.wp P a w K (Qn N)) : wpR P ops N S (.act i t .stop) a w := hr_eff ho hw h trivial
theorem hr_effno {i : Nat} {t m : Tr} {a : Act} {w : World} {o : Oper} (ho : ops[i]? = some o) (hw : Region.wanted o (yielded ops a.tmps) = false)
  (hS : S w) (h : wpR P ops N S t (a.put o.dst undef) w) (hm : wpR P ops N S m a w) : wpR P ops N S (.act i t m) a w := by
 refine ⟨?_, hm⟩
 refine wpOp_step ho fun K hK => ?_
 rw [if_neg (by simp [hw])]
 exact hK _ _ ⟨hS, h⟩
end
end Go.Proofs.YtadpjidakippeaaGreat

/- Fractions: what it is for a value to be one; frac.wide, low, by, under, Of, Num, Sign, Neg, Den. -/
namespace Go.Proofs.YtadpjidakippeaaGreat
open Go.RowKit
/-- A call whose contract is at hand. -/
theorem wp_call {P : Program} {o : Oper} {a : Act} {w : World} {K : Act → World → Prop} {Q : Exit → Act → World → Prop} {f : FuncId} {args : Array Value} {Φ : Value → World → Prop}
  (h : Calls P f args w (Post w Φ)) (he : (execOp a.eval o).run P w = .ok (.enter f args) w) (hk : ∀ v w', Below w.heap.size w w' → Φ v w' → K (a.put o.dst v) w') : o.wp P a w K Q := by
 unfold Oper.wp
 rw [he, Oper.upon_enter]
 refine h.mono ?_
 rintro e w' ⟨v, rfl, hb, hp⟩
 exact hk v w' hb hp
/-- Cells that stand in memory. -/
def Cells : List (Nat × Nat × Value) → World → Prop
 | [], _ => True
 | (b, i, v) :: l, W => W.cell? ⟨b, i, none⟩ = some v ∧ Cells l W
theorem Cells.nil (W : World) : Cells [] W := trivial
theorem Cells.cons {b i : Nat} {v : Value} {l : List (Nat × Nat × Value)} {W : World} (h : W.cell? ⟨b, i, none⟩ = some v) (t : Cells l W) : Cells ((b, i, v) :: l) W := ⟨h, t⟩
theorem Cells.ext {W W' : World} : ∀ {l : List (Nat × Nat × Value)}, Cells l W → Ext W W' → Cells l W'
 | [], _, _ => trivial
 | (_, _, _) :: _, h, he => ⟨ext_cell he h.1, Cells.ext h.2 he⟩
theorem Cells.drew {W : World} : ∀ {l : List (Nat × Nat × Value)}, Cells l W → Cells l W.drew
 | [], _ => trivial
 | (_, _, _) :: _, h => ⟨h.1, Cells.drew h.2⟩
theorem Cells.alloc {l : List (Nat × Nat × Value)} {W : World} (h : Cells l W) (o : Obj) : Cells l (W.alloc o) := h.ext (ext_alloc _ _)
theorem Cells.set {W : World} {p : Addr} (v : Value) : ∀ {l : List (Nat × Nat × Value)}, Cells l W → (∀ x ∈ l, p.block ≠ x.1) → Cells l (W.setCell p v)
 | [], _, _ => trivial
 | (b, i, _) :: l, h, hp => ⟨(nC _ _ _ _ (fun e => hp (b, i, _) (List.mem_cons_self ..) (congrArg Addr.block e))).trans h.1, Cells.set v h.2 (fun x hx => hp x (List.mem_cons_of_mem _ hx))⟩
theorem cell_lt {W : World} {b i : Nat} {v : Value} (h : W.cell? ⟨b, i, none⟩ = some v) : b < W.heap.size := by
 rcases Nat.lt_or_ge b W.heap.size with h1 | h1
 · exact h1
 ·
  exfalso
  simp [World.cell?, Array.getElem?_eq_none h1] at h
theorem rNat.alloc {w : World} {v : Value} {n : Nat} (h : rNat w v n) (o : Obj) : rNat (w.alloc o) v n := h.ext (ext_alloc _ _)
theorem rInt.alloc {w : World} {v : Value} {z : Int} (h : rInt w v z) (o : Obj) : rInt (w.alloc o) v z := h.ext (ext_alloc _ _)
theorem rInt.drew {w : World} {v : Value} {z : Int} (h : rInt w v z) : rInt w.drew v z := h
/-- frac.Q: its upper part, and its lower one, which is kept as 0 where it is 1. -/
def rQd (w : World) (v : Value) (z : Int) (d : Nat) : Prop := ∃ s u r, v = .agg #[.bool s, u, r] ∧ rInt w (.agg #[.bool s, u]) z ∧ rNat w (.agg #[r]) (if d = 1 then 0 else d)
def rQ (w : World) (v : Value) (q : Rat) : Prop := rQd w v q.num q.den
theorem rQd.ext {w w' : World} {v : Value} {z : Int} {d : Nat} (h : rQd w v z d) (he : Ext w w') : rQd w' v z d := by
 obtain ⟨s, u, r, hv, h1, h2⟩ := h
 exact ⟨s, u, r, hv, h1.ext he, h2.ext he⟩
theorem rQd.set {w : World} {v : Value} {z : Int} {d : Nat} (h : rQd w v z d) {a : Addr} {u x : Value} (hc : w.cell? a = some u) (hu : noInt u = true) : rQd (w.setCell a x) v z d := by
 obtain ⟨s, u', r, hv, h1, h2⟩ := h
 exact ⟨s, u', r, hv, h1.set hc hu, h2.set hc hu⟩
theorem rQ.ext {w w' : World} {v : Value} {q : Rat} (h : rQ w v q) (he : Ext w w') : rQ w' v q := rQd.ext h he
theorem rQ.set {w : World} {v : Value} {q : Rat} (h : rQ w v q) {a : Addr} {u x : Value} (hc : w.cell? a = some u) (hu : noInt u = true) : rQ (w.setCell a x) v q := rQd.set h hc hu
theorem rQ.alloc {w : World} {v : Value} {q : Rat} (h : rQ w v q) (o : Obj) : rQ (w.alloc o) v q := h.ext (ext_alloc _ _)
theorem rQ.drew {w : World} {v : Value} {q : Rat} (h : rQ w v q) : rQ w.drew v q := h
theorem rQd.alloc {w : World} {v : Value} {z : Int} {d : Nat} (h : rQd w v z d) (o : Obj) : rQd (w.alloc o) v z d := h.ext (ext_alloc _ _)
theorem rQd.drew {w : World} {v : Value} {z : Int} {d : Nat} (h : rQd w v z d) : rQd w.drew v z d := h
theorem rQd.shape {w : World} {v : Value} {z : Int} {d : Nat} (h : rQd w v z d) : ∃ s A c n B k m, v = .agg #[.bool s, .slice A n c, .slice B m k] ∧ rQd w (.agg #[.bool s, .slice A n c, .slice B m k]) z d := by
 obtain ⟨s, u, r, rfl, h1, h2⟩ := h
 obtain ⟨s', A, c, n, e1, h1⟩ := h1.shape
 obtain ⟨B, k, m, e2, h2⟩ := h2.shape
 simp only [Value.agg.injEq, Array.mk.injEq, List.cons.injEq, Value.bool.injEq, and_true] at e1 e2
 obtain ⟨rfl, rfl⟩ := e1
 subst e2
 exact ⟨s, A, c, n, B, k, m, rfl, s, _, _, rfl, h1, h2⟩
theorem rQ.shape {w : World} {v : Value} {q : Rat} (h : rQ w v q) : ∃ s A c n B k m, v = .agg #[.bool s, .slice A n c, .slice B m k] ∧ rQ w (.agg #[.bool s, .slice A n c, .slice B m k]) q := rQd.shape h
theorem rQd.num {w : World} {s : Bool} {u r : Value} {z : Int} {d : Nat} (h : rQd w (.agg #[.bool s, u, r]) z d) : rInt w (.agg #[.bool s, u]) z := by
 obtain ⟨s', u', r', e, h1, h2⟩ := h
 simp only [Value.agg.injEq, Array.mk.injEq, List.cons.injEq, Value.bool.injEq, and_true] at e
 obtain ⟨rfl, rfl, rfl⟩ := e
 exact h1
theorem rQd.rest {w : World} {s : Bool} {u r : Value} {z : Int} {d : Nat} (h : rQd w (.agg #[.bool s, u, r]) z d) : rNat w (.agg #[r]) (if d = 1 then 0 else d) := by
 obtain ⟨s', u', r', e, h1, h2⟩ := h
 simp only [Value.agg.injEq, Array.mk.injEq, List.cons.injEq, Value.bool.injEq, and_true] at e
 obtain ⟨rfl, rfl, rfl⟩ := e
 exact h2
theorem rQ.num {w : World} {s : Bool} {u r : Value} {q : Rat} (h : rQ w (.agg #[.bool s, u, r]) q) : rInt w (.agg #[.bool s, u]) q.num := rQd.num h
theorem rQ.rest {w : World} {s : Bool} {u r : Value} {q : Rat} (h : rQ w (.agg #[.bool s, u, r]) q) : rNat w (.agg #[r]) (if q.den = 1 then 0 else q.den) := rQd.rest h
set_option maxHeartbeats 1000000 in
/-- frac.wide -/
theorem wide_c (w : World) (v : Value) (n : Nat) (h : rNat w v n) (hf : Fit n) : Calls Tryz.prog 75 #[v] w (Post w fun r w' => rInt w' r (n : Int)) := by
 obtain ⟨A, c, m, rfl, h⟩ := h.shape
 have HF := Lib.hid (fun W h => from_c W false (.agg #[.slice A m c]) n h hf)
 have H1 := Lib.hid h
 have HB : Hid (Cells [(w.heap.size, 0, .slice A m c)] ((w.alloc (.cells #[.slice A m c] 28)).alloc (.cells #[.bool false, .slice none 0 0] 30))) := Lib.hid (Cells.cons (by go_simp) (Cells.nil _))
 have HO0 := Lib.hid (Own.new' (w.alloc (.cells #[.slice A m c] 28)) 30 [.bool false, .slice none 0 0] (w.heap.size + 1) (by simp))
 have hbw : Below w.heap.size w ((w.alloc (.cells #[.slice A m c] 28)).alloc (.cells #[.bool false, .slice none 0 0] 30)) := (by repeat (first | assumption | exact nB1 _ _ | refine nB2 ?_ | refine pw_below_drewN ?_ _ | refine nB3 ?_ (by first | omega | (simp <;> omega)) _ | refine nB4 ?_ (by first | omega | (simp <;> omega)) _ | refine nB5 ?_ (by assumption) (by first | omega | (simp <;> omega))))
 clear h hf
 go_enter Tryz.func75, Tryz.ntmps75
 go_wp2_with fail
 generalize ((w.alloc (.cells #[.slice A m c] 28)).alloc (.cells #[.bool false, .slice none 0 0] 30)) = W0 at HB HO0 hbw ⊢
 replace H1 := Lib.hid (H1.out.ext hbw)
 obtain ⟨y0, _⟩ := id HB.out
 go_wp2_with fail
 clear y0
 refine (HF.out _ H1.out).mono ?_
 rintro e W1 ⟨v1, rfl, hb1, hr1⟩
 obtain ⟨Bs, BA, Bc, Bn, rfl, hr1⟩ := hr1.shape
 replace HB := Lib.hid (HB.out.ext hb1)
 replace HO0 := Lib.hid (HO0.out.ext hb1)
 replace H1 := Lib.hid (H1.out.ext hb1)
 replace hbw := nT hbw hb1
 have R := Lib.hid hr1
 clear hr1
 clear hb1
 have q0 := HO0.out.cell 0 _ rfl
 have f0 := HO0.out.frozen 0
 have q1 := HO0.out.cell 1 _ rfl
 have f1 := HO0.out.frozen 1
 go_wp2_with fail
 replace HB := Lib.hid (HB.out.set (p := ⟨w.heap.size + 1, 0, none⟩) (.bool Bs) (by simp <;> omega))
 replace HO0 := Lib.hid (HO0.out.set 0 (.bool Bs))
 replace H1 := Lib.hid (H1.out.set (x := .bool Bs) q0 rfl)
 replace R := Lib.hid (R.out.set (x := .bool Bs) q0 rfl)
 replace hbw := nB4 hbw (show w.heap.size ≤ (⟨w.heap.size + 1, 0, none⟩ : Addr).block by simp <;> omega) (.bool Bs)
 replace q1 := (nC W1 ⟨w.heap.size + 1, 0, none⟩ ⟨w.heap.size + 1, 1, none⟩ (.bool Bs) (by simp)).trans q1
 replace HB := Lib.hid (HB.out.set (p := ⟨w.heap.size + 1, 1, none⟩) (.slice BA Bn Bc) (by simp <;> omega))
 replace HO0 := Lib.hid (HO0.out.set 1 (.slice BA Bn Bc))
 replace H1 := Lib.hid (H1.out.set (x := .slice BA Bn Bc) q1 rfl)
 replace R := Lib.hid (R.out.set (x := .slice BA Bn Bc) q1 rfl)
 replace hbw := nB4 hbw (show w.heap.size ≤ (⟨w.heap.size + 1, 1, none⟩ : Addr).block by simp <;> omega) (.slice BA Bn Bc)
 clear q0 f0 q1 f1
 replace HO0 : Hid (Own _ _ _ [.bool Bs, .slice BA Bn Bc]) := HO0
 generalize ((W1.setCell ⟨w.heap.size + 1, 0, none⟩ (.bool Bs)).setCell ⟨w.heap.size + 1, 1, none⟩ (.slice BA Bn Bc)) = W2 at HB HO0 H1 R hbw ⊢
 have kk0 := HO0.out.cell 0 _ rfl
 have kk1 := HO0.out.cell 1 _ rfl
 refine bodyPost_ret (v := .agg #[.bool Bs, .slice BA Bn Bc]) (by simp [results, Tryz.results75, go_sem, kk0, kk1]) rfl ⟨_, rfl, hbw, ?_⟩
 exact R.out
end Go.Proofs.YtadpjidakippeaaGreat
