/- Part of a proof: see the texts that import it. -/
import Derived.Test.YtadpjidakippeaaGreatY03
import Derived.Test.YtadpjidakippeaaGreatY02
set_option linter.unusedVariables false
set_option linter.unusedSimpArgs false
namespace Go.Proofs.YtadpjidakippeaaGreat
open Go.RowKit
/-- What long knows at the head of its loop. -/
structure LongIn (w wr : World) (bx by_ bq m n : Nat) (XV V k : Nat) (Ly : List Nat) : Prop where
 below : Below w.heap.size w wr
 oy : Own wr by_ 101 (wv .u64 Ly)
 st : ∃ Lx Lq, Own wr bx 101 (wv .u64 Lx) ∧ Own wr bq 101 (wv .u64 Lq) ∧ Lx.length = m + 1 ∧ Lq.length = m - n + 1 ∧ (∀ x ∈ Lx, x < B64) ∧ (∀ x ∈ Lq, x < B64) ∧
  XV = V * (B64 ^ k * vl B64 (Lq.drop k)) + vl B64 Lx ∧ vl B64 Lx < V * B64 ^ k
theorem bool_flip {c : Nat} (h : c ≤ 1) : Value.bool (decide (c = 0)) = Value.bool (!decide (1 - c = 0)) := by
 have : c = 0 ∨ c = 1 := by omega
 rcases this with rfl | rfl <;> rfl
def LongSaid (w' : World) (val : Value) (X Y : List Nat) : Prop := ∃ A q B r, val = .tuple #[.slice A q.length q.length, .slice B r.length r.length] ∧ Words .u64 B64 w' A q.length q ∧ Words .u64 B64 w' B r.length r ∧ q.length ≤ X.length ∧ r.length = Y.length ∧ vl B64 q = vl B64 X / vl B64 Y ∧ vl B64 r = vl B64 X % vl B64 Y
set_option maxRecDepth 100000 in
set_option maxHeartbeats 4000000 in
theorem long_c (w : World) (A1 A2 : Option Addr) (c1 c2 N : Nat) (X Y : List Nat) (h1 : Words .u64 B64 w A1 c1 X) (h2 : Words .u64 B64 w A2 c2 Y) (hn : Y.length = N + 2) (hm : Y.length ≤ X.length) (n2 : Norm Y) (b1 : X.length ≤ 1099511627776) :
  Calls Tryz.prog 122 #[.slice A1 X.length c1, .slice A2 Y.length c2] w (Post w fun val w' => LongSaid w' val X Y) := by
 have Hw := Lib.hid h1
 have Hu := Lib.hid h2
 have HN := Lib.hid hn
 -- the highest word, and how far it is moved up
 obtain ⟨top, etop⟩ : ∃ t, Y.getD (N + 1) 0 = t := ⟨_, rfl⟩
 have htB : top < B64 := by rw [← etop]; exact getD_lt h2.2.1 B64_pos _
 have ht0 : 0 < top := by
  rcases Nat.eq_zero_or_pos top with h0 | h0
  ·
   exfalso
   refine n2 ?_
   rw [List.getLast?_eq_getElem?, hn, show N + 2 - 1 = N + 1 from rfl, List.getElem?_eq_getElem (by omega)]
   rw [List.getD_eq_getElem?_getD, List.getElem?_eq_getElem (by omega)] at etop
   simp only [Option.getD_some] at etop
   rw [etop, h0]
  · exact h0
 obtain ⟨s, es⟩ : ∃ s, 64 - bl top = s := ⟨_, rfl⟩
 have hs64 : s ≤ 63 := by have : 0 < bl top := bl_pos.2 (by omega); omega
 have hln := lead_norm ht0 htB
 rw [es] at hln
 have hfit := div_fit (S := 2 ^ s) h2.2.1 hn etop hln.1
 have HL := Lib.hid (lead_c top)
 rw [es] at HL
 have HTB := Lib.hid htB
 have HFIT := Lib.hid hfit
 have HLN := Lib.hid hln
 obtain ⟨g2, o2, rfl, hcl2⟩ := h2.2.2 (by intro e; rw [e] at hn; simp at hn)
 have hct := hcl2 (N + 1) (by omega)
 rw [etop] at hct
 have s1 : IntKind.i64.wrap ((Y.length : Int) - 1) = (Y.length : Int) - 1 := i64w (by omega) (by omega)
 have s2 : 0 ≤ (Y.length : Int) - 1 := by omega
 have s3 : ((Y.length : Int) - 1).toNat = N + 1 := by omega
 have hlx : ∀ W, Words .u64 B64 W A1 c1 X → Calls Tryz.prog 132 #[.slice A1 X.length c1, .int .i64 (s : Nat), .int .i64 ((X.length : Int) + 1)] W (Post W fun val w' => LeftSaid w' val X s (X.length + 1) W.heap.size) := fun W h => left_c W A1 c1 X s (X.length + 1) h b1 (by omega) hs64
 have hly := fun W h => left_c W (some ⟨g2, o2, none⟩) c2 Y s Y.length h (by omega) (by omega) hs64
 have HLX := Lib.hid hlx
 have HLY := Lib.hid hly
 have hmk := mk64 ((X.length : Int) - (Y.length : Int) + 1) (X.length - Y.length + 1) (by omega) (by omega)
 clear h1 h2 hcl2 hln hfit es htB etop n2 hn hlx hly
 go_enter Tryz.func122, Tryz.ntmps122
 go_wp2_with (go_at_call 131; refine (HL.out _ HTB.out).mono ?_; rintro e w' ⟨rfl, rfl⟩)
 refine (HLX.out _ Hw.out).mono ?_
 rintro e w1 ⟨val, rfl, hb1, lx, cx, rfl, hox, hlx1, hlx2, hlx3⟩
 have HOX := Lib.hid hox
 have HLX1 := Lib.hid hlx1
 have HLX2 := Lib.hid hlx2
 have HLX3 := Lib.hid hlx3
 clear hox hlx1 hlx2 hlx3
 go_wp2_with fail
 refine (HLY.out _ (Hu.out.ext hb1)).mono ?_
 rintro e w2 ⟨val, rfl, hb2, ly, cy, rfl, hoy, hly1, hly2, hly3⟩
 have HOY := Lib.hid hoy
 have HLY1 := Lib.hid hly1
 have HLY2 := Lib.hid hly2
 have HLY3 := Lib.hid hly3
 clear hoy hly1 hly2 hly3
 go_wp2_with fail
 -- the numbers
 have hnn := HN.out
 have hxz := c_zero HLX3.out (by rw [List.take_of_length_le (by omega)]; exact shl_fit hs64 Hw.out.2.1 rfl)
 have hyz := c_zero HLY3.out (by rw [List.take_of_length_le (Nat.le_refl _), hnn]; exact HFIT.out.1)
 have hXV : vl B64 lx = 2 ^ s * vl B64 X := by rw [hxz.2, List.take_of_length_le (by omega)]
 have hVV : vl B64 ly = 2 ^ s * vl B64 Y := by rw [hyz.2, List.take_of_length_le (Nat.le_refl _)]
 have hV0 : 2 ^ s * top * B64 ^ (N + 1) ≤ vl B64 ly := by rw [hVV]; exact HFIT.out.2
 have hst := long_start hs64 Hw.out.2.1 (by omega) rfl hXV HLN.out.2 hV0
 have hVpos : 0 < vl B64 ly := by
  refine Nat.lt_of_lt_of_le (Nat.mul_pos ?_ (Nat.pow_pos B64_pos)) hV0
  have := HLN.out.2; omega
 have hbxy : w.heap.size < w1.heap.size := HOX.out.lt
 have hbyq : w1.heap.size < w2.heap.size := HOY.out.lt
 have HXV := Lib.hid hXV
 have HVV := Lib.hid hVV
 have HST := Lib.hid hst
 have HVP := Lib.hid hVpos
 clear hxz hyz hXV hVV hV0 hst hVpos hmk hnn s1 s2 s3
 go_loopw [11] (fun tj wr => ∃ k : Nat, k ≤ X.length - Y.length + 1 ∧ tj = .int .i64 ((k : Int) - 1) ∧ LongIn w wr w.heap.size w1.heap.size w2.heap.size X.length Y.length (vl B64 lx) (vl B64 ly) k ly) (fun tj _ => (intOf tj + 1).toNat)
 case atStart => exact ⟨X.length - Y.length + 1, Nat.le_refl _, by congr 1; omega, ⟨(by repeat (first | assumption | exact nB1 _ _ | refine nB2 ?_ | refine pw_below_drewN ?_ _ | refine nB3 ?_ (by first | omega | (simp <;> omega)) _ | refine nB4 ?_ (by first | omega | (simp <;> omega)) _ | refine nB5 ?_ (by assumption) (by first | omega | (simp <;> omega)))), (HOY.out).alloc _, lx, _, (HOX.out.ext hb2).alloc _, own_zero' _ _ _ _ _ rfl, HLX1.out, by simp, HLX2.out, zeros_lt (by decide) _, by simp [vl], by have h := HST.out; rwa [← HN.out] at h⟩⟩
 case round =>
  obtain ⟨k, hk, rfl, ⟨hb, hoy', Lx, Lq, hox', hoq', hl1, hl2, hd1, hd2, hinv, hlt⟩⟩ := hrel
  have HOX' := Lib.hid hox'
  have HOY' := Lib.hid hoy'
  have HOQ' := Lib.hid hoq'
  have HL1 := Lib.hid hl1
  have HL2 := Lib.hid hl2
  have HD1 := Lib.hid hd1
  have HD2 := Lib.hid hd2
  have HINV := Lib.hid hinv
  have HLT := Lib.hid hlt
  clear hox' hoy' hoq' hl1 hl2 hd1 hd2 hinv hlt
  rcases Nat.eq_zero_or_pos k with rfl | hk0
  ·
   rw [show ((0 : Nat) : Int) - 1 = -1 from rfl]
   have hlt := HLT.out
   rw [Nat.pow_zero, Nat.mul_one] at hlt
   have hvn := vl_lt B64 ly HLY2.out
   rw [HLY1.out] at hvn
   have htl : (Lx.take Y.length).length = Y.length := by rw [List.length_take, HL1.out]; omega
   have hvt := vl_take_of_hi B64_pos HD1.out (Nat.lt_trans hlt hvn)
   have hri := right_c wr (some ⟨w.heap.size, 0, none⟩) (X.length + 1) (Lx.take Y.length) s ((own_words HOX'.out HD1.out _ (by rw [HL1.out]; exact Nat.le_refl _)).take _) (by rw [htl]; omega) hs64
   rw [htl] at hri
   obtain ⟨Lr, eLr⟩ : ∃ Lr, Lx.take Y.length = Lr := ⟨_, rfl⟩
   rw [eLr] at hri htl hvt
   have HRI := Lib.hid hri
   have HTL := Lib.hid htl
   have HVT := Lib.hid hvt
   have HLT0 := Lib.hid hlt
   have hbk : Y.length ≤ X.length + 1 := by omega
   clear hri htl hvt hlt hvn eLr
   go_wp2_with (go_at_call 136; refine HRI.out.mono ?_; rintro e w5 ⟨val, rfl, hb5, out, rfl, ho5, hl5, hd5, hv5⟩; have HO5 := Lib.hid ho5; have HL5 := Lib.hid hl5; have HD5 := Lib.hid hd5; have HV5 := Lib.hid hv5; clear ho5 hl5 hd5 hv5)
   go_ret2
   refine ⟨_, rfl, Below.trans hb (Below.mono hb5 hb.size), _, Lq, _, out, ?_, own_words (HOQ'.out.ext hb5) HD2.out _ (Nat.le_refl _), own_words HO5.out HD5.out _ (Nat.le_refl _), by have := HN.out; rw [HL2.out]; omega, by rw [HL5.out, HTL.out], ?_⟩
   ·
    rw [HL2.out, HL5.out]
    rfl
   ·
    have hi := HINV.out
    rw [Nat.pow_zero, Nat.one_mul, List.drop_zero, HXV.out, HVV.out] at hi
    have hf := long_fin (Nat.pow_pos (by omega)) hi (by rw [← HVV.out]; exact HLT0.out)
    exact ⟨hf.1.symm, by rw [HV5.out, HVT.out, hf.2]⟩
  ·
   obtain ⟨j, rfl⟩ : ∃ j, k = j + 1 := ⟨k - 1, by omega⟩
   rw [show ((j + 1 : Nat) : Int) - 1 = (j : Int) from by omega]
   have hnn := HN.out
   obtain ⟨xa, exa⟩ : ∃ z, Lx.getD (j + N + 2) 0 = z := ⟨_, rfl⟩
   obtain ⟨xb, exb⟩ : ∃ z, Lx.getD (j + N + 1) 0 = z := ⟨_, rfl⟩
   obtain ⟨xc, exc⟩ : ∃ z, Lx.getD (j + N) 0 = z := ⟨_, rfl⟩
   obtain ⟨v, ev⟩ : ∃ z, ly.getD (N + 1) 0 = z := ⟨_, rfl⟩
   obtain ⟨w0, ew⟩ : ∃ z, ly.getD N 0 = z := ⟨_, rfl⟩
   have q1 := HOX'.out.cell (j + N + 2) _ (wv_get _ _ _ (by rw [HL1.out]; omega))
   have q2 := HOX'.out.cell (j + N + 1) _ (wv_get _ _ _ (by rw [HL1.out]; omega))
   have q3 := HOX'.out.cell (j + N) _ (wv_get _ _ _ (by rw [HL1.out]; omega))
   have q4 := HOY'.out.cell (N + 1) _ (wv_get _ _ _ (by rw [HLY1.out]; omega))
   have q5 := HOY'.out.cell N _ (wv_get _ _ _ (by rw [HLY1.out]; omega))
   rw [exa] at q1
   rw [exb] at q2
   rw [exc] at q3
   rw [ev] at q4
   rw [ew] at q5
   have hg := fun W => guess_c xa xb xc v w0 (exa ▸ getD_lt HD1.out B64_pos _) (exb ▸ getD_lt HD1.out B64_pos _) (exc ▸ getD_lt HD1.out B64_pos _) (ev ▸ getD_lt HLY2.out B64_pos _) (ew ▸ getD_lt HLY2.out B64_pos _) W
   have HG := Lib.hid hg
   obtain ⟨Q, eQ⟩ : ∃ Q, vl B64 Lx / (vl B64 ly * B64 ^ j) = Q := ⟨_, rfl⟩
   have hVB : 0 < vl B64 ly * B64 ^ j := Nat.mul_pos HVP.out (Nat.pow_pos B64_pos)
   have hVB1 : vl B64 ly < B64 ^ (N + 2) := by have h := vl_lt B64 ly HLY2.out; rwa [HLY1.out, hnn] at h
   have hQB : Q < B64 := by rw [← eQ, Nat.div_lt_iff_lt_mul hVB, ← Nat.mul_assoc, Nat.mul_comm B64, Nat.mul_assoc, ← Nat.pow_succ']; exact HLT.out
   have hQok : Q * (v * B64 + w0) ≤ (xa * B64 + xb) * B64 + xc := by
    refine guess_ok B64_pos HD1.out rfl (by rw [HLY1.out, hnn]) (j := j) (Nat.lt_of_lt_of_le HLT.out ?_) ?_ exa exb exc ev ew
    ·
     have e : B64 ^ (j + N + 3) = B64 ^ (N + 2) * B64 ^ (j + 1) := by rw [← Nat.pow_add]; congr 1; omega
     rw [e]; exact Nat.mul_le_mul_right _ (Nat.le_of_lt hVB1)
    · have := Nat.div_mul_le_self (vl B64 Lx) (vl B64 ly * B64 ^ j); rw [eQ, ← Nat.mul_assoc] at this; exact this
   have HQB := Lib.hid hQB
   have HQO := Lib.hid hQok
   have HVB := Lib.hid hVB
   have HVB1 := Lib.hid hVB1
   have EQ := Lib.hid eQ
   clear exa exb exc ev ew hg hVB hVB1 hQB hQok eQ
   have t1 : IntKind.i64.wrap ((j : Int) + (Y.length : Int)) = (j : Int) + (Y.length : Int) := i64w (by omega) (by omega)
   have t2 : IntKind.i64.wrap ((j : Int) + (Y.length : Int) - 1) = (j : Int) + (Y.length : Int) - 1 := i64w (by omega) (by omega)
   have t3 : IntKind.i64.wrap ((j : Int) + (Y.length : Int) - 2) = (j : Int) + (Y.length : Int) - 2 := i64w (by omega) (by omega)
   have t4 : IntKind.i64.wrap ((Y.length : Int) - 1) = (Y.length : Int) - 1 := i64w (by omega) (by omega)
   have t5 : IntKind.i64.wrap ((Y.length : Int) - 2) = (Y.length : Int) - 2 := i64w (by omega) (by omega)
   have u1 : ((j : Int) + (Y.length : Int)).toNat = j + N + 2 := by omega
   have u2 : ((j : Int) + (Y.length : Int) - 1).toNat = j + N + 1 := by omega
   have u3 : ((j : Int) + (Y.length : Int) - 2).toNat = j + N := by omega
   have u4 : ((Y.length : Int) - 1).toNat = N + 1 := by omega
   have u5 : ((Y.length : Int) - 2).toNat = N := by omega
   have v1 : 0 ≤ (j : Int) + (Y.length : Int) := by omega
   have v2 : 0 ≤ (j : Int) + (Y.length : Int) - 1 := by omega
   have v3 : 0 ≤ (j : Int) + (Y.length : Int) - 2 := by omega
   have v4 : 0 ≤ (Y.length : Int) - 1 := by omega
   have v5 : 0 ≤ (Y.length : Int) - 2 := by omega
   have v6 : 1 ≤ (j : Int) + (Y.length : Int) := by omega
   have v7 : 2 ≤ (j : Int) + (Y.length : Int) := by omega
   have v8 : 1 ≤ (Y.length : Int) := by omega
   have v9 : 2 ≤ (Y.length : Int) := by omega
   have x1 : (j : Int) + (Y.length : Int) < (X.length : Int) + 1 := by omega
   have x2 : (j : Int) + (Y.length : Int) - 1 < (X.length : Int) + 1 := by omega
   have x3 : (j : Int) + (Y.length : Int) - 2 < (X.length : Int) + 1 := by omega
   have x4 : (Y.length : Int) - 1 < (Y.length : Int) := by omega
   have x5 : (Y.length : Int) - 2 < (Y.length : Int) := by omega
   clear hnn
   go_wp2_with fail
   refine wp_hoist [(0, true), (1, true), (2, true), (3, true), (4, true), (5, true), (6, true), (7, true), (8, true), (9, true), (10, true), (11, true), (12, true), (13, true), (14, true), (15, true), (16, true), (17, true), (18, true), (19, true), (20, true), (21, true), (22, true), (23, true), (24, true), (25, true), (26, true), (27, true), (28, true), (29, true), (30, false), (31, false)] (fun W => W.cell? ⟨w.heap.size, j + N + 2, none⟩ = some (.int .u64 (xa : Nat)) ∧ W.cell? ⟨w.heap.size, j + N + 1, none⟩ = some (.int .u64 (xb : Nat)) ∧ W.cell? ⟨w.heap.size, j + N, none⟩ = some (.int .u64 (xc : Nat)) ∧ W.cell? ⟨w1.heap.size, N + 1, none⟩ = some (.int .u64 (v : Nat)) ∧ W.cell? ⟨w1.heap.size, N, none⟩ = some (.int .u64 (w0 : Nat))) (by kernel_rfl) (by kernel_rfl) ?_ ?_
   · exact ⟨q1, q2, q3, q4, q5⟩
   refine hz_yes (v := ?_) rfl (by kernel_rfl) (fun W hW => ?_) ?_; rotate_left; (go_simp; try with_reducible rfl)
   (try (conv => arg 6; simp only [Act.put, gL]))
   refine hz_yes (v := ?_) rfl (by kernel_rfl) (fun W hW => ?_) ?_; rotate_left; (go_simp; try with_reducible rfl)
   (try (conv => arg 6; simp only [Act.put, gL]))
   refine hz_yes (v := ?_) rfl (by kernel_rfl) (fun W hW => ?_) ?_; rotate_left; (go_simp; try with_reducible rfl)
   (try (conv => arg 6; simp only [Act.put, gL]))
   refine hz_yes (v := ?_) rfl (by kernel_rfl) (fun W hW => ?_) ?_; rotate_left; (go_simp; try with_reducible rfl)
   (try (conv => arg 6; simp only [Act.put, gL]))
   refine hz_yes (v := ?_) rfl (by kernel_rfl) (fun W hW => ?_) ?_; rotate_left; (go_simp; try with_reducible rfl)
   (try (conv => arg 6; simp only [Act.put, gL]))
   refine hz_yes (v := ?_) rfl (by kernel_rfl) (fun W hW => ?_) ?_; rotate_left; (obtain ⟨y1, y2, y3, y4, y5⟩ := hW; go_simp; try with_reducible rfl)
   (try (conv => arg 6; simp only [Act.put, gL]))
   refine hz_yes (v := ?_) rfl (by kernel_rfl) (fun W hW => ?_) ?_; rotate_left; (go_simp; try with_reducible rfl)
   (try (conv => arg 6; simp only [Act.put, gL]))
   refine hz_yes (v := ?_) rfl (by kernel_rfl) (fun W hW => ?_) ?_; rotate_left; (go_simp; try with_reducible rfl)
   (try (conv => arg 6; simp only [Act.put, gL]))
   refine hz_yes (v := ?_) rfl (by kernel_rfl) (fun W hW => ?_) ?_; rotate_left; (go_simp; try with_reducible rfl)
   (try (conv => arg 6; simp only [Act.put, gL]))
   refine hz_yes (v := ?_) rfl (by kernel_rfl) (fun W hW => ?_) ?_; rotate_left; (go_simp; try with_reducible rfl)
   (try (conv => arg 6; simp only [Act.put, gL]))
   refine hz_yes (v := ?_) rfl (by kernel_rfl) (fun W hW => ?_) ?_; rotate_left; (go_simp; try with_reducible rfl)
   (try (conv => arg 6; simp only [Act.put, gL]))
   refine hz_yes (v := ?_) rfl (by kernel_rfl) (fun W hW => ?_) ?_; rotate_left; (go_simp; try with_reducible rfl)
   (try (conv => arg 6; simp only [Act.put, gL]))
   refine hz_yes (v := ?_) rfl (by kernel_rfl) (fun W hW => ?_) ?_; rotate_left; (obtain ⟨y1, y2, y3, y4, y5⟩ := hW; go_simp; try with_reducible rfl)
   (try (conv => arg 6; simp only [Act.put, gL]))
   refine hz_yes (v := ?_) rfl (by kernel_rfl) (fun W hW => ?_) ?_; rotate_left; (go_simp; try with_reducible rfl)
   (try (conv => arg 6; simp only [Act.put, gL]))
   refine hz_yes (v := ?_) rfl (by kernel_rfl) (fun W hW => ?_) ?_; rotate_left; (go_simp; try with_reducible rfl)
   (try (conv => arg 6; simp only [Act.put, gL]))
   refine hz_yes (v := ?_) rfl (by kernel_rfl) (fun W hW => ?_) ?_; rotate_left; (go_simp; try with_reducible rfl)
   (try (conv => arg 6; simp only [Act.put, gL]))
   refine hz_yes (v := ?_) rfl (by kernel_rfl) (fun W hW => ?_) ?_; rotate_left; (go_simp; try with_reducible rfl)
   (try (conv => arg 6; simp only [Act.put, gL]))
   refine hz_yes (v := ?_) rfl (by kernel_rfl) (fun W hW => ?_) ?_; rotate_left; (go_simp; try with_reducible rfl)
   (try (conv => arg 6; simp only [Act.put, gL]))
   refine hz_yes (v := ?_) rfl (by kernel_rfl) (fun W hW => ?_) ?_; rotate_left; (go_simp; try with_reducible rfl)
   (try (conv => arg 6; simp only [Act.put, gL]))
   refine hz_yes (v := ?_) rfl (by kernel_rfl) (fun W hW => ?_) ?_; rotate_left; (obtain ⟨y1, y2, y3, y4, y5⟩ := hW; go_simp; try with_reducible rfl)
   (try (conv => arg 6; simp only [Act.put, gL]))
   refine hz_yes (v := ?_) rfl (by kernel_rfl) (fun W hW => ?_) ?_; rotate_left; (go_simp; try with_reducible rfl)
   (try (conv => arg 6; simp only [Act.put, gL]))
   refine hz_yes (v := ?_) rfl (by kernel_rfl) (fun W hW => ?_) ?_; rotate_left; (go_simp; try with_reducible rfl)
   (try (conv => arg 6; simp only [Act.put, gL]))
   refine hz_yes (v := ?_) rfl (by kernel_rfl) (fun W hW => ?_) ?_; rotate_left; (go_simp; try with_reducible rfl)
   (try (conv => arg 6; simp only [Act.put, gL]))
   refine hz_yes (v := ?_) rfl (by kernel_rfl) (fun W hW => ?_) ?_; rotate_left; (go_simp; try with_reducible rfl)
   (try (conv => arg 6; simp only [Act.put, gL]))
   refine hz_yes (v := ?_) rfl (by kernel_rfl) (fun W hW => ?_) ?_; rotate_left; (obtain ⟨y1, y2, y3, y4, y5⟩ := hW; go_simp; try with_reducible rfl)
   (try (conv => arg 6; simp only [Act.put, gL]))
   refine hz_yes (v := ?_) rfl (by kernel_rfl) (fun W hW => ?_) ?_; rotate_left; (go_simp; try with_reducible rfl)
   (try (conv => arg 6; simp only [Act.put, gL]))
   refine hz_yes (v := ?_) rfl (by kernel_rfl) (fun W hW => ?_) ?_; rotate_left; (go_simp; try with_reducible rfl)
   (try (conv => arg 6; simp only [Act.put, gL]))
   refine hz_yes (v := ?_) rfl (by kernel_rfl) (fun W hW => ?_) ?_; rotate_left; (go_simp; try with_reducible rfl)
   (try (conv => arg 6; simp only [Act.put, gL]))
   refine hz_yes (v := ?_) rfl (by kernel_rfl) (fun W hW => ?_) ?_; rotate_left; (go_simp; try with_reducible rfl)
   (try (conv => arg 6; simp only [Act.put, gL]))
   refine hz_yes (v := ?_) rfl (by kernel_rfl) (fun W hW => ?_) ?_; rotate_left; (obtain ⟨y1, y2, y3, y4, y5⟩ := hW; go_simp; try with_reducible rfl)
   (try (conv => arg 6; simp only [Act.put, gL]))
   refine hz_eff rfl (by kernel_rfl) (fun K hK => ?_)
   go_simp
   refine (HG.out _).mono ?_
   rintro e wq ⟨val, rfl, hbq, d, rfl, hdB, hdQ⟩
   refine hK.out _ _ ?_ ?_
   · exact ⟨ext_cell hbq q1, ext_cell hbq q2, ext_cell hbq q3, ext_cell hbq q4, ext_cell hbq q5⟩
   clear hK K
   (try (conv => arg 6; simp only [Act.put, gL]))
   refine hz_eff rfl (by kernel_rfl) (fun K hK => ?_)
   go_simp
   refine hK.out _ _ ?_ ?_
   · exact ⟨ext_cell hbq q1, ext_cell hbq q2, ext_cell hbq q3, ext_cell hbq q4, ext_cell hbq q5⟩
   clear hK K
   (try (conv => arg 6; simp only [Act.put, gL]))
   refine hz_nil ?_
   clear q1 q2 q3 q4 q5 t2 t3 t4 t5 u1 u2 u3 u4 u5 v2 v3 v4 v5 v6 v7 v8 v9 x2 x3 x4 x5 HG
   have t6 : IntKind.i64.wrap ((j : Int) + (Y.length : Int) + 1) = (j : Int) + (Y.length : Int) + 1 := i64w (by omega) (by omega)
   have u6 : ((j : Int) + (Y.length : Int) + 1).toNat = j + Y.length + 1 := by omega
   have v6 : 0 ≤ (j : Int) + (Y.length : Int) + 1 := by omega
   have x6 : (j : Int) + (Y.length : Int) + 1 ≤ (X.length : Int) + 1 := by omega
   have x7 : (j : Int) ≤ (j : Int) + (Y.length : Int) + 1 := by omega
   have HDB := Lib.hid hdB
   have HDQ := Lib.hid (hdQ Q HQB.out HQO.out)
   clear hdB hdQ
   have hbw : Ext wr wq := ⟨hbq.os, hbq.tape, hbq.output, hbq.size, hbq.block⟩
   have hbe : Below w.heap.size w wq := Below.trans hb (Below.mono hbw hb.size)
   have hox3 := HOX'.out.ext hbw
   have hoy3 := HOY'.out.ext hbw
   have hoq3 := HOQ'.out.ext hbw
   have hle := less_c wq w.heap.size j (X.length + 1 - j) Y.length d (some ⟨w1.heap.size, 0, none⟩) Lx ly hox3 HD1.out (by rw [HLY1.out, HL1.out]; omega) (own_words hoy3 HLY2.out _ (by rw [HLY1.out]; exact Nat.le_refl _)) (by intro g o e; injection e with e; injection e with e1 e2; omega) HDB.out (by rw [HL1.out]; omega)
   rw [HLY1.out] at hle
   have HLE := Lib.hid hle
   have HOY3 := Lib.hid hoy3
   have HOQ3 := Lib.hid hoq3
   clear hle hox3 hoy3 hoq3 hbq hbw hb HOX' HOY' HOQ'
   go_wp2_with fail
   rw [show j + Y.length + 1 - j = Y.length + 1 from by omega]
   refine HLE.out.mono ?_
   rintro e w4 ⟨L1, un1, rfl, hun1, hin1, heq1⟩
   rw [HLY1.out] at heq1
   have HIN1 := Lib.hid hin1
   have HEQ1 := Lib.hid heq1
   clear hin1 heq1 HLE t1 t6 u6 v1 v6 x1 x6 x7
   go_wp2_with fail
   go_loopw [12, 14] (fun td tu wr => ∃ (d un : Nat) (L' : List Nat), td = .int .u64 (d : Int) ∧ tu = .bool (!decide (un = 0)) ∧ un ≤ 1 ∧ d < B64 ∧ Q ≤ d ∧ InPlace w.heap.size j ly.length Lx wq wr L' ∧ vl B64 L' + B64 ^ j * (d * vl B64 ly) = vl B64 Lx + B64 ^ (j + Y.length + 1) * un) (fun td _ _ => (intOf td).toNat)
   case atStart => exact ⟨d, un1, L1, rfl, rfl, hun1, HDB.out, HDQ.out, HIN1.out, HEQ1.out⟩
   case round =>
    clear HIN1 HEQ1 HDB HDQ hun1
    obtain ⟨d, un, L', rfl, rfl, hun, hdB, hdQ, hin, heq⟩ := hrel
    have HDB := Lib.hid hdB
    have HDQ := Lib.hid hdQ
    have HIN := Lib.hid hin
    have HEQ := Lib.hid heq
    clear hdB hdQ hin heq
    have HLTB : Hid (vl B64 Lx < B64 ^ (j + Y.length + 1)) := by
     refine Nat.lt_of_lt_of_le HLT.out ?_
     have e : B64 ^ (j + Y.length + 1) = B64 ^ (N + 2) * B64 ^ (j + 1) := by rw [← Nat.pow_add, HN.out]; congr 1; omega
     rw [e]; exact Nat.mul_le_mul_right _ (Nat.le_of_lt HVB1.out)
    have HLT' : Hid (vl B64 L' < B64 ^ (j + Y.length + 1)) := lt_of_same B64_pos HLTB.out HIN.out.lt (fun p hp => HIN.out.same p (by rw [HLY1.out]; omega))
    rcases Nat.eq_zero_or_pos un with rfl | hun0
    ·
     have hub : (!decide ((0 : Nat) = 0)) = false := rfl
     have hdone := long_done HVB.out EQ.out.symm HDQ.out (by have h := HEQ.out; rwa [Nat.mul_zero, Nat.add_zero] at h)
     have HDONE := Lib.hid hdone
     have hoq4 := HOQ3.out.but HIN.out.but (by omega)
     have hoc := hoq4.cell j _ (wv_get _ _ _ (by rw [HL2.out]; omega))
     have hof := hoq4.frozen j
     have HOQ4 := Lib.hid hoq4
     clear hdone hoq4
     rw [hub]
     go_wp2_with fail
     go_roundw
     case rel => exact ⟨j, by omega, rfl, ⟨Below.setCell (HIN.out.but.below hbe (Nat.le_refl _) hbe.size) (by show _ ≤ w2.heap.size; omega) _, (HOY3.out.but HIN.out.but (by omega)).other _ (by show _ ≠ w2.heap.size; omega), L', Lq.set j d, (HIN.out.own).other _ (by show _ ≠ w2.heap.size; omega), by rw [← wv_set]; exact HOQ4.out.set _ _, HIN.out.len.trans HL1.out, by rw [set_length]; exact HL2.out, HIN.out.lt, set_lt HD2.out _ _ HDB.out, long_round (by rw [HL2.out]; omega) HINV.out (by have h := HEQ.out; rwa [Nat.mul_zero, Nat.add_zero] at h), HDONE.out.2⟩⟩
     case measure => simp [intOf]
    ·
     obtain rfl : un = 1 := by omega
     have hub : (!decide ((1 : Nat) = 0)) = true := rfl
     have HGT := Lib.hid (long_more HVB.out EQ.out.symm (by have h := HEQ.out; rwa [Nat.mul_one] at h) HLT'.out)
     have hd1 : 1 ≤ d := by have := HGT.out; omega
     have hw2 : IntKind.u64.wrap ((d : Int) - 1) = (d : Int) - 1 := wrapI (by omega) (by have h : d < 18446744073709551616 := HDB.out; omega)
     have hmo := more_c wr w.heap.size j (X.length + 1 - j) Y.length (some ⟨w1.heap.size, 0, none⟩) L' ly HIN.out.own HIN.out.lt (by rw [HLY1.out, HIN.out.len, HL1.out]; omega) (own_words (HOY3.out.but HIN.out.but (by omega)) HLY2.out _ (by rw [HLY1.out]; exact Nat.le_refl _)) (by intro g o e; injection e with e; injection e with e1 e2; omega) (by rw [HIN.out.len, HL1.out]; omega)
     rw [HLY1.out] at hmo
     have HMO := Lib.hid hmo
     clear hmo
     rw [hub]
     go_wp2_with (go_at_call 135; refine HMO.out.mono ?_; rintro e w5 ⟨L2, c2', rfl, hc2, hin2, heq2⟩; rw [HLY1.out] at heq2; have HIN2 := Lib.hid hin2; have HEQ2 := Lib.hid heq2; clear hin2 heq2)
     go_roundw
     case rel => exact ⟨d - 1, 1 - c2', L2, vint (by omega), bool_flip hc2, by omega, by have := HDB.out; omega, by have := HGT.out; omega, HIN.out.trans HIN2.out, long_add HEQ.out HEQ2.out (by omega) hc2⟩
     case measure => simp [intOf]; omega
end Go.Proofs.YtadpjidakippeaaGreat

namespace Go.Proofs.YtadpjidakippeaaGreat
open Go.RowKit
theorem mul_carry {x y c o : Nat} (hx : x < B64) (hy : y < B64) (hc : c < B64) (ho : o < B64) :
  (o + (x * y % B64 + c) % B64) % B64 = (x * y + c + o) % B64 ∧ x * y / B64 + (x * y % B64 + c) / B64 + (o + (x * y % B64 + c) % B64) / B64 = (x * y + c + o) / B64 ∧ (x * y + c + o) / B64 < B64 := by
 have hp : x * y ≤ 18446744073709551615 * 18446744073709551615 := Nat.mul_le_mul (by rw [B64_eq] at hx; omega) (by rw [B64_eq] at hy; omega)
 generalize x * y = P at *
 rw [B64_eq] at *
 omega
theorem mul_inner {b p s o t : Nat} {cur : List Nat} (hp : p < cur.length) (ho : cur.getD p 0 = o) (hs : s = t + o) :
  vl b (cur.set p (s % b)) + b ^ (p + 1) * (s / b) = vl b cur + b ^ p * t := by
 have h1 := vl_set b cur p (s % b) hp
 have h2 := Nat.div_add_mod s b
 have h3 : b ^ p * (b * (s / b) + s % b) = b ^ p * (t + o) := by rw [h2, hs]
 rw [ho] at h1
 rw [Nat.pow_succ]
 grind
theorem mul_rel {b i j cc o s t x y : Nat} {cur cur0 Y : List Nat} (hv : vl b cur = t) (ht : t + b ^ (i + j) * cc = vl b cur0 + b ^ i * (x * vl b (Y.take j))) (hp : i + j < cur.length) (ho : cur.getD (i + j) 0 = o) (hs : x * y + cc + o = s) (hy : Y.getD j 0 = y) :
  vl b (cur.set (i + j) (s % b)) + b ^ (i + (j + 1)) * (s / b) = vl b cur0 + b ^ i * (x * vl b (Y.take (j + 1))) := by
 have h := mul_inner (b := b) hp ho hs.symm
 rw [← Nat.add_assoc, h, hv, vl_take_succ, hy]
 rw [Nat.pow_add] at *
 grind
theorem mul_rel2 {b i cc t x : Nat} {cur cur0 X Y : List Nat} (hv0 : vl b cur0 = vl b (X.take i) * vl b Y) (hv : vl b cur = t) (ht : t + b ^ (i + Y.length) * cc = vl b cur0 + b ^ i * (x * vl b (Y.take Y.length))) (hp : i + Y.length < cur.length) (hz : cur.getD (i + Y.length) 0 = 0) (hx : X.getD i 0 = x) :
  vl b (cur.set (i + Y.length) cc) = vl b (X.take (i + 1)) * vl b Y := by
 have h := vl_set b cur (i + Y.length) cc hp
 rw [hz] at h
 rw [List.take_of_length_le (Nat.le_refl _)] at ht
 rw [vl_take_succ, hx]
 grind
/-- What is known at the head of Mul's outer loop. -/
structure MulIn (w wr : World) (X Y : List Nat) (i : Nat) (A2 : Option Addr) (c2 : Nat) (t : Nat) : Prop where
 below : Below w.heap.size w wr
 b2 : wr.cell? ⟨w.heap.size + 1, 0, none⟩ = some (.slice A2 Y.length c2)
 r1 : wr.cell? ⟨w.heap.size + 1 + 1, 0, none⟩ = some (.slice none 0 0)
 r2 : wr.frozen? ⟨w.heap.size + 1 + 1, 0, none⟩ = false
 st : ∃ cur, Own wr (w.heap.size + 1 + 1 + 1) 101 (wv .u64 cur) ∧ cur.length = X.length + Y.length ∧ (∀ x ∈ cur, x < B64) ∧ vl B64 cur = t ∧ ∀ p, i + Y.length ≤ p → cur.getD p 0 = 0
set_option maxRecDepth 100000 in
set_option maxHeartbeats 2000000 in
theorem mul_w (w : World) (A1 A2 : Option Addr) (c1 c2 : Nat) (X Y : List Nat) (h1 : Words .u64 B64 w A1 c1 X) (h2 : Words .u64 B64 w A2 c2 Y) (b1 : X.length ≤ 1099511627776) (b2 : Y.length ≤ 1099511627776) :
  Calls Tryz.prog 79 #[.agg #[.slice A1 X.length c1], .agg #[.slice A2 Y.length c2]] w (Post w fun v w' => rNat w' v (vl B64 X * vl B64 Y)) := by
 have Hw := Lib.hid h1
 have Hu := Lib.hid h2
 have hmk := mk64 ((X.length : Int) + (Y.length : Int)) (X.length + Y.length) (by omega) (by omega)
 clear h1 h2
 go_enter Tryz.func79, Tryz.ntmps79
 go_wp2_with fail
 clear hmk
 go_loopw [25] (fun ti wr => ∃ i : Nat, i ≤ X.length ∧ ti = .int .i64 (i : Int) ∧ MulIn w wr X Y i A2 c2 (vl B64 (X.take i) * vl B64 Y)) (fun ti _ => X.length - (intOf ti).toNat)
 case atStart => exact ⟨0, Nat.zero_le _, rfl, ⟨(by repeat (first | assumption | exact nB1 _ _ | refine nB2 ?_ | refine pw_below_drewN ?_ _ | refine nB3 ?_ (by first | omega | (simp <;> omega)) _ | refine nB4 ?_ (by first | omega | (simp <;> omega)) _ | refine nB5 ?_ (by assumption) (by first | omega | (simp <;> omega)))), by go_simp, by go_simp, by go_simp, _, own_zero' _ _ _ _ _ (by first | omega | (simp <;> omega)), by simp, zeros_lt (by decide) _, by rw [vl_zeros]; simp [vl], fun p _ => by simp [List.getD_eq_getElem?_getD, List.getElem?_replicate]; split <;> rfl⟩⟩
 case round =>
  obtain ⟨i, hi, rfl, ⟨hb, hb2, hr1, hr2, cur0, hown, hcl, hlt, hv, hz⟩⟩ := hrel
  have HV := Lib.hid hv
  have HO := Lib.hid hown
  have HL := Lib.hid hcl
  have Hlt := Lib.hid hlt
  have HZ := Lib.hid hz
  have hl4 := hown.lt
  clear hv hown hcl hlt hz
  rcases Nat.lt_or_ge i X.length with hix | hix
  ·
   obtain ⟨g1, o1, rfl, hcl1⟩ := Hw.out.2.2 (by intro e; rw [e] at hix; simp at hix)
   have hx := hcl1 i hix
   replace hx := hb.cell (World.block_lt_of_cell? w _ hx) |>.trans hx
   obtain ⟨x, ex⟩ : ∃ x, X.getD i 0 = x := ⟨_, rfl⟩
   rw [ex] at hx
   have Ex := Lib.hid ex
   have HXB : Hid (x < B64) := by have := Hw.out.2.1; show _ < _; rw [← ex]; exact getD_lt this (by decide) _
   clear ex hcl1
   go_wp2_with fail
   obtain ⟨wo, rfl⟩ : ∃ wo : World, wo = wr := ⟨_, rfl⟩
   go_loopw [8, 33] (fun c tj wr => ∃ (j cc : Nat), j ≤ Y.length ∧ tj = .int .i64 (j : Int) ∧ c = .int .u64 (cc : Int) ∧ cc < B64 ∧ ∃ t, t + B64 ^ (i + j) * cc = vl B64 cur0 + B64 ^ i * (x * vl B64 (Y.take j)) ∧ MulIn w wr X Y i A2 c2 t) (fun _ tj _ => Y.length - (intOf tj).toNat)
   case atStart => exact ⟨0, 0, Nat.zero_le _, rfl, rfl, by decide, vl B64 cur0, by simp [vl], ⟨hb, hb2, hr1, hr2, cur0, HO.out, HL.out, Hlt.out, rfl, HZ.out⟩⟩
   case round =>
    obtain ⟨j, cc, hj, rfl, rfl, hcc, t, ht, ⟨hb', hb2', hr1', hr2', cur, hown, hcl, hlt, hv, hz⟩⟩ := hrel
    have HV' := Lib.hid hv
    have HO' := Lib.hid hown
    have HL' := Lib.hid hcl
    have Hlt' := Lib.hid hlt
    have HZ' := Lib.hid hz
    have HT := Lib.hid ht
    have HCC := Lib.hid hcc
    have hl4' := hown.lt
    clear hv hown hcl hlt hz ht hcc
    rcases Nat.lt_or_ge j Y.length with hjy | hjy
    ·
     obtain ⟨g2, o2, rfl, hcl2⟩ := Hu.out.2.2 (by intro e; rw [e] at hjy; simp at hjy)
     have hy := hcl2 j hjy
     replace hy := hb'.cell (World.block_lt_of_cell? w _ hy) |>.trans hy
     obtain ⟨y, ey⟩ : ∃ y, Y.getD j 0 = y := ⟨_, rfl⟩
     rw [ey] at hy
     have Ey := Lib.hid ey
     have HYB : Hid (y < B64) := by have := Hu.out.2.1; show _ < _; rw [← ey]; exact getD_lt this (by decide) _
     clear ey hcl2
     obtain ⟨o, eo⟩ : ∃ o, cur.getD (i + j) 0 = o := ⟨_, rfl⟩
     have Eo := Lib.hid eo
     have hoc := HO'.out.cell (i + j) _ (wv_get _ _ _ (by rw [HL'.out]; omega))
     rw [eo] at hoc
     have hof := HO'.out.frozen (i + j)
     have HOB : Hid (o < B64) := by show _ < _; rw [← eo]; exact getD_lt Hlt'.out (by decide) _
     have hmc := mul_carry HXB.out HYB.out HCC.out HOB.out
     obtain ⟨h, eh⟩ : ∃ h, x * y / B64 = h := ⟨_, rfl⟩
     obtain ⟨lo, elo⟩ : ∃ lo, x * y % B64 = lo := ⟨_, rfl⟩
     rw [eh, elo] at hmc
     obtain ⟨l1, el1⟩ : ∃ l1, (lo + cc) % B64 = l1 := ⟨_, rfl⟩
     obtain ⟨k1, ek1⟩ : ∃ k1, (lo + cc) / B64 = k1 := ⟨_, rfl⟩
     rw [el1, ek1] at hmc
     obtain ⟨o2', eo2⟩ : ∃ z, (o + l1) % B64 = z := ⟨_, rfl⟩
     obtain ⟨k2, ek2⟩ : ∃ z, (o + l1) / B64 = z := ⟨_, rfl⟩
     rw [eo2, ek2] at hmc
     have hm := mul64_c x y HXB.out HYB.out
     rw [eh, elo] at hm
     have HM := Lib.hid hm
     have ha1 := add64_run lo cc 0 _ _ 0 rfl rfl rfl (by omega)
     rw [Nat.add_zero, el1, ek1] at ha1
     have ha2 := add64_run o l1 0 _ _ 0 rfl rfl rfl (by omega)
     rw [Nat.add_zero, eo2, ek2] at ha2
     obtain ⟨s, es⟩ : ∃ s, x * y + cc + o = s := ⟨_, rfl⟩
     rw [es] at hmc
     have HMC := Lib.hid hmc
     have hB : s / 18446744073709551616 < 18446744073709551616 := hmc.2.2
     have hB2 : h + k1 + k2 = s / 18446744073709551616 := hmc.2.1
     have hq1 : IntKind.u64.wrap ((h : Int) + (k1 : Int)) = (h : Int) + (k1 : Int) := wrapI (by omega) (by omega)
     have hq2 : IntKind.u64.wrap ((h : Int) + (k1 : Int) + (k2 : Int)) = (h : Int) + (k1 : Int) + (k2 : Int) := wrapI (by omega) (by omega)
     have Es := Lib.hid es
     clear hmc hB hB2 es eh elo el1 ek1 eo2 ek2 eo hm
     go_wp2_with (go_at_call 111; refine (HM.out _).mono ?_; rintro e w' ⟨rfl, rfl⟩)
     go_roundw
     case rel => exact ⟨j + 1, s / B64, by omega, by go_num, by rw [← HMC.out.2.1]; simp, HMC.out.2.2, _, mul_rel HV'.out HT.out (by rw [HL'.out]; omega) Eo.out Es.out Ey.out, ⟨(by repeat (first | assumption | exact nB1 _ _ | refine nB2 ?_ | refine pw_below_drewN ?_ _ | refine nB3 ?_ (by first | omega | (simp <;> omega)) _ | refine nB4 ?_ (by first | omega | (simp <;> omega)) _ | refine nB5 ?_ (by assumption) (by first | omega | (simp <;> omega)))), by go_simp, by go_simp, by go_simp, cur.set (i + j) (s % B64), by rw [← wv_set, ← HMC.out.1]; exact HO'.out.set _ _, by rw [set_length]; exact HL'.out, set_lt Hlt'.out _ _ (Nat.mod_lt _ (by decide)), rfl, fun p hp => by rw [lset_ne (by omega)]; exact HZ'.out p hp⟩⟩
     case measure => simp [intOf]; omega
    ·
     obtain rfl : j = Y.length := by omega
     have hnlt : ¬ (Y.length : Int) < (Y.length : Int) := by omega
     have hoc := HO'.out.cell (i + Y.length) _ (wv_get _ _ _ (by rw [HL'.out]; omega))
     have hof := HO'.out.frozen (i + Y.length)
     go_wp2_with fail
     go_roundw
     case rel => exact ⟨i + 1, by omega, by go_num, ⟨(by repeat (first | assumption | exact nB1 _ _ | refine nB2 ?_ | refine pw_below_drewN ?_ _ | refine nB3 ?_ (by first | omega | (simp <;> omega)) _ | refine nB4 ?_ (by first | omega | (simp <;> omega)) _ | refine nB5 ?_ (by assumption) (by first | omega | (simp <;> omega)))), by go_simp, by go_simp, by go_simp, cur.set (i + Y.length) cc, by rw [← wv_set]; exact HO'.out.set _ _, by rw [set_length]; exact HL'.out, set_lt Hlt'.out _ _ HCC.out, mul_rel2 HV.out HV'.out HT.out (by rw [HL'.out]; omega) (HZ'.out _ (Nat.le_refl _)) Ex.out, fun p hp => by rw [lset_ne (by omega)]; exact HZ'.out p (by omega)⟩⟩
     case measure => simp [intOf]; omega
  ·
   obtain rfl : i = X.length := by omega
   have hnlt : ¬ (X.length : Int) < (X.length : Int) := by omega
   have hl5 : w.heap.size + 1 + 1 < wr.heap.size := by omega
   have ht := trim_c wr (some ⟨w.heap.size + 1 + 1 + 1, 0, none⟩) (X.length + Y.length) cur0 (own_words HO.out Hlt.out _ (by rw [HL.out]; omega)) (by rw [HL.out]; omega)
   rw [HL.out] at ht
   have HT := Lib.hid ht
   clear ht
   go_wp2_with (go_at_call 113; refine HT.out.mono ?_; rintro e w2 ⟨v, rfl, hb2', A', c', l', rfl, hn⟩; have Hn := Lib.hid hn; clear hn; obtain ⟨hcw, hfw⟩ := bcell hb2')
   have hk1 : w2.cell? ⟨w.heap.size + 1 + 1, 0, none⟩ = some (.slice none 0 0) := (hcw _ _ (by first | omega | (simp <;> omega))).trans (by go_simp)
   have hk2 := World.cell?_setCell_same w2 ⟨w.heap.size + 1 + 1, 0, none⟩ (.slice A' l'.length c') hk1
   refine bodyPost_ret (v := .agg #[.slice A' l'.length c']) (by simp [results, Tryz.results79, go_sem, hk2]) rfl ⟨_, rfl, (by repeat (first | assumption | exact nB1 _ _ | refine nB2 ?_ | refine pw_below_drewN ?_ _ | refine nB3 ?_ (by first | omega | (simp <;> omega)) _ | refine nB4 ?_ (by first | omega | (simp <;> omega)) _ | refine nB5 ?_ (by assumption) (by first | omega | (simp <;> omega)))), ?_⟩
   obtain ⟨hwd, hnn, hvl⟩ := Hn.out
   exact ⟨A', c', l', rfl, hwd.set hk1 rfl, hnn, hvl.trans (by rw [HV.out, List.take_of_length_le (Nat.le_refl _)])⟩
end Go.Proofs.YtadpjidakippeaaGreat

namespace Go.Proofs.YtadpjidakippeaaGreat
open Go.RowKit
theorem of_c (n : Nat) (hn : n < B64) (w : World) : Calls Tryz.prog 86 #[.int .u64 (n : Int)] w (Post w fun v w' => rNat w' v n) := by
 have ht := fun W h => trim_c W (some ⟨w.heap.size + 1, 0, none⟩) 1 [n] h (by simp)
 have HT := Lib.hid ht
 have HN := Lib.hid hn
 clear ht hn
 go_enter Tryz.func86, Tryz.ntmps86
 go_wp2_with fail
 refine (HT.out _ ?_).mono ?_
 ·
  have ho := Own.new (w.alloc (.cells #[.slice none 0 0] 28)) 101 (wv .u64 [n])
  rw [World.size_alloc] at ho
  exact own_words (l := [n]) ho (by simpa using HN.out) 1 (Nat.le_refl _)
 rintro e w1 ⟨v, rfl, hb1, A', c', l', rfl, hn⟩
 have Hn := Lib.hid hn
 clear hn
 obtain ⟨hcw, hfw⟩ := bcell hb1
 have hz := sz_lt (a := w.heap.size) hb1 (by first | omega | (simp <;> omega))
 go_wp2_with fail
 have hk1 : w1.cell? ⟨w.heap.size, 0, none⟩ = some (.slice none 0 0) := (hcw _ _ (by first | omega | (simp <;> omega))).trans (by go_simp)
 have hk2 := World.cell?_setCell_same w1 ⟨w.heap.size, 0, none⟩ (.slice A' l'.length c') hk1
 refine bodyPost_ret (v := .agg #[.slice A' l'.length c']) (by simp [results, Tryz.results86, go_sem, hk2]) rfl ⟨_, rfl, (by repeat (first | assumption | exact nB1 _ _ | refine nB2 ?_ | refine pw_below_drewN ?_ _ | refine nB3 ?_ (by first | omega | (simp <;> omega)) _ | refine nB4 ?_ (by first | omega | (simp <;> omega)) _ | refine nB5 ?_ (by assumption) (by first | omega | (simp <;> omega)))), ?_⟩
 obtain ⟨hwd, hnn, hvl⟩ := Hn.out
 exact ⟨A', c', l', rfl, hwd.set hk1 rfl, hnn, hvl.trans (by simp [vl])⟩
def SmallSaid (r : Value) (n : Nat) : Prop := r = .tuple #[.int .u64 ((if n < B64 then n else 0 : Nat) : Int), .bool (decide (n < B64))]
set_option maxHeartbeats 400000 in
theorem small_c (w : World) (v : Value) (n : Nat) (h : rNat w v n) :
  Calls Tryz.prog 105 #[v] w (Post w fun r _ => SmallSaid r n) := by
 obtain ⟨A, c, l, rfl, hw, hnn, hv⟩ := h
 have Hw := Lib.hid hw
 clear hw
 rcases Nat.lt_trichotomy l.length 1 with h1 | h1 | h1
 ·
  obtain rfl : l = [] := List.length_eq_zero_iff.1 (by omega)
  have hn0 : n = 0 := by rw [← hv]; rfl
  subst hn0
  clear hv h1
  go_enter Tryz.func105, Tryz.ntmps105
  go_wp2_with fail
  go_ret2
  exact ⟨_, rfl, (by repeat (first | assumption | exact nB1 _ _ | refine nB2 ?_ | refine pw_below_drewN ?_ _ | refine nB3 ?_ (by first | omega | (simp <;> omega)) _ | refine nB4 ?_ (by first | omega | (simp <;> omega)) _ | refine nB5 ?_ (by assumption) (by first | omega | (simp <;> omega)))), by unfold SmallSaid; rw [if_pos (by decide), show decide (0 < B64) = true by decide]; rfl⟩
 ·
  obtain ⟨x, rfl, hx, hxB, hx0⟩ := norm_one Hw.out.2.1 hnn h1
  rw [hx] at hv
  subst hv
  obtain ⟨g, o, rfl, hcl⟩ := Hw.out.2.2 (by simp)
  have hc0 : w.cell? ⟨g, o, none⟩ = some (.int .u64 (x : Nat)) := hcl 0 (by simp)
  have hg : g < w.heap.size := World.block_lt_of_cell? w _ hc0
  have HXB := Lib.hid hxB
  clear hcl h1 hx hnn hxB
  go_enter Tryz.func105, Tryz.ntmps105
  go_wp2_with fail
  go_ret2
  exact ⟨_, rfl, (by repeat (first | assumption | exact nB1 _ _ | refine nB2 ?_ | refine pw_below_drewN ?_ _ | refine nB3 ?_ (by first | omega | (simp <;> omega)) _ | refine nB4 ?_ (by first | omega | (simp <;> omega)) _ | refine nB5 ?_ (by assumption) (by first | omega | (simp <;> omega)))), by unfold SmallSaid; rw [if_pos HXB.out, show decide (x < B64) = true from decide_eq_true HXB.out]; rfl⟩
 ·
  have hge : ¬ (n < B64) := by
   have := vl_ge B64 l hnn (by intro e; rw [e] at h1; simp at h1)
   have h2 : B64 ^ 1 ≤ B64 ^ (l.length - 1) := Nat.pow_le_pow_right (by decide) (by omega)
   rw [Nat.pow_one] at h2
   omega
  have b0 : (((l.length : Nat) : Int) == 0) = false := by rw [beq_eq_false_iff_ne]; omega
  have b1 : (((l.length : Nat) : Int) == 1) = false := by rw [beq_eq_false_iff_ne]; omega
  have HG := Lib.hid hge
  clear hge hv hnn
  go_enter Tryz.func105, Tryz.ntmps105
  go_wp2_with fail
  go_ret2
  exact ⟨_, rfl, (by repeat (first | assumption | exact nB1 _ _ | refine nB2 ?_ | refine pw_below_drewN ?_ _ | refine nB3 ?_ (by first | omega | (simp <;> omega)) _ | refine nB4 ?_ (by first | omega | (simp <;> omega)) _ | refine nB5 ?_ (by assumption) (by first | omega | (simp <;> omega)))), by unfold SmallSaid; rw [if_neg HG.out, show decide (n < B64) = false from decide_eq_false HG.out]; rfl⟩
set_option maxHeartbeats 400000 in
theorem bits_c (w : World) (v : Value) (n : Nat) (h : rNat w v n) (hf : Fit n) :
  Calls Tryz.prog 70 #[v] w (Post w fun r _ => r = .int .i64 (bl n : Nat)) := by
 obtain ⟨A, c, l, rfl, hw, hnn, hv⟩ := h
 have hlen := hf.len hnn hv
 have Hw := Lib.hid hw
 clear hw hf
 rcases Nat.eq_zero_or_pos l.length with h1 | h1
 ·
  obtain rfl : l = [] := List.length_eq_zero_iff.1 h1
  have hn0 : n = 0 := by rw [← hv]; rfl
  subst hn0
  clear hv h1
  go_enter Tryz.func70, Tryz.ntmps70
  go_wp2_with fail
  go_ret
  exact ⟨_, rfl, (by repeat (first | assumption | exact nB1 _ _ | refine nB2 ?_ | refine pw_below_drewN ?_ _ | refine nB3 ?_ (by first | omega | (simp <;> omega)) _ | refine nB4 ?_ (by first | omega | (simp <;> omega)) _ | refine nB5 ?_ (by assumption) (by first | omega | (simp <;> omega)))), rfl⟩
 ·
  obtain ⟨m, hm⟩ : ∃ m, l.length = m + 1 := ⟨l.length - 1, by omega⟩
  obtain ⟨g, o, rfl, hcl⟩ := Hw.out.2.2 (by intro e; rw [e] at h1; simp at h1)
  have hc0 := hcl m (by omega)
  have hg : g < w.heap.size := World.block_lt_of_cell? w _ hc0
  obtain ⟨x, ex⟩ : ∃ x, l.getD m 0 = x := ⟨_, rfl⟩
  rw [ex] at hc0
  have hxB : x < B64 := by rw [← ex]; exact getD_lt Hw.out.2.1 B64_pos _
  have hbl := bl_top Hw.out.2.1 hnn hm ex
  rw [hv] at hbl
  have hb64 : bl x ≤ 64 := bl_le_of_lt (by rw [← B64_pow]; exact hxB)
  have HBL := Lib.hid hbl
  have HL := Lib.hid (len64_c x)
  have HXB := Lib.hid hxB
  have HM := Lib.hid hm
  have b0 : (((l.length : Nat) : Int) == 0) = false := by rw [beq_eq_false_iff_ne]; omega
  have s1 : IntKind.i64.wrap ((l.length : Int) - 1) = (l.length : Int) - 1 := i64w (by omega) (by omega)
  have s2 : 0 ≤ (l.length : Int) - 1 := by omega
  have s3 : ((l.length : Int) - 1).toNat = m := by omega
  have s4 : 1 ≤ (l.length : Int) := by omega
  have s5 : (l.length : Int) - 1 < (l.length : Int) := by omega
  have s6 : IntKind.i64.wrap ((64 : Int) * ((l.length : Int) - 1)) = (64 : Int) * ((l.length : Int) - 1) := i64w (by omega) (by omega)
  have s7 : IntKind.i64.wrap ((64 : Int) * ((l.length : Int) - 1) + (bl x : Int)) = (64 : Int) * ((l.length : Int) - 1) + (bl x : Int) := i64w (by omega) (by omega)
  clear hv hnn hcl ex hxB hbl hm
  go_enter Tryz.func70, Tryz.ntmps70
  go_wp2_with fail
  refine wp_hoist [(0, true), (1, true), (2, true), (3, true), (4, true), (5, true), (6, true), (7, true), (8, true), (9, true), (10, true), (11, true), (12, true), (13, false), (14, true), (15, false)] (fun W => W.cell? ⟨w.heap.size, 0, none⟩ = some (.slice (some ⟨g, o, none⟩) l.length c) ∧ W.cell? ⟨g, o + m, none⟩ = some (.int .u64 (x : Nat))) (by kernel_rfl) (by kernel_rfl) ?_ ?_
  · exact ⟨by go_simp, by go_simp⟩
  refine hz_yes (v := ?_) rfl (by kernel_rfl) (fun W hW => ?_) ?_; rotate_left; (go_simp; try with_reducible rfl)
  (try (conv => arg 6; simp only [Act.put, gL]))
  refine hz_yes (v := ?_) rfl (by kernel_rfl) (fun W hW => ?_) ?_; rotate_left; (obtain ⟨y1, y2⟩ := hW; go_simp; try with_reducible rfl)
  (try (conv => arg 6; simp only [Act.put, gL]))
  refine hz_yes (v := ?_) rfl (by kernel_rfl) (fun W hW => ?_) ?_; rotate_left; (go_simp; try with_reducible rfl)
  (try (conv => arg 6; simp only [Act.put, gL]))
  refine hz_yes (v := ?_) rfl (by kernel_rfl) (fun W hW => ?_) ?_; rotate_left; (go_simp; try with_reducible rfl)
  (try (conv => arg 6; simp only [Act.put, gL]))
  refine hz_yes (v := ?_) rfl (by kernel_rfl) (fun W hW => ?_) ?_; rotate_left; (go_simp; try with_reducible rfl)
  (try (conv => arg 6; simp only [Act.put, gL]))
  refine hz_yes (v := ?_) rfl (by kernel_rfl) (fun W hW => ?_) ?_; rotate_left; (go_simp; try with_reducible rfl)
  (try (conv => arg 6; simp only [Act.put, gL]))
  refine hz_yes (v := ?_) rfl (by kernel_rfl) (fun W hW => ?_) ?_; rotate_left; (obtain ⟨y1, y2⟩ := hW; go_simp; try with_reducible rfl)
  (try (conv => arg 6; simp only [Act.put, gL]))
  refine hz_yes (v := ?_) rfl (by kernel_rfl) (fun W hW => ?_) ?_; rotate_left; (go_simp; try with_reducible rfl)
  (try (conv => arg 6; simp only [Act.put, gL]))
  refine hz_yes (v := ?_) rfl (by kernel_rfl) (fun W hW => ?_) ?_; rotate_left; (obtain ⟨y1, y2⟩ := hW; go_simp; try with_reducible rfl)
  (try (conv => arg 6; simp only [Act.put, gL]))
  refine hz_yes (v := ?_) rfl (by kernel_rfl) (fun W hW => ?_) ?_; rotate_left; (go_simp; try with_reducible rfl)
  (try (conv => arg 6; simp only [Act.put, gL]))
  refine hz_yes (v := ?_) rfl (by kernel_rfl) (fun W hW => ?_) ?_; rotate_left; (go_simp; try with_reducible rfl)
  (try (conv => arg 6; simp only [Act.put, gL]))
  refine hz_yes (v := ?_) rfl (by kernel_rfl) (fun W hW => ?_) ?_; rotate_left; (go_simp; try with_reducible rfl)
  (try (conv => arg 6; simp only [Act.put, gL]))
  refine hz_yes (v := ?_) rfl (by kernel_rfl) (fun W hW => ?_) ?_; rotate_left; (obtain ⟨y1, y2⟩ := hW; go_simp; try with_reducible rfl)
  (try (conv => arg 6; simp only [Act.put, gL]))
  refine hz_eff rfl (by kernel_rfl) (fun K hK => ?_)
  go_simp
  refine (HL.out _ HXB.out).mono ?_
  rintro e wq ⟨rfl, rfl⟩
  refine hK.out _ _ ?_ ?_
  · exact ⟨by go_simp, by go_simp⟩
  clear hK K
  (try (conv => arg 6; simp only [Act.put, gL]))
  refine hz_yes (v := ?_) rfl (by kernel_rfl) (fun W hW => ?_) ?_; rotate_left; (go_simp; try with_reducible rfl)
  (try (conv => arg 6; simp only [Act.put, gL]))
  refine hz_eff rfl (by kernel_rfl) (fun K hK => ?_)
  go_simp
  refine hK.out _ _ ?_ ?_
  · exact ⟨by go_simp, by go_simp⟩
  clear hK K
  (try (conv => arg 6; simp only [Act.put, gL]))
  refine hz_nil ?_
  go_wp2
  go_ret
  exact ⟨_, rfl, (by repeat (first | assumption | exact nB1 _ _ | refine nB2 ?_ | refine pw_below_drewN ?_ _ | refine nB3 ?_ (by first | omega | (simp <;> omega)) _ | refine nB4 ?_ (by first | omega | (simp <;> omega)) _ | refine nB5 ?_ (by assumption) (by first | omega | (simp <;> omega)))), vint (by have := HBL.out; have := HM.out; omega)⟩
end Go.Proofs.YtadpjidakippeaaGreat
