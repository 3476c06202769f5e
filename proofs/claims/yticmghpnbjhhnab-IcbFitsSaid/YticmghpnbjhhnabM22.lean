/- Lean functions with the answers of the Go functions that they are named after, and the walks that tie the Go functions to them (written by the program mp.py of this session). -/
import Derived.Test.YticmghpnbjhhnabM0
import Derived.Test.YticmghpnbjhhnabM7
import Derived.Test.YticmghpnbjhhnabM11
import Derived.Test.YticmghpnbjhhnabM17
import Derived.Test.YticmghpnbjhhnabM20
namespace Go.Proofs.Yticmghpnbjhhnab.M
open Go.RowKit Go.Proofs.YticmghpnbjhhnabW.PrintWords Go.Proofs.YticmghpnbjhhnabW.PrintLast Go.Proofs.YticmghpnbjhhnabW.PrintMore
attribute [local go_sem] fieldA50_0 fieldA102_0 max2_int min2_int max_two min_two max_three min_three max_four min_four   -- for this text's walks alone
set_option linter.unusedVariables false
set_option linter.unusedSimpArgs false

/-! ### masterdisclaw34_IcbFits: function 5 -/
def masterdisclaw34_IcbFits.ok (a0_0 : Bool) (a0_11 : ByteArray) (l0_12 : List (S69)) (a0_13 : ByteArray) (rm : Int) : Bool := decide (wrap64 ((a0_11.size : Int) + wrap64 (16 * (l0_12.length : Int))) ≤ rm) && decide ((a0_13.size : Int) ≤ wrap64 (2048 - (if a0_0 = true then 216 else 176)))
def masterdisclaw34_IcbFits.f (k : Nat) (a0_0 : Bool) (a0_1 : Int) (a0_2 : Int) (a0_3 : Int) (a0_4 : Int) (a0_5 : Int) (a0_6 : Int) (a0_7 : Int) (a0_8 : Int) (a0_9 : Int) (a0_10 : Bool) (a0_11 : ByteArray) (l0_12 : List (S69)) (a0_13 : ByteArray) (a0_14 : Bool) (a0_15 : Int) (a0_16 : Int) (a1 : Int) : Option Bool := (masterdisclaw34_awake.f k).bind fun aw => if aw = true then (masterdiscref34_Few.f a0_0 a0_1 a0_2 a0_3 a0_4 a0_5 a0_6 a0_7 a0_8 a0_9 a0_10 a0_11 l0_12 a0_13 a0_14 a0_15 a0_16).bind (fun fw => if fw = true then (icb_Valid.f k a0_0 a0_1 a0_2 a0_3 a0_4 a0_5 a0_6 a0_7 a0_8 a0_9 a0_10 a0_11 l0_12 a0_13 a0_14 a0_15 a0_16).bind (fun v => if v = true then (icb_Room.f a0_0 a0_1 a0_2 a0_3 a0_4 a0_5 a0_6 a0_7 a0_8 a0_9 a0_10 a0_11 l0_12 a0_13 a0_14 a0_15 a0_16).bind (fun rm => (icb_Encode.f k a0_0 a0_1 a0_2 a0_3 a0_4 a0_5 a0_6 a0_7 a0_8 a0_9 a0_10 a0_11 l0_12 a0_13 a0_14 a0_15 a0_16 (wrap64 a1)).bind fun bb => if (if masterdisclaw34_IcbFits.ok a0_0 a0_11 l0_12 a0_13 rm = true then bb.2 = 0 else bb.2 = 12) then some true else none) else some true) else some true) else none
set_option maxHeartbeats 16000000 in
set_option maxRecDepth 100000 in
theorem masterdisclaw34_IcbFits.calls (k : Nat) (a0_0 : Bool) (a0_1 : Int) (a0_2 : Int) (a0_3 : Int) (a0_4 : Int) (a0_5 : Int) (a0_6 : Int) (a0_7 : Int) (a0_8 : Int) (a0_9 : Int) (a0_10 : Bool) (a0_11 : ByteArray) (A0_12 : Option Addr) (c0_12 : Nat) (l0_12 : List (S69)) (a0_13 : ByteArray) (a0_14 : Bool) (a0_15 : Int) (a0_16 : Int) (a1 : Int) (r : Bool) (w : World) (hr0_12 : Kd.C k69 w A0_12 l0_12.length l0_12) (hc0_12 : l0_12.length ≤ c0_12) (htr : Aside0 (r = true)) (h : masterdisclaw34_IcbFits.f k a0_0 a0_1 a0_2 a0_3 a0_4 a0_5 a0_6 a0_7 a0_8 a0_9 a0_10 a0_11 l0_12 a0_13 a0_14 a0_15 a0_16 a1 = some r) :
  Calls Try.prog 5 #[.agg #[.bool a0_0, .int .i64 a0_1, .int .i64 a0_2, .int .i64 a0_3, .int .i64 a0_4, .int .i64 a0_5, .int .i64 a0_6, .int .i64 a0_7, .int .i64 a0_8, .int .i64 a0_9, .bool a0_10, .string a0_11, .slice A0_12 l0_12.length c0_12, .string a0_13, .bool a0_14, .int .i64 a0_15, .int .i64 a0_16], .int .u32 a1] w fun e w' => e = .returned (.bool r) ∧ Below w.heap.size w w' := by
 have hu31 := Try.underlying31
 have HR := Aside0.mk hr0_12
 have HC := Aside0.mk hc0_12
 clear hr0_12 hc0_12
 have HB0 := Aside0.mk (Below.refl w.heap.size w)
 unfold masterdisclaw34_IcbFits.f at h
 obtain ⟨aw, x_, h⟩ := Option.bind_eq_some_iff.1 h
 have XA := Aside0.mk x_
 clear x_
 by_cases caw : aw = true
 rotate_left
 ·rw [if_neg caw] at h; cases h
 subst caw
 rw [if_pos rfl] at h
 go_enter Try.func5, Try.ntmps5
 have hu31 := Try.underlying31
 skip
 go_wp2_with (first | ((with_reducible refine gate_dst (N := 2) rfl ?_); refine box_event ?hg (N := 2) ?hd (cs := #[.bool a0_0, .int .i64 a0_1, .int .i64 a0_2, .int .i64 a0_3, .int .i64 a0_4, .int .i64 a0_5, .int .i64 a0_6, .int .i64 a0_7, .int .i64 a0_8, .int .i64 a0_9, .bool a0_10, .string a0_11, .slice A0_12 l0_12.length c0_12, .string a0_13, .bool a0_14, .int .i64 a0_15, .int .i64 a0_16]) (t := 31) ?hr ?_; (case hd => rfl); (case hg => rfl); (case hr => first | (go_simp; done) | (go_simp; rfl)); intro g2 hg w1 hbox hb; have HB1 := Aside0.mk (below_step HB0.out hb); have B2 := Aside0.mk hbox; clear HB0 hb hbox hg))
 with_reducible refine (masterdisclaw34_awake.calls k true _ XA.out).mono ?_
 rintro e w2 ⟨rfl, hb0⟩
 have hb : Below w1.heap.size w1 w2 := (by first | exact hb0 | exact hb0.below | (obtain ⟨m_, rfl⟩ := hb0; exact pw_below_drewN (Below.refl _ _) m_))
 clear hb0
 have HB2 := Aside0.mk (below_step HB1.out hb); replace B2 := Aside0.mk (blk_below B2.out hb); clear hb HB1
 obtain ⟨fw, x_, h⟩ := Option.bind_eq_some_iff.1 h
 have XF := Aside0.mk x_
 clear x_
 go_wp2_with (first | ((with_reducible refine gate_dst (N := 12) rfl ?_); ((try (refine gate_guard (by rfl) ?_; dsimp only)); refine load_box rfl 31 _ rfl g2 rfl #[.bool a0_0, .int .i64 a0_1, .int .i64 a0_2, .int .i64 a0_3, .int .i64 a0_4, .int .i64 a0_5, .int .i64 a0_6, .int .i64 a0_7, .int .i64 a0_8, .int .i64 a0_9, .bool a0_10, .string a0_11, .slice A0_12 l0_12.length c0_12, .string a0_13, .bool a0_14, .int .i64 a0_15, .int .i64 a0_16] _ B2.out Try.underlying31 rfl (by kernel_rfl) ?_)))
 rename_i K1 hK1
 with_reducible refine (masterdiscref34_Few.calls a0_0 a0_1 a0_2 a0_3 a0_4 a0_5 a0_6 a0_7 a0_8 a0_9 a0_10 a0_11 A0_12 c0_12 l0_12 a0_13 a0_14 a0_15 a0_16 fw _ (Kd.C_below HR.out HB2.out) HC.out XF.out).mono ?_
 rintro e w3 ⟨rfl, hb0⟩
 have hb : Below w2.heap.size w2 w3 := (by first | exact hb0 | exact hb0.below | (obtain ⟨m_, rfl⟩ := hb0; exact pw_below_drewN (Below.refl _ _) m_))
 clear hb0
 have HB3 := Aside0.mk (below_step HB2.out hb); replace B2 := Aside0.mk (blk_below B2.out hb); clear hb HB2
 refine hK1 _ _ ?_
 clear hK1 K1
 (try simp only [List.tail_cons, List.drop_succ_cons, List.drop_zero])
 (try simp only [put4_])
 by_cases c_fw : fw = true
 rotate_left
 ·replace c_fw := Bool.eq_false_iff.mpr c_fw
  subst c_fw
  rw [if_neg (by decide)] at h
  obtain rfl := Option.some.inj h
  go_wp2
  go_ret
  exact ⟨rfl, HB3.out⟩
 subst c_fw
 rw [if_pos rfl] at h
 obtain ⟨v, x_, h⟩ := Option.bind_eq_some_iff.1 h
 have XV := Aside0.mk x_
 clear x_
 iterate 2 ((refine gate_guard (by rfl) ?_); (try dsimp only); (refine wpList_plain rfl (fun K hK => ?_)); go_simp; (refine hK _ _ ?_); clear hK K; (try simp only [put4_]))
 refine gate_guard (by rfl) ?_
 (try dsimp only)
 refine load_box rfl 31 _ rfl g2 rfl #[.bool a0_0, .int .i64 a0_1, .int .i64 a0_2, .int .i64 a0_3, .int .i64 a0_4, .int .i64 a0_5, .int .i64 a0_6, .int .i64 a0_7, .int .i64 a0_8, .int .i64 a0_9, .bool a0_10, .string a0_11, .slice A0_12 l0_12.length c0_12, .string a0_13, .bool a0_14, .int .i64 a0_15, .int .i64 a0_16] _ B2.out Try.underlying31 rfl (by kernel_rfl) ?_
 (try simp only [put4_])
 refine gate_guard (by rfl) ?_
 (try dsimp only)
 refine goesL_ (some 17) rfl rfl Try.func17 (by kernel_rfl) rfl #[.agg #[.bool a0_0, .int .i64 a0_1, .int .i64 a0_2, .int .i64 a0_3, .int .i64 a0_4, .int .i64 a0_5, .int .i64 a0_6, .int .i64 a0_7, .int .i64 a0_8, .int .i64 a0_9, .bool a0_10, .string a0_11, .slice A0_12 l0_12.length c0_12, .string a0_13, .bool a0_14, .int .i64 a0_15, .int .i64 a0_16]] rfl (by first | rfl | (simp only [List.map_toArray, List.map_cons, List.map_nil]; rfl)) ?_
 with_reducible refine (icb_Valid.calls k a0_0 a0_1 a0_2 a0_3 a0_4 a0_5 a0_6 a0_7 a0_8 a0_9 a0_10 a0_11 A0_12 c0_12 l0_12 a0_13 a0_14 a0_15 a0_16 v _ (Kd.C_below HR.out HB3.out) HC.out XV.out).mono ?_
 rintro e w4 ⟨rfl, hb0⟩
 have hb : Below w3.heap.size w3 w4 := (by first | exact hb0 | exact hb0.below | (obtain ⟨m_, rfl⟩ := hb0; exact pw_below_drewN (Below.refl _ _) m_))
 clear hb0
 have HB4 := Aside0.mk (below_step HB3.out hb); replace B2 := Aside0.mk (blk_below B2.out hb); clear hb HB3
 refine ⟨_, rfl, ?_⟩
 (try simp only [put4_])
 by_cases c_v : v = true
 rotate_left
 ·replace c_v := Bool.eq_false_iff.mpr c_v
  subst c_v
  rw [if_neg (by decide)] at h
  obtain rfl := Option.some.inj h
  go_wp2
  go_ret
  exact ⟨rfl, HB4.out⟩
 subst c_v
 rw [if_pos rfl] at h
 obtain ⟨rm, x_, h⟩ := Option.bind_eq_some_iff.1 h
 have XR := Aside0.mk x_
 clear x_
 obtain ⟨⟨b, b2⟩, x_, h⟩ := Option.bind_eq_some_iff.1 h
 have XE := Aside0.mk x_
 clear x_
 unfold masterdisclaw34_IcbFits.ok at h
 by_cases hk : (if (decide (wrap64 ((a0_11.size : Int) + wrap64 (16 * (l0_12.length : Int))) ≤ rm) && decide ((a0_13.size : Int) ≤ wrap64 (2048 - (if a0_0 = true then 216 else 176)))) = true then b2 = 0 else b2 = 12)
 rotate_left
 ·rw [if_neg hk] at h; cases h
 rw [if_pos hk] at h
 obtain rfl := Option.some.inj h
 clear h
 have D1 : (a0_0 = true) ∨ (a0_0 = false) := by cases a0_0 <;> simp
 skip
 rcases D1 with rfl | rfl
 skip
 ·by_cases c1 : wrap64 ((a0_11.size : Int) + wrap64 (16 * (l0_12.length : Int))) ≤ rm
  ·by_cases c2 : (a0_13.size : Int) ≤ 1832
   ·have e1 : (wrap64 ((a0_11.size : Int) + wrap64 (16 * (l0_12.length : Int))) ≤ rm) = True := eq_true c1
    have e2 : ((a0_13.size : Int) ≤ 1832) = True := eq_true c2
    have hb_ : (decide (wrap64 ((a0_11.size : Int) + wrap64 (16 * (l0_12.length : Int))) ≤ rm) && decide ((a0_13.size : Int) ≤ wrap64 (2048 - (if true = true then 216 else 176)))) = true := by rw [decide_eq_true c1, show wrap64 (2048 - (if true = true then 216 else 176)) = 1832 by decide +kernel, decide_eq_true c2]; rfl
    replace hk : b2 = 0 := by rw [if_pos hb_] at hk; exact hk
    subst hk
    obtain ⟨cq0, cq1, cq2, cq3, cq4, cq5, cq6, cq7, cq8, cq9, cq10, cq11, cq12, cq13, cq14, cq15, cq16⟩ := cz_17 B2.out
    obtain ⟨fq0, fq1, fq2, fq3, fq4, fq5, fq6, fq7, fq8, fq9, fq10, fq11, fq12, fq13, fq14, fq15, fq16⟩ := fz_17 B2.out
    go_wp2_with (first | ((with_reducible refine gate_dst (N := 31) rfl ?_); ((try (refine gate_guard (by rfl) ?_; dsimp only)); refine load_box rfl 31 _ rfl g2 rfl #[.bool true, .int .i64 a0_1, .int .i64 a0_2, .int .i64 a0_3, .int .i64 a0_4, .int .i64 a0_5, .int .i64 a0_6, .int .i64 a0_7, .int .i64 a0_8, .int .i64 a0_9, .bool a0_10, .string a0_11, .slice A0_12 l0_12.length c0_12, .string a0_13, .bool a0_14, .int .i64 a0_15, .int .i64 a0_16] _ B2.out Try.underlying31 rfl (by kernel_rfl) ?_)))
    clear cq0 cq1 cq2 cq3 cq4 cq5 cq6 cq7 cq8 cq9 cq10 cq11 cq12 cq13 cq14 cq15 cq16 fq0 fq1 fq2 fq3 fq4 fq5 fq6 fq7 fq8 fq9 fq10 fq11 fq12 fq13 fq14 fq15 fq16
    rename_i K1 hK1
    with_reducible refine (icb_Room.calls true a0_1 a0_2 a0_3 a0_4 a0_5 a0_6 a0_7 a0_8 a0_9 a0_10 a0_11 A0_12 c0_12 l0_12 a0_13 a0_14 a0_15 a0_16 rm _ (Kd.C_below HR.out HB4.out) HC.out XR.out).mono ?_
    rintro e w5 ⟨rfl, hb0⟩
    have hb : Below w4.heap.size w4 w5 := (by first | exact hb0 | exact hb0.below | (obtain ⟨m_, rfl⟩ := hb0; exact pw_below_drewN (Below.refl _ _) m_))
    clear hb0
    have HB5 := Aside0.mk (below_step HB4.out hb); replace B2 := Aside0.mk (blk_below B2.out hb); clear hb HB4
    refine hK1 _ _ ?_
    clear hK1 K1
    (try simp only [List.tail_cons, List.drop_succ_cons, List.drop_zero])
    (try simp only [put4_])
    obtain ⟨cq0, cq1, cq2, cq3, cq4, cq5, cq6, cq7, cq8, cq9, cq10, cq11, cq12, cq13, cq14, cq15, cq16⟩ := cz_17 B2.out
    obtain ⟨fq0, fq1, fq2, fq3, fq4, fq5, fq6, fq7, fq8, fq9, fq10, fq11, fq12, fq13, fq14, fq15, fq16⟩ := fz_17 B2.out
    go_wp2_with (first | ((with_reducible refine gate_dst (N := 43) rfl ?_); ((try (refine gate_guard (by rfl) ?_; dsimp only)); refine load_box rfl 31 _ rfl g2 rfl #[.bool true, .int .i64 a0_1, .int .i64 a0_2, .int .i64 a0_3, .int .i64 a0_4, .int .i64 a0_5, .int .i64 a0_6, .int .i64 a0_7, .int .i64 a0_8, .int .i64 a0_9, .bool a0_10, .string a0_11, .slice A0_12 l0_12.length c0_12, .string a0_13, .bool a0_14, .int .i64 a0_15, .int .i64 a0_16] _ B2.out Try.underlying31 rfl (by kernel_rfl) ?_)))
    clear cq0 cq1 cq2 cq3 cq4 cq5 cq6 cq7 cq8 cq9 cq10 cq11 cq12 cq13 cq14 cq15 cq16 fq0 fq1 fq2 fq3 fq4 fq5 fq6 fq7 fq8 fq9 fq10 fq11 fq12 fq13 fq14 fq15 fq16
    with_reducible refine (icb_Encode.calls k true a0_1 a0_2 a0_3 a0_4 a0_5 a0_6 a0_7 a0_8 a0_9 a0_10 a0_11 A0_12 c0_12 l0_12 a0_13 a0_14 a0_15 a0_16 (wrap64 a1) b _ _ (Kd.C_below HR.out HB5.out) HC.out XE.out).mono ?_
    rintro e w6 ⟨rfl, hb0⟩
    have hb : Below w5.heap.size w5 w6 := (by first | exact hb0 | exact hb0.below | (obtain ⟨m_, rfl⟩ := hb0; exact pw_below_drewN (Below.refl _ _) m_))
    clear hb0
    have HB6 := Aside0.mk (below_step HB5.out hb); replace B2 := Aside0.mk (blk_below B2.out hb); clear hb HB5
    go_wp2
    go_ret
    exact ⟨rfl, HB6.out⟩
   ·have e1 : (wrap64 ((a0_11.size : Int) + wrap64 (16 * (l0_12.length : Int))) ≤ rm) = True := eq_true c1
    have e2 : ((a0_13.size : Int) ≤ 1832) = False := eq_false c2
    have hb_ : (decide (wrap64 ((a0_11.size : Int) + wrap64 (16 * (l0_12.length : Int))) ≤ rm) && decide ((a0_13.size : Int) ≤ wrap64 (2048 - (if true = true then 216 else 176)))) = false := by rw [decide_eq_true c1, show wrap64 (2048 - (if true = true then 216 else 176)) = 1832 by decide +kernel, decide_eq_false c2]; rfl
    replace hk : b2 = 12 := by rw [if_neg (by rw [hb_]; decide)] at hk; exact hk
    subst hk
    obtain ⟨cq0, cq1, cq2, cq3, cq4, cq5, cq6, cq7, cq8, cq9, cq10, cq11, cq12, cq13, cq14, cq15, cq16⟩ := cz_17 B2.out
    obtain ⟨fq0, fq1, fq2, fq3, fq4, fq5, fq6, fq7, fq8, fq9, fq10, fq11, fq12, fq13, fq14, fq15, fq16⟩ := fz_17 B2.out
    go_wp2_with (first | ((with_reducible refine gate_dst (N := 31) rfl ?_); ((try (refine gate_guard (by rfl) ?_; dsimp only)); refine load_box rfl 31 _ rfl g2 rfl #[.bool true, .int .i64 a0_1, .int .i64 a0_2, .int .i64 a0_3, .int .i64 a0_4, .int .i64 a0_5, .int .i64 a0_6, .int .i64 a0_7, .int .i64 a0_8, .int .i64 a0_9, .bool a0_10, .string a0_11, .slice A0_12 l0_12.length c0_12, .string a0_13, .bool a0_14, .int .i64 a0_15, .int .i64 a0_16] _ B2.out Try.underlying31 rfl (by kernel_rfl) ?_)))
    clear cq0 cq1 cq2 cq3 cq4 cq5 cq6 cq7 cq8 cq9 cq10 cq11 cq12 cq13 cq14 cq15 cq16 fq0 fq1 fq2 fq3 fq4 fq5 fq6 fq7 fq8 fq9 fq10 fq11 fq12 fq13 fq14 fq15 fq16
    rename_i K1 hK1
    with_reducible refine (icb_Room.calls true a0_1 a0_2 a0_3 a0_4 a0_5 a0_6 a0_7 a0_8 a0_9 a0_10 a0_11 A0_12 c0_12 l0_12 a0_13 a0_14 a0_15 a0_16 rm _ (Kd.C_below HR.out HB4.out) HC.out XR.out).mono ?_
    rintro e w5 ⟨rfl, hb0⟩
    have hb : Below w4.heap.size w4 w5 := (by first | exact hb0 | exact hb0.below | (obtain ⟨m_, rfl⟩ := hb0; exact pw_below_drewN (Below.refl _ _) m_))
    clear hb0
    have HB5 := Aside0.mk (below_step HB4.out hb); replace B2 := Aside0.mk (blk_below B2.out hb); clear hb HB4
    refine hK1 _ _ ?_
    clear hK1 K1
    (try simp only [List.tail_cons, List.drop_succ_cons, List.drop_zero])
    (try simp only [put4_])
    obtain ⟨cq0, cq1, cq2, cq3, cq4, cq5, cq6, cq7, cq8, cq9, cq10, cq11, cq12, cq13, cq14, cq15, cq16⟩ := cz_17 B2.out
    obtain ⟨fq0, fq1, fq2, fq3, fq4, fq5, fq6, fq7, fq8, fq9, fq10, fq11, fq12, fq13, fq14, fq15, fq16⟩ := fz_17 B2.out
    go_wp2_with (first | ((with_reducible refine gate_dst (N := 43) rfl ?_); ((try (refine gate_guard (by rfl) ?_; dsimp only)); refine load_box rfl 31 _ rfl g2 rfl #[.bool true, .int .i64 a0_1, .int .i64 a0_2, .int .i64 a0_3, .int .i64 a0_4, .int .i64 a0_5, .int .i64 a0_6, .int .i64 a0_7, .int .i64 a0_8, .int .i64 a0_9, .bool a0_10, .string a0_11, .slice A0_12 l0_12.length c0_12, .string a0_13, .bool a0_14, .int .i64 a0_15, .int .i64 a0_16] _ B2.out Try.underlying31 rfl (by kernel_rfl) ?_)))
    clear cq0 cq1 cq2 cq3 cq4 cq5 cq6 cq7 cq8 cq9 cq10 cq11 cq12 cq13 cq14 cq15 cq16 fq0 fq1 fq2 fq3 fq4 fq5 fq6 fq7 fq8 fq9 fq10 fq11 fq12 fq13 fq14 fq15 fq16
    with_reducible refine (icb_Encode.calls k true a0_1 a0_2 a0_3 a0_4 a0_5 a0_6 a0_7 a0_8 a0_9 a0_10 a0_11 A0_12 c0_12 l0_12 a0_13 a0_14 a0_15 a0_16 (wrap64 a1) b _ _ (Kd.C_below HR.out HB5.out) HC.out XE.out).mono ?_
    rintro e w6 ⟨rfl, hb0⟩
    have hb : Below w5.heap.size w5 w6 := (by first | exact hb0 | exact hb0.below | (obtain ⟨m_, rfl⟩ := hb0; exact pw_below_drewN (Below.refl _ _) m_))
    clear hb0
    have HB6 := Aside0.mk (below_step HB5.out hb); replace B2 := Aside0.mk (blk_below B2.out hb); clear hb HB5
    go_wp2
    go_ret
    exact ⟨rfl, HB6.out⟩
  ·have e1 : (wrap64 ((a0_11.size : Int) + wrap64 (16 * (l0_12.length : Int))) ≤ rm) = False := eq_false c1
   have hb_ : (decide (wrap64 ((a0_11.size : Int) + wrap64 (16 * (l0_12.length : Int))) ≤ rm) && decide ((a0_13.size : Int) ≤ wrap64 (2048 - (if true = true then 216 else 176)))) = false := by rw [decide_eq_false c1]; rfl
   replace hk : b2 = 12 := by rw [if_neg (by rw [hb_]; decide)] at hk; exact hk
   subst hk
   obtain ⟨cq0, cq1, cq2, cq3, cq4, cq5, cq6, cq7, cq8, cq9, cq10, cq11, cq12, cq13, cq14, cq15, cq16⟩ := cz_17 B2.out
   obtain ⟨fq0, fq1, fq2, fq3, fq4, fq5, fq6, fq7, fq8, fq9, fq10, fq11, fq12, fq13, fq14, fq15, fq16⟩ := fz_17 B2.out
   go_wp2_with (first | ((with_reducible refine gate_dst (N := 31) rfl ?_); ((try (refine gate_guard (by rfl) ?_; dsimp only)); refine load_box rfl 31 _ rfl g2 rfl #[.bool true, .int .i64 a0_1, .int .i64 a0_2, .int .i64 a0_3, .int .i64 a0_4, .int .i64 a0_5, .int .i64 a0_6, .int .i64 a0_7, .int .i64 a0_8, .int .i64 a0_9, .bool a0_10, .string a0_11, .slice A0_12 l0_12.length c0_12, .string a0_13, .bool a0_14, .int .i64 a0_15, .int .i64 a0_16] _ B2.out Try.underlying31 rfl (by kernel_rfl) ?_)))
   clear cq0 cq1 cq2 cq3 cq4 cq5 cq6 cq7 cq8 cq9 cq10 cq11 cq12 cq13 cq14 cq15 cq16 fq0 fq1 fq2 fq3 fq4 fq5 fq6 fq7 fq8 fq9 fq10 fq11 fq12 fq13 fq14 fq15 fq16
   rename_i K1 hK1
   with_reducible refine (icb_Room.calls true a0_1 a0_2 a0_3 a0_4 a0_5 a0_6 a0_7 a0_8 a0_9 a0_10 a0_11 A0_12 c0_12 l0_12 a0_13 a0_14 a0_15 a0_16 rm _ (Kd.C_below HR.out HB4.out) HC.out XR.out).mono ?_
   rintro e w5 ⟨rfl, hb0⟩
   have hb : Below w4.heap.size w4 w5 := (by first | exact hb0 | exact hb0.below | (obtain ⟨m_, rfl⟩ := hb0; exact pw_below_drewN (Below.refl _ _) m_))
   clear hb0
   have HB5 := Aside0.mk (below_step HB4.out hb); replace B2 := Aside0.mk (blk_below B2.out hb); clear hb HB4
   refine hK1 _ _ ?_
   clear hK1 K1
   (try simp only [List.tail_cons, List.drop_succ_cons, List.drop_zero])
   (try simp only [put4_])
   obtain ⟨cq0, cq1, cq2, cq3, cq4, cq5, cq6, cq7, cq8, cq9, cq10, cq11, cq12, cq13, cq14, cq15, cq16⟩ := cz_17 B2.out
   obtain ⟨fq0, fq1, fq2, fq3, fq4, fq5, fq6, fq7, fq8, fq9, fq10, fq11, fq12, fq13, fq14, fq15, fq16⟩ := fz_17 B2.out
   go_wp2_with (first | ((with_reducible refine gate_dst (N := 43) rfl ?_); ((try (refine gate_guard (by rfl) ?_; dsimp only)); refine load_box rfl 31 _ rfl g2 rfl #[.bool true, .int .i64 a0_1, .int .i64 a0_2, .int .i64 a0_3, .int .i64 a0_4, .int .i64 a0_5, .int .i64 a0_6, .int .i64 a0_7, .int .i64 a0_8, .int .i64 a0_9, .bool a0_10, .string a0_11, .slice A0_12 l0_12.length c0_12, .string a0_13, .bool a0_14, .int .i64 a0_15, .int .i64 a0_16] _ B2.out Try.underlying31 rfl (by kernel_rfl) ?_)))
   clear cq0 cq1 cq2 cq3 cq4 cq5 cq6 cq7 cq8 cq9 cq10 cq11 cq12 cq13 cq14 cq15 cq16 fq0 fq1 fq2 fq3 fq4 fq5 fq6 fq7 fq8 fq9 fq10 fq11 fq12 fq13 fq14 fq15 fq16
   with_reducible refine (icb_Encode.calls k true a0_1 a0_2 a0_3 a0_4 a0_5 a0_6 a0_7 a0_8 a0_9 a0_10 a0_11 A0_12 c0_12 l0_12 a0_13 a0_14 a0_15 a0_16 (wrap64 a1) b _ _ (Kd.C_below HR.out HB5.out) HC.out XE.out).mono ?_
   rintro e w6 ⟨rfl, hb0⟩
   have hb : Below w5.heap.size w5 w6 := (by first | exact hb0 | exact hb0.below | (obtain ⟨m_, rfl⟩ := hb0; exact pw_below_drewN (Below.refl _ _) m_))
   clear hb0
   have HB6 := Aside0.mk (below_step HB5.out hb); replace B2 := Aside0.mk (blk_below B2.out hb); clear hb HB5
   go_wp2
   go_ret
   exact ⟨rfl, HB6.out⟩
 skip
 skip
 ·by_cases c1 : wrap64 ((a0_11.size : Int) + wrap64 (16 * (l0_12.length : Int))) ≤ rm
  ·by_cases c2 : (a0_13.size : Int) ≤ 1872
   ·have e1 : (wrap64 ((a0_11.size : Int) + wrap64 (16 * (l0_12.length : Int))) ≤ rm) = True := eq_true c1
    have e2 : ((a0_13.size : Int) ≤ 1872) = True := eq_true c2
    have hb_ : (decide (wrap64 ((a0_11.size : Int) + wrap64 (16 * (l0_12.length : Int))) ≤ rm) && decide ((a0_13.size : Int) ≤ wrap64 (2048 - (if false = true then 216 else 176)))) = true := by rw [decide_eq_true c1, show wrap64 (2048 - (if false = true then 216 else 176)) = 1872 by decide +kernel, decide_eq_true c2]; rfl
    replace hk : b2 = 0 := by rw [if_pos hb_] at hk; exact hk
    subst hk
    obtain ⟨cq0, cq1, cq2, cq3, cq4, cq5, cq6, cq7, cq8, cq9, cq10, cq11, cq12, cq13, cq14, cq15, cq16⟩ := cz_17 B2.out
    obtain ⟨fq0, fq1, fq2, fq3, fq4, fq5, fq6, fq7, fq8, fq9, fq10, fq11, fq12, fq13, fq14, fq15, fq16⟩ := fz_17 B2.out
    go_wp2_with (first | ((with_reducible refine gate_dst (N := 31) rfl ?_); ((try (refine gate_guard (by rfl) ?_; dsimp only)); refine load_box rfl 31 _ rfl g2 rfl #[.bool false, .int .i64 a0_1, .int .i64 a0_2, .int .i64 a0_3, .int .i64 a0_4, .int .i64 a0_5, .int .i64 a0_6, .int .i64 a0_7, .int .i64 a0_8, .int .i64 a0_9, .bool a0_10, .string a0_11, .slice A0_12 l0_12.length c0_12, .string a0_13, .bool a0_14, .int .i64 a0_15, .int .i64 a0_16] _ B2.out Try.underlying31 rfl (by kernel_rfl) ?_)))
    clear cq0 cq1 cq2 cq3 cq4 cq5 cq6 cq7 cq8 cq9 cq10 cq11 cq12 cq13 cq14 cq15 cq16 fq0 fq1 fq2 fq3 fq4 fq5 fq6 fq7 fq8 fq9 fq10 fq11 fq12 fq13 fq14 fq15 fq16
    rename_i K1 hK1
    with_reducible refine (icb_Room.calls false a0_1 a0_2 a0_3 a0_4 a0_5 a0_6 a0_7 a0_8 a0_9 a0_10 a0_11 A0_12 c0_12 l0_12 a0_13 a0_14 a0_15 a0_16 rm _ (Kd.C_below HR.out HB4.out) HC.out XR.out).mono ?_
    rintro e w5 ⟨rfl, hb0⟩
    have hb : Below w4.heap.size w4 w5 := (by first | exact hb0 | exact hb0.below | (obtain ⟨m_, rfl⟩ := hb0; exact pw_below_drewN (Below.refl _ _) m_))
    clear hb0
    have HB5 := Aside0.mk (below_step HB4.out hb); replace B2 := Aside0.mk (blk_below B2.out hb); clear hb HB4
    refine hK1 _ _ ?_
    clear hK1 K1
    (try simp only [List.tail_cons, List.drop_succ_cons, List.drop_zero])
    (try simp only [put4_])
    obtain ⟨cq0, cq1, cq2, cq3, cq4, cq5, cq6, cq7, cq8, cq9, cq10, cq11, cq12, cq13, cq14, cq15, cq16⟩ := cz_17 B2.out
    obtain ⟨fq0, fq1, fq2, fq3, fq4, fq5, fq6, fq7, fq8, fq9, fq10, fq11, fq12, fq13, fq14, fq15, fq16⟩ := fz_17 B2.out
    go_wp2_with (first | ((with_reducible refine gate_dst (N := 43) rfl ?_); ((try (refine gate_guard (by rfl) ?_; dsimp only)); refine load_box rfl 31 _ rfl g2 rfl #[.bool false, .int .i64 a0_1, .int .i64 a0_2, .int .i64 a0_3, .int .i64 a0_4, .int .i64 a0_5, .int .i64 a0_6, .int .i64 a0_7, .int .i64 a0_8, .int .i64 a0_9, .bool a0_10, .string a0_11, .slice A0_12 l0_12.length c0_12, .string a0_13, .bool a0_14, .int .i64 a0_15, .int .i64 a0_16] _ B2.out Try.underlying31 rfl (by kernel_rfl) ?_)))
    clear cq0 cq1 cq2 cq3 cq4 cq5 cq6 cq7 cq8 cq9 cq10 cq11 cq12 cq13 cq14 cq15 cq16 fq0 fq1 fq2 fq3 fq4 fq5 fq6 fq7 fq8 fq9 fq10 fq11 fq12 fq13 fq14 fq15 fq16
    with_reducible refine (icb_Encode.calls k false a0_1 a0_2 a0_3 a0_4 a0_5 a0_6 a0_7 a0_8 a0_9 a0_10 a0_11 A0_12 c0_12 l0_12 a0_13 a0_14 a0_15 a0_16 (wrap64 a1) b _ _ (Kd.C_below HR.out HB5.out) HC.out XE.out).mono ?_
    rintro e w6 ⟨rfl, hb0⟩
    have hb : Below w5.heap.size w5 w6 := (by first | exact hb0 | exact hb0.below | (obtain ⟨m_, rfl⟩ := hb0; exact pw_below_drewN (Below.refl _ _) m_))
    clear hb0
    have HB6 := Aside0.mk (below_step HB5.out hb); replace B2 := Aside0.mk (blk_below B2.out hb); clear hb HB5
    go_wp2
    go_ret
    exact ⟨rfl, HB6.out⟩
   ·have e1 : (wrap64 ((a0_11.size : Int) + wrap64 (16 * (l0_12.length : Int))) ≤ rm) = True := eq_true c1
    have e2 : ((a0_13.size : Int) ≤ 1872) = False := eq_false c2
    have hb_ : (decide (wrap64 ((a0_11.size : Int) + wrap64 (16 * (l0_12.length : Int))) ≤ rm) && decide ((a0_13.size : Int) ≤ wrap64 (2048 - (if false = true then 216 else 176)))) = false := by rw [decide_eq_true c1, show wrap64 (2048 - (if false = true then 216 else 176)) = 1872 by decide +kernel, decide_eq_false c2]; rfl
    replace hk : b2 = 12 := by rw [if_neg (by rw [hb_]; decide)] at hk; exact hk
    subst hk
    obtain ⟨cq0, cq1, cq2, cq3, cq4, cq5, cq6, cq7, cq8, cq9, cq10, cq11, cq12, cq13, cq14, cq15, cq16⟩ := cz_17 B2.out
    obtain ⟨fq0, fq1, fq2, fq3, fq4, fq5, fq6, fq7, fq8, fq9, fq10, fq11, fq12, fq13, fq14, fq15, fq16⟩ := fz_17 B2.out
    go_wp2_with (first | ((with_reducible refine gate_dst (N := 31) rfl ?_); ((try (refine gate_guard (by rfl) ?_; dsimp only)); refine load_box rfl 31 _ rfl g2 rfl #[.bool false, .int .i64 a0_1, .int .i64 a0_2, .int .i64 a0_3, .int .i64 a0_4, .int .i64 a0_5, .int .i64 a0_6, .int .i64 a0_7, .int .i64 a0_8, .int .i64 a0_9, .bool a0_10, .string a0_11, .slice A0_12 l0_12.length c0_12, .string a0_13, .bool a0_14, .int .i64 a0_15, .int .i64 a0_16] _ B2.out Try.underlying31 rfl (by kernel_rfl) ?_)))
    clear cq0 cq1 cq2 cq3 cq4 cq5 cq6 cq7 cq8 cq9 cq10 cq11 cq12 cq13 cq14 cq15 cq16 fq0 fq1 fq2 fq3 fq4 fq5 fq6 fq7 fq8 fq9 fq10 fq11 fq12 fq13 fq14 fq15 fq16
    rename_i K1 hK1
    with_reducible refine (icb_Room.calls false a0_1 a0_2 a0_3 a0_4 a0_5 a0_6 a0_7 a0_8 a0_9 a0_10 a0_11 A0_12 c0_12 l0_12 a0_13 a0_14 a0_15 a0_16 rm _ (Kd.C_below HR.out HB4.out) HC.out XR.out).mono ?_
    rintro e w5 ⟨rfl, hb0⟩
    have hb : Below w4.heap.size w4 w5 := (by first | exact hb0 | exact hb0.below | (obtain ⟨m_, rfl⟩ := hb0; exact pw_below_drewN (Below.refl _ _) m_))
    clear hb0
    have HB5 := Aside0.mk (below_step HB4.out hb); replace B2 := Aside0.mk (blk_below B2.out hb); clear hb HB4
    refine hK1 _ _ ?_
    clear hK1 K1
    (try simp only [List.tail_cons, List.drop_succ_cons, List.drop_zero])
    (try simp only [put4_])
    obtain ⟨cq0, cq1, cq2, cq3, cq4, cq5, cq6, cq7, cq8, cq9, cq10, cq11, cq12, cq13, cq14, cq15, cq16⟩ := cz_17 B2.out
    obtain ⟨fq0, fq1, fq2, fq3, fq4, fq5, fq6, fq7, fq8, fq9, fq10, fq11, fq12, fq13, fq14, fq15, fq16⟩ := fz_17 B2.out
    go_wp2_with (first | ((with_reducible refine gate_dst (N := 43) rfl ?_); ((try (refine gate_guard (by rfl) ?_; dsimp only)); refine load_box rfl 31 _ rfl g2 rfl #[.bool false, .int .i64 a0_1, .int .i64 a0_2, .int .i64 a0_3, .int .i64 a0_4, .int .i64 a0_5, .int .i64 a0_6, .int .i64 a0_7, .int .i64 a0_8, .int .i64 a0_9, .bool a0_10, .string a0_11, .slice A0_12 l0_12.length c0_12, .string a0_13, .bool a0_14, .int .i64 a0_15, .int .i64 a0_16] _ B2.out Try.underlying31 rfl (by kernel_rfl) ?_)))
    clear cq0 cq1 cq2 cq3 cq4 cq5 cq6 cq7 cq8 cq9 cq10 cq11 cq12 cq13 cq14 cq15 cq16 fq0 fq1 fq2 fq3 fq4 fq5 fq6 fq7 fq8 fq9 fq10 fq11 fq12 fq13 fq14 fq15 fq16
    with_reducible refine (icb_Encode.calls k false a0_1 a0_2 a0_3 a0_4 a0_5 a0_6 a0_7 a0_8 a0_9 a0_10 a0_11 A0_12 c0_12 l0_12 a0_13 a0_14 a0_15 a0_16 (wrap64 a1) b _ _ (Kd.C_below HR.out HB5.out) HC.out XE.out).mono ?_
    rintro e w6 ⟨rfl, hb0⟩
    have hb : Below w5.heap.size w5 w6 := (by first | exact hb0 | exact hb0.below | (obtain ⟨m_, rfl⟩ := hb0; exact pw_below_drewN (Below.refl _ _) m_))
    clear hb0
    have HB6 := Aside0.mk (below_step HB5.out hb); replace B2 := Aside0.mk (blk_below B2.out hb); clear hb HB5
    go_wp2
    go_ret
    exact ⟨rfl, HB6.out⟩
  ·have e1 : (wrap64 ((a0_11.size : Int) + wrap64 (16 * (l0_12.length : Int))) ≤ rm) = False := eq_false c1
   have hb_ : (decide (wrap64 ((a0_11.size : Int) + wrap64 (16 * (l0_12.length : Int))) ≤ rm) && decide ((a0_13.size : Int) ≤ wrap64 (2048 - (if false = true then 216 else 176)))) = false := by rw [decide_eq_false c1]; rfl
   replace hk : b2 = 12 := by rw [if_neg (by rw [hb_]; decide)] at hk; exact hk
   subst hk
   obtain ⟨cq0, cq1, cq2, cq3, cq4, cq5, cq6, cq7, cq8, cq9, cq10, cq11, cq12, cq13, cq14, cq15, cq16⟩ := cz_17 B2.out
   obtain ⟨fq0, fq1, fq2, fq3, fq4, fq5, fq6, fq7, fq8, fq9, fq10, fq11, fq12, fq13, fq14, fq15, fq16⟩ := fz_17 B2.out
   go_wp2_with (first | ((with_reducible refine gate_dst (N := 31) rfl ?_); ((try (refine gate_guard (by rfl) ?_; dsimp only)); refine load_box rfl 31 _ rfl g2 rfl #[.bool false, .int .i64 a0_1, .int .i64 a0_2, .int .i64 a0_3, .int .i64 a0_4, .int .i64 a0_5, .int .i64 a0_6, .int .i64 a0_7, .int .i64 a0_8, .int .i64 a0_9, .bool a0_10, .string a0_11, .slice A0_12 l0_12.length c0_12, .string a0_13, .bool a0_14, .int .i64 a0_15, .int .i64 a0_16] _ B2.out Try.underlying31 rfl (by kernel_rfl) ?_)))
   clear cq0 cq1 cq2 cq3 cq4 cq5 cq6 cq7 cq8 cq9 cq10 cq11 cq12 cq13 cq14 cq15 cq16 fq0 fq1 fq2 fq3 fq4 fq5 fq6 fq7 fq8 fq9 fq10 fq11 fq12 fq13 fq14 fq15 fq16
   rename_i K1 hK1
   with_reducible refine (icb_Room.calls false a0_1 a0_2 a0_3 a0_4 a0_5 a0_6 a0_7 a0_8 a0_9 a0_10 a0_11 A0_12 c0_12 l0_12 a0_13 a0_14 a0_15 a0_16 rm _ (Kd.C_below HR.out HB4.out) HC.out XR.out).mono ?_
   rintro e w5 ⟨rfl, hb0⟩
   have hb : Below w4.heap.size w4 w5 := (by first | exact hb0 | exact hb0.below | (obtain ⟨m_, rfl⟩ := hb0; exact pw_below_drewN (Below.refl _ _) m_))
   clear hb0
   have HB5 := Aside0.mk (below_step HB4.out hb); replace B2 := Aside0.mk (blk_below B2.out hb); clear hb HB4
   refine hK1 _ _ ?_
   clear hK1 K1
   (try simp only [List.tail_cons, List.drop_succ_cons, List.drop_zero])
   (try simp only [put4_])
   obtain ⟨cq0, cq1, cq2, cq3, cq4, cq5, cq6, cq7, cq8, cq9, cq10, cq11, cq12, cq13, cq14, cq15, cq16⟩ := cz_17 B2.out
   obtain ⟨fq0, fq1, fq2, fq3, fq4, fq5, fq6, fq7, fq8, fq9, fq10, fq11, fq12, fq13, fq14, fq15, fq16⟩ := fz_17 B2.out
   go_wp2_with (first | ((with_reducible refine gate_dst (N := 43) rfl ?_); ((try (refine gate_guard (by rfl) ?_; dsimp only)); refine load_box rfl 31 _ rfl g2 rfl #[.bool false, .int .i64 a0_1, .int .i64 a0_2, .int .i64 a0_3, .int .i64 a0_4, .int .i64 a0_5, .int .i64 a0_6, .int .i64 a0_7, .int .i64 a0_8, .int .i64 a0_9, .bool a0_10, .string a0_11, .slice A0_12 l0_12.length c0_12, .string a0_13, .bool a0_14, .int .i64 a0_15, .int .i64 a0_16] _ B2.out Try.underlying31 rfl (by kernel_rfl) ?_)))
   clear cq0 cq1 cq2 cq3 cq4 cq5 cq6 cq7 cq8 cq9 cq10 cq11 cq12 cq13 cq14 cq15 cq16 fq0 fq1 fq2 fq3 fq4 fq5 fq6 fq7 fq8 fq9 fq10 fq11 fq12 fq13 fq14 fq15 fq16
   with_reducible refine (icb_Encode.calls k false a0_1 a0_2 a0_3 a0_4 a0_5 a0_6 a0_7 a0_8 a0_9 a0_10 a0_11 A0_12 c0_12 l0_12 a0_13 a0_14 a0_15 a0_16 (wrap64 a1) b _ _ (Kd.C_below HR.out HB5.out) HC.out XE.out).mono ?_
   rintro e w6 ⟨rfl, hb0⟩
   have hb : Below w5.heap.size w5 w6 := (by first | exact hb0 | exact hb0.below | (obtain ⟨m_, rfl⟩ := hb0; exact pw_below_drewN (Below.refl _ _) m_))
   clear hb0
   have HB6 := Aside0.mk (below_step HB5.out hb); replace B2 := Aside0.mk (blk_below B2.out hb); clear hb HB5
   go_wp2
   go_ret
   exact ⟨rfl, HB6.out⟩

/-- The pure statement of masterdisclaw34_IcbFits. -/
def masterdisclaw34_IcbFits.Pure : Prop := ∀ (x0 : S31) (x1 : Int), ((True) ∧ ((Lit.int .i64 x0.f1).wf = true) ∧ ((Lit.int .i64 x0.f2).wf = true) ∧ ((Lit.int .i64 x0.f3).wf = true) ∧ ((Lit.int .i64 x0.f4).wf = true) ∧ ((Lit.int .i64 x0.f5).wf = true) ∧ ((Lit.int .i64 x0.f6).wf = true) ∧ ((Lit.int .i64 x0.f7).wf = true) ∧ ((Lit.int .i64 x0.f8).wf = true) ∧ ((Lit.int .i64 x0.f9).wf = true) ∧ (True) ∧ (x0.f11.size ≤ 140737488351232) ∧ (x0.f12.length * 32 ≤ 140737488351232 ∧ ∀ z ∈ x0.f12, ((Lit.int .i64 z.f0).wf = true) ∧ ((Lit.int .i64 z.f1).wf = true) ∧ (((Lit.int .i64 z.f2.f0).wf = true) ∧ ((Lit.int .i64 z.f2.f1).wf = true))) ∧ (x0.f13.size ≤ 140737488351232) ∧ (True) ∧ (((Lit.int .i64 x0.f15.f0).wf = true) ∧ ((Lit.int .i64 x0.f15.f1).wf = true))) → ((Lit.int .u32 x1).wf = true) → ∃ k, masterdisclaw34_IcbFits.f k x0.f0 x0.f1 x0.f2 x0.f3 x0.f4 x0.f5 x0.f6 x0.f7 x0.f8 x0.f9 x0.f10 x0.f11 x0.f12 x0.f13 x0.f14 x0.f15.f0 x0.f15.f1 x1 = some true

end Go.Proofs.Yticmghpnbjhhnab.M
