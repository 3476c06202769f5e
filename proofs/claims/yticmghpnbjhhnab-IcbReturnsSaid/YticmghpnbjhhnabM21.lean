/- Lean functions with the answers of the Go functions that they are named after, and the walks that tie the Go functions to them (written by the program mp.py of this session). -/
import Derived.Test.YticmghpnbjhhnabM0
import Derived.Test.YticmghpnbjhhnabM9
import Derived.Test.YticmghpnbjhhnabM11
import Derived.Test.YticmghpnbjhhnabM16
import Derived.Test.YticmghpnbjhhnabM17
import Derived.Test.YticmghpnbjhhnabM20
namespace Go.Proofs.Yticmghpnbjhhnab.M
open Go.RowKit Go.Proofs.YticmghpnbjhhnabW.PrintWords Go.Proofs.YticmghpnbjhhnabW.PrintLast Go.Proofs.YticmghpnbjhhnabW.PrintMore
attribute [local go_sem] fieldA50_0 fieldA102_0 max2_int min2_int max_two min_two max_three min_three max_four min_four   -- for this text's walks alone
set_option linter.unusedVariables false
set_option linter.unusedSimpArgs false

/-! ### masterdisclaw34_IcbReturns: function 4 -/
def masterdisclaw34_IcbReturns.f (k : Nat) (a0_0 : Bool) (a0_1 : Int) (a0_2 : Int) (a0_3 : Int) (a0_4 : Int) (a0_5 : Int) (a0_6 : Int) (a0_7 : Int) (a0_8 : Int) (a0_9 : Int) (a0_10 : Bool) (a0_11 : ByteArray) (l0_12 : List (S69)) (a0_13 : ByteArray) (a0_14 : Bool) (a0_15 : Int) (a0_16 : Int) (a1 : Int) : Option Bool := (masterdisclaw34_awake.f k).bind fun aw => if aw = true then (masterdiscref34_Few.f a0_0 a0_1 a0_2 a0_3 a0_4 a0_5 a0_6 a0_7 a0_8 a0_9 a0_10 a0_11 l0_12 a0_13 a0_14 a0_15 a0_16).bind (fun fw => if fw = true then (icb_Encode.f k a0_0 a0_1 a0_2 a0_3 a0_4 a0_5 a0_6 a0_7 a0_8 a0_9 a0_10 a0_11 l0_12 a0_13 a0_14 a0_15 a0_16 a1).bind (fun bb => if bb.2 = 0 then (icb_Decode.f k bb.1 a1).bind (fun d => (icb_Decode.f k bb.1 (wrap64 (a1 + 1))).bind fun q => (masterdiscref34_Same.f k d.1 d.2.1 d.2.2.1 d.2.2.2.1 d.2.2.2.2.1 d.2.2.2.2.2.1 d.2.2.2.2.2.2.1 d.2.2.2.2.2.2.2.1 d.2.2.2.2.2.2.2.2.1 d.2.2.2.2.2.2.2.2.2.1 d.2.2.2.2.2.2.2.2.2.2.1 d.2.2.2.2.2.2.2.2.2.2.2.1 d.2.2.2.2.2.2.2.2.2.2.2.2.1 d.2.2.2.2.2.2.2.2.2.2.2.2.2.1 d.2.2.2.2.2.2.2.2.2.2.2.2.2.2.1 d.2.2.2.2.2.2.2.2.2.2.2.2.2.2.2.1 d.2.2.2.2.2.2.2.2.2.2.2.2.2.2.2.2.1 a0_0 a0_1 a0_2 a0_3 a0_4 a0_5 a0_6 a0_7 a0_8 a0_9 a0_10 a0_11 l0_12 a0_13 a0_14 a0_15 a0_16).bind fun sm => if sm = true ∧ d.2.2.2.2.2.2.2.2.2.2.2.2.2.2.2.2.2 = 0 ∧ q.2.2.2.2.2.2.2.2.2.2.2.2.2.2.2.2.2 = 10 then some true else none) else if bb.1.toList = ([] : List UInt8) then some true else none) else some true) else none
set_option maxHeartbeats 16000000 in
set_option maxRecDepth 100000 in
theorem masterdisclaw34_IcbReturns.calls (k : Nat) (a0_0 : Bool) (a0_1 : Int) (a0_2 : Int) (a0_3 : Int) (a0_4 : Int) (a0_5 : Int) (a0_6 : Int) (a0_7 : Int) (a0_8 : Int) (a0_9 : Int) (a0_10 : Bool) (a0_11 : ByteArray) (A0_12 : Option Addr) (c0_12 : Nat) (l0_12 : List (S69)) (a0_13 : ByteArray) (a0_14 : Bool) (a0_15 : Int) (a0_16 : Int) (a1 : Int) (r : Bool) (w : World) (hr0_12 : Kd.C k69 w A0_12 l0_12.length l0_12) (hc0_12 : l0_12.length ≤ c0_12) (htr : Aside0 (r = true)) (h : masterdisclaw34_IcbReturns.f k a0_0 a0_1 a0_2 a0_3 a0_4 a0_5 a0_6 a0_7 a0_8 a0_9 a0_10 a0_11 l0_12 a0_13 a0_14 a0_15 a0_16 a1 = some r) :
  Calls Try.prog 4 #[.agg #[.bool a0_0, .int .i64 a0_1, .int .i64 a0_2, .int .i64 a0_3, .int .i64 a0_4, .int .i64 a0_5, .int .i64 a0_6, .int .i64 a0_7, .int .i64 a0_8, .int .i64 a0_9, .bool a0_10, .string a0_11, .slice A0_12 l0_12.length c0_12, .string a0_13, .bool a0_14, .int .i64 a0_15, .int .i64 a0_16], .int .i64 a1] w fun e w' => e = .returned (.bool r) ∧ Below w.heap.size w w' := by
 have hu31 := Try.underlying31
 have HR := Aside0.mk hr0_12
 have HC := Aside0.mk hc0_12
 clear hr0_12 hc0_12
 have HB0 := Aside0.mk (Below.refl w.heap.size w)
 unfold masterdisclaw34_IcbReturns.f at h
 obtain ⟨aw, x_, h⟩ := Option.bind_eq_some_iff.1 h
 have XA := Aside0.mk x_
 clear x_
 by_cases caw : aw = true
 rotate_left
 ·rw [if_neg caw] at h; cases h
 subst caw
 rw [if_pos rfl] at h
 go_enter Try.func4, Try.ntmps4
 have hu31 := Try.underlying31
 skip
 go_wp2_with (first | ((with_reducible refine gate_dst (N := 2) rfl ?_); refine box_event ?hg (N := 2) ?hd (cs := #[.bool a0_0, .int .i64 a0_1, .int .i64 a0_2, .int .i64 a0_3, .int .i64 a0_4, .int .i64 a0_5, .int .i64 a0_6, .int .i64 a0_7, .int .i64 a0_8, .int .i64 a0_9, .bool a0_10, .string a0_11, .slice A0_12 l0_12.length c0_12, .string a0_13, .bool a0_14, .int .i64 a0_15, .int .i64 a0_16]) (t := 31) ?hr ?_; (case hd => rfl); (case hg => rfl); (case hr => first | (go_simp; done) | (go_simp; rfl)); intro g2 hg w1 hbox hb; have HB1 := Aside0.mk (below_step HB0.out hb); have B2 := Aside0.mk hbox; clear HB0 hb hbox hg))
 with_reducible refine (masterdisclaw34_awake.calls k true _ XA.out).mono ?_
 rintro e w2 ⟨rfl, hb0⟩
 have hb : Below w1.heap.size w1 w2 := (by first | exact hb0 | exact hb0.below | (obtain ⟨m_, rfl⟩ := hb0; exact pw_below_drewN (Below.refl _ _) m_))
 clear hb0
 have HB2 := Aside0.mk (below_step HB1.out hb); replace B2 := Aside0.mk (blk_below B2.out hb); clear hb HB1
 obtain ⟨fw, x_, h⟩ := Option.bind_eq_some_iff.1 h
 have XF := Aside0.mk x_
 clear x_
 go_wp2_with (first | ((with_reducible refine gate_dst (N := 12) rfl ?_); ((try (refine gate_guard (by rfl) ?_; dsimp only)); refine load_box rfl 31 _ rfl g2 rfl #[.bool a0_0, .int .i64 a0_1, .int .i64 a0_2, .int .i64 a0_3, .int .i64 a0_4, .int .i64 a0_5, .int .i64 a0_6, .int .i64 a0_7, .int .i64 a0_8, .int .i64 a0_9, .bool a0_10, .string a0_11, .slice A0_12 l0_12.length c0_12, .string a0_13, .bool a0_14, .int .i64 a0_15, .int .i64 a0_16] _ B2.out Try.underlying31 rfl (by kernel_rfl) ?_)))
 with_reducible refine (masterdiscref34_Few.calls a0_0 a0_1 a0_2 a0_3 a0_4 a0_5 a0_6 a0_7 a0_8 a0_9 a0_10 a0_11 A0_12 c0_12 l0_12 a0_13 a0_14 a0_15 a0_16 fw _ (Kd.C_below HR.out HB2.out) HC.out XF.out).mono ?_
 rintro e w3 ⟨rfl, hb0⟩
 have hb : Below w2.heap.size w2 w3 := (by first | exact hb0 | exact hb0.below | (obtain ⟨m_, rfl⟩ := hb0; exact pw_below_drewN (Below.refl _ _) m_))
 clear hb0
 have HB3 := Aside0.mk (below_step HB2.out hb); replace B2 := Aside0.mk (blk_below B2.out hb); clear hb HB2
 by_cases c_fw : fw = true
 rotate_left
 ·replace c_fw := Bool.eq_false_iff.mpr c_fw
  subst c_fw
  rw [if_neg (by decide)] at h
  obtain rfl := Option.some.inj h
  go_wp2
  go_ret
  exact ⟨rfl, HB3.out⟩
 subst c_fw
 rw [if_pos rfl] at h
 obtain ⟨⟨b, b2⟩, x_, h⟩ := Option.bind_eq_some_iff.1 h
 have XE := Aside0.mk x_
 clear x_
 replace h : (if b2 = 0 then _ else (if b.toList = ([] : List UInt8) then some true else none)) = some r := h
 go_wp2_with (first | ((with_reducible refine gate_dst (N := 16) rfl ?_); ((try (refine gate_guard (by rfl) ?_; dsimp only)); refine load_box rfl 31 _ rfl g2 rfl #[.bool a0_0, .int .i64 a0_1, .int .i64 a0_2, .int .i64 a0_3, .int .i64 a0_4, .int .i64 a0_5, .int .i64 a0_6, .int .i64 a0_7, .int .i64 a0_8, .int .i64 a0_9, .bool a0_10, .string a0_11, .slice A0_12 l0_12.length c0_12, .string a0_13, .bool a0_14, .int .i64 a0_15, .int .i64 a0_16] _ B2.out Try.underlying31 rfl (by kernel_rfl) ?_)))
 with_reducible refine (icb_Encode.calls k a0_0 a0_1 a0_2 a0_3 a0_4 a0_5 a0_6 a0_7 a0_8 a0_9 a0_10 a0_11 A0_12 c0_12 l0_12 a0_13 a0_14 a0_15 a0_16 a1 b b2 _ (Kd.C_below HR.out HB3.out) HC.out XE.out).mono ?_
 rintro e w4 ⟨rfl, hb0⟩
 have hb : Below w3.heap.size w3 w4 := (by first | exact hb0 | exact hb0.below | (obtain ⟨m_, rfl⟩ := hb0; exact pw_below_drewN (Below.refl _ _) m_))
 clear hb0
 have HB4 := Aside0.mk (below_step HB3.out hb); replace B2 := Aside0.mk (blk_below B2.out hb); clear hb HB3
 by_cases cb : b2 = 0
 rotate_left
 ·rw [if_neg cb] at h
  by_cases ce : b.toList = ([] : List UInt8)
  rotate_left
  ·rw [if_neg ce] at h; cases h
  rw [if_pos ce] at h
  obtain rfl := Option.some.inj h
  have e1 : (b.toList == ([] : List UInt8)) = true := beq_iff_eq.mpr ce
  have e2 : (b2 = 0) = False := eq_false cb
  have e3 : (b2 == 0) = false := beq_eq_false_iff_ne.mpr cb
  go_wp2
  go_ret
  exact ⟨rfl, HB4.out⟩
 subst cb
 rw [if_pos rfl] at h
 obtain ⟨⟨d1, d2, d3, d4, d5, d6, d7, d8, d9, d10, d11, d12, d13, d14, d15, d16, d17, d18⟩, x_, h⟩ := Option.bind_eq_some_iff.1 h
 have XD := Aside0.mk x_
 clear x_
 obtain ⟨⟨q1, q2, q3, q4, q5, q6, q7, q8, q9, q10, q11, q12, q13, q14, q15, q16, q17, q18⟩, x_, h⟩ := Option.bind_eq_some_iff.1 h
 have XQ := Aside0.mk x_
 clear x_
 obtain ⟨sm, x_, h⟩ := Option.bind_eq_some_iff.1 h
 have XS := Aside0.mk x_
 clear x_
 replace h : (if sm = true ∧ d18 = 0 ∧ q18 = 10 then some true else none) = some r := h
 by_cases hk : sm = true ∧ d18 = 0 ∧ q18 = 10
 rotate_left
 ·rw [if_neg hk] at h; cases h
 rw [if_pos hk] at h
 obtain rfl := Option.some.inj h
 clear h
 obtain ⟨rfl, rfl, rfl⟩ := hk
 go_wp2_with fail
 refine (icb_Decode.calls k b a1 _ _ _ _ _ _ _ _ _ _ _ _ _ _ _ _ _ _ _ XD.out).mono ?_
 rintro e w5 ⟨sv, rfl, ho, hb⟩
 obtain ⟨Ad, Cd, rfl, hc, hC⟩ := Kd.R_reads ho
 have HLd := Aside0.mk hc
 have HDd := Aside0.mk hC
 clear ho hc hC
 have HB5 := Aside0.mk (below_step HB4.out hb); replace B2 := Aside0.mk (blk_below B2.out hb); clear hb HB4
 go_wp2_with (first | ((with_reducible refine gate_dst (N := 7) rfl ?_); refine box_event ?hg (N := 7) ?hd (cs := #[.bool false, .int .i64 0, .int .i64 0, .int .i64 0, .int .i64 0, .int .i64 0, .int .i64 0, .int .i64 0, .int .i64 0, .int .i64 0, .bool false, .string (⟨#[]⟩ : ByteArray), .slice none 0 0, .string (⟨#[]⟩ : ByteArray), .bool false, .int .i64 0, .int .i64 0]) (t := 31) ?hr ?_; (case hd => rfl); (case hg => rfl); (case hr => first | (go_simp; done) | (go_simp; rfl)); intro g7 hg wz hbox hb; have HZ := Aside0.mk hb; have BZ := Aside0.mk hbox; have GZ := Aside0.mk hg; clear hb hbox hg) | ((with_reducible refine gate_store rfl ?_); refine wpList_store_row (by rfl) _ _ _ (by rfl) g7 #[.bool d1, .int .i64 d2, .int .i64 d3, .int .i64 d4, .int .i64 d5, .int .i64 d6, .int .i64 d7, .int .i64 d8, .int .i64 d9, .int .i64 d10, .bool d11, .string d12, .slice Ad d13.length Cd, .string d14, .bool d15, .int .i64 d16, .int .i64 d17] (by rfl) (by rfl) _ _ BZ.out (by kernel_rfl) (by rfl) (one_C _ _ _ _ _ _ _ _ _ _ _ _ _ _ _ _ _ rfl) ?_; have hb := below_setRow HZ.out (Nat.le_of_eq GZ.out.symm) #[.bool d1, .int .i64 d2, .int .i64 d3, .int .i64 d4, .int .i64 d5, .int .i64 d6, .int .i64 d7, .int .i64 d8, .int .i64 d9, .int .i64 d10, .bool d11, .string d12, .slice Ad d13.length Cd, .string d14, .bool d15, .int .i64 d16, .int .i64 d17]; have B7 := Aside0.mk (setRow_heap wz g7 _ #[.bool d1, .int .i64 d2, .int .i64 d3, .int .i64 d4, .int .i64 d5, .int .i64 d6, .int .i64 d7, .int .i64 d8, .int .i64 d9, .int .i64 d10, .bool d11, .string d12, .slice Ad d13.length Cd, .string d14, .bool d15, .int .i64 d16, .int .i64 d17] _ _ BZ.out); clear HZ BZ GZ; generalize wz.setRow g7 #[.bool d1, .int .i64 d2, .int .i64 d3, .int .i64 d4, .int .i64 d5, .int .i64 d6, .int .i64 d7, .int .i64 d8, .int .i64 d9, .int .i64 d10, .bool d11, .string d12, .slice Ad d13.length Cd, .string d14, .bool d15, .int .i64 d16, .int .i64 d17] = w6 at hb B7 ⊢; have HB6 := Aside0.mk (below_step HB5.out hb); replace B2 := Aside0.mk (blk_below B2.out hb); replace HDd := Aside0.mk (Kd.C_below HDd.out hb); clear hb HB5))
 refine (icb_Decode.calls k b (wrap64 (a1 + 1)) _ _ _ _ _ _ _ _ _ _ _ _ _ _ _ _ _ _ _ XQ.out).mono ?_
 rintro e w7 ⟨sv, rfl, ho, hb⟩
 obtain ⟨Aq, Cq, rfl, hc, hC⟩ := Kd.R_reads ho
 have HLq := Aside0.mk hc
 have HDq := Aside0.mk hC
 clear ho hc hC
 have HB7 := Aside0.mk (below_step HB6.out hb); replace B2 := Aside0.mk (blk_below B2.out hb); replace HDd := Aside0.mk (Kd.C_below HDd.out hb); replace B7 := Aside0.mk (blk_below B7.out hb); clear hb HB6
 go_wp2_with (first | ((with_reducible refine gate_dst (N := 8) rfl ?_); refine box_event ?hg (N := 8) ?hd (cs := #[.bool false, .int .i64 0, .int .i64 0, .int .i64 0, .int .i64 0, .int .i64 0, .int .i64 0, .int .i64 0, .int .i64 0, .int .i64 0, .bool false, .string (⟨#[]⟩ : ByteArray), .slice none 0 0, .string (⟨#[]⟩ : ByteArray), .bool false, .int .i64 0, .int .i64 0]) (t := 31) ?hr ?_; (case hd => rfl); (case hg => rfl); (case hr => first | (go_simp; done) | (go_simp; rfl)); intro g8 hg wz hbox hb; have HZ := Aside0.mk hb; have BZ := Aside0.mk hbox; have GZ := Aside0.mk hg; clear hb hbox hg) | ((with_reducible refine gate_store rfl ?_); refine wpList_store_row (by rfl) _ _ _ (by rfl) g8 #[.bool q1, .int .i64 q2, .int .i64 q3, .int .i64 q4, .int .i64 q5, .int .i64 q6, .int .i64 q7, .int .i64 q8, .int .i64 q9, .int .i64 q10, .bool q11, .string q12, .slice Aq q13.length Cq, .string q14, .bool q15, .int .i64 q16, .int .i64 q17] (by rfl) (by rfl) _ _ BZ.out (by kernel_rfl) (by rfl) (one_C _ _ _ _ _ _ _ _ _ _ _ _ _ _ _ _ _ rfl) ?_; have hb := below_setRow HZ.out (Nat.le_of_eq GZ.out.symm) #[.bool q1, .int .i64 q2, .int .i64 q3, .int .i64 q4, .int .i64 q5, .int .i64 q6, .int .i64 q7, .int .i64 q8, .int .i64 q9, .int .i64 q10, .bool q11, .string q12, .slice Aq q13.length Cq, .string q14, .bool q15, .int .i64 q16, .int .i64 q17]; have B8 := Aside0.mk (setRow_heap wz g8 _ #[.bool q1, .int .i64 q2, .int .i64 q3, .int .i64 q4, .int .i64 q5, .int .i64 q6, .int .i64 q7, .int .i64 q8, .int .i64 q9, .int .i64 q10, .bool q11, .string q12, .slice Aq q13.length Cq, .string q14, .bool q15, .int .i64 q16, .int .i64 q17] _ _ BZ.out); clear HZ BZ GZ; generalize wz.setRow g8 #[.bool q1, .int .i64 q2, .int .i64 q3, .int .i64 q4, .int .i64 q5, .int .i64 q6, .int .i64 q7, .int .i64 q8, .int .i64 q9, .int .i64 q10, .bool q11, .string q12, .slice Aq q13.length Cq, .string q14, .bool q15, .int .i64 q16, .int .i64 q17] = w8 at hb B8 ⊢; have HB8 := Aside0.mk (below_step HB7.out hb); replace B2 := Aside0.mk (blk_below B2.out hb); replace HDd := Aside0.mk (Kd.C_below HDd.out hb); replace B7 := Aside0.mk (blk_below B7.out hb); replace HDq := Aside0.mk (Kd.C_below HDq.out hb); clear hb HB7) | ((with_reducible refine gate_dst (N := 41) rfl ?_); refine gate_guard (by rfl) ?_; (try dsimp only); refine load_box rfl 31 _ rfl g7 rfl #[.bool d1, .int .i64 d2, .int .i64 d3, .int .i64 d4, .int .i64 d5, .int .i64 d6, .int .i64 d7, .int .i64 d8, .int .i64 d9, .int .i64 d10, .bool d11, .string d12, .slice Ad d13.length Cd, .string d14, .bool d15, .int .i64 d16, .int .i64 d17] _ B7.out Try.underlying31 rfl (by kernel_rfl) ?_; (try simp only [put4_]); refine gate_guard (by rfl) ?_; (try dsimp only); refine load_box rfl 31 _ rfl g2 rfl #[.bool a0_0, .int .i64 a0_1, .int .i64 a0_2, .int .i64 a0_3, .int .i64 a0_4, .int .i64 a0_5, .int .i64 a0_6, .int .i64 a0_7, .int .i64 a0_8, .int .i64 a0_9, .bool a0_10, .string a0_11, .slice A0_12 l0_12.length c0_12, .string a0_13, .bool a0_14, .int .i64 a0_15, .int .i64 a0_16] _ B2.out Try.underlying31 rfl (by kernel_rfl) ?_; (try simp only [put4_]); refine gate_guard (by rfl) ?_; (try dsimp only); refine goesL_ (some 43) rfl rfl Try.func16 (by kernel_rfl) rfl #[.agg #[.bool d1, .int .i64 d2, .int .i64 d3, .int .i64 d4, .int .i64 d5, .int .i64 d6, .int .i64 d7, .int .i64 d8, .int .i64 d9, .int .i64 d10, .bool d11, .string d12, .slice Ad d13.length Cd, .string d14, .bool d15, .int .i64 d16, .int .i64 d17], .agg #[.bool a0_0, .int .i64 a0_1, .int .i64 a0_2, .int .i64 a0_3, .int .i64 a0_4, .int .i64 a0_5, .int .i64 a0_6, .int .i64 a0_7, .int .i64 a0_8, .int .i64 a0_9, .bool a0_10, .string a0_11, .slice A0_12 l0_12.length c0_12, .string a0_13, .bool a0_14, .int .i64 a0_15, .int .i64 a0_16]] rfl (by first | rfl | (simp only [List.map_toArray, List.map_cons, List.map_nil]; rfl)) ?_; with_reducible refine (masterdiscref34_Same.calls k d1 d2 d3 d4 d5 d6 d7 d8 d9 d10 d11 d12 Ad Cd d13 d14 d15 d16 d17 a0_0 a0_1 a0_2 a0_3 a0_4 a0_5 a0_6 a0_7 a0_8 a0_9 a0_10 a0_11 A0_12 c0_12 l0_12 a0_13 a0_14 a0_15 a0_16 true _ HDd.out HLd.out (Kd.C_below HR.out HB8.out) HC.out XS.out).mono ?_; (rintro e w9 ⟨rfl, hb0⟩); have hb : Below w8.heap.size w8 w9 := (by first | exact hb0 | exact hb0.below | (obtain ⟨m_, rfl⟩ := hb0; exact pw_below_drewN (Below.refl _ _) m_)); clear hb0; have HB9 := Aside0.mk (below_step HB8.out hb); replace B2 := Aside0.mk (blk_below B2.out hb); replace HDd := Aside0.mk (Kd.C_below HDd.out hb); replace B7 := Aside0.mk (blk_below B7.out hb); replace HDq := Aside0.mk (Kd.C_below HDq.out hb); replace B8 := Aside0.mk (blk_below B8.out hb); clear hb HB8; refine ⟨_, rfl, ?_⟩; (try simp only [put4_])))
 go_ret
 exact ⟨rfl, HB9.out⟩

/-- The pure statement of masterdisclaw34_IcbReturns. -/
def masterdisclaw34_IcbReturns.Pure : Prop := ∀ (x0 : S31) (x1 : Int), ((True) ∧ ((Lit.int .i64 x0.f1).wf = true) ∧ ((Lit.int .i64 x0.f2).wf = true) ∧ ((Lit.int .i64 x0.f3).wf = true) ∧ ((Lit.int .i64 x0.f4).wf = true) ∧ ((Lit.int .i64 x0.f5).wf = true) ∧ ((Lit.int .i64 x0.f6).wf = true) ∧ ((Lit.int .i64 x0.f7).wf = true) ∧ ((Lit.int .i64 x0.f8).wf = true) ∧ ((Lit.int .i64 x0.f9).wf = true) ∧ (True) ∧ (x0.f11.size ≤ 140737488351232) ∧ (x0.f12.length * 32 ≤ 140737488351232 ∧ ∀ z ∈ x0.f12, ((Lit.int .i64 z.f0).wf = true) ∧ ((Lit.int .i64 z.f1).wf = true) ∧ (((Lit.int .i64 z.f2.f0).wf = true) ∧ ((Lit.int .i64 z.f2.f1).wf = true))) ∧ (x0.f13.size ≤ 140737488351232) ∧ (True) ∧ (((Lit.int .i64 x0.f15.f0).wf = true) ∧ ((Lit.int .i64 x0.f15.f1).wf = true))) → ((Lit.int .i64 x1).wf = true) → ∃ k, masterdisclaw34_IcbReturns.f k x0.f0 x0.f1 x0.f2 x0.f3 x0.f4 x0.f5 x0.f6 x0.f7 x0.f8 x0.f9 x0.f10 x0.f11 x0.f12 x0.f13 x0.f14 x0.f15.f0 x0.f15.f1 x1 = some true

end Go.Proofs.Yticmghpnbjhhnab.M
