/- Lean functions with the answers of the Go functions that they are named after, and the walks that tie the Go functions to them (written by the program mp.py of this session). -/
import Derived.Test.YticmghpnbjhhnabM0
import Derived.Test.YticmghpnbjhhnabM4
import Derived.Test.YticmghpnbjhhnabM5
namespace Go.Proofs.Yticmghpnbjhhnab.M
open Go.RowKit Go.Proofs.YticmghpnbjhhnabW.PrintWords Go.Proofs.YticmghpnbjhhnabW.PrintLast Go.Proofs.YticmghpnbjhhnabW.PrintMore
attribute [local go_sem] fieldA50_0 fieldA102_0 max2_int min2_int max_two min_two max_three min_three max_four min_four   -- for this text's walks alone
set_option linter.unusedVariables false
set_option linter.unusedSimpArgs false

/-! ### icb_extents: function 41 -/
def icb_extents.j0 : Nat → List (S69) → Int → Bool → Bool → Int → Int → Int → Int → Int → Int → Int → Int → Int → Bool → ByteArray → List (S69) → ByteArray → Bool → Int → Int → Option (Bool)
 | 0, _, _, _, _, _, _, _, _, _, _, _, _, _, _, _, _, _, _, _, _ => none
 | k + 1, x3, x4, x24, x144000, x144001, x144002, x144003, x144004, x144005, x144006, x144007, x144008, x144009, x144010, x144011, x144012, x144013, x144014, x144015, x144016 => if x24 = true then (if 0 ≤ x4 then (if x4 ≤ (x3.length : Int) then ((allocation_EncodeLong.f k (x3.drop (x4 : Int).toNat)).bind fun bt149 => (if bt149.2 = 0 then ((allocation_Valid.f k (x3.take (x4 : Int).toNat)).bind fun t155 => (if t155 = true then ((allocation_Length.f k (x3.take (x4 : Int).toNat)).bind fun t160 => (some (decide (t160 < x144008)))) else (some false))) else (some false))) else (none)) else (none)) else ((allocation_Valid.f k x3).bind fun t161 => (if t161 = true then ((allocation_Length.f k x3).bind fun t162 => (some (t162 == x144008))) else (some false)))
def icb_extents.f (k : Nat) (a0_0 : Bool) (a0_1 : Int) (a0_2 : Int) (a0_3 : Int) (a0_4 : Int) (a0_5 : Int) (a0_6 : Int) (a0_7 : Int) (a0_8 : Int) (a0_9 : Int) (a0_10 : Bool) (a0_11 : ByteArray) (l0_12 : List (S69)) (a0_13 : ByteArray) (a0_14 : Bool) (a0_15 : Int) (a0_16 : Int) : Option (Bool) := if (l0_12.length : Int) > 64 then (some false) else (if (wrap64 ((l0_12.length : Int) - 1)) ≥ 0 then (if 0 ≤ (wrap64 ((l0_12.length : Int) - 1)) then (if (wrap64 ((l0_12.length : Int) - 1)) < (l0_12.length : Int) then (icb_extents.j0 k l0_12 (wrap64 ((l0_12.length : Int) - 1)) (((rd_T69 l0_12 (wrap64 ((l0_12.length : Int) - 1))).f0) == 3) a0_0 a0_1 a0_2 a0_3 a0_4 a0_5 a0_6 a0_7 a0_8 a0_9 a0_10 a0_11 l0_12 a0_13 a0_14 a0_15 a0_16) else (none)) else (none)) else (icb_extents.j0 k l0_12 (wrap64 ((l0_12.length : Int) - 1)) false a0_0 a0_1 a0_2 a0_3 a0_4 a0_5 a0_6 a0_7 a0_8 a0_9 a0_10 a0_11 l0_12 a0_13 a0_14 a0_15 a0_16))
theorem icb_extents.mono_l : ∀ k, (∀ y0 y1 y2 y3 y4 y5 y6 y7 y8 y9 y10 y11 y12 y13 y14 y15 y16 y17 y18 y19, LeO (icb_extents.j0 k y0 y1 y2 y3 y4 y5 y6 y7 y8 y9 y10 y11 y12 y13 y14 y15 y16 y17 y18 y19) (icb_extents.j0 (k + 1) y0 y1 y2 y3 y4 y5 y6 y7 y8 y9 y10 y11 y12 y13 y14 y15 y16 y17 y18 y19))
 | 0 => fun _ _ _ _ _ _ _ _ _ _ _ _ _ _ _ _ _ _ _ _ r h => by simp [icb_extents.j0] at h
 | k + 1 => by
  have ih0 := icb_extents.mono_l k
  ·intro y0 y1 y2 y3 y4 y5 y6 y7 y8 y9 y10 y11 y12 y13 y14 y15 y16 y17 y18 y19
   unfold icb_extents.j0
   repeat' first
   | (with_reducible exact ih0 _ _ _ _ _ _ _ _ _ _ _ _ _ _ _ _ _ _ _ _)
   | (with_reducible exact allocation_EncodeLong.mono _ _)
   | (with_reducible exact allocation_Length.mono _ _)
   | (with_reducible exact allocation_Valid.mono _ _)
   | (with_reducible exact LeO.refl _)
   | (with_reducible exact LeO.none _)
   | (with_reducible refine LeO.ite ?_ ?_)
   | (with_reducible refine LeO.bind ?_ (fun _ => ?_))
   | exact ih0 _ _ _ _ _ _ _ _ _ _ _ _ _ _ _ _ _ _ _ _
   | exact allocation_EncodeLong.mono _ _
   | exact allocation_Length.mono _ _
   | exact allocation_Valid.mono _ _
   | exact LeO.none _
   | refine LeO.ite ?_ ?_
   | refine LeO.bind ?_ (fun _ => ?_)
theorem icb_extents.mono : ∀ a0 a1 a2 a3 a4 a5 a6 a7 a8 a9 a10 a11 a12 a13 a14 a15 a16 k, LeO (icb_extents.f k a0 a1 a2 a3 a4 a5 a6 a7 a8 a9 a10 a11 a12 a13 a14 a15 a16) (icb_extents.f (k + 1) a0 a1 a2 a3 a4 a5 a6 a7 a8 a9 a10 a11 a12 a13 a14 a15 a16) := by
 intro a0 a1 a2 a3 a4 a5 a6 a7 a8 a9 a10 a11 a12 a13 a14 a15 a16 k
 have ih0 := icb_extents.mono_l k
 unfold icb_extents.f
 repeat' first
   | (with_reducible exact ih0 _ _ _ _ _ _ _ _ _ _ _ _ _ _ _ _ _ _ _ _)
   | (with_reducible exact allocation_EncodeLong.mono _ _)
   | (with_reducible exact allocation_Length.mono _ _)
   | (with_reducible exact allocation_Valid.mono _ _)
   | (with_reducible exact LeO.refl _)
   | (with_reducible exact LeO.none _)
   | (with_reducible refine LeO.ite ?_ ?_)
   | (with_reducible refine LeO.bind ?_ (fun _ => ?_))
   | exact ih0 _ _ _ _ _ _ _ _ _ _ _ _ _ _ _ _ _ _ _ _
   | exact allocation_EncodeLong.mono _ _
   | exact allocation_Length.mono _ _
   | exact allocation_Valid.mono _ _
   | exact LeO.none _
   | refine LeO.ite ?_ ?_
   | refine LeO.bind ?_ (fun _ => ?_)
def icb_extents.T7 : Bool × List (List Nat × List Nat) := (true, [([], []), ([0], [0]), ([1], [1]), ([2], [2]), ([2], [2]), ([3, 4, 2], [2, 3, 4]), ([5, 2, 2], [2, 5]), ([2, 6], [2, 6]), ([7, 6], [7]), ([8], [8]), ([8], [8]), ([9, 10, 8], [8, 9, 10]), ([11, 8, 8], [8, 11]), ([8], [8]), ([13, 8], [8, 13]), ([12, 14, 8], [8, 12, 14]), ([8, 15], [8, 15]), ([16, 12, 0, 1, 2, 3, 4, 5, 6, 7, 8, 9, 10, 11, 12, 13, 14, 15, 16], [16])])
def icb_extents.B7 : List Nat := [0, 1, 3, 7, 7, 31, 63, 127, 255, 511, 511, 2047, 4095, 511, 8703, 32767, 65535, 131071]
theorem icb_extents.tab7 : rtab .any (opsOf Try.f41 7) = icb_extents.T7 := by kernel_rfl
theorem icb_extents.bits7 : waitsOk icb_extents.T7.2 icb_extents.B7 = true := by kernel_rfl
def icb_extents.T8 : Bool × List (List Nat × List Nat) := (true, [([], []), ([0], [0]), ([1, 1], [1]), ([2], [2]), ([3, 2, 2], [2, 3]), ([2], [2]), ([5, 2], [2, 5]), ([4, 6, 2], [2, 4, 6]), ([2, 7], [2, 7]), ([8, 4, 0, 1, 2, 3, 4, 5, 6, 7, 8], [8])])
def icb_extents.B8 : List Nat := [0, 1, 3, 7, 15, 7, 39, 127, 255, 511]
theorem icb_extents.tab8 : rtab .any (opsOf Try.f41 8) = icb_extents.T8 := by kernel_rfl
theorem icb_extents.bits8 : waitsOk icb_extents.T8.2 icb_extents.B8 = true := by kernel_rfl
set_option maxHeartbeats 8000000 in
set_option maxRecDepth 100000 in
theorem icb_extents.calls (k : Nat) (a0_0 : Bool) (a0_1 : Int) (a0_2 : Int) (a0_3 : Int) (a0_4 : Int) (a0_5 : Int) (a0_6 : Int) (a0_7 : Int) (a0_8 : Int) (a0_9 : Int) (a0_10 : Bool) (a0_11 : ByteArray) (A0_12 : Option Addr) (c0_12 : Nat) (l0_12 : List (S69)) (a0_13 : ByteArray) (a0_14 : Bool) (a0_15 : Int) (a0_16 : Int) (r : Bool) (w : World) (hr0_12 : Kd.C k69 w A0_12 l0_12.length l0_12) (hc0_12 : l0_12.length ≤ c0_12) (h : icb_extents.f k a0_0 a0_1 a0_2 a0_3 a0_4 a0_5 a0_6 a0_7 a0_8 a0_9 a0_10 a0_11 l0_12 a0_13 a0_14 a0_15 a0_16 = some r) :
  Calls Try.prog 41 #[.agg #[.bool a0_0, .int .i64 a0_1, .int .i64 a0_2, .int .i64 a0_3, .int .i64 a0_4, .int .i64 a0_5, .int .i64 a0_6, .int .i64 a0_7, .int .i64 a0_8, .int .i64 a0_9, .bool a0_10, .string a0_11, .slice A0_12 l0_12.length c0_12, .string a0_13, .bool a0_14, .int .i64 a0_15, .int .i64 a0_16]] w fun e w' => e = .returned (.bool r) ∧ Below w.heap.size w w' := by
 have hu31 := Try.underlying31
 have HR0_12 := Aside0.mk hr0_12
 have HC0_12 := Aside0.mk hc0_12
 clear hr0_12 hc0_12
 have HB := Aside0.mk (Below.refl w.heap.size w)
 have H : (if (l0_12.length : Int) > 64 then (some false) else (if (wrap64 ((l0_12.length : Int) - 1)) ≥ 0 then (if 0 ≤ (wrap64 ((l0_12.length : Int) - 1)) then (if (wrap64 ((l0_12.length : Int) - 1)) < (l0_12.length : Int) then (icb_extents.j0 k l0_12 (wrap64 ((l0_12.length : Int) - 1)) (((rd_T69 l0_12 (wrap64 ((l0_12.length : Int) - 1))).f0) == 3) a0_0 a0_1 a0_2 a0_3 a0_4 a0_5 a0_6 a0_7 a0_8 a0_9 a0_10 a0_11 l0_12 a0_13 a0_14 a0_15 a0_16) else (none)) else (none)) else (icb_extents.j0 k l0_12 (wrap64 ((l0_12.length : Int) - 1)) false a0_0 a0_1 a0_2 a0_3 a0_4 a0_5 a0_6 a0_7 a0_8 a0_9 a0_10 a0_11 l0_12 a0_13 a0_14 a0_15 a0_16))) = some r := h
 clear h
 by_cases c2 : (l0_12.length : Int) > 64
 ·rw [if_pos c2] at H
  have c2b0 : decide (64 < (l0_12.length : Int)) = true := decide_eq_true c2
  have c2b1 : decide (64 < l0_12.length) = true := decide_eq_true (by omega)
  clear c2
  obtain rfl := Option.some.inj H
  go_enter Try.func41, Try.ntmps41
  go_wp2_with (first | ((with_reducible refine gate_dst (N := 1) rfl ?_); refine box_event ?hg (N := 1) ?hd (cs := #[.bool a0_0, .int .i64 a0_1, .int .i64 a0_2, .int .i64 a0_3, .int .i64 a0_4, .int .i64 a0_5, .int .i64 a0_6, .int .i64 a0_7, .int .i64 a0_8, .int .i64 a0_9, .bool a0_10, .string a0_11, .slice A0_12 l0_12.length c0_12, .string a0_13, .bool a0_14, .int .i64 a0_15, .int .i64 a0_16]) (t := 31) ?hr ?_; (case hd => rfl); (case hg => rfl); (case hr => first | (go_simp; done) | (go_simp; rfl)); intro gb143 hg w3 hbox hb; have n0_ := Aside0.mk (below_step (by repeat (first | (with_reducible first | exact HB.out | apply below_alloc | apply pw_below_drewN | apply below_drew1) | exact HB.out)) hb); have n1_ := Aside0.mk (hbox); have n2_ := Aside0.mk ((by rw [hg]; exact (below_size (by repeat (first | (with_reducible first | exact HB.out | apply below_alloc | apply pw_below_drewN | apply below_drew1) | exact HB.out))) : w.heap.size ≤ gb143)); have n3_ := Aside0.mk ((by rw [hg]; exact (below_size (by repeat (first | (with_reducible first | exact HB.out | apply below_alloc | apply pw_below_drewN | apply below_drew1) | exact HB.out))) : w.heap.size ≤ gb143)); clear HB; have HB := n0_; have BK143 := n1_; have GW143 := n2_; have GE143 := n3_; clear n0_ n1_ n2_ n3_; clear hb hbox hg; obtain ⟨hcz4_0, hcz4_1, hcz4_2, hcz4_3, hcz4_4, hcz4_5, hcz4_6, hcz4_7, hcz4_8, hcz4_9, hcz4_10, hcz4_11, hcz4_12, hcz4_13, hcz4_14, hcz4_15, hcz4_16⟩ := cz_17 BK143.out; obtain ⟨hfz4_0, hfz4_1, hfz4_2, hfz4_3, hfz4_4, hfz4_5, hfz4_6, hfz4_7, hfz4_8, hfz4_9, hfz4_10, hfz4_11, hfz4_12, hfz4_13, hfz4_14, hfz4_15, hfz4_16⟩ := fz_17 BK143.out))
  go_ret
  exact ⟨by first | rfl | (simp [errW_none, errW_some] <;> rfl) | (simp [*, errW_none, errW_some] <;> rfl), by repeat (first | (with_reducible first | exact HB.out | apply below_alloc | apply pw_below_drewN | apply below_drew1 | refine below_set ?_ GE143.out) | exact HB.out)⟩
 ·rw [if_neg c2] at H
  have c2b0 : decide (64 < (l0_12.length : Int)) = false := decide_eq_false c2
  have c2b1 : decide (64 < l0_12.length) = false := decide_eq_false (by omega)
  clear c2
  have HC5 := Aside0.mk H
  clear H
  go_enter Try.func41, Try.ntmps41
  go_upto_region 5 with (first | ((with_reducible refine gate_dst (N := 1) rfl ?_); refine box_event ?hg (N := 1) ?hd (cs := #[.bool a0_0, .int .i64 a0_1, .int .i64 a0_2, .int .i64 a0_3, .int .i64 a0_4, .int .i64 a0_5, .int .i64 a0_6, .int .i64 a0_7, .int .i64 a0_8, .int .i64 a0_9, .bool a0_10, .string a0_11, .slice A0_12 l0_12.length c0_12, .string a0_13, .bool a0_14, .int .i64 a0_15, .int .i64 a0_16]) (t := 31) ?hr ?_; (case hd => rfl); (case hg => rfl); (case hr => first | (go_simp; done) | (go_simp; rfl)); intro gb143 hg w6 hbox hb; have n0_ := Aside0.mk (below_step (by repeat (first | (with_reducible first | exact HB.out | apply below_alloc | apply pw_below_drewN | apply below_drew1) | exact HB.out)) hb); have n1_ := Aside0.mk (hbox); have n2_ := Aside0.mk ((by rw [hg]; exact (below_size (by repeat (first | (with_reducible first | exact HB.out | apply below_alloc | apply pw_below_drewN | apply below_drew1) | exact HB.out))) : w.heap.size ≤ gb143)); have n3_ := Aside0.mk ((by rw [hg]; exact (below_size (by repeat (first | (with_reducible first | exact HB.out | apply below_alloc | apply pw_below_drewN | apply below_drew1) | exact HB.out))) : w.heap.size ≤ gb143)); clear HB; have HB := n0_; have BK143 := n1_; have GW143 := n2_; have GE143 := n3_; clear n0_ n1_ n2_ n3_; clear hb hbox hg; obtain ⟨hcz7_0, hcz7_1, hcz7_2, hcz7_3, hcz7_4, hcz7_5, hcz7_6, hcz7_7, hcz7_8, hcz7_9, hcz7_10, hcz7_11, hcz7_12, hcz7_13, hcz7_14, hcz7_15, hcz7_16⟩ := cz_17 BK143.out; obtain ⟨hfz7_0, hfz7_1, hfz7_2, hfz7_3, hfz7_4, hfz7_5, hfz7_6, hfz7_7, hfz7_8, hfz7_9, hfz7_10, hfz7_11, hfz7_12, hfz7_13, hfz7_14, hfz7_15, hfz7_16⟩ := fz_17 BK143.out))
  (try simp only [put4_])
  go_cut [24] (fun v24 wc => ∃ (kq : Nat) (x24_4 : Bool), v24 = .bool x24_4 ∧ Aside0 (icb_extents.j0 kq l0_12 (wrap64 ((l0_12.length : Int) - 1)) x24_4 a0_0 a0_1 a0_2 a0_3 a0_4 a0_5 a0_6 a0_7 a0_8 a0_9 a0_10 a0_11 l0_12 a0_13 a0_14 a0_15 a0_16 = some r) ∧ Aside0 (kq ≤ k) ∧ Aside0 (wc.heap[gb143]? = some (.cells #[.bool a0_0, .int .i64 a0_1, .int .i64 a0_2, .int .i64 a0_3, .int .i64 a0_4, .int .i64 a0_5, .int .i64 a0_6, .int .i64 a0_7, .int .i64 a0_8, .int .i64 a0_9, .bool a0_10, .string a0_11, (.slice A0_12 l0_12.length c0_12), .string a0_13, .bool a0_14, .int .i64 a0_15, .int .i64 a0_16] 31 (0, 0))) ∧ Aside0 (Below w.heap.size w wc))
  case first =>
   have H := HC5.out
   clear HC5
   by_cases c8 : (wrap64 ((l0_12.length : Int) - 1)) ≥ 0
   ·rw [if_pos c8] at H
    have c8b0 : decide (0 ≤ (wrap64 ((l0_12.length : Int) - 1))) = true := decide_eq_true c8
    clear c8
    (first | rw [c8b0] | (simp only [i64_w, i32_w]; rw [c8b0]) | skip)
    obtain ⟨ji9, hji9⟩ : ∃ j_ : Int, (wrap64 ((l0_12.length : Int) - 1)) = j_ := ⟨_, rfl⟩
    replace H : (if 0 ≤ (ji9) then (if (ji9) < (l0_12.length : Int) then (icb_extents.j0 k l0_12 ji9 (((rd_T69 l0_12 (ji9)).f0) == 3) a0_0 a0_1 a0_2 a0_3 a0_4 a0_5 a0_6 a0_7 a0_8 a0_9 a0_10 a0_11 l0_12 a0_13 a0_14 a0_15 a0_16) else (none)) else (none)) = some r := by first | (rw [hji9] at H; exact H) | (simp only [hji9] at H ⊢; exact H)
    (try rw [hji9] at c8b0)
    have hji9w : (IntKind.i64.wrap ((l0_12.length : Int) - 1)) = ji9 := (i64_w _).trans hji9
    by_cases c10 : 0 ≤ (ji9)
    ·rw [if_pos c10] at H
     have c10b0 : decide (0 ≤ (ji9)) = true := decide_eq_true c10
     clear c10
     by_cases c11 : (ji9) < (l0_12.length : Int)
     ·rw [if_pos c11] at H
      have c11b0 : decide ((ji9) < (l0_12.length : Int)) = true := decide_eq_true c11
      clear c11
      have H' := Aside0.mk H
      clear H
      have p144 : 0 ≤ ((ji9) : Int) := of_decide_eq_true (by first | (with_reducible assumption) | assumption)
      have q144 : (ji9) < (l0_12.length : Int) := of_decide_eq_true (by first | (with_reducible assumption) | assumption)
      obtain ⟨ad144, e144, hx144_0, hx144_1, hx144_2, hx144_3⟩ := at_T69 HR0_12.out (ji9) p144 q144
      cases e144
      replace hx144_0 := (HB.out.cell (World.block_lt_of_cell? w _ hx144_0)).trans hx144_0
      replace hx144_1 := (HB.out.cell (World.block_lt_of_cell? w _ hx144_1)).trans hx144_1
      replace hx144_2 := (HB.out.cell (World.block_lt_of_cell? w _ hx144_2)).trans hx144_2
      replace hx144_3 := (HB.out.cell (World.block_lt_of_cell? w _ hx144_3)).trans hx144_3
      replace p144 := eq_true p144
      replace q144 := eq_true q144
      go_wp2
      go_meet
      case rel => exact ⟨_, ((((rd_T69 l0_12 (ji9)).f0) == 3)), (by first | rfl | (simp; done) | (simp only [← hji9] <;> (first | rfl | simp)) | (simp [*]; done)), (by first | exact H' | (subst_vars; exact H')), ⟨by first | omega | exact Nat.le_refl _⟩, ⟨by (with_reducible repeat (first | refine blk_drewN ?_ _ | refine blk_drew ?_ | refine blk_alloc ?_ _)); exact BK143.out⟩, ⟨by repeat (first | (with_reducible first | exact HB.out | apply below_alloc | apply pw_below_drewN | apply below_drew1 | refine below_set ?_ GE143.out) | exact HB.out)⟩⟩
     ·rw [if_neg c11] at H
      exact absurd H (by simp)
    ·rw [if_neg c10] at H
     exact absurd H (by simp)
   ·rw [if_neg c8] at H
    have c8b0 : decide (0 ≤ (wrap64 ((l0_12.length : Int) - 1))) = false := decide_eq_false c8
    clear c8
    (first | rw [c8b0] | (simp only [i64_w, i32_w]; rw [c8b0]) | skip)
    have H' := Aside0.mk H
    clear H
    go_wp2
    go_meet
    case rel => exact ⟨_, (false), (by first | rfl | (simp; done) | (simp [*]; done)), H', ⟨by first | omega | exact Nat.le_refl _⟩, ⟨by (with_reducible repeat (first | refine blk_drewN ?_ _ | refine blk_drew ?_ | refine blk_alloc ?_ _)); exact BK143.out⟩, ⟨by repeat (first | (with_reducible first | exact HB.out | apply below_alloc | apply pw_below_drewN | apply below_drew1 | refine below_set ?_ GE143.out) | exact HB.out)⟩⟩
  case rest =>
   clear HC5
   try clear c1
   try clear p1
   try clear q1
   try clear hx1
   try clear c2
   try clear c2b0
   try clear c2b1
   try clear p2
   try clear c4
   try clear p6
   try clear c8
   try clear c8b0
   try clear c10
   try clear c10b0
   try clear c11
   try clear c11b0
   try clear hcz4_0 hcz4_1 hcz4_10 hcz4_11 hcz4_12 hcz4_13 hcz4_14 hcz4_15 hcz4_16 hcz4_2 hcz4_3 hcz4_4 hcz4_5 hcz4_6 hcz4_7 hcz4_8 hcz4_9
   try clear hcz7_0 hcz7_1 hcz7_10 hcz7_11 hcz7_12 hcz7_13 hcz7_14 hcz7_15 hcz7_16 hcz7_2 hcz7_3 hcz7_4 hcz7_5 hcz7_6 hcz7_7 hcz7_8 hcz7_9
   try clear hfz4_0 hfz4_1 hfz4_10 hfz4_11 hfz4_12 hfz4_13 hfz4_14 hfz4_15 hfz4_16 hfz4_2 hfz4_3 hfz4_4 hfz4_5 hfz4_6 hfz4_7 hfz4_8 hfz4_9
   try clear hfz7_0 hfz7_1 hfz7_10 hfz7_11 hfz7_12 hfz7_13 hfz7_14 hfz7_15 hfz7_16 hfz7_2 hfz7_3 hfz7_4 hfz7_5 hfz7_6 hfz7_7 hfz7_8 hfz7_9
   try clear hx144_0
   try clear hx144_1
   try clear hx144_2
   try clear hx144_3
   try clear p144
   try clear q144
   obtain ⟨kq, x24_4, rfl, HA, HJ4, BK143, HB⟩ := hcut
   cases kq with
   | zero => exact absurd HA.out (by simp [icb_extents.j0])
   | succ kj4 =>
    have H := HA.out
    clear HA
    simp only [icb_extents.j0] at H
    by_cases c12 : x24_4 = true
    ·subst c12
     have H1 : (if 0 ≤ (wrap64 ((l0_12.length : Int) - 1)) then (if (wrap64 ((l0_12.length : Int) - 1)) ≤ (l0_12.length : Int) then ((allocation_EncodeLong.f kj4 (l0_12.drop ((wrap64 ((l0_12.length : Int) - 1)) : Int).toNat)).bind fun bt149 => (if bt149.2 = 0 then ((allocation_Valid.f kj4 (l0_12.take ((wrap64 ((l0_12.length : Int) - 1)) : Int).toNat)).bind fun t155 => (if t155 = true then ((allocation_Length.f kj4 (l0_12.take ((wrap64 ((l0_12.length : Int) - 1)) : Int).toNat)).bind fun t160 => (some (decide (t160 < a0_8)))) else (some false))) else (some false))) else (none)) else (none)) = some r := by rw [if_pos rfl] at H; exact H
     clear H
     have H := H1
     clear H1
     obtain ⟨ji13, hji13⟩ : ∃ j_ : Int, (wrap64 ((l0_12.length : Int) - 1)) = j_ := ⟨_, rfl⟩
     replace H : (if 0 ≤ (ji13) then (if (ji13) ≤ (l0_12.length : Int) then ((allocation_EncodeLong.f kj4 (l0_12.drop ((ji13) : Int).toNat)).bind fun bt149 => (if bt149.2 = 0 then ((allocation_Valid.f kj4 (l0_12.take ((ji13) : Int).toNat)).bind fun t155 => (if t155 = true then ((allocation_Length.f kj4 (l0_12.take ((ji13) : Int).toNat)).bind fun t160 => (some (decide (t160 < a0_8)))) else (some false))) else (some false))) else (none)) else (none)) = some r := by first | (rw [hji13] at H; exact H) | (simp only [hji13] at H ⊢; exact H)
     have hji13w : (IntKind.i64.wrap ((l0_12.length : Int) - 1)) = ji13 := (i64_w _).trans hji13
     by_cases c14 : 0 ≤ (ji13)
     ·rw [if_pos c14] at H
      have c14b0 := eq_true c14
      have c14b1 : decide (0 ≤ (ji13)) = true := decide_eq_true c14
      clear c14
      by_cases c15 : (ji13) ≤ (l0_12.length : Int)
      ·rw [if_pos c15] at H
       have c15b0 := eq_true c15
       have c15b1 : decide ((ji13) ≤ (l0_12.length : Int)) = true := decide_eq_true c15
       clear c15
       obtain ⟨y145, hy145⟩ : ∃ y_ : List (S69), y_ = (l0_12.drop ((ji13) : Int).toNat) := ⟨_, rfl⟩
       replace H : ((allocation_EncodeLong.f kj4 y145).bind fun bt149 => (if bt149.2 = 0 then ((allocation_Valid.f kj4 (l0_12.take ((ji13) : Int).toNat)).bind fun t155 => (if t155 = true then ((allocation_Length.f kj4 (l0_12.take ((ji13) : Int).toNat)).bind fun t160 => (some (decide (t160 < a0_8)))) else (some false))) else (some false))) = some r := by first | (rw [hy145]; with_reducible exact H) | (have H2_ := (Option.bind_some _ _).symm.trans H; rw [hy145]; with_reducible exact H2_) | (have H2_ := (Option.bind_some _ _).symm.trans H; with_reducible exact H2_) | with_reducible exact H | (rw [hy145]; exact H) | exact H
       have Ny145 := Aside0.mk hy145
       clear hy145
       replace H := Option.bind_eq_some_iff.mp H
       obtain ⟨⟨t149, t150⟩, A160, H⟩ := H
       replace H : (if t150 = 0 then ((allocation_Valid.f kj4 (l0_12.take ((ji13) : Int).toNat)).bind fun t155 => (if t155 = true then ((allocation_Length.f kj4 (l0_12.take ((ji13) : Int).toNat)).bind fun t160 => (some (decide (t160 < a0_8)))) else (some false))) else (some false)) = some r := H
       have A16 := Aside0.mk A160
       clear A160
       by_cases c17 : t150 = 0
       ·rw [if_pos c17] at H
        have c17b0 : (t150 == 0) = true := beq_iff_eq.mpr c17
        have c17b1 : (t150 != 0) = false := bne_eq_false_iff_eq.mpr c17
        clear c17
        have c18b0 := eq_true (of_decide_eq_true (by first | (with_reducible assumption) | assumption) : 0 ≤ (ji13))
        have c19b0 := eq_true (of_decide_eq_true (by first | (with_reducible assumption) | assumption) : (ji13) ≤ (l0_12.length : Int))
        obtain ⟨y151, hy151⟩ : ∃ y_ : List (S69), y_ = (l0_12.take ((ji13) : Int).toNat) := ⟨_, rfl⟩
        replace H : ((allocation_Valid.f kj4 y151).bind fun t155 => (if t155 = true then ((allocation_Length.f kj4 (l0_12.take ((ji13) : Int).toNat)).bind fun t160 => (some (decide (t160 < a0_8)))) else (some false))) = some r := by first | (rw [hy151]; with_reducible exact H) | (have H2_ := (Option.bind_some _ _).symm.trans H; rw [hy151]; with_reducible exact H2_) | (have H2_ := (Option.bind_some _ _).symm.trans H; with_reducible exact H2_) | with_reducible exact H | (rw [hy151]; exact H) | exact H
        have Ny151 := Aside0.mk hy151
        clear hy151
        replace H := Option.bind_eq_some_iff.mp H
        obtain ⟨t155, A200, H⟩ := H
        replace H : (if t155 = true then ((allocation_Length.f kj4 (l0_12.take ((ji13) : Int).toNat)).bind fun t160 => (some (decide (t160 < a0_8)))) else (some false)) = some r := H
        have A20 := Aside0.mk A200
        clear A200
        by_cases c21 : t155 = true
        ·subst c21
         have H1 : ((allocation_Length.f kj4 (l0_12.take ((ji13) : Int).toNat)).bind fun t160 => (some (decide (t160 < a0_8)))) = some r := by rw [if_pos rfl] at H; exact H
         clear H
         have H := H1
         clear H1
         have c22b0 := eq_true (of_decide_eq_true (by first | (with_reducible assumption) | assumption) : 0 ≤ (ji13))
         have c23b0 := eq_true (of_decide_eq_true (by first | (with_reducible assumption) | assumption) : (ji13) ≤ (l0_12.length : Int))
         obtain ⟨y156, hy156⟩ : ∃ y_ : List (S69), y_ = (l0_12.take ((ji13) : Int).toNat) := ⟨_, rfl⟩
         replace H : ((allocation_Length.f kj4 y156).bind fun t160 => (some (decide (t160 < a0_8)))) = some r := by first | (rw [hy156]; with_reducible exact H) | (have H2_ := (Option.bind_some _ _).symm.trans H; rw [hy156]; with_reducible exact H2_) | (have H2_ := (Option.bind_some _ _).symm.trans H; with_reducible exact H2_) | with_reducible exact H | (rw [hy156]; exact H) | exact H
         have Ny156 := Aside0.mk hy156
         clear hy156
         replace H := Option.bind_eq_some_iff.mp H
         obtain ⟨t160, A240, H⟩ := H
         replace H : (some (decide (t160 < a0_8))) = some r := H
         have A24 := Aside0.mk A240
         clear A240
         obtain rfl := Option.some.inj H
         have q25 : ((ji13) : Int) ≤ ((l0_12.length : Int) : Int) := of_decide_eq_true (by first | (with_reducible assumption) | assumption)
         obtain ⟨i025, hi025, _, hsz25, _⟩ := info_parts info69
         have hroom25 : l0_12.length ≤ c0_12 := HC0_12.out
         have hC25 : Kd.C k69 _ A0_12 l0_12.length l0_12 := HR0_12.out
         have q025 : (0 : Int) ≤ ((ji13) : Int) := of_decide_eq_true (by first | (with_reducible assumption) | assumption)
         have hcut25 := cut_from (P := Try.prog) 27 69 .i64 Try.underlying27 hi025 4 hsz25 A0_12 l0_12.length c0_12 (ji13) q025 q25
         have hr25 := Kd.C_drop (m := ((ji13) : Int).toNat) (c := c0_12) hC25 (by omega) hroom25
         obtain ⟨A25, hA25⟩ : ∃ A1, A1 = (if c0_12 = ((ji13) : Int).toNat then A0_12 else (A0_12 : Option Addr).map (·.add (((ji13) : Int).toNat * 4))) := ⟨_, rfl⟩
         obtain ⟨c25, hc25⟩ : ∃ c1, c1 = c0_12 - ((ji13) : Int).toNat := ⟨_, rfl⟩
         have hy25 : y145.length = l0_12.length - ((ji13) : Int).toNat := (by rw [Ny145.out, List.length_drop] <;> omega)
         rw [show (l0_12).drop ((ji13) : Int).toNat = y145 from Ny145.out.symm] at hr25
         replace hr25 : Kd.C k69 _ A25 y145.length y145 := (by rw [hA25]; exact hr25)
         rw [← hy25, ← hA25, ← hc25] at hcut25
         have HR148 := Aside0.mk hr25
         have HC148 := Aside0.mk (show y145.length ≤ c25 from by rw [hy25, hc25]; exact Nat.sub_le_sub_right hroom25 _)
         clear hr25 hC25 hroom25 hi025 hsz25 hc25
         have KY25 := Aside0.mk hy25
         have KA25 := Aside0.mk hA25
         clear hy25 hA25
         replace q25 := eq_true q25
         try go_wp2_with (first | ((with_reducible refine gate_callee (f := 23) rfl ?_); refine goesL_ (some 29) rfl rfl Try.func23 (by kernel_rfl) rfl #[.slice A25 y145.length c25] rfl (by (try simp only [List.map_toArray, List.map_cons, List.map_nil]); first | done | rfl | (simp only [List.length_drop, List.length_take]; rfl) | exact congrArg (fun q => #[Value.slice _ q _]) (by (try have := KY25.out); omega)) ?_; (with_reducible refine (allocation_EncodeLong.calls kj4 _ _ y145 t149 t150 _ ?side1 ?side2 A16.out).mono ?_); (case side1 => repeat (first | exact (Kd.C_below HR148.out HB.out) | (with_reducible refine Kd.C_alloc ?_ _) | (with_reducible refine Kd.C_drewN ?_ _) | (with_reducible refine Kd.C_drew ?_))); (case side2 => exact HC148.out); rintro e w26 ⟨rfl, hb⟩; refine ⟨_, rfl, ?_⟩; have n0_ := Aside0.mk (blk_below (g := gb143) (o := .cells #[.bool a0_0, .int .i64 a0_1, .int .i64 a0_2, .int .i64 a0_3, .int .i64 a0_4, .int .i64 a0_5, .int .i64 a0_6, .int .i64 a0_7, .int .i64 a0_8, .int .i64 a0_9, .bool a0_10, .string a0_11, .slice A0_12 l0_12.length c0_12, .string a0_13, .bool a0_14, .int .i64 a0_15, .int .i64 a0_16] 31 (0, 0)) (by (with_reducible repeat (first | refine blk_drewN ?_ _ | refine blk_drew ?_ | refine blk_alloc ?_ _)); exact BK143.out) hb); have n1_ := Aside0.mk (below_step (by repeat (first | (with_reducible first | exact HB.out | apply below_alloc | apply pw_below_drewN | apply below_drew1 | refine below_set ?_ GE143.out) | exact HB.out)) hb); clear BK143; clear HB; have BK143 := n0_; have HB := n1_; clear n0_ n1_; (try clear hb); (try clear hb2); (try clear hk); (try clear hi)))
         have n0_ := Aside0.mk (blk_drew BK143.out)
         have n1_ := Aside0.mk (below_drew1 HB.out)
         clear BK143
         clear HB
         have BK143 := n0_
         have HB := n1_
         clear n0_ n1_
         have q28 : ((ji13) : Int) ≤ ((l0_12.length : Int) : Int) := of_decide_eq_true (by first | (with_reducible assumption) | assumption)
         obtain ⟨i028, hi028, _, hsz28, _⟩ := info_parts info69
         have hroom28 : l0_12.length ≤ c0_12 := HC0_12.out
         have hC28 : Kd.C k69 _ A0_12 l0_12.length l0_12 := HR0_12.out
         have hcut28 := cut_to (P := Try.prog) 27 69 .i64 Try.underlying27 hi028 A0_12 l0_12.length c0_12 (ji13) (of_decide_eq_true (by first | (with_reducible assumption) | assumption)) q28 hroom28
         have hr28 := Kd.C_take (m := ((ji13) : Int).toNat) hC28 (by omega)
         have hy28 : y151.length = ((ji13) : Int).toNat := (by rw [Ny151.out, List.length_take]; omega)
         rw [← Ny151.out] at hr28
         rw [← hy28] at hcut28
         have HR154 := Aside0.mk hr28
         have HC154 := Aside0.mk (show y151.length ≤ c0_12 from by omega)
         clear hr28 hC28 hroom28 hi028 hsz28
         have KY28 := Aside0.mk hy28
         clear hy28
         replace q28 := eq_true q28
         refine start_ (n := 18) (S := fun w' => w'.cell? ⟨gb143, 0, none⟩ = some (.bool a0_0) ∧ w'.cell? ⟨gb143, 1, none⟩ = some (.int .i64 a0_1) ∧ w'.cell? ⟨gb143, 2, none⟩ = some (.int .i64 a0_2) ∧ w'.cell? ⟨gb143, 3, none⟩ = some (.int .i64 a0_3) ∧ w'.cell? ⟨gb143, 4, none⟩ = some (.int .i64 a0_4) ∧ w'.cell? ⟨gb143, 5, none⟩ = some (.int .i64 a0_5) ∧ w'.cell? ⟨gb143, 6, none⟩ = some (.int .i64 a0_6) ∧ w'.cell? ⟨gb143, 7, none⟩ = some (.int .i64 a0_7) ∧ w'.cell? ⟨gb143, 8, none⟩ = some (.int .i64 a0_8) ∧ w'.cell? ⟨gb143, 9, none⟩ = some (.int .i64 a0_9) ∧ w'.cell? ⟨gb143, 10, none⟩ = some (.bool a0_10) ∧ w'.cell? ⟨gb143, 11, none⟩ = some (.string a0_11) ∧ w'.cell? ⟨gb143, 12, none⟩ = some (.slice A0_12 l0_12.length c0_12) ∧ w'.cell? ⟨gb143, 13, none⟩ = some (.string a0_13) ∧ w'.cell? ⟨gb143, 14, none⟩ = some (.bool a0_14) ∧ w'.cell? ⟨gb143, 15, none⟩ = some (.int .i64 a0_15) ∧ w'.cell? ⟨gb143, 16, none⟩ = some (.int .i64 a0_16)) (ds := []) (bm 18 0) (by kernel_rfl) rfl rfl ⟨(blk_cell BK143.out 0).trans rfl, (blk_cell BK143.out 1).trans rfl, (blk_cell BK143.out 2).trans rfl, (blk_cell BK143.out 3).trans rfl, (blk_cell BK143.out 4).trans rfl, (blk_cell BK143.out 5).trans rfl, (blk_cell BK143.out 6).trans rfl, (blk_cell BK143.out 7).trans rfl, (blk_cell BK143.out 8).trans rfl, (blk_cell BK143.out 9).trans rfl, (blk_cell BK143.out 10).trans rfl, (blk_cell BK143.out 11).trans rfl, (blk_cell BK143.out 12).trans rfl, (blk_cell BK143.out 13).trans rfl, (blk_cell BK143.out 14).trans rfl, (blk_cell BK143.out 15).trans rfl, (blk_cell BK143.out 16).trans rfl⟩ (fun hHeld => ?_); refine with_tabW icb_extents.tab7 icb_extents.bits7 (fun HT_ HW_ => ?_)
         generalize w26.drew = w27 at BK143 HB HR154 hHeld ⊢
         refine pure_ (i := 0) (N := some 32) (v := ?_) (a' := ?_) (bm 18 1) rfl rfl (any_of HT_.out (by kernel_rfl)) (fun _ _ _ h => h) (Or.inl ⟨by rfl, ?_⟩) ?_ ?_; rotate_left; (intro w'; go_simp; with_reducible rfl); rotate_left; (simp only [puts_]; rfl)
         refine pure_ (i := 1) (N := some 33) (v := ?_) (a' := ?_) (bm 18 3) rfl rfl (any_of HT_.out (by kernel_rfl)) (fun _ _ _ h => h) (Or.inl ⟨by rfl, ?_⟩) ?_ ?_; rotate_left; (intro w'; go_simp; with_reducible rfl); rotate_left; (simp only [puts_]; rfl)
         refine pure_ (i := 2) (N := some 34) (v := ?_) (a' := ?_) (bm 18 7) rfl rfl (any_of HT_.out (by kernel_rfl)) (fun _ _ _ h => h) (Or.inl ⟨by rfl, ?_⟩) ?_ ?_; rotate_left; (intro w'; go_simp; with_reducible rfl); rotate_left; (simp only [puts_]; rfl)
         refine pure_ (i := 3) (N := some 35) (v := ?_) (a' := ?_) (bm 18 15) rfl rfl (any_of HT_.out (by kernel_rfl)) (fun _ _ _ h => h) (Or.inl ⟨by rfl, ?_⟩) ?_ ?_; rotate_left; (intro w'; go_simp; with_reducible rfl); rotate_left; (simp only [puts_]; rfl)
         refine pure_ (i := 4) (N := some 36) (v := ?_) (a' := ?_) (bm 18 31) rfl rfl (any_of HT_.out (by kernel_rfl)) (fun _ _ _ h => h) (Or.inl ⟨by rfl, ?_⟩) ?_ ?_; rotate_left; (intro w'; go_simp; with_reducible rfl); rotate_left; (simp only [puts_]; rfl)
         refine pure_ (i := 5) (N := some 37) (v := ?_) (a' := ?_) (bm 18 63) rfl rfl (any_of HT_.out (by kernel_rfl)) (fun _ _ _ h => h) (Or.inl ⟨by rfl, ?_⟩) ?_ ?_; rotate_left; (intro w'; go_simp; with_reducible rfl); rotate_left; (simp only [puts_]; rfl)
         refine one_ (i := 6) (N := some 38) (bm 18 127) rfl rfl (one_of HT_.out (by kernel_rfl)) (by decide) (fun K hK => ?_)
         refine goes_ Try.func67 (by kernel_rfl) rfl #[.slice A0_12 y151.length c0_12] (by rfl) rfl rfl (by (try simp only [List.map_toArray, List.map_cons, List.map_nil]); first | done | rfl | (simp only [List.length_drop, List.length_take]; rfl) | exact congrArg (fun q => #[Value.slice _ q _]) (by (try have := KY25.out); (try have := KY28.out); omega)) ?_
         with_reducible refine (allocation_Valid.calls kj4 _ _ y151 true _ ?side1 ?side2 A20.out).mono ?_
         (case side1 => repeat (first | exact (Kd.C_below HR154.out HB.out) | (with_reducible refine Kd.C_alloc ?_ _) | (with_reducible refine Kd.C_drewN ?_ _) | (with_reducible refine Kd.C_drew ?_)))
         (case side2 => exact HC154.out)
         rintro e w29 ⟨rfl, hb⟩
         refine ⟨_, rfl, ?_⟩
         have n0_ := Aside0.mk (blk_below (g := gb143) (o := .cells #[.bool a0_0, .int .i64 a0_1, .int .i64 a0_2, .int .i64 a0_3, .int .i64 a0_4, .int .i64 a0_5, .int .i64 a0_6, .int .i64 a0_7, .int .i64 a0_8, .int .i64 a0_9, .bool a0_10, .string a0_11, .slice A0_12 l0_12.length c0_12, .string a0_13, .bool a0_14, .int .i64 a0_15, .int .i64 a0_16] 31 (0, 0)) (by (with_reducible repeat (first | refine blk_drewN ?_ _ | refine blk_drew ?_ | refine blk_alloc ?_ _)); exact BK143.out) hb)
         have n1_ := Aside0.mk (below_step (by repeat (first | (with_reducible first | exact HB.out | apply below_alloc | apply pw_below_drewN | apply below_drew1 | refine below_set ?_ GE143.out) | exact HB.out)) hb)
         clear BK143
         clear HB
         have BK143 := n0_
         have HB := n1_
         clear n0_ n1_
         (try clear hb)
         (try clear hb2)
         (try clear hk)
         (try clear hi)
         have q30 : ((ji13) : Int) ≤ ((l0_12.length : Int) : Int) := of_decide_eq_true (by first | (with_reducible assumption) | assumption)
         obtain ⟨i030, hi030, _, hsz30, _⟩ := info_parts info69
         have hroom30 : l0_12.length ≤ c0_12 := HC0_12.out
         have hC30 : Kd.C k69 _ A0_12 l0_12.length l0_12 := HR0_12.out
         have hcut30 := cut_to (P := Try.prog) 27 69 .i64 Try.underlying27 hi030 A0_12 l0_12.length c0_12 (ji13) (of_decide_eq_true (by first | (with_reducible assumption) | assumption)) q30 hroom30
         have hr30 := Kd.C_take (m := ((ji13) : Int).toNat) hC30 (by omega)
         have hy30 : y156.length = ((ji13) : Int).toNat := (by rw [Ny156.out, List.length_take]; omega)
         rw [← Ny156.out] at hr30
         rw [← hy30] at hcut30
         have HR159 := Aside0.mk hr30
         have HC159 := Aside0.mk (show y156.length ≤ c0_12 from by omega)
         clear hr30 hC30 hroom30 hi030 hsz30
         have KY30 := Aside0.mk hy30
         clear hy30
         replace q30 := eq_true q30
         refine hK.out _ _ ⟨(blk_cell BK143.out 0).trans rfl, (blk_cell BK143.out 1).trans rfl, (blk_cell BK143.out 2).trans rfl, (blk_cell BK143.out 3).trans rfl, (blk_cell BK143.out 4).trans rfl, (blk_cell BK143.out 5).trans rfl, (blk_cell BK143.out 6).trans rfl, (blk_cell BK143.out 7).trans rfl, (blk_cell BK143.out 8).trans rfl, (blk_cell BK143.out 9).trans rfl, (blk_cell BK143.out 10).trans rfl, (blk_cell BK143.out 11).trans rfl, (blk_cell BK143.out 12).trans rfl, (blk_cell BK143.out 13).trans rfl, (blk_cell BK143.out 14).trans rfl, (blk_cell BK143.out 15).trans rfl, (blk_cell BK143.out 16).trans rfl⟩ (fun hHeld => ?_)
         clear hK K
         refine norm_ (a' := ?_) ?_ ?_
         rotate_left
         ·show Act.put _ (some 38) _ = _
          simp only [puts_]
          rfl
         refine pure_ (i := 7) (N := some 39) (v := ?_) (a' := ?_) (bm 18 255) rfl rfl (any_of HT_.out (by kernel_rfl)) (fun _ _ _ h => h) (Or.inl ⟨by rfl, ?_⟩) ?_ ?_; rotate_left; (intro w'; go_simp; with_reducible rfl); rotate_left; (simp only [puts_]; rfl)
         refine pure_ (i := 8) (N := some 40) (v := ?_) (a' := ?_) (bm 18 511) rfl rfl (any_of HT_.out (by kernel_rfl)) (fun _ _ _ h => h) (Or.inl ⟨by rfl, ?_⟩) ?_ ?_; rotate_left; (intro w'; go_simp; with_reducible rfl); rotate_left; (simp only [puts_]; rfl)
         refine pure_ (i := 9) (N := some 41) (v := ?_) (a' := ?_) (bm 18 1023) rfl rfl (any_of HT_.out (by kernel_rfl)) (fun _ _ _ h => h) (Or.inl ⟨by rfl, ?_⟩) ?_ ?_; rotate_left; (intro w'; go_simp; with_reducible rfl); rotate_left; (simp only [puts_]; rfl)
         refine pure_ (i := 10) (N := some 42) (v := ?_) (a' := ?_) (bm 18 2047) rfl rfl (any_of HT_.out (by kernel_rfl)) (fun _ _ _ h => h) (Or.inl ⟨by rfl, ?_⟩) ?_ ?_; rotate_left; (intro w'; go_simp; with_reducible rfl); rotate_left; (simp only [puts_]; rfl)
         refine pure_ (i := 11) (N := some 43) (v := ?_) (a' := ?_) (bm 18 4095) rfl rfl (any_of HT_.out (by kernel_rfl)) (fun _ _ _ h => h) (Or.inl ⟨by rfl, ?_⟩) ?_ ?_; rotate_left; (intro w'; go_simp; with_reducible rfl); rotate_left; (simp only [puts_]; rfl)
         refine pure_ (i := 13) (N := some 45) (v := ?_) (a' := ?_) (bm 18 12287) rfl rfl (any_of HT_.out (by kernel_rfl)) (fun _ _ _ h => h) (Or.inl ⟨by rfl, ?_⟩) ?_ ?_; rotate_left; (intro w'; go_simp; with_reducible rfl); rotate_left; (simp only [puts_]; rfl)
         refine take_ (i := 14) (N := some 46) (v := ?_) (a' := ?_) (bm 18 28671) rfl rfl (take_ofW HT_.out HW_.out (by kernel_rfl)) (fun _ _ _ h => h) (Or.inl ⟨by rfl, ?_⟩) hHeld ?_ ?_; rotate_left; (rintro w' ⟨s0, s1, s2, s3, s4, s5, s6, s7, s8, s9, s10, s11, s12, s13, s14, s15, s16⟩; go_simp; with_reducible rfl); rotate_left; (simp only [puts_]; rfl)
         refine one_ (i := 12) (N := some 44) (bm 18 32767) rfl rfl (one_of HT_.out (by kernel_rfl)) (by decide) (fun K hK => ?_)
         refine goes_ Try.func68 (by kernel_rfl) rfl #[.slice A0_12 y156.length c0_12] (by rfl) rfl rfl (by (try simp only [List.map_toArray, List.map_cons, List.map_nil]); first | done | rfl | (simp only [List.length_drop, List.length_take]; rfl) | exact congrArg (fun q => #[Value.slice _ q _]) (by (try have := KY25.out); (try have := KY28.out); (try have := KY30.out); omega)) ?_
         with_reducible refine (allocation_Length.calls kj4 _ _ y156 t160 _ ?side1 ?side2 A24.out).mono ?_
         (case side1 => repeat (first | exact (Kd.C_below HR159.out HB.out) | (with_reducible refine Kd.C_alloc ?_ _) | (with_reducible refine Kd.C_drewN ?_ _) | (with_reducible refine Kd.C_drew ?_)))
         (case side2 => exact HC159.out)
         rintro e w31 ⟨rfl, hb⟩
         refine ⟨_, rfl, ?_⟩
         have n0_ := Aside0.mk (blk_below (g := gb143) (o := .cells #[.bool a0_0, .int .i64 a0_1, .int .i64 a0_2, .int .i64 a0_3, .int .i64 a0_4, .int .i64 a0_5, .int .i64 a0_6, .int .i64 a0_7, .int .i64 a0_8, .int .i64 a0_9, .bool a0_10, .string a0_11, .slice A0_12 l0_12.length c0_12, .string a0_13, .bool a0_14, .int .i64 a0_15, .int .i64 a0_16] 31 (0, 0)) (by (with_reducible repeat (first | refine blk_drewN ?_ _ | refine blk_drew ?_ | refine blk_alloc ?_ _)); exact BK143.out) hb)
         have n1_ := Aside0.mk (below_step (by repeat (first | (with_reducible first | exact HB.out | apply below_alloc | apply pw_below_drewN | apply below_drew1 | refine below_set ?_ GE143.out) | exact HB.out)) hb)
         clear BK143
         clear HB
         have BK143 := n0_
         have HB := n1_
         clear n0_ n1_
         (try clear hb)
         (try clear hb2)
         (try clear hk)
         (try clear hi)
         refine hK.out _ _ ⟨(blk_cell BK143.out 0).trans rfl, (blk_cell BK143.out 1).trans rfl, (blk_cell BK143.out 2).trans rfl, (blk_cell BK143.out 3).trans rfl, (blk_cell BK143.out 4).trans rfl, (blk_cell BK143.out 5).trans rfl, (blk_cell BK143.out 6).trans rfl, (blk_cell BK143.out 7).trans rfl, (blk_cell BK143.out 8).trans rfl, (blk_cell BK143.out 9).trans rfl, (blk_cell BK143.out 10).trans rfl, (blk_cell BK143.out 11).trans rfl, (blk_cell BK143.out 12).trans rfl, (blk_cell BK143.out 13).trans rfl, (blk_cell BK143.out 14).trans rfl, (blk_cell BK143.out 15).trans rfl, (blk_cell BK143.out 16).trans rfl⟩ (fun hHeld => ?_)
         clear hK K
         refine norm_ (a' := ?_) ?_ ?_
         rotate_left
         ·show Act.put _ (some 44) _ = _
          simp only [puts_]
          rfl
         refine pure_ (i := 15) (N := some 47) (v := ?_) (a' := ?_) (bm 18 65535) rfl rfl (any_of HT_.out (by kernel_rfl)) (fun _ _ _ h => h) (Or.inl ⟨by rfl, ?_⟩) ?_ ?_; rotate_left; (intro w'; go_simp; with_reducible rfl); rotate_left; (simp only [puts_]; rfl)
         refine pure_ (i := 16) (N := some 48) (v := ?_) (a' := ?_) (bm 18 131071) rfl rfl (any_of HT_.out (by kernel_rfl)) (fun _ _ _ h => h) (Or.inl ⟨by rfl, ?_⟩) ?_ ?_; rotate_left; (intro w'; go_simp; with_reducible rfl); rotate_left; (simp only [puts_]; rfl)
         refine pure_ (i := 17) (N := some 2) (v := ?_) (a' := ?_) (bm 18 262143) rfl rfl (any_of HT_.out (by kernel_rfl)) (fun _ _ _ h => h) (Or.inl ⟨by rfl, ?_⟩) ?_ ?_; rotate_left; (intro w'; go_simp; with_reducible rfl); rotate_left; (simp only [puts_]; rfl)
         refine done_ (done_of HT_.out (by kernel_rfl)) ?_
         try go_wp2
         go_ret
         exact ⟨by first | rfl | (simp [errW_none, errW_some] <;> rfl) | (simp only [← hji13]; first | rfl | (simp [errW_none, errW_some] <;> rfl)) | (simp [*, errW_none, errW_some] <;> rfl), by repeat (first | (with_reducible first | exact HB.out | apply below_alloc | apply pw_below_drewN | apply below_drew1 | refine below_set ?_ GE143.out) | exact HB.out)⟩
        ·replace c21 := Bool.eq_false_iff.mpr c21
         subst c21
         have H1 : (some false) = some r := by rw [if_neg (show ¬ (false = true) by decide)] at H; exact H
         clear H
         have H := H1
         clear H1
         obtain rfl := Option.some.inj H
         have q32 : ((ji13) : Int) ≤ ((l0_12.length : Int) : Int) := of_decide_eq_true (by first | (with_reducible assumption) | assumption)
         obtain ⟨i032, hi032, _, hsz32, _⟩ := info_parts info69
         have hroom32 : l0_12.length ≤ c0_12 := HC0_12.out
         have hC32 : Kd.C k69 _ A0_12 l0_12.length l0_12 := HR0_12.out
         have q032 : (0 : Int) ≤ ((ji13) : Int) := of_decide_eq_true (by first | (with_reducible assumption) | assumption)
         have hcut32 := cut_from (P := Try.prog) 27 69 .i64 Try.underlying27 hi032 4 hsz32 A0_12 l0_12.length c0_12 (ji13) q032 q32
         have hr32 := Kd.C_drop (m := ((ji13) : Int).toNat) (c := c0_12) hC32 (by omega) hroom32
         obtain ⟨A32, hA32⟩ : ∃ A1, A1 = (if c0_12 = ((ji13) : Int).toNat then A0_12 else (A0_12 : Option Addr).map (·.add (((ji13) : Int).toNat * 4))) := ⟨_, rfl⟩
         obtain ⟨c32, hc32⟩ : ∃ c1, c1 = c0_12 - ((ji13) : Int).toNat := ⟨_, rfl⟩
         have hy32 : y145.length = l0_12.length - ((ji13) : Int).toNat := (by rw [Ny145.out, List.length_drop] <;> omega)
         rw [show (l0_12).drop ((ji13) : Int).toNat = y145 from Ny145.out.symm] at hr32
         replace hr32 : Kd.C k69 _ A32 y145.length y145 := (by rw [hA32]; exact hr32)
         rw [← hy32, ← hA32, ← hc32] at hcut32
         have HR148 := Aside0.mk hr32
         have HC148 := Aside0.mk (show y145.length ≤ c32 from by rw [hy32, hc32]; exact Nat.sub_le_sub_right hroom32 _)
         clear hr32 hC32 hroom32 hi032 hsz32 hc32
         have KY32 := Aside0.mk hy32
         have KA32 := Aside0.mk hA32
         clear hy32 hA32
         replace q32 := eq_true q32
         try go_wp2_with (first | ((with_reducible refine gate_callee (f := 23) rfl ?_); refine goesL_ (some 29) rfl rfl Try.func23 (by kernel_rfl) rfl #[.slice A32 y145.length c32] rfl (by (try simp only [List.map_toArray, List.map_cons, List.map_nil]); first | done | rfl | (simp only [List.length_drop, List.length_take]; rfl) | exact congrArg (fun q => #[Value.slice _ q _]) (by (try have := KY25.out); (try have := KY28.out); (try have := KY30.out); (try have := KY32.out); omega)) ?_; (with_reducible refine (allocation_EncodeLong.calls kj4 _ _ y145 t149 t150 _ ?side1 ?side2 A16.out).mono ?_); (case side1 => repeat (first | exact (Kd.C_below HR148.out HB.out) | (with_reducible refine Kd.C_alloc ?_ _) | (with_reducible refine Kd.C_drewN ?_ _) | (with_reducible refine Kd.C_drew ?_))); (case side2 => exact HC148.out); rintro e w33 ⟨rfl, hb⟩; refine ⟨_, rfl, ?_⟩; have n0_ := Aside0.mk (blk_below (g := gb143) (o := .cells #[.bool a0_0, .int .i64 a0_1, .int .i64 a0_2, .int .i64 a0_3, .int .i64 a0_4, .int .i64 a0_5, .int .i64 a0_6, .int .i64 a0_7, .int .i64 a0_8, .int .i64 a0_9, .bool a0_10, .string a0_11, .slice A0_12 l0_12.length c0_12, .string a0_13, .bool a0_14, .int .i64 a0_15, .int .i64 a0_16] 31 (0, 0)) (by (with_reducible repeat (first | refine blk_drewN ?_ _ | refine blk_drew ?_ | refine blk_alloc ?_ _)); exact BK143.out) hb); have n1_ := Aside0.mk (below_step (by repeat (first | (with_reducible first | exact HB.out | apply below_alloc | apply pw_below_drewN | apply below_drew1 | refine below_set ?_ GE143.out) | exact HB.out)) hb); clear BK143; clear HB; have BK143 := n0_; have HB := n1_; clear n0_ n1_; (try clear hb); (try clear hb2); (try clear hk); (try clear hi)))
         have n0_ := Aside0.mk (blk_drew BK143.out)
         have n1_ := Aside0.mk (below_drew1 HB.out)
         clear BK143
         clear HB
         have BK143 := n0_
         have HB := n1_
         clear n0_ n1_
         have q35 : ((ji13) : Int) ≤ ((l0_12.length : Int) : Int) := of_decide_eq_true (by first | (with_reducible assumption) | assumption)
         obtain ⟨i035, hi035, _, hsz35, _⟩ := info_parts info69
         have hroom35 : l0_12.length ≤ c0_12 := HC0_12.out
         have hC35 : Kd.C k69 _ A0_12 l0_12.length l0_12 := HR0_12.out
         have hcut35 := cut_to (P := Try.prog) 27 69 .i64 Try.underlying27 hi035 A0_12 l0_12.length c0_12 (ji13) (of_decide_eq_true (by first | (with_reducible assumption) | assumption)) q35 hroom35
         have hr35 := Kd.C_take (m := ((ji13) : Int).toNat) hC35 (by omega)
         have hy35 : y151.length = ((ji13) : Int).toNat := (by rw [Ny151.out, List.length_take]; omega)
         rw [← Ny151.out] at hr35
         rw [← hy35] at hcut35
         have HR154 := Aside0.mk hr35
         have HC154 := Aside0.mk (show y151.length ≤ c0_12 from by omega)
         clear hr35 hC35 hroom35 hi035 hsz35
         have KY35 := Aside0.mk hy35
         clear hy35
         replace q35 := eq_true q35
         refine start_ (n := 18) (S := fun w' => True) (ds := []) (bm 18 0) (by kernel_rfl) rfl rfl trivial (fun hHeld => ?_); refine with_tabW icb_extents.tab7 icb_extents.bits7 (fun HT_ HW_ => ?_)
         generalize w33.drew = w34 at BK143 HB HR154 hHeld ⊢
         refine pure_ (i := 0) (N := some 32) (v := ?_) (a' := ?_) (bm 18 1) rfl rfl (any_of HT_.out (by kernel_rfl)) (fun _ _ _ h => h) (Or.inl ⟨by rfl, ?_⟩) ?_ ?_; rotate_left; (intro w'; go_simp; with_reducible rfl); rotate_left; (simp only [puts_]; rfl)
         refine pure_ (i := 1) (N := some 33) (v := ?_) (a' := ?_) (bm 18 3) rfl rfl (any_of HT_.out (by kernel_rfl)) (fun _ _ _ h => h) (Or.inl ⟨by rfl, ?_⟩) ?_ ?_; rotate_left; (intro w'; go_simp; with_reducible rfl); rotate_left; (simp only [puts_]; rfl)
         refine pure_ (i := 2) (N := some 34) (v := ?_) (a' := ?_) (bm 18 7) rfl rfl (any_of HT_.out (by kernel_rfl)) (fun _ _ _ h => h) (Or.inl ⟨by rfl, ?_⟩) ?_ ?_; rotate_left; (intro w'; go_simp; with_reducible rfl); rotate_left; (simp only [puts_]; rfl)
         refine pure_ (i := 3) (N := some 35) (v := ?_) (a' := ?_) (bm 18 15) rfl rfl (any_of HT_.out (by kernel_rfl)) (fun _ _ _ h => h) (Or.inl ⟨by rfl, ?_⟩) ?_ ?_; rotate_left; (intro w'; go_simp; with_reducible rfl); rotate_left; (simp only [puts_]; rfl)
         refine pure_ (i := 4) (N := some 36) (v := ?_) (a' := ?_) (bm 18 31) rfl rfl (any_of HT_.out (by kernel_rfl)) (fun _ _ _ h => h) (Or.inl ⟨by rfl, ?_⟩) ?_ ?_; rotate_left; (intro w'; go_simp; with_reducible rfl); rotate_left; (simp only [puts_]; rfl)
         refine pure_ (i := 5) (N := some 37) (v := ?_) (a' := ?_) (bm 18 63) rfl rfl (any_of HT_.out (by kernel_rfl)) (fun _ _ _ h => h) (Or.inl ⟨by rfl, ?_⟩) ?_ ?_; rotate_left; (intro w'; go_simp; with_reducible rfl); rotate_left; (simp only [puts_]; rfl)
         refine one_ (i := 6) (N := some 38) (bm 18 127) rfl rfl (one_of HT_.out (by kernel_rfl)) (by decide) (fun K hK => ?_)
         refine goes_ Try.func67 (by kernel_rfl) rfl #[.slice A0_12 y151.length c0_12] (by rfl) rfl rfl (by (try simp only [List.map_toArray, List.map_cons, List.map_nil]); first | done | rfl | (simp only [List.length_drop, List.length_take]; rfl) | exact congrArg (fun q => #[Value.slice _ q _]) (by (try have := KY25.out); (try have := KY28.out); (try have := KY30.out); (try have := KY32.out); (try have := KY35.out); omega)) ?_
         with_reducible refine (allocation_Valid.calls kj4 _ _ y151 false _ ?side1 ?side2 A20.out).mono ?_
         (case side1 => repeat (first | exact (Kd.C_below HR154.out HB.out) | (with_reducible refine Kd.C_alloc ?_ _) | (with_reducible refine Kd.C_drewN ?_ _) | (with_reducible refine Kd.C_drew ?_)))
         (case side2 => exact HC154.out)
         rintro e w36 ⟨rfl, hb⟩
         refine ⟨_, rfl, ?_⟩
         have n0_ := Aside0.mk (blk_below (g := gb143) (o := .cells #[.bool a0_0, .int .i64 a0_1, .int .i64 a0_2, .int .i64 a0_3, .int .i64 a0_4, .int .i64 a0_5, .int .i64 a0_6, .int .i64 a0_7, .int .i64 a0_8, .int .i64 a0_9, .bool a0_10, .string a0_11, .slice A0_12 l0_12.length c0_12, .string a0_13, .bool a0_14, .int .i64 a0_15, .int .i64 a0_16] 31 (0, 0)) (by (with_reducible repeat (first | refine blk_drewN ?_ _ | refine blk_drew ?_ | refine blk_alloc ?_ _)); exact BK143.out) hb)
         have n1_ := Aside0.mk (below_step (by repeat (first | (with_reducible first | exact HB.out | apply below_alloc | apply pw_below_drewN | apply below_drew1 | refine below_set ?_ GE143.out) | exact HB.out)) hb)
         clear BK143
         clear HB
         have BK143 := n0_
         have HB := n1_
         clear n0_ n1_
         (try clear hb)
         (try clear hb2)
         (try clear hk)
         (try clear hi)
         refine hK.out _ _ trivial (fun hHeld => ?_)
         clear hK K
         refine norm_ (a' := ?_) ?_ ?_
         rotate_left
         ·show Act.put _ (some 38) _ = _
          simp only [puts_]
          rfl
         refine pure_ (i := 7) (N := some 39) (v := ?_) (a' := ?_) (bm 18 255) rfl rfl (any_of HT_.out (by kernel_rfl)) (fun _ _ _ h => h) (Or.inl ⟨by rfl, ?_⟩) ?_ ?_; rotate_left; (intro w'; go_simp; with_reducible rfl); rotate_left; (simp only [puts_]; rfl)
         refine pure_ (i := 8) (N := some 40) (v := ?_) (a' := ?_) (bm 18 511) rfl rfl (any_of HT_.out (by kernel_rfl)) (fun _ _ _ h => h) (Or.inl ⟨by rfl, ?_⟩) ?_ ?_; rotate_left; (intro w'; go_simp; with_reducible rfl); rotate_left; (simp only [puts_]; rfl)
         refine pure_ (i := 9) (N := some 41) (v := undef) (a' := ?_) (bm 18 1023) rfl rfl (any_of HT_.out (by kernel_rfl)) (fun _ _ _ h => h) (Or.inr ⟨by rfl, rfl⟩) ?_ ?_; rotate_left; (simp only [puts_]; rfl)
         refine pure_ (i := 10) (N := some 42) (v := undef) (a' := ?_) (bm 18 2047) rfl rfl (any_of HT_.out (by kernel_rfl)) (fun _ _ _ h => h) (Or.inr ⟨by rfl, rfl⟩) ?_ ?_; rotate_left; (simp only [puts_]; rfl)
         refine pure_ (i := 11) (N := some 43) (v := undef) (a' := ?_) (bm 18 4095) rfl rfl (any_of HT_.out (by kernel_rfl)) (fun _ _ _ h => h) (Or.inr ⟨by rfl, rfl⟩) ?_ ?_; rotate_left; (simp only [puts_]; rfl)
         refine pure_ (i := 12) (N := some 44) (v := undef) (a' := ?_) (bm 18 8191) rfl rfl (any_of HT_.out (by kernel_rfl)) (fun _ _ _ h => h) (Or.inr ⟨by rfl, rfl⟩) ?_ ?_; rotate_left; (simp only [puts_]; rfl)
         refine pure_ (i := 13) (N := some 45) (v := undef) (a' := ?_) (bm 18 16383) rfl rfl (any_of HT_.out (by kernel_rfl)) (fun _ _ _ h => h) (Or.inr ⟨by rfl, rfl⟩) ?_ ?_; rotate_left; (simp only [puts_]; rfl)
         refine pure_ (i := 14) (N := some 46) (v := undef) (a' := ?_) (bm 18 32767) rfl rfl (any_of HT_.out (by kernel_rfl)) (fun _ _ _ h => h) (Or.inr ⟨by rfl, rfl⟩) ?_ ?_; rotate_left; (simp only [puts_]; rfl)
         refine pure_ (i := 15) (N := some 47) (v := undef) (a' := ?_) (bm 18 65535) rfl rfl (any_of HT_.out (by kernel_rfl)) (fun _ _ _ h => h) (Or.inr ⟨by rfl, rfl⟩) ?_ ?_; rotate_left; (simp only [puts_]; rfl)
         refine pure_ (i := 16) (N := some 48) (v := ?_) (a' := ?_) (bm 18 131071) rfl rfl (any_of HT_.out (by kernel_rfl)) (fun _ _ _ h => h) (Or.inl ⟨by rfl, ?_⟩) ?_ ?_; rotate_left; (intro w'; go_simp; with_reducible rfl); rotate_left; (simp only [puts_]; rfl)
         refine pure_ (i := 17) (N := some 2) (v := ?_) (a' := ?_) (bm 18 262143) rfl rfl (any_of HT_.out (by kernel_rfl)) (fun _ _ _ h => h) (Or.inl ⟨by rfl, ?_⟩) ?_ ?_; rotate_left; (intro w'; go_simp; with_reducible rfl); rotate_left; (simp only [puts_]; rfl)
         refine done_ (done_of HT_.out (by kernel_rfl)) ?_
         try go_wp2
         go_ret
         exact ⟨by first | rfl | (simp [errW_none, errW_some] <;> rfl) | (simp only [← hji13]; first | rfl | (simp [errW_none, errW_some] <;> rfl)) | (simp [*, errW_none, errW_some] <;> rfl), by repeat (first | (with_reducible first | exact HB.out | apply below_alloc | apply pw_below_drewN | apply below_drew1 | refine below_set ?_ GE143.out) | exact HB.out)⟩
       ·rw [if_neg c17] at H
        have c17b0 : (t150 == 0) = false := beq_eq_false_iff_ne.mpr c17
        have c17b1 : (t150 != 0) = true := bne_iff_ne.mpr c17
        obtain rfl := Option.some.inj H
        have q37 : ((ji13) : Int) ≤ ((l0_12.length : Int) : Int) := of_decide_eq_true (by first | (with_reducible assumption) | assumption)
        obtain ⟨i037, hi037, _, hsz37, _⟩ := info_parts info69
        have hroom37 : l0_12.length ≤ c0_12 := HC0_12.out
        have hC37 : Kd.C k69 _ A0_12 l0_12.length l0_12 := HR0_12.out
        have q037 : (0 : Int) ≤ ((ji13) : Int) := of_decide_eq_true (by first | (with_reducible assumption) | assumption)
        have hcut37 := cut_from (P := Try.prog) 27 69 .i64 Try.underlying27 hi037 4 hsz37 A0_12 l0_12.length c0_12 (ji13) q037 q37
        have hr37 := Kd.C_drop (m := ((ji13) : Int).toNat) (c := c0_12) hC37 (by omega) hroom37
        obtain ⟨A37, hA37⟩ : ∃ A1, A1 = (if c0_12 = ((ji13) : Int).toNat then A0_12 else (A0_12 : Option Addr).map (·.add (((ji13) : Int).toNat * 4))) := ⟨_, rfl⟩
        obtain ⟨c37, hc37⟩ : ∃ c1, c1 = c0_12 - ((ji13) : Int).toNat := ⟨_, rfl⟩
        have hy37 : y145.length = l0_12.length - ((ji13) : Int).toNat := (by rw [Ny145.out, List.length_drop] <;> omega)
        rw [show (l0_12).drop ((ji13) : Int).toNat = y145 from Ny145.out.symm] at hr37
        replace hr37 : Kd.C k69 _ A37 y145.length y145 := (by rw [hA37]; exact hr37)
        rw [← hy37, ← hA37, ← hc37] at hcut37
        have HR148 := Aside0.mk hr37
        have HC148 := Aside0.mk (show y145.length ≤ c37 from by rw [hy37, hc37]; exact Nat.sub_le_sub_right hroom37 _)
        clear hr37 hC37 hroom37 hi037 hsz37 hc37
        have KY37 := Aside0.mk hy37
        have KA37 := Aside0.mk hA37
        clear hy37 hA37
        replace q37 := eq_true q37
        try go_wp2_with (first | ((with_reducible refine gate_callee (f := 23) rfl ?_); refine goesL_ (some 29) rfl rfl Try.func23 (by kernel_rfl) rfl #[.slice A37 y145.length c37] rfl (by (try simp only [List.map_toArray, List.map_cons, List.map_nil]); first | done | rfl | (simp only [List.length_drop, List.length_take]; rfl) | exact congrArg (fun q => #[Value.slice _ q _]) (by (try have := KY25.out); (try have := KY28.out); (try have := KY30.out); (try have := KY32.out); (try have := KY35.out); (try have := KY37.out); omega)) ?_; (with_reducible refine (allocation_EncodeLong.calls kj4 _ _ y145 t149 t150 _ ?side1 ?side2 A16.out).mono ?_); (case side1 => repeat (first | exact (Kd.C_below HR148.out HB.out) | (with_reducible refine Kd.C_alloc ?_ _) | (with_reducible refine Kd.C_drewN ?_ _) | (with_reducible refine Kd.C_drew ?_))); (case side2 => exact HC148.out); rintro e w38 ⟨rfl, hb⟩; refine ⟨_, rfl, ?_⟩; have n0_ := Aside0.mk (blk_below (g := gb143) (o := .cells #[.bool a0_0, .int .i64 a0_1, .int .i64 a0_2, .int .i64 a0_3, .int .i64 a0_4, .int .i64 a0_5, .int .i64 a0_6, .int .i64 a0_7, .int .i64 a0_8, .int .i64 a0_9, .bool a0_10, .string a0_11, .slice A0_12 l0_12.length c0_12, .string a0_13, .bool a0_14, .int .i64 a0_15, .int .i64 a0_16] 31 (0, 0)) (by (with_reducible repeat (first | refine blk_drewN ?_ _ | refine blk_drew ?_ | refine blk_alloc ?_ _)); exact BK143.out) hb); have n1_ := Aside0.mk (below_step (by repeat (first | (with_reducible first | exact HB.out | apply below_alloc | apply pw_below_drewN | apply below_drew1 | refine below_set ?_ GE143.out) | exact HB.out)) hb); clear BK143; clear HB; have BK143 := n0_; have HB := n1_; clear n0_ n1_; (try clear hb); (try clear hb2); (try clear hk); (try clear hi)))
        have n0_ := Aside0.mk (blk_drew BK143.out)
        have n1_ := Aside0.mk (below_drew1 HB.out)
        clear BK143
        clear HB
        have BK143 := n0_
        have HB := n1_
        clear n0_ n1_
        refine start_ (n := 18) (S := fun w' => True) (ds := []) (bm 18 0) (by kernel_rfl) rfl rfl trivial (fun hHeld => ?_); refine with_tabW icb_extents.tab7 icb_extents.bits7 (fun HT_ HW_ => ?_)
        generalize w38.drew = w39 at BK143 HB hHeld ⊢
        refine pure_ (i := 0) (N := some 32) (v := ?_) (a' := ?_) (bm 18 1) rfl rfl (any_of HT_.out (by kernel_rfl)) (fun _ _ _ h => h) (Or.inl ⟨by rfl, ?_⟩) ?_ ?_; rotate_left; (intro w'; go_simp; with_reducible rfl); rotate_left; (simp only [puts_]; rfl)
        refine pure_ (i := 1) (N := some 33) (v := ?_) (a' := ?_) (bm 18 3) rfl rfl (any_of HT_.out (by kernel_rfl)) (fun _ _ _ h => h) (Or.inl ⟨by rfl, ?_⟩) ?_ ?_; rotate_left; (intro w'; go_simp; with_reducible rfl); rotate_left; (simp only [puts_]; rfl)
        refine pure_ (i := 2) (N := some 34) (v := ?_) (a' := ?_) (bm 18 7) rfl rfl (any_of HT_.out (by kernel_rfl)) (fun _ _ _ h => h) (Or.inl ⟨by rfl, ?_⟩) ?_ ?_; rotate_left; (intro w'; go_simp; with_reducible rfl); rotate_left; (simp only [puts_]; rfl)
        refine pure_ (i := 3) (N := some 35) (v := undef) (a' := ?_) (bm 18 15) rfl rfl (any_of HT_.out (by kernel_rfl)) (fun _ _ _ h => h) (Or.inr ⟨by rfl, rfl⟩) ?_ ?_; rotate_left; (simp only [puts_]; rfl)
        refine pure_ (i := 4) (N := some 36) (v := undef) (a' := ?_) (bm 18 31) rfl rfl (any_of HT_.out (by kernel_rfl)) (fun _ _ _ h => h) (Or.inr ⟨by rfl, rfl⟩) ?_ ?_; rotate_left; (simp only [puts_]; rfl)
        refine pure_ (i := 5) (N := some 37) (v := undef) (a' := ?_) (bm 18 63) rfl rfl (any_of HT_.out (by kernel_rfl)) (fun _ _ _ h => h) (Or.inr ⟨by rfl, rfl⟩) ?_ ?_; rotate_left; (simp only [puts_]; rfl)
        refine pure_ (i := 6) (N := some 38) (v := undef) (a' := ?_) (bm 18 127) rfl rfl (any_of HT_.out (by kernel_rfl)) (fun _ _ _ h => h) (Or.inr ⟨by rfl, rfl⟩) ?_ ?_; rotate_left; (simp only [puts_]; rfl)
        refine pure_ (i := 7) (N := some 39) (v := ?_) (a' := ?_) (bm 18 255) rfl rfl (any_of HT_.out (by kernel_rfl)) (fun _ _ _ h => h) (Or.inl ⟨by rfl, ?_⟩) ?_ ?_; rotate_left; (intro w'; go_simp; with_reducible rfl); rotate_left; (simp only [puts_]; rfl)
        refine pure_ (i := 8) (N := some 40) (v := ?_) (a' := ?_) (bm 18 511) rfl rfl (any_of HT_.out (by kernel_rfl)) (fun _ _ _ h => h) (Or.inl ⟨by rfl, ?_⟩) ?_ ?_; rotate_left; (intro w'; go_simp; with_reducible rfl); rotate_left; (simp only [puts_]; rfl)
        refine pure_ (i := 9) (N := some 41) (v := undef) (a' := ?_) (bm 18 1023) rfl rfl (any_of HT_.out (by kernel_rfl)) (fun _ _ _ h => h) (Or.inr ⟨by rfl, rfl⟩) ?_ ?_; rotate_left; (simp only [puts_]; rfl)
        refine pure_ (i := 10) (N := some 42) (v := undef) (a' := ?_) (bm 18 2047) rfl rfl (any_of HT_.out (by kernel_rfl)) (fun _ _ _ h => h) (Or.inr ⟨by rfl, rfl⟩) ?_ ?_; rotate_left; (simp only [puts_]; rfl)
        refine pure_ (i := 11) (N := some 43) (v := undef) (a' := ?_) (bm 18 4095) rfl rfl (any_of HT_.out (by kernel_rfl)) (fun _ _ _ h => h) (Or.inr ⟨by rfl, rfl⟩) ?_ ?_; rotate_left; (simp only [puts_]; rfl)
        refine pure_ (i := 12) (N := some 44) (v := undef) (a' := ?_) (bm 18 8191) rfl rfl (any_of HT_.out (by kernel_rfl)) (fun _ _ _ h => h) (Or.inr ⟨by rfl, rfl⟩) ?_ ?_; rotate_left; (simp only [puts_]; rfl)
        refine pure_ (i := 13) (N := some 45) (v := undef) (a' := ?_) (bm 18 16383) rfl rfl (any_of HT_.out (by kernel_rfl)) (fun _ _ _ h => h) (Or.inr ⟨by rfl, rfl⟩) ?_ ?_; rotate_left; (simp only [puts_]; rfl)
        refine pure_ (i := 14) (N := some 46) (v := undef) (a' := ?_) (bm 18 32767) rfl rfl (any_of HT_.out (by kernel_rfl)) (fun _ _ _ h => h) (Or.inr ⟨by rfl, rfl⟩) ?_ ?_; rotate_left; (simp only [puts_]; rfl)
        refine pure_ (i := 15) (N := some 47) (v := undef) (a' := ?_) (bm 18 65535) rfl rfl (any_of HT_.out (by kernel_rfl)) (fun _ _ _ h => h) (Or.inr ⟨by rfl, rfl⟩) ?_ ?_; rotate_left; (simp only [puts_]; rfl)
        refine pure_ (i := 16) (N := some 48) (v := ?_) (a' := ?_) (bm 18 131071) rfl rfl (any_of HT_.out (by kernel_rfl)) (fun _ _ _ h => h) (Or.inl ⟨by rfl, ?_⟩) ?_ ?_; rotate_left; (intro w'; go_simp; with_reducible rfl); rotate_left; (simp only [puts_]; rfl)
        refine pure_ (i := 17) (N := some 2) (v := ?_) (a' := ?_) (bm 18 262143) rfl rfl (any_of HT_.out (by kernel_rfl)) (fun _ _ _ h => h) (Or.inl ⟨by rfl, ?_⟩) ?_ ?_; rotate_left; (intro w'; go_simp; with_reducible rfl); rotate_left; (simp only [puts_]; rfl)
        refine done_ (done_of HT_.out (by kernel_rfl)) ?_
        try go_wp2
        go_ret
        exact ⟨by first | rfl | (simp [errW_none, errW_some] <;> rfl) | (simp only [← hji13]; first | rfl | (simp [errW_none, errW_some] <;> rfl)) | (simp [*, errW_none, errW_some] <;> rfl), by repeat (first | (with_reducible first | exact HB.out | apply below_alloc | apply pw_below_drewN | apply below_drew1 | refine below_set ?_ GE143.out) | exact HB.out)⟩
      ·rw [if_neg c15] at H
       exact absurd H (by simp)
     ·rw [if_neg c14] at H
      exact absurd H (by simp)
    ·replace c12 := Bool.eq_false_iff.mpr c12
     subst c12
     have H1 : ((allocation_Valid.f kj4 l0_12).bind fun t161 => (if t161 = true then ((allocation_Length.f kj4 l0_12).bind fun t162 => (some (t162 == a0_8))) else (some false))) = some r := by rw [if_neg (show ¬ (false = true) by decide)] at H; exact H
     clear H
     have H := H1
     clear H1
     replace H := Option.bind_eq_some_iff.mp H
     obtain ⟨t161, A400, H⟩ := H
     replace H : (if t161 = true then ((allocation_Length.f kj4 l0_12).bind fun t162 => (some (t162 == a0_8))) else (some false)) = some r := H
     have A40 := Aside0.mk A400
     clear A400
     by_cases c41 : t161 = true
     ·subst c41
      have H1 : ((allocation_Length.f kj4 l0_12).bind fun t162 => (some (t162 == a0_8))) = some r := by rw [if_pos rfl] at H; exact H
      clear H
      have H := H1
      clear H1
      replace H := Option.bind_eq_some_iff.mp H
      obtain ⟨t162, A420, H⟩ := H
      replace H : (some (t162 == a0_8)) = some r := H
      have A42 := Aside0.mk A420
      clear A420
      obtain rfl := Option.some.inj H
      try go_wp2
      have n0_ := Aside0.mk (blk_drew BK143.out)
      have n1_ := Aside0.mk (below_drew1 HB.out)
      clear BK143
      clear HB
      have BK143 := n0_
      have HB := n1_
      clear n0_ n1_
      refine start_ (n := 10) (S := fun w' => w'.cell? ⟨gb143, 0, none⟩ = some (.bool a0_0) ∧ w'.cell? ⟨gb143, 1, none⟩ = some (.int .i64 a0_1) ∧ w'.cell? ⟨gb143, 2, none⟩ = some (.int .i64 a0_2) ∧ w'.cell? ⟨gb143, 3, none⟩ = some (.int .i64 a0_3) ∧ w'.cell? ⟨gb143, 4, none⟩ = some (.int .i64 a0_4) ∧ w'.cell? ⟨gb143, 5, none⟩ = some (.int .i64 a0_5) ∧ w'.cell? ⟨gb143, 6, none⟩ = some (.int .i64 a0_6) ∧ w'.cell? ⟨gb143, 7, none⟩ = some (.int .i64 a0_7) ∧ w'.cell? ⟨gb143, 8, none⟩ = some (.int .i64 a0_8) ∧ w'.cell? ⟨gb143, 9, none⟩ = some (.int .i64 a0_9) ∧ w'.cell? ⟨gb143, 10, none⟩ = some (.bool a0_10) ∧ w'.cell? ⟨gb143, 11, none⟩ = some (.string a0_11) ∧ w'.cell? ⟨gb143, 12, none⟩ = some (.slice A0_12 l0_12.length c0_12) ∧ w'.cell? ⟨gb143, 13, none⟩ = some (.string a0_13) ∧ w'.cell? ⟨gb143, 14, none⟩ = some (.bool a0_14) ∧ w'.cell? ⟨gb143, 15, none⟩ = some (.int .i64 a0_15) ∧ w'.cell? ⟨gb143, 16, none⟩ = some (.int .i64 a0_16)) (ds := []) (bm 10 0) (by kernel_rfl) rfl rfl ⟨(blk_cell BK143.out 0).trans rfl, (blk_cell BK143.out 1).trans rfl, (blk_cell BK143.out 2).trans rfl, (blk_cell BK143.out 3).trans rfl, (blk_cell BK143.out 4).trans rfl, (blk_cell BK143.out 5).trans rfl, (blk_cell BK143.out 6).trans rfl, (blk_cell BK143.out 7).trans rfl, (blk_cell BK143.out 8).trans rfl, (blk_cell BK143.out 9).trans rfl, (blk_cell BK143.out 10).trans rfl, (blk_cell BK143.out 11).trans rfl, (blk_cell BK143.out 12).trans rfl, (blk_cell BK143.out 13).trans rfl, (blk_cell BK143.out 14).trans rfl, (blk_cell BK143.out 15).trans rfl, (blk_cell BK143.out 16).trans rfl⟩ (fun hHeld => ?_); refine with_tabW icb_extents.tab8 icb_extents.bits8 (fun HT_ HW_ => ?_)
      generalize wc.drew = w43 at BK143 HB hHeld ⊢
      refine pure_ (i := 0) (N := some 49) (v := ?_) (a' := ?_) (bm 10 1) rfl rfl (any_of HT_.out (by kernel_rfl)) (fun _ _ _ h => h) (Or.inl ⟨by rfl, ?_⟩) ?_ ?_; rotate_left; (intro w'; go_simp; with_reducible rfl); rotate_left; (simp only [puts_]; rfl)
      refine one_ (i := 1) (N := some 50) (bm 10 3) rfl rfl (one_of HT_.out (by kernel_rfl)) (by decide) (fun K hK => ?_)
      refine goes_ Try.func67 (by kernel_rfl) rfl #[.slice A0_12 l0_12.length c0_12] (by rfl) rfl rfl (by (try simp only [List.map_toArray, List.map_cons, List.map_nil]); first | done | rfl | (simp only [List.length_drop, List.length_take]; rfl) | exact congrArg (fun q => #[Value.slice _ q _]) (by (try have := KY25.out); (try have := KY28.out); (try have := KY30.out); (try have := KY32.out); (try have := KY35.out); (try have := KY37.out); omega)) ?_
      with_reducible refine (allocation_Valid.calls kj4 _ _ l0_12 true _ ?side1 ?side2 A40.out).mono ?_
      (case side1 => repeat (first | exact (Kd.C_below HR0_12.out HB.out) | (with_reducible refine Kd.C_alloc ?_ _) | (with_reducible refine Kd.C_drewN ?_ _) | (with_reducible refine Kd.C_drew ?_)))
      (case side2 => exact HC0_12.out)
      rintro e w44 ⟨rfl, hb⟩
      refine ⟨_, rfl, ?_⟩
      have n0_ := Aside0.mk (blk_below (g := gb143) (o := .cells #[.bool a0_0, .int .i64 a0_1, .int .i64 a0_2, .int .i64 a0_3, .int .i64 a0_4, .int .i64 a0_5, .int .i64 a0_6, .int .i64 a0_7, .int .i64 a0_8, .int .i64 a0_9, .bool a0_10, .string a0_11, .slice A0_12 l0_12.length c0_12, .string a0_13, .bool a0_14, .int .i64 a0_15, .int .i64 a0_16] 31 (0, 0)) (by (with_reducible repeat (first | refine blk_drewN ?_ _ | refine blk_drew ?_ | refine blk_alloc ?_ _)); exact BK143.out) hb)
      have n1_ := Aside0.mk (below_step (by repeat (first | (with_reducible first | exact HB.out | apply below_alloc | apply pw_below_drewN | apply below_drew1 | refine below_set ?_ GE143.out) | exact HB.out)) hb)
      clear BK143
      clear HB
      have BK143 := n0_
      have HB := n1_
      clear n0_ n1_
      (try clear hb)
      (try clear hb2)
      (try clear hk)
      (try clear hi)
      refine hK.out _ _ ⟨(blk_cell BK143.out 0).trans rfl, (blk_cell BK143.out 1).trans rfl, (blk_cell BK143.out 2).trans rfl, (blk_cell BK143.out 3).trans rfl, (blk_cell BK143.out 4).trans rfl, (blk_cell BK143.out 5).trans rfl, (blk_cell BK143.out 6).trans rfl, (blk_cell BK143.out 7).trans rfl, (blk_cell BK143.out 8).trans rfl, (blk_cell BK143.out 9).trans rfl, (blk_cell BK143.out 10).trans rfl, (blk_cell BK143.out 11).trans rfl, (blk_cell BK143.out 12).trans rfl, (blk_cell BK143.out 13).trans rfl, (blk_cell BK143.out 14).trans rfl, (blk_cell BK143.out 15).trans rfl, (blk_cell BK143.out 16).trans rfl⟩ (fun hHeld => ?_)
      clear hK K
      refine norm_ (a' := ?_) ?_ ?_
      rotate_left
      ·show Act.put _ (some 50) _ = _
       simp only [puts_]
       rfl
      refine pure_ (i := 2) (N := some 51) (v := ?_) (a' := ?_) (bm 10 7) rfl rfl (any_of HT_.out (by kernel_rfl)) (fun _ _ _ h => h) (Or.inl ⟨by rfl, ?_⟩) ?_ ?_; rotate_left; (intro w'; go_simp; with_reducible rfl); rotate_left; (simp only [puts_]; rfl)
      refine pure_ (i := 3) (N := some 52) (v := ?_) (a' := ?_) (bm 10 15) rfl rfl (any_of HT_.out (by kernel_rfl)) (fun _ _ _ h => h) (Or.inl ⟨by rfl, ?_⟩) ?_ ?_; rotate_left; (intro w'; go_simp; with_reducible rfl); rotate_left; (simp only [puts_]; rfl)
      refine pure_ (i := 5) (N := some 54) (v := ?_) (a' := ?_) (bm 10 47) rfl rfl (any_of HT_.out (by kernel_rfl)) (fun _ _ _ h => h) (Or.inl ⟨by rfl, ?_⟩) ?_ ?_; rotate_left; (intro w'; go_simp; with_reducible rfl); rotate_left; (simp only [puts_]; rfl)
      refine take_ (i := 6) (N := some 55) (v := ?_) (a' := ?_) (bm 10 111) rfl rfl (take_ofW HT_.out HW_.out (by kernel_rfl)) (fun _ _ _ h => h) (Or.inl ⟨by rfl, ?_⟩) hHeld ?_ ?_; rotate_left; (rintro w' ⟨s0, s1, s2, s3, s4, s5, s6, s7, s8, s9, s10, s11, s12, s13, s14, s15, s16⟩; go_simp; with_reducible rfl); rotate_left; (simp only [puts_]; rfl)
      refine one_ (i := 4) (N := some 53) (bm 10 127) rfl rfl (one_of HT_.out (by kernel_rfl)) (by decide) (fun K hK => ?_)
      refine goes_ Try.func68 (by kernel_rfl) rfl #[.slice A0_12 l0_12.length c0_12] (by rfl) rfl rfl (by (try simp only [List.map_toArray, List.map_cons, List.map_nil]); first | done | rfl | (simp only [List.length_drop, List.length_take]; rfl) | exact congrArg (fun q => #[Value.slice _ q _]) (by (try have := KY25.out); (try have := KY28.out); (try have := KY30.out); (try have := KY32.out); (try have := KY35.out); (try have := KY37.out); omega)) ?_
      with_reducible refine (allocation_Length.calls kj4 _ _ l0_12 t162 _ ?side1 ?side2 A42.out).mono ?_
      (case side1 => repeat (first | exact (Kd.C_below HR0_12.out HB.out) | (with_reducible refine Kd.C_alloc ?_ _) | (with_reducible refine Kd.C_drewN ?_ _) | (with_reducible refine Kd.C_drew ?_)))
      (case side2 => exact HC0_12.out)
      rintro e w45 ⟨rfl, hb⟩
      refine ⟨_, rfl, ?_⟩
      have n0_ := Aside0.mk (blk_below (g := gb143) (o := .cells #[.bool a0_0, .int .i64 a0_1, .int .i64 a0_2, .int .i64 a0_3, .int .i64 a0_4, .int .i64 a0_5, .int .i64 a0_6, .int .i64 a0_7, .int .i64 a0_8, .int .i64 a0_9, .bool a0_10, .string a0_11, .slice A0_12 l0_12.length c0_12, .string a0_13, .bool a0_14, .int .i64 a0_15, .int .i64 a0_16] 31 (0, 0)) (by (with_reducible repeat (first | refine blk_drewN ?_ _ | refine blk_drew ?_ | refine blk_alloc ?_ _)); exact BK143.out) hb)
      have n1_ := Aside0.mk (below_step (by repeat (first | (with_reducible first | exact HB.out | apply below_alloc | apply pw_below_drewN | apply below_drew1 | refine below_set ?_ GE143.out) | exact HB.out)) hb)
      clear BK143
      clear HB
      have BK143 := n0_
      have HB := n1_
      clear n0_ n1_
      (try clear hb)
      (try clear hb2)
      (try clear hk)
      (try clear hi)
      refine hK.out _ _ ⟨(blk_cell BK143.out 0).trans rfl, (blk_cell BK143.out 1).trans rfl, (blk_cell BK143.out 2).trans rfl, (blk_cell BK143.out 3).trans rfl, (blk_cell BK143.out 4).trans rfl, (blk_cell BK143.out 5).trans rfl, (blk_cell BK143.out 6).trans rfl, (blk_cell BK143.out 7).trans rfl, (blk_cell BK143.out 8).trans rfl, (blk_cell BK143.out 9).trans rfl, (blk_cell BK143.out 10).trans rfl, (blk_cell BK143.out 11).trans rfl, (blk_cell BK143.out 12).trans rfl, (blk_cell BK143.out 13).trans rfl, (blk_cell BK143.out 14).trans rfl, (blk_cell BK143.out 15).trans rfl, (blk_cell BK143.out 16).trans rfl⟩ (fun hHeld => ?_)
      clear hK K
      refine norm_ (a' := ?_) ?_ ?_
      rotate_left
      ·show Act.put _ (some 53) _ = _
       simp only [puts_]
       rfl
      refine pure_ (i := 7) (N := some 56) (v := ?_) (a' := ?_) (bm 10 255) rfl rfl (any_of HT_.out (by kernel_rfl)) (fun _ _ _ h => h) (Or.inl ⟨by rfl, ?_⟩) ?_ ?_; rotate_left; (intro w'; go_simp; with_reducible rfl); rotate_left; (simp only [puts_]; rfl)
      refine pure_ (i := 8) (N := some 57) (v := ?_) (a' := ?_) (bm 10 511) rfl rfl (any_of HT_.out (by kernel_rfl)) (fun _ _ _ h => h) (Or.inl ⟨by rfl, ?_⟩) ?_ ?_; rotate_left; (intro w'; go_simp; with_reducible rfl); rotate_left; (simp only [puts_]; rfl)
      refine pure_ (i := 9) (N := some 2) (v := ?_) (a' := ?_) (bm 10 1023) rfl rfl (any_of HT_.out (by kernel_rfl)) (fun _ _ _ h => h) (Or.inl ⟨by rfl, ?_⟩) ?_ ?_; rotate_left; (intro w'; go_simp; with_reducible rfl); rotate_left; (simp only [puts_]; rfl)
      refine done_ (done_of HT_.out (by kernel_rfl)) ?_
      try go_wp2
      go_ret
      exact ⟨by first | rfl | (simp [errW_none, errW_some] <;> rfl) | (simp [*, errW_none, errW_some] <;> rfl), by repeat (first | (with_reducible first | exact HB.out | apply below_alloc | apply pw_below_drewN | apply below_drew1 | refine below_set ?_ GE143.out) | exact HB.out)⟩
     ·replace c41 := Bool.eq_false_iff.mpr c41
      subst c41
      have H1 : (some false) = some r := by rw [if_neg (show ¬ (false = true) by decide)] at H; exact H
      clear H
      have H := H1
      clear H1
      obtain rfl := Option.some.inj H
      try go_wp2
      have n0_ := Aside0.mk (blk_drew BK143.out)
      have n1_ := Aside0.mk (below_drew1 HB.out)
      clear BK143
      clear HB
      have BK143 := n0_
      have HB := n1_
      clear n0_ n1_
      refine start_ (n := 10) (S := fun w' => True) (ds := []) (bm 10 0) (by kernel_rfl) rfl rfl trivial (fun hHeld => ?_); refine with_tabW icb_extents.tab8 icb_extents.bits8 (fun HT_ HW_ => ?_)
      generalize wc.drew = w46 at BK143 HB hHeld ⊢
      refine pure_ (i := 0) (N := some 49) (v := ?_) (a' := ?_) (bm 10 1) rfl rfl (any_of HT_.out (by kernel_rfl)) (fun _ _ _ h => h) (Or.inl ⟨by rfl, ?_⟩) ?_ ?_; rotate_left; (intro w'; go_simp; with_reducible rfl); rotate_left; (simp only [puts_]; rfl)
      refine one_ (i := 1) (N := some 50) (bm 10 3) rfl rfl (one_of HT_.out (by kernel_rfl)) (by decide) (fun K hK => ?_)
      refine goes_ Try.func67 (by kernel_rfl) rfl #[.slice A0_12 l0_12.length c0_12] (by rfl) rfl rfl (by (try simp only [List.map_toArray, List.map_cons, List.map_nil]); first | done | rfl | (simp only [List.length_drop, List.length_take]; rfl) | exact congrArg (fun q => #[Value.slice _ q _]) (by (try have := KY25.out); (try have := KY28.out); (try have := KY30.out); (try have := KY32.out); (try have := KY35.out); (try have := KY37.out); omega)) ?_
      with_reducible refine (allocation_Valid.calls kj4 _ _ l0_12 false _ ?side1 ?side2 A40.out).mono ?_
      (case side1 => repeat (first | exact (Kd.C_below HR0_12.out HB.out) | (with_reducible refine Kd.C_alloc ?_ _) | (with_reducible refine Kd.C_drewN ?_ _) | (with_reducible refine Kd.C_drew ?_)))
      (case side2 => exact HC0_12.out)
      rintro e w47 ⟨rfl, hb⟩
      refine ⟨_, rfl, ?_⟩
      have n0_ := Aside0.mk (blk_below (g := gb143) (o := .cells #[.bool a0_0, .int .i64 a0_1, .int .i64 a0_2, .int .i64 a0_3, .int .i64 a0_4, .int .i64 a0_5, .int .i64 a0_6, .int .i64 a0_7, .int .i64 a0_8, .int .i64 a0_9, .bool a0_10, .string a0_11, .slice A0_12 l0_12.length c0_12, .string a0_13, .bool a0_14, .int .i64 a0_15, .int .i64 a0_16] 31 (0, 0)) (by (with_reducible repeat (first | refine blk_drewN ?_ _ | refine blk_drew ?_ | refine blk_alloc ?_ _)); exact BK143.out) hb)
      have n1_ := Aside0.mk (below_step (by repeat (first | (with_reducible first | exact HB.out | apply below_alloc | apply pw_below_drewN | apply below_drew1 | refine below_set ?_ GE143.out) | exact HB.out)) hb)
      clear BK143
      clear HB
      have BK143 := n0_
      have HB := n1_
      clear n0_ n1_
      (try clear hb)
      (try clear hb2)
      (try clear hk)
      (try clear hi)
      refine hK.out _ _ trivial (fun hHeld => ?_)
      clear hK K
      refine norm_ (a' := ?_) ?_ ?_
      rotate_left
      ·show Act.put _ (some 50) _ = _
       simp only [puts_]
       rfl
      refine pure_ (i := 2) (N := some 51) (v := ?_) (a' := ?_) (bm 10 7) rfl rfl (any_of HT_.out (by kernel_rfl)) (fun _ _ _ h => h) (Or.inl ⟨by rfl, ?_⟩) ?_ ?_; rotate_left; (intro w'; go_simp; with_reducible rfl); rotate_left; (simp only [puts_]; rfl)
      refine pure_ (i := 3) (N := some 52) (v := undef) (a' := ?_) (bm 10 15) rfl rfl (any_of HT_.out (by kernel_rfl)) (fun _ _ _ h => h) (Or.inr ⟨by rfl, rfl⟩) ?_ ?_; rotate_left; (simp only [puts_]; rfl)
      refine pure_ (i := 4) (N := some 53) (v := undef) (a' := ?_) (bm 10 31) rfl rfl (any_of HT_.out (by kernel_rfl)) (fun _ _ _ h => h) (Or.inr ⟨by rfl, rfl⟩) ?_ ?_; rotate_left; (simp only [puts_]; rfl)
      refine pure_ (i := 5) (N := some 54) (v := undef) (a' := ?_) (bm 10 63) rfl rfl (any_of HT_.out (by kernel_rfl)) (fun _ _ _ h => h) (Or.inr ⟨by rfl, rfl⟩) ?_ ?_; rotate_left; (simp only [puts_]; rfl)
      refine pure_ (i := 6) (N := some 55) (v := undef) (a' := ?_) (bm 10 127) rfl rfl (any_of HT_.out (by kernel_rfl)) (fun _ _ _ h => h) (Or.inr ⟨by rfl, rfl⟩) ?_ ?_; rotate_left; (simp only [puts_]; rfl)
      refine pure_ (i := 7) (N := some 56) (v := undef) (a' := ?_) (bm 10 255) rfl rfl (any_of HT_.out (by kernel_rfl)) (fun _ _ _ h => h) (Or.inr ⟨by rfl, rfl⟩) ?_ ?_; rotate_left; (simp only [puts_]; rfl)
      refine pure_ (i := 8) (N := some 57) (v := ?_) (a' := ?_) (bm 10 511) rfl rfl (any_of HT_.out (by kernel_rfl)) (fun _ _ _ h => h) (Or.inl ⟨by rfl, ?_⟩) ?_ ?_; rotate_left; (intro w'; go_simp; with_reducible rfl); rotate_left; (simp only [puts_]; rfl)
      refine pure_ (i := 9) (N := some 2) (v := ?_) (a' := ?_) (bm 10 1023) rfl rfl (any_of HT_.out (by kernel_rfl)) (fun _ _ _ h => h) (Or.inl ⟨by rfl, ?_⟩) ?_ ?_; rotate_left; (intro w'; go_simp; with_reducible rfl); rotate_left; (simp only [puts_]; rfl)
      refine done_ (done_of HT_.out (by kernel_rfl)) ?_
      try go_wp2
      go_ret
      exact ⟨by first | rfl | (simp [errW_none, errW_some] <;> rfl) | (simp [*, errW_none, errW_some] <;> rfl), by repeat (first | (with_reducible first | exact HB.out | apply below_alloc | apply pw_below_drewN | apply below_drew1 | refine below_set ?_ GE143.out) | exact HB.out)⟩

end Go.Proofs.Yticmghpnbjhhnab.M
