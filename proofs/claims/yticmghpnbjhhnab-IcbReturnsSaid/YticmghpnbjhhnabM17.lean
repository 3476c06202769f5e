/- Lean functions with the answers of the Go functions that they are named after, and the walks that tie the Go functions to them (written by the program mp.py of this session). -/
import Derived.Test.YticmghpnbjhhnabM0
import Derived.Test.YticmghpnbjhhnabM1
import Derived.Test.YticmghpnbjhhnabM2
import Derived.Test.YticmghpnbjhhnabM3
import Derived.Test.YticmghpnbjhhnabM7
import Derived.Test.YticmghpnbjhhnabM9
import Derived.Test.YticmghpnbjhhnabM11
import Derived.Test.YticmghpnbjhhnabM16
namespace Go.Proofs.Yticmghpnbjhhnab.M
open Go.RowKit Go.Proofs.YticmghpnbjhhnabW.PrintWords Go.Proofs.YticmghpnbjhhnabW.PrintLast Go.Proofs.YticmghpnbjhhnabW.PrintMore
attribute [local go_sem] fieldA50_0 fieldA102_0 max2_int min2_int max_two min_two max_three min_three max_four min_four   -- for this text's walks alone
set_option linter.unusedVariables false
set_option linter.unusedSimpArgs false

attribute [local go_sem high] eqA29 eqA69
/-! ### masterdiscref34_Extents: function 40 -/
def masterdiscref34_Extents.l0 : Nat → List (S69) → List (S69) → Int → Option (Bool)
 | 0, _, _, _ => none
 | k + 1, x0, x1, x5 => if x5 < (x0.length : Int) then (if 0 ≤ x5 then (if x5 < (x1.length : Int) then (if (!(((rd_T69 x0 x5).f0) == ((rd_T69 x1 x5).f0)) || (!(((rd_T69 x0 x5).f1) == ((rd_T69 x1 x5).f1)) || ((!(((rd_T69 x0 x5).f2.f0) == ((rd_T69 x1 x5).f2.f0)) || (!(((rd_T69 x0 x5).f2.f1) == ((rd_T69 x1 x5).f2.f1))))))) = true then (some false) else (masterdiscref34_Extents.l0 k x0 x1 (wrap64 (x5 + 1)))) else (none)) else (none)) else (some true)
def masterdiscref34_Extents.f (k : Nat) (l0 : List (S69)) (l1 : List (S69)) : Option (Bool) := if (l0.length : Int) = (l1.length : Int) then (masterdiscref34_Extents.l0 k l0 l1 0) else (some false)
theorem masterdiscref34_Extents.mono_l : ∀ k, (∀ y0 y1 y2, LeO (masterdiscref34_Extents.l0 k y0 y1 y2) (masterdiscref34_Extents.l0 (k + 1) y0 y1 y2))
 | 0 => fun _ _ _ r h => by simp [masterdiscref34_Extents.l0] at h
 | k + 1 => by
  have ih0 := masterdiscref34_Extents.mono_l k
  ·intro y0 y1 y2
   unfold masterdiscref34_Extents.l0
   repeat' first
   | (with_reducible exact ih0 _ _ _)
   | (with_reducible exact LeO.refl _)
   | (with_reducible exact LeO.none _)
   | (with_reducible refine LeO.ite ?_ ?_)
   | (with_reducible refine LeO.bind ?_ (fun _ => ?_))
   | exact ih0 _ _ _
   | exact LeO.none _
   | refine LeO.ite ?_ ?_
   | refine LeO.bind ?_ (fun _ => ?_)
theorem masterdiscref34_Extents.mono : ∀ a0 a1 k, LeO (masterdiscref34_Extents.f k a0 a1) (masterdiscref34_Extents.f (k + 1) a0 a1) := by
 intro a0 a1 k
 have ih0 := masterdiscref34_Extents.mono_l k
 unfold masterdiscref34_Extents.f
 repeat' first
   | (with_reducible exact ih0 _ _ _)
   | (with_reducible exact LeO.refl _)
   | (with_reducible exact LeO.none _)
   | (with_reducible refine LeO.ite ?_ ?_)
   | (with_reducible refine LeO.bind ?_ (fun _ => ?_))
   | exact ih0 _ _ _
   | exact LeO.none _
   | refine LeO.ite ?_ ?_
   | refine LeO.bind ?_ (fun _ => ?_)
set_option maxHeartbeats 8000000 in
set_option maxRecDepth 100000 in
theorem masterdiscref34_Extents.calls (k : Nat) (A0 : Option Addr) (c0 : Nat) (l0 : List (S69)) (A1 : Option Addr) (c1 : Nat) (l1 : List (S69)) (r : Bool) (w : World) (hr0 : Kd.C k69 w A0 l0.length l0) (hc0 : l0.length ≤ c0) (hr1 : Kd.C k69 w A1 l1.length l1) (hc1 : l1.length ≤ c1) (h : masterdiscref34_Extents.f k l0 l1 = some r) :
  Calls Try.prog 40 #[.slice A0 l0.length c0, .slice A1 l1.length c1] w fun e w' => e = .returned (.bool r) ∧ Drawn0 w w' := by
 have hu69 := Try.underlying69
 have HR0 := Aside0.mk hr0
 have HC0 := Aside0.mk hc0
 clear hr0 hc0
 have HR1 := Aside0.mk hr1
 have HC1 := Aside0.mk hc1
 clear hr1 hc1
 have H : (if (l0.length : Int) = (l1.length : Int) then (masterdiscref34_Extents.l0 k l0 l1 0) else (some false)) = some r := h
 clear h
 by_cases c3 : (l0.length : Int) = (l1.length : Int)
 ·rw [if_pos c3] at H
  have c3b0 : ((l0.length : Int) == (l1.length : Int)) = true := beq_iff_eq.mpr c3
  have c3b1 : ((l0.length : Int) != (l1.length : Int)) = false := bne_eq_false_iff_eq.mpr c3
  have c3b2 : (l0.length == l1.length) = true := by first | simpa using c3 | (simp at c3 ⊢; omega)
  clear c3
  have H' := Aside0.mk H
  clear H
  go_enter Try.func40, Try.ntmps40
  go_wp2
  repeat (go_quiet (fail); try go_wp2)
  go_loopg [5] k (fun kq v5 w' => ∃ (x5_1 : Int), v5 = .int .i64 x5_1 ∧ Aside0 (masterdiscref34_Extents.l0 kq l0 l1 x5_1 = some r) ∧ Aside0 (kq ≤ k) ∧ Drawn0 w w')
  case atStart => exact ⟨(0), (by first | rfl | (simp; done) | (simp [*]; done)), H', ⟨Nat.le_refl _⟩, by repeat (first | exact Drawn0.refl _ | apply Drawn0.step)⟩
  case round =>
   clear H'
   try clear c1
   try clear p2
   try clear c3
   try clear c3b0
   try clear c3b1
   try clear c3b2
   obtain ⟨x5_1, rfl, HA, HK1, ⟨m1, rfl⟩⟩ := hrel
   cases gk with
   | zero => exact absurd HA.out (by simp [masterdiscref34_Extents.l0])
   | succ k1 =>
    have H := HA.out
    clear HA
    simp only [masterdiscref34_Extents.l0] at H
    by_cases c4 : x5_1 < (l0.length : Int)
    ·rw [if_pos c4] at H
     have c4b0 : decide (x5_1 < (l0.length : Int)) = true := decide_eq_true c4
     clear c4
     by_cases c5 : 0 ≤ x5_1
     ·rw [if_pos c5] at H
      have c5b0 : decide (0 ≤ x5_1) = true := decide_eq_true c5
      clear c5
      by_cases c6 : x5_1 < (l1.length : Int)
      ·rw [if_pos c6] at H
       have c6b0 : decide (x5_1 < (l1.length : Int)) = true := decide_eq_true c6
       clear c6
       by_cases c7 : (!(((rd_T69 l0 x5_1).f0) == ((rd_T69 l1 x5_1).f0)) || (!(((rd_T69 l0 x5_1).f1) == ((rd_T69 l1 x5_1).f1)) || ((!(((rd_T69 l0 x5_1).f2.f0) == ((rd_T69 l1 x5_1).f2.f0)) || (!(((rd_T69 l0 x5_1).f2.f1) == ((rd_T69 l1 x5_1).f2.f1))))))) = true
       ·rw [if_pos c7] at H
        have c7b0 : (!(((rd_T69 l0 x5_1).f0) == ((rd_T69 l1 x5_1).f0)) || (!(((rd_T69 l0 x5_1).f1) == ((rd_T69 l1 x5_1).f1)) || ((!(((rd_T69 l0 x5_1).f2.f0) == ((rd_T69 l1 x5_1).f2.f0)) || (!(((rd_T69 l0 x5_1).f2.f1) == ((rd_T69 l1 x5_1).f2.f1))))))) = true := c7
        clear c7
        obtain rfl := Option.some.inj H
        have p283 : 0 ≤ (x5_1 : Int) := of_decide_eq_true (by first | (with_reducible assumption) | assumption)
        have q283 : x5_1 < (l0.length : Int) := of_decide_eq_true (by first | (with_reducible assumption) | assumption)
        obtain ⟨ad283, e283, hx283_0, hx283_1, hx283_2, hx283_3⟩ := at_T69 HR0.out x5_1 p283 q283
        cases e283
        replace p283 := eq_true p283
        replace q283 := eq_true q283
        have p284 : 0 ≤ (x5_1 : Int) := of_decide_eq_true (by first | (with_reducible assumption) | assumption)
        have q284 : x5_1 < (l1.length : Int) := of_decide_eq_true (by first | (with_reducible assumption) | assumption)
        obtain ⟨ad284, e284, hx284_0, hx284_1, hx284_2, hx284_3⟩ := at_T69 HR1.out x5_1 p284 q284
        cases e284
        replace p284 := eq_true p284
        replace q284 := eq_true q284
        go_wp2
        repeat (go_quiet (fail); try go_wp2)
        go_ret
        exact ⟨by first | rfl | (simp; done) | (simp [*]; done), by repeat (first | exact Drawn0.refl _ | apply Drawn0.step)⟩
       ·rw [if_neg c7] at H
        have c7b0 : (!(((rd_T69 l0 x5_1).f0) == ((rd_T69 l1 x5_1).f0)) || (!(((rd_T69 l0 x5_1).f1) == ((rd_T69 l1 x5_1).f1)) || ((!(((rd_T69 l0 x5_1).f2.f0) == ((rd_T69 l1 x5_1).f2.f0)) || (!(((rd_T69 l0 x5_1).f2.f1) == ((rd_T69 l1 x5_1).f2.f1))))))) = false := by simpa using c7
        clear c7
        have H' := Aside0.mk H
        clear H
        have p283 : 0 ≤ (x5_1 : Int) := of_decide_eq_true (by first | (with_reducible assumption) | assumption)
        have q283 : x5_1 < (l0.length : Int) := of_decide_eq_true (by first | (with_reducible assumption) | assumption)
        obtain ⟨ad283, e283, hx283_0, hx283_1, hx283_2, hx283_3⟩ := at_T69 HR0.out x5_1 p283 q283
        cases e283
        replace p283 := eq_true p283
        replace q283 := eq_true q283
        have p284 : 0 ≤ (x5_1 : Int) := of_decide_eq_true (by first | (with_reducible assumption) | assumption)
        have q284 : x5_1 < (l1.length : Int) := of_decide_eq_true (by first | (with_reducible assumption) | assumption)
        obtain ⟨ad284, e284, hx284_0, hx284_1, hx284_2, hx284_3⟩ := at_T69 HR1.out x5_1 p284 q284
        cases e284
        replace p284 := eq_true p284
        replace q284 := eq_true q284
        go_wp2
        repeat (go_quiet (fail); try go_wp2)
        go_roundg k1
        case measure => have := HK1.out; omega
        case rel => exact ⟨(wrap64 (x5_1 + 1)), (by first | rfl | (simp; done) | (simp [*]; done)), H', ⟨by have := HK1.out; omega⟩, by repeat (first | exact Drawn0.refl _ | apply Drawn0.step)⟩
      ·rw [if_neg c6] at H
       exact absurd H (by simp)
     ·rw [if_neg c5] at H
      exact absurd H (by simp)
    ·rw [if_neg c4] at H
     have c4b0 : decide (x5_1 < (l0.length : Int)) = false := decide_eq_false c4
     clear c4
     obtain rfl := Option.some.inj H
     go_wp2
     repeat (go_quiet (fail); try go_wp2)
     go_ret
     exact ⟨by first | rfl | (simp; done) | (simp [*]; done), by repeat (first | exact Drawn0.refl _ | apply Drawn0.step)⟩
 ·rw [if_neg c3] at H
  have c3b0 : ((l0.length : Int) == (l1.length : Int)) = false := beq_eq_false_iff_ne.mpr c3
  have c3b1 : ((l0.length : Int) != (l1.length : Int)) = true := bne_iff_ne.mpr c3
  have c3b2 : (l0.length == l1.length) = false := by first | simpa using c3 | (simp at c3 ⊢; omega)
  obtain rfl := Option.some.inj H
  go_enter Try.func40, Try.ntmps40
  go_wp2
  repeat (go_quiet (fail); try go_wp2)
  go_ret
  exact ⟨by first | rfl | (simp; done) | (simp [*]; done), by repeat (first | exact Drawn0.refl _ | apply Drawn0.step)⟩

/-! ### masterdiscref34_Same: function 16 -/
def masterdiscref34_Same.f (k : Nat) (a0_0 : Bool) (a0_1 : Int) (a0_2 : Int) (a0_3 : Int) (a0_4 : Int) (a0_5 : Int) (a0_6 : Int) (a0_7 : Int) (a0_8 : Int) (a0_9 : Int) (a0_10 : Bool) (a0_11 : ByteArray) (l0_12 : List (S69)) (a0_13 : ByteArray) (a0_14 : Bool) (a0_15 : Int) (a0_16 : Int) (a1_0 : Bool) (a1_1 : Int) (a1_2 : Int) (a1_3 : Int) (a1_4 : Int) (a1_5 : Int) (a1_6 : Int) (a1_7 : Int) (a1_8 : Int) (a1_9 : Int) (a1_10 : Bool) (a1_11 : ByteArray) (l1_12 : List (S69)) (a1_13 : ByteArray) (a1_14 : Bool) (a1_15 : Int) (a1_16 : Int) : Option (Bool) := if (a0_0 == a1_0) = true then (if a0_1 = a1_1 then (if a0_2 = a1_2 then (if a0_3 = a1_3 then (if a0_4 = a1_4 then (if a0_5 = a1_5 then (if a0_6 = a1_6 then (if a0_7 = a1_7 then (if a0_8 = a1_8 then (if a0_9 = a1_9 then (if (a0_10 == a1_10) = true then (if a0_11.toList = a1_11.toList then ((masterdiscref34_Extents.f k l0_12 l1_12).bind fun t287 => (if t287 = true then (if a0_13.toList = a1_13.toList then (if (a0_14 == a1_14) = true then (some (a0_15 == a1_15 && (a0_16 == a1_16))) else (none)) else (none)) else (none))) else (none)) else (none)) else (none)) else (none)) else (none)) else (none)) else (none)) else (none)) else (none)) else (none)) else (none)) else (none)
theorem masterdiscref34_Same.mono : ∀ a0 a1 a2 a3 a4 a5 a6 a7 a8 a9 a10 a11 a12 a13 a14 a15 a16 a17 a18 a19 a20 a21 a22 a23 a24 a25 a26 a27 a28 a29 a30 a31 a32 a33 k, LeO (masterdiscref34_Same.f k a0 a1 a2 a3 a4 a5 a6 a7 a8 a9 a10 a11 a12 a13 a14 a15 a16 a17 a18 a19 a20 a21 a22 a23 a24 a25 a26 a27 a28 a29 a30 a31 a32 a33) (masterdiscref34_Same.f (k + 1) a0 a1 a2 a3 a4 a5 a6 a7 a8 a9 a10 a11 a12 a13 a14 a15 a16 a17 a18 a19 a20 a21 a22 a23 a24 a25 a26 a27 a28 a29 a30 a31 a32 a33) := by
 intro a0 a1 a2 a3 a4 a5 a6 a7 a8 a9 a10 a11 a12 a13 a14 a15 a16 a17 a18 a19 a20 a21 a22 a23 a24 a25 a26 a27 a28 a29 a30 a31 a32 a33 k
 unfold masterdiscref34_Same.f
 repeat' first
   | (with_reducible exact masterdiscref34_Extents.mono _ _ _)
   | (with_reducible exact LeO.refl _)
   | (with_reducible exact LeO.none _)
   | (with_reducible refine LeO.ite ?_ ?_)
   | (with_reducible refine LeO.bind ?_ (fun _ => ?_))
   | exact masterdiscref34_Extents.mono _ _ _
   | exact LeO.none _
   | refine LeO.ite ?_ ?_
   | refine LeO.bind ?_ (fun _ => ?_)
set_option maxHeartbeats 8000000 in
set_option maxRecDepth 100000 in
theorem masterdiscref34_Same.calls (k : Nat) (a0_0 : Bool) (a0_1 : Int) (a0_2 : Int) (a0_3 : Int) (a0_4 : Int) (a0_5 : Int) (a0_6 : Int) (a0_7 : Int) (a0_8 : Int) (a0_9 : Int) (a0_10 : Bool) (a0_11 : ByteArray) (A0_12 : Option Addr) (c0_12 : Nat) (l0_12 : List (S69)) (a0_13 : ByteArray) (a0_14 : Bool) (a0_15 : Int) (a0_16 : Int) (a1_0 : Bool) (a1_1 : Int) (a1_2 : Int) (a1_3 : Int) (a1_4 : Int) (a1_5 : Int) (a1_6 : Int) (a1_7 : Int) (a1_8 : Int) (a1_9 : Int) (a1_10 : Bool) (a1_11 : ByteArray) (A1_12 : Option Addr) (c1_12 : Nat) (l1_12 : List (S69)) (a1_13 : ByteArray) (a1_14 : Bool) (a1_15 : Int) (a1_16 : Int) (r : Bool) (w : World) (hr0_12 : Kd.C k69 w A0_12 l0_12.length l0_12) (hc0_12 : l0_12.length ≤ c0_12) (hr1_12 : Kd.C k69 w A1_12 l1_12.length l1_12) (hc1_12 : l1_12.length ≤ c1_12) (h : masterdiscref34_Same.f k a0_0 a0_1 a0_2 a0_3 a0_4 a0_5 a0_6 a0_7 a0_8 a0_9 a0_10 a0_11 l0_12 a0_13 a0_14 a0_15 a0_16 a1_0 a1_1 a1_2 a1_3 a1_4 a1_5 a1_6 a1_7 a1_8 a1_9 a1_10 a1_11 l1_12 a1_13 a1_14 a1_15 a1_16 = some r) :
  Calls Try.prog 16 #[.agg #[.bool a0_0, .int .i64 a0_1, .int .i64 a0_2, .int .i64 a0_3, .int .i64 a0_4, .int .i64 a0_5, .int .i64 a0_6, .int .i64 a0_7, .int .i64 a0_8, .int .i64 a0_9, .bool a0_10, .string a0_11, .slice A0_12 l0_12.length c0_12, .string a0_13, .bool a0_14, .int .i64 a0_15, .int .i64 a0_16], .agg #[.bool a1_0, .int .i64 a1_1, .int .i64 a1_2, .int .i64 a1_3, .int .i64 a1_4, .int .i64 a1_5, .int .i64 a1_6, .int .i64 a1_7, .int .i64 a1_8, .int .i64 a1_9, .bool a1_10, .string a1_11, .slice A1_12 l1_12.length c1_12, .string a1_13, .bool a1_14, .int .i64 a1_15, .int .i64 a1_16]] w fun e w' => e = .returned (.bool r) ∧ Below w.heap.size w w' := by
 have hu31 := Try.underlying31
 have hu29 := Try.underlying29
 have HR0_12 := Aside0.mk hr0_12
 have HC0_12 := Aside0.mk hc0_12
 clear hr0_12 hc0_12
 have HR1_12 := Aside0.mk hr1_12
 have HC1_12 := Aside0.mk hc1_12
 clear hr1_12 hc1_12
 have HB := Aside0.mk (Below.refl w.heap.size w)
 have H : (if (a0_0 == a1_0) = true then (if a0_1 = a1_1 then (if a0_2 = a1_2 then (if a0_3 = a1_3 then (if a0_4 = a1_4 then (if a0_5 = a1_5 then (if a0_6 = a1_6 then (if a0_7 = a1_7 then (if a0_8 = a1_8 then (if a0_9 = a1_9 then (if (a0_10 == a1_10) = true then (if a0_11.toList = a1_11.toList then ((masterdiscref34_Extents.f k l0_12 l1_12).bind fun t287 => (if t287 = true then (if a0_13.toList = a1_13.toList then (if (a0_14 == a1_14) = true then (some (a0_15 == a1_15 && (a0_16 == a1_16))) else (none)) else (none)) else (none))) else (none)) else (none)) else (none)) else (none)) else (none)) else (none)) else (none)) else (none)) else (none)) else (none)) else (none)) else (none)) = some r := h
 clear h
 by_cases c3 : (a0_0 == a1_0) = true
 ·rw [if_pos c3] at H
  have c3b0 : (a0_0 == a1_0) = true := c3
  (try (have c3b1 : decide (a0_0 = a1_0) = true := by simpa using c3))
  (try (have c3b2 : (a0_0 == a1_0) = true := by simpa using c3))
  clear c3
  by_cases c4 : a0_1 = a1_1
  ·rw [if_pos c4] at H
   have c4b0 : (a0_1 == a1_1) = true := beq_iff_eq.mpr c4
   have c4b1 : (a0_1 != a1_1) = false := bne_eq_false_iff_eq.mpr c4
   clear c4
   by_cases c5 : a0_2 = a1_2
   ·rw [if_pos c5] at H
    have c5b0 : (a0_2 == a1_2) = true := beq_iff_eq.mpr c5
    have c5b1 : (a0_2 != a1_2) = false := bne_eq_false_iff_eq.mpr c5
    clear c5
    by_cases c6 : a0_3 = a1_3
    ·rw [if_pos c6] at H
     have c6b0 : (a0_3 == a1_3) = true := beq_iff_eq.mpr c6
     have c6b1 : (a0_3 != a1_3) = false := bne_eq_false_iff_eq.mpr c6
     clear c6
     by_cases c7 : a0_4 = a1_4
     ·rw [if_pos c7] at H
      have c7b0 : (a0_4 == a1_4) = true := beq_iff_eq.mpr c7
      have c7b1 : (a0_4 != a1_4) = false := bne_eq_false_iff_eq.mpr c7
      clear c7
      by_cases c8 : a0_5 = a1_5
      ·rw [if_pos c8] at H
       have c8b0 : (a0_5 == a1_5) = true := beq_iff_eq.mpr c8
       have c8b1 : (a0_5 != a1_5) = false := bne_eq_false_iff_eq.mpr c8
       clear c8
       by_cases c9 : a0_6 = a1_6
       ·rw [if_pos c9] at H
        have c9b0 : (a0_6 == a1_6) = true := beq_iff_eq.mpr c9
        have c9b1 : (a0_6 != a1_6) = false := bne_eq_false_iff_eq.mpr c9
        clear c9
        by_cases c10 : a0_7 = a1_7
        ·rw [if_pos c10] at H
         have c10b0 : (a0_7 == a1_7) = true := beq_iff_eq.mpr c10
         have c10b1 : (a0_7 != a1_7) = false := bne_eq_false_iff_eq.mpr c10
         clear c10
         by_cases c11 : a0_8 = a1_8
         ·rw [if_pos c11] at H
          have c11b0 : (a0_8 == a1_8) = true := beq_iff_eq.mpr c11
          have c11b1 : (a0_8 != a1_8) = false := bne_eq_false_iff_eq.mpr c11
          clear c11
          by_cases c12 : a0_9 = a1_9
          ·rw [if_pos c12] at H
           have c12b0 : (a0_9 == a1_9) = true := beq_iff_eq.mpr c12
           have c12b1 : (a0_9 != a1_9) = false := bne_eq_false_iff_eq.mpr c12
           clear c12
           by_cases c13 : (a0_10 == a1_10) = true
           ·rw [if_pos c13] at H
            have c13b0 : (a0_10 == a1_10) = true := c13
            (try (have c13b1 : decide (a0_10 = a1_10) = true := by simpa using c13))
            (try (have c13b2 : (a0_10 == a1_10) = true := by simpa using c13))
            clear c13
            by_cases c14 : a0_11.toList = a1_11.toList
            ·rw [if_pos c14] at H
             have c14b0 : (a0_11.toList == a1_11.toList) = true := beq_iff_eq.mpr c14
             have c14b1 : (a0_11.toList != a1_11.toList) = false := bne_eq_false_iff_eq.mpr c14
             clear c14
             replace H := Option.bind_eq_some_iff.mp H
             obtain ⟨t287, A150, H⟩ := H
             replace H : (if t287 = true then (if a0_13.toList = a1_13.toList then (if (a0_14 == a1_14) = true then (some (a0_15 == a1_15 && (a0_16 == a1_16))) else (none)) else (none)) else (none)) = some r := H
             have A15 := Aside0.mk A150
             clear A150
             by_cases c16 : t287 = true
             ·subst c16
              have H1 : (if a0_13.toList = a1_13.toList then (if (a0_14 == a1_14) = true then (some (a0_15 == a1_15 && (a0_16 == a1_16))) else (none)) else (none)) = some r := by rw [if_pos rfl] at H; exact H
              clear H
              have H := H1
              clear H1
              by_cases c17 : a0_13.toList = a1_13.toList
              ·rw [if_pos c17] at H
               have c17b0 : (a0_13.toList == a1_13.toList) = true := beq_iff_eq.mpr c17
               have c17b1 : (a0_13.toList != a1_13.toList) = false := bne_eq_false_iff_eq.mpr c17
               clear c17
               by_cases c18 : (a0_14 == a1_14) = true
               ·rw [if_pos c18] at H
                have c18b0 : (a0_14 == a1_14) = true := c18
                (try (have c18b1 : decide (a0_14 = a1_14) = true := by simpa using c18))
                (try (have c18b2 : (a0_14 == a1_14) = true := by simpa using c18))
                clear c18
                obtain rfl := Option.some.inj H
                go_enter Try.func16, Try.ntmps16
                go_wp2_with (first | ((with_reducible refine gate_dst (N := 2) rfl ?_); refine box_event ?hg (N := 2) ?hd (cs := #[.bool a0_0, .int .i64 a0_1, .int .i64 a0_2, .int .i64 a0_3, .int .i64 a0_4, .int .i64 a0_5, .int .i64 a0_6, .int .i64 a0_7, .int .i64 a0_8, .int .i64 a0_9, .bool a0_10, .string a0_11, .slice A0_12 l0_12.length c0_12, .string a0_13, .bool a0_14, .int .i64 a0_15, .int .i64 a0_16]) (t := 31) ?hr ?_; (case hd => rfl); (case hg => rfl); (case hr => first | (go_simp; done) | (go_simp; rfl)); intro gb285 hg w19 hbox hb; have n0_ := Aside0.mk (below_step (by repeat (first | (with_reducible first | exact HB.out | apply below_alloc | apply pw_below_drewN | apply below_drew1) | exact HB.out)) hb); have n1_ := Aside0.mk (hbox); have n2_ := Aside0.mk ((by rw [hg]; exact (below_size (by repeat (first | (with_reducible first | exact HB.out | apply below_alloc | apply pw_below_drewN | apply below_drew1) | exact HB.out))) : w.heap.size ≤ gb285)); have n3_ := Aside0.mk ((by rw [hg]; exact (below_size (by repeat (first | (with_reducible first | exact HB.out | apply below_alloc | apply pw_below_drewN | apply below_drew1) | exact HB.out))) : w.heap.size ≤ gb285)); clear HB; have HB := n0_; have BK285 := n1_; have GW285 := n2_; have GE285 := n3_; clear n0_ n1_ n2_ n3_; clear hb hbox hg) | ((with_reducible refine gate_dst (N := 3) rfl ?_); refine box_event ?hg (N := 3) ?hd (cs := #[.bool a1_0, .int .i64 a1_1, .int .i64 a1_2, .int .i64 a1_3, .int .i64 a1_4, .int .i64 a1_5, .int .i64 a1_6, .int .i64 a1_7, .int .i64 a1_8, .int .i64 a1_9, .bool a1_10, .string a1_11, .slice A1_12 l1_12.length c1_12, .string a1_13, .bool a1_14, .int .i64 a1_15, .int .i64 a1_16]) (t := 31) ?hr ?_; (case hd => rfl); (case hg => rfl); (case hr => first | (go_simp; done) | (go_simp; rfl)); intro gb286 hg w20 hbox hb; have n0_ := Aside0.mk (blk_below (g := gb285) (o := .cells #[.bool a0_0, .int .i64 a0_1, .int .i64 a0_2, .int .i64 a0_3, .int .i64 a0_4, .int .i64 a0_5, .int .i64 a0_6, .int .i64 a0_7, .int .i64 a0_8, .int .i64 a0_9, .bool a0_10, .string a0_11, .slice A0_12 l0_12.length c0_12, .string a0_13, .bool a0_14, .int .i64 a0_15, .int .i64 a0_16] 31 (0, 0)) (by (with_reducible repeat (first | refine blk_drewN ?_ _ | refine blk_drew ?_ | refine blk_alloc ?_ _)); exact BK285.out) hb); have n1_ := Aside0.mk (below_step (by repeat (first | (with_reducible first | exact HB.out | apply below_alloc | apply pw_below_drewN | apply below_drew1 | refine below_set ?_ GE285.out) | exact HB.out)) hb); have n2_ := Aside0.mk (hbox); have n3_ := Aside0.mk ((by rw [hg]; exact (below_size (by repeat (first | (with_reducible first | exact HB.out | apply below_alloc | apply pw_below_drewN | apply below_drew1 | refine below_set ?_ GE285.out) | exact HB.out))) : w.heap.size ≤ gb286)); have n4_ := Aside0.mk ((by rw [hg]; exact (below_size (by repeat (first | (with_reducible first | exact HB.out | apply below_alloc | apply pw_below_drewN | apply below_drew1 | refine below_set ?_ GE285.out) | exact HB.out))) : w.heap.size ≤ gb286)); have n5_ := Aside0.mk ((by rw [hg]; exact Nat.ne_of_lt (blk_lt (g := gb285) (o := .cells #[.bool a0_0, .int .i64 a0_1, .int .i64 a0_2, .int .i64 a0_3, .int .i64 a0_4, .int .i64 a0_5, .int .i64 a0_6, .int .i64 a0_7, .int .i64 a0_8, .int .i64 a0_9, .bool a0_10, .string a0_11, .slice A0_12 l0_12.length c0_12, .string a0_13, .bool a0_14, .int .i64 a0_15, .int .i64 a0_16] 31 (0, 0)) (by (with_reducible repeat (first | refine blk_drewN ?_ _ | refine blk_drew ?_ | refine blk_alloc ?_ _)); exact BK285.out)) : gb285 ≠ gb286)); have n6_ := Aside0.mk ((by rw [hg]; exact Nat.ne_of_gt (blk_lt (g := gb285) (o := .cells #[.bool a0_0, .int .i64 a0_1, .int .i64 a0_2, .int .i64 a0_3, .int .i64 a0_4, .int .i64 a0_5, .int .i64 a0_6, .int .i64 a0_7, .int .i64 a0_8, .int .i64 a0_9, .bool a0_10, .string a0_11, .slice A0_12 l0_12.length c0_12, .string a0_13, .bool a0_14, .int .i64 a0_15, .int .i64 a0_16] 31 (0, 0)) (by (with_reducible repeat (first | refine blk_drewN ?_ _ | refine blk_drew ?_ | refine blk_alloc ?_ _)); exact BK285.out)) : gb286 ≠ gb285)); clear BK285; clear HB; have BK285 := n0_; have HB := n1_; have BK286 := n2_; have GW286 := n3_; have GE286 := n4_; have NB285_286 := n5_; have NB286_285 := n6_; clear n0_ n1_ n2_ n3_ n4_ n5_ n6_; clear hb hbox hg; have hnb21 := NB285_286.out; have hnc21 := NB286_285.out; obtain ⟨hcz22_0, hcz22_1, hcz22_2, hcz22_3, hcz22_4, hcz22_5, hcz22_6, hcz22_7, hcz22_8, hcz22_9, hcz22_10, hcz22_11, hcz22_12, hcz22_13, hcz22_14, hcz22_15, hcz22_16⟩ := cz_17 BK285.out; obtain ⟨hfz22_0, hfz22_1, hfz22_2, hfz22_3, hfz22_4, hfz22_5, hfz22_6, hfz22_7, hfz22_8, hfz22_9, hfz22_10, hfz22_11, hfz22_12, hfz22_13, hfz22_14, hfz22_15, hfz22_16⟩ := fz_17 BK285.out; obtain ⟨hcz23_0, hcz23_1, hcz23_2, hcz23_3, hcz23_4, hcz23_5, hcz23_6, hcz23_7, hcz23_8, hcz23_9, hcz23_10, hcz23_11, hcz23_12, hcz23_13, hcz23_14, hcz23_15, hcz23_16⟩ := cz_17 BK286.out; obtain ⟨hfz23_0, hfz23_1, hfz23_2, hfz23_3, hfz23_4, hfz23_5, hfz23_6, hfz23_7, hfz23_8, hfz23_9, hfz23_10, hfz23_11, hfz23_12, hfz23_13, hfz23_14, hfz23_15, hfz23_16⟩ := fz_17 BK286.out) | (go_at_call 40; (with_reducible refine (masterdiscref34_Extents.calls k _ _ l0_12 _ _ l1_12 true _ ?side1 ?side2 ?side3 ?side4 A15.out).mono ?_); (case side1 => repeat (first | exact (Kd.C_below HR0_12.out HB.out) | (with_reducible refine Kd.C_alloc ?_ _) | (with_reducible refine Kd.C_drewN ?_ _) | (with_reducible refine Kd.C_drew ?_))); (case side2 => exact HC0_12.out); (case side3 => repeat (first | exact (Kd.C_below HR1_12.out HB.out) | (with_reducible refine Kd.C_alloc ?_ _) | (with_reducible refine Kd.C_drewN ?_ _) | (with_reducible refine Kd.C_drew ?_))); (case side4 => exact HC1_12.out); rintro e w' ⟨rfl, ⟨nd, rfl⟩⟩))
                go_ret
                exact ⟨by first | rfl | (simp [errW_none, errW_some] <;> rfl) | (simp [*, errW_none, errW_some] <;> rfl), by repeat (first | (with_reducible first | exact HB.out | apply below_alloc | apply pw_below_drewN | apply below_drew1 | refine below_set ?_ GE285.out | refine below_set ?_ GE286.out) | exact HB.out)⟩
               ·rw [if_neg c18] at H
                exact absurd H (by simp)
              ·rw [if_neg c17] at H
               exact absurd H (by simp)
             ·replace c16 := Bool.eq_false_iff.mpr c16
              subst c16
              have H1 : (none) = some r := by rw [if_neg (show ¬ (false = true) by decide)] at H; exact H
              clear H
              have H := H1
              clear H1
              exact absurd H (by simp)
            ·rw [if_neg c14] at H
             exact absurd H (by simp)
           ·rw [if_neg c13] at H
            exact absurd H (by simp)
          ·rw [if_neg c12] at H
           exact absurd H (by simp)
         ·rw [if_neg c11] at H
          exact absurd H (by simp)
        ·rw [if_neg c10] at H
         exact absurd H (by simp)
       ·rw [if_neg c9] at H
        exact absurd H (by simp)
      ·rw [if_neg c8] at H
       exact absurd H (by simp)
     ·rw [if_neg c7] at H
      exact absurd H (by simp)
    ·rw [if_neg c6] at H
     exact absurd H (by simp)
   ·rw [if_neg c5] at H
    exact absurd H (by simp)
  ·rw [if_neg c4] at H
   exact absurd H (by simp)
 ·rw [if_neg c3] at H
  exact absurd H (by simp)

/-! ### icb_Room: function 18 -/
def icb_Room.f (a0_0 : Bool) (a0_1 : Int) (a0_2 : Int) (a0_3 : Int) (a0_4 : Int) (a0_5 : Int) (a0_6 : Int) (a0_7 : Int) (a0_8 : Int) (a0_9 : Int) (a0_10 : Bool) (a0_11 : ByteArray) (l0_12 : List (S69)) (a0_13 : ByteArray) (a0_14 : Bool) (a0_15 : Int) (a0_16 : Int) : Option (Int) := (icb_forms.f a0_0).bind fun bt289 => (some (mx 0 (wrap64 ((wrap64 (2048 - bt289.1)) - (a0_13.size : Int)))))
def icb_Room.T1 : Bool × List (List Nat × List Nat) := (true, [([], []), ([0], [0]), ([1], [1]), ([2], [2]), ([3], [3]), ([], []), ([5], [5]), ([6], [6]), ([4, 7], [4, 7]), ([8], [8]), ([9, 2, 0, 1, 2, 3, 4, 5, 6, 7, 8, 9], [9])])
def icb_Room.B1 : List Nat := [0, 1, 3, 7, 15, 0, 32, 96, 255, 511, 1023]
theorem icb_Room.tab1 : rtab .any (opsOf Try.f18 1) = icb_Room.T1 := by kernel_rfl
theorem icb_Room.bits1 : waitsOk icb_Room.T1.2 icb_Room.B1 = true := by kernel_rfl
set_option maxHeartbeats 8000000 in
set_option maxRecDepth 100000 in
theorem icb_Room.calls (a0_0 : Bool) (a0_1 : Int) (a0_2 : Int) (a0_3 : Int) (a0_4 : Int) (a0_5 : Int) (a0_6 : Int) (a0_7 : Int) (a0_8 : Int) (a0_9 : Int) (a0_10 : Bool) (a0_11 : ByteArray) (A0_12 : Option Addr) (c0_12 : Nat) (l0_12 : List (S69)) (a0_13 : ByteArray) (a0_14 : Bool) (a0_15 : Int) (a0_16 : Int) (r : Int) (w : World) (hr0_12 : Kd.C k69 w A0_12 l0_12.length l0_12) (hc0_12 : l0_12.length ≤ c0_12) (h : icb_Room.f a0_0 a0_1 a0_2 a0_3 a0_4 a0_5 a0_6 a0_7 a0_8 a0_9 a0_10 a0_11 l0_12 a0_13 a0_14 a0_15 a0_16 = some r) :
  Calls Try.prog 18 #[.agg #[.bool a0_0, .int .i64 a0_1, .int .i64 a0_2, .int .i64 a0_3, .int .i64 a0_4, .int .i64 a0_5, .int .i64 a0_6, .int .i64 a0_7, .int .i64 a0_8, .int .i64 a0_9, .bool a0_10, .string a0_11, .slice A0_12 l0_12.length c0_12, .string a0_13, .bool a0_14, .int .i64 a0_15, .int .i64 a0_16]] w fun e w' => e = .returned (.int .i64 r) ∧ Below w.heap.size w w' := by
 have hu31 := Try.underlying31
 have HR0_12 := Aside0.mk hr0_12
 have HC0_12 := Aside0.mk hc0_12
 clear hr0_12 hc0_12
 have HB := Aside0.mk (Below.refl w.heap.size w)
 have H : ((icb_forms.f a0_0).bind fun bt289 => (some (mx 0 (wrap64 ((wrap64 (2048 - bt289.1)) - (a0_13.size : Int)))))) = some r := h
 clear h
 replace H := Option.bind_eq_some_iff.mp H
 obtain ⟨⟨t289, t290⟩, A20, H⟩ := H
 replace H : (some (mx 0 (wrap64 ((wrap64 (2048 - t289)) - (a0_13.size : Int))))) = some r := H
 have A2 := Aside0.mk A20
 clear A20
 obtain ⟨ji3, hji3⟩ : ∃ j_ : Int, (mx 0 (wrap64 ((wrap64 (2048 - t289)) - (a0_13.size : Int)))) = j_ := ⟨_, rfl⟩
 replace H : (some ji3) = some r := by first | (rw [hji3] at H; exact H) | (simp only [hji3] at H ⊢; exact H)
 (try rw [hji3] at A2)
 (try (have hji3l : 0 ≤ ji3 := by (rw [← hji3]; unfold mx; (repeat' split) <;> omega)))
 (try (have hji3m : 0 ≤ ji3 := by omega))
 have hji3_ : (if 0 < (wrap64 ((wrap64 (2048 - t289)) - (a0_13.size : Int))) then (wrap64 ((wrap64 (2048 - t289)) - (a0_13.size : Int))) else 0) = ji3 := hji3
 obtain rfl := Option.some.inj H
 go_enter Try.func18, Try.ntmps18
 try go_wp2_with (first | ((with_reducible refine gate_dst (N := 1) rfl ?_); refine box_event ?hg (N := 1) ?hd (cs := #[.bool a0_0, .int .i64 a0_1, .int .i64 a0_2, .int .i64 a0_3, .int .i64 a0_4, .int .i64 a0_5, .int .i64 a0_6, .int .i64 a0_7, .int .i64 a0_8, .int .i64 a0_9, .bool a0_10, .string a0_11, .slice A0_12 l0_12.length c0_12, .string a0_13, .bool a0_14, .int .i64 a0_15, .int .i64 a0_16]) (t := 31) ?hr ?_; (case hd => rfl); (case hg => rfl); (case hr => first | (go_simp; done) | (go_simp; rfl)); intro gb288 hg w4 hbox hb; have n0_ := Aside0.mk (below_step (by repeat (first | (with_reducible first | exact HB.out | apply below_alloc | apply pw_below_drewN | apply below_drew1) | exact HB.out)) hb); have n1_ := Aside0.mk (hbox); have n2_ := Aside0.mk ((by rw [hg]; exact (below_size (by repeat (first | (with_reducible first | exact HB.out | apply below_alloc | apply pw_below_drewN | apply below_drew1) | exact HB.out))) : w.heap.size ≤ gb288)); have n3_ := Aside0.mk ((by rw [hg]; exact (below_size (by repeat (first | (with_reducible first | exact HB.out | apply below_alloc | apply pw_below_drewN | apply below_drew1) | exact HB.out))) : w.heap.size ≤ gb288)); clear HB; have HB := n0_; have BK288 := n1_; have GW288 := n2_; have GE288 := n3_; clear n0_ n1_ n2_ n3_; clear hb hbox hg))
 have n0_ := Aside0.mk (blk_drew BK288.out)
 have n1_ := Aside0.mk (below_drew1 HB.out)
 clear BK288
 clear HB
 have BK288 := n0_
 have HB := n1_
 clear n0_ n1_
 refine start_ (n := 11) (S := fun w' => w'.cell? ⟨gb288, 0, none⟩ = some (.bool a0_0) ∧ w'.cell? ⟨gb288, 1, none⟩ = some (.int .i64 a0_1) ∧ w'.cell? ⟨gb288, 2, none⟩ = some (.int .i64 a0_2) ∧ w'.cell? ⟨gb288, 3, none⟩ = some (.int .i64 a0_3) ∧ w'.cell? ⟨gb288, 4, none⟩ = some (.int .i64 a0_4) ∧ w'.cell? ⟨gb288, 5, none⟩ = some (.int .i64 a0_5) ∧ w'.cell? ⟨gb288, 6, none⟩ = some (.int .i64 a0_6) ∧ w'.cell? ⟨gb288, 7, none⟩ = some (.int .i64 a0_7) ∧ w'.cell? ⟨gb288, 8, none⟩ = some (.int .i64 a0_8) ∧ w'.cell? ⟨gb288, 9, none⟩ = some (.int .i64 a0_9) ∧ w'.cell? ⟨gb288, 10, none⟩ = some (.bool a0_10) ∧ w'.cell? ⟨gb288, 11, none⟩ = some (.string a0_11) ∧ w'.cell? ⟨gb288, 12, none⟩ = some (.slice A0_12 l0_12.length c0_12) ∧ w'.cell? ⟨gb288, 13, none⟩ = some (.string a0_13) ∧ w'.cell? ⟨gb288, 14, none⟩ = some (.bool a0_14) ∧ w'.cell? ⟨gb288, 15, none⟩ = some (.int .i64 a0_15) ∧ w'.cell? ⟨gb288, 16, none⟩ = some (.int .i64 a0_16)) (ds := []) (bm 11 0) (by kernel_rfl) rfl rfl ⟨(blk_cell BK288.out 0).trans rfl, (blk_cell BK288.out 1).trans rfl, (blk_cell BK288.out 2).trans rfl, (blk_cell BK288.out 3).trans rfl, (blk_cell BK288.out 4).trans rfl, (blk_cell BK288.out 5).trans rfl, (blk_cell BK288.out 6).trans rfl, (blk_cell BK288.out 7).trans rfl, (blk_cell BK288.out 8).trans rfl, (blk_cell BK288.out 9).trans rfl, (blk_cell BK288.out 10).trans rfl, (blk_cell BK288.out 11).trans rfl, (blk_cell BK288.out 12).trans rfl, (blk_cell BK288.out 13).trans rfl, (blk_cell BK288.out 14).trans rfl, (blk_cell BK288.out 15).trans rfl, (blk_cell BK288.out 16).trans rfl⟩ (fun hHeld => ?_); refine with_tabW icb_Room.tab1 icb_Room.bits1 (fun HT_ HW_ => ?_)
 generalize w4.drew = w5 at BK288 HB hHeld ⊢
 refine pure_ (i := 0) (N := some 3) (v := ?_) (a' := ?_) (bm 11 1) rfl rfl (any_of HT_.out (by kernel_rfl)) (fun _ _ _ h => h) (Or.inl ⟨by rfl, ?_⟩) ?_ ?_; rotate_left; (intro w'; go_simp; with_reducible rfl); rotate_left; (simp only [puts_]; rfl)
 refine pure_ (i := 5) (N := some 8) (v := ?_) (a' := ?_) (bm 11 33) rfl rfl (any_of HT_.out (by kernel_rfl)) (fun _ _ _ h => h) (Or.inl ⟨by rfl, ?_⟩) ?_ ?_; rotate_left; (intro w'; go_simp; with_reducible rfl); rotate_left; (simp only [puts_]; rfl)
 refine take_ (i := 1) (N := some 4) (v := ?_) (a' := ?_) (bm 11 35) rfl rfl (take_ofW HT_.out HW_.out (by kernel_rfl)) (fun _ _ _ h => h) (Or.inl ⟨by rfl, ?_⟩) hHeld ?_ ?_; rotate_left; (rintro w' ⟨s0, s1, s2, s3, s4, s5, s6, s7, s8, s9, s10, s11, s12, s13, s14, s15, s16⟩; go_simp; with_reducible rfl); rotate_left; (simp only [puts_]; rfl)
 refine take_ (i := 6) (N := some 9) (v := ?_) (a' := ?_) (bm 11 99) rfl rfl (take_ofW HT_.out HW_.out (by kernel_rfl)) (fun _ _ _ h => h) (Or.inl ⟨by rfl, ?_⟩) hHeld ?_ ?_; rotate_left; (rintro w' ⟨s0, s1, s2, s3, s4, s5, s6, s7, s8, s9, s10, s11, s12, s13, s14, s15, s16⟩; go_simp; with_reducible rfl); rotate_left; (simp only [puts_]; rfl)
 refine pure_ (i := 7) (N := some 10) (v := ?_) (a' := ?_) (bm 11 227) rfl rfl (any_of HT_.out (by kernel_rfl)) (fun _ _ _ h => h) (Or.inl ⟨by rfl, ?_⟩) ?_ ?_; rotate_left; (intro w'; go_simp; with_reducible rfl); rotate_left; (simp only [puts_]; rfl)
 refine one_ (i := 2) (N := some 5) (bm 11 231) rfl rfl (one_of HT_.out (by kernel_rfl)) (by decide) (fun K hK => ?_)
 refine goes_ Try.func24 (by kernel_rfl) rfl #[.bool a0_0] (by rfl) rfl rfl (by (try simp only [List.map_toArray, List.map_cons, List.map_nil]); first | done | rfl | (simp only [List.length_drop, List.length_take]; rfl)) ?_
 with_reducible refine (icb_forms.calls a0_0 t289 t290 _ A2.out).mono ?_
 rintro e w6 ⟨rfl, hb⟩
 refine ⟨_, rfl, ?_⟩
 have n0_ := Aside0.mk (blk_below (g := gb288) (o := .cells #[.bool a0_0, .int .i64 a0_1, .int .i64 a0_2, .int .i64 a0_3, .int .i64 a0_4, .int .i64 a0_5, .int .i64 a0_6, .int .i64 a0_7, .int .i64 a0_8, .int .i64 a0_9, .bool a0_10, .string a0_11, .slice A0_12 l0_12.length c0_12, .string a0_13, .bool a0_14, .int .i64 a0_15, .int .i64 a0_16] 31 (0, 0)) (by (with_reducible repeat (first | refine blk_drewN ?_ _ | refine blk_drew ?_ | refine blk_alloc ?_ _)); exact BK288.out) hb)
 have n1_ := Aside0.mk (below_step (by repeat (first | (with_reducible first | exact HB.out | apply below_alloc | apply pw_below_drewN | apply below_drew1 | refine below_set ?_ GE288.out) | exact HB.out)) hb)
 clear BK288
 clear HB
 have BK288 := n0_
 have HB := n1_
 clear n0_ n1_
 (try clear hb)
 (try clear hb2)
 (try clear hk)
 (try clear hi)
 refine hK.out _ _ ⟨(blk_cell BK288.out 0).trans rfl, (blk_cell BK288.out 1).trans rfl, (blk_cell BK288.out 2).trans rfl, (blk_cell BK288.out 3).trans rfl, (blk_cell BK288.out 4).trans rfl, (blk_cell BK288.out 5).trans rfl, (blk_cell BK288.out 6).trans rfl, (blk_cell BK288.out 7).trans rfl, (blk_cell BK288.out 8).trans rfl, (blk_cell BK288.out 9).trans rfl, (blk_cell BK288.out 10).trans rfl, (blk_cell BK288.out 11).trans rfl, (blk_cell BK288.out 12).trans rfl, (blk_cell BK288.out 13).trans rfl, (blk_cell BK288.out 14).trans rfl, (blk_cell BK288.out 15).trans rfl, (blk_cell BK288.out 16).trans rfl⟩ (fun hHeld => ?_)
 clear hK K
 refine norm_ (a' := ?_) ?_ ?_
 rotate_left
 ·show Act.put _ (some 5) _ = _
  simp only [puts_]
  rfl
 refine pure_ (i := 3) (N := some 6) (v := ?_) (a' := ?_) (bm 11 239) rfl rfl (any_of HT_.out (by kernel_rfl)) (fun _ _ _ h => h) (Or.inl ⟨by rfl, ?_⟩) ?_ ?_; rotate_left; (intro w'; go_simp; with_reducible rfl); rotate_left; (simp only [puts_]; rfl)
 refine pure_ (i := 4) (N := some 7) (v := ?_) (a' := ?_) (bm 11 255) rfl rfl (any_of HT_.out (by kernel_rfl)) (fun _ _ _ h => h) (Or.inl ⟨by rfl, ?_⟩) ?_ ?_; rotate_left; (intro w'; go_simp; with_reducible rfl); rotate_left; (simp only [puts_]; rfl)
 refine pure_ (i := 8) (N := some 11) (v := ?_) (a' := ?_) (bm 11 511) rfl rfl (any_of HT_.out (by kernel_rfl)) (fun _ _ _ h => h) (Or.inl ⟨by rfl, ?_⟩) ?_ ?_; rotate_left; (intro w'; go_simp; with_reducible rfl); rotate_left; (simp only [puts_]; rfl)
 refine pure_ (i := 9) (N := some 12) (v := ?_) (a' := ?_) (bm 11 1023) rfl rfl (any_of HT_.out (by kernel_rfl)) (fun _ _ _ h => h) (Or.inl ⟨by rfl, ?_⟩) ?_ ?_; rotate_left; (intro w'; go_simp; with_reducible rfl); rotate_left; (simp only [puts_]; rfl)
 refine pure_ (i := 10) (N := some 2) (v := ?_) (a' := ?_) (bm 11 2047) rfl rfl (any_of HT_.out (by kernel_rfl)) (fun _ _ _ h => h) (Or.inl ⟨by rfl, ?_⟩) ?_ ?_; rotate_left; (intro w'; go_simp; with_reducible rfl); rotate_left; (simp only [puts_]; rfl)
 refine done_ (done_of HT_.out (by kernel_rfl)) ?_
 try go_wp2
 go_ret
 exact ⟨by first | rfl | (simp [errW_none, errW_some] <;> rfl) | (simp only [← hji3]; first | rfl | (simp [errW_none, errW_some] <;> rfl)) | (simp [*, errW_none, errW_some] <;> rfl), by repeat (first | (with_reducible first | exact HB.out | apply below_alloc | apply pw_below_drewN | apply below_drew1 | refine below_set ?_ GE288.out) | exact HB.out)⟩

/-! ### masterdisclaw34_awake: function 8 -/
def awake_ok (p1 p2 m r1 r2 : Int) (v : Bool) (b : ByteArray) (b2 : Int) (dc : Int) : Bool := decide (p1 = 30852) && decide (p2 = 0) && decide (m = 420) && decide (r1 = 1872) && decide (r2 = 1832) && v && decide (b2 = 0) && decide ((b.size : Int) = 2048) && decide (bt b 0 = 5) && decide (bt b 1 = 1) && decide (bt b 27 = 5) && decide ((b.extract 176 179).toList = [97, 98, 99]) && decide (dc = 0)
def masterdisclaw34_awake.f (k : Nat) : Option Bool := (icb_Permissions.f k 420).bind fun pp => (icb_Encode.f k false 5 420 0 0 315532800 1 0 3 0 true (⟨#[97, 98, 99]⟩ : ByteArray) ([] : List (S69)) (⟨#[]⟩ : ByteArray) false 0 0 7).bind fun bb => (icb_Decode.f k bb.1 7).bind fun d => (icb_Mode.f k pp.1 pp.2).bind fun m => (icb_Room.f false 5 420 0 0 315532800 1 0 3 0 true (⟨#[97, 98, 99]⟩ : ByteArray) ([] : List (S69)) (⟨#[]⟩ : ByteArray) false 0 0).bind fun r1 => (icb_Room.f true 0 0 0 0 0 0 0 0 0 false (⟨#[]⟩ : ByteArray) ([] : List (S69)) (⟨#[]⟩ : ByteArray) false 0 0).bind fun r2 => (icb_Valid.f k false 5 420 0 0 315532800 1 0 3 0 true (⟨#[97, 98, 99]⟩ : ByteArray) ([] : List (S69)) (⟨#[]⟩ : ByteArray) false 0 0).bind fun v =>
 (masterdiscref34_Same.f k d.1 d.2.1 d.2.2.1 d.2.2.2.1 d.2.2.2.2.1 d.2.2.2.2.2.1 d.2.2.2.2.2.2.1 d.2.2.2.2.2.2.2.1 d.2.2.2.2.2.2.2.2.1 d.2.2.2.2.2.2.2.2.2.1 d.2.2.2.2.2.2.2.2.2.2.1 d.2.2.2.2.2.2.2.2.2.2.2.1 d.2.2.2.2.2.2.2.2.2.2.2.2.1 d.2.2.2.2.2.2.2.2.2.2.2.2.2.1 d.2.2.2.2.2.2.2.2.2.2.2.2.2.2.1 d.2.2.2.2.2.2.2.2.2.2.2.2.2.2.2.1 d.2.2.2.2.2.2.2.2.2.2.2.2.2.2.2.2.1 false 5 420 0 0 315532800 1 0 3 0 true (⟨#[97, 98, 99]⟩ : ByteArray) ([] : List (S69)) (⟨#[]⟩ : ByteArray) false 0 0).bind fun sm =>
 if sm = true ∧ awake_ok pp.1 pp.2 m r1 r2 v bb.1 bb.2 d.2.2.2.2.2.2.2.2.2.2.2.2.2.2.2.2.2 = true then some true else none
theorem masterdisclaw34_awake.mono : ∀ k, LeO (masterdisclaw34_awake.f k) (masterdisclaw34_awake.f (k + 1)) := by
 intro k
 unfold masterdisclaw34_awake.f
 repeat' first
  | (with_reducible exact icb_Permissions.mono _ _)
  | (with_reducible exact icb_Encode.mono _ _ _ _ _ _ _ _ _ _ _ _ _ _ _ _ _ _ _)
  | (with_reducible exact icb_Decode.mono _ _ _)
  | (with_reducible exact icb_Mode.mono _ _ _)
  | (with_reducible exact icb_Valid.mono _ _ _ _ _ _ _ _ _ _ _ _ _ _ _ _ _ _)
  | (with_reducible exact masterdiscref34_Same.mono _ _ _ _ _ _ _ _ _ _ _ _ _ _ _ _ _ _ _ _ _ _ _ _ _ _ _ _ _ _ _ _ _ _ _)
  | (with_reducible exact LeO.refl _)
  | (with_reducible exact LeO.none _)
  | (with_reducible refine LeO.ite ?_ ?_)
  | (with_reducible refine LeO.bind ?_ (fun _ => ?_))
theorem ungate {P : Program} {ops : Array Oper} {Q : Exit → Act → World → Prop} {o : Oper} {rest : List Oper} {a : Act} {W : World} {i : Nat} {b : Bool} (_hg : o.guard = some (i, b)) (hw : Region.wanted o (yielded ops a.tmps) = true) (h : wpList P ops Q ({ o with guard := none } :: rest) a W) : wpList P ops Q (o :: rest) a W := gate_guard hw h
set_option maxHeartbeats 16000000 in
set_option maxRecDepth 100000 in
theorem masterdisclaw34_awake.calls (k : Nat) (r : Bool) (w : World) (h : masterdisclaw34_awake.f k = some r) :
  Calls Try.prog 8 #[] w fun e w' => e = .returned (.bool r) ∧ Below w.heap.size w w' := by
 have hu31 := Try.underlying31
 have HB := Aside0.mk (Below.refl w.heap.size w)
 unfold masterdisclaw34_awake.f at h
 obtain ⟨⟨p1, p2⟩, x_, h⟩ := Option.bind_eq_some_iff.1 h
 have XP := Aside0.mk x_
 clear x_
 obtain ⟨⟨b, b2⟩, x_, h⟩ := Option.bind_eq_some_iff.1 h
 have XE := Aside0.mk x_
 clear x_
 obtain ⟨⟨d1, d2, d3, d4, d5, d6, d7, d8, d9, d10, d11, d12, d13, d14, d15, d16, d17, d18⟩, x_, h⟩ := Option.bind_eq_some_iff.1 h
 have XD := Aside0.mk x_
 clear x_
 obtain ⟨m, x_, h⟩ := Option.bind_eq_some_iff.1 h
 have XM := Aside0.mk x_
 clear x_
 obtain ⟨r1, x_, h⟩ := Option.bind_eq_some_iff.1 h
 have XR1 := Aside0.mk x_
 clear x_
 obtain ⟨r2, x_, h⟩ := Option.bind_eq_some_iff.1 h
 have XR2 := Aside0.mk x_
 clear x_
 obtain ⟨v, x_, h⟩ := Option.bind_eq_some_iff.1 h
 have XV := Aside0.mk x_
 clear x_
 obtain ⟨sm, x_, h⟩ := Option.bind_eq_some_iff.1 h
 have XS := Aside0.mk x_
 clear x_
 replace h : (if sm = true ∧ awake_ok p1 p2 m r1 r2 v b b2 d18 = true then some true else none) = some r := h
 by_cases hc : sm = true ∧ awake_ok p1 p2 m r1 r2 v b b2 d18 = true
 rotate_left
 ·rw [if_neg hc] at h; cases h
 rw [if_pos hc] at h
 obtain rfl := Option.some.inj h
 obtain ⟨rfl, hk⟩ := hc
 clear h
 unfold awake_ok at hk
 simp only [Bool.and_eq_true, decide_eq_true_eq] at hk
 obtain ⟨⟨⟨⟨⟨⟨⟨⟨⟨⟨⟨⟨rfl, rfl⟩, rfl⟩, rfl⟩, rfl⟩, rfl⟩, rfl⟩, hsz⟩, hb0⟩, hb1⟩, hb27⟩, hex⟩, rfl⟩ := hk
 have hz : b.size = 2048 := by omega
 have e1 : ((b.size : Int) == 2048) = true := beq_iff_eq.mpr hsz
 have q0 : ((0 : Int) < (b.size : Int)) = True := eq_true (by omega)
 have q1 : ((1 : Int) < (b.size : Int)) = True := eq_true (by omega)
 have q27 : ((27 : Int) < (b.size : Int)) = True := eq_true (by omega)
 have q179 : ((179 : Int) ≤ (b.size : Int)) = True := eq_true (by omega)
 have p0_ : 0 < b.size := by omega
 have c0 : ((b[0]'p0_).toNat : Int) = 5 := (bt_at b 0 (by show 0 < b.size; exact p0_)).trans hb0
 have p1_ : 1 < b.size := by omega
 have c1 : ((b[1]'p1_).toNat : Int) = 1 := (bt_at b 1 (by show 1 < b.size; exact p1_)).trans hb1
 have p27_ : 27 < b.size := by omega
 have c27 : ((b[27]'p27_).toNat : Int) = 5 := (bt_at b 27 (by show 27 < b.size; exact p27_)).trans hb27
 have e2 : ((b.extract 176 179).toList == [97, 98, 99]) = true := beq_iff_eq.mpr hex
 clear hz hsz hb0 hb1 hb27 hex
 go_enter Try.func8, Try.ntmps8
 go_wp2_with fail
 with_reducible refine (icb_Permissions.calls k 420 30852 0 _ XP.out).mono ?_
 rintro e w1 ⟨rfl, hd⟩
 have HB1 := Aside0.mk (below_step HB.out (by first | exact hd | exact hd.below | (obtain ⟨m_, rfl⟩ := hd; exact pw_below_drewN (Below.refl _ _) m_)))
 clear HB hd
 go_upto_region 3 with (first | ((with_reducible refine gate_dst (N := 3) rfl ?_); refine box_event ?hg (N := 3) ?hd (cs := #[.bool false, .int .i64 0, .int .i64 0, .int .i64 0, .int .i64 0, .int .i64 0, .int .i64 0, .int .i64 0, .int .i64 0, .int .i64 0, .bool false, .string (⟨#[]⟩ : ByteArray), .slice none 0 0, .string (⟨#[]⟩ : ByteArray), .bool false, .int .i64 0, .int .i64 0]) (t := 31) ?hr ?_; (case hd => rfl); (case hg => rfl); (case hr => first | (go_simp; done) | (go_simp; rfl)); intro g3 hg w2 hbox hb; have HB2 := Aside0.mk (below_step HB1.out hb); have BZ := Aside0.mk hbox; have G3 := Aside0.mk (show w.heap.size ≤ g3 by rw [hg]; exact HB1.out.size); clear HB1 hb hbox hg) | ((with_reducible refine gate_store rfl ?_); refine wpList_store_row (by rfl) _ _ _ (by rfl) g3 #[.bool false, .int .i64 5, .int .i64 420, .int .i64 0, .int .i64 0, .int .i64 315532800, .int .i64 1, .int .i64 0, .int .i64 3, .int .i64 0, .bool true, .string (⟨#[97, 98, 99]⟩ : ByteArray), .slice none 0 0, .string (⟨#[]⟩ : ByteArray), .bool false, .int .i64 0, .int .i64 0] (by rfl) (by rfl) _ _ BZ.out (by kernel_rfl) (by rfl) (one_C _ _ _ _ _ _ _ _ _ _ _ _ _ _ _ _ _ rfl) ?_))
 (try simp only [put4_])
 have B3 := Aside0.mk (setRow_heap w2 g3 _ #[.bool false, .int .i64 5, .int .i64 420, .int .i64 0, .int .i64 0, .int .i64 315532800, .int .i64 1, .int .i64 0, .int .i64 3, .int .i64 0, .bool true, .string (⟨#[97, 98, 99]⟩ : ByteArray), .slice none 0 0, .string (⟨#[]⟩ : ByteArray), .bool false, .int .i64 0, .int .i64 0] _ _ BZ.out)
 have HB3 := Aside0.mk (below_setRow HB2.out G3.out #[.bool false, .int .i64 5, .int .i64 420, .int .i64 0, .int .i64 0, .int .i64 315532800, .int .i64 1, .int .i64 0, .int .i64 3, .int .i64 0, .bool true, .string (⟨#[97, 98, 99]⟩ : ByteArray), .slice none 0 0, .string (⟨#[]⟩ : ByteArray), .bool false, .int .i64 0, .int .i64 0])
 clear BZ HB2
 generalize w2.setRow g3 #[.bool false, .int .i64 5, .int .i64 420, .int .i64 0, .int .i64 0, .int .i64 315532800, .int .i64 1, .int .i64 0, .int .i64 3, .int .i64 0, .bool true, .string (⟨#[97, 98, 99]⟩ : ByteArray), .slice none 0 0, .string (⟨#[]⟩ : ByteArray), .bool false, .int .i64 0, .int .i64 0] = w3 at B3 HB3 ⊢
 go_wp2_with (first | ((with_reducible refine gate_dst (N := 14) rfl ?_); ((try (refine gate_guard (by rfl) ?_; dsimp only)); refine load_box rfl 31 _ rfl g3 rfl #[.bool false, .int .i64 5, .int .i64 420, .int .i64 0, .int .i64 0, .int .i64 315532800, .int .i64 1, .int .i64 0, .int .i64 3, .int .i64 0, .bool true, .string (⟨#[97, 98, 99]⟩ : ByteArray), .slice none 0 0, .string (⟨#[]⟩ : ByteArray), .bool false, .int .i64 0, .int .i64 0] _ B3.out Try.underlying31 rfl (by kernel_rfl) ?_)))
 refine (icb_Encode.calls k false 5 420 0 0 315532800 1 0 3 0 true (⟨#[97, 98, 99]⟩ : ByteArray) none 0 ([] : List (S69)) (⟨#[]⟩ : ByteArray) false 0 0 7 b 0 _ (Kd.C_nil _ _) (Nat.le_refl _) XE.out).mono ?_
 rintro e w4 ⟨rfl, hb⟩
 have HB4 := Aside0.mk (below_step HB3.out hb)
 replace B3 := Aside0.mk (blk_below B3.out hb)
 clear hb HB3
 go_wp2_with fail
 refine (icb_Decode.calls k b 7 d1 d2 d3 d4 d5 d6 d7 d8 d9 d10 d11 d12 d13 d14 d15 d16 d17 0 _ XD.out).mono ?_
 rintro e w5 ⟨sv, rfl, ho, hb⟩
 have HB5 := Aside0.mk (below_step HB4.out hb)
 replace B3 := Aside0.mk (blk_below B3.out hb)
 have HO := Aside0.mk (Kd.R_lower ho HB4.out.size)
 clear ho hb HB4
 obtain ⟨DA, DC, rfl, hc, hC⟩ := Kd.R_reads HO.out
 have HC := Aside0.mk hc
 have HCC := Aside0.mk hC
 clear hc hC
 go_wp2_with (first | ((with_reducible refine gate_dst (N := 6) rfl ?_); refine box_event ?hg (N := 6) ?hd (cs := #[.bool false, .int .i64 0, .int .i64 0, .int .i64 0, .int .i64 0, .int .i64 0, .int .i64 0, .int .i64 0, .int .i64 0, .int .i64 0, .bool false, .string (⟨#[]⟩ : ByteArray), .slice none 0 0, .string (⟨#[]⟩ : ByteArray), .bool false, .int .i64 0, .int .i64 0]) (t := 31) ?hr ?_; (case hd => rfl); (case hg => rfl); (case hr => first | (go_simp; done) | (go_simp; rfl)); intro g6 hg w6 hbox hb; have HB6 := Aside0.mk (below_step HB5.out hb); have BZ := Aside0.mk hbox; have G6 := Aside0.mk (show w.heap.size ≤ g6 by rw [hg]; exact HB5.out.size); have N36 := Aside0.mk (show g3 ≠ g6 by have := blk_lt B3.out; omega); replace B3 := Aside0.mk (blk_below B3.out hb); replace HO := Aside0.mk (Kd.R_below HO.out hb); clear HB5 hb hbox hg) | ((with_reducible refine gate_store rfl ?_); refine wpList_store_row (by rfl) _ _ _ (by rfl) g6 #[.bool d1, .int .i64 d2, .int .i64 d3, .int .i64 d4, .int .i64 d5, .int .i64 d6, .int .i64 d7, .int .i64 d8, .int .i64 d9, .int .i64 d10, .bool d11, .string d12, .slice DA d13.length DC, .string d14, .bool d15, .int .i64 d16, .int .i64 d17] (by rfl) (by rfl) _ _ BZ.out (by kernel_rfl) (by rfl) (one_C _ _ _ _ _ _ _ _ _ _ _ _ _ _ _ _ _ rfl) ?_; have B6 := Aside0.mk (setRow_heap w6 g6 _ #[.bool d1, .int .i64 d2, .int .i64 d3, .int .i64 d4, .int .i64 d5, .int .i64 d6, .int .i64 d7, .int .i64 d8, .int .i64 d9, .int .i64 d10, .bool d11, .string d12, .slice DA d13.length DC, .string d14, .bool d15, .int .i64 d16, .int .i64 d17] _ _ BZ.out); have HB7 := Aside0.mk (below_setRow HB6.out G6.out #[.bool d1, .int .i64 d2, .int .i64 d3, .int .i64 d4, .int .i64 d5, .int .i64 d6, .int .i64 d7, .int .i64 d8, .int .i64 d9, .int .i64 d10, .bool d11, .string d12, .slice DA d13.length DC, .string d14, .bool d15, .int .i64 d16, .int .i64 d17]); replace B3 := Aside0.mk ((setRow_other w6 g6 g3 #[.bool d1, .int .i64 d2, .int .i64 d3, .int .i64 d4, .int .i64 d5, .int .i64 d6, .int .i64 d7, .int .i64 d8, .int .i64 d9, .int .i64 d10, .bool d11, .string d12, .slice DA d13.length DC, .string d14, .bool d15, .int .i64 d16, .int .i64 d17] N36.out).trans B3.out); have HR := Aside0.mk (Kd.R_step (w1 := w6.setRow g6 #[.bool d1, .int .i64 d2, .int .i64 d3, .int .i64 d4, .int .i64 d5, .int .i64 d6, .int .i64 d7, .int .i64 d8, .int .i64 d9, .int .i64 d10, .bool d11, .string d12, .slice DA d13.length DC, .string d14, .bool d15, .int .i64 d16, .int .i64 d17]) (Kd.R_types HO.out BZ.out (by decide)) (fun k_ hk _ => setRow_other _ _ _ _ hk.2)); clear BZ HB6 HO HC HCC; generalize w6.setRow g6 #[.bool d1, .int .i64 d2, .int .i64 d3, .int .i64 d4, .int .i64 d5, .int .i64 d6, .int .i64 d7, .int .i64 d8, .int .i64 d9, .int .i64 d10, .bool d11, .string d12, .slice DA d13.length DC, .string d14, .bool d15, .int .i64 d16, .int .i64 d17] = w7 at B6 HB7 B3 HR ⊢))
 rename_i K1 hK1
 with_reducible refine (icb_Mode.calls k 30852 0 420 _ XM.out).mono ?_
 rintro e w8 ⟨rfl, hb0⟩
 have hb : Below w7.heap.size w7 w8 := by first | exact hb0 | exact hb0.below | (obtain ⟨m_, rfl⟩ := hb0; exact pw_below_drewN (Below.refl _ _) m_)
 have HB8 := Aside0.mk (below_step HB7.out hb)
 replace B3 := Aside0.mk (blk_below B3.out hb)
 replace B6 := Aside0.mk (blk_below B6.out hb)
 replace HR := Aside0.mk (Kd.R_below HR.out hb)
 clear hb hb0 HB7
 refine hK1 _ _ ?_
 clear hK1 K1
 (try simp only [List.tail_cons, List.drop_succ_cons, List.drop_zero])
 (try simp only [put4_])
 iterate 3 ((refine gate_guard (by rfl) ?_); (try dsimp only); (refine wpList_plain rfl (fun K hK => ?_)); go_simp; (refine hK _ _ ?_); clear hK K; (try simp only [put4_]))
 refine gate_guard (by rfl) ?_
 (try dsimp only)
 refine load_box rfl 31 _ rfl g3 rfl #[.bool false, .int .i64 5, .int .i64 420, .int .i64 0, .int .i64 0, .int .i64 315532800, .int .i64 1, .int .i64 0, .int .i64 3, .int .i64 0, .bool true, .string (⟨#[97, 98, 99]⟩ : ByteArray), .slice none 0 0, .string (⟨#[]⟩ : ByteArray), .bool false, .int .i64 0, .int .i64 0] _ B3.out Try.underlying31 rfl (by kernel_rfl) ?_
 (try simp only [put4_])
 refine gate_guard (by rfl) ?_
 (try dsimp only)
 refine goesL_ (some 37) rfl rfl Try.func18 (by kernel_rfl) rfl #[.agg #[.bool false, .int .i64 5, .int .i64 420, .int .i64 0, .int .i64 0, .int .i64 315532800, .int .i64 1, .int .i64 0, .int .i64 3, .int .i64 0, .bool true, .string (⟨#[97, 98, 99]⟩ : ByteArray), .slice none 0 0, .string (⟨#[]⟩ : ByteArray), .bool false, .int .i64 0, .int .i64 0]] rfl (by first | rfl | (simp only [List.map_toArray, List.map_cons, List.map_nil]; rfl)) ?_
 refine (icb_Room.calls false 5 420 0 0 315532800 1 0 3 0 true (⟨#[97, 98, 99]⟩ : ByteArray) none 0 ([] : List (S69)) (⟨#[]⟩ : ByteArray) false 0 0 1872 _ (Kd.C_nil _ _) (Nat.le_refl _) XR1.out).mono ?_
 rintro e w9 ⟨rfl, hb0⟩
 have hb : Below w8.heap.size w8 w9 := by first | exact hb0 | exact hb0.below | (obtain ⟨m_, rfl⟩ := hb0; exact pw_below_drewN (Below.refl _ _) m_)
 have HB9 := Aside0.mk (below_step HB8.out hb)
 replace B3 := Aside0.mk (blk_below B3.out hb)
 replace B6 := Aside0.mk (blk_below B6.out hb)
 replace HR := Aside0.mk (Kd.R_below HR.out hb)
 clear hb hb0 HB8
 refine ⟨_, rfl, ?_⟩
 (try simp only [put4_])
 iterate 4 ((refine gate_guard (by rfl) ?_); (try dsimp only); (refine wpList_plain rfl (fun K hK => ?_)); go_simp; (refine hK _ _ ?_); clear hK K; (try simp only [put4_]))
 refine gate_guard (by rfl) ?_
 (try dsimp only)
 refine goesL_ (some 42) rfl rfl Try.func18 (by kernel_rfl) rfl #[.agg #[.bool true, .int .i64 0, .int .i64 0, .int .i64 0, .int .i64 0, .int .i64 0, .int .i64 0, .int .i64 0, .int .i64 0, .int .i64 0, .bool false, .string (⟨#[]⟩ : ByteArray), .slice none 0 0, .string (⟨#[]⟩ : ByteArray), .bool false, .int .i64 0, .int .i64 0]] rfl (by first | rfl | (simp only [List.map_toArray, List.map_cons, List.map_nil]; rfl)) ?_
 refine (icb_Room.calls true 0 0 0 0 0 0 0 0 0 false (⟨#[]⟩ : ByteArray) none 0 ([] : List (S69)) (⟨#[]⟩ : ByteArray) false 0 0 1832 _ (Kd.C_nil _ _) (Nat.le_refl _) XR2.out).mono ?_
 rintro e w10 ⟨rfl, hb0⟩
 have hb : Below w9.heap.size w9 w10 := by first | exact hb0 | exact hb0.below | (obtain ⟨m_, rfl⟩ := hb0; exact pw_below_drewN (Below.refl _ _) m_)
 have HB10 := Aside0.mk (below_step HB9.out hb)
 replace B3 := Aside0.mk (blk_below B3.out hb)
 replace B6 := Aside0.mk (blk_below B6.out hb)
 replace HR := Aside0.mk (Kd.R_below HR.out hb)
 clear hb hb0 HB9
 refine ⟨_, rfl, ?_⟩
 (try simp only [put4_])
 iterate 3 ((refine gate_guard (by rfl) ?_); (try dsimp only); (refine wpList_plain rfl (fun K hK => ?_)); go_simp; (refine hK _ _ ?_); clear hK K; (try simp only [put4_]))
 refine gate_guard (by rfl) ?_
 (try dsimp only)
 refine load_box rfl 31 _ rfl g3 rfl #[.bool false, .int .i64 5, .int .i64 420, .int .i64 0, .int .i64 0, .int .i64 315532800, .int .i64 1, .int .i64 0, .int .i64 3, .int .i64 0, .bool true, .string (⟨#[97, 98, 99]⟩ : ByteArray), .slice none 0 0, .string (⟨#[]⟩ : ByteArray), .bool false, .int .i64 0, .int .i64 0] _ B3.out Try.underlying31 rfl (by kernel_rfl) ?_
 (try simp only [put4_])
 refine gate_guard (by rfl) ?_
 (try dsimp only)
 refine goesL_ (some 47) rfl rfl Try.func17 (by kernel_rfl) rfl #[.agg #[.bool false, .int .i64 5, .int .i64 420, .int .i64 0, .int .i64 0, .int .i64 315532800, .int .i64 1, .int .i64 0, .int .i64 3, .int .i64 0, .bool true, .string (⟨#[97, 98, 99]⟩ : ByteArray), .slice none 0 0, .string (⟨#[]⟩ : ByteArray), .bool false, .int .i64 0, .int .i64 0]] rfl (by first | rfl | (simp only [List.map_toArray, List.map_cons, List.map_nil]; rfl)) ?_
 refine (icb_Valid.calls k false 5 420 0 0 315532800 1 0 3 0 true (⟨#[97, 98, 99]⟩ : ByteArray) none 0 ([] : List (S69)) (⟨#[]⟩ : ByteArray) false 0 0 true _ (Kd.C_nil _ _) (Nat.le_refl _) XV.out).mono ?_
 rintro e w11 ⟨rfl, hb0⟩
 have hb : Below w10.heap.size w10 w11 := by first | exact hb0 | exact hb0.below | (obtain ⟨m_, rfl⟩ := hb0; exact pw_below_drewN (Below.refl _ _) m_)
 have HB11 := Aside0.mk (below_step HB10.out hb)
 replace B3 := Aside0.mk (blk_below B3.out hb)
 replace B6 := Aside0.mk (blk_below B6.out hb)
 replace HR := Aside0.mk (Kd.R_below HR.out hb)
 clear hb hb0 HB10
 refine ⟨_, rfl, ?_⟩
 (try simp only [put4_])
 iterate 35 ((refine gate_guard (by rfl) ?_); (try dsimp only); (refine wpList_plain rfl (fun K hK => ?_)); go_simp; (refine hK _ _ ?_); clear hK K; (try simp only [put4_]))
 refine gate_guard (by rfl) ?_
 (try dsimp only)
 refine load_box rfl 31 _ rfl g6 rfl #[.bool d1, .int .i64 d2, .int .i64 d3, .int .i64 d4, .int .i64 d5, .int .i64 d6, .int .i64 d7, .int .i64 d8, .int .i64 d9, .int .i64 d10, .bool d11, .string d12, .slice DA d13.length DC, .string d14, .bool d15, .int .i64 d16, .int .i64 d17] _ B6.out Try.underlying31 rfl (by kernel_rfl) ?_
 (try simp only [put4_])
 refine gate_guard (by rfl) ?_
 (try dsimp only)
 refine load_box rfl 31 _ rfl g3 rfl #[.bool false, .int .i64 5, .int .i64 420, .int .i64 0, .int .i64 0, .int .i64 315532800, .int .i64 1, .int .i64 0, .int .i64 3, .int .i64 0, .bool true, .string (⟨#[97, 98, 99]⟩ : ByteArray), .slice none 0 0, .string (⟨#[]⟩ : ByteArray), .bool false, .int .i64 0, .int .i64 0] _ B3.out Try.underlying31 rfl (by kernel_rfl) ?_
 (try simp only [put4_])
 refine gate_guard (by rfl) ?_
 (try dsimp only)
 refine goesL_ (some 85) rfl rfl Try.func16 (by kernel_rfl) rfl #[.agg #[.bool d1, .int .i64 d2, .int .i64 d3, .int .i64 d4, .int .i64 d5, .int .i64 d6, .int .i64 d7, .int .i64 d8, .int .i64 d9, .int .i64 d10, .bool d11, .string d12, .slice DA d13.length DC, .string d14, .bool d15, .int .i64 d16, .int .i64 d17], .agg #[.bool false, .int .i64 5, .int .i64 420, .int .i64 0, .int .i64 0, .int .i64 315532800, .int .i64 1, .int .i64 0, .int .i64 3, .int .i64 0, .bool true, .string (⟨#[97, 98, 99]⟩ : ByteArray), .slice none 0 0, .string (⟨#[]⟩ : ByteArray), .bool false, .int .i64 0, .int .i64 0]] rfl (by first | rfl | (simp only [List.map_toArray, List.map_cons, List.map_nil]; rfl)) ?_
 refine (masterdiscref34_Same.calls k d1 d2 d3 d4 d5 d6 d7 d8 d9 d10 d11 d12 DA DC d13 d14 d15 d16 d17 false 5 420 0 0 315532800 1 0 3 0 true (⟨#[97, 98, 99]⟩ : ByteArray) none 0 ([] : List (S69)) (⟨#[]⟩ : ByteArray) false 0 0 true _ (Kd.R_reads' HR.out).2.2 (Kd.R_reads' HR.out).2.1 (Kd.C_nil _ _) (Nat.le_refl _) XS.out).mono ?_
 rintro e w12 ⟨rfl, hb0⟩
 have hb : Below w11.heap.size w11 w12 := by first | exact hb0 | exact hb0.below | (obtain ⟨m_, rfl⟩ := hb0; exact pw_below_drewN (Below.refl _ _) m_)
 have HB12 := Aside0.mk (below_step HB11.out hb)
 replace B3 := Aside0.mk (blk_below B3.out hb)
 replace B6 := Aside0.mk (blk_below B6.out hb)
 replace HR := Aside0.mk (Kd.R_below HR.out hb)
 clear hb hb0 HB11
 refine ⟨_, rfl, ?_⟩
 (try simp only [put4_])
 go_wp2
 go_ret
 exact ⟨rfl, HB12.out⟩

/-! ### masterdiscref34_bits: function 21 -/
def masterdiscref34_bits.f (a0 : Int) : Option (Int) := if (Int.tmod (wrap64 (Int.tdiv a0 2)) 2) = 1 then (some (wrap64 (a0 + 24))) else (some a0)
set_option maxHeartbeats 8000000 in
set_option maxRecDepth 100000 in
theorem masterdiscref34_bits.calls (a0 : Int) (r : Int) (w : World) (h : masterdiscref34_bits.f a0 = some r) :
  Calls Try.prog 21 #[.int .i64 a0] w fun e w' => e = .returned (.int .i64 r) ∧ Drawn0 w w' := by
 have H : (if (Int.tmod (wrap64 (Int.tdiv a0 2)) 2) = 1 then (some (wrap64 (a0 + 24))) else (some a0)) = some r := h
 clear h
 by_cases c2 : (Int.tmod (wrap64 (Int.tdiv a0 2)) 2) = 1
 ·rw [if_pos c2] at H
  have c2b0 : ((Int.tmod (wrap64 (Int.tdiv a0 2)) 2) == 1) = true := beq_iff_eq.mpr c2
  have c2b1 : ((Int.tmod (wrap64 (Int.tdiv a0 2)) 2) != 1) = false := bne_eq_false_iff_eq.mpr c2
  clear c2
  obtain rfl := Option.some.inj H
  go_enter Try.func21, Try.ntmps21
  go_wp2
  go_ret
  exact ⟨by first | rfl | (simp; done) | (simp [*]; done), by repeat (first | exact Drawn0.refl _ | apply Drawn0.step)⟩
 ·rw [if_neg c2] at H
  have c2b0 : ((Int.tmod (wrap64 (Int.tdiv a0 2)) 2) == 1) = false := beq_eq_false_iff_ne.mpr c2
  have c2b1 : ((Int.tmod (wrap64 (Int.tdiv a0 2)) 2) != 1) = true := bne_iff_ne.mpr c2
  obtain rfl := Option.some.inj H
  go_enter Try.func21, Try.ntmps21
  go_wp2
  go_ret
  exact ⟨by first | rfl | (simp; done) | (simp [*]; done), by repeat (first | exact Drawn0.refl _ | apply Drawn0.step)⟩

/-! ### masterdiscref34_Permissions: function 10 -/
mutual
def masterdiscref34_Permissions.j0 : Nat → Int → Bool → Option (Int × Int)
 | 0, _, _ => none
 | k + 1, x0, x11 => if x11 = true then (some (0, 0)) else ((masterdiscref34_bits.f (Int.tmod x0 8)).bind fun t291 => ((masterdiscref34_bits.f (Int.tmod (wrap64 (Int.tdiv x0 8)) 8)).bind fun t292 => ((masterdiscref34_bits.f (Int.tmod (wrap64 (Int.tdiv x0 64)) 8)).bind fun t293 => (if (Int.tmod (wrap64 (Int.tdiv x0 2048)) 2) = 1 then (masterdiscref34_Permissions.j1 k x0 (wrap64 ((wrap64 (t291 + (wrap64 (32 * t292)))) + (wrap64 (1024 * t293)))) (0 + 64)) else (masterdiscref34_Permissions.j1 k x0 (wrap64 ((wrap64 (t291 + (wrap64 (32 * t292)))) + (wrap64 (1024 * t293)))) 0)))))
def masterdiscref34_Permissions.j1 : Nat → Int → Int → Int → Option (Int × Int)
 | 0, _, _, _ => none
 | k + 1, x0, x4, x5 => if (Int.tmod (wrap64 (Int.tdiv x0 1024)) 2) = 1 then (if (Int.tmod (wrap64 (Int.tdiv x0 512)) 2) = 1 then (some (x4, wrap64 ((wrap64 (x5 + 128)) + 256))) else (some (x4, wrap64 (x5 + 128)))) else (if (Int.tmod (wrap64 (Int.tdiv x0 512)) 2) = 1 then (some (x4, wrap64 (x5 + 256))) else (some (x4, x5)))
end
def masterdiscref34_Permissions.f (k : Nat) (a0 : Int) : Option (Int × Int) := if a0 < 0 then (masterdiscref34_Permissions.j0 k a0 true) else (masterdiscref34_Permissions.j0 k a0 (decide (a0 > 4095)))
theorem masterdiscref34_Permissions.mono_l : ∀ k, (∀ y0 y1, LeO (masterdiscref34_Permissions.j0 k y0 y1) (masterdiscref34_Permissions.j0 (k + 1) y0 y1)) ∧ (∀ y0 y1 y2, LeO (masterdiscref34_Permissions.j1 k y0 y1 y2) (masterdiscref34_Permissions.j1 (k + 1) y0 y1 y2))
 | 0 => ⟨fun _ _ r h => by simp [masterdiscref34_Permissions.j0] at h, fun _ _ _ r h => by simp [masterdiscref34_Permissions.j1] at h⟩
 | k + 1 => by
  obtain ⟨ih0, ih1⟩ := masterdiscref34_Permissions.mono_l k
  refine ⟨?_, ?_⟩
  ·intro y0 y1
   unfold masterdiscref34_Permissions.j0
   repeat' first
   | (with_reducible exact ih0 _ _)
   | (with_reducible exact ih1 _ _ _)
   | (with_reducible exact LeO.refl _)
   | (with_reducible exact LeO.none _)
   | (with_reducible refine LeO.ite ?_ ?_)
   | (with_reducible refine LeO.bind ?_ (fun _ => ?_))
   | exact ih0 _ _
   | exact ih1 _ _ _
   | exact LeO.none _
   | refine LeO.ite ?_ ?_
   | refine LeO.bind ?_ (fun _ => ?_)
  ·intro y0 y1 y2
   unfold masterdiscref34_Permissions.j1
   repeat' first
   | (with_reducible exact ih0 _ _)
   | (with_reducible exact ih1 _ _ _)
   | (with_reducible exact LeO.refl _)
   | (with_reducible exact LeO.none _)
   | (with_reducible refine LeO.ite ?_ ?_)
   | (with_reducible refine LeO.bind ?_ (fun _ => ?_))
   | exact ih0 _ _
   | exact ih1 _ _ _
   | exact LeO.none _
   | refine LeO.ite ?_ ?_
   | refine LeO.bind ?_ (fun _ => ?_)
theorem masterdiscref34_Permissions.mono : ∀ a0 k, LeO (masterdiscref34_Permissions.f k a0) (masterdiscref34_Permissions.f (k + 1) a0) := by
 intro a0 k
 obtain ⟨ih0, ih1⟩ := masterdiscref34_Permissions.mono_l k
 unfold masterdiscref34_Permissions.f
 repeat' first
   | (with_reducible exact ih0 _ _)
   | (with_reducible exact ih1 _ _ _)
   | (with_reducible exact LeO.refl _)
   | (with_reducible exact LeO.none _)
   | (with_reducible refine LeO.ite ?_ ?_)
   | (with_reducible refine LeO.bind ?_ (fun _ => ?_))
   | exact ih0 _ _
   | exact ih1 _ _ _
   | exact LeO.none _
   | refine LeO.ite ?_ ?_
   | refine LeO.bind ?_ (fun _ => ?_)
set_option maxHeartbeats 8000000 in
set_option maxRecDepth 100000 in
theorem masterdiscref34_Permissions.calls (k : Nat) (a0 : Int) (r1 : Int) (r2 : Int) (w : World) (h : masterdiscref34_Permissions.f k a0 = some (r1, r2)) :
  Calls Try.prog 10 #[.int .i64 a0] w fun e w' => e = .returned (.tuple #[.int .i64 r1, .int .i64 r2]) ∧ Drawn0 w w' := by
 have H : (if a0 < 0 then (masterdiscref34_Permissions.j0 k a0 true) else (masterdiscref34_Permissions.j0 k a0 (decide (a0 > 4095)))) = some (r1, r2) := h
 clear h
 have HC2 := Aside0.mk H
 clear H
 go_enter Try.func10, Try.ntmps10
 go_upto_region 1 with (fail)
 go_cut [11] (fun v11 wc => ∃ (kq : Nat) (x11_1 : Bool), v11 = .bool x11_1 ∧ Aside0 (masterdiscref34_Permissions.j0 kq a0 x11_1 = some (r1, r2)) ∧ Aside0 (kq ≤ k) ∧ Drawn0 w wc)
 case first =>
  have H := HC2.out
  clear HC2
  by_cases c3 : a0 < 0
  ·rw [if_pos c3] at H
   have c3b0 : decide (a0 < 0) = true := decide_eq_true c3
   clear c3
   (first | rw [c3b0] | (simp only [i64_w, i32_w]; rw [c3b0]) | skip)
   have H' := Aside0.mk H
   clear H
   go_wp2
   go_meet
   case rel => exact ⟨_, (true), (by first | rfl | (simp; done) | (simp [*]; done)), H', ⟨by first | omega | exact Nat.le_refl _⟩, by repeat (first | exact Drawn0.refl _ | apply Drawn0.step)⟩
  ·rw [if_neg c3] at H
   have c3b0 : decide (a0 < 0) = false := decide_eq_false c3
   clear c3
   (first | rw [c3b0] | (simp only [i64_w, i32_w]; rw [c3b0]) | skip)
   have H' := Aside0.mk H
   clear H
   go_wp2
   go_meet
   case rel => exact ⟨_, (decide (a0 > 4095)), (by first | rfl | (simp; done) | (simp [*]; done)), H', ⟨by first | omega | exact Nat.le_refl _⟩, by repeat (first | exact Drawn0.refl _ | apply Drawn0.step)⟩
 case rest =>
  clear HC2
  try clear c1
  try clear p2
  try clear c3
  try clear c3b0
  obtain ⟨kq, x11_1, rfl, HA, HJ1, ⟨mc1, rfl⟩⟩ := hcut
  cases kq with
  | zero => exact absurd HA.out (by simp [masterdiscref34_Permissions.j0])
  | succ kj1 =>
   have H := HA.out
   clear HA
   simp only [masterdiscref34_Permissions.j0] at H
   by_cases c4 : x11_1 = true
   ·subst c4
    have H1 : (some (0, 0)) = some (r1, r2) := by rw [if_pos rfl] at H; exact H
    clear H
    have H := H1
    clear H1
    simp only [Option.some.injEq, Prod.mk.injEq] at H
    obtain ⟨rfl, rfl⟩ := H
    go_wp2
    go_ret2
    exact ⟨by first | rfl | (simp; done) | (simp [*]; done), by repeat (first | exact Drawn0.refl _ | apply Drawn0.step)⟩
   ·replace c4 := Bool.eq_false_iff.mpr c4
    subst c4
    have H1 : ((masterdiscref34_bits.f (Int.tmod a0 8)).bind fun t291 => ((masterdiscref34_bits.f (Int.tmod (wrap64 (Int.tdiv a0 8)) 8)).bind fun t292 => ((masterdiscref34_bits.f (Int.tmod (wrap64 (Int.tdiv a0 64)) 8)).bind fun t293 => (if (Int.tmod (wrap64 (Int.tdiv a0 2048)) 2) = 1 then (masterdiscref34_Permissions.j1 kj1 a0 (wrap64 ((wrap64 (t291 + (wrap64 (32 * t292)))) + (wrap64 (1024 * t293)))) (0 + 64)) else (masterdiscref34_Permissions.j1 kj1 a0 (wrap64 ((wrap64 (t291 + (wrap64 (32 * t292)))) + (wrap64 (1024 * t293)))) 0))))) = some (r1, r2) := by rw [if_neg (show ¬ (false = true) by decide)] at H; exact H
    clear H
    have H := H1
    clear H1
    replace H := Option.bind_eq_some_iff.mp H
    obtain ⟨t291, A50, H⟩ := H
    replace H : ((masterdiscref34_bits.f (Int.tmod (wrap64 (Int.tdiv a0 8)) 8)).bind fun t292 => ((masterdiscref34_bits.f (Int.tmod (wrap64 (Int.tdiv a0 64)) 8)).bind fun t293 => (if (Int.tmod (wrap64 (Int.tdiv a0 2048)) 2) = 1 then (masterdiscref34_Permissions.j1 kj1 a0 (wrap64 ((wrap64 (t291 + (wrap64 (32 * t292)))) + (wrap64 (1024 * t293)))) (0 + 64)) else (masterdiscref34_Permissions.j1 kj1 a0 (wrap64 ((wrap64 (t291 + (wrap64 (32 * t292)))) + (wrap64 (1024 * t293)))) 0)))) = some (r1, r2) := H
    have A5 := Aside0.mk A50
    clear A50
    replace H := Option.bind_eq_some_iff.mp H
    obtain ⟨t292, A60, H⟩ := H
    replace H : ((masterdiscref34_bits.f (Int.tmod (wrap64 (Int.tdiv a0 64)) 8)).bind fun t293 => (if (Int.tmod (wrap64 (Int.tdiv a0 2048)) 2) = 1 then (masterdiscref34_Permissions.j1 kj1 a0 (wrap64 ((wrap64 (t291 + (wrap64 (32 * t292)))) + (wrap64 (1024 * t293)))) (0 + 64)) else (masterdiscref34_Permissions.j1 kj1 a0 (wrap64 ((wrap64 (t291 + (wrap64 (32 * t292)))) + (wrap64 (1024 * t293)))) 0))) = some (r1, r2) := H
    have A6 := Aside0.mk A60
    clear A60
    replace H := Option.bind_eq_some_iff.mp H
    obtain ⟨t293, A70, H⟩ := H
    replace H : (if (Int.tmod (wrap64 (Int.tdiv a0 2048)) 2) = 1 then (masterdiscref34_Permissions.j1 kj1 a0 (wrap64 ((wrap64 (t291 + (wrap64 (32 * t292)))) + (wrap64 (1024 * t293)))) (0 + 64)) else (masterdiscref34_Permissions.j1 kj1 a0 (wrap64 ((wrap64 (t291 + (wrap64 (32 * t292)))) + (wrap64 (1024 * t293)))) 0)) = some (r1, r2) := H
    have A7 := Aside0.mk A70
    clear A70
    have HC8 := Aside0.mk H
    clear H
    go_upto_if 30 with (first | ((with_reducible refine gate_callee (f := 21) rfl ?_); refine goesL_ (some 14) rfl rfl Try.func21 (by kernel_rfl) rfl #[.int .i64 (Int.tmod a0 8)] rfl (by (try simp only [List.map_toArray, List.map_cons, List.map_nil]); first | done | rfl | (simp only [List.length_drop, List.length_take]; rfl)) ?_; (with_reducible refine (masterdiscref34_bits.calls (Int.tmod a0 8) t291 _ A5.out).mono ?_); rintro e w' ⟨rfl, ⟨nd, rfl⟩⟩; refine ⟨_, rfl, ?_⟩) | ((with_reducible refine gate_callee (f := 21) rfl ?_); refine goesL_ (some 18) rfl rfl Try.func21 (by kernel_rfl) rfl #[.int .i64 (Int.tmod (wrap64 (Int.tdiv a0 8)) 8)] rfl (by (try simp only [List.map_toArray, List.map_cons, List.map_nil]); first | done | rfl | (simp only [List.length_drop, List.length_take]; rfl)) ?_; (with_reducible refine (masterdiscref34_bits.calls (Int.tmod (wrap64 (Int.tdiv a0 8)) 8) t292 _ A6.out).mono ?_); rintro e w' ⟨rfl, ⟨nd, rfl⟩⟩; refine ⟨_, rfl, ?_⟩) | ((with_reducible refine gate_callee (f := 21) rfl ?_); refine goesL_ (some 24) rfl rfl Try.func21 (by kernel_rfl) rfl #[.int .i64 (Int.tmod (wrap64 (Int.tdiv a0 64)) 8)] rfl (by (try simp only [List.map_toArray, List.map_cons, List.map_nil]); first | done | rfl | (simp only [List.length_drop, List.length_take]; rfl)) ?_; (with_reducible refine (masterdiscref34_bits.calls (Int.tmod (wrap64 (Int.tdiv a0 64)) 8) t293 _ A7.out).mono ?_); rintro e w' ⟨rfl, ⟨nd, rfl⟩⟩; refine ⟨_, rfl, ?_⟩))
    (try simp only [put4_])
    go_cut [5] (fun v5 wc => ∃ (kq : Nat) (x5_7 : Int), v5 = .int .i64 x5_7 ∧ Aside0 (masterdiscref34_Permissions.j1 kq a0 (wrap64 ((wrap64 (t291 + (wrap64 (32 * t292)))) + (wrap64 (1024 * t293)))) x5_7 = some (r1, r2)) ∧ Aside0 (kq ≤ kj1) ∧ Drawn0 w wc)
    case first =>
     have H := HC8.out
     clear HC8
     by_cases c9 : (Int.tmod (wrap64 (Int.tdiv a0 2048)) 2) = 1
     ·rw [if_pos c9] at H
      have c9b0 : ((Int.tmod (wrap64 (Int.tdiv a0 2048)) 2) == 1) = true := beq_iff_eq.mpr c9
      have c9b1 : ((Int.tmod (wrap64 (Int.tdiv a0 2048)) 2) != 1) = false := bne_eq_false_iff_eq.mpr c9
      clear c9
      (first | rw [c9b0] | (simp only [i64_w, i32_w]; rw [c9b0]) | skip)
      have H' := Aside0.mk H
      clear H
      go_wp2
      go_meet
      case rel => exact ⟨_, (0 + 64), (by first | rfl | (simp; done) | (simp [*]; done)), H', ⟨by have := HJ1.out; first | omega | exact Nat.le_refl _⟩, by repeat (first | exact Drawn0.refl _ | apply Drawn0.step)⟩
     ·rw [if_neg c9] at H
      have c9b0 : ((Int.tmod (wrap64 (Int.tdiv a0 2048)) 2) == 1) = false := beq_eq_false_iff_ne.mpr c9
      have c9b1 : ((Int.tmod (wrap64 (Int.tdiv a0 2048)) 2) != 1) = true := bne_iff_ne.mpr c9
      (first | rw [c9b0] | (simp only [i64_w, i32_w]; rw [c9b0]) | skip)
      have H' := Aside0.mk H
      clear H
      go_wp2
      go_meet
      case rel => exact ⟨_, (0), (by first | rfl | (simp; done) | (simp [*]; done)), H', ⟨by have := HJ1.out; first | omega | exact Nat.le_refl _⟩, by repeat (first | exact Drawn0.refl _ | apply Drawn0.step)⟩
    case rest =>
     clear HC8
     try clear c1
     try clear c2
     try clear p2
     try clear c3
     try clear c3b0
     try clear c4
     try clear p6
     try clear c9
     try clear c9b0
     try clear c9b1
     try clear p2
     obtain ⟨kq, x5_7, rfl, HA, HJ7, ⟨mc7, rfl⟩⟩ := hcut
     cases kq with
     | zero => exact absurd HA.out (by simp [masterdiscref34_Permissions.j1])
     | succ kj7 =>
      have H := HA.out
      clear HA
      simp only [masterdiscref34_Permissions.j1] at H
      by_cases c10 : (Int.tmod (wrap64 (Int.tdiv a0 1024)) 2) = 1
      ·rw [if_pos c10] at H
       have c10b0 : ((Int.tmod (wrap64 (Int.tdiv a0 1024)) 2) == 1) = true := beq_iff_eq.mpr c10
       have c10b1 : ((Int.tmod (wrap64 (Int.tdiv a0 1024)) 2) != 1) = false := bne_eq_false_iff_eq.mpr c10
       clear c10
       by_cases c11 : (Int.tmod (wrap64 (Int.tdiv a0 512)) 2) = 1
       ·rw [if_pos c11] at H
        have c11b0 : ((Int.tmod (wrap64 (Int.tdiv a0 512)) 2) == 1) = true := beq_iff_eq.mpr c11
        have c11b1 : ((Int.tmod (wrap64 (Int.tdiv a0 512)) 2) != 1) = false := bne_eq_false_iff_eq.mpr c11
        clear c11
        simp only [Option.some.injEq, Prod.mk.injEq] at H
        obtain ⟨rfl, rfl⟩ := H
        go_wp2
        go_ret2
        exact ⟨by first | rfl | (simp; done) | (simp [*]; done), by repeat (first | exact Drawn0.refl _ | apply Drawn0.step)⟩
       ·rw [if_neg c11] at H
        have c11b0 : ((Int.tmod (wrap64 (Int.tdiv a0 512)) 2) == 1) = false := beq_eq_false_iff_ne.mpr c11
        have c11b1 : ((Int.tmod (wrap64 (Int.tdiv a0 512)) 2) != 1) = true := bne_iff_ne.mpr c11
        simp only [Option.some.injEq, Prod.mk.injEq] at H
        obtain ⟨rfl, rfl⟩ := H
        go_wp2
        go_ret2
        exact ⟨by first | rfl | (simp; done) | (simp [*]; done), by repeat (first | exact Drawn0.refl _ | apply Drawn0.step)⟩
      ·rw [if_neg c10] at H
       have c10b0 : ((Int.tmod (wrap64 (Int.tdiv a0 1024)) 2) == 1) = false := beq_eq_false_iff_ne.mpr c10
       have c10b1 : ((Int.tmod (wrap64 (Int.tdiv a0 1024)) 2) != 1) = true := bne_iff_ne.mpr c10
       by_cases c12 : (Int.tmod (wrap64 (Int.tdiv a0 512)) 2) = 1
       ·rw [if_pos c12] at H
        have c12b0 : ((Int.tmod (wrap64 (Int.tdiv a0 512)) 2) == 1) = true := beq_iff_eq.mpr c12
        have c12b1 : ((Int.tmod (wrap64 (Int.tdiv a0 512)) 2) != 1) = false := bne_eq_false_iff_eq.mpr c12
        clear c12
        simp only [Option.some.injEq, Prod.mk.injEq] at H
        obtain ⟨rfl, rfl⟩ := H
        go_wp2
        go_ret2
        exact ⟨by first | rfl | (simp; done) | (simp [*]; done), by repeat (first | exact Drawn0.refl _ | apply Drawn0.step)⟩
       ·rw [if_neg c12] at H
        have c12b0 : ((Int.tmod (wrap64 (Int.tdiv a0 512)) 2) == 1) = false := beq_eq_false_iff_ne.mpr c12
        have c12b1 : ((Int.tmod (wrap64 (Int.tdiv a0 512)) 2) != 1) = true := bne_iff_ne.mpr c12
        simp only [Option.some.injEq, Prod.mk.injEq] at H
        obtain ⟨rfl, rfl⟩ := H
        go_wp2
        go_ret2
        exact ⟨by first | rfl | (simp; done) | (simp [*]; done), by repeat (first | exact Drawn0.refl _ | apply Drawn0.step)⟩

/-! ### masterdiscref34_word: function 22 -/
def masterdiscref34_word.f (a0 : Int) : Option (Bool) := if a0 ≥ 0 then (some (decide (a0 < 4294967296))) else (some false)
set_option maxHeartbeats 8000000 in
set_option maxRecDepth 100000 in
theorem masterdiscref34_word.calls (a0 : Int) (r : Bool) (w : World) (h : masterdiscref34_word.f a0 = some r) :
  Calls Try.prog 22 #[.int .i64 a0] w fun e w' => e = .returned (.bool r) ∧ Drawn0 w w' := by
 have H : (if a0 ≥ 0 then (some (decide (a0 < 4294967296))) else (some false)) = some r := h
 clear h
 by_cases c2 : a0 ≥ 0
 ·rw [if_pos c2] at H
  have c2b0 : decide (0 ≤ a0) = true := decide_eq_true c2
  clear c2
  obtain rfl := Option.some.inj H
  go_enter Try.func22, Try.ntmps22
  go_wp2
  go_ret
  exact ⟨by first | rfl | (simp; done) | (simp [*]; done), by repeat (first | exact Drawn0.refl _ | apply Drawn0.step)⟩
 ·rw [if_neg c2] at H
  have c2b0 : decide (0 ≤ a0) = false := decide_eq_false c2
  clear c2
  obtain rfl := Option.some.inj H
  go_enter Try.func22, Try.ntmps22
  go_wp2
  go_ret
  exact ⟨by first | rfl | (simp; done) | (simp [*]; done), by repeat (first | exact Drawn0.refl _ | apply Drawn0.step)⟩

end Go.Proofs.Yticmghpnbjhhnab.M
