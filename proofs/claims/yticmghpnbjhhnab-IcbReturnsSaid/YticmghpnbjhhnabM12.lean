/- Lean functions with the answers of the Go functions that they are named after, and the walks that tie the Go functions to them (written by the program mp.py of this session). -/
import Derived.Test.YticmghpnbjhhnabM0
import Derived.Test.YticmghpnbjhhnabM4
import Derived.Test.YticmghpnbjhhnabM9
namespace Go.Proofs.Yticmghpnbjhhnab.M
open Go.RowKit Go.Proofs.YticmghpnbjhhnabW.PrintWords Go.Proofs.YticmghpnbjhhnabW.PrintLast Go.Proofs.YticmghpnbjhhnabW.PrintMore
attribute [local go_sem] fieldA50_0 fieldA102_0 max2_int min2_int max_two min_two max_three min_three max_four min_four   -- for this text's walks alone
set_option linter.unusedVariables false
set_option linter.unusedSimpArgs false

/-! ### endian_inside: function 90 -/
def endian_inside.f (a0 : ByteArray) (a1 : Int) (a2 : Int) : Option (Bool) := if a1 ≥ 0 then (some (decide (a1 ≤ (wrap64 ((a0.size : Int) - a2))))) else (some false)
set_option maxHeartbeats 8000000 in
set_option maxRecDepth 100000 in
theorem endian_inside.calls (a0 : ByteArray) (a1 : Int) (a2 : Int) (r : Bool) (w : World) (h : endian_inside.f a0 a1 a2 = some r) :
  Calls Try.prog 90 #[.string a0, .int .i64 a1, .int .i64 a2] w fun e w' => e = .returned (.bool r) ∧ Drawn0 w w' := by
 have H : (if a1 ≥ 0 then (some (decide (a1 ≤ (wrap64 ((a0.size : Int) - a2))))) else (some false)) = some r := h
 clear h
 by_cases c4 : a1 ≥ 0
 ·rw [if_pos c4] at H
  have c4b0 : decide (0 ≤ a1) = true := decide_eq_true c4
  clear c4
  obtain rfl := Option.some.inj H
  go_enter Try.func90, Try.ntmps90
  go_wp2
  go_ret
  exact ⟨by first | rfl | (simp; done) | (simp [*]; done), by repeat (first | exact Drawn0.refl _ | apply Drawn0.step)⟩
 ·rw [if_neg c4] at H
  have c4b0 : decide (0 ≤ a1) = false := decide_eq_false c4
  clear c4
  obtain rfl := Option.some.inj H
  go_enter Try.func90, Try.ntmps90
  go_wp2
  go_ret
  exact ⟨by first | rfl | (simp; done) | (simp [*]; done), by repeat (first | exact Drawn0.refl _ | apply Drawn0.step)⟩

-- NOT PRINTED: function 61 (endian_read)

/-! ### endian_read_at_endian_up_1: function 61 -/
mutual
def endian_read_at_endian_up_1.j0 : Nat → ByteArray → Int → Int → Bool → Option (Int × Int)
 | 0, _, _, _, _ => none
 | k + 1, x0, x1, x2, x12 => if x12 = true then (some (0, 1)) else ((endian_inside.f x0 x1 x2).bind fun t233 => (if t233 = true then (endian_read_at_endian_up_1.l0 k x0 x1 0 x2 0) else (some (0, 2))))
def endian_read_at_endian_up_1.l0 : Nat → ByteArray → Int → Int → Int → Int → Option (Int × Int)
 | 0, _, _, _, _, _ => none
 | k + 1, x0, x1, x10, x25, x26 => if x26 < x25 then ((endian_up_1.f x26).bind fun t234 => (if 0 ≤ (wrap64 (x1 + t234)) then (if (wrap64 (x1 + t234)) < (x0.size : Int) then (if 0 ≤ (wrap64 (8 * x26)) then (endian_read_at_endian_up_1.l0 k x0 x1 (Go.bits .or .u64 x10 (shl .u64 (IntKind.u64.wrap (bt x0 (wrap64 (x1 + t234)))) (wrap64 (8 * x26)))) x25 (wrap64 (x26 + 1))) else (none)) else (none)) else (none))) else (if x10 > 9223372036854775807 then (some (0, 7)) else (some (wrap64 (x10), 0)))
end
def endian_read_at_endian_up_1.f (k : Nat) (a0 : ByteArray) (a1 : Int) (a2 : Int)  : Option (Int × Int) := if a2 < 1 then (endian_read_at_endian_up_1.j0 k a0 a1 a2 true) else (endian_read_at_endian_up_1.j0 k a0 a1 a2 (decide (a2 > 8)))
theorem endian_read_at_endian_up_1.mono_l : ∀ k, (∀ y0 y1 y2 y3, LeO (endian_read_at_endian_up_1.j0 k y0 y1 y2 y3) (endian_read_at_endian_up_1.j0 (k + 1) y0 y1 y2 y3)) ∧ (∀ y0 y1 y2 y3 y4, LeO (endian_read_at_endian_up_1.l0 k y0 y1 y2 y3 y4) (endian_read_at_endian_up_1.l0 (k + 1) y0 y1 y2 y3 y4))
 | 0 => ⟨fun _ _ _ _ r h => by simp [endian_read_at_endian_up_1.j0] at h, fun _ _ _ _ _ r h => by simp [endian_read_at_endian_up_1.l0] at h⟩
 | k + 1 => by
  obtain ⟨ih0, ih1⟩ := endian_read_at_endian_up_1.mono_l k
  refine ⟨?_, ?_⟩
  ·intro y0 y1 y2 y3
   unfold endian_read_at_endian_up_1.j0
   repeat' first
   | (with_reducible exact ih0 _ _ _ _)
   | (with_reducible exact ih1 _ _ _ _ _)
   | (with_reducible exact LeO.refl _)
   | (with_reducible exact LeO.none _)
   | (with_reducible refine LeO.ite ?_ ?_)
   | (with_reducible refine LeO.bind ?_ (fun _ => ?_))
   | exact ih0 _ _ _ _
   | exact ih1 _ _ _ _ _
   | exact LeO.none _
   | refine LeO.ite ?_ ?_
   | refine LeO.bind ?_ (fun _ => ?_)
  ·intro y0 y1 y2 y3 y4
   unfold endian_read_at_endian_up_1.l0
   repeat' first
   | (with_reducible exact ih0 _ _ _ _)
   | (with_reducible exact ih1 _ _ _ _ _)
   | (with_reducible exact LeO.refl _)
   | (with_reducible exact LeO.none _)
   | (with_reducible refine LeO.ite ?_ ?_)
   | (with_reducible refine LeO.bind ?_ (fun _ => ?_))
   | exact ih0 _ _ _ _
   | exact ih1 _ _ _ _ _
   | exact LeO.none _
   | refine LeO.ite ?_ ?_
   | refine LeO.bind ?_ (fun _ => ?_)
theorem endian_read_at_endian_up_1.mono : ∀ a0 a1 a2 k, LeO (endian_read_at_endian_up_1.f k a0 a1 a2) (endian_read_at_endian_up_1.f (k + 1) a0 a1 a2) := by
 intro a0 a1 a2 k
 obtain ⟨ih0, ih1⟩ := endian_read_at_endian_up_1.mono_l k
 unfold endian_read_at_endian_up_1.f
 repeat' first
   | (with_reducible exact ih0 _ _ _ _)
   | (with_reducible exact ih1 _ _ _ _ _)
   | (with_reducible exact LeO.refl _)
   | (with_reducible exact LeO.none _)
   | (with_reducible refine LeO.ite ?_ ?_)
   | (with_reducible refine LeO.bind ?_ (fun _ => ?_))
   | exact ih0 _ _ _ _
   | exact ih1 _ _ _ _ _
   | exact LeO.none _
   | refine LeO.ite ?_ ?_
   | refine LeO.bind ?_ (fun _ => ?_)
set_option maxHeartbeats 8000000 in
set_option maxRecDepth 100000 in
theorem endian_read_at_endian_up_1.calls (k : Nat) (a0 : ByteArray) (a1 : Int) (a2 : Int)  (r1 : Int) (r2 : Int) (w : World) (h : endian_read_at_endian_up_1.f k a0 a1 a2 = some (r1, r2)) :
  Calls Try.prog 61 #[.string a0, .int .i64 a1, .int .i64 a2, .func (.func 72) #[] #[]] w fun e w' => e = .returned (.tuple #[.int .i64 r1, .int .i64 r2]) ∧ Below w.heap.size w w' := by
 have HB := Aside0.mk (Below.refl w.heap.size w)
 have H : (if a2 < 1 then (endian_read_at_endian_up_1.j0 k a0 a1 a2 true) else (endian_read_at_endian_up_1.j0 k a0 a1 a2 (decide (a2 > 8)))) = some (r1, r2) := h
 clear h
 have HC5 := Aside0.mk H
 clear H
 go_enter Try.func61, Try.ntmps61
 go_upto_region 1 with (fail)
 go_cut [12] (fun v12 wc => ∃ (kq : Nat) (x12_4 : Bool), v12 = .bool x12_4 ∧ Aside0 (endian_read_at_endian_up_1.j0 kq a0 a1 a2 x12_4 = some (r1, r2)) ∧ Aside0 (kq ≤ k) ∧ Aside0 (Below w.heap.size w wc))
 case first =>
  have H := HC5.out
  clear HC5
  by_cases c6 : a2 < 1
  ·rw [if_pos c6] at H
   have c6b0 : decide (a2 < 1) = true := decide_eq_true c6
   clear c6
   (first | rw [c6b0] | (simp only [i64_w, i32_w]; rw [c6b0]) | skip)
   have H' := Aside0.mk H
   clear H
   go_wp2
   go_meet
   case rel => exact ⟨_, (true), (by first | rfl | (simp; done) | (simp [*]; done)), H', ⟨by first | omega | exact Nat.le_refl _⟩, ⟨by repeat (first | (with_reducible first | exact HB.out | apply below_alloc | apply pw_below_drewN | apply below_drew1) | exact HB.out)⟩⟩
  ·rw [if_neg c6] at H
   have c6b0 : decide (a2 < 1) = false := decide_eq_false c6
   clear c6
   (first | rw [c6b0] | (simp only [i64_w, i32_w]; rw [c6b0]) | skip)
   have H' := Aside0.mk H
   clear H
   go_wp2
   go_meet
   case rel => exact ⟨_, (decide (a2 > 8)), (by first | rfl | (simp; done) | (simp [*]; done)), H', ⟨by first | omega | exact Nat.le_refl _⟩, ⟨by repeat (first | (with_reducible first | exact HB.out | apply below_alloc | apply pw_below_drewN | apply below_drew1) | exact HB.out)⟩⟩
 case rest =>
  clear HC5
  try clear p2
  try clear c6
  try clear c6b0
  obtain ⟨kq, x12_4, rfl, HA, HJ4, HB⟩ := hcut
  cases kq with
  | zero => exact absurd HA.out (by simp [endian_read_at_endian_up_1.j0])
  | succ kj4 =>
   have H := HA.out
   clear HA
   simp only [endian_read_at_endian_up_1.j0] at H
   by_cases c7 : x12_4 = true
   ·subst c7
    have H1 : (some (0, 1)) = some (r1, r2) := by rw [if_pos rfl] at H; exact H
    clear H
    have H := H1
    clear H1
    simp only [Option.some.injEq, Prod.mk.injEq] at H
    obtain ⟨rfl, rfl⟩ := H
    go_wp2
    go_ret2
    exact ⟨by first | rfl | (simp [errW_none, errW_some] <;> rfl) | (simp [*, errW_none, errW_some] <;> rfl), by repeat (first | (with_reducible first | exact HB.out | apply below_alloc | apply pw_below_drewN | apply below_drew1) | exact HB.out)⟩
   ·replace c7 := Bool.eq_false_iff.mpr c7
    subst c7
    have H1 : ((endian_inside.f a0 a1 a2).bind fun t233 => (if t233 = true then (endian_read_at_endian_up_1.l0 kj4 a0 a1 0 a2 0) else (some (0, 2)))) = some (r1, r2) := by rw [if_neg (show ¬ (false = true) by decide)] at H; exact H
    clear H
    have H := H1
    clear H1
    replace H := Option.bind_eq_some_iff.mp H
    obtain ⟨t233, A80, H⟩ := H
    replace H : (if t233 = true then (endian_read_at_endian_up_1.l0 kj4 a0 a1 0 a2 0) else (some (0, 2))) = some (r1, r2) := H
    have A8 := Aside0.mk A80
    clear A80
    by_cases c9 : t233 = true
    ·subst c9
     have H1 : (endian_read_at_endian_up_1.l0 kj4 a0 a1 0 a2 0) = some (r1, r2) := by rw [if_pos rfl] at H; exact H
     clear H
     have H := H1
     clear H1
     have H' := Aside0.mk H
     clear H
     go_wp2_with (first | ((with_reducible refine gate_callee (f := 90) rfl ?_); refine goesL_ (some 23) rfl rfl Try.func90 (by kernel_rfl) rfl #[.string a0, .int .i64 a1, .int .i64 a2] rfl (by (try simp only [List.map_toArray, List.map_cons, List.map_nil]); first | done | rfl | (simp only [List.length_drop, List.length_take]; rfl)) ?_; (with_reducible refine (endian_inside.calls a0 a1 a2 true _ A8.out).mono ?_); rintro e w' ⟨rfl, ⟨nd, rfl⟩⟩; refine ⟨_, rfl, ?_⟩))
     go_loopg [10, 26] kj4 (fun kq v10 v26 w' => ∃ (x10_2 : Int) (x26_2 : Int), v10 = .int .u64 x10_2 ∧ v26 = .int .i64 x26_2 ∧ Aside0 (endian_read_at_endian_up_1.l0 kq a0 a1 x10_2 a2 x26_2 = some (r1, r2)) ∧ Aside0 (kq ≤ kj4) ∧ Aside0 (Below w.heap.size w w'))
     case atStart => exact ⟨(0), (0), (by first | rfl | (simp; done) | (simp [*]; done)), (by first | rfl | (simp; done) | (simp [*]; done)), H', ⟨Nat.le_refl _⟩, ⟨by repeat (first | (with_reducible first | exact HB.out | apply below_alloc | apply pw_below_drewN | apply below_drew1) | exact HB.out)⟩⟩
     case round =>
      clear H'
      try clear p2
      try clear c6
      try clear c6b0
      try clear c7
      try clear c9
      try clear p2
      obtain ⟨x10_2, x26_2, rfl, rfl, HA, HK2, HB⟩ := hrel
      cases gk with
      | zero => exact absurd HA.out (by simp [endian_read_at_endian_up_1.l0])
      | succ k2 =>
       have H := HA.out
       clear HA
       simp only [endian_read_at_endian_up_1.l0] at H
       by_cases c10 : x26_2 < a2
       ·rw [if_pos c10] at H
        have c10b0 : decide (x26_2 < a2) = true := decide_eq_true c10
        clear c10
        replace H := Option.bind_eq_some_iff.mp H
        obtain ⟨t234, A110, H⟩ := H
        replace H : (if 0 ≤ (wrap64 (a1 + t234)) then (if (wrap64 (a1 + t234)) < (a0.size : Int) then (if 0 ≤ (wrap64 (8 * x26_2)) then (endian_read_at_endian_up_1.l0 k2 a0 a1 (Go.bits .or .u64 x10_2 (shl .u64 (IntKind.u64.wrap (bt a0 (wrap64 (a1 + t234)))) (wrap64 (8 * x26_2)))) a2 (wrap64 (x26_2 + 1))) else (none)) else (none)) else (none)) = some (r1, r2) := H
        have A11 := Aside0.mk A110
        clear A110
        obtain ⟨ji12, hji12⟩ : ∃ j_ : Int, (wrap64 (a1 + t234)) = j_ := ⟨_, rfl⟩
        replace H : (if 0 ≤ (ji12) then (if (ji12) < (a0.size : Int) then (if 0 ≤ (wrap64 (8 * x26_2)) then (endian_read_at_endian_up_1.l0 k2 a0 a1 (Go.bits .or .u64 x10_2 (shl .u64 (IntKind.u64.wrap (bt a0 (ji12))) (wrap64 (8 * x26_2)))) a2 (wrap64 (x26_2 + 1))) else (none)) else (none)) else (none)) = some (r1, r2) := by first | (rw [hji12] at H; exact H) | (simp only [hji12] at H ⊢; exact H)
        (try rw [hji12] at A11)
        have hji12w : (IntKind.i64.wrap (a1 + t234)) = ji12 := (i64_w _).trans hji12
        by_cases c13 : 0 ≤ (ji12)
        ·rw [if_pos c13] at H
         have c13b0 : decide (0 ≤ (ji12)) = true := decide_eq_true c13
         clear c13
         by_cases c14 : (ji12) < (a0.size : Int)
         ·rw [if_pos c14] at H
          have c14b0 : decide ((ji12) < (a0.size : Int)) = true := decide_eq_true c14
          clear c14
          obtain ⟨ji16, hji16⟩ : ∃ j_ : Int, (wrap64 (8 * x26_2)) = j_ := ⟨_, rfl⟩
          replace H : (if 0 ≤ (ji16) then (endian_read_at_endian_up_1.l0 k2 a0 a1 (Go.bits .or .u64 x10_2 (shl .u64 (IntKind.u64.wrap (bt a0 (ji12))) (ji16))) a2 (wrap64 (x26_2 + 1))) else (none)) = some (r1, r2) := by first | (rw [hji16] at H; exact H) | (simp only [hji16] at H ⊢; exact H)
          (try rw [hji16] at A11)
          have hji16w : (IntKind.i64.wrap (8 * x26_2)) = ji16 := (i64_w _).trans hji16
          by_cases c17 : 0 ≤ (ji16)
          ·rw [if_pos c17] at H
           have c17b0 := eq_true c17
           have c17b1 : decide (0 ≤ (ji16)) = true := decide_eq_true c17
           clear c17
           obtain ⟨ji18, hji18⟩ : ∃ j_ : Int, (shl .u64 (IntKind.u64.wrap (bt a0 (ji12))) (ji16)) = j_ := ⟨_, rfl⟩
           replace H : (endian_read_at_endian_up_1.l0 k2 a0 a1 (Go.bits .or .u64 x10_2 (ji18)) a2 (wrap64 (x26_2 + 1))) = some (r1, r2) := by first | (rw [hji18] at H; exact H) | (simp only [hji18] at H ⊢; exact H)
           (try rw [hji18] at A11)
           have hji18_ : (IntKind.u64.wrap ((IntKind.u64.wrap (bt a0 (ji12))) * 2 ^ min (ji16).toNat 64)) = ji18 := hji18
           have hji18z : (ji16) ≤ 64 → (IntKind.u64.wrap ((IntKind.u64.wrap (bt a0 (ji12))) * 2 ^ (ji16).toNat)) = ji18 := shl_small hji18
           have H' := Aside0.mk H
           clear H
           go_wp2_with (first | (go_at_call 72; (with_reducible refine (endian_up_1.calls x26_2 t234 _ A11.out).mono ?_); rintro e w' ⟨rfl, ⟨nd, rfl⟩⟩; have p15 : 0 ≤ ((ji12) : Int) := of_decide_eq_true (by first | (with_reducible assumption) | assumption); have q15 : (ji12) < (a0.size : Int) := of_decide_eq_true (by first | (with_reducible assumption) | assumption); have hx15 := bt_at a0 (ji12); replace p15 := eq_true p15; replace q15 := eq_true q15))
           go_roundg k2
           case measure => have := HJ4.out; have := HK2.out; omega
           case rel => exact ⟨(Go.bits .or .u64 x10_2 (ji18)), (wrap64 (x26_2 + 1)), (by first | rfl | (simp; done) | (simp only [← hji18] <;> (first | rfl | simp)) | (simp [*]; done)), (by first | rfl | (simp; done) | (simp [*]; done)), (by first | exact H' | (subst_vars; exact H')), ⟨by have := HJ4.out; have := HK2.out; omega⟩, ⟨by repeat (first | (with_reducible first | exact HB.out | apply below_alloc | apply pw_below_drewN | apply below_drew1) | exact HB.out)⟩⟩
          ·rw [if_neg c17] at H
           exact absurd H (by simp)
         ·rw [if_neg c14] at H
          exact absurd H (by simp)
        ·rw [if_neg c13] at H
         exact absurd H (by simp)
       ·rw [if_neg c10] at H
        have c10b0 : decide (x26_2 < a2) = false := decide_eq_false c10
        clear c10
        by_cases c19 : x10_2 > 9223372036854775807
        ·rw [if_pos c19] at H
         have c19b0 : decide (9223372036854775807 < x10_2) = true := decide_eq_true c19
         clear c19
         simp only [Option.some.injEq, Prod.mk.injEq] at H
         obtain ⟨rfl, rfl⟩ := H
         go_wp2
         go_ret2
         exact ⟨by first | rfl | (simp [errW_none, errW_some] <;> rfl) | (simp [*, errW_none, errW_some] <;> rfl), by repeat (first | (with_reducible first | exact HB.out | apply below_alloc | apply pw_below_drewN | apply below_drew1) | exact HB.out)⟩
        ·rw [if_neg c19] at H
         have c19b0 : decide (9223372036854775807 < x10_2) = false := decide_eq_false c19
         clear c19
         simp only [Option.some.injEq, Prod.mk.injEq] at H
         obtain ⟨rfl, rfl⟩ := H
         go_wp2
         go_ret2
         exact ⟨by first | rfl | (simp [errW_none, errW_some] <;> rfl) | (simp [*, errW_none, errW_some] <;> rfl), by repeat (first | (with_reducible first | exact HB.out | apply below_alloc | apply pw_below_drewN | apply below_drew1) | exact HB.out)⟩
    ·replace c9 := Bool.eq_false_iff.mpr c9
     subst c9
     have H1 : (some (0, 2)) = some (r1, r2) := by rw [if_neg (show ¬ (false = true) by decide)] at H; exact H
     clear H
     have H := H1
     clear H1
     simp only [Option.some.injEq, Prod.mk.injEq] at H
     obtain ⟨rfl, rfl⟩ := H
     go_wp2_with (first | ((with_reducible refine gate_callee (f := 90) rfl ?_); refine goesL_ (some 23) rfl rfl Try.func90 (by kernel_rfl) rfl #[.string a0, .int .i64 a1, .int .i64 a2] rfl (by (try simp only [List.map_toArray, List.map_cons, List.map_nil]); first | done | rfl | (simp only [List.length_drop, List.length_take]; rfl)) ?_; (with_reducible refine (endian_inside.calls a0 a1 a2 false _ A8.out).mono ?_); rintro e w' ⟨rfl, ⟨nd, rfl⟩⟩; refine ⟨_, rfl, ?_⟩))
     go_ret2
     exact ⟨by first | rfl | (simp [errW_none, errW_some] <;> rfl) | (simp [*, errW_none, errW_some] <;> rfl), by repeat (first | (with_reducible first | exact HB.out | apply below_alloc | apply pw_below_drewN | apply below_drew1) | exact HB.out)⟩

/-! ### endian_ReadLittle: function 37 -/
def endian_ReadLittle.f (k : Nat) (a0 : ByteArray) (a1 : Int) (a2 : Int) : Option (Int × Int) := (endian_up.f a2).bind fun _ => ((endian_read_at_endian_up_1.f k a0 a1 a2).bind fun bt236 => (some (bt236.1, bt236.2)))
theorem endian_ReadLittle.mono : ∀ a0 a1 a2 k, LeO (endian_ReadLittle.f k a0 a1 a2) (endian_ReadLittle.f (k + 1) a0 a1 a2) := by
 intro a0 a1 a2 k
 unfold endian_ReadLittle.f
 repeat' first
   | (with_reducible exact endian_read_at_endian_up_1.mono _ _ _ _)
   | (with_reducible exact LeO.refl _)
   | (with_reducible exact LeO.none _)
   | (with_reducible refine LeO.ite ?_ ?_)
   | (with_reducible refine LeO.bind ?_ (fun _ => ?_))
   | exact endian_read_at_endian_up_1.mono _ _ _ _
   | exact LeO.none _
   | refine LeO.ite ?_ ?_
   | refine LeO.bind ?_ (fun _ => ?_)
set_option maxHeartbeats 8000000 in
set_option maxRecDepth 100000 in
theorem endian_ReadLittle.calls (k : Nat) (a0 : ByteArray) (a1 : Int) (a2 : Int) (r1 : Int) (r2 : Int) (w : World) (h : endian_ReadLittle.f k a0 a1 a2 = some (r1, r2)) :
  Calls Try.prog 37 #[.string a0, .int .i64 a1, .int .i64 a2] w fun e w' => e = .returned (.tuple #[.int .i64 r1, .int .i64 r2]) ∧ Below w.heap.size w w' := by
 have HB := Aside0.mk (Below.refl w.heap.size w)
 have H : ((endian_up.f a2).bind fun _ => ((endian_read_at_endian_up_1.f k a0 a1 a2).bind fun bt236 => (some (bt236.1, bt236.2)))) = some (r1, r2) := h
 clear h
 replace H := Option.bind_eq_some_iff.mp H
 obtain ⟨_, A40, H⟩ := H
 replace H : ((endian_read_at_endian_up_1.f k a0 a1 a2).bind fun bt236 => (some (bt236.1, bt236.2))) = some (r1, r2) := H
 have A4 := Aside0.mk A40
 clear A40
 replace H := Option.bind_eq_some_iff.mp H
 obtain ⟨⟨t236, t237⟩, A50, H⟩ := H
 replace H : (some (t236, t237)) = some (r1, r2) := H
 have A5 := Aside0.mk A50
 clear A50
 simp only [Option.some.injEq, Prod.mk.injEq] at H
 obtain ⟨rfl, rfl⟩ := H
 go_enter Try.func37, Try.ntmps37
 go_wp2_with (first | ((with_reducible refine gate_callee (f := 48) rfl ?_); refine goesL_ (some 12) rfl rfl Try.func48 (by kernel_rfl) rfl #[.int .i64 a2] rfl (by (try simp only [List.map_toArray, List.map_cons, List.map_nil]); first | done | rfl | (simp only [List.length_drop, List.length_take]; rfl)) ?_; (with_reducible refine (endian_up.calls a2  _ A4.out).mono ?_); rintro e w' ⟨rfl, ⟨nd, rfl⟩⟩; refine ⟨_, rfl, ?_⟩) | (go_at_call 61; (with_reducible refine (endian_read_at_endian_up_1.calls k a0 a1 a2  t236 t237 _ A5.out).mono ?_); rintro e w6 ⟨rfl, hb⟩; have n0_ := Aside0.mk (below_step (by repeat (first | (with_reducible first | exact HB.out | apply below_alloc | apply pw_below_drewN | apply below_drew1) | exact HB.out)) hb); clear HB; have HB := n0_; clear n0_; (try clear hb); (try clear hb2); (try clear hk); (try clear hi)))
 go_ret2
 exact ⟨by first | rfl | (simp [errW_none, errW_some] <;> rfl) | (simp [*, errW_none, errW_some] <;> rfl), by repeat (first | (with_reducible first | exact HB.out | apply below_alloc | apply pw_below_drewN | apply below_drew1) | exact HB.out)⟩

/-! ### udftag_read: function 88 -/
def udftag_read.f (k : Nat) (a0 : ByteArray) (a1 : Int) (a2 : Int) : Option (Int) := (endian_ReadLittle.f k a0 a1 a2).bind fun bt238 => (some bt238.1)
theorem udftag_read.mono : ∀ a0 a1 a2 k, LeO (udftag_read.f k a0 a1 a2) (udftag_read.f (k + 1) a0 a1 a2) := by
 intro a0 a1 a2 k
 unfold udftag_read.f
 repeat' first
   | (with_reducible exact endian_ReadLittle.mono _ _ _ _)
   | (with_reducible exact LeO.refl _)
   | (with_reducible exact LeO.none _)
   | (with_reducible refine LeO.ite ?_ ?_)
   | (with_reducible refine LeO.bind ?_ (fun _ => ?_))
   | exact endian_ReadLittle.mono _ _ _ _
   | exact LeO.none _
   | refine LeO.ite ?_ ?_
   | refine LeO.bind ?_ (fun _ => ?_)
set_option maxHeartbeats 8000000 in
set_option maxRecDepth 100000 in
theorem udftag_read.calls (k : Nat) (a0 : ByteArray) (a1 : Int) (a2 : Int) (r : Int) (w : World) (h : udftag_read.f k a0 a1 a2 = some r) :
  Calls Try.prog 88 #[.string a0, .int .i64 a1, .int .i64 a2] w fun e w' => e = .returned (.int .i64 r) ∧ Below w.heap.size w w' := by
 have HB := Aside0.mk (Below.refl w.heap.size w)
 have H : ((endian_ReadLittle.f k a0 a1 a2).bind fun bt238 => (some bt238.1)) = some r := h
 clear h
 replace H := Option.bind_eq_some_iff.mp H
 obtain ⟨⟨t238, t239⟩, A40, H⟩ := H
 replace H : (some t238) = some r := H
 have A4 := Aside0.mk A40
 clear A40
 obtain rfl := Option.some.inj H
 go_enter Try.func88, Try.ntmps88
 go_wp2_with (first | ((with_reducible refine gate_callee (f := 37) rfl ?_); refine goesL_ (some 13) rfl rfl Try.func37 (by kernel_rfl) rfl #[.string a0, .int .i64 a1, .int .i64 a2] rfl (by (try simp only [List.map_toArray, List.map_cons, List.map_nil]); first | done | rfl | (simp only [List.length_drop, List.length_take]; rfl)) ?_; (with_reducible refine (endian_ReadLittle.calls k a0 a1 a2 t238 t239 _ A4.out).mono ?_); rintro e w5 ⟨rfl, hb⟩; refine ⟨_, rfl, ?_⟩; have n0_ := Aside0.mk (below_step (by repeat (first | (with_reducible first | exact HB.out | apply below_alloc | apply pw_below_drewN | apply below_drew1) | exact HB.out)) hb); clear HB; have HB := n0_; clear n0_; (try clear hb); (try clear hb2); (try clear hk); (try clear hi)))
 go_ret
 exact ⟨by first | rfl | (simp [errW_none, errW_some] <;> rfl) | (simp [*, errW_none, errW_some] <;> rfl), by repeat (first | (with_reducible first | exact HB.out | apply below_alloc | apply pw_below_drewN | apply below_drew1) | exact HB.out)⟩

/-! ### udftag_values: function 60 -/
def udftag_values.f (k : Nat) (a0 : ByteArray) : Option (Int × Int × Int × Int) := (udftag_read.f k a0 0 2).bind fun t241 => ((udftag_read.f k a0 6 2).bind fun t242 => ((udftag_read.f k a0 10 2).bind fun t243 => ((udftag_read.f k a0 12 4).bind fun t244 => (some (t241, t242, t243, t244)))))
theorem udftag_values.mono : ∀ a0 k, LeO (udftag_values.f k a0) (udftag_values.f (k + 1) a0) := by
 intro a0 k
 unfold udftag_values.f
 repeat' first
   | (with_reducible exact udftag_read.mono _ _ _ _)
   | (with_reducible exact LeO.refl _)
   | (with_reducible exact LeO.none _)
   | (with_reducible refine LeO.ite ?_ ?_)
   | (with_reducible refine LeO.bind ?_ (fun _ => ?_))
   | exact udftag_read.mono _ _ _ _
   | exact LeO.none _
   | refine LeO.ite ?_ ?_
   | refine LeO.bind ?_ (fun _ => ?_)
set_option maxHeartbeats 8000000 in
set_option maxRecDepth 100000 in
theorem udftag_values.calls (k : Nat) (a0 : ByteArray) (r1 : Int) (r2 : Int) (r3 : Int) (r4 : Int) (w : World) (h : udftag_values.f k a0 = some (r1, r2, r3, r4)) :
  Calls Try.prog 60 #[.string a0] w fun e w' => e = .returned (.agg #[.int .i64 r1, .int .i64 r2, .int .i64 r3, .int .i64 r4]) ∧ Below w.heap.size w w' := by
 have hu102 := Try.underlying102
 have HB := Aside0.mk (Below.refl w.heap.size w)
 have H : ((udftag_read.f k a0 0 2).bind fun t241 => ((udftag_read.f k a0 6 2).bind fun t242 => ((udftag_read.f k a0 10 2).bind fun t243 => ((udftag_read.f k a0 12 4).bind fun t244 => (some (t241, t242, t243, t244)))))) = some (r1, r2, r3, r4) := h
 clear h
 replace H := Option.bind_eq_some_iff.mp H
 obtain ⟨t241, A20, H⟩ := H
 replace H : ((udftag_read.f k a0 6 2).bind fun t242 => ((udftag_read.f k a0 10 2).bind fun t243 => ((udftag_read.f k a0 12 4).bind fun t244 => (some (t241, t242, t243, t244))))) = some (r1, r2, r3, r4) := H
 have A2 := Aside0.mk A20
 clear A20
 replace H := Option.bind_eq_some_iff.mp H
 obtain ⟨t242, A30, H⟩ := H
 replace H : ((udftag_read.f k a0 10 2).bind fun t243 => ((udftag_read.f k a0 12 4).bind fun t244 => (some (t241, t242, t243, t244)))) = some (r1, r2, r3, r4) := H
 have A3 := Aside0.mk A30
 clear A30
 replace H := Option.bind_eq_some_iff.mp H
 obtain ⟨t243, A40, H⟩ := H
 replace H : ((udftag_read.f k a0 12 4).bind fun t244 => (some (t241, t242, t243, t244))) = some (r1, r2, r3, r4) := H
 have A4 := Aside0.mk A40
 clear A40
 replace H := Option.bind_eq_some_iff.mp H
 obtain ⟨t244, A50, H⟩ := H
 replace H : (some (t241, t242, t243, t244)) = some (r1, r2, r3, r4) := H
 have A5 := Aside0.mk A50
 clear A50
 simp only [Option.some.injEq, Prod.mk.injEq] at H
 obtain ⟨rfl, rfl, rfl, rfl⟩ := H
 go_enter Try.func60, Try.ntmps60
 go_wp2_with (first | ((with_reducible refine gate_dst (N := 2) rfl ?_); refine box_event ?hg (N := 2) ?hd (cs := #[.int .i64 0, .int .i64 0, .int .i64 0, .int .i64 0]) (t := 102) ?hr ?_; (case hd => rfl); (case hg => rfl); (case hr => first | (go_simp; done) | (go_simp; rfl)); intro gb240 hg w6 hbox hb; have n0_ := Aside0.mk (below_step (by repeat (first | (with_reducible first | exact HB.out | apply below_alloc | apply pw_below_drewN | apply below_drew1) | exact HB.out)) hb); have n1_ := Aside0.mk (hbox); have n2_ := Aside0.mk ((by rw [hg]; exact (below_size (by repeat (first | (with_reducible first | exact HB.out | apply below_alloc | apply pw_below_drewN | apply below_drew1) | exact HB.out))) : w.heap.size ≤ gb240)); have n3_ := Aside0.mk ((by rw [hg]; exact (below_size (by repeat (first | (with_reducible first | exact HB.out | apply below_alloc | apply pw_below_drewN | apply below_drew1) | exact HB.out))) : w.heap.size ≤ gb240)); clear HB; have HB := n0_; have BK240 := n1_; have GW240 := n2_; have GE240 := n3_; clear n0_ n1_ n2_ n3_; clear hb hbox hg) | ((with_reducible refine gate_callee (f := 88) rfl ?_); refine goesL_ (some 4) rfl rfl Try.func88 (by kernel_rfl) rfl #[.string a0, .int .i64 0, .int .i64 2] rfl (by (try simp only [List.map_toArray, List.map_cons, List.map_nil]); first | done | rfl | (simp only [List.length_drop, List.length_take]; rfl)) ?_; (with_reducible refine (udftag_read.calls k a0 0 2 t241 _ A2.out).mono ?_); rintro e w7 ⟨rfl, hb⟩; refine ⟨_, rfl, ?_⟩; have n0_ := Aside0.mk (blk_below (g := gb240) (o := .cells #[.int .i64 0, .int .i64 0, .int .i64 0, .int .i64 0] 102 (0, 0)) (by (with_reducible repeat (first | refine blk_drewN ?_ _ | refine blk_drew ?_ | refine blk_alloc ?_ _)); exact BK240.out) hb); have n1_ := Aside0.mk (below_step (by repeat (first | (with_reducible first | exact HB.out | apply below_alloc | apply pw_below_drewN | apply below_drew1 | refine below_set ?_ GE240.out) | exact HB.out)) hb); clear BK240; clear HB; have BK240 := n0_; have HB := n1_; clear n0_ n1_; (try clear hb); (try clear hb2); (try clear hk); (try clear hi)) | ((with_reducible refine gate_callee (f := 88) rfl ?_); refine goesL_ (some 6) rfl rfl Try.func88 (by kernel_rfl) rfl #[.string a0, .int .i64 6, .int .i64 2] rfl (by (try simp only [List.map_toArray, List.map_cons, List.map_nil]); first | done | rfl | (simp only [List.length_drop, List.length_take]; rfl)) ?_; (with_reducible refine (udftag_read.calls k a0 6 2 t242 _ A3.out).mono ?_); rintro e w8 ⟨rfl, hb⟩; refine ⟨_, rfl, ?_⟩; have n0_ := Aside0.mk (blk_below (g := gb240) (o := .cells #[.int .i64 0, .int .i64 0, .int .i64 0, .int .i64 0] 102 (0, 0)) (by (with_reducible repeat (first | refine blk_drewN ?_ _ | refine blk_drew ?_ | refine blk_alloc ?_ _)); exact BK240.out) hb); have n1_ := Aside0.mk (below_step (by repeat (first | (with_reducible first | exact HB.out | apply below_alloc | apply pw_below_drewN | apply below_drew1 | refine below_set ?_ GE240.out) | exact HB.out)) hb); clear BK240; clear HB; have BK240 := n0_; have HB := n1_; clear n0_ n1_; (try clear hb); (try clear hb2); (try clear hk); (try clear hi)) | ((with_reducible refine gate_callee (f := 88) rfl ?_); refine goesL_ (some 8) rfl rfl Try.func88 (by kernel_rfl) rfl #[.string a0, .int .i64 10, .int .i64 2] rfl (by (try simp only [List.map_toArray, List.map_cons, List.map_nil]); first | done | rfl | (simp only [List.length_drop, List.length_take]; rfl)) ?_; (with_reducible refine (udftag_read.calls k a0 10 2 t243 _ A4.out).mono ?_); rintro e w9 ⟨rfl, hb⟩; refine ⟨_, rfl, ?_⟩; have n0_ := Aside0.mk (blk_below (g := gb240) (o := .cells #[.int .i64 0, .int .i64 0, .int .i64 0, .int .i64 0] 102 (0, 0)) (by (with_reducible repeat (first | refine blk_drewN ?_ _ | refine blk_drew ?_ | refine blk_alloc ?_ _)); exact BK240.out) hb); have n1_ := Aside0.mk (below_step (by repeat (first | (with_reducible first | exact HB.out | apply below_alloc | apply pw_below_drewN | apply below_drew1 | refine below_set ?_ GE240.out) | exact HB.out)) hb); clear BK240; clear HB; have BK240 := n0_; have HB := n1_; clear n0_ n1_; (try clear hb); (try clear hb2); (try clear hk); (try clear hi)) | ((with_reducible refine gate_callee (f := 88) rfl ?_); refine goesL_ (some 10) rfl rfl Try.func88 (by kernel_rfl) rfl #[.string a0, .int .i64 12, .int .i64 4] rfl (by (try simp only [List.map_toArray, List.map_cons, List.map_nil]); first | done | rfl | (simp only [List.length_drop, List.length_take]; rfl)) ?_; (with_reducible refine (udftag_read.calls k a0 12 4 t244 _ A5.out).mono ?_); rintro e w10 ⟨rfl, hb⟩; refine ⟨_, rfl, ?_⟩; have n0_ := Aside0.mk (blk_below (g := gb240) (o := .cells #[.int .i64 0, .int .i64 0, .int .i64 0, .int .i64 0] 102 (0, 0)) (by (with_reducible repeat (first | refine blk_drewN ?_ _ | refine blk_drew ?_ | refine blk_alloc ?_ _)); exact BK240.out) hb); have n1_ := Aside0.mk (below_step (by repeat (first | (with_reducible first | exact HB.out | apply below_alloc | apply pw_below_drewN | apply below_drew1 | refine below_set ?_ GE240.out) | exact HB.out)) hb); clear BK240; clear HB; have BK240 := n0_; have HB := n1_; clear n0_ n1_; (try clear hb); (try clear hb2); (try clear hk); (try clear hi); obtain ⟨hcz11_0, hcz11_1, hcz11_2, hcz11_3⟩ := cz_4 BK240.out; obtain ⟨hfz11_0, hfz11_1, hfz11_2, hfz11_3⟩ := fz_4 BK240.out))
 refine bodyPost_ret (results_cell_row rfl _ _ gb240 102 #[.int .i64 t241, .int .i64 t242, .int .i64 t243, .int .i64 t244] (0, 0) _ rfl (by (with_reducible repeat (first | refine blk_drewN ?_ _ | refine blk_drew ?_ | refine blk_alloc ?_ _)); refine blk_put (cs := #[.int .i64 t241, .int .i64 t242, .int .i64 t243, .int .i64 0]) ?_ 3 _ rfl; (with_reducible repeat (first | refine blk_drewN ?_ _ | refine blk_drew ?_ | refine blk_alloc ?_ _)); refine blk_put (cs := #[.int .i64 t241, .int .i64 t242, .int .i64 0, .int .i64 0]) ?_ 2 _ rfl; (with_reducible repeat (first | refine blk_drewN ?_ _ | refine blk_drew ?_ | refine blk_alloc ?_ _)); refine blk_put (cs := #[.int .i64 t241, .int .i64 0, .int .i64 0, .int .i64 0]) ?_ 1 _ rfl; (with_reducible repeat (first | refine blk_drewN ?_ _ | refine blk_drew ?_ | refine blk_alloc ?_ _)); refine blk_put (cs := #[.int .i64 0, .int .i64 0, .int .i64 0, .int .i64 0]) ?_ 0 _ rfl; (with_reducible repeat (first | refine blk_drewN ?_ _ | refine blk_drew ?_ | refine blk_alloc ?_ _)); exact BK240.out) Try.underlying102 rfl (by kernel_rfl)) rfl ?_
 exact ⟨by first | rfl | (simp [errW_none, errW_some] <;> rfl) | (simp [*, errW_none, errW_some] <;> rfl), by repeat (first | (with_reducible first | exact HB.out | apply below_alloc | apply pw_below_drewN | apply below_drew1 | refine below_set ?_ GE240.out) | exact HB.out)⟩

-- NOT PRINTED: function 87 (udftag_Faults_1)

/-! ### udftag_Faults: function 59 -/
theorem goesC_ {P : Program} {ops : Array Oper} {Q : Exit → Act → World → Prop} {oi : Oper} {N : Option Tmp} {a : Act} {w : World} {K : Act → World → Prop} {f : FuncId} {fn : Func} {xs : Array Operand} {ts : Array TypeId} {cap : Array Value} (hf : P.funcs[f]? = some fn) (hname : (fn.name == "runtime.NumGoroutine") = false) (hb : fn.body.isSome = true) (args : Array Value)
  (hw : Region.wanted oi (yielded ops a.tmps) = true) (hN : oi.dst = N) (hop : ∃ x, oi.op = .call { callee := .value x, args := xs, argTypes := ts } ∧ a.eval x = .func (.func f) #[] cap) (hargs : xs.map a.eval ++ cap = args)
  (h : Calls P f args w fun e w' => ∃ v, e = .returned v ∧ K (a.put N v) w') : if Region.wanted oi (yielded ops a.tmps) = true then Oper.wp P oi a w K Q else K (a.put N undef) w := by
 refine call_ f args hw hN ?_ h
 have he := enters_ hf hname hb args w
 obtain ⟨x, hop, hx⟩ := hop
 unfold execOp
 simp [hop, resolve, Deferred.ofValue, invoke, hx, hargs, he]

theorem int_info : ∃ i, Try.prog.info? 3 = some i ∧ i.zero = some (.int .i64 0) ∧ i.size = 1 ∧ i.bytes = 8 := info_parts (by kernel_rfl)
/-- A variable of type []int at block g whose row is the call's own. -/
def FC (w : World) (B g : Nat) (l : List Int) : Prop := B ≤ g ∧ ∃ v, w.heap[g]? = some (.cells #[v] 46 (0, 0)) ∧ w.ownsRow B 3 1 v l.length (l.map (Value.int .i64))
def KeptI (g : Nat) (w w' : World) : Prop := ∀ (k : Nat) (c : Array Value) (t : TypeId), t ≠ 3 → k ≠ g → w.heap[k]? = some (.cells c t (0, 0)) → w'.heap[k]? = some (.cells c t (0, 0))
set_option maxHeartbeats 4000000 in
set_option maxRecDepth 100000 in
theorem faults_add (B g : Nat) (l : List Int) (n : Int) (b : Bool) (w : World) (h : FC w B g l) (hlen : l.length < 1000) (hBw : B ≤ w.heap.size) :
  Calls Try.prog 87 #[.int .i64 n, .bool b, .pointer (some ⟨g, 0, none⟩)] w fun e w' => e = .returned (.bool b) ∧ FC w' B g (if b = true then l ++ [n] else l) ∧ Below B w w' ∧ KeptI g w w' := by
 obtain ⟨hBg, v, hg, hown⟩ := h
 have hne : v.ownBlock ≠ some g := Lib.ownBlock_ne hown hg (by decide)
 have c0 : w.cell? ⟨g, 0, none⟩ = some v := by rw [Lib.cell_of_heap hg]; rfl
 cases b
 ·go_enter Try.func87, Try.ntmps87
  go_wp2
  go_ret
  exact ⟨rfl, ⟨hBg, v, hg, hown⟩, Below.refl _ _, fun _ _ _ _ _ h => h⟩
 ·obtain ⟨i0, hi, hz0, hz1, hz2⟩ := int_info
  have u1 : Try.prog.underlying 46 = some (.slice 3) := by kernel_rfl
  have hlt : g < w.heap.size := (Array.getElem?_eq_some_iff.1 hg).1
  go_enter Try.func87, Try.ntmps87
  go_wp2_with (at_builtin; refine wpList_append_own _ rfl _ _ 46 rfl B 3 i0 (.int .i64 0) 1 8 u1 hi hz0 hz1 hz2 rfl (by decide) _ _ _ rfl (hown.alloc _) ⟨w.heap.size, 0, none⟩ 1 1 [.int .i64 n] rfl rfl ?c1 ?c2 ?c3 ?c4 ?c5 ?_)
  case c1 =>
   intro j u hj
   match j, hj with
   | 0, hj => simp at hj; subst hj; simp [Addr.add]
  case c2 => intro u hu; simp at hu; subst hu; rfl
  case c3 => unfold maxLen; omega
  case c4 => omega
  case c5 => simp; omega
  intro v' w2 hown' hgrow _
  have hb2 : w2.heap[g]? = some (.cells #[v] 46 (0, 0)) := by
   rw [hgrow.block g (by simp; omega) (fun e => hne e.symm), Lib.alloc_old w _ g hlt]
   exact hg
  have d0 : w2.cell? ⟨g, 0, none⟩ = some v := by rw [Lib.cell_of_heap hb2]; rfl
  have f0 : w2.frozen? ⟨g, 0, none⟩ = false := Lib.frozen_of_heap hb2 0
  have hk2 : KeptI g w (w2.setCell ⟨g, 0, none⟩ v') := by
   intro k c t ht hkg hk
   have hlk : k < w.heap.size := (Array.getElem?_eq_some_iff.1 hk).1
   rw [Below.heap_setCell _ _ _ _ hkg, hgrow.block k (by simp; omega) (fun e => Lib.ownBlock_ne hown hk ht e.symm), Lib.alloc_old w _ k hlk]
   exact hk
  have HK2 := Aside0.mk hk2
  clear hk2
  obtain ⟨q, cap, rfl⟩ : ∃ q cap, v' = .slice (some ⟨q, 0, none⟩) (l.length + 1) cap := by
   rcases hown'.2 with ⟨_, h0⟩ | ⟨q, cap, cur, hv, _⟩
   ·omega
   ·exact ⟨q, cap, hv⟩
  have hne' := Lib.ownBlock_ne hown' hb2 (by decide)
  go_wp2
  go_ret
  refine ⟨rfl, ⟨hBg, .slice (some ⟨q, 0, none⟩) (l.length + 1) cap, ?_, ?_⟩, ?_, HK2.out⟩
  ·simp [World.setCell, Array.getElem?_modify, hb2]
  ·have := hown'.kept (row := some g) (w' := w2.setCell ⟨g, 0, none⟩ (.slice (some ⟨q, 0, none⟩) (l.length + 1) cap)) ⟨rfl, rfl, rfl, by simp [World.setCell], fun k _ hk => Below.heap_setCell _ _ _ _ (fun e => hk (by simp [e]))⟩ (Or.inr hne')
   simpa using this
  ·exact (((Below.refl B w).alloc hBw _).grown hgrow (by simp; omega) (fun k hk => (hown.lt k hk).1)).setCell (p := ⟨g, 0, none⟩) hBg _

def udftag_Faults.f (k : Nat) (a0 : ByteArray) (a1 : Int) : Option (List Int) := if (a0.size : Int) < 16 then some [1] else (udftag_values.f k a0).bind fun t => (udftag_read.f k a0 2 2).bind fun v => (udftag_sum.f k a0).bind fun s => (if t.2.2.1 > wrap64 ((a0.size : Int) - 16) then some [4] else if 16 ≤ wrap64 (16 + t.2.2.1) ∧ wrap64 (16 + t.2.2.1) ≤ (a0.size : Int) then (udftag_read.f k a0 8 2).bind fun c => (checksum_CRC16.f (a0.extract 16 (wrap64 (16 + t.2.2.1)).toNat)).bind fun d => some (if c = wrap64 d then [] else [5]) else none).bind fun l => some ((((if bt a0 4 = s then [] else [2]) ++ (if v = 2 then [] else if v = 3 then [] else [3])) ++ l) ++ (if t.2.2.2 = a1 then [] else [6]))
theorem udftag_Faults.mono : ∀ a0 a1 k, LeO (udftag_Faults.f k a0 a1) (udftag_Faults.f (k + 1) a0 a1) := by
 intro a0 a1 k
 unfold udftag_Faults.f
 exact LeO.ite (LeO.refl _) (LeO.bind (udftag_values.mono _ _) (fun _ => LeO.bind (udftag_read.mono _ _ _ _) (fun _ => LeO.bind (udftag_sum.mono _ _) (fun _ => LeO.bind (LeO.ite (LeO.refl _) (LeO.ite (LeO.bind (udftag_read.mono _ _ _ _) (fun _ => LeO.refl _)) (LeO.refl _))) (fun _ => LeO.refl _)))))
theorem FC_below {w w1 : World} {B g : Nat} {l : List Int} (h : FC w B g l) (hb : Below w.heap.size w w1) (_hB : B ≤ w.heap.size) : FC w1 B g l := by
 obtain ⟨h1, v, hg, ho⟩ := h
 refine ⟨h1, v, blk_below hg hb, ho.1, ?_⟩
 rcases ho.2 with h2 | ⟨q, cap, cur, hv, hq, hc, hr⟩
 ·exact .inl h2
 ·exact .inr ⟨q, cap, cur, hv, hq, blk_below hc hb, hr⟩
theorem own_R {w : World} {B : Nat} {v : Value} {l : List Int} (ho : w.ownsRow B 3 1 v l.length (l.map (Value.int .i64))) : Kd.R (Kd.int .i64) 3 w B (fun _ => True) v l := by
 refine ⟨fun _ _ => trivial, l.map (Value.int .i64), ho, by simp [Kd.int, Kd.scalar], fun j p hp => ?_⟩
 simp only [Kd.int, Kd.scalar, Nat.mul_one]
 have hj : j < l.length := (List.getElem?_eq_some_iff.1 hp).1
 rw [List.drop_eq_getElem_cons (by simpa using hj)]
 simp only [List.take_succ_cons, List.take_zero, List.getElem_map]
 rw [(List.getElem?_eq_some_iff.1 hp).2]
theorem FC_R {w : World} {B g : Nat} {l : List Int} (h : FC w B g l) : ∃ v, w.cell? ⟨g, 0, none⟩ = some v ∧ Kd.R (Kd.int .i64) 3 w B (fun _ => True) v l := by
 obtain ⟨_, v, hg, ho⟩ := h
 exact ⟨v, (blk_cell hg 0).trans rfl, own_R ho⟩
set_option maxHeartbeats 8000000 in
set_option maxRecDepth 100000 in
theorem udftag_Faults.calls (k : Nat) (a0 : ByteArray) (a1 : Int) (r : List Int) (w : World) (h : udftag_Faults.f k a0 a1 = some r) :
  Calls Try.prog 59 #[.string a0, .int .i64 a1] w fun e w' => ∃ v0_ : Value, e = .returned (v0_) ∧ Kd.R (Kd.int .i64) 3 w' w.heap.size (fun _ => True) v0_ r ∧ Below w.heap.size w w' := by
 unfold udftag_Faults.f at h
 by_cases c1 : (a0.size : Int) < 16
 ·rw [if_pos c1] at h
  obtain rfl := Option.some.inj h
  have d1 := decide_eq_true c1
  go_enter Try.func59, Try.ntmps59
  go_wp2
  go_ret
  exact ⟨_, rfl, own_R (l := [1]) ⟨rfl, .inr ⟨_, 1, #[.int .i64 1], rfl, Nat.le_refl _, heap_alloc_new w _, Nat.le_refl _, by unfold maxLen; omega, rfl, rfl⟩⟩, below_alloc (Below.refl _ _) _⟩
 ·rw [if_neg c1] at h
  obtain ⟨⟨t1, t2, t3, t4⟩, h1, h⟩ := Option.bind_eq_some_iff.mp h
  obtain ⟨v, h2, h⟩ := Option.bind_eq_some_iff.mp h
  obtain ⟨s, h3, h⟩ := Option.bind_eq_some_iff.mp h
  obtain ⟨l, h4, h⟩ := Option.bind_eq_some_iff.mp h
  have d1 := decide_eq_false c1
  have A1_ := Aside0.mk h1
  have A2_ := Aside0.mk h2
  have A3_ := Aside0.mk h3
  have A4_ := Aside0.mk h4
  have A5_ := Aside0.mk (Option.some.inj h)
  clear h h1 h2 h3 h4
  have b4 : ((a0[4]'(by omega)).toNat : Int) = bt a0 4 := bt_at a0 4 (by show 4 < a0.size; omega)
  have q4 : ((4 : Int) < (a0.size : Int)) = True := eq_true (by omega)
  go_enter Try.func59, Try.ntmps59
  go_wp2_with (first | (go_at_call 60; (with_reducible refine (udftag_values.calls k a0 t1 t2 t3 t4 _ A1_.out).mono ?_); rintro e w1 ⟨rfl, hb⟩; have HB1 := Aside0.mk hb; clear hb) | (go_at_call 88; (with_reducible refine (udftag_read.calls k a0 2 2 v _ A2_.out).mono ?_); rintro e w2 ⟨rfl, hb⟩; have HB2 := Aside0.mk hb; clear hb))
  have hF := Aside0.mk (show FC w2 w.heap.size w.heap.size [] from ⟨Nat.le_refl _, .slice none 0 0, blk_below (blk_alloc (blk_below (blk_new w _) HB1.out) _) HB2.out, own_nil _ _ _ _⟩)
  have hT := Aside0.mk (blk_below (blk_new w1 _) HB2.out)
  have hBB := Aside0.mk (below_step (below_alloc (below_step (below_alloc (Below.refl _ _) _) HB1.out) _) HB2.out)
  have hsz1 : w.heap.size + 1 ≤ w1.heap.size := by have := HB1.out.size; simpa using this
  have hsz := hBB.out.size
  clear HB1 HB2
  generalize w1.heap.size = T at *
  obtain ⟨e1, he1⟩ : ∃ b : Bool, (bt a0 4 != s) = b := ⟨_, rfl⟩
  refine start_ (n := 7) (S := fun w' => True) (ds := []) #[false, false, false, false, false, false, false] (by kernel_rfl) rfl rfl trivial (fun hHeld => ?_)
  refine pure_ (i := 0) (N := some 18) (v := ?_) (a' := ?_) #[true, false, false, false, false, false, false] rfl rfl (by kernel_rfl) (fun _ _ _ h => h) (Or.inl ⟨by rfl, ?_⟩) ?_ ?_
  rotate_left
  ·intro w'
   go_simp
   with_reducible rfl
  rotate_left
  ·simp only [puts_]
   rfl
  refine pure_ (i := 1) (N := some 19) (v := ?_) (a' := ?_) #[true, true, false, false, false, false, false] rfl rfl (by kernel_rfl) (fun _ _ _ h => h) (Or.inl ⟨by rfl, ?_⟩) ?_ ?_
  rotate_left
  ·intro w'
   go_simp
   with_reducible rfl
  rotate_left
  ·simp only [puts_]
   rfl
  refine pure_ (i := 3) (N := some 21) (v := ?_) (a' := ?_) #[true, true, false, true, false, false, false] rfl rfl (by kernel_rfl) (fun _ _ _ h => h) (Or.inl ⟨by rfl, ?_⟩) ?_ ?_
  rotate_left
  ·intro w'
   go_simp
   with_reducible rfl
  rotate_left
  ·simp only [puts_]
   rfl
  refine take_ (i := 2) (N := some 20) (v := ?_) (a' := ?_) #[true, true, true, true, false, false, false] rfl rfl (by kernel_rfl) (fun _ _ _ h => h) (Or.inl ⟨by rfl, ?_⟩) hHeld ?_ ?_
  rotate_left
  ·intro w' _
   go_simp
   with_reducible rfl
  rotate_left
  ·simp only [puts_]
   rfl
  refine one_ (i := 4) (N := some 22) #[true, true, true, true, true, false, false] rfl rfl (by kernel_rfl) (by decide) (fun K hK => ?_)
  refine goes_ Try.func89 (by kernel_rfl) rfl #[.string a0] (by rfl) rfl rfl (by simp only [List.map_toArray, List.map_cons, List.map_nil]; rfl) ?_
  with_reducible refine (udftag_sum.calls k a0 s _ A3_.out).mono ?_
  rintro e w3 ⟨rfl, ⟨nd, rfl⟩⟩
  refine ⟨_, rfl, ?_⟩
  refine hK.out _ _ trivial (fun hHeld => ?_)
  clear hK K
  refine norm_ (a' := ?_) ?_ ?_
  rotate_left
  ·show Act.put _ (some 22) _ = _
   simp only [puts_]
   rfl
  refine pure_ (i := 5) (N := some 23) (v := ?_) (a' := ?_) #[true, true, true, true, true, true, false] rfl rfl (by kernel_rfl) (fun _ _ _ h => h) (Or.inl ⟨by rfl, ?_⟩) ?_ ?_
  rotate_left
  ·intro w'
   go_simp
   with_reducible rfl
  rotate_left
  ·simp only [puts_]
   rfl
  refine one_ (i := 6) (N := some 24) #[true, true, true, true, true, true, true] rfl rfl (by kernel_rfl) (by decide) (fun K hK => ?_)
  refine goesC_ Try.func87 (by kernel_rfl) rfl #[.int .i64 2, .bool e1, .pointer (some ⟨w.heap.size, 0, none⟩)] (by rfl) rfl ⟨_, rfl, rfl⟩ (by simp only [List.map_toArray, List.map_cons, List.map_nil, List.append_toArray, List.cons_append, List.nil_append]; rfl) ?_
  with_reducible refine (faults_add w.heap.size w.heap.size [] 2 e1 _ ?sF (by decide) ?sB).mono ?_
  case sF => exact hF.out
  case sB => exact hsz
  rintro e w4 ⟨rfl, hf, hb, hk⟩
  have HF4 := Aside0.mk hf
  have HT4 := Aside0.mk (hk _ _ _ (by decide) (by omega) hT.out)
  have HB4 := Aside0.mk (Below.trans (pw_below_drewN (Below.drew hBB.out) nd) hb)
  have HS4 := HB4.out.size
  clear hf hb hk hF hT hBB
  refine ⟨_, rfl, ?_⟩
  refine hK.out _ _ trivial (fun hHeld => ?_)
  clear hK K
  refine norm_ (a' := ?_) ?_ ?_
  rotate_left
  ·show Act.put _ (some 24) _ = _
   simp only [puts_]
   rfl
  refine done_ (by kernel_rfl) ?_
  rcases Bool.eq_false_or_eq_true (v != 2) with hv | hv
  all_goals
   go_wp2_with fail
   with_reducible refine (faults_add w.heap.size w.heap.size _ 3 _ _ HF4.out ?sL HS4).mono ?_
   case sL => (repeat' split) <;> simp
   rintro e w5 ⟨rfl, hf, hb, hk⟩
   have HF5 := Aside0.mk hf
   have HT5 := Aside0.mk (hk _ _ _ (by decide) (by omega) HT4.out)
   have HB5 := Aside0.mk (Below.trans HB4.out hb)
   have HS5 := HB5.out.size
   have m2 : w5.cell? ⟨T, 2, none⟩ = some (.int .i64 t3) := (blk_cell HT5.out 2).trans rfl
   clear hf hb hk
   have hl := A4_.out
   by_cases c3 : t3 > wrap64 ((a0.size : Int) - 16)
   ·rw [if_pos c3] at hl
    have e3 := Option.some.inj hl
    subst e3
    clear hl A4_
    have d3 := decide_eq_true c3
    go_wp2_with fail
    with_reducible refine (faults_add w.heap.size w.heap.size _ 4 _ _ HF5.out ?sL HS5).mono ?_
    case sL => (repeat' split) <;> simp
    rintro e w6 ⟨rfl, hf, hb, hk⟩
    have HF6 := Aside0.mk hf
    have HT6 := Aside0.mk (hk _ _ _ (by decide) (by omega) HT5.out)
    have HB6 := Aside0.mk (Below.trans HB5.out hb)
    have HS6 := HB6.out.size
    have m3 : w6.cell? ⟨T, 3, none⟩ = some (.int .i64 t4) := (blk_cell (hk _ _ _ (by decide) (by omega) HT5.out) 3).trans rfl
    clear hf hb hk
    go_wp2_with fail
    with_reducible refine (faults_add w.heap.size w.heap.size _ 6 _ _ HF6.out ?sL HS6).mono ?_
    case sL => (repeat' split) <;> simp
    rintro e w7 ⟨rfl, hf, hb, hk⟩
    have HF7 := Aside0.mk hf
    have HT7 := Aside0.mk (hk _ _ _ (by decide) (by omega) HT6.out)
    have HB7 := Aside0.mk (Below.trans HB6.out hb)
    have HS7 := HB7.out.size
    obtain ⟨v', cv', hR⟩ := FC_R hf
    clear hf hb hk
    go_wp2
    go_ret
    refine ⟨_, rfl, ?_, HB7.out⟩
    have e : _ = r := A5_.out
    rw [← e]
    refine cast (congrArg (fun q => Kd.R (Kd.int .i64) 3 _ _ (fun _ => True) _ q) ?_) hR
    (rw [← he1]; by_cases z1 : bt a0 4 = s <;> by_cases z2 : v = 2 <;> by_cases z3 : v = 3 <;> by_cases z4 : t4 = a1 <;> simp [z1, z2, z3, z4] <;> simp_all)
   ·rw [if_neg c3] at hl
    by_cases c4 : 16 ≤ wrap64 (16 + t3) ∧ wrap64 (16 + t3) ≤ (a0.size : Int)
    ·rw [if_pos c4] at hl
     obtain ⟨q, hq⟩ : ∃ q, wrap64 (16 + t3) = q := ⟨_, rfl⟩
     simp only [hq] at hl c4
     obtain ⟨c, z1, hl⟩ := Option.bind_eq_some_iff.mp hl
     obtain ⟨d, z2, hl⟩ := Option.bind_eq_some_iff.mp hl
     have C1_ := Aside0.mk z1
     have C2_ := Aside0.mk z2
     have e3 := Option.some.inj hl
     subst e3
     clear hl A4_ z1 z2
     obtain ⟨c5, c6⟩ := c4
     have d3 := decide_eq_false c3
     have d5 := eq_true c5
     have d6 := eq_true c6
     have d7 : (0 : Int) ≤ q := by omega
     go_wp2_with fail
     with_reducible refine (faults_add w.heap.size w.heap.size _ 4 _ _ HF5.out ?sL HS5).mono ?_
     case sL => (repeat' split) <;> simp
     rintro e w6 ⟨rfl, hf, hb, hk⟩
     have HF6 := Aside0.mk hf
     have HT6 := Aside0.mk (hk _ _ _ (by decide) (by omega) HT5.out)
     have HB6 := Aside0.mk (Below.trans HB5.out hb)
     have HS6 := HB6.out.size
     have m2' : w6.cell? ⟨T, 2, none⟩ = some (.int .i64 t3) := (blk_cell (hk _ _ _ (by decide) (by omega) HT5.out) 2).trans rfl
     clear hf hb hk
     clear m2
     go_wp2_with fail
     refine start_ (n := 12) (S := fun w' => w'.cell? ⟨T, 2, none⟩ = some (.int .i64 t3)) (ds := []) #[false, false, false, false, false, false, false, false, false, false, false, false] (by kernel_rfl) rfl rfl (m2') (fun hHeld => ?_)
     refine pure_ (i := 0) (N := some 42) (v := ?_) (a' := ?_) #[true, false, false, false, false, false, false, false, false, false, false, false] rfl rfl (by kernel_rfl) (fun _ _ _ h => h) (Or.inl ⟨by rfl, ?_⟩) ?_ ?_
     rotate_left
     ·intro w'
      go_simp
      with_reducible rfl
     rotate_left
     ·simp only [puts_]
      rfl
     refine pure_ (i := 1) (N := some 43) (v := ?_) (a' := ?_) #[true, true, false, false, false, false, false, false, false, false, false, false] rfl rfl (by kernel_rfl) (fun _ _ _ h => h) (Or.inl ⟨by rfl, ?_⟩) ?_ ?_
     rotate_left
     ·intro w'
      go_simp
      with_reducible rfl
     rotate_left
     ·simp only [puts_]
      rfl
     refine pure_ (i := 3) (N := some 45) (v := ?_) (a' := ?_) #[true, true, false, true, false, false, false, false, false, false, false, false] rfl rfl (by kernel_rfl) (fun _ _ _ h => h) (Or.inl ⟨by rfl, ?_⟩) ?_ ?_
     rotate_left
     ·intro w'
      go_simp
      with_reducible rfl
     rotate_left
     ·simp only [puts_]
      rfl
     refine pure_ (i := 4) (N := some 46) (v := ?_) (a' := ?_) #[true, true, false, true, true, false, false, false, false, false, false, false] rfl rfl (by kernel_rfl) (fun _ _ _ h => h) (Or.inl ⟨by rfl, ?_⟩) ?_ ?_
     rotate_left
     ·intro w'
      go_simp
      with_reducible rfl
     rotate_left
     ·simp only [puts_]
      rfl
     refine take_ (i := 5) (N := some 47) (v := ?_) (a' := ?_) #[true, true, false, true, true, true, false, false, false, false, false, false] rfl rfl (by kernel_rfl) (fun _ _ _ h => h) (Or.inl ⟨by rfl, ?_⟩) hHeld ?_ ?_
     rotate_left
     ·intro w' s0
      go_simp
      with_reducible rfl
     rotate_left
     ·simp only [puts_]
      rfl
     refine pure_ (i := 6) (N := some 48) (v := ?_) (a' := ?_) #[true, true, false, true, true, true, true, false, false, false, false, false] rfl rfl (by kernel_rfl) (fun _ _ _ h => h) (Or.inl ⟨by rfl, ?_⟩) ?_ ?_
     rotate_left
     ·intro w'
      go_simp
      with_reducible rfl
     rotate_left
     ·simp only [puts_]
      rfl
     refine pure_ (i := 7) (N := some 49) (v := ?_) (a' := ?_) #[true, true, false, true, true, true, true, true, false, false, false, false] rfl rfl (by kernel_rfl) (fun _ _ _ h => h) (Or.inl ⟨by rfl, ?_⟩) ?_ ?_
     rotate_left
     ·intro w'
      go_simp
      with_reducible rfl
     rotate_left
     ·simp only [puts_]
      rfl
     refine one_ (i := 2) (N := some 44) #[true, true, true, true, true, true, true, true, false, false, false, false] rfl rfl (by kernel_rfl) (by decide) (fun K hK => ?_)
     refine goes_ Try.func88 (by kernel_rfl) rfl #[.string a0, .int .i64 8, .int .i64 2] (by rfl) rfl rfl (by simp only [List.map_toArray, List.map_cons, List.map_nil]; rfl) ?_
     with_reducible refine (udftag_read.calls k a0 8 2 c _ C1_.out).mono ?_
     rintro e w7 ⟨rfl, hb⟩
     refine ⟨_, rfl, ?_⟩
     have HF7 := Aside0.mk (FC_below (w := w6.drew) HF6.out hb HS6)
     have HT7 := Aside0.mk (blk_below (blk_drew HT6.out) hb)
     have HB7 := Aside0.mk (below_step (below_drew HB6.out) hb)
     have HS7 := HB7.out.size
     clear hb
     refine hK.out _ _ ((blk_cell HT7.out 2).trans rfl) (fun hHeld => ?_)
     clear hK K
     refine norm_ (a' := ?_) ?_ ?_
     rotate_left
     ·show Act.put _ (some 44) _ = _
      simp only [puts_]
      rfl
     refine one_ (i := 8) (N := some 50) #[true, true, true, true, true, true, true, true, true, false, false, false] rfl rfl (by kernel_rfl) (by decide) (fun K hK => ?_)
     refine goes_ Try.func85 (by kernel_rfl) rfl #[.string (a0.extract 16 q.toNat)] (by rfl) rfl rfl (by simp only [List.map_toArray, List.map_cons, List.map_nil]; rfl) ?_
     with_reducible refine (checksum_CRC16.calls _ d _ C2_.out).mono ?_
     rintro e w8 ⟨rfl, hb⟩
     refine ⟨_, rfl, ?_⟩
     have HF8 := Aside0.mk (FC_below HF7.out hb HS7)
     have HT8 := Aside0.mk (blk_below HT7.out hb)
     have HB8 := Aside0.mk (below_step HB7.out hb)
     have HS8 := HB8.out.size
     clear hb
     refine hK.out _ _ ((blk_cell HT8.out 2).trans rfl) (fun hHeld => ?_)
     clear hK K
     refine norm_ (a' := ?_) ?_ ?_
     rotate_left
     ·show Act.put _ (some 50) _ = _
      simp only [puts_]
      rfl
     refine pure_ (i := 9) (N := some 51) (v := ?_) (a' := ?_) #[true, true, true, true, true, true, true, true, true, true, false, false] rfl rfl (by kernel_rfl) (fun _ _ _ h => h) (Or.inl ⟨by rfl, ?_⟩) ?_ ?_
     rotate_left
     ·intro w'
      go_simp
      with_reducible rfl
     rotate_left
     ·simp only [puts_]
      rfl
     refine pure_ (i := 10) (N := some 52) (v := ?_) (a' := ?_) #[true, true, true, true, true, true, true, true, true, true, true, false] rfl rfl (by kernel_rfl) (fun _ _ _ h => h) (Or.inl ⟨by rfl, ?_⟩) ?_ ?_
     rotate_left
     ·intro w'
      go_simp
      with_reducible rfl
     rotate_left
     ·simp only [puts_]
      rfl
     refine one_ (i := 11) (N := some 53) #[true, true, true, true, true, true, true, true, true, true, true, true] rfl rfl (by kernel_rfl) (by decide) (fun K hK => ?_)
     refine goesC_ Try.func87 (by kernel_rfl) rfl #[.int .i64 5, .bool (c != wrap64 d), .pointer (some ⟨w.heap.size, 0, none⟩)] (by rfl) rfl ⟨_, rfl, rfl⟩ (by simp only [List.map_toArray, List.map_cons, List.map_nil, List.append_toArray, List.cons_append, List.nil_append]; rfl) ?_
     with_reducible refine (faults_add w.heap.size w.heap.size _ 5 (c != wrap64 d) _ HF8.out ?sL HS8).mono ?_
     case sL => (repeat' split) <;> simp
     rintro e w9 ⟨rfl, hf, hb, hk⟩
     refine ⟨_, rfl, ?_⟩
     have HF9 := Aside0.mk hf
     have HT9 := Aside0.mk (hk _ _ _ (by decide) (by omega) HT8.out)
     have HB9 := Aside0.mk (Below.trans HB8.out hb)
     have HS9 := HB9.out.size
     have m3 : w9.cell? ⟨T, 3, none⟩ = some (.int .i64 t4) := (blk_cell HT9.out 3).trans rfl
     clear hf hb hk
     refine hK.out _ _ ((blk_cell HT9.out 2).trans rfl) (fun hHeld => ?_)
     clear hK K
     refine norm_ (a' := ?_) ?_ ?_
     rotate_left
     ·show Act.put _ (some 53) _ = _
      simp only [puts_]
      rfl
     refine done_ (by kernel_rfl) ?_
     go_wp2_with fail
     with_reducible refine (faults_add w.heap.size w.heap.size _ 6 _ _ HF9.out ?sL HS9).mono ?_
     case sL => (repeat' split) <;> simp
     rintro e w10 ⟨rfl, hf, hb, hk⟩
     have HF10 := Aside0.mk hf
     have HT10 := Aside0.mk (hk _ _ _ (by decide) (by omega) HT9.out)
     have HB10 := Aside0.mk (Below.trans HB9.out hb)
     have HS10 := HB10.out.size
     obtain ⟨v', cv', hR⟩ := FC_R hf
     clear hf hb hk
     go_wp2
     go_ret
     refine ⟨_, rfl, ?_, HB10.out⟩
     have e : _ = r := A5_.out
     rw [← e]
     refine cast (congrArg (fun q => Kd.R (Kd.int .i64) 3 _ _ (fun _ => True) _ q) ?_) hR
     (rw [← he1]; by_cases z1 : bt a0 4 = s <;> by_cases z2 : v = 2 <;> by_cases z3 : v = 3 <;> by_cases z4 : t4 = a1 <;> by_cases z5 : c = wrap64 d <;> simp [z1, z2, z3, z4, z5] <;> simp_all)
    ·rw [if_neg c4] at hl; cases hl

/-! ### udftag_Is: function 35 -/
def udftag_Is.f (k : Nat) (a0 : ByteArray) (a1 : Int) (a2 : Int) : Option (Bool) := (udftag_Faults.f k a0 a2).bind fun t245 => (if (t245.length : Int) = 0 then ((udftag_values.f k a0).bind fun bt248 => (some (bt248.1 == a1))) else (some false))
theorem udftag_Is.mono : ∀ a0 a1 a2 k, LeO (udftag_Is.f k a0 a1 a2) (udftag_Is.f (k + 1) a0 a1 a2) := by
 intro a0 a1 a2 k
 unfold udftag_Is.f
 repeat' first
   | (with_reducible exact udftag_Faults.mono _ _ _)
   | (with_reducible exact udftag_values.mono _ _)
   | (with_reducible exact LeO.refl _)
   | (with_reducible exact LeO.none _)
   | (with_reducible refine LeO.ite ?_ ?_)
   | (with_reducible refine LeO.bind ?_ (fun _ => ?_))
   | exact udftag_Faults.mono _ _ _
   | exact udftag_values.mono _ _
   | exact LeO.none _
   | refine LeO.ite ?_ ?_
   | refine LeO.bind ?_ (fun _ => ?_)
set_option maxHeartbeats 8000000 in
set_option maxRecDepth 100000 in
theorem udftag_Is.calls (k : Nat) (a0 : ByteArray) (a1 : Int) (a2 : Int) (r : Bool) (w : World) (h : udftag_Is.f k a0 a1 a2 = some r) :
  Calls Try.prog 35 #[.string a0, .int .i64 a1, .int .i64 a2] w fun e w' => e = .returned (.bool r) ∧ Below w.heap.size w w' := by
 have HB := Aside0.mk (Below.refl w.heap.size w)
 have H : ((udftag_Faults.f k a0 a2).bind fun t245 => (if (t245.length : Int) = 0 then ((udftag_values.f k a0).bind fun bt248 => (some (bt248.1 == a1))) else (some false))) = some r := h
 clear h
 replace H := Option.bind_eq_some_iff.mp H
 obtain ⟨t245, A40, H⟩ := H
 replace H : (if (t245.length : Int) = 0 then ((udftag_values.f k a0).bind fun bt248 => (some (bt248.1 == a1))) else (some false)) = some r := H
 have A4 := Aside0.mk A40
 clear A40
 by_cases c5 : (t245.length : Int) = 0
 ·rw [if_pos c5] at H
  have c5b0 : ((t245.length : Int) == 0) = true := beq_iff_eq.mpr c5
  have c5b1 : ((t245.length : Int) != 0) = false := bne_eq_false_iff_eq.mpr c5
  clear c5
  replace H := Option.bind_eq_some_iff.mp H
  obtain ⟨⟨t248, t249, t250, t251⟩, A60, H⟩ := H
  replace H : (some (t248 == a1)) = some r := H
  have A6 := Aside0.mk A60
  clear A60
  obtain rfl := Option.some.inj H
  go_enter Try.func35, Try.ntmps35
  go_wp2_with (first | ((with_reducible refine gate_callee (f := 59) rfl ?_); refine goesL_ (some 9) rfl rfl Try.func59 (by kernel_rfl) rfl #[.string a0, .int .i64 a2] rfl (by (try simp only [List.map_toArray, List.map_cons, List.map_nil]); first | done | rfl | (simp only [List.length_drop, List.length_take]; rfl)) ?_; (with_reducible refine (udftag_Faults.calls k a0 a2 t245 _ A4.out).mono ?_); rintro e w7 ⟨v246, rfl, ho0, hb⟩; refine ⟨_, rfl, ?_⟩; have n0_ := Aside0.mk (Kd.R_lower ho0 (below_size (by repeat (first | (with_reducible first | exact HB.out | apply below_alloc | apply pw_below_drewN | apply below_drew1) | exact HB.out)))); have n1_ := Aside0.mk (below_step (by repeat (first | (with_reducible first | exact HB.out | apply below_alloc | apply pw_below_drewN | apply below_drew1) | exact HB.out)) hb); clear HB; have HO247 := n0_; have HB := n1_; clear n0_ n1_; (try clear hb); (try clear hb2); (try clear hk); (try clear hi); (try clear ho0); obtain ⟨Ao8, co8, eo8⟩ := Kd.R_slice HO247.out; subst eo8) | (go_at_call 60; (with_reducible refine (udftag_values.calls k a0 t248 t249 t250 t251 _ A6.out).mono ?_); rintro e w9 ⟨rfl, hb⟩; have n0_ := Aside0.mk (Kd.R_below (by (with_reducible repeat (first | apply Kd.R_alloc | apply Kd.R_drewN | apply Kd.R_drew)); exact HO247.out) hb); have n1_ := Aside0.mk (below_step (by repeat (first | (with_reducible first | exact HB.out | apply below_alloc | apply pw_below_drewN | apply below_drew1) | exact HB.out)) hb); clear HO247; clear HB; have HO247 := n0_; have HB := n1_; clear n0_ n1_; (try clear hb); (try clear hb2); (try clear hk); (try clear hi)))
  go_ret
  exact ⟨by first | rfl | (simp [errW_none, errW_some] <;> rfl) | (simp [*, errW_none, errW_some] <;> rfl), by repeat (first | (with_reducible first | exact HB.out | apply below_alloc | apply pw_below_drewN | apply below_drew1) | exact HB.out)⟩
 ·rw [if_neg c5] at H
  have c5b0 : ((t245.length : Int) == 0) = false := beq_eq_false_iff_ne.mpr c5
  have c5b1 : ((t245.length : Int) != 0) = true := bne_iff_ne.mpr c5
  have c5b2 : ¬ (t245 = []) := fun h_ => c5 (by rw [h_]; rfl)
  obtain rfl := Option.some.inj H
  go_enter Try.func35, Try.ntmps35
  go_wp2_with (first | ((with_reducible refine gate_callee (f := 59) rfl ?_); refine goesL_ (some 9) rfl rfl Try.func59 (by kernel_rfl) rfl #[.string a0, .int .i64 a2] rfl (by (try simp only [List.map_toArray, List.map_cons, List.map_nil]); first | done | rfl | (simp only [List.length_drop, List.length_take]; rfl)) ?_; (with_reducible refine (udftag_Faults.calls k a0 a2 t245 _ A4.out).mono ?_); rintro e w10 ⟨v246, rfl, ho0, hb⟩; refine ⟨_, rfl, ?_⟩; have n0_ := Aside0.mk (Kd.R_lower ho0 (below_size (by repeat (first | (with_reducible first | exact HB.out | apply below_alloc | apply pw_below_drewN | apply below_drew1) | exact HB.out)))); have n1_ := Aside0.mk (below_step (by repeat (first | (with_reducible first | exact HB.out | apply below_alloc | apply pw_below_drewN | apply below_drew1) | exact HB.out)) hb); clear HB; have HO247 := n0_; have HB := n1_; clear n0_ n1_; (try clear hb); (try clear hb2); (try clear hk); (try clear hi); (try clear ho0); obtain ⟨Ao11, co11, eo11⟩ := Kd.R_slice HO247.out; subst eo11))
  go_ret
  exact ⟨by first | rfl | (simp [errW_none, errW_some] <;> rfl) | (simp [*, errW_none, errW_some] <;> rfl), by repeat (first | (with_reducible first | exact HB.out | apply below_alloc | apply pw_below_drewN | apply below_drew1) | exact HB.out)⟩

-- NOT PRINTED: function 36 (icb_Decode_1)

/-! ### datetime_valid_1: function 100 -/
def datetime_valid_1.f (a0 : Int) (a1 : Int) : Option (Bool) := if a0 ≥ 0 then (some (decide (a0 ≤ a1))) else (some false)
set_option maxHeartbeats 8000000 in
set_option maxRecDepth 100000 in
theorem datetime_valid_1.calls (a0 : Int) (a1 : Int) (r : Bool) (w : World) (h : datetime_valid_1.f a0 a1 = some r) :
  Calls Try.prog 100 #[.int .i64 a0, .int .i64 a1] w fun e w' => e = .returned (.bool r) ∧ Drawn0 w w' := by
 have H : (if a0 ≥ 0 then (some (decide (a0 ≤ a1))) else (some false)) = some r := h
 clear h
 by_cases c3 : a0 ≥ 0
 ·rw [if_pos c3] at H
  have c3b0 : decide (0 ≤ a0) = true := decide_eq_true c3
  clear c3
  obtain rfl := Option.some.inj H
  go_enter Try.func100, Try.ntmps100
  go_wp2
  go_ret
  exact ⟨by first | rfl | (simp; done) | (simp [*]; done), by repeat (first | exact Drawn0.refl _ | apply Drawn0.step)⟩
 ·rw [if_neg c3] at H
  have c3b0 : decide (0 ≤ a0) = false := decide_eq_false c3
  clear c3
  obtain rfl := Option.some.inj H
  go_enter Try.func100, Try.ntmps100
  go_wp2
  go_ret
  exact ⟨by first | rfl | (simp; done) | (simp [*]; done), by repeat (first | exact Drawn0.refl _ | apply Drawn0.step)⟩

end Go.Proofs.Yticmghpnbjhhnab.M
