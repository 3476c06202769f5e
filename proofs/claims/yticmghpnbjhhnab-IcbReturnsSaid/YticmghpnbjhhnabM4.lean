/- Lean functions with the answers of the Go functions that they are named after, and the walks that tie the Go functions to them (written by the program mp.py of this session). -/
import Derived.Test.YticmghpnbjhhnabM0
import Derived.Test.YticmghpnbjhhnabM3
namespace Go.Proofs.Yticmghpnbjhhnab.M
open Go.RowKit Go.Proofs.YticmghpnbjhhnabW.PrintWords Go.Proofs.YticmghpnbjhhnabW.PrintLast Go.Proofs.YticmghpnbjhhnabW.PrintMore
attribute [local go_sem] fieldA50_0 fieldA102_0 max2_int min2_int max_two min_two max_three min_three max_four min_four   -- for this text's walks alone
set_option linter.unusedVariables false
set_option linter.unusedSimpArgs false

/-! ### endian_check: function 46 -/
def endian_check.j0 : Nat → Int → Int → Bool → Option (Int)
 | 0, _, _, _ => none
 | k + 1, x0, x1, x5 => if x5 = true then (some 1) else ((endian_fits.f x0 x1).bind fun t113 => (if t113 = true then (some 0) else (some 2)))
def endian_check.f (k : Nat) (a0 : Int) (a1 : Int) : Option (Int) := if a1 < 1 then (endian_check.j0 k a0 a1 true) else (endian_check.j0 k a0 a1 (decide (a1 > 8)))
theorem endian_check.mono_l : ∀ k, (∀ y0 y1 y2, LeO (endian_check.j0 k y0 y1 y2) (endian_check.j0 (k + 1) y0 y1 y2))
 | 0 => fun _ _ _ r h => by simp [endian_check.j0] at h
 | k + 1 => by
  have ih0 := endian_check.mono_l k
  ·intro y0 y1 y2
   unfold endian_check.j0
   repeat' first
   | (with_reducible exact ih0 _ _ _)
   | (with_reducible exact LeO.refl _)
   | (with_reducible exact LeO.none _)
   | (with_reducible refine LeO.ite ?_ ?_)
   | (with_reducible refine LeO.bind ?_ (fun _ => ?_))
   | exact ih0 _ _ _
   | exact LeO.none _
   | refine LeO.ite ?_ ?_
   | refine LeO.bind ?_ (fun _ => ?_)
theorem endian_check.mono : ∀ a0 a1 k, LeO (endian_check.f k a0 a1) (endian_check.f (k + 1) a0 a1) := by
 intro a0 a1 k
 have ih0 := endian_check.mono_l k
 unfold endian_check.f
 repeat' first
   | (with_reducible exact ih0 _ _ _)
   | (with_reducible exact LeO.refl _)
   | (with_reducible exact LeO.none _)
   | (with_reducible refine LeO.ite ?_ ?_)
   | (with_reducible refine LeO.bind ?_ (fun _ => ?_))
   | exact ih0 _ _ _
   | exact LeO.none _
   | refine LeO.ite ?_ ?_
   | refine LeO.bind ?_ (fun _ => ?_)
set_option maxHeartbeats 8000000 in
set_option maxRecDepth 100000 in
theorem endian_check.calls (k : Nat) (a0 : Int) (a1 : Int) (r : Int) (w : World) (h : endian_check.f k a0 a1 = some r) :
  Calls Try.prog 46 #[.int .i64 a0, .int .i64 a1] w fun e w' => e = .returned (.int .i64 r) ∧ Drawn0 w w' := by
 have H : (if a1 < 1 then (endian_check.j0 k a0 a1 true) else (endian_check.j0 k a0 a1 (decide (a1 > 8)))) = some r := h
 clear h
 have HC3 := Aside0.mk H
 clear H
 go_enter Try.func46, Try.ntmps46
 go_upto_region 1 with (fail)
 go_cut [5] (fun v5 wc => ∃ (kq : Nat) (x5_2 : Bool), v5 = .bool x5_2 ∧ Aside0 (endian_check.j0 kq a0 a1 x5_2 = some r) ∧ Aside0 (kq ≤ k) ∧ Drawn0 w wc)
 case first =>
  have H := HC3.out
  clear HC3
  by_cases c4 : a1 < 1
  ·rw [if_pos c4] at H
   have c4b0 : decide (a1 < 1) = true := decide_eq_true c4
   clear c4
   (first | rw [c4b0] | (simp only [i64_w, i32_w]; rw [c4b0]) | skip)
   have H' := Aside0.mk H
   clear H
   go_wp2
   go_meet
   case rel => exact ⟨_, (true), (by first | rfl | (simp; done) | (simp [*]; done)), H', ⟨by first | omega | exact Nat.le_refl _⟩, by repeat (first | exact Drawn0.refl _ | apply Drawn0.step)⟩
  ·rw [if_neg c4] at H
   have c4b0 : decide (a1 < 1) = false := decide_eq_false c4
   clear c4
   (first | rw [c4b0] | (simp only [i64_w, i32_w]; rw [c4b0]) | skip)
   have H' := Aside0.mk H
   clear H
   go_wp2
   go_meet
   case rel => exact ⟨_, (decide (a1 > 8)), (by first | rfl | (simp; done) | (simp [*]; done)), H', ⟨by first | omega | exact Nat.le_refl _⟩, by repeat (first | exact Drawn0.refl _ | apply Drawn0.step)⟩
 case rest =>
  clear HC3
  try clear p2
  try clear c4
  try clear c4b0
  obtain ⟨kq, x5_2, rfl, HA, HJ2, ⟨mc2, rfl⟩⟩ := hcut
  cases kq with
  | zero => exact absurd HA.out (by simp [endian_check.j0])
  | succ kj2 =>
   have H := HA.out
   clear HA
   simp only [endian_check.j0] at H
   by_cases c5 : x5_2 = true
   ·subst c5
    have H1 : (some 1) = some r := by rw [if_pos rfl] at H; exact H
    clear H
    have H := H1
    clear H1
    obtain rfl := Option.some.inj H
    go_wp2
    go_ret
    exact ⟨by first | rfl | (simp; done) | (simp [*]; done), by repeat (first | exact Drawn0.refl _ | apply Drawn0.step)⟩
   ·replace c5 := Bool.eq_false_iff.mpr c5
    subst c5
    have H1 : ((endian_fits.f a0 a1).bind fun t113 => (if t113 = true then (some 0) else (some 2))) = some r := by rw [if_neg (show ¬ (false = true) by decide)] at H; exact H
    clear H
    have H := H1
    clear H1
    replace H := Option.bind_eq_some_iff.mp H
    obtain ⟨t113, A60, H⟩ := H
    replace H : (if t113 = true then (some 0) else (some 2)) = some r := H
    have A6 := Aside0.mk A60
    clear A60
    by_cases c7 : t113 = true
    ·subst c7
     have H1 : (some 0) = some r := by rw [if_pos rfl] at H; exact H
     clear H
     have H := H1
     clear H1
     obtain rfl := Option.some.inj H
     go_wp2_with (first | ((with_reducible refine gate_callee (f := 71) rfl ?_); refine goesL_ (some 15) rfl rfl Try.func71 (by kernel_rfl) rfl #[.int .i64 a0, .int .i64 a1] rfl (by (try simp only [List.map_toArray, List.map_cons, List.map_nil]); first | done | rfl | (simp only [List.length_drop, List.length_take]; rfl)) ?_; (with_reducible refine (endian_fits.calls a0 a1 true _ A6.out).mono ?_); rintro e w' ⟨rfl, ⟨nd, rfl⟩⟩; refine ⟨_, rfl, ?_⟩))
     go_ret
     exact ⟨by first | rfl | (simp; done) | (simp [*]; done), by repeat (first | exact Drawn0.refl _ | apply Drawn0.step)⟩
    ·replace c7 := Bool.eq_false_iff.mpr c7
     subst c7
     have H1 : (some 2) = some r := by rw [if_neg (show ¬ (false = true) by decide)] at H; exact H
     clear H
     have H := H1
     clear H1
     obtain rfl := Option.some.inj H
     go_wp2_with (first | ((with_reducible refine gate_callee (f := 71) rfl ?_); refine goesL_ (some 15) rfl rfl Try.func71 (by kernel_rfl) rfl #[.int .i64 a0, .int .i64 a1] rfl (by (try simp only [List.map_toArray, List.map_cons, List.map_nil]); first | done | rfl | (simp only [List.length_drop, List.length_take]; rfl)) ?_; (with_reducible refine (endian_fits.calls a0 a1 false _ A6.out).mono ?_); rintro e w' ⟨rfl, ⟨nd, rfl⟩⟩; refine ⟨_, rfl, ?_⟩))
     go_ret
     exact ⟨by first | rfl | (simp; done) | (simp [*]; done), by repeat (first | exact Drawn0.refl _ | apply Drawn0.step)⟩

-- NOT PRINTED: function 47 (endian_write)

/-! ### endian_up_1: function 72 -/
def endian_up_1.f (a0 : Int) : Option (Int) := some a0
set_option maxHeartbeats 8000000 in
set_option maxRecDepth 100000 in
theorem endian_up_1.calls (a0 : Int) (r : Int) (w : World) (h : endian_up_1.f a0 = some r) :
  Calls Try.prog 72 #[.int .i64 a0] w fun e w' => e = .returned (.int .i64 r) ∧ Drawn0 w w' := by
 have H : (some a0) = some r := h
 clear h
 obtain rfl := Option.some.inj H
 go_enter Try.func72, Try.ntmps72
 go_wp2
 go_ret
 exact ⟨by first | rfl | (simp; done) | (simp [*]; done), by repeat (first | exact Drawn0.refl _ | apply Drawn0.step)⟩

/-! ### endian_up: function 48 -/
def endian_up.f (a0 : Int) : Option (Unit) := some ()
set_option maxHeartbeats 8000000 in
set_option maxRecDepth 100000 in
theorem endian_up.calls (a0 : Int) (w : World) (h : endian_up.f a0 = some ()) :
  Calls Try.prog 48 #[.int .i64 a0] w fun e w' => e = .returned (.func (.func 72) #[] #[]) ∧ Drawn0 w w' := by
 have H : (some ()) = some () := h
 clear h
 go_enter Try.func48, Try.ntmps48
 go_wp2
 go_ret
 exact ⟨by first | rfl | (simp; done) | (simp [*]; done), by repeat (first | exact Drawn0.refl _ | apply Drawn0.step)⟩

/-! ### endian_write_at_endian_up_1: function 47 -/
def endian_write_at_endian_up_1.l0 : Nat → Int → List Int → Int → Int → Option (ByteArray)
 | 0, _, _, _, _ => none
 | k + 1, x0, x7, x11, x12 => if x12 < x11 then ((endian_up_1.f x12).bind fun t117 => (if 0 ≤ (wrap64 (8 * x12)) then (if 0 ≤ t117 then (if t117 < (x7.length : Int) then (endian_write_at_endian_up_1.l0 k x0 (x7.set (t117 : Int).toNat ((shr .i64 x0 (wrap64 (8 * x12))) % 256)) x11 (wrap64 (x12 + 1))) else (none)) else (none)) else (none))) else (some (strOfNums x7))
def endian_write_at_endian_up_1.f (k : Nat) (a0 : Int) (a1 : Int)  : Option (ByteArray) := if 0 ≤ a1 then (if (a1 : Int).toNat ≤ 281474976710656 then (endian_write_at_endian_up_1.l0 k a0 (List.replicate (a1 : Int).toNat 0) a1 0) else (none)) else (none)
theorem endian_write_at_endian_up_1.mono_l : ∀ k, (∀ y0 y1 y2 y3, LeO (endian_write_at_endian_up_1.l0 k y0 y1 y2 y3) (endian_write_at_endian_up_1.l0 (k + 1) y0 y1 y2 y3))
 | 0 => fun _ _ _ _ r h => by simp [endian_write_at_endian_up_1.l0] at h
 | k + 1 => by
  have ih0 := endian_write_at_endian_up_1.mono_l k
  ·intro y0 y1 y2 y3
   unfold endian_write_at_endian_up_1.l0
   repeat' first
   | (with_reducible exact ih0 _ _ _ _)
   | (with_reducible exact LeO.refl _)
   | (with_reducible exact LeO.none _)
   | (with_reducible refine LeO.ite ?_ ?_)
   | (with_reducible refine LeO.bind ?_ (fun _ => ?_))
   | exact ih0 _ _ _ _
   | exact LeO.none _
   | refine LeO.ite ?_ ?_
   | refine LeO.bind ?_ (fun _ => ?_)
theorem endian_write_at_endian_up_1.mono : ∀ a0 a1 k, LeO (endian_write_at_endian_up_1.f k a0 a1) (endian_write_at_endian_up_1.f (k + 1) a0 a1) := by
 intro a0 a1 k
 have ih0 := endian_write_at_endian_up_1.mono_l k
 unfold endian_write_at_endian_up_1.f
 repeat' first
   | (with_reducible exact ih0 _ _ _ _)
   | (with_reducible exact LeO.refl _)
   | (with_reducible exact LeO.none _)
   | (with_reducible refine LeO.ite ?_ ?_)
   | (with_reducible refine LeO.bind ?_ (fun _ => ?_))
   | exact ih0 _ _ _ _
   | exact LeO.none _
   | refine LeO.ite ?_ ?_
   | refine LeO.bind ?_ (fun _ => ?_)
def endian_write_at_endian_up_1.T5 : Bool × List (List Nat × List Nat) := (true, [([], []), ([], []), ([], []), ([1, 2], [1, 2]), ([], []), ([], []), ([5], [5]), ([4, 6], [4, 6]), ([7], [7]), ([0, 3, 0, 1, 2, 3, 4, 5, 6, 7, 8], [0, 3]), ([9, 8, 3, 0, 1, 2, 3, 4, 5, 6, 7, 8], [8, 9])])
def endian_write_at_endian_up_1.B5 : List Nat := [0, 0, 0, 6, 0, 0, 32, 112, 240, 511, 1023]
theorem endian_write_at_endian_up_1.tab5 : rtab .any (opsOf Try.f47 5) = endian_write_at_endian_up_1.T5 := by kernel_rfl
theorem endian_write_at_endian_up_1.bits5 : waitsOk endian_write_at_endian_up_1.T5.2 endian_write_at_endian_up_1.B5 = true := by kernel_rfl
set_option maxHeartbeats 8000000 in
set_option maxRecDepth 100000 in
theorem endian_write_at_endian_up_1.calls (k : Nat) (a0 : Int) (a1 : Int)  (r : ByteArray) (w : World) (h : endian_write_at_endian_up_1.f k a0 a1 = some r) :
  Calls Try.prog 47 #[.int .i64 a0, .int .i64 a1, .func (.func 72) #[] #[]] w fun e w' => e = .returned (.string r) ∧ Below w.heap.size w w' := by
 have HB := Aside0.mk (Below.refl w.heap.size w)
 have H : (if 0 ≤ a1 then (if (a1 : Int).toNat ≤ 281474976710656 then (endian_write_at_endian_up_1.l0 k a0 (List.replicate (a1 : Int).toNat 0) a1 0) else (none)) else (none)) = some r := h
 clear h
 by_cases c4 : 0 ≤ a1
 ·rw [if_pos c4] at H
  have c4b0 := eq_true c4
  have c4b1 : decide (0 ≤ a1) = true := decide_eq_true c4
  clear c4
  by_cases c5 : (a1 : Int).toNat ≤ 281474976710656
  ·rw [if_pos c5] at H
   have c5b0 := eq_true c5
   have c5b1 : decide ((a1 : Int).toNat ≤ 281474976710656) = true := decide_eq_true c5
   clear c5
   obtain ⟨y114, hy114⟩ : ∃ y_ : List Int, y_ = (List.replicate (a1 : Int).toNat 0) := ⟨_, rfl⟩
   replace H : (endian_write_at_endian_up_1.l0 k a0 y114 a1 0) = some r := by first | (rw [hy114]; with_reducible exact H) | (have H2_ := (Option.bind_some _ _).symm.trans H; rw [hy114]; with_reducible exact H2_) | (have H2_ := (Option.bind_some _ _).symm.trans H; with_reducible exact H2_) | with_reducible exact H | (rw [hy114]; exact H) | exact H
   have Ny114 := Aside0.mk hy114
   clear hy114
   have H' := Aside0.mk H
   clear H
   go_enter Try.func47, Try.ntmps47
   go_wp2_with (first | ((with_reducible refine gate_dst (N := 10) rfl ?_); refine Kd.R_make (Kd.int .u8) _ 5 rfl (N := 10) rfl 54 _ _ rfl a1 rfl rfl Try.underlying54 (.int .u8 0) 1 info5 rfl (by decide) (by omega) 0 (ok := fun _ => True) (okp := fun _ => True) rfl (fun _ hk => hk) trivial (of_decide_eq_true (by first | (with_reducible assumption) | assumption)) (Nat.le_trans (Nat.mul_le_mul_right _ (of_decide_eq_true (by first | (with_reducible assumption) | assumption) : a1.toNat ≤ 281474976710656)) (by omega)) (Below.refl _ _) (Nat.le_refl _) ?_; intro v115 w6 ho7 hb hg_ hnew_; clear hg_ hnew_; (first | rw [← Ny114.out] at ho7 | (simp only [Int.reduceToNat] at ho7; rw [← Ny114.out] at ho7)); have n0_ := Aside0.mk (Kd.R_lower ho7 (below_size (by repeat (first | (with_reducible first | exact HB.out | apply below_alloc | apply pw_below_drewN | apply below_drew1) | exact HB.out)))); have n1_ := Aside0.mk (below_step (by repeat (first | (with_reducible first | exact HB.out | apply below_alloc | apply pw_below_drewN | apply below_drew1) | exact HB.out)) hb); clear HB; have HO116 := n0_; have HB := n1_; clear n0_ n1_; clear hb ho7))
   go_loopg [12] k (fun kq v12 w' => ∃ (x7_1 : List Int) (x12_1 : Int), v12 = .int .i64 x12_1 ∧ Aside0 (endian_write_at_endian_up_1.l0 kq a0 x7_1 a1 x12_1 = some r) ∧ Aside0 (kq ≤ k) ∧ Aside0 (Kd.R (Kd.int .u8) 5 w' w.heap.size (fun _ => True) v115 x7_1) ∧ Aside0 (Below w.heap.size w w'))
   case atStart => exact ⟨(y114), (0), (by first | rfl | (simp; done) | (simp [*]; done)), H', ⟨Nat.le_refl _⟩, ⟨by (with_reducible repeat (first | apply Kd.R_alloc | apply Kd.R_drewN | apply Kd.R_drew)); exact HO116.out⟩, ⟨by repeat (first | (with_reducible first | exact HB.out | apply below_alloc | apply pw_below_drewN | apply below_drew1) | exact HB.out)⟩⟩
   case round =>
    clear H'
    try clear p2
    try clear c4
    try clear c4b0
    try clear c4b1
    try clear c5
    try clear c5b0
    try clear c5b1
    try clear c7
    obtain ⟨x7_1, x12_1, rfl, HA, HK1, HO_7, HB⟩ := hrel
    cases gk with
    | zero => exact absurd HA.out (by simp [endian_write_at_endian_up_1.l0])
    | succ k1 =>
     have H := HA.out
     clear HA
     simp only [endian_write_at_endian_up_1.l0] at H
     by_cases c8 : x12_1 < a1
     ·rw [if_pos c8] at H
      have c8b0 : decide (x12_1 < a1) = true := decide_eq_true c8
      clear c8
      replace H := Option.bind_eq_some_iff.mp H
      obtain ⟨t117, A90, H⟩ := H
      replace H : (if 0 ≤ (wrap64 (8 * x12_1)) then (if 0 ≤ t117 then (if t117 < (x7_1.length : Int) then (endian_write_at_endian_up_1.l0 k1 a0 (x7_1.set (t117 : Int).toNat ((shr .i64 a0 (wrap64 (8 * x12_1))) % 256)) a1 (wrap64 (x12_1 + 1))) else (none)) else (none)) else (none)) = some r := H
      have A9 := Aside0.mk A90
      clear A90
      obtain ⟨ji10, hji10⟩ : ∃ j_ : Int, (wrap64 (8 * x12_1)) = j_ := ⟨_, rfl⟩
      replace H : (if 0 ≤ (ji10) then (if 0 ≤ t117 then (if t117 < (x7_1.length : Int) then (endian_write_at_endian_up_1.l0 k1 a0 (x7_1.set (t117 : Int).toNat ((shr .i64 a0 (ji10)) % 256)) a1 (wrap64 (x12_1 + 1))) else (none)) else (none)) else (none)) = some r := by first | (rw [hji10] at H; exact H) | (simp only [hji10] at H ⊢; exact H)
      (try rw [hji10] at A9)
      have hji10w : (IntKind.i64.wrap (8 * x12_1)) = ji10 := (i64_w _).trans hji10
      by_cases c11 : 0 ≤ (ji10)
      ·rw [if_pos c11] at H
       have c11b0 := eq_true c11
       have c11b1 : decide (0 ≤ (ji10)) = true := decide_eq_true c11
       clear c11
       obtain ⟨ji12, hji12⟩ : ∃ j_ : Int, (shr .i64 a0 (ji10)) = j_ := ⟨_, rfl⟩
       replace H : (if 0 ≤ t117 then (if t117 < (x7_1.length : Int) then (endian_write_at_endian_up_1.l0 k1 a0 (x7_1.set (t117 : Int).toNat ((ji12) % 256)) a1 (wrap64 (x12_1 + 1))) else (none)) else (none)) = some r := by first | (rw [hji12] at H; exact H) | (simp only [hji12] at H ⊢; exact H)
       (try rw [hji12] at A9)
       have hji12_ : (a0 / 2 ^ min (ji10).toNat 64) = ji12 := hji12
       have hji12z : (ji10) ≤ 64 → (a0 / 2 ^ (ji10).toNat) = ji12 := shr_small hji12
       by_cases c13 : 0 ≤ t117
       ·rw [if_pos c13] at H
        have c13b0 : decide (0 ≤ t117) = true := decide_eq_true c13
        clear c13
        by_cases c14 : t117 < (x7_1.length : Int)
        ·rw [if_pos c14] at H
         have c14b0 : decide (t117 < (x7_1.length : Int)) = true := decide_eq_true c14
         clear c14
         obtain ⟨y118, hy118⟩ : ∃ y_ : List Int, y_ = (x7_1.set (t117 : Int).toNat ((ji12) % 256)) := ⟨_, rfl⟩
         replace H : (endian_write_at_endian_up_1.l0 k1 a0 y118 a1 (wrap64 (x12_1 + 1))) = some r := by first | (rw [hy118]; with_reducible exact H) | (have H2_ := (Option.bind_some _ _).symm.trans H; rw [hy118]; with_reducible exact H2_) | (have H2_ := (Option.bind_some _ _).symm.trans H; with_reducible exact H2_) | with_reducible exact H | (rw [hy118]; exact H) | exact H
         have Ny118 := Aside0.mk hy118
         clear hy118
         have H' := Aside0.mk H
         clear H
         try go_wp2
         have n0_ := Aside0.mk (Kd.R_drew HO_7.out)
         have n1_ := Aside0.mk (below_drew1 HB.out)
         clear HO_7
         clear HB
         have HO_7 := n0_
         have HB := n1_
         clear n0_ n1_
         refine start_ (n := 11) (S := fun w' => True) (ds := [10]) (bm 11 0) (by kernel_rfl) rfl rfl trivial (fun hHeld => ?_); refine with_tabW endian_write_at_endian_up_1.tab5 endian_write_at_endian_up_1.bits5 (fun HT_ HW_ => ?_)
         generalize wr.drew = w16 at HO_7 HB hHeld ⊢
         refine pure_ (i := 0) (N := some 15) (v := ?_) (a' := ?_) (bm 11 1) rfl rfl (any_of HT_.out (by kernel_rfl)) (fun _ _ _ h => h) (Or.inl ⟨by rfl, ?_⟩) ?_ ?_; rotate_left; (intro w'; go_simp; with_reducible rfl); rotate_left; (simp only [puts_]; rfl)
         refine pure_ (i := 1) (N := some 16) (v := ?_) (a' := ?_) (bm 11 3) rfl rfl (any_of HT_.out (by kernel_rfl)) (fun _ _ _ h => h) (Or.inl ⟨by rfl, ?_⟩) ?_ ?_; rotate_left; (intro w'; go_simp; with_reducible rfl); rotate_left; (simp only [puts_]; rfl)
         refine pure_ (i := 2) (N := some 17) (v := ?_) (a' := ?_) (bm 11 7) rfl rfl (any_of HT_.out (by kernel_rfl)) (fun _ _ _ h => h) (Or.inl ⟨by rfl, ?_⟩) ?_ ?_; rotate_left; (intro w'; go_simp; with_reducible rfl); rotate_left; (simp only [puts_]; rfl)
         refine pure_ (i := 4) (N := some 19) (v := ?_) (a' := ?_) (bm 11 23) rfl rfl (any_of HT_.out (by kernel_rfl)) (fun _ _ _ h => h) (Or.inl ⟨by rfl, ?_⟩) ?_ ?_; rotate_left; (intro w'; go_simp; with_reducible rfl); rotate_left; (simp only [puts_]; rfl)
         refine pure_ (i := 5) (N := some 20) (v := ?_) (a' := ?_) (bm 11 55) rfl rfl (any_of HT_.out (by kernel_rfl)) (fun _ _ _ h => h) (Or.inl ⟨by rfl, ?_⟩) ?_ ?_; rotate_left; (intro w'; go_simp; with_reducible rfl); rotate_left; (simp only [puts_]; rfl)
         refine pure_ (i := 6) (N := some 21) (v := ?_) (a' := ?_) (bm 11 119) rfl rfl (any_of HT_.out (by kernel_rfl)) (fun _ _ _ h => h) (Or.inl ⟨by rfl, ?_⟩) ?_ ?_; rotate_left; (intro w'; go_simp; with_reducible rfl); rotate_left; (simp only [puts_]; rfl)
         refine pure_ (i := 7) (N := some 22) (v := ?_) (a' := ?_) (bm 11 247) rfl rfl (any_of HT_.out (by kernel_rfl)) (fun _ _ _ h => h) (Or.inl ⟨by rfl, ?_⟩) ?_ ?_; rotate_left; (intro w'; go_simp; with_reducible rfl); rotate_left; (simp only [puts_]; rfl)
         refine pure_ (i := 8) (N := some 23) (v := ?_) (a' := ?_) (bm 11 503) rfl rfl (any_of HT_.out (by kernel_rfl)) (fun _ _ _ h => h) (Or.inl ⟨by rfl, ?_⟩) ?_ ?_; rotate_left; (intro w'; go_simp; with_reducible rfl); rotate_left; (simp only [puts_]; rfl)
         refine one_ (i := 3) (N := some 18) (bm 11 511) rfl rfl (one_of HT_.out (by kernel_rfl)) (by decide) (fun K hK => ?_)
         first | refine goes_ Try.func72 (by kernel_rfl) rfl #[.int .i64 x12_1] (by rfl) rfl rfl (by (try simp only [List.map_toArray, List.map_cons, List.map_nil]); first | done | rfl | (simp only [List.length_drop, List.length_take]; rfl)) ?_ | refine goesV_ Try.func72 (by kernel_rfl) rfl #[.int .i64 x12_1] (by rfl) rfl ⟨_, rfl, rfl⟩ (by (try simp only [List.map_toArray, List.map_cons, List.map_nil]); first | done | rfl | (simp only [List.length_drop, List.length_take]; rfl)) ?_
         with_reducible refine (endian_up_1.calls x12_1 t117 _ A9.out).mono ?_
         rintro e w' ⟨rfl, ⟨nd, rfl⟩⟩
         refine ⟨_, rfl, ?_⟩
         have p15 : 0 ≤ (t117 : Int) := of_decide_eq_true (by first | (with_reducible assumption) | assumption)
         have q15 : (t117 : Int) < ((x7_1.length : Int) : Int) := of_decide_eq_true (by first | (with_reducible assumption) | assumption)
         obtain ⟨go15, co15, eo15, gb15, gl15, cl15, HG15⟩ := Kd.R_form HO_7.out (by omega)
         (first | cases eo15 | (injection eo15 with ea_ en_ ec_; (first | subst ea_ | (injection ea_ with ea_; subst ea_)); subst ec_; clear en_))
         have GB15 := Aside0.mk gb15
         have GG15 := Aside0.mk HG15
         clear gb15 gl15 HG15
         obtain ⟨hx15_0, hf15_0⟩ := Kd.R_celln 0 HO_7.out (t117 : Int) p15 q15
         replace p15 := eq_true p15
         replace q15 := eq_true q15
         have HP17 := Kd.R_putn HO_7.out (t117 : Int) ((ji12) % 256)
         rw [← Ny118.out] at HP17
         have HQ17 := Aside0.mk HP17
         clear HP17
         refine hK.out _ _ trivial (fun hHeld => ?_)
         clear hK K
         refine norm_ (a' := ?_) ?_ ?_
         rotate_left
         ·show Act.put _ (some 18) _ = _
          simp only [puts_]
          rfl
         refine pure_ (i := 9) (N := some 24) (v := ?_) (a' := ?_) (bm 11 1023) rfl rfl (any_of HT_.out (by kernel_rfl)) (fun _ _ _ h => h) (Or.inl ⟨by rfl, ?_⟩) ?_ ?_; rotate_left; (intro w'; go_simp; with_reducible rfl); rotate_left; (simp only [puts_]; rfl)
         refine last_ (i := 10) (N := none) (bm 11 2047) rfl rfl (one_of HT_.out (by kernel_rfl)) (by decide) (fun K hK => ?_)
         refine skip_ (w1 := ?_) (by rfl) rfl ?_ ?_
         rotate_left
         ·go_simp
          rfl
         refine hK.out _ _ ?_
         clear hK K
         refine done_ (done_of HT_.out (by kernel_rfl)) ?_
         try go_wp2
         go_roundg k1
         case measure => have := HK1.out; omega
         case rel => exact ⟨(y118), (wrap64 (x12_1 + 1)), (by first | rfl | (simp; done) | (simp [*]; done)), H', ⟨by have := HK1.out; omega⟩, ⟨by (with_reducible repeat (first | apply Kd.R_alloc | apply Kd.R_drewN | apply Kd.R_drew)); exact HQ17.out⟩, ⟨by repeat (first | (with_reducible first | exact HB.out | apply below_alloc | apply pw_below_drewN | apply below_drew1 | refine below_set ?_ GB15.out) | exact HB.out)⟩⟩
        ·rw [if_neg c14] at H
         exact absurd H (by simp)
       ·rw [if_neg c13] at H
        exact absurd H (by simp)
      ·rw [if_neg c11] at H
       exact absurd H (by simp)
     ·rw [if_neg c8] at H
      have c8b0 : decide (x12_1 < a1) = false := decide_eq_false c8
      clear c8
      obtain rfl := Option.some.inj H
      have hcv18 := own_string (P := Try.prog) Try.underlying54 Try.underlying5 Try.underlying9 (Kd.own_of_R HO_7.out)
      go_wp2
      go_ret
      exact ⟨by first | rfl | (simp [errW_none, errW_some] <;> rfl) | (simp [*, errW_none, errW_some] <;> rfl), by repeat (first | (with_reducible first | exact HB.out | apply below_alloc | apply pw_below_drewN | apply below_drew1) | exact HB.out)⟩
  ·rw [if_neg c5] at H
   exact absurd H (by simp)
 ·rw [if_neg c4] at H
  exact absurd H (by simp)

/-! ### endian_Little: function 26 -/
def endian_Little.f (k : Nat) (a0 : Int) (a1 : Int) : Option (ByteArray × Int) := (endian_check.f k a0 a1).bind fun t119 => (if t119 = 0 then ((endian_up.f a1).bind fun _ => ((endian_write_at_endian_up_1.f k a0 a1).bind fun t121 => (some (t121, 0)))) else (some ((⟨#[]⟩ : ByteArray), t119)))
theorem endian_Little.mono : ∀ a0 a1 k, LeO (endian_Little.f k a0 a1) (endian_Little.f (k + 1) a0 a1) := by
 intro a0 a1 k
 unfold endian_Little.f
 repeat' first
   | (with_reducible exact endian_check.mono _ _ _)
   | (with_reducible exact endian_write_at_endian_up_1.mono _ _ _)
   | (with_reducible exact LeO.refl _)
   | (with_reducible exact LeO.none _)
   | (with_reducible refine LeO.ite ?_ ?_)
   | (with_reducible refine LeO.bind ?_ (fun _ => ?_))
   | exact endian_check.mono _ _ _
   | exact endian_write_at_endian_up_1.mono _ _ _
   | exact LeO.none _
   | refine LeO.ite ?_ ?_
   | refine LeO.bind ?_ (fun _ => ?_)
set_option maxHeartbeats 8000000 in
set_option maxRecDepth 100000 in
theorem endian_Little.calls (k : Nat) (a0 : Int) (a1 : Int) (r1 : ByteArray) (r2 : Int) (w : World) (h : endian_Little.f k a0 a1 = some (r1, r2)) :
  Calls Try.prog 26 #[.int .i64 a0, .int .i64 a1] w fun e w' => e = .returned (.tuple #[.string r1, .int .i64 r2]) ∧ Below w.heap.size w w' := by
 have HB := Aside0.mk (Below.refl w.heap.size w)
 have H : ((endian_check.f k a0 a1).bind fun t119 => (if t119 = 0 then ((endian_up.f a1).bind fun _ => ((endian_write_at_endian_up_1.f k a0 a1).bind fun t121 => (some (t121, 0)))) else (some ((⟨#[]⟩ : ByteArray), t119)))) = some (r1, r2) := h
 clear h
 replace H := Option.bind_eq_some_iff.mp H
 obtain ⟨t119, A30, H⟩ := H
 replace H : (if t119 = 0 then ((endian_up.f a1).bind fun _ => ((endian_write_at_endian_up_1.f k a0 a1).bind fun t121 => (some (t121, 0)))) else (some ((⟨#[]⟩ : ByteArray), t119))) = some (r1, r2) := H
 have A3 := Aside0.mk A30
 clear A30
 by_cases c4 : t119 = 0
 ·rw [if_pos c4] at H
  have c4b0 : (t119 == 0) = true := beq_iff_eq.mpr c4
  have c4b1 : (t119 != 0) = false := bne_eq_false_iff_eq.mpr c4
  clear c4
  replace H := Option.bind_eq_some_iff.mp H
  obtain ⟨_, A50, H⟩ := H
  replace H : ((endian_write_at_endian_up_1.f k a0 a1).bind fun t121 => (some (t121, 0))) = some (r1, r2) := H
  have A5 := Aside0.mk A50
  clear A50
  replace H := Option.bind_eq_some_iff.mp H
  obtain ⟨t121, A60, H⟩ := H
  replace H : (some (t121, 0)) = some (r1, r2) := H
  have A6 := Aside0.mk A60
  clear A60
  simp only [Option.some.injEq, Prod.mk.injEq] at H
  obtain ⟨rfl, rfl⟩ := H
  go_enter Try.func26, Try.ntmps26
  go_wp2_with (first | ((with_reducible refine gate_callee (f := 46) rfl ?_); refine goesL_ (some 9) rfl rfl Try.func46 (by kernel_rfl) rfl #[.int .i64 a0, .int .i64 a1] rfl (by (try simp only [List.map_toArray, List.map_cons, List.map_nil]); first | done | rfl | (simp only [List.length_drop, List.length_take]; rfl)) ?_; (with_reducible refine (endian_check.calls k a0 a1 t119 _ A3.out).mono ?_); rintro e w' ⟨rfl, ⟨nd, rfl⟩⟩; refine ⟨_, rfl, ?_⟩) | ((with_reducible refine gate_callee (f := 48) rfl ?_); refine goesL_ (some 16) rfl rfl Try.func48 (by kernel_rfl) rfl #[.int .i64 a1] rfl (by (try simp only [List.map_toArray, List.map_cons, List.map_nil]); first | done | rfl | (simp only [List.length_drop, List.length_take]; rfl)) ?_; (with_reducible refine (endian_up.calls a1  _ A5.out).mono ?_); rintro e w' ⟨rfl, ⟨nd, rfl⟩⟩; refine ⟨_, rfl, ?_⟩) | (go_at_call 47; (with_reducible refine (endian_write_at_endian_up_1.calls k a0 a1  t121 _ A6.out).mono ?_); rintro e w7 ⟨rfl, hb⟩; have n0_ := Aside0.mk (below_step (by repeat (first | (with_reducible first | exact HB.out | apply below_alloc | apply pw_below_drewN | apply below_drew1) | exact HB.out)) hb); clear HB; have HB := n0_; clear n0_; (try clear hb); (try clear hb2); (try clear hk); (try clear hi)))
  go_ret2
  exact ⟨by first | rfl | (simp [errW_none, errW_some] <;> rfl) | (simp [*, errW_none, errW_some] <;> rfl), by repeat (first | (with_reducible first | exact HB.out | apply below_alloc | apply pw_below_drewN | apply below_drew1) | exact HB.out)⟩
 ·rw [if_neg c4] at H
  have c4b0 : (t119 == 0) = false := beq_eq_false_iff_ne.mpr c4
  have c4b1 : (t119 != 0) = true := bne_iff_ne.mpr c4
  simp only [Option.some.injEq, Prod.mk.injEq] at H
  obtain ⟨rfl, rfl⟩ := H
  go_enter Try.func26, Try.ntmps26
  go_wp2_with (first | ((with_reducible refine gate_callee (f := 46) rfl ?_); refine goesL_ (some 9) rfl rfl Try.func46 (by kernel_rfl) rfl #[.int .i64 a0, .int .i64 a1] rfl (by (try simp only [List.map_toArray, List.map_cons, List.map_nil]); first | done | rfl | (simp only [List.length_drop, List.length_take]; rfl)) ?_; (with_reducible refine (endian_check.calls k a0 a1 t119 _ A3.out).mono ?_); rintro e w' ⟨rfl, ⟨nd, rfl⟩⟩; refine ⟨_, rfl, ?_⟩))
  go_ret2
  exact ⟨by first | rfl | (simp [errW_none, errW_some] <;> rfl) | (simp [*, errW_none, errW_some] <;> rfl), by repeat (first | (with_reducible first | exact HB.out | apply below_alloc | apply pw_below_drewN | apply below_drew1) | exact HB.out)⟩

/-! ### allocation_little: function 45 -/
def allocation_little.f (k : Nat) (a0 : Int) (a1 : Int) : Option (ByteArray) := (endian_Little.f k a0 a1).bind fun bt122 => (some bt122.1)
theorem allocation_little.mono : ∀ a0 a1 k, LeO (allocation_little.f k a0 a1) (allocation_little.f (k + 1) a0 a1) := by
 intro a0 a1 k
 unfold allocation_little.f
 repeat' first
   | (with_reducible exact endian_Little.mono _ _ _)
   | (with_reducible exact LeO.refl _)
   | (with_reducible exact LeO.none _)
   | (with_reducible refine LeO.ite ?_ ?_)
   | (with_reducible refine LeO.bind ?_ (fun _ => ?_))
   | exact endian_Little.mono _ _ _
   | exact LeO.none _
   | refine LeO.ite ?_ ?_
   | refine LeO.bind ?_ (fun _ => ?_)
set_option maxHeartbeats 8000000 in
set_option maxRecDepth 100000 in
theorem allocation_little.calls (k : Nat) (a0 : Int) (a1 : Int) (r : ByteArray) (w : World) (h : allocation_little.f k a0 a1 = some r) :
  Calls Try.prog 45 #[.int .i64 a0, .int .i64 a1] w fun e w' => e = .returned (.string r) ∧ Below w.heap.size w w' := by
 have HB := Aside0.mk (Below.refl w.heap.size w)
 have H : ((endian_Little.f k a0 a1).bind fun bt122 => (some bt122.1)) = some r := h
 clear h
 replace H := Option.bind_eq_some_iff.mp H
 obtain ⟨⟨t122, t123⟩, A30, H⟩ := H
 replace H : (some t122) = some r := H
 have A3 := Aside0.mk A30
 clear A30
 obtain rfl := Option.some.inj H
 go_enter Try.func45, Try.ntmps45
 go_wp2_with (first | ((with_reducible refine gate_callee (f := 26) rfl ?_); refine goesL_ (some 10) rfl rfl Try.func26 (by kernel_rfl) rfl #[.int .i64 a0, .int .i64 a1] rfl (by (try simp only [List.map_toArray, List.map_cons, List.map_nil]); first | done | rfl | (simp only [List.length_drop, List.length_take]; rfl)) ?_; (with_reducible refine (endian_Little.calls k a0 a1 t122 t123 _ A3.out).mono ?_); rintro e w4 ⟨rfl, hb⟩; refine ⟨_, rfl, ?_⟩; have n0_ := Aside0.mk (below_step (by repeat (first | (with_reducible first | exact HB.out | apply below_alloc | apply pw_below_drewN | apply below_drew1) | exact HB.out)) hb); clear HB; have HB := n0_; clear n0_; (try clear hb); (try clear hb2); (try clear hk); (try clear hi)))
 go_ret
 exact ⟨by first | rfl | (simp [errW_none, errW_some] <;> rfl) | (simp [*, errW_none, errW_some] <;> rfl), by repeat (first | (with_reducible first | exact HB.out | apply below_alloc | apply pw_below_drewN | apply below_drew1) | exact HB.out)⟩

-- NOT PRINTED: function 43 (allocation_encode)

/-! ### allocation_EncodeLong_1: function 44 -/
def allocation_EncodeLong_1.f (k : Nat) (a0_0 : Int) (a0_1 : Int) (a0_2 : Int) (a0_3 : Int) : Option (ByteArray) := (allocation_little.f k a0_3 2).bind fun t125 => ((allocation_little.f k 0 6).bind fun t126 => (if t125.size + t126.size ≤ 9223372036854775807 then (some (t125 ++ t126)) else (none)))
theorem allocation_EncodeLong_1.mono : ∀ a0 a1 a2 a3 k, LeO (allocation_EncodeLong_1.f k a0 a1 a2 a3) (allocation_EncodeLong_1.f (k + 1) a0 a1 a2 a3) := by
 intro a0 a1 a2 a3 k
 unfold allocation_EncodeLong_1.f
 repeat' first
   | (with_reducible exact allocation_little.mono _ _ _)
   | (with_reducible exact LeO.refl _)
   | (with_reducible exact LeO.none _)
   | (with_reducible refine LeO.ite ?_ ?_)
   | (with_reducible refine LeO.bind ?_ (fun _ => ?_))
   | exact allocation_little.mono _ _ _
   | exact LeO.none _
   | refine LeO.ite ?_ ?_
   | refine LeO.bind ?_ (fun _ => ?_)
set_option maxHeartbeats 8000000 in
set_option maxRecDepth 100000 in
theorem allocation_EncodeLong_1.calls (k : Nat) (a0_0 : Int) (a0_1 : Int) (a0_2 : Int) (a0_3 : Int) (r : ByteArray) (w : World) (h : allocation_EncodeLong_1.f k a0_0 a0_1 a0_2 a0_3 = some r) :
  Calls Try.prog 44 #[.agg #[.int .i64 a0_0, .int .i64 a0_1, .int .i64 a0_2, .int .i64 a0_3]] w fun e w' => e = .returned (.string r) ∧ Below w.heap.size w w' := by
 have hu69 := Try.underlying69
 have HB := Aside0.mk (Below.refl w.heap.size w)
 have H : ((allocation_little.f k a0_3 2).bind fun t125 => ((allocation_little.f k 0 6).bind fun t126 => (if t125.size + t126.size ≤ 9223372036854775807 then (some (t125 ++ t126)) else (none)))) = some r := h
 clear h
 replace H := Option.bind_eq_some_iff.mp H
 obtain ⟨t125, A20, H⟩ := H
 replace H : ((allocation_little.f k 0 6).bind fun t126 => (if t125.size + t126.size ≤ 9223372036854775807 then (some (t125 ++ t126)) else (none))) = some r := H
 have A2 := Aside0.mk A20
 clear A20
 replace H := Option.bind_eq_some_iff.mp H
 obtain ⟨t126, A30, H⟩ := H
 replace H : (if t125.size + t126.size ≤ 9223372036854775807 then (some (t125 ++ t126)) else (none)) = some r := H
 have A3 := Aside0.mk A30
 clear A30
 by_cases c4 : t125.size + t126.size ≤ 9223372036854775807
 ·rw [if_pos c4] at H
  have c4b0 := eq_true c4
  have c4b1 : decide (t125.size + t126.size ≤ 9223372036854775807) = true := decide_eq_true c4
  try have c4b2 : (9223372036854775807 < t125.size + t126.size) = False := eq_false (Nat.not_lt.2 c4)
  obtain rfl := Option.some.inj H
  go_enter Try.func44, Try.ntmps44
  go_wp2_with (first | ((with_reducible refine gate_dst (N := 1) rfl ?_); refine box_event ?hg (N := 1) ?hd (cs := #[.int .i64 a0_0, .int .i64 a0_1, .int .i64 a0_2, .int .i64 a0_3]) (t := 69) ?hr ?_; (case hd => rfl); (case hg => rfl); (case hr => first | (go_simp; done) | (go_simp; rfl)); intro gb124 hg w5 hbox hb; have n0_ := Aside0.mk (below_step (by repeat (first | (with_reducible first | exact HB.out | apply below_alloc | apply pw_below_drewN | apply below_drew1) | exact HB.out)) hb); have n1_ := Aside0.mk (hbox); have n2_ := Aside0.mk ((by rw [hg]; exact (below_size (by repeat (first | (with_reducible first | exact HB.out | apply below_alloc | apply pw_below_drewN | apply below_drew1) | exact HB.out))) : w.heap.size ≤ gb124)); have n3_ := Aside0.mk ((by rw [hg]; exact (below_size (by repeat (first | (with_reducible first | exact HB.out | apply below_alloc | apply pw_below_drewN | apply below_drew1) | exact HB.out))) : w.heap.size ≤ gb124)); clear HB; have HB := n0_; have BK124 := n1_; have GW124 := n2_; have GE124 := n3_; clear n0_ n1_ n2_ n3_; clear hb hbox hg; obtain ⟨hcz6_0, hcz6_1, hcz6_2, hcz6_3⟩ := cz_4 BK124.out; obtain ⟨hfz6_0, hfz6_1, hfz6_2, hfz6_3⟩ := fz_4 BK124.out) | ((with_reducible refine gate_callee (f := 45) rfl ?_); refine goesL_ (some 6) rfl rfl Try.func45 (by kernel_rfl) rfl #[.int .i64 a0_3, .int .i64 2] rfl (by (try simp only [List.map_toArray, List.map_cons, List.map_nil]); first | done | rfl | (simp only [List.length_drop, List.length_take]; rfl)) ?_; (with_reducible refine (allocation_little.calls k a0_3 2 t125 _ A2.out).mono ?_); rintro e w7 ⟨rfl, hb⟩; refine ⟨_, rfl, ?_⟩; have n0_ := Aside0.mk (blk_below (g := gb124) (o := .cells #[.int .i64 a0_0, .int .i64 a0_1, .int .i64 a0_2, .int .i64 a0_3] 69 (0, 0)) (by (with_reducible repeat (first | refine blk_drewN ?_ _ | refine blk_drew ?_ | refine blk_alloc ?_ _)); exact BK124.out) hb); have n1_ := Aside0.mk (below_step (by repeat (first | (with_reducible first | exact HB.out | apply below_alloc | apply pw_below_drewN | apply below_drew1 | refine below_set ?_ GE124.out) | exact HB.out)) hb); clear BK124; clear HB; have BK124 := n0_; have HB := n1_; clear n0_ n1_; (try clear hb); (try clear hb2); (try clear hk); (try clear hi)) | ((with_reducible refine gate_callee (f := 45) rfl ?_); refine goesL_ (some 7) rfl rfl Try.func45 (by kernel_rfl) rfl #[.int .i64 0, .int .i64 6] rfl (by (try simp only [List.map_toArray, List.map_cons, List.map_nil]); first | done | rfl | (simp only [List.length_drop, List.length_take]; rfl)) ?_; (with_reducible refine (allocation_little.calls k 0 6 t126 _ A3.out).mono ?_); rintro e w8 ⟨rfl, hb⟩; refine ⟨_, rfl, ?_⟩; have n0_ := Aside0.mk (blk_below (g := gb124) (o := .cells #[.int .i64 a0_0, .int .i64 a0_1, .int .i64 a0_2, .int .i64 a0_3] 69 (0, 0)) (by (with_reducible repeat (first | refine blk_drewN ?_ _ | refine blk_drew ?_ | refine blk_alloc ?_ _)); exact BK124.out) hb); have n1_ := Aside0.mk (below_step (by repeat (first | (with_reducible first | exact HB.out | apply below_alloc | apply pw_below_drewN | apply below_drew1 | refine below_set ?_ GE124.out) | exact HB.out)) hb); clear BK124; clear HB; have BK124 := n0_; have HB := n1_; clear n0_ n1_; (try clear hb); (try clear hb2); (try clear hk); (try clear hi)))
  go_ret
  exact ⟨by first | rfl | (simp [errW_none, errW_some] <;> rfl) | (simp [*, errW_none, errW_some] <;> rfl), by repeat (first | (with_reducible first | exact HB.out | apply below_alloc | apply pw_below_drewN | apply below_drew1 | refine below_set ?_ GE124.out) | exact HB.out)⟩
 ·rw [if_neg c4] at H
  exact absurd H (by simp)

/-! ### allocation_encode_at_allocation_EncodeLong_1: function 43 -/
def allocation_encode_at_allocation_EncodeLong_1.l0 : Nat → ByteArray → List (S69) → Int → Int → Option (ByteArray)
 | 0, _, _, _, _ => none
 | k + 1, x5, x8, x9, x10 => if x10 < x9 then (if 0 ≤ x10 then (if x10 < (x8.length : Int) then ((allocation_little.f k (wrap64 (((rd_T69 x8 x10).f1) + (wrap64 (1073741824 * ((rd_T69 x8 x10).f0))))) 4).bind fun t129 => ((allocation_little.f k ((rd_T69 x8 x10).f2.f0) 4).bind fun t130 => (if t129.size + t130.size ≤ 9223372036854775807 then ((allocation_EncodeLong_1.f k ((rd_T69 x8 x10).f0) ((rd_T69 x8 x10).f1) ((rd_T69 x8 x10).f2.f0) ((rd_T69 x8 x10).f2.f1)).bind fun t131 => (if (t129 ++ t130).size + t131.size ≤ 9223372036854775807 then (if x5.size + ((t129 ++ t130) ++ t131).size ≤ 9223372036854775807 then (allocation_encode_at_allocation_EncodeLong_1.l0 k (x5 ++ ((t129 ++ t130) ++ t131)) x8 x9 (wrap64 (x10 + 1))) else (none)) else (none))) else (none)))) else (none)) else (none)) else (some x5)
def allocation_encode_at_allocation_EncodeLong_1.f (k : Nat) (l0 : List (S69))  : Option (ByteArray) := allocation_encode_at_allocation_EncodeLong_1.l0 k (⟨#[]⟩ : ByteArray) l0 (l0.length : Int) 0
theorem allocation_encode_at_allocation_EncodeLong_1.mono_l : ∀ k, (∀ y0 y1 y2 y3, LeO (allocation_encode_at_allocation_EncodeLong_1.l0 k y0 y1 y2 y3) (allocation_encode_at_allocation_EncodeLong_1.l0 (k + 1) y0 y1 y2 y3))
 | 0 => fun _ _ _ _ r h => by simp [allocation_encode_at_allocation_EncodeLong_1.l0] at h
 | k + 1 => by
  have ih0 := allocation_encode_at_allocation_EncodeLong_1.mono_l k
  ·intro y0 y1 y2 y3
   unfold allocation_encode_at_allocation_EncodeLong_1.l0
   repeat' first
   | (with_reducible exact ih0 _ _ _ _)
   | (with_reducible exact allocation_EncodeLong_1.mono _ _ _ _ _)
   | (with_reducible exact allocation_little.mono _ _ _)
   | (with_reducible exact LeO.refl _)
   | (with_reducible exact LeO.none _)
   | (with_reducible refine LeO.ite ?_ ?_)
   | (with_reducible refine LeO.bind ?_ (fun _ => ?_))
   | exact ih0 _ _ _ _
   | exact allocation_EncodeLong_1.mono _ _ _ _ _
   | exact allocation_little.mono _ _ _
   | exact LeO.none _
   | refine LeO.ite ?_ ?_
   | refine LeO.bind ?_ (fun _ => ?_)
theorem allocation_encode_at_allocation_EncodeLong_1.mono : ∀ a0 k, LeO (allocation_encode_at_allocation_EncodeLong_1.f k a0) (allocation_encode_at_allocation_EncodeLong_1.f (k + 1) a0) := by
 intro a0 k
 have ih0 := allocation_encode_at_allocation_EncodeLong_1.mono_l k
 unfold allocation_encode_at_allocation_EncodeLong_1.f
 repeat' first
   | (with_reducible exact ih0 _ _ _ _)
   | (with_reducible exact allocation_EncodeLong_1.mono _ _ _ _ _)
   | (with_reducible exact allocation_little.mono _ _ _)
   | (with_reducible exact LeO.refl _)
   | (with_reducible exact LeO.none _)
   | (with_reducible refine LeO.ite ?_ ?_)
   | (with_reducible refine LeO.bind ?_ (fun _ => ?_))
   | exact ih0 _ _ _ _
   | exact allocation_EncodeLong_1.mono _ _ _ _ _
   | exact allocation_little.mono _ _ _
   | exact LeO.none _
   | refine LeO.ite ?_ ?_
   | refine LeO.bind ?_ (fun _ => ?_)
def allocation_encode_at_allocation_EncodeLong_1.T5 : Bool × List (List Nat × List Nat) := (true, [([], []), ([], []), ([1], [1]), ([], []), ([3], [3]), ([4], [4]), ([2, 5], [2, 5]), ([6], [6]), ([], []), ([8], [8]), ([9], [9]), ([10, 7], [10]), ([7, 11], [7, 11]), ([], []), ([], []), ([13, 14, 11], [13, 14]), ([12, 15], [12, 15]), ([0, 16], [0, 16]), ([17, 15, 0, 1, 2, 3, 4, 5, 6, 7, 8, 9, 10, 11, 12, 13, 14, 15, 16, 17], [0, 17])])
def allocation_encode_at_allocation_EncodeLong_1.B5 : List Nat := [0, 0, 2, 0, 8, 24, 62, 126, 0, 256, 768, 2046, 4094, 0, 0, 28670, 65534, 131071, 262143]
theorem allocation_encode_at_allocation_EncodeLong_1.tab5 : rtab .any (opsOf Try.f43 5) = allocation_encode_at_allocation_EncodeLong_1.T5 := by kernel_rfl
theorem allocation_encode_at_allocation_EncodeLong_1.bits5 : waitsOk allocation_encode_at_allocation_EncodeLong_1.T5.2 allocation_encode_at_allocation_EncodeLong_1.B5 = true := by kernel_rfl
set_option maxHeartbeats 8000000 in
set_option maxRecDepth 100000 in
theorem allocation_encode_at_allocation_EncodeLong_1.calls (k : Nat) (A0 : Option Addr) (c0 : Nat) (l0 : List (S69))  (r : ByteArray) (w : World) (hr0 : Kd.C k69 w A0 l0.length l0) (hc0 : l0.length ≤ c0) (h : allocation_encode_at_allocation_EncodeLong_1.f k l0 = some r) :
  Calls Try.prog 43 #[.slice A0 l0.length c0, .func (.func 44) #[] #[]] w fun e w' => e = .returned (.string r) ∧ Below w.heap.size w w' := by
 have hu69 := Try.underlying69
 have HR0 := Aside0.mk hr0
 have HC0 := Aside0.mk hc0
 clear hr0 hc0
 have HB := Aside0.mk (Below.refl w.heap.size w)
 have H : (allocation_encode_at_allocation_EncodeLong_1.l0 k (⟨#[]⟩ : ByteArray) l0 (l0.length : Int) 0) = some r := h
 clear h
 have H' := Aside0.mk H
 clear H
 go_enter Try.func43, Try.ntmps43
 go_wp2
 go_loopg [5, 10] k (fun kq v5 v10 w' => ∃ (x5_1 : ByteArray) (x10_1 : Int), v5 = .string x5_1 ∧ v10 = .int .i64 x10_1 ∧ Aside0 (allocation_encode_at_allocation_EncodeLong_1.l0 kq x5_1 l0 (l0.length : Int) x10_1 = some r) ∧ Aside0 (kq ≤ k) ∧ Aside0 (Below w.heap.size w w'))
 case atStart => exact ⟨((⟨#[]⟩ : ByteArray)), (0), (by first | rfl | (simp; done) | (simp [*]; done)), (by first | rfl | (simp; done) | (simp [*]; done)), H', ⟨Nat.le_refl _⟩, ⟨by repeat (first | (with_reducible first | exact HB.out | apply below_alloc | apply pw_below_drewN | apply below_drew1) | exact HB.out)⟩⟩
 case round =>
  clear H'
  try clear p2
  obtain ⟨x5_1, x10_1, rfl, rfl, HA, HK1, HB⟩ := hrel
  cases gk with
  | zero => exact absurd HA.out (by simp [allocation_encode_at_allocation_EncodeLong_1.l0])
  | succ k1 =>
   have H := HA.out
   clear HA
   simp only [allocation_encode_at_allocation_EncodeLong_1.l0] at H
   by_cases c3 : x10_1 < (l0.length : Int)
   ·rw [if_pos c3] at H
    have c3b0 : decide (x10_1 < (l0.length : Int)) = true := decide_eq_true c3
    clear c3
    by_cases c4 : 0 ≤ x10_1
    ·rw [if_pos c4] at H
     have c4b0 : decide (0 ≤ x10_1) = true := decide_eq_true c4
     clear c4
     by_cases c5 : x10_1 < (l0.length : Int)
     ·rw [if_pos c5] at H
      have c5b0 : decide (x10_1 < (l0.length : Int)) = true := decide_eq_true c5
      clear c5
      replace H := Option.bind_eq_some_iff.mp H
      obtain ⟨t129, A60, H⟩ := H
      replace H : ((allocation_little.f k1 ((rd_T69 l0 x10_1).f2.f0) 4).bind fun t130 => (if t129.size + t130.size ≤ 9223372036854775807 then ((allocation_EncodeLong_1.f k1 ((rd_T69 l0 x10_1).f0) ((rd_T69 l0 x10_1).f1) ((rd_T69 l0 x10_1).f2.f0) ((rd_T69 l0 x10_1).f2.f1)).bind fun t131 => (if (t129 ++ t130).size + t131.size ≤ 9223372036854775807 then (if x5_1.size + ((t129 ++ t130) ++ t131).size ≤ 9223372036854775807 then (allocation_encode_at_allocation_EncodeLong_1.l0 k1 (x5_1 ++ ((t129 ++ t130) ++ t131)) l0 (l0.length : Int) (wrap64 (x10_1 + 1))) else (none)) else (none))) else (none))) = some r := H
      have A6 := Aside0.mk A60
      clear A60
      replace H := Option.bind_eq_some_iff.mp H
      obtain ⟨t130, A70, H⟩ := H
      replace H : (if t129.size + t130.size ≤ 9223372036854775807 then ((allocation_EncodeLong_1.f k1 ((rd_T69 l0 x10_1).f0) ((rd_T69 l0 x10_1).f1) ((rd_T69 l0 x10_1).f2.f0) ((rd_T69 l0 x10_1).f2.f1)).bind fun t131 => (if (t129 ++ t130).size + t131.size ≤ 9223372036854775807 then (if x5_1.size + ((t129 ++ t130) ++ t131).size ≤ 9223372036854775807 then (allocation_encode_at_allocation_EncodeLong_1.l0 k1 (x5_1 ++ ((t129 ++ t130) ++ t131)) l0 (l0.length : Int) (wrap64 (x10_1 + 1))) else (none)) else (none))) else (none)) = some r := H
      have A7 := Aside0.mk A70
      clear A70
      by_cases c8 : t129.size + t130.size ≤ 9223372036854775807
      ·rw [if_pos c8] at H
       have c8b0 := eq_true c8
       have c8b1 : decide (t129.size + t130.size ≤ 9223372036854775807) = true := decide_eq_true c8
       try have c8b2 : (9223372036854775807 < t129.size + t130.size) = False := eq_false (Nat.not_lt.2 c8)
       replace H := Option.bind_eq_some_iff.mp H
       obtain ⟨t131, A90, H⟩ := H
       replace H : (if (t129 ++ t130).size + t131.size ≤ 9223372036854775807 then (if x5_1.size + ((t129 ++ t130) ++ t131).size ≤ 9223372036854775807 then (allocation_encode_at_allocation_EncodeLong_1.l0 k1 (x5_1 ++ ((t129 ++ t130) ++ t131)) l0 (l0.length : Int) (wrap64 (x10_1 + 1))) else (none)) else (none)) = some r := H
       have A9 := Aside0.mk A90
       clear A90
       by_cases c10 : (t129 ++ t130).size + t131.size ≤ 9223372036854775807
       ·rw [if_pos c10] at H
        have c10b0 := eq_true c10
        have c10b1 : decide ((t129 ++ t130).size + t131.size ≤ 9223372036854775807) = true := decide_eq_true c10
        try have c10b2 : (9223372036854775807 < (t129 ++ t130).size + t131.size) = False := eq_false (Nat.not_lt.2 c10)
        try (have c10b2s := c10b2; simp only [ByteArray.size_append] at c10b2s)
        by_cases c11 : x5_1.size + ((t129 ++ t130) ++ t131).size ≤ 9223372036854775807
        ·rw [if_pos c11] at H
         have c11b0 := eq_true c11
         have c11b1 : decide (x5_1.size + ((t129 ++ t130) ++ t131).size ≤ 9223372036854775807) = true := decide_eq_true c11
         try have c11b2 : (9223372036854775807 < x5_1.size + ((t129 ++ t130) ++ t131).size) = False := eq_false (Nat.not_lt.2 c11)
         try (have c11b2s := c11b2; simp only [ByteArray.size_append] at c11b2s)
         have H' := Aside0.mk H
         clear H
         have p127 : 0 ≤ (x10_1 : Int) := of_decide_eq_true (by first | (with_reducible assumption) | assumption)
         have q127 : x10_1 < (l0.length : Int) := of_decide_eq_true (by first | (with_reducible assumption) | assumption)
         obtain ⟨ad127, e127, hx127_0, hx127_1, hx127_2, hx127_3⟩ := at_T69 HR0.out x10_1 p127 q127
         cases e127
         replace hx127_0 := (HB.out.cell (World.block_lt_of_cell? w _ hx127_0)).trans hx127_0
         replace hx127_1 := (HB.out.cell (World.block_lt_of_cell? w _ hx127_1)).trans hx127_1
         replace hx127_2 := (HB.out.cell (World.block_lt_of_cell? w _ hx127_2)).trans hx127_2
         replace hx127_3 := (HB.out.cell (World.block_lt_of_cell? w _ hx127_3)).trans hx127_3
         replace p127 := eq_true p127
         replace q127 := eq_true q127
         try go_wp2_with (first | ((with_reducible refine gate_dst (N := 7) rfl ?_); refine box_event ?hg (N := 7) ?hd (cs := #[.int .i64 0, .int .i64 0, .int .i64 0, .int .i64 0]) (t := 69) ?hr ?_; (case hd => rfl); (case hg => rfl); (case hr => first | (go_simp; done) | (go_simp; rfl)); intro gb128 hg w12 hbox hb; have n0_ := Aside0.mk (below_step (by repeat (first | (with_reducible first | exact HB.out | apply below_alloc | apply pw_below_drewN | apply below_drew1) | exact HB.out)) hb); have n1_ := Aside0.mk (hbox); have n2_ := Aside0.mk ((by rw [hg]; exact (below_size (by repeat (first | (with_reducible first | exact HB.out | apply below_alloc | apply pw_below_drewN | apply below_drew1) | exact HB.out))) : w.heap.size ≤ gb128)); have n3_ := Aside0.mk ((by rw [hg]; exact (below_size (by repeat (first | (with_reducible first | exact HB.out | apply below_alloc | apply pw_below_drewN | apply below_drew1) | exact HB.out))) : w.heap.size ≤ gb128)); clear HB; have HB := n0_; have BK128 := n1_; have GW128 := n2_; have GE128 := n3_; clear n0_ n1_ n2_ n3_; clear hb hbox hg; obtain ⟨hcz13_0, hcz13_1, hcz13_2, hcz13_3⟩ := cz_4 BK128.out; obtain ⟨hfz13_0, hfz13_1, hfz13_2, hfz13_3⟩ := fz_4 BK128.out))
         have n0_ : Aside0 (((((w12.setCell ⟨gb128, 0, none⟩ (.int .i64 ((rd_T69 l0 x10_1).f0))).setCell ⟨gb128, 1, none⟩ (.int .i64 ((rd_T69 l0 x10_1).f1))).setCell ⟨gb128, 2, none⟩ (.int .i64 ((rd_T69 l0 x10_1).f2.f0))).setCell ⟨gb128, 3, none⟩ (.int .i64 ((rd_T69 l0 x10_1).f2.f1))).heap[gb128]? = some (.cells #[.int .i64 ((rd_T69 l0 x10_1).f0), .int .i64 ((rd_T69 l0 x10_1).f1), .int .i64 ((rd_T69 l0 x10_1).f2.f0), .int .i64 ((rd_T69 l0 x10_1).f2.f1)] 69 (0, 0))) := ⟨by (with_reducible repeat (first | refine blk_drewN ?_ _ | refine blk_drew ?_ | refine blk_alloc ?_ _)); refine blk_put (cs := #[.int .i64 ((rd_T69 l0 x10_1).f0), .int .i64 ((rd_T69 l0 x10_1).f1), .int .i64 ((rd_T69 l0 x10_1).f2.f0), .int .i64 0]) ?_ 3 _ rfl; (with_reducible repeat (first | refine blk_drewN ?_ _ | refine blk_drew ?_ | refine blk_alloc ?_ _)); refine blk_put (cs := #[.int .i64 ((rd_T69 l0 x10_1).f0), .int .i64 ((rd_T69 l0 x10_1).f1), .int .i64 0, .int .i64 0]) ?_ 2 _ rfl; (with_reducible repeat (first | refine blk_drewN ?_ _ | refine blk_drew ?_ | refine blk_alloc ?_ _)); refine blk_put (cs := #[.int .i64 ((rd_T69 l0 x10_1).f0), .int .i64 0, .int .i64 0, .int .i64 0]) ?_ 1 _ rfl; (with_reducible repeat (first | refine blk_drewN ?_ _ | refine blk_drew ?_ | refine blk_alloc ?_ _)); refine blk_put (cs := #[.int .i64 0, .int .i64 0, .int .i64 0, .int .i64 0]) ?_ 0 _ rfl; (with_reducible repeat (first | refine blk_drewN ?_ _ | refine blk_drew ?_ | refine blk_alloc ?_ _)); exact BK128.out⟩
         have n1_ : Aside0 (Below w.heap.size w ((((w12.setCell ⟨gb128, 0, none⟩ (.int .i64 ((rd_T69 l0 x10_1).f0))).setCell ⟨gb128, 1, none⟩ (.int .i64 ((rd_T69 l0 x10_1).f1))).setCell ⟨gb128, 2, none⟩ (.int .i64 ((rd_T69 l0 x10_1).f2.f0))).setCell ⟨gb128, 3, none⟩ (.int .i64 ((rd_T69 l0 x10_1).f2.f1)))) := ⟨by repeat (first | (with_reducible first | exact HB.out | apply below_alloc | apply pw_below_drewN | apply below_drew1 | refine below_set ?_ GE128.out) | exact HB.out)⟩
         (try clear BK128)
         (try clear HB)
         generalize ((((w12.setCell ⟨gb128, 0, none⟩ (.int .i64 ((rd_T69 l0 x10_1).f0))).setCell ⟨gb128, 1, none⟩ (.int .i64 ((rd_T69 l0 x10_1).f1))).setCell ⟨gb128, 2, none⟩ (.int .i64 ((rd_T69 l0 x10_1).f2.f0))).setCell ⟨gb128, 3, none⟩ (.int .i64 ((rd_T69 l0 x10_1).f2.f1))) = w14 at n0_ n1_ ⊢
         have BK128 := n0_
         have HB := n1_
         clear n0_ n1_
         have n0_ := Aside0.mk (blk_drew BK128.out)
         have n1_ := Aside0.mk (below_drew1 HB.out)
         clear BK128
         clear HB
         have BK128 := n0_
         have HB := n1_
         clear n0_ n1_
         refine start_ (n := 19) (S := fun w' => w'.cell? ⟨gb128, 0, none⟩ = some (.int .i64 ((rd_T69 l0 x10_1).f0)) ∧ w'.cell? ⟨gb128, 1, none⟩ = some (.int .i64 ((rd_T69 l0 x10_1).f1)) ∧ w'.cell? ⟨gb128, 2, none⟩ = some (.int .i64 ((rd_T69 l0 x10_1).f2.f0)) ∧ w'.cell? ⟨gb128, 3, none⟩ = some (.int .i64 ((rd_T69 l0 x10_1).f2.f1))) (ds := []) (bm 19 0) (by kernel_rfl) rfl rfl ⟨(blk_cell BK128.out 0).trans rfl, (blk_cell BK128.out 1).trans rfl, (blk_cell BK128.out 2).trans rfl, (blk_cell BK128.out 3).trans rfl⟩ (fun hHeld => ?_); refine with_tabW allocation_encode_at_allocation_EncodeLong_1.tab5 allocation_encode_at_allocation_EncodeLong_1.bits5 (fun HT_ HW_ => ?_)
         generalize w14.drew = w15 at BK128 HB hHeld ⊢
         refine pure_ (i := 0) (N := some 14) (v := ?_) (a' := ?_) (bm 19 1) rfl rfl (any_of HT_.out (by kernel_rfl)) (fun _ _ _ h => h) (Or.inl ⟨by rfl, ?_⟩) ?_ ?_; rotate_left; (intro w'; go_simp; with_reducible rfl); rotate_left; (simp only [puts_]; rfl)
         refine pure_ (i := 1) (N := some 15) (v := ?_) (a' := ?_) (bm 19 3) rfl rfl (any_of HT_.out (by kernel_rfl)) (fun _ _ _ h => h) (Or.inl ⟨by rfl, ?_⟩) ?_ ?_; rotate_left; (intro w'; go_simp; with_reducible rfl); rotate_left; (simp only [puts_]; rfl)
         refine pure_ (i := 3) (N := some 17) (v := ?_) (a' := ?_) (bm 19 11) rfl rfl (any_of HT_.out (by kernel_rfl)) (fun _ _ _ h => h) (Or.inl ⟨by rfl, ?_⟩) ?_ ?_; rotate_left; (intro w'; go_simp; with_reducible rfl); rotate_left; (simp only [puts_]; rfl)
         refine pure_ (i := 8) (N := some 22) (v := ?_) (a' := ?_) (bm 19 267) rfl rfl (any_of HT_.out (by kernel_rfl)) (fun _ _ _ h => h) (Or.inl ⟨by rfl, ?_⟩) ?_ ?_; rotate_left; (intro w'; go_simp; with_reducible rfl); rotate_left; (simp only [puts_]; rfl)
         refine pure_ (i := 9) (N := some 23) (v := ?_) (a' := ?_) (bm 19 779) rfl rfl (any_of HT_.out (by kernel_rfl)) (fun _ _ _ h => h) (Or.inl ⟨by rfl, ?_⟩) ?_ ?_; rotate_left; (intro w'; go_simp; with_reducible rfl); rotate_left; (simp only [puts_]; rfl)
         refine pure_ (i := 13) (N := some 27) (v := ?_) (a' := ?_) (bm 19 8971) rfl rfl (any_of HT_.out (by kernel_rfl)) (fun _ _ _ h => h) (Or.inl ⟨by rfl, ?_⟩) ?_ ?_; rotate_left; (intro w'; go_simp; with_reducible rfl); rotate_left; (simp only [puts_]; rfl)
         refine take_ (i := 2) (N := some 16) (v := ?_) (a' := ?_) (bm 19 8975) rfl rfl (take_ofW HT_.out HW_.out (by kernel_rfl)) (fun _ _ _ h => h) (Or.inl ⟨by rfl, ?_⟩) hHeld ?_ ?_; rotate_left; (rintro w' ⟨s0, s1, s2, s3⟩; go_simp; with_reducible rfl); rotate_left; (simp only [puts_]; rfl)
         refine take_ (i := 4) (N := some 18) (v := ?_) (a' := ?_) (bm 19 8991) rfl rfl (take_ofW HT_.out HW_.out (by kernel_rfl)) (fun _ _ _ h => h) (Or.inl ⟨by rfl, ?_⟩) hHeld ?_ ?_; rotate_left; (rintro w' ⟨s0, s1, s2, s3⟩; go_simp; with_reducible rfl); rotate_left; (simp only [puts_]; rfl)
         refine pure_ (i := 5) (N := some 19) (v := ?_) (a' := ?_) (bm 19 9023) rfl rfl (any_of HT_.out (by kernel_rfl)) (fun _ _ _ h => h) (Or.inl ⟨by rfl, ?_⟩) ?_ ?_; rotate_left; (intro w'; go_simp; with_reducible rfl); rotate_left; (simp only [puts_]; rfl)
         refine pure_ (i := 6) (N := some 20) (v := ?_) (a' := ?_) (bm 19 9087) rfl rfl (any_of HT_.out (by kernel_rfl)) (fun _ _ _ h => h) (Or.inl ⟨by rfl, ?_⟩) ?_ ?_; rotate_left; (intro w'; go_simp; with_reducible rfl); rotate_left; (simp only [puts_]; rfl)
         refine take_ (i := 10) (N := some 24) (v := ?_) (a' := ?_) (bm 19 10111) rfl rfl (take_ofW HT_.out HW_.out (by kernel_rfl)) (fun _ _ _ h => h) (Or.inl ⟨by rfl, ?_⟩) hHeld ?_ ?_; rotate_left; (rintro w' ⟨s0, s1, s2, s3⟩; go_simp; with_reducible rfl); rotate_left; (simp only [puts_]; rfl)
         refine take_ (i := 14) (N := some 28) (v := ?_) (a' := ?_) (bm 19 26495) rfl rfl (take_ofW HT_.out HW_.out (by kernel_rfl)) (fun _ _ _ h => h) (Or.inl ⟨by rfl, ?_⟩) hHeld ?_ ?_; rotate_left; (rintro w' ⟨s0, s1, s2, s3⟩; go_simp; with_reducible rfl); rotate_left; (simp only [puts_]; rfl)
         refine one_ (i := 7) (N := some 21) (bm 19 26623) rfl rfl (one_of HT_.out (by kernel_rfl)) (by decide) (fun K hK => ?_)
         first | refine goes_ Try.func45 (by kernel_rfl) rfl #[.int .i64 (wrap64 (((rd_T69 l0 x10_1).f1) + (wrap64 (1073741824 * ((rd_T69 l0 x10_1).f0))))), .int .i64 4] (by rfl) rfl rfl (by (try simp only [List.map_toArray, List.map_cons, List.map_nil]); first | done | rfl | (simp only [List.length_drop, List.length_take]; rfl)) ?_ | refine goesV_ Try.func45 (by kernel_rfl) rfl #[.int .i64 (wrap64 (((rd_T69 l0 x10_1).f1) + (wrap64 (1073741824 * ((rd_T69 l0 x10_1).f0))))), .int .i64 4] (by rfl) rfl ⟨_, rfl, rfl⟩ (by (try simp only [List.map_toArray, List.map_cons, List.map_nil]); first | done | rfl | (simp only [List.length_drop, List.length_take]; rfl)) ?_
         with_reducible refine (allocation_little.calls k1 (wrap64 (((rd_T69 l0 x10_1).f1) + (wrap64 (1073741824 * ((rd_T69 l0 x10_1).f0))))) 4 t129 _ A6.out).mono ?_
         rintro e w16 ⟨rfl, hb⟩
         refine ⟨_, rfl, ?_⟩
         have n0_ := Aside0.mk (blk_below (g := gb128) (o := .cells #[.int .i64 ((rd_T69 l0 x10_1).f0), .int .i64 ((rd_T69 l0 x10_1).f1), .int .i64 ((rd_T69 l0 x10_1).f2.f0), .int .i64 ((rd_T69 l0 x10_1).f2.f1)] 69 (0, 0)) (by (with_reducible repeat (first | refine blk_drewN ?_ _ | refine blk_drew ?_ | refine blk_alloc ?_ _)); exact BK128.out) hb)
         have n1_ := Aside0.mk (below_step (by repeat (first | (with_reducible first | exact HB.out | apply below_alloc | apply pw_below_drewN | apply below_drew1 | refine below_set ?_ GE128.out) | exact HB.out)) hb)
         clear BK128
         clear HB
         have BK128 := n0_
         have HB := n1_
         clear n0_ n1_
         (try clear hb)
         (try clear hb2)
         (try clear hk)
         (try clear hi)
         refine hK.out _ _ ⟨(blk_cell BK128.out 0).trans rfl, (blk_cell BK128.out 1).trans rfl, (blk_cell BK128.out 2).trans rfl, (blk_cell BK128.out 3).trans rfl⟩ (fun hHeld => ?_)
         clear hK K
         refine norm_ (a' := ?_) ?_ ?_
         rotate_left
         ·show Act.put _ (some 21) _ = _
          simp only [puts_]
          rfl
         refine one_ (i := 11) (N := some 25) (bm 19 28671) rfl rfl (one_of HT_.out (by kernel_rfl)) (by decide) (fun K hK => ?_)
         first | refine goes_ Try.func45 (by kernel_rfl) rfl #[.int .i64 ((rd_T69 l0 x10_1).f2.f0), .int .i64 4] (by rfl) rfl rfl (by (try simp only [List.map_toArray, List.map_cons, List.map_nil]); first | done | rfl | (simp only [List.length_drop, List.length_take]; rfl)) ?_ | refine goesV_ Try.func45 (by kernel_rfl) rfl #[.int .i64 ((rd_T69 l0 x10_1).f2.f0), .int .i64 4] (by rfl) rfl ⟨_, rfl, rfl⟩ (by (try simp only [List.map_toArray, List.map_cons, List.map_nil]); first | done | rfl | (simp only [List.length_drop, List.length_take]; rfl)) ?_
         with_reducible refine (allocation_little.calls k1 ((rd_T69 l0 x10_1).f2.f0) 4 t130 _ A7.out).mono ?_
         rintro e w17 ⟨rfl, hb⟩
         refine ⟨_, rfl, ?_⟩
         have n0_ := Aside0.mk (blk_below (g := gb128) (o := .cells #[.int .i64 ((rd_T69 l0 x10_1).f0), .int .i64 ((rd_T69 l0 x10_1).f1), .int .i64 ((rd_T69 l0 x10_1).f2.f0), .int .i64 ((rd_T69 l0 x10_1).f2.f1)] 69 (0, 0)) (by (with_reducible repeat (first | refine blk_drewN ?_ _ | refine blk_drew ?_ | refine blk_alloc ?_ _)); exact BK128.out) hb)
         have n1_ := Aside0.mk (below_step (by repeat (first | (with_reducible first | exact HB.out | apply below_alloc | apply pw_below_drewN | apply below_drew1 | refine below_set ?_ GE128.out) | exact HB.out)) hb)
         clear BK128
         clear HB
         have BK128 := n0_
         have HB := n1_
         clear n0_ n1_
         (try clear hb)
         (try clear hb2)
         (try clear hk)
         (try clear hi)
         refine hK.out _ _ ⟨(blk_cell BK128.out 0).trans rfl, (blk_cell BK128.out 1).trans rfl, (blk_cell BK128.out 2).trans rfl, (blk_cell BK128.out 3).trans rfl⟩ (fun hHeld => ?_)
         clear hK K
         refine norm_ (a' := ?_) ?_ ?_
         rotate_left
         ·show Act.put _ (some 25) _ = _
          simp only [puts_]
          rfl
         refine pure_ (i := 12) (N := some 26) (v := ?_) (a' := ?_) (bm 19 32767) rfl rfl (any_of HT_.out (by kernel_rfl)) (fun _ _ _ h => h) (Or.inl ⟨by rfl, ?_⟩) ?_ ?_; rotate_left; (intro w'; go_simp; with_reducible rfl); rotate_left; (simp only [puts_]; rfl)
         refine one_ (i := 15) (N := some 29) (bm 19 65535) rfl rfl (one_of HT_.out (by kernel_rfl)) (by decide) (fun K hK => ?_)
         first | refine goes_ Try.func44 (by kernel_rfl) rfl #[.agg #[.int .i64 ((rd_T69 l0 x10_1).f0), .int .i64 ((rd_T69 l0 x10_1).f1), .int .i64 ((rd_T69 l0 x10_1).f2.f0), .int .i64 ((rd_T69 l0 x10_1).f2.f1)]] (by rfl) rfl rfl (by (try simp only [List.map_toArray, List.map_cons, List.map_nil]); first | done | rfl | (simp only [List.length_drop, List.length_take]; rfl)) ?_ | refine goesV_ Try.func44 (by kernel_rfl) rfl #[.agg #[.int .i64 ((rd_T69 l0 x10_1).f0), .int .i64 ((rd_T69 l0 x10_1).f1), .int .i64 ((rd_T69 l0 x10_1).f2.f0), .int .i64 ((rd_T69 l0 x10_1).f2.f1)]] (by rfl) rfl ⟨_, rfl, rfl⟩ (by (try simp only [List.map_toArray, List.map_cons, List.map_nil]); first | done | rfl | (simp only [List.length_drop, List.length_take]; rfl)) ?_
         with_reducible refine (allocation_EncodeLong_1.calls k1 ((rd_T69 l0 x10_1).f0) ((rd_T69 l0 x10_1).f1) ((rd_T69 l0 x10_1).f2.f0) ((rd_T69 l0 x10_1).f2.f1) t131 _ A9.out).mono ?_
         rintro e w18 ⟨rfl, hb⟩
         refine ⟨_, rfl, ?_⟩
         have n0_ := Aside0.mk (blk_below (g := gb128) (o := .cells #[.int .i64 ((rd_T69 l0 x10_1).f0), .int .i64 ((rd_T69 l0 x10_1).f1), .int .i64 ((rd_T69 l0 x10_1).f2.f0), .int .i64 ((rd_T69 l0 x10_1).f2.f1)] 69 (0, 0)) (by (with_reducible repeat (first | refine blk_drewN ?_ _ | refine blk_drew ?_ | refine blk_alloc ?_ _)); exact BK128.out) hb)
         have n1_ := Aside0.mk (below_step (by repeat (first | (with_reducible first | exact HB.out | apply below_alloc | apply pw_below_drewN | apply below_drew1 | refine below_set ?_ GE128.out) | exact HB.out)) hb)
         clear BK128
         clear HB
         have BK128 := n0_
         have HB := n1_
         clear n0_ n1_
         (try clear hb)
         (try clear hb2)
         (try clear hk)
         (try clear hi)
         refine hK.out _ _ ⟨(blk_cell BK128.out 0).trans rfl, (blk_cell BK128.out 1).trans rfl, (blk_cell BK128.out 2).trans rfl, (blk_cell BK128.out 3).trans rfl⟩ (fun hHeld => ?_)
         clear hK K
         refine norm_ (a' := ?_) ?_ ?_
         rotate_left
         ·show Act.put _ (some 29) _ = _
          simp only [puts_]
          rfl
         refine pure_ (i := 16) (N := some 30) (v := ?_) (a' := ?_) (bm 19 131071) rfl rfl (any_of HT_.out (by kernel_rfl)) (fun _ _ _ h => h) (Or.inl ⟨by rfl, ?_⟩) ?_ ?_; rotate_left; (intro w'; go_simp; with_reducible rfl); rotate_left; (simp only [puts_]; rfl)
         refine pure_ (i := 17) (N := some 31) (v := ?_) (a' := ?_) (bm 19 262143) rfl rfl (any_of HT_.out (by kernel_rfl)) (fun _ _ _ h => h) (Or.inl ⟨by rfl, ?_⟩) ?_ ?_; rotate_left; (intro w'; go_simp; with_reducible rfl); rotate_left; (simp only [puts_]; rfl)
         refine pure_ (i := 18) (N := some 5) (v := ?_) (a' := ?_) (bm 19 524287) rfl rfl (any_of HT_.out (by kernel_rfl)) (fun _ _ _ h => h) (Or.inl ⟨by rfl, ?_⟩) ?_ ?_; rotate_left; (intro w'; go_simp; with_reducible rfl); rotate_left; (simp only [puts_]; rfl)
         refine done_ (done_of HT_.out (by kernel_rfl)) ?_
         try go_wp2
         go_roundg k1
         case measure => have := HK1.out; omega
         case rel => exact ⟨(x5_1 ++ ((t129 ++ t130) ++ t131)), (wrap64 (x10_1 + 1)), (by first | rfl | (simp; done) | (simp [*]; done)), (by first | rfl | (simp; done) | (simp [*]; done)), H', ⟨by have := HK1.out; omega⟩, ⟨by repeat (first | (with_reducible first | exact HB.out | apply below_alloc | apply pw_below_drewN | apply below_drew1 | refine below_set ?_ GE128.out) | exact HB.out)⟩⟩
        ·rw [if_neg c11] at H
         exact absurd H (by simp)
       ·rw [if_neg c10] at H
        exact absurd H (by simp)
      ·rw [if_neg c8] at H
       exact absurd H (by simp)
     ·rw [if_neg c5] at H
      exact absurd H (by simp)
    ·rw [if_neg c4] at H
     exact absurd H (by simp)
   ·rw [if_neg c3] at H
    have c3b0 : decide (x10_1 < (l0.length : Int)) = false := decide_eq_false c3
    clear c3
    obtain rfl := Option.some.inj H
    go_wp2
    go_ret
    exact ⟨by first | rfl | (simp [errW_none, errW_some] <;> rfl) | (simp [*, errW_none, errW_some] <;> rfl), by repeat (first | (with_reducible first | exact HB.out | apply below_alloc | apply pw_below_drewN | apply below_drew1) | exact HB.out)⟩

/-! ### allocation_EncodeLong: function 23 -/
def allocation_EncodeLong.f (k : Nat) (l0 : List (S69)) : Option (ByteArray × Int) := (allocation_formed.f k l0).bind fun t132 => (if t132 = true then ((allocation_encode_at_allocation_EncodeLong_1.f k l0).bind fun t133 => (some (t133, 0))) else (some ((⟨#[]⟩ : ByteArray), 1)))
theorem allocation_EncodeLong.mono : ∀ a0 k, LeO (allocation_EncodeLong.f k a0) (allocation_EncodeLong.f (k + 1) a0) := by
 intro a0 k
 unfold allocation_EncodeLong.f
 repeat' first
   | (with_reducible exact allocation_encode_at_allocation_EncodeLong_1.mono _ _)
   | (with_reducible exact allocation_formed.mono _ _)
   | (with_reducible exact LeO.refl _)
   | (with_reducible exact LeO.none _)
   | (with_reducible refine LeO.ite ?_ ?_)
   | (with_reducible refine LeO.bind ?_ (fun _ => ?_))
   | exact allocation_encode_at_allocation_EncodeLong_1.mono _ _
   | exact allocation_formed.mono _ _
   | exact LeO.none _
   | refine LeO.ite ?_ ?_
   | refine LeO.bind ?_ (fun _ => ?_)
set_option maxHeartbeats 8000000 in
set_option maxRecDepth 100000 in
theorem allocation_EncodeLong.calls (k : Nat) (A0 : Option Addr) (c0 : Nat) (l0 : List (S69)) (r1 : ByteArray) (r2 : Int) (w : World) (hr0 : Kd.C k69 w A0 l0.length l0) (hc0 : l0.length ≤ c0) (h : allocation_EncodeLong.f k l0 = some (r1, r2)) :
  Calls Try.prog 23 #[.slice A0 l0.length c0] w fun e w' => e = .returned (.tuple #[.string r1, .int .i64 r2]) ∧ Below w.heap.size w w' := by
 have HR0 := Aside0.mk hr0
 have HC0 := Aside0.mk hc0
 clear hr0 hc0
 have HB := Aside0.mk (Below.refl w.heap.size w)
 have H : ((allocation_formed.f k l0).bind fun t132 => (if t132 = true then ((allocation_encode_at_allocation_EncodeLong_1.f k l0).bind fun t133 => (some (t133, 0))) else (some ((⟨#[]⟩ : ByteArray), 1)))) = some (r1, r2) := h
 clear h
 replace H := Option.bind_eq_some_iff.mp H
 obtain ⟨t132, A20, H⟩ := H
 replace H : (if t132 = true then ((allocation_encode_at_allocation_EncodeLong_1.f k l0).bind fun t133 => (some (t133, 0))) else (some ((⟨#[]⟩ : ByteArray), 1))) = some (r1, r2) := H
 have A2 := Aside0.mk A20
 clear A20
 by_cases c3 : t132 = true
 ·subst c3
  have H1 : ((allocation_encode_at_allocation_EncodeLong_1.f k l0).bind fun t133 => (some (t133, 0))) = some (r1, r2) := by rw [if_pos rfl] at H; exact H
  clear H
  have H := H1
  clear H1
  replace H := Option.bind_eq_some_iff.mp H
  obtain ⟨t133, A40, H⟩ := H
  replace H : (some (t133, 0)) = some (r1, r2) := H
  have A4 := Aside0.mk A40
  clear A40
  simp only [Option.some.injEq, Prod.mk.injEq] at H
  obtain ⟨rfl, rfl⟩ := H
  go_enter Try.func23, Try.ntmps23
  go_wp2_with (first | ((with_reducible refine gate_callee (f := 42) rfl ?_); refine goesL_ (some 5) rfl rfl Try.func42 (by kernel_rfl) rfl #[.slice A0 l0.length c0] rfl (by (try simp only [List.map_toArray, List.map_cons, List.map_nil]); first | done | rfl | (simp only [List.length_drop, List.length_take]; rfl)) ?_; (with_reducible refine (allocation_formed.calls k _ _ l0 true _ ?side1 ?side2 A2.out).mono ?_); (case side1 => repeat (first | exact HR0.out | (with_reducible refine Kd.C_alloc ?_ _) | (with_reducible refine Kd.C_drewN ?_ _) | (with_reducible refine Kd.C_drew ?_))); (case side2 => exact HC0.out); rintro e w5 ⟨rfl, hb⟩; refine ⟨_, rfl, ?_⟩; have n0_ := Aside0.mk (below_step (by repeat (first | (with_reducible first | exact HB.out | apply below_alloc | apply pw_below_drewN | apply below_drew1) | exact HB.out)) hb); clear HB; have HB := n0_; clear n0_; (try clear hb); (try clear hb2); (try clear hk); (try clear hi)) | (go_at_call 43; (with_reducible refine (allocation_encode_at_allocation_EncodeLong_1.calls k _ _ l0  t133 _ ?side1 ?side2 A4.out).mono ?_); (case side1 => repeat (first | exact (Kd.C_below HR0.out HB.out) | (with_reducible refine Kd.C_alloc ?_ _) | (with_reducible refine Kd.C_drewN ?_ _) | (with_reducible refine Kd.C_drew ?_))); (case side2 => exact HC0.out); rintro e w6 ⟨rfl, hb⟩; have n0_ := Aside0.mk (below_step (by repeat (first | (with_reducible first | exact HB.out | apply below_alloc | apply pw_below_drewN | apply below_drew1) | exact HB.out)) hb); clear HB; have HB := n0_; clear n0_; (try clear hb); (try clear hb2); (try clear hk); (try clear hi)))
  go_ret2
  exact ⟨by first | rfl | (simp [errW_none, errW_some] <;> rfl) | (simp [*, errW_none, errW_some] <;> rfl), by repeat (first | (with_reducible first | exact HB.out | apply below_alloc | apply pw_below_drewN | apply below_drew1) | exact HB.out)⟩
 ·replace c3 := Bool.eq_false_iff.mpr c3
  subst c3
  have H1 : (some ((⟨#[]⟩ : ByteArray), 1)) = some (r1, r2) := by rw [if_neg (show ¬ (false = true) by decide)] at H; exact H
  clear H
  have H := H1
  clear H1
  simp only [Option.some.injEq, Prod.mk.injEq] at H
  obtain ⟨rfl, rfl⟩ := H
  go_enter Try.func23, Try.ntmps23
  go_wp2_with (first | ((with_reducible refine gate_callee (f := 42) rfl ?_); refine goesL_ (some 5) rfl rfl Try.func42 (by kernel_rfl) rfl #[.slice A0 l0.length c0] rfl (by (try simp only [List.map_toArray, List.map_cons, List.map_nil]); first | done | rfl | (simp only [List.length_drop, List.length_take]; rfl)) ?_; (with_reducible refine (allocation_formed.calls k _ _ l0 false _ ?side1 ?side2 A2.out).mono ?_); (case side1 => repeat (first | exact HR0.out | (with_reducible refine Kd.C_alloc ?_ _) | (with_reducible refine Kd.C_drewN ?_ _) | (with_reducible refine Kd.C_drew ?_))); (case side2 => exact HC0.out); rintro e w7 ⟨rfl, hb⟩; refine ⟨_, rfl, ?_⟩; have n0_ := Aside0.mk (below_step (by repeat (first | (with_reducible first | exact HB.out | apply below_alloc | apply pw_below_drewN | apply below_drew1) | exact HB.out)) hb); clear HB; have HB := n0_; clear n0_; (try clear hb); (try clear hb2); (try clear hk); (try clear hi)))
  go_ret2
  exact ⟨by first | rfl | (simp [errW_none, errW_some] <;> rfl) | (simp [*, errW_none, errW_some] <;> rfl), by repeat (first | (with_reducible first | exact HB.out | apply below_alloc | apply pw_below_drewN | apply below_drew1) | exact HB.out)⟩

/-! ### allocation_blocks: function 55 -/
def allocation_blocks.f (a0 : Int) : Option (Int) := some (wrap64 (Int.tdiv (wrap64 ((wrap64 (a0 + 2048)) - 1)) 2048))
set_option maxHeartbeats 8000000 in
set_option maxRecDepth 100000 in
theorem allocation_blocks.calls (a0 : Int) (r : Int) (w : World) (h : allocation_blocks.f a0 = some r) :
  Calls Try.prog 55 #[.int .i64 a0] w fun e w' => e = .returned (.int .i64 r) ∧ Drawn0 w w' := by
 have H : (some (wrap64 (Int.tdiv (wrap64 ((wrap64 (a0 + 2048)) - 1)) 2048))) = some r := h
 clear h
 obtain rfl := Option.some.inj H
 go_enter Try.func55, Try.ntmps55
 go_wp2
 go_ret
 exact ⟨by first | rfl | (simp; done) | (simp [*]; done), by repeat (first | exact Drawn0.refl _ | apply Drawn0.step)⟩

end Go.Proofs.Yticmghpnbjhhnab.M
