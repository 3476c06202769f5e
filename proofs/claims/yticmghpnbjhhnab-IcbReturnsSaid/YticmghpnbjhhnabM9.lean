/- Lean functions with the answers of the Go functions that they are named after, and the walks that tie the Go functions to them (written by the program mp.py of this session). -/
import Derived.Test.YticmghpnbjhhnabM0
import Derived.Test.YticmghpnbjhhnabM4
import Derived.Test.YticmghpnbjhhnabM8
namespace Go.Proofs.Yticmghpnbjhhnab.M
open Go.RowKit Go.Proofs.YticmghpnbjhhnabW.PrintWords Go.Proofs.YticmghpnbjhhnabW.PrintLast Go.Proofs.YticmghpnbjhhnabW.PrintMore
attribute [local go_sem] fieldA50_0 fieldA102_0 max2_int min2_int max_two min_two max_three min_three max_four min_four   -- for this text's walks alone
set_option linter.unusedVariables false
set_option linter.unusedSimpArgs false

/-! ### udfstring_Entity: function 32 -/
def udfstring_Entity.j0 : Nat → ByteArray → ByteArray → Bool → Option (ByteArray × Int)
 | 0, _, _, _ => none
 | k + 1, x0, x1, x14 => if x14 = true then (some ((⟨#[]⟩ : ByteArray), 1)) else (if 1 + x0.size ≤ 9223372036854775807 then ((udfstring_Entity_1.f (wrap64 (23 - (x0.size : Int)))).bind fun t208 => (if ((⟨#[0]⟩ : ByteArray) ++ x0).size + t208.size ≤ 9223372036854775807 then (if (((⟨#[0]⟩ : ByteArray) ++ x0) ++ t208).size + x1.size ≤ 9223372036854775807 then ((udfstring_Entity_1.f (wrap64 (8 - (x1.size : Int)))).bind fun t209 => (if ((((⟨#[0]⟩ : ByteArray) ++ x0) ++ t208) ++ x1).size + t209.size ≤ 9223372036854775807 then (some (((((⟨#[0]⟩ : ByteArray) ++ x0) ++ t208) ++ x1) ++ t209, 0)) else (none))) else (none)) else (none))) else (none))
def udfstring_Entity.f (k : Nat) (a0 : ByteArray) (a1 : ByteArray) : Option (ByteArray × Int) := (udfstring_printable.f a0).bind fun t207 => (if t207 = true then (udfstring_Entity.j0 k a0 a1 (decide ((a1.size : Int) > 8))) else (udfstring_Entity.j0 k a0 a1 true))
theorem udfstring_Entity.mono_l : ∀ k, (∀ y0 y1 y2, LeO (udfstring_Entity.j0 k y0 y1 y2) (udfstring_Entity.j0 (k + 1) y0 y1 y2))
 | 0 => fun _ _ _ r h => by simp [udfstring_Entity.j0] at h
 | k + 1 => by
  have ih0 := udfstring_Entity.mono_l k
  ·intro y0 y1 y2
   unfold udfstring_Entity.j0
   repeat' first
   | (with_reducible exact ih0 _ _ _)
   | (with_reducible exact LeO.refl _)
   | (with_reducible exact LeO.none _)
   | (with_reducible refine LeO.ite ?_ ?_)
   | (with_reducible refine LeO.bind ?_ (fun _ => ?_))
   | exact ih0 _ _ _
   | exact LeO.none _
   | refine LeO.ite ?_ ?_
   | refine LeO.bind ?_ (fun _ => ?_)
theorem udfstring_Entity.mono : ∀ a0 a1 k, LeO (udfstring_Entity.f k a0 a1) (udfstring_Entity.f (k + 1) a0 a1) := by
 intro a0 a1 k
 have ih0 := udfstring_Entity.mono_l k
 unfold udfstring_Entity.f
 repeat' first
   | (with_reducible exact ih0 _ _ _)
   | (with_reducible exact LeO.refl _)
   | (with_reducible exact LeO.none _)
   | (with_reducible refine LeO.ite ?_ ?_)
   | (with_reducible refine LeO.bind ?_ (fun _ => ?_))
   | exact ih0 _ _ _
   | exact LeO.none _
   | refine LeO.ite ?_ ?_
   | refine LeO.bind ?_ (fun _ => ?_)
set_option maxHeartbeats 8000000 in
set_option maxRecDepth 100000 in
theorem udfstring_Entity.calls (k : Nat) (a0 : ByteArray) (a1 : ByteArray) (r1 : ByteArray) (r2 : Int) (w : World) (h : udfstring_Entity.f k a0 a1 = some (r1, r2)) :
  Calls Try.prog 32 #[.string a0, .string a1] w fun e w' => e = .returned (.tuple #[.string r1, .int .i64 r2]) ∧ Below w.heap.size w w' := by
 have HB := Aside0.mk (Below.refl w.heap.size w)
 have H : ((udfstring_printable.f a0).bind fun t207 => (if t207 = true then (udfstring_Entity.j0 k a0 a1 (decide ((a1.size : Int) > 8))) else (udfstring_Entity.j0 k a0 a1 true))) = some (r1, r2) := h
 clear h
 have HC3 := Aside0.mk H
 clear H
 go_enter Try.func32, Try.ntmps32
 go_upto_region 1 with (fail)
 go_cut [14] (fun v14 wc => ∃ (kq : Nat) (x14_2 : Bool), v14 = .bool x14_2 ∧ Aside0 (udfstring_Entity.j0 kq a0 a1 x14_2 = some (r1, r2)) ∧ Aside0 (kq ≤ k) ∧ Aside0 (Below w.heap.size w wc))
 case first =>
  have H := HC3.out
  clear HC3
  replace H := Option.bind_eq_some_iff.mp H
  obtain ⟨t207, A40, H⟩ := H
  replace H : (if t207 = true then (udfstring_Entity.j0 k a0 a1 (decide ((a1.size : Int) > 8))) else (udfstring_Entity.j0 k a0 a1 true)) = some (r1, r2) := H
  have A4 := Aside0.mk A40
  clear A40
  by_cases c5 : t207 = true
  ·subst c5
   have H1 : (udfstring_Entity.j0 k a0 a1 (decide ((a1.size : Int) > 8))) = some (r1, r2) := by rw [if_pos rfl] at H; exact H
   clear H
   have H := H1
   clear H1
   have H' := Aside0.mk H
   clear H
   go_wp2_with (first | ((with_reducible refine gate_callee (f := 56) rfl ?_); refine goesL_ (some 8) rfl rfl Try.func56 (by kernel_rfl) rfl #[.string a0] rfl (by (try simp only [List.map_toArray, List.map_cons, List.map_nil]); first | done | rfl | (simp only [List.length_drop, List.length_take]; rfl)) ?_; (with_reducible refine (udfstring_printable.calls a0 true _ A4.out).mono ?_); rintro e w6 ⟨rfl, hb⟩; refine ⟨_, rfl, ?_⟩; have n0_ := Aside0.mk (below_step (by repeat (first | (with_reducible first | exact HB.out | apply below_alloc | apply pw_below_drewN | apply below_drew1) | exact HB.out)) hb); clear HB; have HB := n0_; clear n0_; (try clear hb); (try clear hb2); (try clear hk); (try clear hi)))
   go_meet
   case rel => exact ⟨_, (decide ((a1.size : Int) > 8)), (by first | rfl | (simp; done) | (simp [*]; done)), H', ⟨by first | omega | exact Nat.le_refl _⟩, ⟨by repeat (first | (with_reducible first | exact HB.out | apply below_alloc | apply pw_below_drewN | apply below_drew1) | exact HB.out)⟩⟩
  ·replace c5 := Bool.eq_false_iff.mpr c5
   subst c5
   have H1 : (udfstring_Entity.j0 k a0 a1 true) = some (r1, r2) := by rw [if_neg (show ¬ (false = true) by decide)] at H; exact H
   clear H
   have H := H1
   clear H1
   have H' := Aside0.mk H
   clear H
   go_wp2_with (first | ((with_reducible refine gate_callee (f := 56) rfl ?_); refine goesL_ (some 8) rfl rfl Try.func56 (by kernel_rfl) rfl #[.string a0] rfl (by (try simp only [List.map_toArray, List.map_cons, List.map_nil]); first | done | rfl | (simp only [List.length_drop, List.length_take]; rfl)) ?_; (with_reducible refine (udfstring_printable.calls a0 false _ A4.out).mono ?_); rintro e w7 ⟨rfl, hb⟩; refine ⟨_, rfl, ?_⟩; have n0_ := Aside0.mk (below_step (by repeat (first | (with_reducible first | exact HB.out | apply below_alloc | apply pw_below_drewN | apply below_drew1) | exact HB.out)) hb); clear HB; have HB := n0_; clear n0_; (try clear hb); (try clear hb2); (try clear hk); (try clear hi)))
   go_meet
   case rel => exact ⟨_, (true), (by first | rfl | (simp; done) | (simp [*]; done)), H', ⟨by first | omega | exact Nat.le_refl _⟩, ⟨by repeat (first | (with_reducible first | exact HB.out | apply below_alloc | apply pw_below_drewN | apply below_drew1) | exact HB.out)⟩⟩
 case rest =>
  clear HC3
  try clear p2
  try clear c3
  try clear c5
  obtain ⟨kq, x14_2, rfl, HA, HJ2, HB⟩ := hcut
  cases kq with
  | zero => exact absurd HA.out (by simp [udfstring_Entity.j0])
  | succ kj2 =>
   have H := HA.out
   clear HA
   simp only [udfstring_Entity.j0] at H
   by_cases c8 : x14_2 = true
   ·subst c8
    have H1 : (some ((⟨#[]⟩ : ByteArray), 1)) = some (r1, r2) := by rw [if_pos rfl] at H; exact H
    clear H
    have H := H1
    clear H1
    simp only [Option.some.injEq, Prod.mk.injEq] at H
    obtain ⟨rfl, rfl⟩ := H
    go_wp2
    go_ret2
    exact ⟨by first | rfl | (simp [errW_none, errW_some] <;> rfl) | (simp [*, errW_none, errW_some] <;> rfl), by repeat (first | (with_reducible first | exact HB.out | apply below_alloc | apply pw_below_drewN | apply below_drew1) | exact HB.out)⟩
   ·replace c8 := Bool.eq_false_iff.mpr c8
    subst c8
    have H1 : (if 1 + a0.size ≤ 9223372036854775807 then ((udfstring_Entity_1.f (wrap64 (23 - (a0.size : Int)))).bind fun t208 => (if ((⟨#[0]⟩ : ByteArray) ++ a0).size + t208.size ≤ 9223372036854775807 then (if (((⟨#[0]⟩ : ByteArray) ++ a0) ++ t208).size + a1.size ≤ 9223372036854775807 then ((udfstring_Entity_1.f (wrap64 (8 - (a1.size : Int)))).bind fun t209 => (if ((((⟨#[0]⟩ : ByteArray) ++ a0) ++ t208) ++ a1).size + t209.size ≤ 9223372036854775807 then (some (((((⟨#[0]⟩ : ByteArray) ++ a0) ++ t208) ++ a1) ++ t209, 0)) else (none))) else (none)) else (none))) else (none)) = some (r1, r2) := by rw [if_neg (show ¬ (false = true) by decide)] at H; exact H
    clear H
    have H := H1
    clear H1
    by_cases c9 : 1 + a0.size ≤ 9223372036854775807
    ·rw [if_pos c9] at H
     have c9b0 := eq_true c9
     have c9b1 : decide (1 + a0.size ≤ 9223372036854775807) = true := decide_eq_true c9
     try have c9b2 : (9223372036854775807 < 1 + a0.size) = False := eq_false (Nat.not_lt.2 c9)
     replace H := Option.bind_eq_some_iff.mp H
     obtain ⟨t208, A100, H⟩ := H
     replace H : (if ((⟨#[0]⟩ : ByteArray) ++ a0).size + t208.size ≤ 9223372036854775807 then (if (((⟨#[0]⟩ : ByteArray) ++ a0) ++ t208).size + a1.size ≤ 9223372036854775807 then ((udfstring_Entity_1.f (wrap64 (8 - (a1.size : Int)))).bind fun t209 => (if ((((⟨#[0]⟩ : ByteArray) ++ a0) ++ t208) ++ a1).size + t209.size ≤ 9223372036854775807 then (some (((((⟨#[0]⟩ : ByteArray) ++ a0) ++ t208) ++ a1) ++ t209, 0)) else (none))) else (none)) else (none)) = some (r1, r2) := H
     have A10 := Aside0.mk A100
     clear A100
     by_cases c11 : ((⟨#[0]⟩ : ByteArray) ++ a0).size + t208.size ≤ 9223372036854775807
     ·rw [if_pos c11] at H
      have c11b0 := eq_true c11
      have c11b1 : decide (((⟨#[0]⟩ : ByteArray) ++ a0).size + t208.size ≤ 9223372036854775807) = true := decide_eq_true c11
      try have c11b2 : (9223372036854775807 < ((⟨#[0]⟩ : ByteArray) ++ a0).size + t208.size) = False := eq_false (Nat.not_lt.2 c11)
      try (have c11b2s := c11b2; simp only [ByteArray.size_append] at c11b2s)
      try (have c11b2t := c11b2; simp only [ByteArray.size_append, show (⟨#[0]⟩ : ByteArray).size = 1 from rfl] at c11b2t)
      by_cases c12 : (((⟨#[0]⟩ : ByteArray) ++ a0) ++ t208).size + a1.size ≤ 9223372036854775807
      ·rw [if_pos c12] at H
       have c12b0 := eq_true c12
       have c12b1 : decide ((((⟨#[0]⟩ : ByteArray) ++ a0) ++ t208).size + a1.size ≤ 9223372036854775807) = true := decide_eq_true c12
       try have c12b2 : (9223372036854775807 < (((⟨#[0]⟩ : ByteArray) ++ a0) ++ t208).size + a1.size) = False := eq_false (Nat.not_lt.2 c12)
       try (have c12b2s := c12b2; simp only [ByteArray.size_append] at c12b2s)
       try (have c12b2t := c12b2; simp only [ByteArray.size_append, show (⟨#[0]⟩ : ByteArray).size = 1 from rfl] at c12b2t)
       replace H := Option.bind_eq_some_iff.mp H
       obtain ⟨t209, A130, H⟩ := H
       replace H : (if ((((⟨#[0]⟩ : ByteArray) ++ a0) ++ t208) ++ a1).size + t209.size ≤ 9223372036854775807 then (some (((((⟨#[0]⟩ : ByteArray) ++ a0) ++ t208) ++ a1) ++ t209, 0)) else (none)) = some (r1, r2) := H
       have A13 := Aside0.mk A130
       clear A130
       by_cases c14 : ((((⟨#[0]⟩ : ByteArray) ++ a0) ++ t208) ++ a1).size + t209.size ≤ 9223372036854775807
       ·rw [if_pos c14] at H
        have c14b0 := eq_true c14
        have c14b1 : decide (((((⟨#[0]⟩ : ByteArray) ++ a0) ++ t208) ++ a1).size + t209.size ≤ 9223372036854775807) = true := decide_eq_true c14
        try have c14b2 : (9223372036854775807 < ((((⟨#[0]⟩ : ByteArray) ++ a0) ++ t208) ++ a1).size + t209.size) = False := eq_false (Nat.not_lt.2 c14)
        try (have c14b2s := c14b2; simp only [ByteArray.size_append] at c14b2s)
        try (have c14b2t := c14b2; simp only [ByteArray.size_append, show (⟨#[0]⟩ : ByteArray).size = 1 from rfl] at c14b2t)
        simp only [Option.some.injEq, Prod.mk.injEq] at H
        obtain ⟨rfl, rfl⟩ := H
        go_wp2_with (first | (go_at_call 57; (first | (with_reducible refine (udfstring_Entity_1.calls (wrap64 (23 - (a0.size : Int))) t208 _ A10.out).mono ?_) | (with_reducible refine (udfstring_Entity_1.calls (23 - (a0.size : Int)) t208 _ (by have hwr_ : wrap64 (23 - (a0.size : Int)) = 23 - (a0.size : Int) := (by unfold wrap64; omega); rw [← hwr_]; exact A10.out)).mono ?_)); rintro e w15 ⟨rfl, hb⟩; have n0_ := Aside0.mk (below_step (by repeat (first | (with_reducible first | exact HB.out | apply below_alloc | apply pw_below_drewN | apply below_drew1) | exact HB.out)) hb); clear HB; have HB := n0_; clear n0_; (try clear hb); (try clear hb2); (try clear hk); (try clear hi)) | (go_at_call 57; (first | (with_reducible refine (udfstring_Entity_1.calls (wrap64 (8 - (a1.size : Int))) t209 _ A13.out).mono ?_) | (with_reducible refine (udfstring_Entity_1.calls (8 - (a1.size : Int)) t209 _ (by have hwr_ : wrap64 (8 - (a1.size : Int)) = 8 - (a1.size : Int) := (by unfold wrap64; omega); rw [← hwr_]; exact A13.out)).mono ?_)); rintro e w16 ⟨rfl, hb⟩; have n0_ := Aside0.mk (below_step (by repeat (first | (with_reducible first | exact HB.out | apply below_alloc | apply pw_below_drewN | apply below_drew1) | exact HB.out)) hb); clear HB; have HB := n0_; clear n0_; (try clear hb); (try clear hb2); (try clear hk); (try clear hi)))
        go_ret2
        exact ⟨by first | rfl | (simp [errW_none, errW_some] <;> rfl) | (simp [*, errW_none, errW_some] <;> rfl), by repeat (first | (with_reducible first | exact HB.out | apply below_alloc | apply pw_below_drewN | apply below_drew1) | exact HB.out)⟩
       ·rw [if_neg c14] at H
        exact absurd H (by simp)
      ·rw [if_neg c12] at H
       exact absurd H (by simp)
     ·rw [if_neg c11] at H
      exact absurd H (by simp)
    ·rw [if_neg c9] at H
     exact absurd H (by simp)

/-! ### udftag_most: function 97 -/
def udftag_most.f (a0 : Int) : Option (Int) := if 0 ≤ (wrap64 (8 * a0)) then (some (wrap64 ((shl .i64 1 (wrap64 (8 * a0))) - 1))) else (none)
set_option maxHeartbeats 8000000 in
set_option maxRecDepth 100000 in
theorem udftag_most.calls (a0 : Int) (r : Int) (w : World) (h : udftag_most.f a0 = some r) :
  Calls Try.prog 97 #[.int .i64 a0] w fun e w' => e = .returned (.int .i64 r) ∧ Drawn0 w w' := by
 have H : (if 0 ≤ (wrap64 (8 * a0)) then (some (wrap64 ((shl .i64 1 (wrap64 (8 * a0))) - 1))) else (none)) = some r := h
 clear h
 obtain ⟨ji2, hji2⟩ : ∃ j_ : Int, (wrap64 (8 * a0)) = j_ := ⟨_, rfl⟩
 replace H : (if 0 ≤ (ji2) then (some (wrap64 ((shl .i64 1 (ji2)) - 1))) else (none)) = some r := by first | (rw [hji2] at H; exact H) | (simp only [hji2] at H ⊢; exact H)
 have hji2w : (IntKind.i64.wrap (8 * a0)) = ji2 := (i64_w _).trans hji2
 by_cases c3 : 0 ≤ (ji2)
 ·rw [if_pos c3] at H
  have c3b0 := eq_true c3
  have c3b1 : decide (0 ≤ (ji2)) = true := decide_eq_true c3
  clear c3
  obtain ⟨ji4, hji4⟩ : ∃ j_ : Int, (shl .i64 1 (ji2)) = j_ := ⟨_, rfl⟩
  replace H : (some (wrap64 ((ji4) - 1))) = some r := by first | (rw [hji4] at H; exact H) | (simp only [hji4] at H ⊢; exact H)
  have hji4_ : (IntKind.i64.wrap (1 * 2 ^ min (ji2).toNat 64)) = ji4 := hji4
  have hji4z : (ji2) ≤ 64 → (IntKind.i64.wrap (1 * 2 ^ (ji2).toNat)) = ji4 := shl_small hji4
  have hji4u : (IntKind.i64.wrap (2 ^ min (ji2).toNat 64)) = ji4 := by have h_ := hji4_; rw [Int.one_mul] at h_; exact h_
  have hji4v : (ji2) ≤ 64 → (IntKind.i64.wrap (2 ^ (ji2).toNat)) = ji4 := fun hle_ => by have h_ := hji4z hle_; rw [Int.one_mul] at h_; exact h_
  have hji4y : (wrap64 (1 * 2 ^ min (ji2).toNat 64)) = ji4 := (i64_w _).symm.trans hji4_
  have hji4x : (ji2) ≤ 64 → (wrap64 (1 * 2 ^ (ji2).toNat)) = ji4 := fun h_ => (i64_w _).symm.trans (hji4z h_)
  obtain rfl := Option.some.inj H
  go_enter Try.func97, Try.ntmps97
  go_wp2
  go_ret
  exact ⟨by first | rfl | (simp; done) | (simp only [← hji2, ← hji4] <;> (first | rfl | simp)) | (simp [*]; done), by repeat (first | exact Drawn0.refl _ | apply Drawn0.step)⟩
 ·rw [if_neg c3] at H
  exact absurd H (by simp)

/-! ### udftag_fits: function 83 -/
def udftag_fits.f (a0 : Int) (a1 : Int) : Option (Bool) := if a0 ≥ 0 then ((udftag_most.f a1).bind fun t210 => (some (decide (a0 ≤ t210)))) else (some false)
set_option maxHeartbeats 8000000 in
set_option maxRecDepth 100000 in
theorem udftag_fits.calls (a0 : Int) (a1 : Int) (r : Bool) (w : World) (h : udftag_fits.f a0 a1 = some r) :
  Calls Try.prog 83 #[.int .i64 a0, .int .i64 a1] w fun e w' => e = .returned (.bool r) ∧ Drawn0 w w' := by
 have H : (if a0 ≥ 0 then ((udftag_most.f a1).bind fun t210 => (some (decide (a0 ≤ t210)))) else (some false)) = some r := h
 clear h
 by_cases c3 : a0 ≥ 0
 ·rw [if_pos c3] at H
  have c3b0 : decide (0 ≤ a0) = true := decide_eq_true c3
  clear c3
  replace H := Option.bind_eq_some_iff.mp H
  obtain ⟨t210, A40, H⟩ := H
  replace H : (some (decide (a0 ≤ t210))) = some r := H
  have A4 := Aside0.mk A40
  clear A40
  obtain rfl := Option.some.inj H
  go_enter Try.func83, Try.ntmps83
  go_wp2_with (first | (go_at_call 97; (with_reducible refine (udftag_most.calls a1 t210 _ A4.out).mono ?_); rintro e w' ⟨rfl, ⟨nd, rfl⟩⟩))
  go_ret
  exact ⟨by first | rfl | (simp; done) | (simp [*]; done), by repeat (first | exact Drawn0.refl _ | apply Drawn0.step)⟩
 ·rw [if_neg c3] at H
  have c3b0 : decide (0 ≤ a0) = false := decide_eq_false c3
  clear c3
  obtain rfl := Option.some.inj H
  go_enter Try.func83, Try.ntmps83
  go_wp2
  go_ret
  exact ⟨by first | rfl | (simp; done) | (simp [*]; done), by repeat (first | exact Drawn0.refl _ | apply Drawn0.step)⟩

/-! ### udftag_little: function 84 -/
def udftag_little.f (k : Nat) (a0 : Int) (a1 : Int) : Option (ByteArray) := (endian_Little.f k a0 a1).bind fun bt211 => (some bt211.1)
theorem udftag_little.mono : ∀ a0 a1 k, LeO (udftag_little.f k a0 a1) (udftag_little.f (k + 1) a0 a1) := by
 intro a0 a1 k
 unfold udftag_little.f
 repeat' first
   | (with_reducible exact endian_Little.mono _ _ _)
   | (with_reducible exact LeO.refl _)
   | (with_reducible exact LeO.none _)
   | (with_reducible refine LeO.ite ?_ ?_)
   | (with_reducible refine LeO.bind ?_ (fun _ => ?_))
   | exact endian_Little.mono _ _ _
   | exact LeO.none _
   | refine LeO.ite ?_ ?_
   | refine LeO.bind ?_ (fun _ => ?_)
set_option maxHeartbeats 8000000 in
set_option maxRecDepth 100000 in
theorem udftag_little.calls (k : Nat) (a0 : Int) (a1 : Int) (r : ByteArray) (w : World) (h : udftag_little.f k a0 a1 = some r) :
  Calls Try.prog 84 #[.int .i64 a0, .int .i64 a1] w fun e w' => e = .returned (.string r) ∧ Below w.heap.size w w' := by
 have HB := Aside0.mk (Below.refl w.heap.size w)
 have H : ((endian_Little.f k a0 a1).bind fun bt211 => (some bt211.1)) = some r := h
 clear h
 replace H := Option.bind_eq_some_iff.mp H
 obtain ⟨⟨t211, t212⟩, A30, H⟩ := H
 replace H : (some t211) = some r := H
 have A3 := Aside0.mk A30
 clear A30
 obtain rfl := Option.some.inj H
 go_enter Try.func84, Try.ntmps84
 go_wp2_with (first | ((with_reducible refine gate_callee (f := 26) rfl ?_); refine goesL_ (some 10) rfl rfl Try.func26 (by kernel_rfl) rfl #[.int .i64 a0, .int .i64 a1] rfl (by (try simp only [List.map_toArray, List.map_cons, List.map_nil]); first | done | rfl | (simp only [List.length_drop, List.length_take]; rfl)) ?_; (with_reducible refine (endian_Little.calls k a0 a1 t211 t212 _ A3.out).mono ?_); rintro e w4 ⟨rfl, hb⟩; refine ⟨_, rfl, ?_⟩; have n0_ := Aside0.mk (below_step (by repeat (first | (with_reducible first | exact HB.out | apply below_alloc | apply pw_below_drewN | apply below_drew1) | exact HB.out)) hb); clear HB; have HB := n0_; clear n0_; (try clear hb); (try clear hb2); (try clear hk); (try clear hi)))
 go_ret
 exact ⟨by first | rfl | (simp [errW_none, errW_some] <;> rfl) | (simp [*, errW_none, errW_some] <;> rfl), by repeat (first | (with_reducible first | exact HB.out | apply below_alloc | apply pw_below_drewN | apply below_drew1) | exact HB.out)⟩

-- NOT PRINTED: function 103 (checksum_table_uint16)

/-! ### checksum_direct_1: function 104 -/
def checksum_direct_1.l0 : Nat → Int → Int → Option (Int)
 | 0, _, _ => none
 | k + 1, x3, x7 => if x7 < 8 then (if (x3 / 32768) = 1 then (checksum_direct_1.l0 k (Go.bits .xor .u16 (IntKind.u16.wrap (x3 * 2)) 4129) (wrap64 (x7 + 1))) else (checksum_direct_1.l0 k (IntKind.u16.wrap (x3 * 2)) (wrap64 (x7 + 1)))) else (some x3)
def checksum_direct_1.f (k : Nat) (a0 : Int) : Option (Int) := checksum_direct_1.l0 k (IntKind.u16.wrap ((IntKind.u16.wrap (a0)) * 256)) 0
theorem checksum_direct_1.mono_l : ∀ k, (∀ y0 y1, LeO (checksum_direct_1.l0 k y0 y1) (checksum_direct_1.l0 (k + 1) y0 y1))
 | 0 => fun _ _ r h => by simp [checksum_direct_1.l0] at h
 | k + 1 => by
  have ih0 := checksum_direct_1.mono_l k
  ·intro y0 y1
   unfold checksum_direct_1.l0
   repeat' first
   | (with_reducible exact ih0 _ _)
   | (with_reducible exact LeO.refl _)
   | (with_reducible exact LeO.none _)
   | (with_reducible refine LeO.ite ?_ ?_)
   | (with_reducible refine LeO.bind ?_ (fun _ => ?_))
   | exact ih0 _ _
   | exact LeO.none _
   | refine LeO.ite ?_ ?_
   | refine LeO.bind ?_ (fun _ => ?_)
theorem checksum_direct_1.mono : ∀ a0 k, LeO (checksum_direct_1.f k a0) (checksum_direct_1.f (k + 1) a0) := by
 intro a0 k
 have ih0 := checksum_direct_1.mono_l k
 unfold checksum_direct_1.f
 repeat' first
   | (with_reducible exact ih0 _ _)
   | (with_reducible exact LeO.refl _)
   | (with_reducible exact LeO.none _)
   | (with_reducible refine LeO.ite ?_ ?_)
   | (with_reducible refine LeO.bind ?_ (fun _ => ?_))
   | exact ih0 _ _
   | exact LeO.none _
   | refine LeO.ite ?_ ?_
   | refine LeO.bind ?_ (fun _ => ?_)
set_option maxHeartbeats 8000000 in
set_option maxRecDepth 100000 in
theorem checksum_direct_1.calls (k : Nat) (a0 : Int) (r : Int) (w : World) (h : checksum_direct_1.f k a0 = some r) :
  Calls Try.prog 104 #[.int .u8 a0] w fun e w' => e = .returned (.int .u16 r) ∧ Drawn0 w w' := by
 have H : (checksum_direct_1.l0 k (IntKind.u16.wrap ((IntKind.u16.wrap (a0)) * 256)) 0) = some r := h
 clear h
 have H' := Aside0.mk H
 clear H
 go_enter Try.func104, Try.ntmps104
 go_wp2
 go_loopg [3, 7] k (fun kq v3 v7 w' => ∃ (x3_1 : Int) (x7_1 : Int), v3 = .int .u16 x3_1 ∧ v7 = .int .i64 x7_1 ∧ Aside0 (checksum_direct_1.l0 kq x3_1 x7_1 = some r) ∧ Aside0 (kq ≤ k) ∧ Drawn0 w w')
 case atStart => exact ⟨(IntKind.u16.wrap ((IntKind.u16.wrap (a0)) * 256)), (0), (by first | rfl | (simp; done) | (simp [*]; done)), (by first | rfl | (simp; done) | (simp [*]; done)), H', ⟨Nat.le_refl _⟩, by repeat (first | exact Drawn0.refl _ | apply Drawn0.step)⟩
 case round =>
  clear H'
  try clear c1
  obtain ⟨x3_1, x7_1, rfl, rfl, HA, HK1, ⟨m1, rfl⟩⟩ := hrel
  cases gk with
  | zero => exact absurd HA.out (by simp [checksum_direct_1.l0])
  | succ k1 =>
   have H := HA.out
   clear HA
   simp only [checksum_direct_1.l0] at H
   by_cases c2 : x7_1 < 8
   ·rw [if_pos c2] at H
    have c2b0 : decide (x7_1 < 8) = true := decide_eq_true c2
    clear c2
    by_cases c3 : (x3_1 / 32768) = 1
    ·rw [if_pos c3] at H
     have c3b0 : ((x3_1 / 32768) == 1) = true := beq_iff_eq.mpr c3
     have c3b1 : ((x3_1 / 32768) != 1) = false := bne_eq_false_iff_eq.mpr c3
     clear c3
     have H' := Aside0.mk H
     clear H
     go_wp2
     go_roundg k1
     case measure => have := HK1.out; omega
     case rel => exact ⟨(Go.bits .xor .u16 (IntKind.u16.wrap (x3_1 * 2)) 4129), (wrap64 (x7_1 + 1)), (by first | rfl | (simp; done) | (simp [*]; done)), (by first | rfl | (simp; done) | (simp [*]; done)), H', ⟨by have := HK1.out; omega⟩, by repeat (first | exact Drawn0.refl _ | apply Drawn0.step)⟩
    ·rw [if_neg c3] at H
     have c3b0 : ((x3_1 / 32768) == 1) = false := beq_eq_false_iff_ne.mpr c3
     have c3b1 : ((x3_1 / 32768) != 1) = true := bne_iff_ne.mpr c3
     have H' := Aside0.mk H
     clear H
     go_wp2
     go_roundg k1
     case measure => have := HK1.out; omega
     case rel => exact ⟨(IntKind.u16.wrap (x3_1 * 2)), (wrap64 (x7_1 + 1)), (by first | rfl | (simp; done) | (simp [*]; done)), (by first | rfl | (simp; done) | (simp [*]; done)), H', ⟨by have := HK1.out; omega⟩, by repeat (first | exact Drawn0.refl _ | apply Drawn0.step)⟩
   ·rw [if_neg c2] at H
    have c2b0 : decide (x7_1 < 8) = false := decide_eq_false c2
    clear c2
    obtain rfl := Option.some.inj H
    go_wp2
    go_ret
    exact ⟨by first | rfl | (simp; done) | (simp [*]; done), by repeat (first | exact Drawn0.refl _ | apply Drawn0.step)⟩

/-! ### checksum_direct: function 102 -/
def crcB (i : Nat) : Int := (checksum_direct_1.f 9 (i : Int)).getD 0
set_option maxRecDepth 100000 in
theorem crcB_all : ∀ i : Nat, i < 256 → checksum_direct_1.f 9 (i : Int) = some (crcB i) := by
 have h : ∀ i : Fin 256, (checksum_direct_1.f 9 ((i : Nat) : Int)).isSome = true := by decide +kernel
 intro i hi
 have := h ⟨i, hi⟩
 unfold crcB
 cases hq : checksum_direct_1.f 9 (i : Int) with
 | none => rw [hq] at this; cases this
 | some v => rfl
def crcRow (i : Nat) : Array Value := ((List.range 256).map fun j => if j < i then Value.int .u16 (crcB j) else .int .u16 0).toArray
theorem crcRow_size (i : Nat) : (crcRow i).size = 256 := by simp [crcRow]
theorem crcRow_one (i : Nat) : (crcRow i).all (·.oneCell') = true := by
 rw [Array.all_eq_true_iff_forall_mem]
 intro x hx
 simp only [crcRow, List.mem_toArray, List.mem_map] at hx
 obtain ⟨j, _, rfl⟩ := hx
 split <;> rfl
theorem crcRow_zero : Try.zeroCells134 = crcRow 0 := by kernel_rfl
theorem crcRow_set (i : Nat) (hi : i < 256) : (crcRow i).setIfInBounds i (.int .u16 (crcB i)) = crcRow (i + 1) := by
 apply Array.ext
 ·simp [crcRow]
 ·intro j h1 h2
  simp only [crcRow, Array.size_setIfInBounds, List.size_toArray, List.length_map, List.length_range] at h1
  rw [Array.getElem_setIfInBounds (by simpa [crcRow] using h1)]
  simp only [crcRow, List.getElem_toArray, List.getElem_map, List.getElem_range]
  by_cases e : i = j
  ·subst e; simp
  ·simp only [e, if_false]
   by_cases c : j < i
   ·simp [c, show j < i + 1 by omega]
   ·simp [c, show ¬ j < i + 1 by omega]
theorem crcRow_at (j : Nat) (hj : j < 256) : (crcRow 256)[j]? = some (.int .u16 (crcB j)) := by
 simp [crcRow, hj]
theorem setRow_last (w : World) (c c' : Array Value) (t : TypeId) (n : Nat) : ((w.alloc (.cells c t)).drewN n).setRow w.heap.size c' = (w.alloc (.cells c' t)).drewN n := by
 simp only [World.setRow, World.alloc, World.drewN]
 congr 1
 apply Array.ext_getElem?
 intro i
 rw [Array.getElem?_modify]
 by_cases h : w.heap.size = i
 ·subst h
  simp
 ·have h' : ¬ i = w.heap.size := fun e => h e.symm
  simp [h, h', Array.getElem?_push]
theorem last_new (w : World) (o : Obj) (c : Array Value) (t : TypeId) (n : Nat) : (((w.alloc o).alloc (.cells c t)).drewN n).heap[w.heap.size + 1]? = some (.cells c t) := by
 have := blk_new (w.alloc o) (.cells c t)
 rwa [World.size_alloc] at this
theorem below_setRow {B : Nat} {a w : World} (h : Below B a w) {g : Nat} (hg : B ≤ g) (c : Array Value) : Below B a (w.setRow g c) := by
 refine ⟨h.os, h.tape, h.output, by rw [setRow_size]; exact h.size, fun i hi => ?_⟩
 rw [← h.block i hi]
 simp only [World.setRow, Array.getElem?_modify]
 rw [if_neg (by omega)]
theorem Below.drewN' {B : Nat} {a w : World} (h : Below B a w) (n : Nat) : Below B a (w.drewN n) := ⟨h.os, h.tape, h.output, h.size, h.block⟩
theorem store_row_run {P : Program} {w : World} {g : Nat} {t : TypeId} {old c : Array Value} (hg : w.heap[g]? = some (.cells old t (0, 0))) (hs : c.size = old.size) (h1 : c.all (·.oneCell') = true) :
  (storeCells ⟨g, 0, none⟩ c.toList).run P w = .ok () (w.setRow g c) := by
 have := run_storeCells_from (P := P) g t c.toList 0 old w hg (by rw [Array.length_toList, hs, Nat.zero_add]) (fun v hv => (Array.all_eq_true_iff_forall_mem.1 h1) v (by simpa using hv))
 simpa using this
def checksum_direct.f : Option Unit := some ()
set_option maxHeartbeats 8000000 in
set_option maxRecDepth 1000000 in
theorem checksum_table.calls (w : World) :
  Calls Try.prog 103 #[.func (.func 104) #[] #[]] w fun e w' => e = .returned (.agg (crcRow 256)) ∧ Below w.heap.size w w' := by
 go_enter Try.func103, Try.ntmps103
 go_wp2
 rw [crcRow_zero]
 have hi134 : (Try.prog.info? 134).map (·.size) = some 256 := by kernel_rfl
 go_loopg [4, 5] 256 (fun g s4 s5 wx => ∃ (i : Nat) (u : Value) (n : Nat), i + g = 256 ∧ s4 = u ∧ s5 = .int .i64 i ∧ wx = ((w.alloc (.cells (crcRow 0) 134)).alloc (.cells (crcRow i) 134)).drewN n)
 case atStart => exact ⟨0, _, 0, by omega, rfl, rfl, rfl⟩
 case round =>
  obtain ⟨i, u, n, hig, rfl, rfl, rfl⟩ := hrel
  cases gk with
  | zero =>
   obtain rfl : i = 256 := by omega
   have hiz : decide (((256 : Nat) : Int) < 256) = false := by decide
   have hg1 : (((w.alloc (.cells (crcRow 0) 134)).alloc (.cells (crcRow 256) 134)).drewN n).heap[w.heap.size + 1]? = some (.cells (crcRow 256) 134 (0, 0)) := last_new _ _ _ _ _
   have hg0 : (((w.alloc (.cells (crcRow 0) 134)).alloc (.cells (crcRow 256) 134)).drewN n).heap[w.heap.size]? = some (.cells (crcRow 0) 134 (0, 0)) := blk_alloc (blk_new w _) _
   have hz := crcRow_size 256
   have ht : Try.prog.underlying 134 = some (.array 256 121) := by kernel_rfl
   go_wp2
   refine wp_load_row 134 (.tmp 3) rfl (w.heap.size + 1) rfl 134 (crcRow 256) (0, 0) (.array 256 121) hg1 ht rfl (by rw [hz]; exact hi134) ?_
   go_wp2
   have hsc := store_row_run (P := Try.prog) hg0 (c := crcRow 256) (by rw [hz, crcRow_size]) (crcRow_one 256)
   simp only [hsc, Result.andThen]
   rw [Oper.upon_skip]
   go_wp2
   (try simp only [Exit.inBlock, Exit.then])
   refine bodyPost_ret (v := .agg (crcRow 256)) (results_cell_row (ty := 134) (p := 2) rfl _ _ w.heap.size 134 (crcRow 256) (0, 0) (.array 256 121) rfl (setRow_heap _ _ (crcRow 0) _ _ _ hg0) ht rfl (by rw [hz]; exact hi134)) rfl ⟨rfl, ?_⟩
   refine below_setRow (B := w.heap.size) (Below.drewN' (below_alloc (below_alloc (Below.refl _ _) _) _) n) (Nat.le_refl _) _
  | succ g =>
   have hi : i < 256 := by omega
   have hiz : decide ((i : Int) < 256) = true := decide_eq_true (by omega)
   have h0 : 0 ≤ (i : Int) := by omega
   have hrow : (crcRow i)[i]? = some (.int .u16 0) := by simp [crcRow, hi]
   have h1 : (i : Int) < 256 := by omega
   have hw8 : IntKind.u8.wrap (i : Int) = (i : Int) := by have e : IntKind.u8.wrap (i : Int) = (i : Int) % 256 := rfl; omega
   go_wp2_with (go_at_call 104; (with_reducible refine (checksum_direct_1.calls 9 _ (crcB i) _ ?_).mono ?_); (first | exact crcB_all i hi | (rw [hw8]; exact crcB_all i hi)); rintro e w1 ⟨rfl, ⟨m, rfl⟩⟩)
   go_roundg g
   case measure => omega
   case rel =>
    have hg1 : (((w.alloc (.cells (crcRow 0) 134)).alloc (.cells (crcRow i) 134)).drewN (n + m)).heap[w.heap.size + 1]? = some (.cells (crcRow i) 134 (0, 0)) := last_new _ _ _ _ _
    refine ⟨i + 1, _, n + m, by omega, rfl, by first | rfl | simp, ?_⟩
    rw [setCell_eq_setRow _ _ _ _ _ _ _ hg1, crcRow_set i hi]
    have e := setRow_last (w.alloc (.cells (crcRow 0) 134)) (crcRow i) (crcRow (i + 1)) 134 (n + m)
    rwa [World.size_alloc] at e
set_option maxHeartbeats 8000000 in
set_option maxRecDepth 1000000 in
theorem checksum_direct.calls (w : World) :
  Calls Try.prog 102 #[] w fun e w' => e = .returned (.agg (crcRow 256)) ∧ Below w.heap.size w w' := by
 go_enter Try.func102, Try.ntmps102
 go_wp2_with (go_at_call 103; refine (checksum_table.calls _).mono ?_; rintro e w1 ⟨rfl, hb⟩; have HB := Aside0.mk hb; have hg := Aside0.mk (blk_below (blk_new w _) hb); clear hb)
 rw [crcRow_zero] at hg
 have hz := crcRow_size 256
 have hi134 : (Try.prog.info? 134).map (·.size) = some 256 := by kernel_rfl
 have ht : Try.prog.underlying 134 = some (.array 256 121) := by kernel_rfl
 have hsc := store_row_run (P := Try.prog) hg.out (c := crcRow 256) (by rw [hz, crcRow_size]) (crcRow_one 256)
 simp only [hsc, Result.andThen]
 rw [Oper.upon_skip]
 go_wp2
 (try simp only [Exit.inBlock, Exit.then])
 refine bodyPost_ret (v := .agg (crcRow 256)) (results_cell_row (ty := 134) (p := 0) rfl _ _ w.heap.size 134 (crcRow 256) (0, 0) (.array 256 121) rfl (setRow_heap _ _ (crcRow 0) _ _ _ hg.out) ht rfl (by rw [hz]; exact hi134)) rfl ⟨rfl, ?_⟩
 exact below_setRow (B := w.heap.size) (below_step (below_alloc (Below.refl _ _) _) HB.out) (Nat.le_refl _) _

/-! ### checksum_ExtendCRC16: function 98 -/
def crcL : List UInt8 → Int → Int
 | [], c => c
 | b :: l, c => crcL l (Go.bits .xor .u16 (IntKind.u16.wrap (c * 256)) (crcB (Go.bits .xor .u8 (c / 256 % 256) (b.toNat : Int)).toNat))
theorem bits8 (x y : Int) : 0 ≤ Go.bits .xor .u8 x y ∧ Go.bits .xor .u8 x y < 256 := by
 have e : ∀ z : Int, IntKind.u8.wrap z = z % 256 := fun z => rfl
 unfold Go.bits
 split <;> rw [e] <;> omega
def checksum_ExtendCRC16.f (a0 : Int) (a1 : ByteArray) : Option Int := if a1.size ≤ 9223372036854775807 then some (crcL a1.data.toList a0) else none
set_option maxHeartbeats 8000000 in
set_option maxRecDepth 1000000 in
theorem checksum_ExtendCRC16.calls (a0 : Int) (a1 : ByteArray) (r : Int) (w : World) (h : checksum_ExtendCRC16.f a0 a1 = some r) :
  Calls Try.prog 98 #[.int .u16 a0, .string a1] w fun e w' => e = .returned (.int .u16 r) ∧ Below w.heap.size w w' := by
 have hsz : a1.size ≤ 9223372036854775807 := by
  unfold checksum_ExtendCRC16.f at h
  split at h
  ·assumption
  ·cases h
 unfold checksum_ExtendCRC16.f at h
 rw [if_pos hsz] at h
 obtain rfl := Option.some.inj h
 clear h
 go_enter Try.func98, Try.ntmps98
 go_wp2_with (go_at_call 102; refine (checksum_direct.calls _).mono ?_; rintro e w1 ⟨rfl, hb⟩; have HB := Aside0.mk hb; clear hb)
 rw [crcRow_zero]
 have hz := crcRow_size 256
 have hg0 := blk_new w1 (.cells (crcRow 0) 134)
 have hsc := store_row_run (P := Try.prog) hg0 (c := crcRow 256) (by rw [hz, crcRow_size]) (crcRow_one 256)
 simp only [hsc, Result.andThen]
 rw [Oper.upon_skip]
 have hg2 := setRow_heap (w1.alloc (.cells (crcRow 0) 134)) w1.heap.size (crcRow 0) (crcRow 256) 134 (0, 0) hg0
 have HB2 := Aside0.mk (below_setRow (B := w.heap.size) (below_alloc HB.out (.cells (crcRow 0) 134)) (g := w1.heap.size) HB.out.size (crcRow 256))
 clear HB hsc hg0
 generalize hG : w1.heap.size = G at *
 generalize hW : (w1.alloc (.cells (crcRow 0) 134)).setRow G (crcRow 256) = W at *
 clear hW hG
 go_wp2
 go_loopg [0, 6, 10] a1.size (fun g s0 s6 s10 wx => ∃ (c : Int) (i : Nat) (u : Value) (n : Nat), i + g = a1.size ∧ s0 = .int .u16 c ∧ s6 = u ∧ s10 = .int .i64 i ∧ crcL (a1.data.toList.drop i) c = crcL a1.data.toList a0 ∧ wx = W.drewN n)
 case atStart => exact ⟨a0, 0, _, 0, by omega, rfl, rfl, rfl, rfl, rfl⟩
 case round =>
  obtain ⟨c, i, u, n, hig, rfl, rfl, rfl, hc, rfl⟩ := hrel
  cases gk with
  | zero =>
   obtain rfl : i = a1.size := by omega
   have hd : a1.data.toList.drop a1.size = [] := List.drop_eq_nil_of_le (by show a1.data.toList.length ≤ a1.data.size; rw [Array.length_toList]; exact Nat.le_refl _)
   rw [hd] at hc
   have hcr : c = crcL a1.data.toList a0 := hc
   subst hcr
   go_wp2
   go_ret
   exact ⟨rfl, Below.drewN' HB2.out n⟩
  | succ g =>
   have hi : i < a1.size := by omega
   have hiz : decide ((i : Int) < (a1.size : Int)) = true := decide_eq_true (by omega)
   obtain ⟨b0, b1⟩ := bits8 (c / 256 % 256) (a1[i].toNat : Int)
   have hx : (Go.bits .xor .u8 (c / 256 % 256) (a1[i].toNat : Int)).toNat < 256 := by omega
   have hcell := crcRow_at _ hx
   have hgg := blk_cell hg2 (Go.bits .xor .u8 (c / 256 % 256) (a1[i].toNat : Int)).toNat
   rw [hcell] at hgg
   have hdr : a1.data.toList.drop i = a1[i] :: a1.data.toList.drop (i + 1) := by
    rw [List.drop_eq_getElem_cons (by rw [Array.length_toList]; exact hi)]
    rfl
   rw [hdr] at hc
   have HC := Aside0.mk hc
   clear hc hdr
   go_wp2
   go_roundg g
   case measure => omega
   case rel => exact ⟨_, i + 1, _, n, by omega, rfl, rfl, by first | rfl | simp, HC.out, rfl⟩

/-! ### checksum_CRC16: function 85 -/
def checksum_CRC16.f (a0 : ByteArray) : Option (Int) := (checksum_ExtendCRC16.f 0 a0).bind fun t213 => (some t213)
set_option maxHeartbeats 8000000 in
set_option maxRecDepth 100000 in
theorem checksum_CRC16.calls (a0 : ByteArray) (r : Int) (w : World) (h : checksum_CRC16.f a0 = some r) :
  Calls Try.prog 85 #[.string a0] w fun e w' => e = .returned (.int .u16 r) ∧ Below w.heap.size w w' := by
 have HB := Aside0.mk (Below.refl w.heap.size w)
 have H : ((checksum_ExtendCRC16.f 0 a0).bind fun t213 => (some t213)) = some r := h
 clear h
 replace H := Option.bind_eq_some_iff.mp H
 obtain ⟨t213, A20, H⟩ := H
 replace H : (some t213) = some r := H
 have A2 := Aside0.mk A20
 clear A20
 obtain rfl := Option.some.inj H
 go_enter Try.func85, Try.ntmps85
 go_wp2_with (first | ((with_reducible refine gate_callee (f := 98) rfl ?_); refine goesL_ (some 4) rfl rfl Try.func98 (by kernel_rfl) rfl #[.int .u16 0, .string a0] rfl (by (try simp only [List.map_toArray, List.map_cons, List.map_nil]); first | done | rfl | (simp only [List.length_drop, List.length_take]; rfl)) ?_; (with_reducible refine (checksum_ExtendCRC16.calls 0 a0 t213 _ A2.out).mono ?_); rintro e w3 ⟨rfl, hb⟩; refine ⟨_, rfl, ?_⟩; have n0_ := Aside0.mk (below_step (by repeat (first | (with_reducible first | exact HB.out | apply below_alloc | apply pw_below_drewN | apply below_drew1) | exact HB.out)) hb); clear HB; have HB := n0_; clear n0_; (try clear hb); (try clear hb2); (try clear hk); (try clear hi)))
 go_ret
 exact ⟨by first | rfl | (simp [errW_none, errW_some] <;> rfl) | (simp [*, errW_none, errW_some] <;> rfl), by repeat (first | (with_reducible first | exact HB.out | apply below_alloc | apply pw_below_drewN | apply below_drew1) | exact HB.out)⟩

/-! ### checksum_Sum8: function 99 -/
def checksum_Sum8.l0 : Nat → ByteArray → Int → Int → Int → Option (Int)
 | 0, _, _, _, _ => none
 | k + 1, x0, x3, x6, x7 => if x7 < x6 then (if 0 ≤ x7 then (if x7 < (x0.size : Int) then (checksum_Sum8.l0 k x0 ((x3 + (bt x0 x7)) % 256) x6 (wrap64 (x7 + 1))) else (none)) else (none)) else (some x3)
def checksum_Sum8.f (k : Nat) (a0 : ByteArray) : Option (Int) := checksum_Sum8.l0 k a0 0 (a0.size : Int) 0
theorem checksum_Sum8.mono_l : ∀ k, (∀ y0 y1 y2 y3, LeO (checksum_Sum8.l0 k y0 y1 y2 y3) (checksum_Sum8.l0 (k + 1) y0 y1 y2 y3))
 | 0 => fun _ _ _ _ r h => by simp [checksum_Sum8.l0] at h
 | k + 1 => by
  have ih0 := checksum_Sum8.mono_l k
  ·intro y0 y1 y2 y3
   unfold checksum_Sum8.l0
   repeat' first
   | (with_reducible exact ih0 _ _ _ _)
   | (with_reducible exact LeO.refl _)
   | (with_reducible exact LeO.none _)
   | (with_reducible refine LeO.ite ?_ ?_)
   | (with_reducible refine LeO.bind ?_ (fun _ => ?_))
   | exact ih0 _ _ _ _
   | exact LeO.none _
   | refine LeO.ite ?_ ?_
   | refine LeO.bind ?_ (fun _ => ?_)
theorem checksum_Sum8.mono : ∀ a0 k, LeO (checksum_Sum8.f k a0) (checksum_Sum8.f (k + 1) a0) := by
 intro a0 k
 have ih0 := checksum_Sum8.mono_l k
 unfold checksum_Sum8.f
 repeat' first
   | (with_reducible exact ih0 _ _ _ _)
   | (with_reducible exact LeO.refl _)
   | (with_reducible exact LeO.none _)
   | (with_reducible refine LeO.ite ?_ ?_)
   | (with_reducible refine LeO.bind ?_ (fun _ => ?_))
   | exact ih0 _ _ _ _
   | exact LeO.none _
   | refine LeO.ite ?_ ?_
   | refine LeO.bind ?_ (fun _ => ?_)
set_option maxHeartbeats 8000000 in
set_option maxRecDepth 100000 in
theorem checksum_Sum8.calls (k : Nat) (a0 : ByteArray) (r : Int) (w : World) (h : checksum_Sum8.f k a0 = some r) :
  Calls Try.prog 99 #[.string a0] w fun e w' => e = .returned (.int .u8 r) ∧ Drawn0 w w' := by
 have H : (checksum_Sum8.l0 k a0 0 (a0.size : Int) 0) = some r := h
 clear h
 have H' := Aside0.mk H
 clear H
 go_enter Try.func99, Try.ntmps99
 go_wp2
 go_loopg [3, 7] k (fun kq v3 v7 w' => ∃ (x3_1 : Int) (x7_1 : Int), v3 = .int .u8 x3_1 ∧ v7 = .int .i64 x7_1 ∧ Aside0 (checksum_Sum8.l0 kq a0 x3_1 (a0.size : Int) x7_1 = some r) ∧ Aside0 (kq ≤ k) ∧ Drawn0 w w')
 case atStart => exact ⟨(0), (0), (by first | rfl | (simp; done) | (simp [*]; done)), (by first | rfl | (simp; done) | (simp [*]; done)), H', ⟨Nat.le_refl _⟩, by repeat (first | exact Drawn0.refl _ | apply Drawn0.step)⟩
 case round =>
  clear H'
  obtain ⟨x3_1, x7_1, rfl, rfl, HA, HK1, ⟨m1, rfl⟩⟩ := hrel
  cases gk with
  | zero => exact absurd HA.out (by simp [checksum_Sum8.l0])
  | succ k1 =>
   have H := HA.out
   clear HA
   simp only [checksum_Sum8.l0] at H
   by_cases c2 : x7_1 < (a0.size : Int)
   ·rw [if_pos c2] at H
    have c2b0 : decide (x7_1 < (a0.size : Int)) = true := decide_eq_true c2
    clear c2
    by_cases c3 : 0 ≤ x7_1
    ·rw [if_pos c3] at H
     have c3b0 : decide (0 ≤ x7_1) = true := decide_eq_true c3
     clear c3
     by_cases c4 : x7_1 < (a0.size : Int)
     ·rw [if_pos c4] at H
      have c4b0 : decide (x7_1 < (a0.size : Int)) = true := decide_eq_true c4
      clear c4
      have H' := Aside0.mk H
      clear H
      have p5 : 0 ≤ (x7_1 : Int) := of_decide_eq_true (by first | (with_reducible assumption) | assumption)
      have q5 : x7_1 < (a0.size : Int) := of_decide_eq_true (by first | (with_reducible assumption) | assumption)
      have hx5 := bt_at a0 x7_1
      replace p5 := eq_true p5
      replace q5 := eq_true q5
      go_wp2
      go_roundg k1
      case measure => have := HK1.out; omega
      case rel => exact ⟨((x3_1 + (bt a0 x7_1)) % 256), (wrap64 (x7_1 + 1)), (by first | rfl | (simp; done) | (simp [*]; done)), (by first | rfl | (simp; done) | (simp [*]; done)), H', ⟨by have := HK1.out; omega⟩, by repeat (first | exact Drawn0.refl _ | apply Drawn0.step)⟩
     ·rw [if_neg c4] at H
      exact absurd H (by simp)
    ·rw [if_neg c3] at H
     exact absurd H (by simp)
   ·rw [if_neg c2] at H
    have c2b0 : decide (x7_1 < (a0.size : Int)) = false := decide_eq_false c2
    clear c2
    obtain rfl := Option.some.inj H
    go_wp2
    go_ret
    exact ⟨by first | rfl | (simp; done) | (simp [*]; done), by repeat (first | exact Drawn0.refl _ | apply Drawn0.step)⟩

/-! ### udftag_sum: function 89 -/
def udftag_sum.f (k : Nat) (a0 : ByteArray) : Option (Int) := if 0 ≤ 4 then (if 4 ≤ (a0.size : Int) then (if 5 ≤ 16 then (if 16 ≤ (a0.size : Int) then (if (a0.extract 0 4).size + (a0.extract 5 16).size ≤ 9223372036854775807 then ((checksum_Sum8.f k ((a0.extract 0 4) ++ (a0.extract 5 16))).bind fun t214 => (some t214)) else (none)) else (none)) else (none)) else (none)) else (none)
theorem udftag_sum.mono : ∀ a0 k, LeO (udftag_sum.f k a0) (udftag_sum.f (k + 1) a0) := by
 intro a0 k
 unfold udftag_sum.f
 repeat' first
   | (with_reducible exact checksum_Sum8.mono _ _)
   | (with_reducible exact LeO.refl _)
   | (with_reducible exact LeO.none _)
   | (with_reducible refine LeO.ite ?_ ?_)
   | (with_reducible refine LeO.bind ?_ (fun _ => ?_))
   | exact checksum_Sum8.mono _ _
   | exact LeO.none _
   | refine LeO.ite ?_ ?_
   | refine LeO.bind ?_ (fun _ => ?_)
set_option maxHeartbeats 8000000 in
set_option maxRecDepth 100000 in
theorem udftag_sum.calls (k : Nat) (a0 : ByteArray) (r : Int) (w : World) (h : udftag_sum.f k a0 = some r) :
  Calls Try.prog 89 #[.string a0] w fun e w' => e = .returned (.int .u8 r) ∧ Drawn0 w w' := by
 have H : (if 0 ≤ 4 then (if 4 ≤ (a0.size : Int) then (if 5 ≤ 16 then (if 16 ≤ (a0.size : Int) then (if (a0.extract 0 4).size + (a0.extract 5 16).size ≤ 9223372036854775807 then ((checksum_Sum8.f k ((a0.extract 0 4) ++ (a0.extract 5 16))).bind fun t214 => (some t214)) else (none)) else (none)) else (none)) else (none)) else (none)) = some r := h
 clear h
 by_cases c2 : 0 ≤ 4
 ·rw [if_pos c2] at H
  have c2b0 := eq_true c2
  have c2b1 : decide (0 ≤ 4) = true := decide_eq_true c2
  clear c2
  by_cases c3 : 4 ≤ (a0.size : Int)
  ·rw [if_pos c3] at H
   have c3b0 := eq_true c3
   have c3b1 : decide (4 ≤ (a0.size : Int)) = true := decide_eq_true c3
   clear c3
   by_cases c4 : 5 ≤ 16
   ·rw [if_pos c4] at H
    have c4b0 := eq_true c4
    have c4b1 : decide (5 ≤ 16) = true := decide_eq_true c4
    clear c4
    by_cases c5 : 16 ≤ (a0.size : Int)
    ·rw [if_pos c5] at H
     have c5b0 := eq_true c5
     have c5b1 : decide (16 ≤ (a0.size : Int)) = true := decide_eq_true c5
     clear c5
     by_cases c6 : (a0.extract 0 4).size + (a0.extract 5 16).size ≤ 9223372036854775807
     ·rw [if_pos c6] at H
      have c6b0 := eq_true c6
      have c6b1 : decide ((a0.extract 0 4).size + (a0.extract 5 16).size ≤ 9223372036854775807) = true := decide_eq_true c6
      try have c6b2 : (9223372036854775807 < (a0.extract 0 4).size + (a0.extract 5 16).size) = False := eq_false (Nat.not_lt.2 c6)
      try (have c6b2u := c6b2; simp only [ByteArray.size_append, ByteArray.size_extract, Nat.sub_zero, Nat.min_self] at c6b2u)
      replace H := Option.bind_eq_some_iff.mp H
      obtain ⟨t214, A70, H⟩ := H
      replace H : (some t214) = some r := H
      have A7 := Aside0.mk A70
      clear A70
      obtain rfl := Option.some.inj H
      go_enter Try.func89, Try.ntmps89
      go_wp2_with (first | (go_at_call 99; (with_reducible refine (checksum_Sum8.calls k ((a0.extract 0 4) ++ (a0.extract 5 16)) t214 _ A7.out).mono ?_); rintro e w' ⟨rfl, ⟨nd, rfl⟩⟩; (try first | exact ⟨rfl, _, World.drewN_drewN _ _ _⟩ | exact ⟨rfl, _, Eq.trans (World.drewN_drewN _ _ _) (congrArg (World.drewN _) (Nat.add_assoc _ _ _))⟩)))
      repeat (go_quiet (first | (go_at_call 99; (with_reducible refine (checksum_Sum8.calls k ((a0.extract 0 4) ++ (a0.extract 5 16)) t214 _ A7.out).mono ?_); rintro e w' ⟨rfl, ⟨nd, rfl⟩⟩; (try first | exact ⟨rfl, _, World.drewN_drewN _ _ _⟩ | exact ⟨rfl, _, Eq.trans (World.drewN_drewN _ _ _) (congrArg (World.drewN _) (Nat.add_assoc _ _ _))⟩))); try go_wp2_with (first | (go_at_call 99; (with_reducible refine (checksum_Sum8.calls k ((a0.extract 0 4) ++ (a0.extract 5 16)) t214 _ A7.out).mono ?_); rintro e w' ⟨rfl, ⟨nd, rfl⟩⟩; (try first | exact ⟨rfl, _, World.drewN_drewN _ _ _⟩ | exact ⟨rfl, _, Eq.trans (World.drewN_drewN _ _ _) (congrArg (World.drewN _) (Nat.add_assoc _ _ _))⟩))))
      go_ret
      exact ⟨by first | rfl | (simp; done) | (simp [*]; done), by repeat (first | exact Drawn0.refl _ | apply Drawn0.step)⟩
     ·rw [if_neg c6] at H
      exact absurd H (by simp)
    ·rw [if_neg c5] at H
     exact absurd H (by simp)
   ·rw [if_neg c4] at H
    exact absurd H (by simp)
  ·rw [if_neg c3] at H
   exact absurd H (by simp)
 ·rw [if_neg c2] at H
  exact absurd H (by simp)

/-! ### udftag_summed: function 86 -/
def udftag_summed.f (k : Nat) (a0 : ByteArray) : Option (ByteArray) := if 0 ≤ 4 then (if 4 ≤ (a0.size : Int) then ((udftag_sum.f k a0).bind fun t215 => ((some (([t215] : List Int) : List Int)).bind fun y216 => (if (a0.extract 0 4).size + (strOfNums y216).size ≤ 9223372036854775807 then (if 5 ≤ (a0.size : Int) then (if ((a0.extract 0 4) ++ (strOfNums y216)).size + (a0.extract 5 a0.size).size ≤ 9223372036854775807 then (some (((a0.extract 0 4) ++ (strOfNums y216)) ++ (a0.extract 5 a0.size))) else (none)) else (none)) else (none)))) else (none)) else (none)
theorem udftag_summed.mono : ∀ a0 k, LeO (udftag_summed.f k a0) (udftag_summed.f (k + 1) a0) := by
 intro a0 k
 unfold udftag_summed.f
 repeat' first
   | (with_reducible exact udftag_sum.mono _ _)
   | (with_reducible exact LeO.refl _)
   | (with_reducible exact LeO.none _)
   | (with_reducible refine LeO.ite ?_ ?_)
   | (with_reducible refine LeO.bind ?_ (fun _ => ?_))
   | exact udftag_sum.mono _ _
   | exact LeO.none _
   | refine LeO.ite ?_ ?_
   | refine LeO.bind ?_ (fun _ => ?_)
def udftag_summed.T1 : Bool × List (List Nat × List Nat) := (true, [([], []), ([0], [0]), ([], []), ([2], [2]), ([3], [3]), ([4], [4]), ([1, 5], [1, 5]), ([], []), ([7], [7]), ([6, 8], [6, 8]), ([9, 3, 0, 1, 2, 3, 4, 5, 6, 7, 8, 9], [9])])
def udftag_summed.B1 : List Nat := [0, 1, 0, 4, 12, 28, 63, 0, 128, 511, 1023]
theorem udftag_summed.tab1 : rtab .any (opsOf Try.f86 1) = udftag_summed.T1 := by kernel_rfl
theorem udftag_summed.bits1 : waitsOk udftag_summed.T1.2 udftag_summed.B1 = true := by kernel_rfl
set_option maxHeartbeats 8000000 in
set_option maxRecDepth 100000 in
theorem udftag_summed.calls (k : Nat) (a0 : ByteArray) (r : ByteArray) (w : World) (h : udftag_summed.f k a0 = some r) :
  Calls Try.prog 86 #[.string a0] w fun e w' => e = .returned (.string r) ∧ Below w.heap.size w w' := by
 have HB := Aside0.mk (Below.refl w.heap.size w)
 have H : (if 0 ≤ 4 then (if 4 ≤ (a0.size : Int) then ((udftag_sum.f k a0).bind fun t215 => ((some (([t215] : List Int) : List Int)).bind fun y216 => (if (a0.extract 0 4).size + (strOfNums y216).size ≤ 9223372036854775807 then (if 5 ≤ (a0.size : Int) then (if ((a0.extract 0 4) ++ (strOfNums y216)).size + (a0.extract 5 a0.size).size ≤ 9223372036854775807 then (some (((a0.extract 0 4) ++ (strOfNums y216)) ++ (a0.extract 5 a0.size))) else (none)) else (none)) else (none)))) else (none)) else (none)) = some r := h
 clear h
 by_cases c2 : 0 ≤ 4
 ·rw [if_pos c2] at H
  have c2b0 := eq_true c2
  have c2b1 : decide (0 ≤ 4) = true := decide_eq_true c2
  clear c2
  by_cases c3 : 4 ≤ (a0.size : Int)
  ·rw [if_pos c3] at H
   have c3b0 := eq_true c3
   have c3b1 : decide (4 ≤ (a0.size : Int)) = true := decide_eq_true c3
   clear c3
   replace H := Option.bind_eq_some_iff.mp H
   obtain ⟨t215, A40, H⟩ := H
   replace H : ((some (([t215] : List Int) : List Int)).bind fun y216 => (if (a0.extract 0 4).size + (strOfNums y216).size ≤ 9223372036854775807 then (if 5 ≤ (a0.size : Int) then (if ((a0.extract 0 4) ++ (strOfNums y216)).size + (a0.extract 5 a0.size).size ≤ 9223372036854775807 then (some (((a0.extract 0 4) ++ (strOfNums y216)) ++ (a0.extract 5 a0.size))) else (none)) else (none)) else (none))) = some r := H
   have A4 := Aside0.mk A40
   clear A40
   obtain ⟨y216, hy216⟩ : ∃ y_ : List Int, y_ = (([t215] : List Int)) := ⟨_, rfl⟩
   replace H : (if (a0.extract 0 4).size + (strOfNums y216).size ≤ 9223372036854775807 then (if 5 ≤ (a0.size : Int) then (if ((a0.extract 0 4) ++ (strOfNums y216)).size + (a0.extract 5 a0.size).size ≤ 9223372036854775807 then (some (((a0.extract 0 4) ++ (strOfNums y216)) ++ (a0.extract 5 a0.size))) else (none)) else (none)) else (none)) = some r := by first | (rw [hy216]; with_reducible exact H) | (have H2_ := (Option.bind_some _ _).symm.trans H; rw [hy216]; with_reducible exact H2_) | (have H2_ := (Option.bind_some _ _).symm.trans H; with_reducible exact H2_) | with_reducible exact H | (rw [hy216]; exact H) | exact H
   have Ny216 := Aside0.mk hy216
   clear hy216
   by_cases c5 : (a0.extract 0 4).size + (strOfNums y216).size ≤ 9223372036854775807
   ·rw [if_pos c5] at H
    have c5b0 := eq_true c5
    have c5b1 : decide ((a0.extract 0 4).size + (strOfNums y216).size ≤ 9223372036854775807) = true := decide_eq_true c5
    try have c5b2 : (9223372036854775807 < (a0.extract 0 4).size + (strOfNums y216).size) = False := eq_false (Nat.not_lt.2 c5)
    try (have c5b2u := c5b2; simp only [ByteArray.size_append, ByteArray.size_extract, Nat.sub_zero, Nat.min_self] at c5b2u)
    by_cases c6 : 5 ≤ (a0.size : Int)
    ·rw [if_pos c6] at H
     have c6b0 := eq_true c6
     have c6b1 : decide (5 ≤ (a0.size : Int)) = true := decide_eq_true c6
     clear c6
     by_cases c7 : ((a0.extract 0 4) ++ (strOfNums y216)).size + (a0.extract 5 a0.size).size ≤ 9223372036854775807
     ·rw [if_pos c7] at H
      have c7b0 := eq_true c7
      have c7b1 : decide (((a0.extract 0 4) ++ (strOfNums y216)).size + (a0.extract 5 a0.size).size ≤ 9223372036854775807) = true := decide_eq_true c7
      try have c7b2 : (9223372036854775807 < ((a0.extract 0 4) ++ (strOfNums y216)).size + (a0.extract 5 a0.size).size) = False := eq_false (Nat.not_lt.2 c7)
      try (have c7b2s := c7b2; simp only [ByteArray.size_append] at c7b2s)
      try (have c7b2u := c7b2; simp only [ByteArray.size_append, ByteArray.size_extract, Nat.sub_zero, Nat.min_self] at c7b2u)
      obtain rfl := Option.some.inj H
      go_enter Try.func86, Try.ntmps86
      try go_wp2
      have n0_ := Aside0.mk (below_drew1 HB.out)
      clear HB
      have HB := n0_
      clear n0_
      refine start_ (n := 11) (S := fun w' => True) (ds := []) (bm 11 0) (by kernel_rfl) rfl rfl trivial (fun hHeld => ?_); refine with_tabW udftag_summed.tab1 udftag_summed.bits1 (fun HT_ HW_ => ?_)
      generalize w.drew = w8 at HB hHeld ⊢
      refine pure_ (i := 0) (N := some 3) (v := ?_) (a' := ?_) (bm 11 1) rfl rfl (any_of HT_.out (by kernel_rfl)) (fun _ _ _ h => h) (Or.inl ⟨by rfl, ?_⟩) ?_ ?_; rotate_left; (intro w'; go_simp; with_reducible rfl); rotate_left; (simp only [puts_]; rfl)
      refine pure_ (i := 1) (N := some 4) (v := ?_) (a' := ?_) (bm 11 3) rfl rfl (any_of HT_.out (by kernel_rfl)) (fun _ _ _ h => h) (Or.inl ⟨by rfl, ?_⟩) ?_ ?_; rotate_left; (intro w'; go_simp; with_reducible rfl); rotate_left; (simp only [puts_]; rfl)
      refine pure_ (i := 2) (N := some 5) (v := ?_) (a' := ?_) (bm 11 7) rfl rfl (any_of HT_.out (by kernel_rfl)) (fun _ _ _ h => h) (Or.inl ⟨by rfl, ?_⟩) ?_ ?_; rotate_left; (intro w'; go_simp; with_reducible rfl); rotate_left; (simp only [puts_]; rfl)
      refine pure_ (i := 7) (N := some 10) (v := ?_) (a' := ?_) (bm 11 135) rfl rfl (any_of HT_.out (by kernel_rfl)) (fun _ _ _ h => h) (Or.inl ⟨by rfl, ?_⟩) ?_ ?_; rotate_left; (intro w'; go_simp; with_reducible rfl); rotate_left; (simp only [puts_]; rfl)
      refine pure_ (i := 8) (N := some 11) (v := ?_) (a' := ?_) (bm 11 391) rfl rfl (any_of HT_.out (by kernel_rfl)) (fun _ _ _ h => h) (Or.inl ⟨by rfl, ?_⟩) ?_ ?_; rotate_left; (intro w'; go_simp; with_reducible rfl); rotate_left; (simp only [puts_]; rfl)
      refine one_ (i := 3) (N := some 6) (bm 11 399) rfl rfl (one_of HT_.out (by kernel_rfl)) (by decide) (fun K hK => ?_)
      refine goes_ Try.func89 (by kernel_rfl) rfl #[.string a0] (by rfl) rfl rfl (by (try simp only [List.map_toArray, List.map_cons, List.map_nil]); first | done | rfl | (simp only [List.length_drop, List.length_take]; rfl)) ?_
      with_reducible refine (udftag_sum.calls k a0 t215 _ A4.out).mono ?_
      rintro e w' ⟨rfl, ⟨nd, rfl⟩⟩
      refine ⟨_, rfl, ?_⟩
      refine hK.out _ _ trivial (fun hHeld => ?_)
      clear hK K
      refine norm_ (a' := ?_) ?_ ?_
      rotate_left
      ·show Act.put _ (some 6) _ = _
       simp only [puts_]
       rfl
      refine one_ (i := 4) (N := some 7) (bm 11 415) rfl rfl (one_of HT_.out (by kernel_rfl)) (by decide) (fun K hK => ?_)
      refine Kd.R_lit_step (Kd.int .u8) _ 5 ?hg (N := 7) ?hd (xs := ([t215] : List Int)) (inner := [.int .u8 t215]) (ok := fun _ => True) (okp := fun _ => True) ?hr ?hp (fun _ hk => hk) trivial (Below.refl _ _) (Nat.le_refl _) (by simp) ?_; (case hd => rfl); (case hg => rfl); (case hr => first | (go_simp; done) | (go_simp; rfl)); (case hp => exact (Reps.one (show Kd.M (Kd.int .u8) _ _ _ t215 [.int .u8 t215] from rfl) (Reps.none _ _)))
      intro v217 w9 ho10 hb hg_ hnew_
      clear hg_ hnew_
      (first | rw [← Ny216.out] at ho10 | (simp only [Int.reduceToNat] at ho10; rw [← Ny216.out] at ho10))
      have n0_ := Aside0.mk (Kd.R_lower ho10 (below_size (by repeat (first | (with_reducible first | exact HB.out | apply below_alloc | apply pw_below_drewN | apply below_drew1) | exact HB.out))))
      have n1_ := Aside0.mk (below_step (by repeat (first | (with_reducible first | exact HB.out | apply below_alloc | apply pw_below_drewN | apply below_drew1) | exact HB.out)) hb)
      clear HB
      have HO218 := n0_
      have HB := n1_
      clear n0_ n1_
      clear hb ho10
      refine hK.out _ _ trivial (fun hHeld => ?_)
      clear hK K
      refine norm_ (a' := ?_) ?_ ?_
      rotate_left
      ·show Act.put _ (some 7) _ = _
       simp only [puts_]
       rfl
      refine one_ (i := 5) (N := some 8) (bm 11 447) rfl rfl (one_of HT_.out (by kernel_rfl)) (by decide) (fun K hK => ?_)
      have hcv11 := own_string (P := Try.prog) Try.underlying54 Try.underlying5 Try.underlying9 (Kd.own_of_R HO218.out)
      refine value_ (w1 := ?_) (v := ?_) (by rfl) rfl ?_ ?_
      rotate_left 2
      ·go_simp
       constructor
       ·rfl
       ·rfl
      clear hcv11
      refine hK.out _ _ trivial (fun hHeld => ?_)
      clear hK K
      refine norm_ (a' := ?_) ?_ ?_
      rotate_left
      ·show Act.put _ (some 8) _ = _
       simp only [puts_]
       rfl
      refine pure_ (i := 6) (N := some 9) (v := ?_) (a' := ?_) (bm 11 511) rfl rfl (any_of HT_.out (by kernel_rfl)) (fun _ _ _ h => h) (Or.inl ⟨by rfl, ?_⟩) ?_ ?_; rotate_left; (intro w'; go_simp; with_reducible rfl); rotate_left; (simp only [puts_]; rfl)
      refine pure_ (i := 9) (N := some 12) (v := ?_) (a' := ?_) (bm 11 1023) rfl rfl (any_of HT_.out (by kernel_rfl)) (fun _ _ _ h => h) (Or.inl ⟨by rfl, ?_⟩) ?_ ?_; rotate_left; (intro w'; go_simp; with_reducible rfl); rotate_left; (simp only [puts_]; rfl)
      refine pure_ (i := 10) (N := some 2) (v := ?_) (a' := ?_) (bm 11 2047) rfl rfl (any_of HT_.out (by kernel_rfl)) (fun _ _ _ h => h) (Or.inl ⟨by rfl, ?_⟩) ?_ ?_; rotate_left; (intro w'; go_simp; with_reducible rfl); rotate_left; (simp only [puts_]; rfl)
      refine done_ (done_of HT_.out (by kernel_rfl)) ?_
      try go_wp2
      go_ret
      exact ⟨by first | rfl | (simp [errW_none, errW_some] <;> rfl) | (simp [*, errW_none, errW_some] <;> rfl), by repeat (first | (with_reducible first | exact HB.out | apply below_alloc | apply pw_below_drewN | apply below_drew1) | exact HB.out)⟩
     ·rw [if_neg c7] at H
      exact absurd H (by simp)
    ·rw [if_neg c6] at H
     exact absurd H (by simp)
   ·rw [if_neg c5] at H
    exact absurd H (by simp)
  ·rw [if_neg c3] at H
   exact absurd H (by simp)
 ·rw [if_neg c2] at H
  exact absurd H (by simp)

end Go.Proofs.Yticmghpnbjhhnab.M
