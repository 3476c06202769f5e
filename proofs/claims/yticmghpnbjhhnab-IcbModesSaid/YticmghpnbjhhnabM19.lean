/- Lean functions with the answers of the Go functions that they are named after, and the walks that tie the Go functions to them (written by the program mp.py of this session). -/
import Derived.Test.YticmghpnbjhhnabM0
import Derived.Test.YticmghpnbjhhnabM18
namespace Go.Proofs.Yticmghpnbjhhnab.M
open Go.RowKit Go.Proofs.YticmghpnbjhhnabW.PrintWords Go.Proofs.YticmghpnbjhhnabW.PrintLast Go.Proofs.YticmghpnbjhhnabW.PrintMore
attribute [local go_sem] fieldA50_0 fieldA102_0 max2_int min2_int max_two min_two max_three min_three max_four min_four   -- for this text's walks alone
set_option linter.unusedVariables false
set_option linter.unusedSimpArgs false

/-! ### masterdiscref34_Permissions: function 10 -/
mutual
def masterdiscref34_Permissions.j0 : Nat → Int → Bool → Option (Int × Int)
  | 0, _, _ => none
  | k + 1, x0, x11 => if x11 = true then (some (0, 0)) else ((masterdiscref34_bits.f (Int.tmod x0 8)).bind fun t291 => ((masterdiscref34_bits.f (Int.tmod (wrap64 (Int.tdiv x0 8)) 8)).bind fun t292 => ((masterdiscref34_bits.f (Int.tmod (wrap64 (Int.tdiv x0 64)) 8)).bind fun t293 => (if (Int.tmod (wrap64 (Int.tdiv x0 2048)) 2) = 1 then (masterdiscref34_Permissions.j1 k x0 (wrap64 ((wrap64 (t291 + (wrap64 (32 * t292)))) + (wrap64 (1024 * t293)))) (0 + 64)) else (masterdiscref34_Permissions.j1 k x0 (wrap64 ((wrap64 (t291 + (wrap64 (32 * t292)))) + (wrap64 (1024 * t293)))) 0)))))
def masterdiscref34_Permissions.j1 : Nat → Int → Int → Int → Option (Int × Int)
  | 0, _, _, _ => none
  | k + 1, x0, x4, x5 => if (Int.tmod (wrap64 (Int.tdiv x0 1024)) 2) = 1 then (if (Int.tmod (wrap64 (Int.tdiv x0 512)) 2) = 1 then (some (x4, wrap64 ((wrap64 (x5 + 128)) + 256))) else (some (x4, wrap64 (x5 + 128)))) else (if (Int.tmod (wrap64 (Int.tdiv x0 512)) 2) = 1 then (some (x4, wrap64 (x5 + 256))) else (some (x4, x5)))
end
def masterdiscref34_Permissions.f (k : Nat) (a0 : Int) : Option (Int × Int) := if a0 < 0 then (masterdiscref34_Permissions.j0 k a0 true) else (masterdiscref34_Permissions.j0 k a0 (decide (a0 > 4095)))
theorem masterdiscref34_Permissions.mono_l : ∀ k, (∀ y0 y1, LeO (masterdiscref34_Permissions.j0 k y0 y1) (masterdiscref34_Permissions.j0 (k + 1) y0 y1)) ∧ (∀ y0 y1 y2, LeO (masterdiscref34_Permissions.j1 k y0 y1 y2) (masterdiscref34_Permissions.j1 (k + 1) y0 y1 y2))
  | 0 => ⟨fun _ _ r h => by simp [masterdiscref34_Permissions.j0] at h, fun _ _ _ r h => by simp [masterdiscref34_Permissions.j1] at h⟩
  | k + 1 => by
    obtain ⟨ih0, ih1⟩ := masterdiscref34_Permissions.mono_l k
    refine ⟨?_, ?_⟩
    · intro y0 y1
      unfold masterdiscref34_Permissions.j0
      repeat' first
      | (with_reducible exact ih0 _ _)
      | (with_reducible exact ih1 _ _ _)
      | (with_reducible exact LeO.refl _)
      | (with_reducible exact LeO.none _)
      | (with_reducible refine LeO.ite ?_ ?_)
      | (with_reducible refine LeO.bind ?_ (fun _ => ?_))
      | exact ih0 _ _
      | exact ih1 _ _ _
      | exact LeO.none _
      | refine LeO.ite ?_ ?_
      | refine LeO.bind ?_ (fun _ => ?_)
    · intro y0 y1 y2
      unfold masterdiscref34_Permissions.j1
      repeat' first
      | (with_reducible exact ih0 _ _)
      | (with_reducible exact ih1 _ _ _)
      | (with_reducible exact LeO.refl _)
      | (with_reducible exact LeO.none _)
      | (with_reducible refine LeO.ite ?_ ?_)
      | (with_reducible refine LeO.bind ?_ (fun _ => ?_))
      | exact ih0 _ _
      | exact ih1 _ _ _
      | exact LeO.none _
      | refine LeO.ite ?_ ?_
      | refine LeO.bind ?_ (fun _ => ?_)
theorem masterdiscref34_Permissions.mono : ∀ a0 k, LeO (masterdiscref34_Permissions.f k a0) (masterdiscref34_Permissions.f (k + 1) a0) := by
  intro a0 k
  obtain ⟨ih0, ih1⟩ := masterdiscref34_Permissions.mono_l k
  unfold masterdiscref34_Permissions.f
  repeat' first
      | (with_reducible exact ih0 _ _)
      | (with_reducible exact ih1 _ _ _)
      | (with_reducible exact LeO.refl _)
      | (with_reducible exact LeO.none _)
      | (with_reducible refine LeO.ite ?_ ?_)
      | (with_reducible refine LeO.bind ?_ (fun _ => ?_))
      | exact ih0 _ _
      | exact ih1 _ _ _
      | exact LeO.none _
      | refine LeO.ite ?_ ?_
      | refine LeO.bind ?_ (fun _ => ?_)
set_option maxHeartbeats 8000000 in
set_option maxRecDepth 100000 in
theorem masterdiscref34_Permissions.calls (k : Nat) (a0 : Int) (r1 : Int) (r2 : Int) (w : World) (h : masterdiscref34_Permissions.f k a0 = some (r1, r2)) :
    Calls Try.prog 10 #[.int .i64 a0] w fun e w' => e = .returned (.tuple #[.int .i64 r1, .int .i64 r2]) ∧ Drawn0 w w' := by
  have H : (if a0 < 0 then (masterdiscref34_Permissions.j0 k a0 true) else (masterdiscref34_Permissions.j0 k a0 (decide (a0 > 4095)))) = some (r1, r2) := h
  clear h
  have HC2 := Aside0.mk H
  clear H
  go_enter Try.func10, Try.ntmps10
  go_upto_region 1 with (fail)
  go_cut [11] (fun v11 wc => ∃ (kq : Nat) (x11_1 : Bool), v11 = .bool x11_1 ∧ Aside0 (masterdiscref34_Permissions.j0 kq a0 x11_1 = some (r1, r2)) ∧ Aside0 (kq ≤ k) ∧ Drawn0 w wc)
  case first =>
    have H := HC2.out
    clear HC2
    by_cases c3 : a0 < 0
    · rw [if_pos c3] at H
      have c3b0 : decide (a0 < 0) = true := decide_eq_true c3
      clear c3
      (first | rw [c3b0] | (simp only [i64_w, i32_w]; rw [c3b0]) | skip)
      have H' := Aside0.mk H
      clear H
      go_wp2
      go_meet
      case rel => exact ⟨_, (true), (by first | rfl | (simp; done) | (simp [*]; done)), H', ⟨by first | omega | exact Nat.le_refl _⟩, by repeat (first | exact Drawn0.refl _ | apply Drawn0.step)⟩
    · rw [if_neg c3] at H
      have c3b0 : decide (a0 < 0) = false := decide_eq_false c3
      clear c3
      (first | rw [c3b0] | (simp only [i64_w, i32_w]; rw [c3b0]) | skip)
      have H' := Aside0.mk H
      clear H
      go_wp2
      go_meet
      case rel => exact ⟨_, (decide (a0 > 4095)), (by first | rfl | (simp; done) | (simp [*]; done)), H', ⟨by first | omega | exact Nat.le_refl _⟩, by repeat (first | exact Drawn0.refl _ | apply Drawn0.step)⟩
  case rest =>
    clear HC2
    try clear c1
    try clear p2
    try clear c3
    try clear c3b0
    obtain ⟨kq, x11_1, rfl, HA, HJ1, ⟨mc1, rfl⟩⟩ := hcut
    cases kq with
    | zero => exact absurd HA.out (by simp [masterdiscref34_Permissions.j0])
    | succ kj1 =>
      have H := HA.out
      clear HA
      simp only [masterdiscref34_Permissions.j0] at H
      by_cases c4 : x11_1 = true
      · subst c4
        have H1 : (some (0, 0)) = some (r1, r2) := by rw [if_pos rfl] at H; exact H
        clear H
        have H := H1
        clear H1
        simp only [Option.some.injEq, Prod.mk.injEq] at H
        obtain ⟨rfl, rfl⟩ := H
        go_wp2
        go_ret2
        exact ⟨by first | rfl | (simp; done) | (simp [*]; done), by repeat (first | exact Drawn0.refl _ | apply Drawn0.step)⟩
      · replace c4 := Bool.eq_false_iff.mpr c4
        subst c4
        have H1 : ((masterdiscref34_bits.f (Int.tmod a0 8)).bind fun t291 => ((masterdiscref34_bits.f (Int.tmod (wrap64 (Int.tdiv a0 8)) 8)).bind fun t292 => ((masterdiscref34_bits.f (Int.tmod (wrap64 (Int.tdiv a0 64)) 8)).bind fun t293 => (if (Int.tmod (wrap64 (Int.tdiv a0 2048)) 2) = 1 then (masterdiscref34_Permissions.j1 kj1 a0 (wrap64 ((wrap64 (t291 + (wrap64 (32 * t292)))) + (wrap64 (1024 * t293)))) (0 + 64)) else (masterdiscref34_Permissions.j1 kj1 a0 (wrap64 ((wrap64 (t291 + (wrap64 (32 * t292)))) + (wrap64 (1024 * t293)))) 0))))) = some (r1, r2) := by rw [if_neg (show ¬ (false = true) by decide)] at H; exact H
        clear H
        have H := H1
        clear H1
        replace H := Option.bind_eq_some_iff.mp H
        obtain ⟨t291, A50, H⟩ := H
        replace H : ((masterdiscref34_bits.f (Int.tmod (wrap64 (Int.tdiv a0 8)) 8)).bind fun t292 => ((masterdiscref34_bits.f (Int.tmod (wrap64 (Int.tdiv a0 64)) 8)).bind fun t293 => (if (Int.tmod (wrap64 (Int.tdiv a0 2048)) 2) = 1 then (masterdiscref34_Permissions.j1 kj1 a0 (wrap64 ((wrap64 (t291 + (wrap64 (32 * t292)))) + (wrap64 (1024 * t293)))) (0 + 64)) else (masterdiscref34_Permissions.j1 kj1 a0 (wrap64 ((wrap64 (t291 + (wrap64 (32 * t292)))) + (wrap64 (1024 * t293)))) 0)))) = some (r1, r2) := H
        have A5 := Aside0.mk A50
        clear A50
        replace H := Option.bind_eq_some_iff.mp H
        obtain ⟨t292, A60, H⟩ := H
        replace H : ((masterdiscref34_bits.f (Int.tmod (wrap64 (Int.tdiv a0 64)) 8)).bind fun t293 => (if (Int.tmod (wrap64 (Int.tdiv a0 2048)) 2) = 1 then (masterdiscref34_Permissions.j1 kj1 a0 (wrap64 ((wrap64 (t291 + (wrap64 (32 * t292)))) + (wrap64 (1024 * t293)))) (0 + 64)) else (masterdiscref34_Permissions.j1 kj1 a0 (wrap64 ((wrap64 (t291 + (wrap64 (32 * t292)))) + (wrap64 (1024 * t293)))) 0))) = some (r1, r2) := H
        have A6 := Aside0.mk A60
        clear A60
        replace H := Option.bind_eq_some_iff.mp H
        obtain ⟨t293, A70, H⟩ := H
        replace H : (if (Int.tmod (wrap64 (Int.tdiv a0 2048)) 2) = 1 then (masterdiscref34_Permissions.j1 kj1 a0 (wrap64 ((wrap64 (t291 + (wrap64 (32 * t292)))) + (wrap64 (1024 * t293)))) (0 + 64)) else (masterdiscref34_Permissions.j1 kj1 a0 (wrap64 ((wrap64 (t291 + (wrap64 (32 * t292)))) + (wrap64 (1024 * t293)))) 0)) = some (r1, r2) := H
        have A7 := Aside0.mk A70
        clear A70
        have HC8 := Aside0.mk H
        clear H
        go_upto_if 30 with (first | ((with_reducible refine gate_callee (f := 21) rfl ?_); refine goesL_ (some 14) rfl rfl Try.func21 (by kernel_rfl) rfl #[.int .i64 (Int.tmod a0 8)] rfl (by (try simp only [List.map_toArray, List.map_cons, List.map_nil]); first | done | rfl | (simp only [List.length_drop, List.length_take]; rfl)) ?_; (with_reducible refine (masterdiscref34_bits.calls (Int.tmod a0 8) t291 _ A5.out).mono ?_); rintro e w' ⟨rfl, ⟨nd, rfl⟩⟩; refine ⟨_, rfl, ?_⟩) | ((with_reducible refine gate_callee (f := 21) rfl ?_); refine goesL_ (some 18) rfl rfl Try.func21 (by kernel_rfl) rfl #[.int .i64 (Int.tmod (wrap64 (Int.tdiv a0 8)) 8)] rfl (by (try simp only [List.map_toArray, List.map_cons, List.map_nil]); first | done | rfl | (simp only [List.length_drop, List.length_take]; rfl)) ?_; (with_reducible refine (masterdiscref34_bits.calls (Int.tmod (wrap64 (Int.tdiv a0 8)) 8) t292 _ A6.out).mono ?_); rintro e w' ⟨rfl, ⟨nd, rfl⟩⟩; refine ⟨_, rfl, ?_⟩) | ((with_reducible refine gate_callee (f := 21) rfl ?_); refine goesL_ (some 24) rfl rfl Try.func21 (by kernel_rfl) rfl #[.int .i64 (Int.tmod (wrap64 (Int.tdiv a0 64)) 8)] rfl (by (try simp only [List.map_toArray, List.map_cons, List.map_nil]); first | done | rfl | (simp only [List.length_drop, List.length_take]; rfl)) ?_; (with_reducible refine (masterdiscref34_bits.calls (Int.tmod (wrap64 (Int.tdiv a0 64)) 8) t293 _ A7.out).mono ?_); rintro e w' ⟨rfl, ⟨nd, rfl⟩⟩; refine ⟨_, rfl, ?_⟩))
        (try simp only [Act.put, List.setIfInBounds_toArray, List.set_cons_zero, List.set_cons_succ])
        go_cut [5] (fun v5 wc => ∃ (kq : Nat) (x5_7 : Int), v5 = .int .i64 x5_7 ∧ Aside0 (masterdiscref34_Permissions.j1 kq a0 (wrap64 ((wrap64 (t291 + (wrap64 (32 * t292)))) + (wrap64 (1024 * t293)))) x5_7 = some (r1, r2)) ∧ Aside0 (kq ≤ kj1) ∧ Drawn0 w wc)
        case first =>
          have H := HC8.out
          clear HC8
          by_cases c9 : (Int.tmod (wrap64 (Int.tdiv a0 2048)) 2) = 1
          · rw [if_pos c9] at H
            have c9b0 : ((Int.tmod (wrap64 (Int.tdiv a0 2048)) 2) == 1) = true := beq_iff_eq.mpr c9
            have c9b1 : ((Int.tmod (wrap64 (Int.tdiv a0 2048)) 2) != 1) = false := bne_eq_false_iff_eq.mpr c9
            clear c9
            (first | rw [c9b0] | (simp only [i64_w, i32_w]; rw [c9b0]) | skip)
            have H' := Aside0.mk H
            clear H
            go_wp2
            go_meet
            case rel => exact ⟨_, (0 + 64), (by first | rfl | (simp; done) | (simp [*]; done)), H', ⟨by have := HJ1.out; first | omega | exact Nat.le_refl _⟩, by repeat (first | exact Drawn0.refl _ | apply Drawn0.step)⟩
          · rw [if_neg c9] at H
            have c9b0 : ((Int.tmod (wrap64 (Int.tdiv a0 2048)) 2) == 1) = false := beq_eq_false_iff_ne.mpr c9
            have c9b1 : ((Int.tmod (wrap64 (Int.tdiv a0 2048)) 2) != 1) = true := bne_iff_ne.mpr c9
            (first | rw [c9b0] | (simp only [i64_w, i32_w]; rw [c9b0]) | skip)
            have H' := Aside0.mk H
            clear H
            go_wp2
            go_meet
            case rel => exact ⟨_, (0), (by first | rfl | (simp; done) | (simp [*]; done)), H', ⟨by have := HJ1.out; first | omega | exact Nat.le_refl _⟩, by repeat (first | exact Drawn0.refl _ | apply Drawn0.step)⟩
        case rest =>
          clear HC8
          try clear c1
          try clear c2
          try clear p2
          try clear c3
          try clear c3b0
          try clear c4
          try clear p6
          try clear c9
          try clear c9b0
          try clear c9b1
          try clear p2
          obtain ⟨kq, x5_7, rfl, HA, HJ7, ⟨mc7, rfl⟩⟩ := hcut
          cases kq with
          | zero => exact absurd HA.out (by simp [masterdiscref34_Permissions.j1])
          | succ kj7 =>
            have H := HA.out
            clear HA
            simp only [masterdiscref34_Permissions.j1] at H
            by_cases c10 : (Int.tmod (wrap64 (Int.tdiv a0 1024)) 2) = 1
            · rw [if_pos c10] at H
              have c10b0 : ((Int.tmod (wrap64 (Int.tdiv a0 1024)) 2) == 1) = true := beq_iff_eq.mpr c10
              have c10b1 : ((Int.tmod (wrap64 (Int.tdiv a0 1024)) 2) != 1) = false := bne_eq_false_iff_eq.mpr c10
              clear c10
              by_cases c11 : (Int.tmod (wrap64 (Int.tdiv a0 512)) 2) = 1
              · rw [if_pos c11] at H
                have c11b0 : ((Int.tmod (wrap64 (Int.tdiv a0 512)) 2) == 1) = true := beq_iff_eq.mpr c11
                have c11b1 : ((Int.tmod (wrap64 (Int.tdiv a0 512)) 2) != 1) = false := bne_eq_false_iff_eq.mpr c11
                clear c11
                simp only [Option.some.injEq, Prod.mk.injEq] at H
                obtain ⟨rfl, rfl⟩ := H
                go_wp2
                go_ret2
                exact ⟨by first | rfl | (simp; done) | (simp [*]; done), by repeat (first | exact Drawn0.refl _ | apply Drawn0.step)⟩
              · rw [if_neg c11] at H
                have c11b0 : ((Int.tmod (wrap64 (Int.tdiv a0 512)) 2) == 1) = false := beq_eq_false_iff_ne.mpr c11
                have c11b1 : ((Int.tmod (wrap64 (Int.tdiv a0 512)) 2) != 1) = true := bne_iff_ne.mpr c11
                simp only [Option.some.injEq, Prod.mk.injEq] at H
                obtain ⟨rfl, rfl⟩ := H
                go_wp2
                go_ret2
                exact ⟨by first | rfl | (simp; done) | (simp [*]; done), by repeat (first | exact Drawn0.refl _ | apply Drawn0.step)⟩
            · rw [if_neg c10] at H
              have c10b0 : ((Int.tmod (wrap64 (Int.tdiv a0 1024)) 2) == 1) = false := beq_eq_false_iff_ne.mpr c10
              have c10b1 : ((Int.tmod (wrap64 (Int.tdiv a0 1024)) 2) != 1) = true := bne_iff_ne.mpr c10
              by_cases c12 : (Int.tmod (wrap64 (Int.tdiv a0 512)) 2) = 1
              · rw [if_pos c12] at H
                have c12b0 : ((Int.tmod (wrap64 (Int.tdiv a0 512)) 2) == 1) = true := beq_iff_eq.mpr c12
                have c12b1 : ((Int.tmod (wrap64 (Int.tdiv a0 512)) 2) != 1) = false := bne_eq_false_iff_eq.mpr c12
                clear c12
                simp only [Option.some.injEq, Prod.mk.injEq] at H
                obtain ⟨rfl, rfl⟩ := H
                go_wp2
                go_ret2
                exact ⟨by first | rfl | (simp; done) | (simp [*]; done), by repeat (first | exact Drawn0.refl _ | apply Drawn0.step)⟩
              · rw [if_neg c12] at H
                have c12b0 : ((Int.tmod (wrap64 (Int.tdiv a0 512)) 2) == 1) = false := beq_eq_false_iff_ne.mpr c12
                have c12b1 : ((Int.tmod (wrap64 (Int.tdiv a0 512)) 2) != 1) = true := bne_iff_ne.mpr c12
                simp only [Option.some.injEq, Prod.mk.injEq] at H
                obtain ⟨rfl, rfl⟩ := H
                go_wp2
                go_ret2
                exact ⟨by first | rfl | (simp; done) | (simp [*]; done), by repeat (first | exact Drawn0.refl _ | apply Drawn0.step)⟩

/-! ### masterdiscref34_word: function 22 -/
def masterdiscref34_word.f (a0 : Int) : Option (Bool) := if a0 ≥ 0 then (some (decide (a0 < 4294967296))) else (some false)
set_option maxHeartbeats 8000000 in
set_option maxRecDepth 100000 in
theorem masterdiscref34_word.calls (a0 : Int) (r : Bool) (w : World) (h : masterdiscref34_word.f a0 = some r) :
    Calls Try.prog 22 #[.int .i64 a0] w fun e w' => e = .returned (.bool r) ∧ Drawn0 w w' := by
  have H : (if a0 ≥ 0 then (some (decide (a0 < 4294967296))) else (some false)) = some r := h
  clear h
  by_cases c2 : a0 ≥ 0
  · rw [if_pos c2] at H
    have c2b0 : decide (0 ≤ a0) = true := decide_eq_true c2
    clear c2
    obtain rfl := Option.some.inj H
    go_enter Try.func22, Try.ntmps22
    go_wp2
    go_ret
    exact ⟨by first | rfl | (simp; done) | (simp [*]; done), by repeat (first | exact Drawn0.refl _ | apply Drawn0.step)⟩
  · rw [if_neg c2] at H
    have c2b0 : decide (0 ≤ a0) = false := decide_eq_false c2
    clear c2
    obtain rfl := Option.some.inj H
    go_enter Try.func22, Try.ntmps22
    go_wp2
    go_ret
    exact ⟨by first | rfl | (simp; done) | (simp [*]; done), by repeat (first | exact Drawn0.refl _ | apply Drawn0.step)⟩

/-! ### masterdiscref34_Mode: function 12 -/
def masterdiscref34_Mode.f (a0 : Int) (a1 : Int) : Option (Int) := (masterdiscref34_word.f a0).bind fun t294 => (if t294 = true then (if a1 < 0 then (some 0) else (if a1 > 65535 then (some 0) else (some (wrap64 ((wrap64 ((wrap64 ((wrap64 ((wrap64 ((Int.tmod a0 8) + (wrap64 (8 * (Int.tmod (wrap64 (Int.tdiv a0 32)) 8))))) + (wrap64 (64 * (Int.tmod (wrap64 (Int.tdiv a0 1024)) 8))))) + (wrap64 (2048 * (Int.tmod (wrap64 (Int.tdiv a1 64)) 2))))) + (wrap64 (1024 * (Int.tmod (wrap64 (Int.tdiv a1 128)) 2))))) + (wrap64 (512 * (Int.tmod (wrap64 (Int.tdiv a1 256)) 2)))))))) else (some 0))
set_option maxHeartbeats 8000000 in
set_option maxRecDepth 100000 in
theorem masterdiscref34_Mode.calls (a0 : Int) (a1 : Int) (r : Int) (w : World) (h : masterdiscref34_Mode.f a0 a1 = some r) :
    Calls Try.prog 12 #[.int .i64 a0, .int .i64 a1] w fun e w' => e = .returned (.int .i64 r) ∧ Drawn0 w w' := by
  have H : ((masterdiscref34_word.f a0).bind fun t294 => (if t294 = true then (if a1 < 0 then (some 0) else (if a1 > 65535 then (some 0) else (some (wrap64 ((wrap64 ((wrap64 ((wrap64 ((wrap64 ((Int.tmod a0 8) + (wrap64 (8 * (Int.tmod (wrap64 (Int.tdiv a0 32)) 8))))) + (wrap64 (64 * (Int.tmod (wrap64 (Int.tdiv a0 1024)) 8))))) + (wrap64 (2048 * (Int.tmod (wrap64 (Int.tdiv a1 64)) 2))))) + (wrap64 (1024 * (Int.tmod (wrap64 (Int.tdiv a1 128)) 2))))) + (wrap64 (512 * (Int.tmod (wrap64 (Int.tdiv a1 256)) 2)))))))) else (some 0))) = some r := h
  clear h
  replace H := Option.bind_eq_some_iff.mp H
  obtain ⟨t294, A30, H⟩ := H
  replace H : (if t294 = true then (if a1 < 0 then (some 0) else (if a1 > 65535 then (some 0) else (some (wrap64 ((wrap64 ((wrap64 ((wrap64 ((wrap64 ((Int.tmod a0 8) + (wrap64 (8 * (Int.tmod (wrap64 (Int.tdiv a0 32)) 8))))) + (wrap64 (64 * (Int.tmod (wrap64 (Int.tdiv a0 1024)) 8))))) + (wrap64 (2048 * (Int.tmod (wrap64 (Int.tdiv a1 64)) 2))))) + (wrap64 (1024 * (Int.tmod (wrap64 (Int.tdiv a1 128)) 2))))) + (wrap64 (512 * (Int.tmod (wrap64 (Int.tdiv a1 256)) 2)))))))) else (some 0)) = some r := H
  have A3 := Aside0.mk A30
  clear A30
  by_cases c4 : t294 = true
  · subst c4
    have H1 : (if a1 < 0 then (some 0) else (if a1 > 65535 then (some 0) else (some (wrap64 ((wrap64 ((wrap64 ((wrap64 ((wrap64 ((Int.tmod a0 8) + (wrap64 (8 * (Int.tmod (wrap64 (Int.tdiv a0 32)) 8))))) + (wrap64 (64 * (Int.tmod (wrap64 (Int.tdiv a0 1024)) 8))))) + (wrap64 (2048 * (Int.tmod (wrap64 (Int.tdiv a1 64)) 2))))) + (wrap64 (1024 * (Int.tmod (wrap64 (Int.tdiv a1 128)) 2))))) + (wrap64 (512 * (Int.tmod (wrap64 (Int.tdiv a1 256)) 2)))))))) = some r := by rw [if_pos rfl] at H; exact H
    clear H
    have H := H1
    clear H1
    by_cases c5 : a1 < 0
    · rw [if_pos c5] at H
      have c5b0 : decide (a1 < 0) = true := decide_eq_true c5
      clear c5
      obtain rfl := Option.some.inj H
      go_enter Try.func12, Try.ntmps12
      go_wp2_with (first | ((with_reducible refine gate_callee (f := 22) rfl ?_); refine goesL_ (some 6) rfl rfl Try.func22 (by kernel_rfl) rfl #[.int .i64 a0] rfl (by (try simp only [List.map_toArray, List.map_cons, List.map_nil]); first | done | rfl | (simp only [List.length_drop, List.length_take]; rfl)) ?_; (with_reducible refine (masterdiscref34_word.calls a0 true _ A3.out).mono ?_); rintro e w' ⟨rfl, ⟨nd, rfl⟩⟩; refine ⟨_, rfl, ?_⟩))
      go_ret
      exact ⟨by first | rfl | (simp; done) | (simp [*]; done), by repeat (first | exact Drawn0.refl _ | apply Drawn0.step)⟩
    · rw [if_neg c5] at H
      have c5b0 : decide (a1 < 0) = false := decide_eq_false c5
      clear c5
      by_cases c6 : a1 > 65535
      · rw [if_pos c6] at H
        have c6b0 : decide (65535 < a1) = true := decide_eq_true c6
        clear c6
        obtain rfl := Option.some.inj H
        go_enter Try.func12, Try.ntmps12
        go_wp2_with (first | ((with_reducible refine gate_callee (f := 22) rfl ?_); refine goesL_ (some 6) rfl rfl Try.func22 (by kernel_rfl) rfl #[.int .i64 a0] rfl (by (try simp only [List.map_toArray, List.map_cons, List.map_nil]); first | done | rfl | (simp only [List.length_drop, List.length_take]; rfl)) ?_; (with_reducible refine (masterdiscref34_word.calls a0 true _ A3.out).mono ?_); rintro e w' ⟨rfl, ⟨nd, rfl⟩⟩; refine ⟨_, rfl, ?_⟩))
        go_ret
        exact ⟨by first | rfl | (simp; done) | (simp [*]; done), by repeat (first | exact Drawn0.refl _ | apply Drawn0.step)⟩
      · rw [if_neg c6] at H
        have c6b0 : decide (65535 < a1) = false := decide_eq_false c6
        clear c6
        obtain rfl := Option.some.inj H
        go_enter Try.func12, Try.ntmps12
        go_wp2_with (first | ((with_reducible refine gate_callee (f := 22) rfl ?_); refine goesL_ (some 6) rfl rfl Try.func22 (by kernel_rfl) rfl #[.int .i64 a0] rfl (by (try simp only [List.map_toArray, List.map_cons, List.map_nil]); first | done | rfl | (simp only [List.length_drop, List.length_take]; rfl)) ?_; (with_reducible refine (masterdiscref34_word.calls a0 true _ A3.out).mono ?_); rintro e w' ⟨rfl, ⟨nd, rfl⟩⟩; refine ⟨_, rfl, ?_⟩))
        go_ret
        exact ⟨by first | rfl | (simp; done) | (simp [*]; done), by repeat (first | exact Drawn0.refl _ | apply Drawn0.step)⟩
  · replace c4 := Bool.eq_false_iff.mpr c4
    subst c4
    have H1 : (some 0) = some r := by rw [if_neg (show ¬ (false = true) by decide)] at H; exact H
    clear H
    have H := H1
    clear H1
    obtain rfl := Option.some.inj H
    go_enter Try.func12, Try.ntmps12
    go_wp2_with (first | ((with_reducible refine gate_callee (f := 22) rfl ?_); refine goesL_ (some 6) rfl rfl Try.func22 (by kernel_rfl) rfl #[.int .i64 a0] rfl (by (try simp only [List.map_toArray, List.map_cons, List.map_nil]); first | done | rfl | (simp only [List.length_drop, List.length_take]; rfl)) ?_; (with_reducible refine (masterdiscref34_word.calls a0 false _ A3.out).mono ?_); rintro e w' ⟨rfl, ⟨nd, rfl⟩⟩; refine ⟨_, rfl, ?_⟩))
    go_ret
    exact ⟨by first | rfl | (simp; done) | (simp [*]; done), by repeat (first | exact Drawn0.refl _ | apply Drawn0.step)⟩

end Go.Proofs.Yticmghpnbjhhnab.M
