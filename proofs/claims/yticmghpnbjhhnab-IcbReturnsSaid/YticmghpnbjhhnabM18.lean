/- Lean functions with the answers of the Go functions that they are named after, and the walks that tie the Go functions to them (written by the program mp.py of this session). -/
import Derived.Test.YticmghpnbjhhnabM0
import Derived.Test.YticmghpnbjhhnabM17
namespace Go.Proofs.Yticmghpnbjhhnab.M
open Go.RowKit Go.Proofs.YticmghpnbjhhnabW.PrintWords Go.Proofs.YticmghpnbjhhnabW.PrintLast Go.Proofs.YticmghpnbjhhnabW.PrintMore
attribute [local go_sem] fieldA50_0 fieldA102_0 max2_int min2_int max_two min_two max_three min_three max_four min_four   -- for this text's walks alone
set_option linter.unusedVariables false
set_option linter.unusedSimpArgs false

/-! ### masterdiscref34_Mode: function 12 -/
def masterdiscref34_Mode.f (a0 : Int) (a1 : Int) : Option (Int) := (masterdiscref34_word.f a0).bind fun t294 => (if t294 = true then (if a1 < 0 then (some 0) else (if a1 > 65535 then (some 0) else (some (wrap64 ((wrap64 ((wrap64 ((wrap64 ((wrap64 ((Int.tmod a0 8) + (wrap64 (8 * (Int.tmod (wrap64 (Int.tdiv a0 32)) 8))))) + (wrap64 (64 * (Int.tmod (wrap64 (Int.tdiv a0 1024)) 8))))) + (wrap64 (2048 * (Int.tmod (wrap64 (Int.tdiv a1 64)) 2))))) + (wrap64 (1024 * (Int.tmod (wrap64 (Int.tdiv a1 128)) 2))))) + (wrap64 (512 * (Int.tmod (wrap64 (Int.tdiv a1 256)) 2)))))))) else (some 0))
set_option maxHeartbeats 8000000 in
set_option maxRecDepth 100000 in
theorem masterdiscref34_Mode.calls (a0 : Int) (a1 : Int) (r : Int) (w : World) (h : masterdiscref34_Mode.f a0 a1 = some r) :
  Calls Try.prog 12 #[.int .i64 a0, .int .i64 a1] w fun e w' => e = .returned (.int .i64 r) ∧ Drawn0 w w' := by
 have H : ((masterdiscref34_word.f a0).bind fun t294 => (if t294 = true then (if a1 < 0 then (some 0) else (if a1 > 65535 then (some 0) else (some (wrap64 ((wrap64 ((wrap64 ((wrap64 ((wrap64 ((Int.tmod a0 8) + (wrap64 (8 * (Int.tmod (wrap64 (Int.tdiv a0 32)) 8))))) + (wrap64 (64 * (Int.tmod (wrap64 (Int.tdiv a0 1024)) 8))))) + (wrap64 (2048 * (Int.tmod (wrap64 (Int.tdiv a1 64)) 2))))) + (wrap64 (1024 * (Int.tmod (wrap64 (Int.tdiv a1 128)) 2))))) + (wrap64 (512 * (Int.tmod (wrap64 (Int.tdiv a1 256)) 2)))))))) else (some 0))) = some r := h
 clear h
 replace H := Option.bind_eq_some_iff.mp H
 obtain ⟨t294, A30, H⟩ := H
 replace H : (if t294 = true then (if a1 < 0 then (some 0) else (if a1 > 65535 then (some 0) else (some (wrap64 ((wrap64 ((wrap64 ((wrap64 ((wrap64 ((Int.tmod a0 8) + (wrap64 (8 * (Int.tmod (wrap64 (Int.tdiv a0 32)) 8))))) + (wrap64 (64 * (Int.tmod (wrap64 (Int.tdiv a0 1024)) 8))))) + (wrap64 (2048 * (Int.tmod (wrap64 (Int.tdiv a1 64)) 2))))) + (wrap64 (1024 * (Int.tmod (wrap64 (Int.tdiv a1 128)) 2))))) + (wrap64 (512 * (Int.tmod (wrap64 (Int.tdiv a1 256)) 2)))))))) else (some 0)) = some r := H
 have A3 := Aside0.mk A30
 clear A30
 by_cases c4 : t294 = true
 ·subst c4
  have H1 : (if a1 < 0 then (some 0) else (if a1 > 65535 then (some 0) else (some (wrap64 ((wrap64 ((wrap64 ((wrap64 ((wrap64 ((Int.tmod a0 8) + (wrap64 (8 * (Int.tmod (wrap64 (Int.tdiv a0 32)) 8))))) + (wrap64 (64 * (Int.tmod (wrap64 (Int.tdiv a0 1024)) 8))))) + (wrap64 (2048 * (Int.tmod (wrap64 (Int.tdiv a1 64)) 2))))) + (wrap64 (1024 * (Int.tmod (wrap64 (Int.tdiv a1 128)) 2))))) + (wrap64 (512 * (Int.tmod (wrap64 (Int.tdiv a1 256)) 2)))))))) = some r := by rw [if_pos rfl] at H; exact H
  clear H
  have H := H1
  clear H1
  by_cases c5 : a1 < 0
  ·rw [if_pos c5] at H
   have c5b0 : decide (a1 < 0) = true := decide_eq_true c5
   clear c5
   obtain rfl := Option.some.inj H
   go_enter Try.func12, Try.ntmps12
   go_wp2_with (first | ((with_reducible refine gate_callee (f := 22) rfl ?_); refine goesL_ (some 6) rfl rfl Try.func22 (by kernel_rfl) rfl #[.int .i64 a0] rfl (by (try simp only [List.map_toArray, List.map_cons, List.map_nil]); first | done | rfl | (simp only [List.length_drop, List.length_take]; rfl)) ?_; (with_reducible refine (masterdiscref34_word.calls a0 true _ A3.out).mono ?_); rintro e w' ⟨rfl, ⟨nd, rfl⟩⟩; refine ⟨_, rfl, ?_⟩))
   go_ret
   exact ⟨by first | rfl | (simp; done) | (simp [*]; done), by repeat (first | exact Drawn0.refl _ | apply Drawn0.step)⟩
  ·rw [if_neg c5] at H
   have c5b0 : decide (a1 < 0) = false := decide_eq_false c5
   clear c5
   by_cases c6 : a1 > 65535
   ·rw [if_pos c6] at H
    have c6b0 : decide (65535 < a1) = true := decide_eq_true c6
    clear c6
    obtain rfl := Option.some.inj H
    go_enter Try.func12, Try.ntmps12
    go_wp2_with (first | ((with_reducible refine gate_callee (f := 22) rfl ?_); refine goesL_ (some 6) rfl rfl Try.func22 (by kernel_rfl) rfl #[.int .i64 a0] rfl (by (try simp only [List.map_toArray, List.map_cons, List.map_nil]); first | done | rfl | (simp only [List.length_drop, List.length_take]; rfl)) ?_; (with_reducible refine (masterdiscref34_word.calls a0 true _ A3.out).mono ?_); rintro e w' ⟨rfl, ⟨nd, rfl⟩⟩; refine ⟨_, rfl, ?_⟩))
    go_ret
    exact ⟨by first | rfl | (simp; done) | (simp [*]; done), by repeat (first | exact Drawn0.refl _ | apply Drawn0.step)⟩
   ·rw [if_neg c6] at H
    have c6b0 : decide (65535 < a1) = false := decide_eq_false c6
    clear c6
    obtain rfl := Option.some.inj H
    go_enter Try.func12, Try.ntmps12
    go_wp2_with (first | ((with_reducible refine gate_callee (f := 22) rfl ?_); refine goesL_ (some 6) rfl rfl Try.func22 (by kernel_rfl) rfl #[.int .i64 a0] rfl (by (try simp only [List.map_toArray, List.map_cons, List.map_nil]); first | done | rfl | (simp only [List.length_drop, List.length_take]; rfl)) ?_; (with_reducible refine (masterdiscref34_word.calls a0 true _ A3.out).mono ?_); rintro e w' ⟨rfl, ⟨nd, rfl⟩⟩; refine ⟨_, rfl, ?_⟩))
    go_ret
    exact ⟨by first | rfl | (simp; done) | (simp [*]; done), by repeat (first | exact Drawn0.refl _ | apply Drawn0.step)⟩
 ·replace c4 := Bool.eq_false_iff.mpr c4
  subst c4
  have H1 : (some 0) = some r := by rw [if_neg (show ¬ (false = true) by decide)] at H; exact H
  clear H
  have H := H1
  clear H1
  obtain rfl := Option.some.inj H
  go_enter Try.func12, Try.ntmps12
  go_wp2_with (first | ((with_reducible refine gate_callee (f := 22) rfl ?_); refine goesL_ (some 6) rfl rfl Try.func22 (by kernel_rfl) rfl #[.int .i64 a0] rfl (by (try simp only [List.map_toArray, List.map_cons, List.map_nil]); first | done | rfl | (simp only [List.length_drop, List.length_take]; rfl)) ?_; (with_reducible refine (masterdiscref34_word.calls a0 false _ A3.out).mono ?_); rintro e w' ⟨rfl, ⟨nd, rfl⟩⟩; refine ⟨_, rfl, ?_⟩))
  go_ret
  exact ⟨by first | rfl | (simp; done) | (simp [*]; done), by repeat (first | exact Drawn0.refl _ | apply Drawn0.step)⟩

end Go.Proofs.Yticmghpnbjhhnab.M
