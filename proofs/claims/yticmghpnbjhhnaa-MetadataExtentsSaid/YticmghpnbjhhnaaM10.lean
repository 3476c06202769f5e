/- Lean functions with the answers of the Go functions that they are named after, and the walks that tie the Go functions to them (written by the program mp.py of this session). -/
import Derived.Test.YticmghpnbjhhnaaM0
namespace Go.Proofs.Yticmghpnbjhhnaa.M
open Go.RowKit Go.Proofs.YticmghpnbjhhnaaW.PrintWords Go.Proofs.YticmghpnbjhhnaaW.PrintLast Go.Proofs.YticmghpnbjhhnaaW.PrintMore
attribute [local go_sem] max2_int min2_int max_two min_two max_three min_three max_four min_four   -- for this text's walks alone
set_option linter.unusedVariables false
set_option linter.unusedSimpArgs false

/-! ### masterdiscref40_Rounded: function 13 -/
def masterdiscref40_Rounded.f (a0 : Int) : Option (Int) := if a0 < 0 then (some 0) else (if a0 > 4096 then (some 0) else (some (wrap64 ((wrap64 (Int.tdiv (wrap64 ((wrap64 (a0 + 8)) - 1)) 8)) * 8))))
set_option maxHeartbeats 8000000 in
set_option maxRecDepth 100000 in
theorem masterdiscref40_Rounded.calls (a0 : Int) (r : Int) (w : World) (h : masterdiscref40_Rounded.f a0 = some r) :
    Calls Try.prog 13 #[.int .i64 a0] w fun e w' => e = .returned (.int .i64 r) ∧ Drawn0 w w' := by
  have H : (if a0 < 0 then (some 0) else (if a0 > 4096 then (some 0) else (some (wrap64 ((wrap64 (Int.tdiv (wrap64 ((wrap64 (a0 + 8)) - 1)) 8)) * 8))))) = some r := h
  clear h
  by_cases c2 : a0 < 0
  · rw [if_pos c2] at H
    have c2b0 : decide (a0 < 0) = true := decide_eq_true c2
    clear c2
    obtain rfl := Option.some.inj H
    go_enter Try.func13, Try.ntmps13
    go_wp2
    go_ret
    exact ⟨by first | rfl | (simp; done) | (simp [*]; done), by repeat (first | exact Drawn0.refl _ | apply Drawn0.step)⟩
  · rw [if_neg c2] at H
    have c2b0 : decide (a0 < 0) = false := decide_eq_false c2
    clear c2
    by_cases c3 : a0 > 4096
    · rw [if_pos c3] at H
      have c3b0 : decide (4096 < a0) = true := decide_eq_true c3
      clear c3
      obtain rfl := Option.some.inj H
      go_enter Try.func13, Try.ntmps13
      go_wp2
      go_ret
      exact ⟨by first | rfl | (simp; done) | (simp [*]; done), by repeat (first | exact Drawn0.refl _ | apply Drawn0.step)⟩
    · rw [if_neg c3] at H
      have c3b0 : decide (4096 < a0) = false := decide_eq_false c3
      clear c3
      obtain rfl := Option.some.inj H
      go_enter Try.func13, Try.ntmps13
      go_wp2
      go_ret
      exact ⟨by first | rfl | (simp; done) | (simp [*]; done), by repeat (first | exact Drawn0.refl _ | apply Drawn0.step)⟩

end Go.Proofs.Yticmghpnbjhhnaa.M
