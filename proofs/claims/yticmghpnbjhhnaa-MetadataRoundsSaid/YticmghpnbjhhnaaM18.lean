/- Lean functions with the answers of the Go functions that they are named after, and the walks that tie the Go functions to them (written by the program mp.py of this session). -/
import Derived.Test.YticmghpnbjhhnaaM0
import Derived.Test.YticmghpnbjhhnaaM5
import Derived.Test.YticmghpnbjhhnaaM8
namespace Go.Proofs.Yticmghpnbjhhnaa.M
open Go.RowKit Go.Proofs.YticmghpnbjhhnaaW.PrintWords Go.Proofs.YticmghpnbjhhnaaW.PrintLast Go.Proofs.YticmghpnbjhhnaaW.PrintMore
attribute [local go_sem] max2_int min2_int max_two min_two max_three min_three max_four min_four   -- for this text's walks alone
set_option linter.unusedVariables false
set_option linter.unusedSimpArgs false

/-! ### masterdisclaw40_MetadataRounds: function 6 -/
def masterdisclaw40_MetadataRounds.f (k : Nat) (a0 : Int) : Option (Bool) := (masterdisclaw40_awake.f k).bind fun t301 => (if t301 = true then ((metadata_Rounded.f (wrap64 (a0))).bind fun t302 => (if (wrap64 (a0)) > 4096 then (some (t302 == 0)) else (if t302 ≥ (wrap64 (a0)) then (if t302 < (wrap64 ((wrap64 (a0)) + 8)) then (some ((Int.tmod t302 8) == 0)) else (some false)) else (some false)))) else (some false))
theorem masterdisclaw40_MetadataRounds.mono : ∀ a0 k, LeO (masterdisclaw40_MetadataRounds.f k a0) (masterdisclaw40_MetadataRounds.f (k + 1) a0) := by
  intro a0 k
  unfold masterdisclaw40_MetadataRounds.f
  repeat' first
      | (with_reducible exact masterdisclaw40_awake.mono _)
      | (with_reducible exact LeO.refl _)
      | (with_reducible exact LeO.none _)
      | (with_reducible refine LeO.ite ?_ ?_)
      | (with_reducible refine LeO.bind ?_ (fun _ => ?_))
      | exact masterdisclaw40_awake.mono _
      | exact LeO.none _
      | refine LeO.ite ?_ ?_
      | refine LeO.bind ?_ (fun _ => ?_)
set_option maxHeartbeats 8000000 in
set_option maxRecDepth 100000 in
theorem masterdisclaw40_MetadataRounds.calls (k : Nat) (a0 : Int) (r : Bool) (w : World) (htr : Aside0 (r = true)) (h : masterdisclaw40_MetadataRounds.f k a0 = some r) :
    Calls Try.prog 6 #[.int .u16 a0] w fun e w' => e = .returned (.bool r) ∧ Below w.heap.size w w' := by
  have HB := Aside0.mk (Below.refl w.heap.size w)
  have H : ((masterdisclaw40_awake.f k).bind fun t301 => (if t301 = true then ((metadata_Rounded.f (wrap64 (a0))).bind fun t302 => (if (wrap64 (a0)) > 4096 then (some (t302 == 0)) else (if t302 ≥ (wrap64 (a0)) then (if t302 < (wrap64 ((wrap64 (a0)) + 8)) then (some ((Int.tmod t302 8) == 0)) else (some false)) else (some false)))) else (some false))) = some r := h
  clear h
  replace H := Option.bind_eq_some_iff.mp H
  obtain ⟨t301, A20, H⟩ := H
  replace H : (if t301 = true then ((metadata_Rounded.f (wrap64 (a0))).bind fun t302 => (if (wrap64 (a0)) > 4096 then (some (t302 == 0)) else (if t302 ≥ (wrap64 (a0)) then (if t302 < (wrap64 ((wrap64 (a0)) + 8)) then (some ((Int.tmod t302 8) == 0)) else (some false)) else (some false)))) else (some false)) = some r := H
  have A2 := Aside0.mk A20
  clear A20
  by_cases c3 : t301 = true
  · subst c3
    have H1 : ((metadata_Rounded.f (wrap64 (a0))).bind fun t302 => (if (wrap64 (a0)) > 4096 then (some (t302 == 0)) else (if t302 ≥ (wrap64 (a0)) then (if t302 < (wrap64 ((wrap64 (a0)) + 8)) then (some ((Int.tmod t302 8) == 0)) else (some false)) else (some false)))) = some r := by rw [if_pos rfl] at H; exact H
    clear H
    have H := H1
    clear H1
    replace H := Option.bind_eq_some_iff.mp H
    obtain ⟨t302, A40, H⟩ := H
    replace H : (if (wrap64 (a0)) > 4096 then (some (t302 == 0)) else (if t302 ≥ (wrap64 (a0)) then (if t302 < (wrap64 ((wrap64 (a0)) + 8)) then (some ((Int.tmod t302 8) == 0)) else (some false)) else (some false))) = some r := H
    have A4 := Aside0.mk A40
    clear A40
    by_cases c5 : (wrap64 (a0)) > 4096
    · rw [if_pos c5] at H
      have c5b0 : decide (4096 < (wrap64 (a0))) = true := decide_eq_true c5
      clear c5
      obtain rfl := Option.some.inj H
      go_enter Try.func6, Try.ntmps6
      go_wp2_with (first | ((with_reducible refine gate_callee (f := 9) rfl ?_); refine goesL_ (some 4) rfl rfl Try.func9 (by kernel_rfl) rfl #[] rfl (by (try simp only [List.map_toArray, List.map_cons, List.map_nil]); first | done | rfl | (simp only [List.length_drop, List.length_take]; rfl)) ?_; (with_reducible refine (masterdisclaw40_awake.calls k  true _ (Aside0.mk rfl) A2.out).mono ?_); rintro e w6 ⟨rfl, hb⟩; refine ⟨_, rfl, ?_⟩; have n0_ := Aside0.mk (below_step (by repeat (first | (with_reducible first | exact HB.out | apply below_alloc | apply pw_below_drewN | apply below_drew1) | exact HB.out)) hb); clear HB; have HB := n0_; clear n0_; (try clear hb); (try clear hb2); (try clear hk); (try clear hi)) | ((with_reducible refine gate_callee (f := 12) rfl ?_); refine goesL_ (some 8) rfl rfl Try.func12 (by kernel_rfl) rfl #[.int .i64 (wrap64 (a0))] rfl (by (try simp only [List.map_toArray, List.map_cons, List.map_nil]); first | done | rfl | (simp only [List.length_drop, List.length_take]; rfl)) ?_; (with_reducible refine (metadata_Rounded.calls (wrap64 (a0)) t302 _ A4.out).mono ?_); rintro e w' ⟨rfl, ⟨nd, rfl⟩⟩; refine ⟨_, rfl, ?_⟩))
      go_ret
      exact ⟨by first | rfl | (simp [errW_none, errW_some] <;> rfl) | (simp [*, errW_none, errW_some] <;> rfl), by repeat (first | (with_reducible first | exact HB.out | apply below_alloc | apply pw_below_drewN | apply below_drew1) | exact HB.out)⟩
    · rw [if_neg c5] at H
      have c5b0 : decide (4096 < (wrap64 (a0))) = false := decide_eq_false c5
      clear c5
      by_cases c7 : t302 ≥ (wrap64 (a0))
      · rw [if_pos c7] at H
        have c7b0 : decide ((wrap64 (a0)) ≤ t302) = true := decide_eq_true c7
        clear c7
        by_cases c8 : t302 < (wrap64 ((wrap64 (a0)) + 8))
        · rw [if_pos c8] at H
          have c8b0 : decide (t302 < (wrap64 ((wrap64 (a0)) + 8))) = true := decide_eq_true c8
          clear c8
          obtain rfl := Option.some.inj H
          go_enter Try.func6, Try.ntmps6
          go_wp2_with (first | ((with_reducible refine gate_callee (f := 9) rfl ?_); refine goesL_ (some 4) rfl rfl Try.func9 (by kernel_rfl) rfl #[] rfl (by (try simp only [List.map_toArray, List.map_cons, List.map_nil]); first | done | rfl | (simp only [List.length_drop, List.length_take]; rfl)) ?_; (with_reducible refine (masterdisclaw40_awake.calls k  true _ (Aside0.mk rfl) A2.out).mono ?_); rintro e w9 ⟨rfl, hb⟩; refine ⟨_, rfl, ?_⟩; have n0_ := Aside0.mk (below_step (by repeat (first | (with_reducible first | exact HB.out | apply below_alloc | apply pw_below_drewN | apply below_drew1) | exact HB.out)) hb); clear HB; have HB := n0_; clear n0_; (try clear hb); (try clear hb2); (try clear hk); (try clear hi)) | ((with_reducible refine gate_callee (f := 12) rfl ?_); refine goesL_ (some 8) rfl rfl Try.func12 (by kernel_rfl) rfl #[.int .i64 (wrap64 (a0))] rfl (by (try simp only [List.map_toArray, List.map_cons, List.map_nil]); first | done | rfl | (simp only [List.length_drop, List.length_take]; rfl)) ?_; (with_reducible refine (metadata_Rounded.calls (wrap64 (a0)) t302 _ A4.out).mono ?_); rintro e w' ⟨rfl, ⟨nd, rfl⟩⟩; refine ⟨_, rfl, ?_⟩))
          go_ret
          exact ⟨by first | rfl | (simp [errW_none, errW_some] <;> rfl) | (simp [*, errW_none, errW_some] <;> rfl), by repeat (first | (with_reducible first | exact HB.out | apply below_alloc | apply pw_below_drewN | apply below_drew1) | exact HB.out)⟩
        · rw [if_neg c8] at H
          have c8b0 : decide (t302 < (wrap64 ((wrap64 (a0)) + 8))) = false := decide_eq_false c8
          clear c8
          exact absurd ((Option.some.inj H).trans htr.out) (by decide)
      · rw [if_neg c7] at H
        have c7b0 : decide ((wrap64 (a0)) ≤ t302) = false := decide_eq_false c7
        clear c7
        exact absurd ((Option.some.inj H).trans htr.out) (by decide)
  · replace c3 := Bool.eq_false_iff.mpr c3
    subst c3
    have H1 : (some false) = some r := by rw [if_neg (show ¬ (false = true) by decide)] at H; exact H
    clear H
    have H := H1
    clear H1
    exact absurd ((Option.some.inj H).trans htr.out) (by decide)

/-- The pure statement of masterdisclaw40_MetadataRounds. -/
def masterdisclaw40_MetadataRounds.Pure : Prop := ∀ (x0 : Int), ((Lit.int .u16 x0).wf = true) → ∃ k, masterdisclaw40_MetadataRounds.f k x0 = some true

end Go.Proofs.Yticmghpnbjhhnaa.M
