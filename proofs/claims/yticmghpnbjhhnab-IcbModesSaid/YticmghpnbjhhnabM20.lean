/- Lean functions with the answers of the Go functions that they are named after, and the walks that tie the Go functions to them (written by the program mp.py of this session). -/
import Derived.Test.YticmghpnbjhhnabM0
import Derived.Test.YticmghpnbjhhnabM3
import Derived.Test.YticmghpnbjhhnabM18
import Derived.Test.YticmghpnbjhhnabM19
namespace Go.Proofs.Yticmghpnbjhhnab.M
open Go.RowKit Go.Proofs.YticmghpnbjhhnabW.PrintWords Go.Proofs.YticmghpnbjhhnabW.PrintLast Go.Proofs.YticmghpnbjhhnabW.PrintMore
attribute [local go_sem] fieldA50_0 fieldA102_0 max2_int min2_int max_two min_two max_three min_three max_four min_four   -- for this text's walks alone
set_option linter.unusedVariables false
set_option linter.unusedSimpArgs false

/-! ### masterdisclaw34_IcbModes: function 3 -/
def masterdisclaw34_IcbModes.j0 : Nat → Int → Int → Int → Bool → Option (Bool)
  | 0, _, _, _, _ => none
  | k + 1, x0, x7, x8, x39 => if x39 = true then (some false) else (if x0 < 0 then (some true) else (if x0 > 4095 then (some true) else ((icb_Mode.f k x7 x8).bind fun t302 => (some (t302 == x0)))))
def masterdisclaw34_IcbModes.f (k : Nat) (a0 : Int) (a1 : Int) (a2 : Int) : Option (Bool) := (masterdisclaw34_awake.f k).bind fun t295 => (if t295 = true then ((icb_Permissions.f k a0).bind fun bt296 => ((masterdiscref34_Permissions.f k a0).bind fun bt298 => (if bt296.1 = bt298.1 then (if bt296.2 = bt298.2 then ((icb_Mode.f k a1 a2).bind fun t300 => ((masterdiscref34_Mode.f a1 a2).bind fun t301 => (masterdisclaw34_IcbModes.j0 k a0 bt296.1 bt296.2 (t300 != t301)))) else (masterdisclaw34_IcbModes.j0 k a0 bt296.1 bt296.2 true)) else (masterdisclaw34_IcbModes.j0 k a0 bt296.1 bt296.2 true)))) else (some false))
theorem masterdisclaw34_IcbModes.mono_l : ∀ k, (∀ y0 y1 y2 y3, LeO (masterdisclaw34_IcbModes.j0 k y0 y1 y2 y3) (masterdisclaw34_IcbModes.j0 (k + 1) y0 y1 y2 y3))
  | 0 => fun _ _ _ _ r h => by simp [masterdisclaw34_IcbModes.j0] at h
  | k + 1 => by
    have ih0 := masterdisclaw34_IcbModes.mono_l k
    · intro y0 y1 y2 y3
      unfold masterdisclaw34_IcbModes.j0
      repeat' first
      | (with_reducible exact ih0 _ _ _ _)
      | (with_reducible exact icb_Mode.mono _ _ _)
      | (with_reducible exact icb_Permissions.mono _ _)
      | (with_reducible exact masterdisclaw34_awake.mono _)
      | (with_reducible exact masterdiscref34_Permissions.mono _ _)
      | (with_reducible exact LeO.refl _)
      | (with_reducible exact LeO.none _)
      | (with_reducible refine LeO.ite ?_ ?_)
      | (with_reducible refine LeO.bind ?_ (fun _ => ?_))
      | exact ih0 _ _ _ _
      | exact icb_Mode.mono _ _ _
      | exact icb_Permissions.mono _ _
      | exact masterdisclaw34_awake.mono _
      | exact masterdiscref34_Permissions.mono _ _
      | exact LeO.none _
      | refine LeO.ite ?_ ?_
      | refine LeO.bind ?_ (fun _ => ?_)
theorem masterdisclaw34_IcbModes.mono : ∀ a0 a1 a2 k, LeO (masterdisclaw34_IcbModes.f k a0 a1 a2) (masterdisclaw34_IcbModes.f (k + 1) a0 a1 a2) := by
  intro a0 a1 a2 k
  have ih0 := masterdisclaw34_IcbModes.mono_l k
  unfold masterdisclaw34_IcbModes.f
  repeat' first
      | (with_reducible exact ih0 _ _ _ _)
      | (with_reducible exact icb_Mode.mono _ _ _)
      | (with_reducible exact icb_Permissions.mono _ _)
      | (with_reducible exact masterdisclaw34_awake.mono _)
      | (with_reducible exact masterdiscref34_Permissions.mono _ _)
      | (with_reducible exact LeO.refl _)
      | (with_reducible exact LeO.none _)
      | (with_reducible refine LeO.ite ?_ ?_)
      | (with_reducible refine LeO.bind ?_ (fun _ => ?_))
      | exact ih0 _ _ _ _
      | exact icb_Mode.mono _ _ _
      | exact icb_Permissions.mono _ _
      | exact masterdisclaw34_awake.mono _
      | exact masterdiscref34_Permissions.mono _ _
      | exact LeO.none _
      | refine LeO.ite ?_ ?_
      | refine LeO.bind ?_ (fun _ => ?_)
set_option maxHeartbeats 8000000 in
set_option maxRecDepth 100000 in
theorem masterdisclaw34_IcbModes.calls (k : Nat) (a0 : Int) (a1 : Int) (a2 : Int) (r : Bool) (w : World) (htr : Aside0 (r = true)) (h : masterdisclaw34_IcbModes.f k a0 a1 a2 = some r) :
    Calls Try.prog 3 #[.int .i64 a0, .int .i64 a1, .int .i64 a2] w fun e w' => e = .returned (.bool r) ∧ Below w.heap.size w w' := by
  have HB := Aside0.mk (Below.refl w.heap.size w)
  have H : ((masterdisclaw34_awake.f k).bind fun t295 => (if t295 = true then ((icb_Permissions.f k a0).bind fun bt296 => ((masterdiscref34_Permissions.f k a0).bind fun bt298 => (if bt296.1 = bt298.1 then (if bt296.2 = bt298.2 then ((icb_Mode.f k a1 a2).bind fun t300 => ((masterdiscref34_Mode.f a1 a2).bind fun t301 => (masterdisclaw34_IcbModes.j0 k a0 bt296.1 bt296.2 (t300 != t301)))) else (masterdisclaw34_IcbModes.j0 k a0 bt296.1 bt296.2 true)) else (masterdisclaw34_IcbModes.j0 k a0 bt296.1 bt296.2 true)))) else (some false))) = some r := h
  clear h
  replace H := Option.bind_eq_some_iff.mp H
  obtain ⟨t295, A40, H⟩ := H
  replace H : (if t295 = true then ((icb_Permissions.f k a0).bind fun bt296 => ((masterdiscref34_Permissions.f k a0).bind fun bt298 => (if bt296.1 = bt298.1 then (if bt296.2 = bt298.2 then ((icb_Mode.f k a1 a2).bind fun t300 => ((masterdiscref34_Mode.f a1 a2).bind fun t301 => (masterdisclaw34_IcbModes.j0 k a0 bt296.1 bt296.2 (t300 != t301)))) else (masterdisclaw34_IcbModes.j0 k a0 bt296.1 bt296.2 true)) else (masterdisclaw34_IcbModes.j0 k a0 bt296.1 bt296.2 true)))) else (some false)) = some r := H
  have A4 := Aside0.mk A40
  clear A40
  by_cases c5 : t295 = true
  · subst c5
    have H1 : ((icb_Permissions.f k a0).bind fun bt296 => ((masterdiscref34_Permissions.f k a0).bind fun bt298 => (if bt296.1 = bt298.1 then (if bt296.2 = bt298.2 then ((icb_Mode.f k a1 a2).bind fun t300 => ((masterdiscref34_Mode.f a1 a2).bind fun t301 => (masterdisclaw34_IcbModes.j0 k a0 bt296.1 bt296.2 (t300 != t301)))) else (masterdisclaw34_IcbModes.j0 k a0 bt296.1 bt296.2 true)) else (masterdisclaw34_IcbModes.j0 k a0 bt296.1 bt296.2 true)))) = some r := by rw [if_pos rfl] at H; exact H
    clear H
    have H := H1
    clear H1
    replace H := Option.bind_eq_some_iff.mp H
    obtain ⟨⟨t296, t297⟩, A60, H⟩ := H
    replace H : ((masterdiscref34_Permissions.f k a0).bind fun bt298 => (if t296 = bt298.1 then (if t297 = bt298.2 then ((icb_Mode.f k a1 a2).bind fun t300 => ((masterdiscref34_Mode.f a1 a2).bind fun t301 => (masterdisclaw34_IcbModes.j0 k a0 t296 t297 (t300 != t301)))) else (masterdisclaw34_IcbModes.j0 k a0 t296 t297 true)) else (masterdisclaw34_IcbModes.j0 k a0 t296 t297 true))) = some r := H
    have A6 := Aside0.mk A60
    clear A60
    replace H := Option.bind_eq_some_iff.mp H
    obtain ⟨⟨t298, t299⟩, A70, H⟩ := H
    replace H : (if t296 = t298 then (if t297 = t299 then ((icb_Mode.f k a1 a2).bind fun t300 => ((masterdiscref34_Mode.f a1 a2).bind fun t301 => (masterdisclaw34_IcbModes.j0 k a0 t296 t297 (t300 != t301)))) else (masterdisclaw34_IcbModes.j0 k a0 t296 t297 true)) else (masterdisclaw34_IcbModes.j0 k a0 t296 t297 true)) = some r := H
    have A7 := Aside0.mk A70
    clear A70
    have HC8 := Aside0.mk H
    clear H
    go_enter Try.func3, Try.ntmps3
    go_upto_region 5 with (first | ((with_reducible refine gate_callee (f := 8) rfl ?_); refine goesL_ (some 11) rfl rfl Try.func8 (by kernel_rfl) rfl #[] rfl (by (try simp only [List.map_toArray, List.map_cons, List.map_nil]); first | done | rfl | (simp only [List.length_drop, List.length_take]; rfl)) ?_; (with_reducible refine (masterdisclaw34_awake.calls k  true _ A4.out).mono ?_); rintro e w9 ⟨rfl, hb⟩; refine ⟨_, rfl, ?_⟩; have n0_ := Aside0.mk (below_step (by repeat (first | (with_reducible first | exact HB.out | apply below_alloc | apply pw_below_drewN | apply below_drew1) | exact HB.out)) hb); clear HB; have HB := n0_; clear n0_; (try clear hb); (try clear hb2); (try clear hk); (try clear hi)) | ((with_reducible refine gate_callee (f := 9) rfl ?_); refine goesL_ (some 15) rfl rfl Try.func9 (by kernel_rfl) rfl #[.int .i64 a0] rfl (by (try simp only [List.map_toArray, List.map_cons, List.map_nil]); first | done | rfl | (simp only [List.length_drop, List.length_take]; rfl)) ?_; (with_reducible refine (icb_Permissions.calls k a0 t296 t297 _ A6.out).mono ?_); rintro e w' ⟨rfl, ⟨nd, rfl⟩⟩; refine ⟨_, rfl, ?_⟩) | ((with_reducible refine gate_callee (f := 10) rfl ?_); refine goesL_ (some 20) rfl rfl Try.func10 (by kernel_rfl) rfl #[.int .i64 a0] rfl (by (try simp only [List.map_toArray, List.map_cons, List.map_nil]); first | done | rfl | (simp only [List.length_drop, List.length_take]; rfl)) ?_; (with_reducible refine (masterdiscref34_Permissions.calls k a0 t298 t299 _ A7.out).mono ?_); rintro e w' ⟨rfl, ⟨nd, rfl⟩⟩; refine ⟨_, rfl, ?_⟩))
    (try simp only [Act.put, List.setIfInBounds_toArray, List.set_cons_zero, List.set_cons_succ])
    go_cut [39] (fun v39 wc => ∃ (kq : Nat) (x39_7 : Bool), v39 = .bool x39_7 ∧ Aside0 (masterdisclaw34_IcbModes.j0 kq a0 t296 t297 x39_7 = some r) ∧ Aside0 (kq ≤ k) ∧ Aside0 (Below w.heap.size w wc))
    case first =>
      have H := HC8.out
      clear HC8
      by_cases c10 : t296 = t298
      · rw [if_pos c10] at H
        have c10b0 : (t296 == t298) = true := beq_iff_eq.mpr c10
        have c10b1 : (t296 != t298) = false := bne_eq_false_iff_eq.mpr c10
        clear c10
        (first | rw [c10b0] | (simp only [i64_w, i32_w]; rw [c10b0]) | skip)
        by_cases c11 : t297 = t299
        · rw [if_pos c11] at H
          have c11b0 : (t297 == t299) = true := beq_iff_eq.mpr c11
          have c11b1 : (t297 != t299) = false := bne_eq_false_iff_eq.mpr c11
          clear c11
          replace H := Option.bind_eq_some_iff.mp H
          obtain ⟨t300, A120, H⟩ := H
          replace H : ((masterdiscref34_Mode.f a1 a2).bind fun t301 => (masterdisclaw34_IcbModes.j0 k a0 t296 t297 (t300 != t301))) = some r := H
          have A12 := Aside0.mk A120
          clear A120
          replace H := Option.bind_eq_some_iff.mp H
          obtain ⟨t301, A130, H⟩ := H
          replace H : (masterdisclaw34_IcbModes.j0 k a0 t296 t297 (t300 != t301)) = some r := H
          have A13 := Aside0.mk A130
          clear A130
          have H' := Aside0.mk H
          clear H
          go_wp2_with (first | (go_at_call 11; (with_reducible refine (icb_Mode.calls k a1 a2 t300 _ A12.out).mono ?_); rintro e w14 ⟨rfl, hb⟩; have n0_ := Aside0.mk (below_step (by repeat (first | (with_reducible first | exact HB.out | apply below_alloc | apply pw_below_drewN | apply below_drew1) | exact HB.out)) hb); clear HB; have HB := n0_; clear n0_; (try clear hb); (try clear hb2); (try clear hk); (try clear hi)) | (go_at_call 12; (with_reducible refine (masterdiscref34_Mode.calls a1 a2 t301 _ A13.out).mono ?_); rintro e w' ⟨rfl, ⟨nd, rfl⟩⟩))
          go_meet
          case rel => exact ⟨_, ((t300 != t301)), (by first | rfl | (simp; done) | (simp [*]; done)), H', ⟨by first | omega | exact Nat.le_refl _⟩, ⟨by repeat (first | (with_reducible first | exact HB.out | apply below_alloc | apply pw_below_drewN | apply below_drew1) | exact HB.out)⟩⟩
        · rw [if_neg c11] at H
          have c11b0 : (t297 == t299) = false := beq_eq_false_iff_ne.mpr c11
          have c11b1 : (t297 != t299) = true := bne_iff_ne.mpr c11
          have H' := Aside0.mk H
          clear H
          go_wp2
          go_meet
          case rel => exact ⟨_, (true), (by first | rfl | (simp; done) | (simp [*]; done)), H', ⟨by first | omega | exact Nat.le_refl _⟩, ⟨by repeat (first | (with_reducible first | exact HB.out | apply below_alloc | apply pw_below_drewN | apply below_drew1) | exact HB.out)⟩⟩
      · rw [if_neg c10] at H
        have c10b0 : (t296 == t298) = false := beq_eq_false_iff_ne.mpr c10
        have c10b1 : (t296 != t298) = true := bne_iff_ne.mpr c10
        (first | rw [c10b0] | (simp only [i64_w, i32_w]; rw [c10b0]) | skip)
        have H' := Aside0.mk H
        clear H
        go_wp2
        go_meet
        case rel => exact ⟨_, (true), (by first | rfl | (simp; done) | (simp [*]; done)), H', ⟨by first | omega | exact Nat.le_refl _⟩, ⟨by repeat (first | (with_reducible first | exact HB.out | apply below_alloc | apply pw_below_drewN | apply below_drew1) | exact HB.out)⟩⟩
    case rest =>
      clear HC8
      try clear c1
      try clear p2
      try clear c3
      try clear c5
      try clear c8
      try clear c9
      try clear c10
      try clear c10b0
      try clear c10b1
      try clear c11
      try clear c11b0
      try clear c11b1
      obtain ⟨kq, x39_7, rfl, HA, HJ7, HB⟩ := hcut
      cases kq with
      | zero => exact absurd HA.out (by simp [masterdisclaw34_IcbModes.j0])
      | succ kj7 =>
        have H := HA.out
        clear HA
        simp only [masterdisclaw34_IcbModes.j0] at H
        by_cases c15 : x39_7 = true
        · subst c15
          have H1 : (some false) = some r := by rw [if_pos rfl] at H; exact H
          clear H
          have H := H1
          clear H1
          exact absurd ((Option.some.inj H).trans htr.out) (by decide)
        · replace c15 := Bool.eq_false_iff.mpr c15
          subst c15
          have H1 : (if a0 < 0 then (some true) else (if a0 > 4095 then (some true) else ((icb_Mode.f kj7 t296 t297).bind fun t302 => (some (t302 == a0))))) = some r := by rw [if_neg (show ¬ (false = true) by decide)] at H; exact H
          clear H
          have H := H1
          clear H1
          by_cases c16 : a0 < 0
          · rw [if_pos c16] at H
            have c16b0 : decide (a0 < 0) = true := decide_eq_true c16
            clear c16
            obtain rfl := Option.some.inj H
            go_wp2
            go_ret
            exact ⟨by first | rfl | (simp [errW_none, errW_some] <;> rfl) | (simp [*, errW_none, errW_some] <;> rfl), by repeat (first | (with_reducible first | exact HB.out | apply below_alloc | apply pw_below_drewN | apply below_drew1) | exact HB.out)⟩
          · rw [if_neg c16] at H
            have c16b0 : decide (a0 < 0) = false := decide_eq_false c16
            clear c16
            by_cases c17 : a0 > 4095
            · rw [if_pos c17] at H
              have c17b0 : decide (4095 < a0) = true := decide_eq_true c17
              clear c17
              obtain rfl := Option.some.inj H
              go_wp2
              go_ret
              exact ⟨by first | rfl | (simp [errW_none, errW_some] <;> rfl) | (simp [*, errW_none, errW_some] <;> rfl), by repeat (first | (with_reducible first | exact HB.out | apply below_alloc | apply pw_below_drewN | apply below_drew1) | exact HB.out)⟩
            · rw [if_neg c17] at H
              have c17b0 : decide (4095 < a0) = false := decide_eq_false c17
              clear c17
              replace H := Option.bind_eq_some_iff.mp H
              obtain ⟨t302, A180, H⟩ := H
              replace H : (some (t302 == a0)) = some r := H
              have A18 := Aside0.mk A180
              clear A180
              obtain rfl := Option.some.inj H
              go_wp2_with (first | (go_at_call 11; (with_reducible refine (icb_Mode.calls kj7 t296 t297 t302 _ A18.out).mono ?_); rintro e w19 ⟨rfl, hb⟩; have n0_ := Aside0.mk (below_step (by repeat (first | (with_reducible first | exact HB.out | apply below_alloc | apply pw_below_drewN | apply below_drew1) | exact HB.out)) hb); clear HB; have HB := n0_; clear n0_; (try clear hb); (try clear hb2); (try clear hk); (try clear hi)))
              go_ret
              exact ⟨by first | rfl | (simp [errW_none, errW_some] <;> rfl) | (simp [*, errW_none, errW_some] <;> rfl), by repeat (first | (with_reducible first | exact HB.out | apply below_alloc | apply pw_below_drewN | apply below_drew1) | exact HB.out)⟩
  · replace c5 := Bool.eq_false_iff.mpr c5
    subst c5
    have H1 : (some false) = some r := by rw [if_neg (show ¬ (false = true) by decide)] at H; exact H
    clear H
    have H := H1
    clear H1
    exact absurd ((Option.some.inj H).trans htr.out) (by decide)

/-- The pure statement of masterdisclaw34_IcbModes. -/
def masterdisclaw34_IcbModes.Pure : Prop := ∀ (x0 : Int) (x1 : Int) (x2 : Int), ((Lit.int .i64 x0).wf = true) → ((Lit.int .i64 x1).wf = true) → ((Lit.int .i64 x2).wf = true) → ∃ k, masterdisclaw34_IcbModes.f k x0 x1 x2 = some true

end Go.Proofs.Yticmghpnbjhhnab.M
