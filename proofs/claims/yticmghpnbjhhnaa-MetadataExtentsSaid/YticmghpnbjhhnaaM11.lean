/- Lean functions with the answers of the Go functions that they are named after, and the walks that tie the Go functions to them (written by the program mp.py of this session). -/
import Derived.Test.YticmghpnbjhhnaaM0
import Derived.Test.YticmghpnbjhhnaaM5
import Derived.Test.YticmghpnbjhhnaaM6
import Derived.Test.YticmghpnbjhhnaaM8
import Derived.Test.YticmghpnbjhhnaaM9
import Derived.Test.YticmghpnbjhhnaaM10
namespace Go.Proofs.Yticmghpnbjhhnaa.M
open Go.RowKit Go.Proofs.YticmghpnbjhhnaaW.PrintWords Go.Proofs.YticmghpnbjhhnaaW.PrintLast Go.Proofs.YticmghpnbjhhnaaW.PrintMore
attribute [local go_sem] max2_int min2_int max_two min_two max_three min_three max_four min_four   -- for this text's walks alone
set_option linter.unusedVariables false
set_option linter.unusedSimpArgs false

/-! ### masterdisclaw40_MetadataExtents: function 3 -/
def masterdisclaw40_MetadataExtents.j0 : Nat → List Int → Int → Bool → Int → Int → Option (Bool)
  | 0, _, _, _, _, _ => none
  | k + 1, x1, x2, x30, x218000, x218001 => if x30 = true then (some true) else ((metadata_Extents.f k x218000 x218001 x1).bind fun bt219 => ((masterdiscref40_Extents.f k x218000 x218001 x1).bind fun bt223 => ((metadata_Rounded.f x2).bind fun t227 => ((masterdiscref40_Rounded.f x2).bind fun t228 => (if t227 = t228 then ((slices_Equal_api_Extent.f k bt219.1 bt223.1).bind fun t229 => (if t229 = true then (some (bt219.2 == bt223.2)) else (some false))) else (some false))))))
def masterdisclaw40_MetadataExtents.f (k : Nat) (a0_0 : Int) (a0_1 : Int) (l1 : List Int) (a2 : Int) : Option (Bool) := (masterdisclaw40_awake.f k).bind fun t218 => (if t218 = true then (if (l1.length : Int) > 150 then (masterdisclaw40_MetadataExtents.j0 k l1 a2 true a0_0 a0_1) else (if a0_0 < 0 then (masterdisclaw40_MetadataExtents.j0 k l1 a2 true a0_0 a0_1) else (if a0_0 > 1099511627776 then (masterdisclaw40_MetadataExtents.j0 k l1 a2 true a0_0 a0_1) else (masterdisclaw40_MetadataExtents.j0 k l1 a2 (decide (a0_1 > 4294967296)) a0_0 a0_1)))) else (some false))
theorem masterdisclaw40_MetadataExtents.mono_l : ∀ k, (∀ y0 y1 y2 y3 y4, LeO (masterdisclaw40_MetadataExtents.j0 k y0 y1 y2 y3 y4) (masterdisclaw40_MetadataExtents.j0 (k + 1) y0 y1 y2 y3 y4))
  | 0 => fun _ _ _ _ _ r h => by simp [masterdisclaw40_MetadataExtents.j0] at h
  | k + 1 => by
    have ih0 := masterdisclaw40_MetadataExtents.mono_l k
    · intro y0 y1 y2 y3 y4
      unfold masterdisclaw40_MetadataExtents.j0
      repeat' first
      | (with_reducible exact ih0 _ _ _ _ _)
      | (with_reducible exact masterdisclaw40_awake.mono _)
      | (with_reducible exact masterdiscref40_Extents.mono _ _ _ _)
      | (with_reducible exact metadata_Extents.mono _ _ _ _)
      | (with_reducible exact slices_Equal_api_Extent.mono _ _ _)
      | (with_reducible exact LeO.refl _)
      | (with_reducible exact LeO.none _)
      | (with_reducible refine LeO.ite ?_ ?_)
      | (with_reducible refine LeO.bind ?_ (fun _ => ?_))
      | exact ih0 _ _ _ _ _
      | exact masterdisclaw40_awake.mono _
      | exact masterdiscref40_Extents.mono _ _ _ _
      | exact metadata_Extents.mono _ _ _ _
      | exact slices_Equal_api_Extent.mono _ _ _
      | exact LeO.none _
      | refine LeO.ite ?_ ?_
      | refine LeO.bind ?_ (fun _ => ?_)
theorem masterdisclaw40_MetadataExtents.mono : ∀ a0 a1 a2 a3 k, LeO (masterdisclaw40_MetadataExtents.f k a0 a1 a2 a3) (masterdisclaw40_MetadataExtents.f (k + 1) a0 a1 a2 a3) := by
  intro a0 a1 a2 a3 k
  have ih0 := masterdisclaw40_MetadataExtents.mono_l k
  unfold masterdisclaw40_MetadataExtents.f
  repeat' first
      | (with_reducible exact ih0 _ _ _ _ _)
      | (with_reducible exact masterdisclaw40_awake.mono _)
      | (with_reducible exact masterdiscref40_Extents.mono _ _ _ _)
      | (with_reducible exact metadata_Extents.mono _ _ _ _)
      | (with_reducible exact slices_Equal_api_Extent.mono _ _ _)
      | (with_reducible exact LeO.refl _)
      | (with_reducible exact LeO.none _)
      | (with_reducible refine LeO.ite ?_ ?_)
      | (with_reducible refine LeO.bind ?_ (fun _ => ?_))
      | exact ih0 _ _ _ _ _
      | exact masterdisclaw40_awake.mono _
      | exact masterdiscref40_Extents.mono _ _ _ _
      | exact metadata_Extents.mono _ _ _ _
      | exact slices_Equal_api_Extent.mono _ _ _
      | exact LeO.none _
      | refine LeO.ite ?_ ?_
      | refine LeO.bind ?_ (fun _ => ?_)
set_option maxHeartbeats 8000000 in
set_option maxRecDepth 100000 in
theorem masterdisclaw40_MetadataExtents.calls (k : Nat) (a0_0 : Int) (a0_1 : Int) (A1 : Option Addr) (c1 : Nat) (l1 : List Int) (a2 : Int) (r : Bool) (w : World) (hr1 : Kd.C (Kd.int .i64) w A1 l1.length l1) (hc1 : l1.length ≤ c1) (htr : Aside0 (r = true)) (h : masterdisclaw40_MetadataExtents.f k a0_0 a0_1 l1 a2 = some r) :
    Calls Try.prog 3 #[.agg #[.int .i64 a0_0, .int .i64 a0_1], .slice A1 l1.length c1, .int .i64 a2] w fun e w' => e = .returned (.bool r) ∧ Below w.heap.size w w' := by
  have hu23 := Try.underlying23
  have HR1 := Aside0.mk hr1
  have HC1 := Aside0.mk hc1
  clear hr1 hc1
  have HB := Aside0.mk (Below.refl w.heap.size w)
  have H : ((masterdisclaw40_awake.f k).bind fun t218 => (if t218 = true then (if (l1.length : Int) > 150 then (masterdisclaw40_MetadataExtents.j0 k l1 a2 true a0_0 a0_1) else (if a0_0 < 0 then (masterdisclaw40_MetadataExtents.j0 k l1 a2 true a0_0 a0_1) else (if a0_0 > 1099511627776 then (masterdisclaw40_MetadataExtents.j0 k l1 a2 true a0_0 a0_1) else (masterdisclaw40_MetadataExtents.j0 k l1 a2 (decide (a0_1 > 4294967296)) a0_0 a0_1)))) else (some false))) = some r := h
  clear h
  replace H := Option.bind_eq_some_iff.mp H
  obtain ⟨t218, A40, H⟩ := H
  replace H : (if t218 = true then (if (l1.length : Int) > 150 then (masterdisclaw40_MetadataExtents.j0 k l1 a2 true a0_0 a0_1) else (if a0_0 < 0 then (masterdisclaw40_MetadataExtents.j0 k l1 a2 true a0_0 a0_1) else (if a0_0 > 1099511627776 then (masterdisclaw40_MetadataExtents.j0 k l1 a2 true a0_0 a0_1) else (masterdisclaw40_MetadataExtents.j0 k l1 a2 (decide (a0_1 > 4294967296)) a0_0 a0_1)))) else (some false)) = some r := H
  have A4 := Aside0.mk A40
  clear A40
  by_cases c5 : t218 = true
  · subst c5
    have H1 : (if (l1.length : Int) > 150 then (masterdisclaw40_MetadataExtents.j0 k l1 a2 true a0_0 a0_1) else (if a0_0 < 0 then (masterdisclaw40_MetadataExtents.j0 k l1 a2 true a0_0 a0_1) else (if a0_0 > 1099511627776 then (masterdisclaw40_MetadataExtents.j0 k l1 a2 true a0_0 a0_1) else (masterdisclaw40_MetadataExtents.j0 k l1 a2 (decide (a0_1 > 4294967296)) a0_0 a0_1)))) = some r := by rw [if_pos rfl] at H; exact H
    clear H
    have H := H1
    clear H1
    have HC6 := Aside0.mk H
    clear H
    go_enter Try.func3, Try.ntmps3
    go_upto_region 3 with (first | ((with_reducible refine gate_dst (N := 3) rfl ?_); refine box_event ?hg (N := 3) ?hd (cs := #[.int .i64 a0_0, .int .i64 a0_1]) (t := 23) ?hr ?_; (case hd => rfl); (case hg => rfl); (case hr => first | (go_simp; done) | (go_simp; rfl)); intro gb217 hg w7 hbox hb; have n0_ := Aside0.mk (below_step (by repeat (first | (with_reducible first | exact HB.out | apply below_alloc | apply pw_below_drewN | apply below_drew1) | exact HB.out)) hb); have n1_ := Aside0.mk (hbox); have n2_ := Aside0.mk ((by rw [hg]; exact (below_size (by repeat (first | (with_reducible first | exact HB.out | apply below_alloc | apply pw_below_drewN | apply below_drew1) | exact HB.out))) : w.heap.size ≤ gb217)); have n3_ := Aside0.mk ((by rw [hg]; exact (below_size (by repeat (first | (with_reducible first | exact HB.out | apply below_alloc | apply pw_below_drewN | apply below_drew1) | exact HB.out))) : w.heap.size ≤ gb217)); clear HB; have HB := n0_; have BK217 := n1_; have GW217 := n2_; have GE217 := n3_; clear n0_ n1_ n2_ n3_; clear hb hbox hg) | ((with_reducible refine gate_callee (f := 9) rfl ?_); refine goesL_ (some 11) rfl rfl Try.func9 (by kernel_rfl) rfl #[] rfl (by (try simp only [List.map_toArray, List.map_cons, List.map_nil]); first | done | rfl | (simp only [List.length_drop, List.length_take]; rfl)) ?_; (with_reducible refine (masterdisclaw40_awake.calls k  true _ (Aside0.mk rfl) A4.out).mono ?_); rintro e w8 ⟨rfl, hb⟩; refine ⟨_, rfl, ?_⟩; have n0_ := Aside0.mk (blk_below (g := gb217) (o := .cells #[.int .i64 a0_0, .int .i64 a0_1] 23 (0, 0)) (by (with_reducible repeat (first | refine blk_drewN ?_ _ | refine blk_drew ?_ | refine blk_alloc ?_ _)); exact BK217.out) hb); have n1_ := Aside0.mk (below_step (by repeat (first | (with_reducible first | exact HB.out | apply below_alloc | apply pw_below_drewN | apply below_drew1 | refine below_set ?_ GE217.out) | exact HB.out)) hb); clear BK217; clear HB; have BK217 := n0_; have HB := n1_; clear n0_ n1_; (try clear hb); (try clear hb2); (try clear hk); (try clear hi)))
    (try simp only [Act.put, List.setIfInBounds_toArray, List.set_cons_zero, List.set_cons_succ])
    go_cut [30] (fun v30 wc => ∃ (kq : Nat) (x30_5 : Bool), v30 = .bool x30_5 ∧ Aside0 (masterdisclaw40_MetadataExtents.j0 kq l1 a2 x30_5 a0_0 a0_1 = some r) ∧ Aside0 (kq ≤ k) ∧ Aside0 (wc.heap[gb217]? = some (.cells #[.int .i64 a0_0, .int .i64 a0_1] 23 (0, 0))) ∧ Aside0 (Below w.heap.size w wc))
    case first =>
      have H := HC6.out
      clear HC6
      by_cases c9 : (l1.length : Int) > 150
      · rw [if_pos c9] at H
        have c9b0 : decide (150 < (l1.length : Int)) = true := decide_eq_true c9
        have c9b1 : decide (150 < l1.length) = true := decide_eq_true (by omega)
        clear c9
        (first | rw [c9b0] | (simp only [i64_w, i32_w]; rw [c9b0]) | skip)
        have H' := Aside0.mk H
        clear H
        go_wp2
        go_meet
        case rel => exact ⟨_, (true), (by first | rfl | (simp; done) | (simp [*]; done)), H', ⟨by first | omega | exact Nat.le_refl _⟩, ⟨by (with_reducible repeat (first | refine blk_drewN ?_ _ | refine blk_drew ?_ | refine blk_alloc ?_ _)); exact BK217.out⟩, ⟨by repeat (first | (with_reducible first | exact HB.out | apply below_alloc | apply pw_below_drewN | apply below_drew1 | refine below_set ?_ GE217.out) | exact HB.out)⟩⟩
      · rw [if_neg c9] at H
        have c9b0 : decide (150 < (l1.length : Int)) = false := decide_eq_false c9
        have c9b1 : decide (150 < l1.length) = false := decide_eq_false (by omega)
        clear c9
        (first | rw [c9b0] | (simp only [i64_w, i32_w]; rw [c9b0]) | skip)
        by_cases c10 : a0_0 < 0
        · rw [if_pos c10] at H
          have c10b0 : decide (a0_0 < 0) = true := decide_eq_true c10
          clear c10
          have H' := Aside0.mk H
          clear H
          have hcz11_0 : w8.cell? ⟨gb217, 0, none⟩ = some (.int .i64 a0_0) := (blk_cell BK217.out 0).trans rfl
          have hcz11_1 : w8.cell? ⟨gb217, 1, none⟩ = some (.int .i64 a0_1) := (blk_cell BK217.out 1).trans rfl
          have hfz11_0 := blk_frozen BK217.out 0
          have hfz11_1 := blk_frozen BK217.out 1
          go_wp2
          go_meet
          case rel => exact ⟨_, (true), (by first | rfl | (simp; done) | (simp [*]; done)), H', ⟨by first | omega | exact Nat.le_refl _⟩, ⟨by (with_reducible repeat (first | refine blk_drewN ?_ _ | refine blk_drew ?_ | refine blk_alloc ?_ _)); exact BK217.out⟩, ⟨by repeat (first | (with_reducible first | exact HB.out | apply below_alloc | apply pw_below_drewN | apply below_drew1 | refine below_set ?_ GE217.out) | exact HB.out)⟩⟩
        · rw [if_neg c10] at H
          have c10b0 : decide (a0_0 < 0) = false := decide_eq_false c10
          clear c10
          by_cases c12 : a0_0 > 1099511627776
          · rw [if_pos c12] at H
            have c12b0 : decide (1099511627776 < a0_0) = true := decide_eq_true c12
            clear c12
            have H' := Aside0.mk H
            clear H
            have hcz13_0 : w8.cell? ⟨gb217, 0, none⟩ = some (.int .i64 a0_0) := (blk_cell BK217.out 0).trans rfl
            have hcz13_1 : w8.cell? ⟨gb217, 1, none⟩ = some (.int .i64 a0_1) := (blk_cell BK217.out 1).trans rfl
            have hfz13_0 := blk_frozen BK217.out 0
            have hfz13_1 := blk_frozen BK217.out 1
            go_wp2
            go_meet
            case rel => exact ⟨_, (true), (by first | rfl | (simp; done) | (simp [*]; done)), H', ⟨by first | omega | exact Nat.le_refl _⟩, ⟨by (with_reducible repeat (first | refine blk_drewN ?_ _ | refine blk_drew ?_ | refine blk_alloc ?_ _)); exact BK217.out⟩, ⟨by repeat (first | (with_reducible first | exact HB.out | apply below_alloc | apply pw_below_drewN | apply below_drew1 | refine below_set ?_ GE217.out) | exact HB.out)⟩⟩
          · rw [if_neg c12] at H
            have c12b0 : decide (1099511627776 < a0_0) = false := decide_eq_false c12
            clear c12
            have H' := Aside0.mk H
            clear H
            have hcz14_0 : w8.cell? ⟨gb217, 0, none⟩ = some (.int .i64 a0_0) := (blk_cell BK217.out 0).trans rfl
            have hcz14_1 : w8.cell? ⟨gb217, 1, none⟩ = some (.int .i64 a0_1) := (blk_cell BK217.out 1).trans rfl
            have hfz14_0 := blk_frozen BK217.out 0
            have hfz14_1 := blk_frozen BK217.out 1
            go_wp2
            go_meet
            case rel => exact ⟨_, (decide (a0_1 > 4294967296)), (by first | rfl | (simp; done) | (simp [*]; done)), H', ⟨by first | omega | exact Nat.le_refl _⟩, ⟨by (with_reducible repeat (first | refine blk_drewN ?_ _ | refine blk_drew ?_ | refine blk_alloc ?_ _)); exact BK217.out⟩, ⟨by repeat (first | (with_reducible first | exact HB.out | apply below_alloc | apply pw_below_drewN | apply below_drew1 | refine below_set ?_ GE217.out) | exact HB.out)⟩⟩
    case rest =>
      clear HC6
      try clear c1
      try clear p2
      try clear c3
      try clear c5
      try clear c9
      try clear c9b0
      try clear c9b1
      try clear c10
      try clear c10b0
      try clear c12
      try clear c12b0
      try clear hcz11_0
      try clear hcz11_1
      try clear hcz13_0
      try clear hcz13_1
      try clear hcz14_0
      try clear hcz14_1
      try clear hfz11_0
      try clear hfz11_1
      try clear hfz13_0
      try clear hfz13_1
      try clear hfz14_0
      try clear hfz14_1
      obtain ⟨kq, x30_5, rfl, HA, HJ5, BK217, HB⟩ := hcut
      cases kq with
      | zero => exact absurd HA.out (by simp [masterdisclaw40_MetadataExtents.j0])
      | succ kj5 =>
        have H := HA.out
        clear HA
        simp only [masterdisclaw40_MetadataExtents.j0] at H
        by_cases c15 : x30_5 = true
        · subst c15
          have H1 : (some true) = some r := by rw [if_pos rfl] at H; exact H
          clear H
          have H := H1
          clear H1
          obtain rfl := Option.some.inj H
          go_wp2
          go_ret
          exact ⟨by first | rfl | (simp [errW_none, errW_some] <;> rfl) | (simp [*, errW_none, errW_some] <;> rfl), by repeat (first | (with_reducible first | exact HB.out | apply below_alloc | apply pw_below_drewN | apply below_drew1 | refine below_set ?_ GE217.out) | exact HB.out)⟩
        · replace c15 := Bool.eq_false_iff.mpr c15
          subst c15
          have H1 : ((metadata_Extents.f kj5 a0_0 a0_1 l1).bind fun bt219 => ((masterdiscref40_Extents.f kj5 a0_0 a0_1 l1).bind fun bt223 => ((metadata_Rounded.f a2).bind fun t227 => ((masterdiscref40_Rounded.f a2).bind fun t228 => (if t227 = t228 then ((slices_Equal_api_Extent.f kj5 bt219.1 bt223.1).bind fun t229 => (if t229 = true then (some (bt219.2 == bt223.2)) else (some false))) else (some false)))))) = some r := by rw [if_neg (show ¬ (false = true) by decide)] at H; exact H
          clear H
          have H := H1
          clear H1
          replace H := Option.bind_eq_some_iff.mp H
          obtain ⟨⟨t219, t222⟩, A160, H⟩ := H
          replace H : ((masterdiscref40_Extents.f kj5 a0_0 a0_1 l1).bind fun bt223 => ((metadata_Rounded.f a2).bind fun t227 => ((masterdiscref40_Rounded.f a2).bind fun t228 => (if t227 = t228 then ((slices_Equal_api_Extent.f kj5 t219 bt223.1).bind fun t229 => (if t229 = true then (some (t222 == bt223.2)) else (some false))) else (some false))))) = some r := H
          have A16 := Aside0.mk A160
          clear A160
          replace H := Option.bind_eq_some_iff.mp H
          obtain ⟨⟨t223, t226⟩, A170, H⟩ := H
          replace H : ((metadata_Rounded.f a2).bind fun t227 => ((masterdiscref40_Rounded.f a2).bind fun t228 => (if t227 = t228 then ((slices_Equal_api_Extent.f kj5 t219 t223).bind fun t229 => (if t229 = true then (some (t222 == t226)) else (some false))) else (some false)))) = some r := H
          have A17 := Aside0.mk A170
          clear A170
          replace H := Option.bind_eq_some_iff.mp H
          obtain ⟨t227, A180, H⟩ := H
          replace H : ((masterdiscref40_Rounded.f a2).bind fun t228 => (if t227 = t228 then ((slices_Equal_api_Extent.f kj5 t219 t223).bind fun t229 => (if t229 = true then (some (t222 == t226)) else (some false))) else (some false))) = some r := H
          have A18 := Aside0.mk A180
          clear A180
          replace H := Option.bind_eq_some_iff.mp H
          obtain ⟨t228, A190, H⟩ := H
          replace H : (if t227 = t228 then ((slices_Equal_api_Extent.f kj5 t219 t223).bind fun t229 => (if t229 = true then (some (t222 == t226)) else (some false))) else (some false)) = some r := H
          have A19 := Aside0.mk A190
          clear A190
          by_cases c20 : t227 = t228
          · rw [if_pos c20] at H
            have c20b0 : (t227 == t228) = true := beq_iff_eq.mpr c20
            have c20b1 : (t227 != t228) = false := bne_eq_false_iff_eq.mpr c20
            clear c20
            replace H := Option.bind_eq_some_iff.mp H
            obtain ⟨t229, A210, H⟩ := H
            replace H : (if t229 = true then (some (t222 == t226)) else (some false)) = some r := H
            have A21 := Aside0.mk A210
            clear A210
            by_cases c22 : t229 = true
            · subst c22
              have H1 : (some (t222 == t226)) = some r := by rw [if_pos rfl] at H; exact H
              clear H
              have H := H1
              clear H1
              obtain rfl := Option.some.inj H
              have hcz23_0 : wc.cell? ⟨gb217, 0, none⟩ = some (.int .i64 a0_0) := (blk_cell BK217.out 0).trans rfl
              have hcz23_1 : wc.cell? ⟨gb217, 1, none⟩ = some (.int .i64 a0_1) := (blk_cell BK217.out 1).trans rfl
              have hfz23_0 := blk_frozen BK217.out 0
              have hfz23_1 := blk_frozen BK217.out 1
              go_wp2_with (first | ((with_reducible refine gate_callee (f := 10) rfl ?_); refine goesL_ (some 34) rfl rfl Try.func10 (by kernel_rfl) rfl #[.agg #[.int .i64 a0_0, .int .i64 a0_1], .slice A1 l1.length c1] rfl (by (try simp only [List.map_toArray, List.map_cons, List.map_nil]); first | done | rfl | (simp only [List.length_drop, List.length_take]; rfl)) ?_; (with_reducible refine (metadata_Extents.calls kj5 a0_0 a0_1 _ _ l1 t219 t222 _ ?side1 ?side2 A16.out).mono ?_); (case side1 => repeat (first | exact (Kd.C_below HR1.out HB.out) | (with_reducible refine Kd.C_alloc ?_ _) | (with_reducible refine Kd.C_drewN ?_ _) | (with_reducible refine Kd.C_drew ?_))); (case side2 => exact HC1.out); rintro e w24 ⟨v220, rfl, ho0, hb⟩; refine ⟨_, rfl, ?_⟩; have n0_ := Aside0.mk (Kd.R_lower ho0 (below_size (by repeat (first | (with_reducible first | exact HB.out | apply below_alloc | apply pw_below_drewN | apply below_drew1 | refine below_set ?_ GE217.out) | exact HB.out)))); have n1_ := Aside0.mk (blk_below (g := gb217) (o := .cells #[.int .i64 a0_0, .int .i64 a0_1] 23 (0, 0)) (by (with_reducible repeat (first | refine blk_drewN ?_ _ | refine blk_drew ?_ | refine blk_alloc ?_ _)); exact BK217.out) hb); have n2_ := Aside0.mk (below_step (by repeat (first | (with_reducible first | exact HB.out | apply below_alloc | apply pw_below_drewN | apply below_drew1 | refine below_set ?_ GE217.out) | exact HB.out)) hb); clear BK217; clear HB; have HO221 := n0_; have BK217 := n1_; have HB := n2_; clear n0_ n1_ n2_; (try clear hb); (try clear hb2); (try clear hk); (try clear hi); (try clear ho0); have hcz25_0 : w24.cell? ⟨gb217, 0, none⟩ = some (.int .i64 a0_0) := (blk_cell BK217.out 0).trans rfl; have hcz25_1 : w24.cell? ⟨gb217, 1, none⟩ = some (.int .i64 a0_1) := (blk_cell BK217.out 1).trans rfl; have hfz25_0 := blk_frozen BK217.out 0; have hfz25_1 := blk_frozen BK217.out 1) | ((with_reducible refine gate_callee (f := 11) rfl ?_); refine goesL_ (some 40) rfl rfl Try.func11 (by kernel_rfl) rfl #[.agg #[.int .i64 a0_0, .int .i64 a0_1], .slice A1 l1.length c1] rfl (by (try simp only [List.map_toArray, List.map_cons, List.map_nil]); first | done | rfl | (simp only [List.length_drop, List.length_take]; rfl)) ?_; (with_reducible refine (masterdiscref40_Extents.calls kj5 a0_0 a0_1 _ _ l1 t223 t226 _ ?side1 ?side2 A17.out).mono ?_); (case side1 => repeat (first | exact (Kd.C_below HR1.out HB.out) | (with_reducible refine Kd.C_alloc ?_ _) | (with_reducible refine Kd.C_drewN ?_ _) | (with_reducible refine Kd.C_drew ?_))); (case side2 => exact HC1.out); rintro e w26 ⟨v224, rfl, ho0, hb⟩; refine ⟨_, rfl, ?_⟩; have n0_ := Aside0.mk (Kd.R_elder' (by (with_reducible repeat (first | apply Kd.R_alloc | apply Kd.R_drewN | apply Kd.R_drew)); exact HO221.out) (Kd.R_base ho0) hb); have n1_ := Aside0.mk (Kd.R_lower (Kd.R_new' ho0 (Kd.R_lt (by (with_reducible repeat (first | apply Kd.R_alloc | apply Kd.R_drewN | apply Kd.R_drew)); exact HO221.out))) (below_size (by repeat (first | (with_reducible first | exact HB.out | apply below_alloc | apply pw_below_drewN | apply below_drew1 | refine below_set ?_ GE217.out) | exact HB.out)))); have n2_ := Aside0.mk (blk_below (g := gb217) (o := .cells #[.int .i64 a0_0, .int .i64 a0_1] 23 (0, 0)) (by (with_reducible repeat (first | refine blk_drewN ?_ _ | refine blk_drew ?_ | refine blk_alloc ?_ _)); exact BK217.out) hb); have n3_ := Aside0.mk (below_step (by repeat (first | (with_reducible first | exact HB.out | apply below_alloc | apply pw_below_drewN | apply below_drew1 | refine below_set ?_ GE217.out) | exact HB.out)) hb); clear HO221; clear BK217; clear HB; have HO221 := n0_; have HO225 := n1_; have BK217 := n2_; have HB := n3_; clear n0_ n1_ n2_ n3_; (try clear hb); (try clear hb2); (try clear hk); (try clear hi); (try clear ho0)) | ((with_reducible refine gate_callee (f := 12) rfl ?_); refine goesL_ (some 44) rfl rfl Try.func12 (by kernel_rfl) rfl #[.int .i64 a2] rfl (by (try simp only [List.map_toArray, List.map_cons, List.map_nil]); first | done | rfl | (simp only [List.length_drop, List.length_take]; rfl)) ?_; (with_reducible refine (metadata_Rounded.calls a2 t227 _ A18.out).mono ?_); rintro e w' ⟨rfl, ⟨nd, rfl⟩⟩; refine ⟨_, rfl, ?_⟩) | ((with_reducible refine gate_callee (f := 13) rfl ?_); refine goesL_ (some 46) rfl rfl Try.func13 (by kernel_rfl) rfl #[.int .i64 a2] rfl (by (try simp only [List.map_toArray, List.map_cons, List.map_nil]); first | done | rfl | (simp only [List.length_drop, List.length_take]; rfl)) ?_; (with_reducible refine (masterdiscref40_Rounded.calls a2 t228 _ A19.out).mono ?_); rintro e w' ⟨rfl, ⟨nd, rfl⟩⟩; refine ⟨_, rfl, ?_⟩; obtain ⟨Ao27, co27, eo27⟩ := Kd.R_slice HO221.out; subst eo27; obtain ⟨Ao28, co28, eo28⟩ := Kd.R_slice HO225.out; subst eo28) | (go_at_call 14; (with_reducible refine (slices_Equal_api_Extent.calls kj5 _ _ t219 _ _ t223 true _ ?side1 ?side2 ?side3 ?side4 A21.out).mono ?_); (case side1 => repeat (first | exact (Kd.R_reads' HO221.out).2.2 | (with_reducible refine Kd.C_alloc ?_ _) | (with_reducible refine Kd.C_drewN ?_ _) | (with_reducible refine Kd.C_drew ?_))); (case side2 => exact (Kd.R_reads' HO221.out).2.1); (case side3 => repeat (first | exact (Kd.R_reads' HO225.out).2.2 | (with_reducible refine Kd.C_alloc ?_ _) | (with_reducible refine Kd.C_drewN ?_ _) | (with_reducible refine Kd.C_drew ?_))); (case side4 => exact (Kd.R_reads' HO225.out).2.1); rintro e w' ⟨rfl, ⟨nd, rfl⟩⟩))
              go_ret
              exact ⟨by first | rfl | (simp [errW_none, errW_some] <;> rfl) | (simp [*, errW_none, errW_some] <;> rfl), by repeat (first | (with_reducible first | exact HB.out | apply below_alloc | apply pw_below_drewN | apply below_drew1 | refine below_set ?_ GE217.out) | exact HB.out)⟩
            · replace c22 := Bool.eq_false_iff.mpr c22
              subst c22
              have H1 : (some false) = some r := by rw [if_neg (show ¬ (false = true) by decide)] at H; exact H
              clear H
              have H := H1
              clear H1
              exact absurd ((Option.some.inj H).trans htr.out) (by decide)
          · rw [if_neg c20] at H
            have c20b0 : (t227 == t228) = false := beq_eq_false_iff_ne.mpr c20
            have c20b1 : (t227 != t228) = true := bne_iff_ne.mpr c20
            exact absurd ((Option.some.inj H).trans htr.out) (by decide)
  · replace c5 := Bool.eq_false_iff.mpr c5
    subst c5
    have H1 : (some false) = some r := by rw [if_neg (show ¬ (false = true) by decide)] at H; exact H
    clear H
    have H := H1
    clear H1
    exact absurd ((Option.some.inj H).trans htr.out) (by decide)

/-- The pure statement of masterdisclaw40_MetadataExtents. -/
def masterdisclaw40_MetadataExtents.Pure : Prop := ∀ (x0 : S23) (x1 : List Int) (x2 : Int), (((Lit.int .i64 x0.f0).wf = true) ∧ ((Lit.int .i64 x0.f1).wf = true)) → (x1.length * 8 ≤ 140737488351232 ∧ ∀ z ∈ x1, (Lit.int .i64 z).wf = true) → ((Lit.int .i64 x2).wf = true) → ∃ k, masterdisclaw40_MetadataExtents.f k x0.f0 x0.f1 x1 x2 = some true

end Go.Proofs.Yticmghpnbjhhnaa.M
