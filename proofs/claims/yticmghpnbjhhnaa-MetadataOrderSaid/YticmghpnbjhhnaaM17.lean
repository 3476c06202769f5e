/- Lean functions with the answers of the Go functions that they are named after, and the walks that tie the Go functions to them (written by the program mp.py of this session). -/
import Derived.Test.YticmghpnbjhhnaaM0
import Derived.Test.YticmghpnbjhhnaaM4
import Derived.Test.YticmghpnbjhhnaaM5
import Derived.Test.YticmghpnbjhhnaaM6
import Derived.Test.YticmghpnbjhhnaaM7
import Derived.Test.YticmghpnbjhhnaaM8
namespace Go.Proofs.Yticmghpnbjhhnaa.M
open Go.RowKit Go.Proofs.YticmghpnbjhhnaaW.PrintWords Go.Proofs.YticmghpnbjhhnaaW.PrintLast Go.Proofs.YticmghpnbjhhnaaW.PrintMore
attribute [local go_sem] max2_int min2_int max_two min_two max_three min_three max_four min_four   -- for this text's walks alone
set_option linter.unusedVariables false
set_option linter.unusedSimpArgs false

/-! ### masterdisclaw40_MetadataOrder: function 5 -/
mutual
def masterdisclaw40_MetadataOrder.j0 : Nat → List Int → Bool → Int → Int → Option (Bool)
  | 0, _, _, _, _ => none
  | k + 1, x1, x35, x280000, x280001 => if x35 = true then (some true) else ((metadata_Extents.f k x280000 x280001 x1).bind fun bt281 => (if bt281.2 = 0 then ((allocation_Length.f k bt281.1).bind fun t286 => (if t286 = (wrap64 ((x1.length : Int) * 2048)) then ((allocation_Join.f k bt281.1).bind fun t287 => ((slices_Equal_api_Extent.f k t287 bt281.1).bind fun t290 => (if t290 = true then ((metadata_Size.f k ([] : List (S96)) x280000 x280001 ([] : List Int) ([] : List (S98)) bt281.1 ([] : List (S35))).bind fun t291 => (masterdisclaw40_MetadataOrder.j1 k x1 bt281.1 (t291 != (x1.length : Int)) x280000 x280001 x280000 x280001 bt281.1)) else (masterdisclaw40_MetadataOrder.j1 k x1 bt281.1 true x280000 x280001 x280000 x280001 bt281.1)))) else (masterdisclaw40_MetadataOrder.j1 k x1 bt281.1 true x280000 x280001 x280000 x280001 bt281.1))) else (some ((bt281.1.length : Int) == 0))))
def masterdisclaw40_MetadataOrder.j1 : Nat → List Int → List (S35) → Bool → Int → Int → Int → Int → List (S35) → Option (Bool)
  | 0, _, _, _, _, _, _, _, _ => none
  | k + 1, x1, x5, x69, x280000, x280001, x286001, x286002, x286005 => if x69 = true then (some false) else (masterdisclaw40_MetadataOrder.l0 k x5 x1 (x1.length : Int) 0 x280000 x280001 x286001 x286002 x286005)
def masterdisclaw40_MetadataOrder.l0 : Nat → List (S35) → List Int → Int → Int → Int → Int → Int → Int → List (S35) → Option (Bool)
  | 0, _, _, _, _, _, _, _, _, _ => none
  | k + 1, x5, x70, x71, x72, x280000, x280001, x286001, x286002, x286005 => if x72 < x71 then (if 0 ≤ x72 then (if x72 < (x70.length : Int) then ((allocation_Locate.f k x5 x72).bind fun bt293 => ((metadata_Locations.f k ([] : List (S96)) x286001 x286002 ([] : List Int) ([] : List (S98)) x286005 ([] : List (S35)) x72).bind fun bt298 => (if bt293.2.2.2 = 0 then (if bt293.2.2.1 = 0 then (if (wrap64 (bt293.1 + x280000)) = (rd x70 x72) then (if bt298.2.2 = 0 then (if bt298.1 = (rd x70 x72) then (if bt298.2.1 = (-1) then (masterdisclaw40_MetadataOrder.l0 k x5 x70 x71 (wrap64 (x72 + 1)) x280000 x280001 x286001 x286002 x286005) else (some false)) else (some false)) else (some false)) else (some false)) else (some false)) else (some false)))) else (none)) else (none)) else (some true)
end
def masterdisclaw40_MetadataOrder.f (k : Nat) (a0_0 : Int) (a0_1 : Int) (l1 : List Int) : Option (Bool) := (masterdisclaw40_awake.f k).bind fun t280 => (if t280 = true then (if (l1.length : Int) > 150 then (masterdisclaw40_MetadataOrder.j0 k l1 true a0_0 a0_1) else (if a0_0 < 0 then (masterdisclaw40_MetadataOrder.j0 k l1 true a0_0 a0_1) else (if a0_0 > 1099511627776 then (masterdisclaw40_MetadataOrder.j0 k l1 true a0_0 a0_1) else (masterdisclaw40_MetadataOrder.j0 k l1 (decide (a0_1 > 2147483648)) a0_0 a0_1)))) else (some false))
theorem masterdisclaw40_MetadataOrder.mono_l : ∀ k, (∀ y0 y1 y2 y3, LeO (masterdisclaw40_MetadataOrder.j0 k y0 y1 y2 y3) (masterdisclaw40_MetadataOrder.j0 (k + 1) y0 y1 y2 y3)) ∧ (∀ y0 y1 y2 y3 y4 y5 y6 y7, LeO (masterdisclaw40_MetadataOrder.j1 k y0 y1 y2 y3 y4 y5 y6 y7) (masterdisclaw40_MetadataOrder.j1 (k + 1) y0 y1 y2 y3 y4 y5 y6 y7)) ∧ (∀ y0 y1 y2 y3 y4 y5 y6 y7 y8, LeO (masterdisclaw40_MetadataOrder.l0 k y0 y1 y2 y3 y4 y5 y6 y7 y8) (masterdisclaw40_MetadataOrder.l0 (k + 1) y0 y1 y2 y3 y4 y5 y6 y7 y8))
  | 0 => ⟨fun _ _ _ _ r h => by simp [masterdisclaw40_MetadataOrder.j0] at h, fun _ _ _ _ _ _ _ _ r h => by simp [masterdisclaw40_MetadataOrder.j1] at h, fun _ _ _ _ _ _ _ _ _ r h => by simp [masterdisclaw40_MetadataOrder.l0] at h⟩
  | k + 1 => by
    obtain ⟨ih0, ih1, ih2⟩ := masterdisclaw40_MetadataOrder.mono_l k
    refine ⟨?_, ?_, ?_⟩
    · intro y0 y1 y2 y3
      unfold masterdisclaw40_MetadataOrder.j0
      repeat' first
      | (with_reducible exact ih0 _ _ _ _)
      | (with_reducible exact ih1 _ _ _ _ _ _ _ _)
      | (with_reducible exact ih2 _ _ _ _ _ _ _ _ _)
      | (with_reducible exact allocation_Join.mono _ _)
      | (with_reducible exact allocation_Length.mono _ _)
      | (with_reducible exact allocation_Locate.mono _ _ _)
      | (with_reducible exact masterdisclaw40_awake.mono _)
      | (with_reducible exact metadata_Extents.mono _ _ _ _)
      | (with_reducible exact metadata_Locations.mono _ _ _ _ _ _ _ _ _)
      | (with_reducible exact metadata_Size.mono _ _ _ _ _ _ _ _)
      | (with_reducible exact slices_Equal_api_Extent.mono _ _ _)
      | (with_reducible exact LeO.refl _)
      | (with_reducible exact LeO.none _)
      | (with_reducible refine LeO.ite ?_ ?_)
      | (with_reducible refine LeO.bind ?_ (fun _ => ?_))
      | exact ih0 _ _ _ _
      | exact ih1 _ _ _ _ _ _ _ _
      | exact ih2 _ _ _ _ _ _ _ _ _
      | exact allocation_Join.mono _ _
      | exact allocation_Length.mono _ _
      | exact allocation_Locate.mono _ _ _
      | exact masterdisclaw40_awake.mono _
      | exact metadata_Extents.mono _ _ _ _
      | exact metadata_Locations.mono _ _ _ _ _ _ _ _ _
      | exact metadata_Size.mono _ _ _ _ _ _ _ _
      | exact slices_Equal_api_Extent.mono _ _ _
      | exact LeO.none _
      | refine LeO.ite ?_ ?_
      | refine LeO.bind ?_ (fun _ => ?_)
    · intro y0 y1 y2 y3 y4 y5 y6 y7
      unfold masterdisclaw40_MetadataOrder.j1
      repeat' first
      | (with_reducible exact ih0 _ _ _ _)
      | (with_reducible exact ih1 _ _ _ _ _ _ _ _)
      | (with_reducible exact ih2 _ _ _ _ _ _ _ _ _)
      | (with_reducible exact allocation_Join.mono _ _)
      | (with_reducible exact allocation_Length.mono _ _)
      | (with_reducible exact allocation_Locate.mono _ _ _)
      | (with_reducible exact masterdisclaw40_awake.mono _)
      | (with_reducible exact metadata_Extents.mono _ _ _ _)
      | (with_reducible exact metadata_Locations.mono _ _ _ _ _ _ _ _ _)
      | (with_reducible exact metadata_Size.mono _ _ _ _ _ _ _ _)
      | (with_reducible exact slices_Equal_api_Extent.mono _ _ _)
      | (with_reducible exact LeO.refl _)
      | (with_reducible exact LeO.none _)
      | (with_reducible refine LeO.ite ?_ ?_)
      | (with_reducible refine LeO.bind ?_ (fun _ => ?_))
      | exact ih0 _ _ _ _
      | exact ih1 _ _ _ _ _ _ _ _
      | exact ih2 _ _ _ _ _ _ _ _ _
      | exact allocation_Join.mono _ _
      | exact allocation_Length.mono _ _
      | exact allocation_Locate.mono _ _ _
      | exact masterdisclaw40_awake.mono _
      | exact metadata_Extents.mono _ _ _ _
      | exact metadata_Locations.mono _ _ _ _ _ _ _ _ _
      | exact metadata_Size.mono _ _ _ _ _ _ _ _
      | exact slices_Equal_api_Extent.mono _ _ _
      | exact LeO.none _
      | refine LeO.ite ?_ ?_
      | refine LeO.bind ?_ (fun _ => ?_)
    · intro y0 y1 y2 y3 y4 y5 y6 y7 y8
      unfold masterdisclaw40_MetadataOrder.l0
      repeat' first
      | (with_reducible exact ih0 _ _ _ _)
      | (with_reducible exact ih1 _ _ _ _ _ _ _ _)
      | (with_reducible exact ih2 _ _ _ _ _ _ _ _ _)
      | (with_reducible exact allocation_Join.mono _ _)
      | (with_reducible exact allocation_Length.mono _ _)
      | (with_reducible exact allocation_Locate.mono _ _ _)
      | (with_reducible exact masterdisclaw40_awake.mono _)
      | (with_reducible exact metadata_Extents.mono _ _ _ _)
      | (with_reducible exact metadata_Locations.mono _ _ _ _ _ _ _ _ _)
      | (with_reducible exact metadata_Size.mono _ _ _ _ _ _ _ _)
      | (with_reducible exact slices_Equal_api_Extent.mono _ _ _)
      | (with_reducible exact LeO.refl _)
      | (with_reducible exact LeO.none _)
      | (with_reducible refine LeO.ite ?_ ?_)
      | (with_reducible refine LeO.bind ?_ (fun _ => ?_))
      | exact ih0 _ _ _ _
      | exact ih1 _ _ _ _ _ _ _ _
      | exact ih2 _ _ _ _ _ _ _ _ _
      | exact allocation_Join.mono _ _
      | exact allocation_Length.mono _ _
      | exact allocation_Locate.mono _ _ _
      | exact masterdisclaw40_awake.mono _
      | exact metadata_Extents.mono _ _ _ _
      | exact metadata_Locations.mono _ _ _ _ _ _ _ _ _
      | exact metadata_Size.mono _ _ _ _ _ _ _ _
      | exact slices_Equal_api_Extent.mono _ _ _
      | exact LeO.none _
      | refine LeO.ite ?_ ?_
      | refine LeO.bind ?_ (fun _ => ?_)
theorem masterdisclaw40_MetadataOrder.mono : ∀ a0 a1 a2 k, LeO (masterdisclaw40_MetadataOrder.f k a0 a1 a2) (masterdisclaw40_MetadataOrder.f (k + 1) a0 a1 a2) := by
  intro a0 a1 a2 k
  obtain ⟨ih0, ih1, ih2⟩ := masterdisclaw40_MetadataOrder.mono_l k
  unfold masterdisclaw40_MetadataOrder.f
  repeat' first
      | (with_reducible exact ih0 _ _ _ _)
      | (with_reducible exact ih1 _ _ _ _ _ _ _ _)
      | (with_reducible exact ih2 _ _ _ _ _ _ _ _ _)
      | (with_reducible exact allocation_Join.mono _ _)
      | (with_reducible exact allocation_Length.mono _ _)
      | (with_reducible exact allocation_Locate.mono _ _ _)
      | (with_reducible exact masterdisclaw40_awake.mono _)
      | (with_reducible exact metadata_Extents.mono _ _ _ _)
      | (with_reducible exact metadata_Locations.mono _ _ _ _ _ _ _ _ _)
      | (with_reducible exact metadata_Size.mono _ _ _ _ _ _ _ _)
      | (with_reducible exact slices_Equal_api_Extent.mono _ _ _)
      | (with_reducible exact LeO.refl _)
      | (with_reducible exact LeO.none _)
      | (with_reducible refine LeO.ite ?_ ?_)
      | (with_reducible refine LeO.bind ?_ (fun _ => ?_))
      | exact ih0 _ _ _ _
      | exact ih1 _ _ _ _ _ _ _ _
      | exact ih2 _ _ _ _ _ _ _ _ _
      | exact allocation_Join.mono _ _
      | exact allocation_Length.mono _ _
      | exact allocation_Locate.mono _ _ _
      | exact masterdisclaw40_awake.mono _
      | exact metadata_Extents.mono _ _ _ _
      | exact metadata_Locations.mono _ _ _ _ _ _ _ _ _
      | exact metadata_Size.mono _ _ _ _ _ _ _ _
      | exact slices_Equal_api_Extent.mono _ _ _
      | exact LeO.none _
      | refine LeO.ite ?_ ?_
      | refine LeO.bind ?_ (fun _ => ?_)
set_option maxHeartbeats 8000000 in
set_option maxRecDepth 100000 in
theorem masterdisclaw40_MetadataOrder.calls (k : Nat) (a0_0 : Int) (a0_1 : Int) (A1 : Option Addr) (c1 : Nat) (l1 : List Int) (r : Bool) (w : World) (hr1 : Kd.C (Kd.int .i64) w A1 l1.length l1) (hc1 : l1.length ≤ c1) (htr : Aside0 (r = true)) (h : masterdisclaw40_MetadataOrder.f k a0_0 a0_1 l1 = some r) :
    Calls Try.prog 5 #[.agg #[.int .i64 a0_0, .int .i64 a0_1], .slice A1 l1.length c1] w fun e w' => e = .returned (.bool r) ∧ Below w.heap.size w w' := by
  have hu23 := Try.underlying23
  have hu40 := Try.underlying40
  have hu33 := Try.underlying33
  have HR1 := Aside0.mk hr1
  have HC1 := Aside0.mk hc1
  clear hr1 hc1
  have HB := Aside0.mk (Below.refl w.heap.size w)
  have H : ((masterdisclaw40_awake.f k).bind fun t280 => (if t280 = true then (if (l1.length : Int) > 150 then (masterdisclaw40_MetadataOrder.j0 k l1 true a0_0 a0_1) else (if a0_0 < 0 then (masterdisclaw40_MetadataOrder.j0 k l1 true a0_0 a0_1) else (if a0_0 > 1099511627776 then (masterdisclaw40_MetadataOrder.j0 k l1 true a0_0 a0_1) else (masterdisclaw40_MetadataOrder.j0 k l1 (decide (a0_1 > 2147483648)) a0_0 a0_1)))) else (some false))) = some r := h
  clear h
  replace H := Option.bind_eq_some_iff.mp H
  obtain ⟨t280, A30, H⟩ := H
  replace H : (if t280 = true then (if (l1.length : Int) > 150 then (masterdisclaw40_MetadataOrder.j0 k l1 true a0_0 a0_1) else (if a0_0 < 0 then (masterdisclaw40_MetadataOrder.j0 k l1 true a0_0 a0_1) else (if a0_0 > 1099511627776 then (masterdisclaw40_MetadataOrder.j0 k l1 true a0_0 a0_1) else (masterdisclaw40_MetadataOrder.j0 k l1 (decide (a0_1 > 2147483648)) a0_0 a0_1)))) else (some false)) = some r := H
  have A3 := Aside0.mk A30
  clear A30
  by_cases c4 : t280 = true
  · subst c4
    have H1 : (if (l1.length : Int) > 150 then (masterdisclaw40_MetadataOrder.j0 k l1 true a0_0 a0_1) else (if a0_0 < 0 then (masterdisclaw40_MetadataOrder.j0 k l1 true a0_0 a0_1) else (if a0_0 > 1099511627776 then (masterdisclaw40_MetadataOrder.j0 k l1 true a0_0 a0_1) else (masterdisclaw40_MetadataOrder.j0 k l1 (decide (a0_1 > 2147483648)) a0_0 a0_1)))) = some r := by rw [if_pos rfl] at H; exact H
    clear H
    have H := H1
    clear H1
    have HC5 := Aside0.mk H
    clear H
    go_enter Try.func5, Try.ntmps5
    go_upto_region 3 with (first | ((with_reducible refine gate_dst (N := 2) rfl ?_); (try (refine gate_guard (by rfl) ?_; dsimp only)); refine box_event ?hg (N := 2) ?hd (cs := #[.int .i64 a0_0, .int .i64 a0_1]) (t := 23) ?hr ?_; (case hd => rfl); (case hg => rfl); (case hr => first | (go_simp; done) | (go_simp; rfl)); intro gb279 hg w6 hbox hb; have n0_ := Aside0.mk (below_step (by repeat (first | (with_reducible first | exact HB.out | apply below_alloc | apply pw_below_drewN | apply below_drew1) | exact HB.out)) hb); have n1_ := Aside0.mk (hbox); have n2_ := Aside0.mk ((by rw [hg]; exact (below_size (by repeat (first | (with_reducible first | exact HB.out | apply below_alloc | apply pw_below_drewN | apply below_drew1) | exact HB.out))) : w.heap.size ≤ gb279)); have n3_ := Aside0.mk ((by rw [hg]; exact (below_size (by repeat (first | (with_reducible first | exact HB.out | apply below_alloc | apply pw_below_drewN | apply below_drew1) | exact HB.out))) : w.heap.size ≤ gb279)); clear HB; have HB := n0_; have BK279 := n1_; have GW279 := n2_; have GE279 := n3_; clear n0_ n1_ n2_ n3_; clear hb hbox hg) | ((with_reducible refine gate_callee (f := 9) rfl ?_); refine goesL_ (some 16) rfl rfl Try.func9 (by kernel_rfl) rfl #[] rfl (by (try simp only [List.map_toArray, List.map_cons, List.map_nil]); first | done | rfl | (simp only [List.length_drop, List.length_take]; rfl)) ?_; (with_reducible refine (masterdisclaw40_awake.calls k  true _ (Aside0.mk rfl) A3.out).mono ?_); rintro e w7 ⟨rfl, hb⟩; refine ⟨_, rfl, ?_⟩; have n0_ := Aside0.mk (blk_below (g := gb279) (o := .cells #[.int .i64 a0_0, .int .i64 a0_1] 23 (0, 0)) (by (with_reducible repeat (first | refine blk_drewN ?_ _ | refine blk_drew ?_ | refine blk_alloc ?_ _)); exact BK279.out) hb); have n1_ := Aside0.mk (below_step (by repeat (first | (with_reducible first | exact HB.out | apply below_alloc | apply pw_below_drewN | apply below_drew1 | refine below_set ?_ GE279.out) | exact HB.out)) hb); clear BK279; clear HB; have BK279 := n0_; have HB := n1_; clear n0_ n1_; (try clear hb); (try clear hb2); (try clear hk); (try clear hi)))
    (try simp only [Act.put, List.setIfInBounds_toArray, List.set_cons_zero, List.set_cons_succ])
    go_cut [35] (fun v35 wc => ∃ (kq : Nat) (x35_4 : Bool), v35 = .bool x35_4 ∧ Aside0 (masterdisclaw40_MetadataOrder.j0 kq l1 x35_4 a0_0 a0_1 = some r) ∧ Aside0 (kq ≤ k) ∧ Aside0 (wc.heap[gb279]? = some (.cells #[.int .i64 a0_0, .int .i64 a0_1] 23 (0, 0))) ∧ Aside0 (Below w.heap.size w wc))
    case first =>
      have H := HC5.out
      clear HC5
      by_cases c8 : (l1.length : Int) > 150
      · rw [if_pos c8] at H
        have c8b0 : decide (150 < (l1.length : Int)) = true := decide_eq_true c8
        have c8b1 : decide (150 < l1.length) = true := decide_eq_true (by omega)
        clear c8
        (first | rw [c8b0] | (simp only [i64_w, i32_w]; rw [c8b0]) | skip)
        have H' := Aside0.mk H
        clear H
        go_wp2
        go_meet
        case rel => exact ⟨_, (true), (by first | rfl | (simp; done) | (simp [*]; done)), H', ⟨by first | omega | exact Nat.le_refl _⟩, ⟨by (with_reducible repeat (first | refine blk_drewN ?_ _ | refine blk_drew ?_ | refine blk_alloc ?_ _)); exact BK279.out⟩, ⟨by repeat (first | (with_reducible first | exact HB.out | apply below_alloc | apply pw_below_drewN | apply below_drew1 | refine below_set ?_ GE279.out) | exact HB.out)⟩⟩
      · rw [if_neg c8] at H
        have c8b0 : decide (150 < (l1.length : Int)) = false := decide_eq_false c8
        have c8b1 : decide (150 < l1.length) = false := decide_eq_false (by omega)
        clear c8
        (first | rw [c8b0] | (simp only [i64_w, i32_w]; rw [c8b0]) | skip)
        by_cases c9 : a0_0 < 0
        · rw [if_pos c9] at H
          have c9b0 : decide (a0_0 < 0) = true := decide_eq_true c9
          clear c9
          have H' := Aside0.mk H
          clear H
          have hcz10_0 : w7.cell? ⟨gb279, 0, none⟩ = some (.int .i64 a0_0) := (blk_cell BK279.out 0).trans rfl
          have hcz10_1 : w7.cell? ⟨gb279, 1, none⟩ = some (.int .i64 a0_1) := (blk_cell BK279.out 1).trans rfl
          have hfz10_0 := blk_frozen BK279.out 0
          have hfz10_1 := blk_frozen BK279.out 1
          go_wp2
          go_meet
          case rel => exact ⟨_, (true), (by first | rfl | (simp; done) | (simp [*]; done)), H', ⟨by first | omega | exact Nat.le_refl _⟩, ⟨by (with_reducible repeat (first | refine blk_drewN ?_ _ | refine blk_drew ?_ | refine blk_alloc ?_ _)); exact BK279.out⟩, ⟨by repeat (first | (with_reducible first | exact HB.out | apply below_alloc | apply pw_below_drewN | apply below_drew1 | refine below_set ?_ GE279.out) | exact HB.out)⟩⟩
        · rw [if_neg c9] at H
          have c9b0 : decide (a0_0 < 0) = false := decide_eq_false c9
          clear c9
          by_cases c11 : a0_0 > 1099511627776
          · rw [if_pos c11] at H
            have c11b0 : decide (1099511627776 < a0_0) = true := decide_eq_true c11
            clear c11
            have H' := Aside0.mk H
            clear H
            have hcz12_0 : w7.cell? ⟨gb279, 0, none⟩ = some (.int .i64 a0_0) := (blk_cell BK279.out 0).trans rfl
            have hcz12_1 : w7.cell? ⟨gb279, 1, none⟩ = some (.int .i64 a0_1) := (blk_cell BK279.out 1).trans rfl
            have hfz12_0 := blk_frozen BK279.out 0
            have hfz12_1 := blk_frozen BK279.out 1
            go_wp2
            go_meet
            case rel => exact ⟨_, (true), (by first | rfl | (simp; done) | (simp [*]; done)), H', ⟨by first | omega | exact Nat.le_refl _⟩, ⟨by (with_reducible repeat (first | refine blk_drewN ?_ _ | refine blk_drew ?_ | refine blk_alloc ?_ _)); exact BK279.out⟩, ⟨by repeat (first | (with_reducible first | exact HB.out | apply below_alloc | apply pw_below_drewN | apply below_drew1 | refine below_set ?_ GE279.out) | exact HB.out)⟩⟩
          · rw [if_neg c11] at H
            have c11b0 : decide (1099511627776 < a0_0) = false := decide_eq_false c11
            clear c11
            have H' := Aside0.mk H
            clear H
            have hcz13_0 : w7.cell? ⟨gb279, 0, none⟩ = some (.int .i64 a0_0) := (blk_cell BK279.out 0).trans rfl
            have hcz13_1 : w7.cell? ⟨gb279, 1, none⟩ = some (.int .i64 a0_1) := (blk_cell BK279.out 1).trans rfl
            have hfz13_0 := blk_frozen BK279.out 0
            have hfz13_1 := blk_frozen BK279.out 1
            go_wp2
            go_meet
            case rel => exact ⟨_, (decide (a0_1 > 2147483648)), (by first | rfl | (simp; done) | (simp [*]; done)), H', ⟨by first | omega | exact Nat.le_refl _⟩, ⟨by (with_reducible repeat (first | refine blk_drewN ?_ _ | refine blk_drew ?_ | refine blk_alloc ?_ _)); exact BK279.out⟩, ⟨by repeat (first | (with_reducible first | exact HB.out | apply below_alloc | apply pw_below_drewN | apply below_drew1 | refine below_set ?_ GE279.out) | exact HB.out)⟩⟩
    case rest =>
      clear HC5
      try clear c1
      try clear p2
      try clear c4
      try clear c5
      try clear c8
      try clear c8b0
      try clear c8b1
      try clear c9
      try clear c9b0
      try clear c11
      try clear c11b0
      try clear hcz10_0
      try clear hcz10_1
      try clear hcz12_0
      try clear hcz12_1
      try clear hcz13_0
      try clear hcz13_1
      try clear hfz10_0
      try clear hfz10_1
      try clear hfz12_0
      try clear hfz12_1
      try clear hfz13_0
      try clear hfz13_1
      obtain ⟨kq, x35_4, rfl, HA, HJ4, BK279, HB⟩ := hcut
      cases kq with
      | zero => exact absurd HA.out (by simp [masterdisclaw40_MetadataOrder.j0])
      | succ kj4 =>
        have H := HA.out
        clear HA
        simp only [masterdisclaw40_MetadataOrder.j0] at H
        by_cases c14 : x35_4 = true
        · subst c14
          have H1 : (some true) = some r := by rw [if_pos rfl] at H; exact H
          clear H
          have H := H1
          clear H1
          obtain rfl := Option.some.inj H
          go_wp2
          go_ret
          exact ⟨by first | rfl | (simp [errW_none, errW_some] <;> rfl) | (simp [*, errW_none, errW_some] <;> rfl), by repeat (first | (with_reducible first | exact HB.out | apply below_alloc | apply pw_below_drewN | apply below_drew1 | refine below_set ?_ GE279.out) | exact HB.out)⟩
        · replace c14 := Bool.eq_false_iff.mpr c14
          subst c14
          have H1 : ((metadata_Extents.f kj4 a0_0 a0_1 l1).bind fun bt281 => (if bt281.2 = 0 then ((allocation_Length.f kj4 bt281.1).bind fun t286 => (if t286 = (wrap64 ((l1.length : Int) * 2048)) then ((allocation_Join.f kj4 bt281.1).bind fun t287 => ((slices_Equal_api_Extent.f kj4 t287 bt281.1).bind fun t290 => (if t290 = true then ((metadata_Size.f kj4 ([] : List (S96)) a0_0 a0_1 ([] : List Int) ([] : List (S98)) bt281.1 ([] : List (S35))).bind fun t291 => (masterdisclaw40_MetadataOrder.j1 kj4 l1 bt281.1 (t291 != (l1.length : Int)) a0_0 a0_1 a0_0 a0_1 bt281.1)) else (masterdisclaw40_MetadataOrder.j1 kj4 l1 bt281.1 true a0_0 a0_1 a0_0 a0_1 bt281.1)))) else (masterdisclaw40_MetadataOrder.j1 kj4 l1 bt281.1 true a0_0 a0_1 a0_0 a0_1 bt281.1))) else (some ((bt281.1.length : Int) == 0)))) = some r := by rw [if_neg (show ¬ (false = true) by decide)] at H; exact H
          clear H
          have H := H1
          clear H1
          replace H := Option.bind_eq_some_iff.mp H
          obtain ⟨⟨t281, t284⟩, A150, H⟩ := H
          replace H : (if t284 = 0 then ((allocation_Length.f kj4 t281).bind fun t286 => (if t286 = (wrap64 ((l1.length : Int) * 2048)) then ((allocation_Join.f kj4 t281).bind fun t287 => ((slices_Equal_api_Extent.f kj4 t287 t281).bind fun t290 => (if t290 = true then ((metadata_Size.f kj4 ([] : List (S96)) a0_0 a0_1 ([] : List Int) ([] : List (S98)) t281 ([] : List (S35))).bind fun t291 => (masterdisclaw40_MetadataOrder.j1 kj4 l1 t281 (t291 != (l1.length : Int)) a0_0 a0_1 a0_0 a0_1 t281)) else (masterdisclaw40_MetadataOrder.j1 kj4 l1 t281 true a0_0 a0_1 a0_0 a0_1 t281)))) else (masterdisclaw40_MetadataOrder.j1 kj4 l1 t281 true a0_0 a0_1 a0_0 a0_1 t281))) else (some ((t281.length : Int) == 0))) = some r := H
          have A15 := Aside0.mk A150
          clear A150
          by_cases c16 : t284 = 0
          · rw [if_pos c16] at H
            have c16b0 : (t284 == 0) = true := beq_iff_eq.mpr c16
            have c16b1 : (t284 != 0) = false := bne_eq_false_iff_eq.mpr c16
            clear c16
            have HC17 := Aside0.mk H
            clear H
            have hcz18_0 : wc.cell? ⟨gb279, 0, none⟩ = some (.int .i64 a0_0) := (blk_cell BK279.out 0).trans rfl
            have hcz18_1 : wc.cell? ⟨gb279, 1, none⟩ = some (.int .i64 a0_1) := (blk_cell BK279.out 1).trans rfl
            have hfz18_0 := blk_frozen BK279.out 0
            have hfz18_1 := blk_frozen BK279.out 1
            go_upto_region 9 with (first | ((with_reducible refine gate_callee (f := 10) rfl ?_); refine goesL_ (some 39) rfl rfl Try.func10 (by kernel_rfl) rfl #[.agg #[.int .i64 a0_0, .int .i64 a0_1], .slice A1 l1.length c1] rfl (by (try simp only [List.map_toArray, List.map_cons, List.map_nil]); first | done | rfl | (simp only [List.length_drop, List.length_take]; rfl)) ?_; (with_reducible refine (metadata_Extents.calls kj4 a0_0 a0_1 _ _ l1 t281 t284 _ ?side1 ?side2 A15.out).mono ?_); (case side1 => repeat (first | exact (Kd.C_below HR1.out HB.out) | (with_reducible refine Kd.C_alloc ?_ _) | (with_reducible refine Kd.C_drewN ?_ _) | (with_reducible refine Kd.C_drew ?_))); (case side2 => exact HC1.out); rintro e w19 ⟨v282, rfl, ho0, hb⟩; refine ⟨_, rfl, ?_⟩; have n0_ := Aside0.mk (Kd.R_lower ho0 (below_size (by repeat (first | (with_reducible first | exact HB.out | apply below_alloc | apply pw_below_drewN | apply below_drew1 | refine below_set ?_ GE279.out) | exact HB.out)))); have n1_ := Aside0.mk (blk_below (g := gb279) (o := .cells #[.int .i64 a0_0, .int .i64 a0_1] 23 (0, 0)) (by (with_reducible repeat (first | refine blk_drewN ?_ _ | refine blk_drew ?_ | refine blk_alloc ?_ _)); exact BK279.out) hb); have n2_ := Aside0.mk (below_step (by repeat (first | (with_reducible first | exact HB.out | apply below_alloc | apply pw_below_drewN | apply below_drew1 | refine below_set ?_ GE279.out) | exact HB.out)) hb); clear BK279; clear HB; have HO283 := n0_; have BK279 := n1_; have HB := n2_; clear n0_ n1_ n2_; (try clear hb); (try clear hb2); (try clear hk); (try clear hi); (try clear ho0); have hcz20_0 : w19.cell? ⟨gb279, 0, none⟩ = some (.int .i64 a0_0) := (blk_cell BK279.out 0).trans rfl; have hcz20_1 : w19.cell? ⟨gb279, 1, none⟩ = some (.int .i64 a0_1) := (blk_cell BK279.out 1).trans rfl; have hfz20_0 := blk_frozen BK279.out 0; have hfz20_1 := blk_frozen BK279.out 1; obtain ⟨Ao21, co21, eo21⟩ := Kd.R_slice HO283.out; subst eo21) | ((with_reducible refine gate_dst (N := 7) rfl ?_); (try (refine gate_guard (by rfl) ?_; dsimp only)); refine box_event ?hg (N := 7) ?hd (cs := #[.slice none 0 0, .int .i64 0, .int .i64 0, .slice none 0 0, .slice none 0 0, .slice none 0 0, .slice none 0 0]) (t := 40) ?hr ?_; (case hd => rfl); (case hg => rfl); (case hr => first | (go_simp; done) | (go_simp; rfl)); intro gb285 hg w22 hbox hb; have n0_ := Aside0.mk (Kd.R_below (by (with_reducible repeat (first | apply Kd.R_alloc | apply Kd.R_drewN | apply Kd.R_drew)); exact HO283.out) hb); have n1_ := Aside0.mk (blk_below (g := gb279) (o := .cells #[.int .i64 a0_0, .int .i64 a0_1] 23 (0, 0)) (by (with_reducible repeat (first | refine blk_drewN ?_ _ | refine blk_drew ?_ | refine blk_alloc ?_ _)); exact BK279.out) hb); have n2_ := Aside0.mk (below_step (by repeat (first | (with_reducible first | exact HB.out | apply below_alloc | apply pw_below_drewN | apply below_drew1 | refine below_set ?_ GE279.out) | exact HB.out)) hb); have n3_ := Aside0.mk (hbox); have n4_ := Aside0.mk ((by rw [hg]; exact (below_size (by repeat (first | (with_reducible first | exact HB.out | apply below_alloc | apply pw_below_drewN | apply below_drew1 | refine below_set ?_ GE279.out) | exact HB.out))) : w.heap.size ≤ gb285)); have n5_ := Aside0.mk ((by rw [hg]; exact (below_size (by repeat (first | (with_reducible first | exact HB.out | apply below_alloc | apply pw_below_drewN | apply below_drew1 | refine below_set ?_ GE279.out) | exact HB.out))) : w.heap.size ≤ gb285)); have n6_ := Aside0.mk ((by rw [hg]; exact Nat.ne_of_lt (blk_lt (g := gb279) (o := .cells #[.int .i64 a0_0, .int .i64 a0_1] 23 (0, 0)) (by (with_reducible repeat (first | refine blk_drewN ?_ _ | refine blk_drew ?_ | refine blk_alloc ?_ _)); exact BK279.out)) : gb279 ≠ gb285)); have n7_ := Aside0.mk ((by rw [hg]; exact Nat.ne_of_gt (blk_lt (g := gb279) (o := .cells #[.int .i64 a0_0, .int .i64 a0_1] 23 (0, 0)) (by (with_reducible repeat (first | refine blk_drewN ?_ _ | refine blk_drew ?_ | refine blk_alloc ?_ _)); exact BK279.out)) : gb285 ≠ gb279)); clear HO283; clear BK279; clear HB; have HO283 := n0_; have BK279 := n1_; have HB := n2_; have BK285 := n3_; have GW285 := n4_; have GE285 := n5_; have NB279_285 := n6_; have NB285_279 := n7_; clear n0_ n1_ n2_ n3_ n4_ n5_ n6_ n7_; clear hb hbox hg; have hnb23 := NB285_279.out; have hnc23 := NB279_285.out; have hcz24_0 : w22.cell? ⟨gb285, 0, none⟩ = some (.slice none 0 0) := (blk_cell BK285.out 0).trans rfl; have hcz24_1 : w22.cell? ⟨gb285, 1, none⟩ = some (.int .i64 0) := (blk_cell BK285.out 1).trans rfl; have hcz24_2 : w22.cell? ⟨gb285, 2, none⟩ = some (.int .i64 0) := (blk_cell BK285.out 2).trans rfl; have hcz24_3 : w22.cell? ⟨gb285, 3, none⟩ = some (.slice none 0 0) := (blk_cell BK285.out 3).trans rfl; have hcz24_4 : w22.cell? ⟨gb285, 4, none⟩ = some (.slice none 0 0) := (blk_cell BK285.out 4).trans rfl; have hcz24_5 : w22.cell? ⟨gb285, 5, none⟩ = some (.slice none 0 0) := (blk_cell BK285.out 5).trans rfl; have hcz24_6 : w22.cell? ⟨gb285, 6, none⟩ = some (.slice none 0 0) := (blk_cell BK285.out 6).trans rfl; have hfz24_0 := blk_frozen BK285.out 0; have hfz24_1 := blk_frozen BK285.out 1; have hfz24_2 := blk_frozen BK285.out 2; have hfz24_3 := blk_frozen BK285.out 3; have hfz24_4 := blk_frozen BK285.out 4; have hfz24_5 := blk_frozen BK285.out 5; have hfz24_6 := blk_frozen BK285.out 6))
            (try simp only [Act.put, List.setIfInBounds_toArray, List.set_cons_zero, List.set_cons_succ])
            go_cut [69] (fun v69 wc => ∃ (kq : Nat) (x69_16 : Bool), v69 = .bool x69_16 ∧ Aside0 (masterdisclaw40_MetadataOrder.j1 kq l1 t281 x69_16 a0_0 a0_1 a0_0 a0_1 t281 = some r) ∧ Aside0 (kq ≤ kj4) ∧ Aside0 (Kd.R k35 35 wc w.heap.size (fun _ => True) (.slice Ao21 t281.length co21) t281) ∧ Aside0 (Kd.R k35 35 wc w.heap.size (fun _ => True) (.slice Ao21 t281.length co21) t281) ∧ Aside0 (wc.heap[gb279]? = some (.cells #[.int .i64 a0_0, .int .i64 a0_1] 23 (0, 0))) ∧ Aside0 (wc.heap[gb285]? = some (.cells #[(.slice none 0 0), .int .i64 a0_0, .int .i64 a0_1, (.slice none 0 0), (.slice none 0 0), (.slice Ao21 t281.length co21), (.slice none 0 0)] 40 (0, 0))) ∧ Aside0 (Below w.heap.size w wc))
            case first =>
              have H := HC17.out
              clear HC17
              replace H := Option.bind_eq_some_iff.mp H
              obtain ⟨t286, A250, H⟩ := H
              replace H : (if t286 = (wrap64 ((l1.length : Int) * 2048)) then ((allocation_Join.f kj4 t281).bind fun t287 => ((slices_Equal_api_Extent.f kj4 t287 t281).bind fun t290 => (if t290 = true then ((metadata_Size.f kj4 ([] : List (S96)) a0_0 a0_1 ([] : List Int) ([] : List (S98)) t281 ([] : List (S35))).bind fun t291 => (masterdisclaw40_MetadataOrder.j1 kj4 l1 t281 (t291 != (l1.length : Int)) a0_0 a0_1 a0_0 a0_1 t281)) else (masterdisclaw40_MetadataOrder.j1 kj4 l1 t281 true a0_0 a0_1 a0_0 a0_1 t281)))) else (masterdisclaw40_MetadataOrder.j1 kj4 l1 t281 true a0_0 a0_1 a0_0 a0_1 t281)) = some r := H
              have A25 := Aside0.mk A250
              clear A250
              by_cases c26 : t286 = (wrap64 ((l1.length : Int) * 2048))
              · rw [if_pos c26] at H
                have c26b0 : (t286 == (wrap64 ((l1.length : Int) * 2048))) = true := beq_iff_eq.mpr c26
                have c26b1 : (t286 != (wrap64 ((l1.length : Int) * 2048))) = false := bne_eq_false_iff_eq.mpr c26
                clear c26
                (first | rw [c26b0] | (simp only [i64_w, i32_w]; rw [c26b0]) | skip)
                replace H := Option.bind_eq_some_iff.mp H
                obtain ⟨t287, A270, H⟩ := H
                replace H : ((slices_Equal_api_Extent.f kj4 t287 t281).bind fun t290 => (if t290 = true then ((metadata_Size.f kj4 ([] : List (S96)) a0_0 a0_1 ([] : List Int) ([] : List (S98)) t281 ([] : List (S35))).bind fun t291 => (masterdisclaw40_MetadataOrder.j1 kj4 l1 t281 (t291 != (l1.length : Int)) a0_0 a0_1 a0_0 a0_1 t281)) else (masterdisclaw40_MetadataOrder.j1 kj4 l1 t281 true a0_0 a0_1 a0_0 a0_1 t281))) = some r := H
                have A27 := Aside0.mk A270
                clear A270
                replace H := Option.bind_eq_some_iff.mp H
                obtain ⟨t290, A280, H⟩ := H
                replace H : (if t290 = true then ((metadata_Size.f kj4 ([] : List (S96)) a0_0 a0_1 ([] : List Int) ([] : List (S98)) t281 ([] : List (S35))).bind fun t291 => (masterdisclaw40_MetadataOrder.j1 kj4 l1 t281 (t291 != (l1.length : Int)) a0_0 a0_1 a0_0 a0_1 t281)) else (masterdisclaw40_MetadataOrder.j1 kj4 l1 t281 true a0_0 a0_1 a0_0 a0_1 t281)) = some r := H
                have A28 := Aside0.mk A280
                clear A280
                by_cases c29 : t290 = true
                · subst c29
                  have H1 : ((metadata_Size.f kj4 ([] : List (S96)) a0_0 a0_1 ([] : List Int) ([] : List (S98)) t281 ([] : List (S35))).bind fun t291 => (masterdisclaw40_MetadataOrder.j1 kj4 l1 t281 (t291 != (l1.length : Int)) a0_0 a0_1 a0_0 a0_1 t281)) = some r := by rw [if_pos rfl] at H; exact H
                  clear H
                  have H := H1
                  clear H1
                  replace H := Option.bind_eq_some_iff.mp H
                  obtain ⟨t291, A300, H⟩ := H
                  replace H : (masterdisclaw40_MetadataOrder.j1 kj4 l1 t281 (t291 != (l1.length : Int)) a0_0 a0_1 a0_0 a0_1 t281) = some r := H
                  have A30 := Aside0.mk A300
                  clear A300
                  have H' := Aside0.mk H
                  clear H
                  go_wp2_with (first | ((with_reducible refine gate_callee (f := 20) rfl ?_); refine goesL_ (some 51) rfl rfl Try.func20 (by kernel_rfl) rfl #[.slice Ao21 t281.length co21] rfl (by (try simp only [List.map_toArray, List.map_cons, List.map_nil]); first | done | rfl | (simp only [List.length_drop, List.length_take]; rfl)) ?_; (with_reducible refine (allocation_Length.calls kj4 _ _ t281 t286 _ ?side1 ?side2 A25.out).mono ?_); (case side1 => refine (Kd.R_reads' (e := 35) (base := w.heap.size) (ok := fun k_ => True) (n := t281.length) (c := co21) ?_).2.2; exact (by (with_reducible repeat (first | apply Kd.R_alloc | apply Kd.R_drewN | apply Kd.R_drew)); exact (Kd.R_mono (Kd.R_far (p := ⟨gb285, 6, none⟩) (Kd.R_far (p := ⟨gb285, 5, none⟩) (Kd.R_far (p := ⟨gb285, 4, none⟩) (Kd.R_far (p := ⟨gb285, 3, none⟩) (Kd.R_far (p := ⟨gb285, 2, none⟩) (Kd.R_far (p := ⟨gb285, 1, none⟩) (Kd.R_far (p := ⟨gb285, 0, none⟩) (Kd.R_types HO283.out BK285.out (by decide)) (fun _ hk => hk.2) (.slice none 0 0)) (fun _ hk => hk.2) (.int .i64 a0_0)) (fun _ hk => hk.2) (.int .i64 a0_1)) (fun _ hk => hk.2) (.slice none 0 0)) (fun _ hk => hk.2) (.slice none 0 0)) (fun _ hk => hk.2) (.slice Ao21 t281.length co21)) (fun _ hk => hk.2) (.slice none 0 0)) (fun _ h_ => h_.1)))); (case side2 => exact (Kd.R_reads' HO283.out).2.1); rintro e w31 ⟨rfl, hb⟩; refine ⟨_, rfl, ?_⟩; have n0_ := Aside0.mk (Kd.R_below (by (with_reducible repeat (first | apply Kd.R_alloc | apply Kd.R_drewN | apply Kd.R_drew)); exact (Kd.R_mono (Kd.R_far (p := ⟨gb285, 6, none⟩) (Kd.R_far (p := ⟨gb285, 5, none⟩) (Kd.R_far (p := ⟨gb285, 4, none⟩) (Kd.R_far (p := ⟨gb285, 3, none⟩) (Kd.R_far (p := ⟨gb285, 2, none⟩) (Kd.R_far (p := ⟨gb285, 1, none⟩) (Kd.R_far (p := ⟨gb285, 0, none⟩) (Kd.R_types HO283.out BK285.out (by decide)) (fun _ hk => hk.2) (.slice none 0 0)) (fun _ hk => hk.2) (.int .i64 a0_0)) (fun _ hk => hk.2) (.int .i64 a0_1)) (fun _ hk => hk.2) (.slice none 0 0)) (fun _ hk => hk.2) (.slice none 0 0)) (fun _ hk => hk.2) (.slice Ao21 t281.length co21)) (fun _ hk => hk.2) (.slice none 0 0)) (fun _ h_ => h_.1))) hb); have n1_ := Aside0.mk (blk_below (g := gb279) (o := .cells #[.int .i64 a0_0, .int .i64 a0_1] 23 (0, 0)) (by (with_reducible repeat (first | refine blk_drewN ?_ _ | refine blk_drew ?_ | refine blk_alloc ?_ _)); refine blk_far ?_ NB279_285.out _; (with_reducible repeat (first | refine blk_drewN ?_ _ | refine blk_drew ?_ | refine blk_alloc ?_ _)); refine blk_far ?_ NB279_285.out _; (with_reducible repeat (first | refine blk_drewN ?_ _ | refine blk_drew ?_ | refine blk_alloc ?_ _)); refine blk_far ?_ NB279_285.out _; (with_reducible repeat (first | refine blk_drewN ?_ _ | refine blk_drew ?_ | refine blk_alloc ?_ _)); refine blk_far ?_ NB279_285.out _; (with_reducible repeat (first | refine blk_drewN ?_ _ | refine blk_drew ?_ | refine blk_alloc ?_ _)); refine blk_far ?_ NB279_285.out _; (with_reducible repeat (first | refine blk_drewN ?_ _ | refine blk_drew ?_ | refine blk_alloc ?_ _)); refine blk_far ?_ NB279_285.out _; (with_reducible repeat (first | refine blk_drewN ?_ _ | refine blk_drew ?_ | refine blk_alloc ?_ _)); refine blk_far ?_ NB279_285.out _; (with_reducible repeat (first | refine blk_drewN ?_ _ | refine blk_drew ?_ | refine blk_alloc ?_ _)); exact BK279.out) hb); have n2_ := Aside0.mk (blk_below (g := gb285) (o := .cells #[.slice none 0 0, .int .i64 a0_0, .int .i64 a0_1, .slice none 0 0, .slice none 0 0, .slice Ao21 t281.length co21, .slice none 0 0] 40 (0, 0)) (by (with_reducible repeat (first | refine blk_drewN ?_ _ | refine blk_drew ?_ | refine blk_alloc ?_ _)); refine blk_put (cs := #[.slice none 0 0, .int .i64 a0_0, .int .i64 a0_1, .slice none 0 0, .slice none 0 0, .slice Ao21 t281.length co21, .slice none 0 0]) ?_ 6 _ rfl; (with_reducible repeat (first | refine blk_drewN ?_ _ | refine blk_drew ?_ | refine blk_alloc ?_ _)); refine blk_put (cs := #[.slice none 0 0, .int .i64 a0_0, .int .i64 a0_1, .slice none 0 0, .slice none 0 0, .slice none 0 0, .slice none 0 0]) ?_ 5 _ rfl; (with_reducible repeat (first | refine blk_drewN ?_ _ | refine blk_drew ?_ | refine blk_alloc ?_ _)); refine blk_put (cs := #[.slice none 0 0, .int .i64 a0_0, .int .i64 a0_1, .slice none 0 0, .slice none 0 0, .slice none 0 0, .slice none 0 0]) ?_ 4 _ rfl; (with_reducible repeat (first | refine blk_drewN ?_ _ | refine blk_drew ?_ | refine blk_alloc ?_ _)); refine blk_put (cs := #[.slice none 0 0, .int .i64 a0_0, .int .i64 a0_1, .slice none 0 0, .slice none 0 0, .slice none 0 0, .slice none 0 0]) ?_ 3 _ rfl; (with_reducible repeat (first | refine blk_drewN ?_ _ | refine blk_drew ?_ | refine blk_alloc ?_ _)); refine blk_put (cs := #[.slice none 0 0, .int .i64 a0_0, .int .i64 0, .slice none 0 0, .slice none 0 0, .slice none 0 0, .slice none 0 0]) ?_ 2 _ rfl; (with_reducible repeat (first | refine blk_drewN ?_ _ | refine blk_drew ?_ | refine blk_alloc ?_ _)); refine blk_put (cs := #[.slice none 0 0, .int .i64 0, .int .i64 0, .slice none 0 0, .slice none 0 0, .slice none 0 0, .slice none 0 0]) ?_ 1 _ rfl; (with_reducible repeat (first | refine blk_drewN ?_ _ | refine blk_drew ?_ | refine blk_alloc ?_ _)); refine blk_put (cs := #[.slice none 0 0, .int .i64 0, .int .i64 0, .slice none 0 0, .slice none 0 0, .slice none 0 0, .slice none 0 0]) ?_ 0 _ rfl; (with_reducible repeat (first | refine blk_drewN ?_ _ | refine blk_drew ?_ | refine blk_alloc ?_ _)); exact BK285.out) hb); have n3_ := Aside0.mk (below_step (by repeat (first | (with_reducible first | exact HB.out | apply below_alloc | apply pw_below_drewN | apply below_drew1 | refine below_set ?_ GE279.out | refine below_set ?_ GE285.out) | exact HB.out)) hb); clear HO283; clear BK279; clear BK285; clear HB; have HO283 := n0_; have BK279 := n1_; have BK285 := n2_; have HB := n3_; clear n0_ n1_ n2_ n3_; (try clear hb); (try clear hb2); (try clear hk); (try clear hi)) | (go_at_call 21; (with_reducible refine (allocation_Join.calls kj4 _ _ t281 t287 _ ?side1 ?side2 A27.out).mono ?_); (case side1 => repeat (first | exact (Kd.R_reads' HO283.out).2.2 | (with_reducible refine Kd.C_alloc ?_ _) | (with_reducible refine Kd.C_drewN ?_ _) | (with_reducible refine Kd.C_drew ?_))); (case side2 => exact (Kd.R_reads' HO283.out).2.1); rintro e w32 ⟨v288, rfl, ho0, hb⟩; have n0_ := Aside0.mk (Kd.R_elder' (by (with_reducible repeat (first | apply Kd.R_alloc | apply Kd.R_drewN | apply Kd.R_drew)); exact HO283.out) (Kd.R_base ho0) hb); have n1_ := Aside0.mk (Kd.R_lower (Kd.R_new' ho0 (Kd.R_lt (by (with_reducible repeat (first | apply Kd.R_alloc | apply Kd.R_drewN | apply Kd.R_drew)); exact HO283.out))) (below_size (by repeat (first | (with_reducible first | exact HB.out | apply below_alloc | apply pw_below_drewN | apply below_drew1 | refine below_set ?_ GE279.out | refine below_set ?_ GE285.out) | exact HB.out)))); have n2_ := Aside0.mk (blk_below (g := gb279) (o := .cells #[.int .i64 a0_0, .int .i64 a0_1] 23 (0, 0)) (by (with_reducible repeat (first | refine blk_drewN ?_ _ | refine blk_drew ?_ | refine blk_alloc ?_ _)); exact BK279.out) hb); have n3_ := Aside0.mk (blk_below (g := gb285) (o := .cells #[.slice none 0 0, .int .i64 a0_0, .int .i64 a0_1, .slice none 0 0, .slice none 0 0, .slice Ao21 t281.length co21, .slice none 0 0] 40 (0, 0)) (by (with_reducible repeat (first | refine blk_drewN ?_ _ | refine blk_drew ?_ | refine blk_alloc ?_ _)); exact BK285.out) hb); have n4_ := Aside0.mk (below_step (by repeat (first | (with_reducible first | exact HB.out | apply below_alloc | apply pw_below_drewN | apply below_drew1 | refine below_set ?_ GE279.out | refine below_set ?_ GE285.out) | exact HB.out)) hb); clear HO283; clear BK279; clear BK285; clear HB; have HO283 := n0_; have HO289 := n1_; have BK279 := n2_; have BK285 := n3_; have HB := n4_; clear n0_ n1_ n2_ n3_ n4_; (try clear hb); (try clear hb2); (try clear hk); (try clear hi); (try clear ho0); obtain ⟨Ao33, co33, eo33⟩ := Kd.R_slice HO289.out; subst eo33) | (go_at_call 14; (with_reducible refine (slices_Equal_api_Extent.calls kj4 _ _ t287 _ _ t281 true _ ?side1 ?side2 ?side3 ?side4 A28.out).mono ?_); (case side1 => repeat (first | exact (Kd.R_reads' HO289.out).2.2 | (with_reducible refine Kd.C_alloc ?_ _) | (with_reducible refine Kd.C_drewN ?_ _) | (with_reducible refine Kd.C_drew ?_))); (case side2 => exact (Kd.R_reads' HO289.out).2.1); (case side3 => repeat (first | exact (Kd.R_reads' HO283.out).2.2 | (with_reducible refine Kd.C_alloc ?_ _) | (with_reducible refine Kd.C_drewN ?_ _) | (with_reducible refine Kd.C_drew ?_))); (case side4 => exact (Kd.R_reads' HO283.out).2.1); rintro e w' ⟨rfl, ⟨nd, rfl⟩⟩; have hnb34 := NB285_279.out; have hnc34 := NB279_285.out; have hcz35_0 : w32.cell? ⟨gb285, 0, none⟩ = some (.slice none 0 0) := (blk_cell BK285.out 0).trans rfl; have hcz35_1 : w32.cell? ⟨gb285, 1, none⟩ = some (.int .i64 a0_0) := (blk_cell BK285.out 1).trans rfl; have hcz35_2 : w32.cell? ⟨gb285, 2, none⟩ = some (.int .i64 a0_1) := (blk_cell BK285.out 2).trans rfl; have hcz35_3 : w32.cell? ⟨gb285, 3, none⟩ = some (.slice none 0 0) := (blk_cell BK285.out 3).trans rfl; have hcz35_4 : w32.cell? ⟨gb285, 4, none⟩ = some (.slice none 0 0) := (blk_cell BK285.out 4).trans rfl; have hcz35_5 : w32.cell? ⟨gb285, 5, none⟩ = some (.slice Ao21 t281.length co21) := (blk_cell BK285.out 5).trans rfl; have hcz35_6 : w32.cell? ⟨gb285, 6, none⟩ = some (.slice none 0 0) := (blk_cell BK285.out 6).trans rfl; have hfz35_0 := blk_frozen BK285.out 0; have hfz35_1 := blk_frozen BK285.out 1; have hfz35_2 := blk_frozen BK285.out 2; have hfz35_3 := blk_frozen BK285.out 3; have hfz35_4 := blk_frozen BK285.out 4; have hfz35_5 := blk_frozen BK285.out 5; have hfz35_6 := blk_frozen BK285.out 6) | (go_at_call 18; (refine (metadata_Size.calls kj4 _ _ ([] : List (S96)) a0_0 a0_1 _ _ ([] : List Int) _ _ ([] : List (S98)) (fun k_ => some k_ = (.slice Ao21 t281.length co21 : Value).ownBlock) _ _ t281 (fun k_ => False) _ _ ([] : List (S35)) t291 _ ?side1 ?side2 ?side3 ?side4 ?side5 ?side6 ?side7 ?side8 A30.out).mono ?_); (case side1 => exact Kd.C_nil _ _); (case side2 => exact Nat.le_refl _); (case side3 => exact Kd.C_nil _ _); (case side4 => exact Nat.le_refl _); (case side5 => exact Kd.C_nil _ _); (case side6 => exact Nat.le_refl _); (case side7 => exact Kd.R_V (Kd.R_tight rfl (Kd.R_types (Kd.R_types (HO283.out) BK279.out (by decide)) BK285.out (by decide)))); (case side8 => exact Kd.V_nil _ _ _ _ _); rintro e w36 ⟨rfl, hb⟩; have n0_ := Aside0.mk (Kd.R_below (by (with_reducible repeat (first | apply Kd.R_alloc | apply Kd.R_drewN | apply Kd.R_drew)); exact HO283.out) hb); have n1_ := Aside0.mk (Kd.R_below (by (with_reducible repeat (first | apply Kd.R_alloc | apply Kd.R_drewN | apply Kd.R_drew)); exact HO289.out) hb); have n2_ := Aside0.mk (blk_below (g := gb279) (o := .cells #[.int .i64 a0_0, .int .i64 a0_1] 23 (0, 0)) (by (with_reducible repeat (first | refine blk_drewN ?_ _ | refine blk_drew ?_ | refine blk_alloc ?_ _)); exact BK279.out) hb); have n3_ := Aside0.mk (blk_below (g := gb285) (o := .cells #[.slice none 0 0, .int .i64 a0_0, .int .i64 a0_1, .slice none 0 0, .slice none 0 0, .slice Ao21 t281.length co21, .slice none 0 0] 40 (0, 0)) (by (with_reducible repeat (first | refine blk_drewN ?_ _ | refine blk_drew ?_ | refine blk_alloc ?_ _)); exact BK285.out) hb); have n4_ := Aside0.mk (below_step (by repeat (first | (with_reducible first | exact HB.out | apply below_alloc | apply pw_below_drewN | apply below_drew1 | refine below_set ?_ GE279.out | refine below_set ?_ GE285.out) | exact HB.out)) hb); clear HO283; clear HO289; clear BK279; clear BK285; clear HB; have HO283 := n0_; have HO289 := n1_; have BK279 := n2_; have BK285 := n3_; have HB := n4_; clear n0_ n1_ n2_ n3_ n4_; (try clear hb); (try clear hb2); (try clear hk); (try clear hi)))
                  go_meet
                  case rel => exact ⟨_, ((t291 != (l1.length : Int))), (by first | rfl | (simp; done) | (simp [*]; done)), H', ⟨by have := HJ4.out; first | omega | exact Nat.le_refl _⟩, ⟨by (with_reducible repeat (first | apply Kd.R_alloc | apply Kd.R_drewN | apply Kd.R_drew)); exact Kd.R_mono HO283.out (fun _ hk => trivial)⟩, ⟨by (with_reducible repeat (first | apply Kd.R_alloc | apply Kd.R_drewN | apply Kd.R_drew)); exact Kd.R_mono HO283.out (fun _ hk => trivial)⟩, ⟨by (with_reducible repeat (first | refine blk_drewN ?_ _ | refine blk_drew ?_ | refine blk_alloc ?_ _)); exact BK279.out⟩, ⟨by (with_reducible repeat (first | refine blk_drewN ?_ _ | refine blk_drew ?_ | refine blk_alloc ?_ _)); exact BK285.out⟩, ⟨by repeat (first | (with_reducible first | exact HB.out | apply below_alloc | apply pw_below_drewN | apply below_drew1 | refine below_set ?_ GE279.out | refine below_set ?_ GE285.out) | exact HB.out)⟩⟩
                · replace c29 := Bool.eq_false_iff.mpr c29
                  subst c29
                  have H1 : (masterdisclaw40_MetadataOrder.j1 kj4 l1 t281 true a0_0 a0_1 a0_0 a0_1 t281) = some r := by rw [if_neg (show ¬ (false = true) by decide)] at H; exact H
                  clear H
                  have H := H1
                  clear H1
                  have H' := Aside0.mk H
                  clear H
                  go_wp2_with (first | ((with_reducible refine gate_callee (f := 20) rfl ?_); refine goesL_ (some 51) rfl rfl Try.func20 (by kernel_rfl) rfl #[.slice Ao21 t281.length co21] rfl (by (try simp only [List.map_toArray, List.map_cons, List.map_nil]); first | done | rfl | (simp only [List.length_drop, List.length_take]; rfl)) ?_; (with_reducible refine (allocation_Length.calls kj4 _ _ t281 t286 _ ?side1 ?side2 A25.out).mono ?_); (case side1 => refine (Kd.R_reads' (e := 35) (base := w.heap.size) (ok := fun k_ => True) (n := t281.length) (c := co21) ?_).2.2; exact (by (with_reducible repeat (first | apply Kd.R_alloc | apply Kd.R_drewN | apply Kd.R_drew)); exact (Kd.R_mono (Kd.R_far (p := ⟨gb285, 6, none⟩) (Kd.R_far (p := ⟨gb285, 5, none⟩) (Kd.R_far (p := ⟨gb285, 4, none⟩) (Kd.R_far (p := ⟨gb285, 3, none⟩) (Kd.R_far (p := ⟨gb285, 2, none⟩) (Kd.R_far (p := ⟨gb285, 1, none⟩) (Kd.R_far (p := ⟨gb285, 0, none⟩) (Kd.R_types HO283.out BK285.out (by decide)) (fun _ hk => hk.2) (.slice none 0 0)) (fun _ hk => hk.2) (.int .i64 a0_0)) (fun _ hk => hk.2) (.int .i64 a0_1)) (fun _ hk => hk.2) (.slice none 0 0)) (fun _ hk => hk.2) (.slice none 0 0)) (fun _ hk => hk.2) (.slice Ao21 t281.length co21)) (fun _ hk => hk.2) (.slice none 0 0)) (fun _ h_ => h_.1)))); (case side2 => exact (Kd.R_reads' HO283.out).2.1); rintro e w37 ⟨rfl, hb⟩; refine ⟨_, rfl, ?_⟩; have n0_ := Aside0.mk (Kd.R_below (by (with_reducible repeat (first | apply Kd.R_alloc | apply Kd.R_drewN | apply Kd.R_drew)); exact (Kd.R_mono (Kd.R_far (p := ⟨gb285, 6, none⟩) (Kd.R_far (p := ⟨gb285, 5, none⟩) (Kd.R_far (p := ⟨gb285, 4, none⟩) (Kd.R_far (p := ⟨gb285, 3, none⟩) (Kd.R_far (p := ⟨gb285, 2, none⟩) (Kd.R_far (p := ⟨gb285, 1, none⟩) (Kd.R_far (p := ⟨gb285, 0, none⟩) (Kd.R_types HO283.out BK285.out (by decide)) (fun _ hk => hk.2) (.slice none 0 0)) (fun _ hk => hk.2) (.int .i64 a0_0)) (fun _ hk => hk.2) (.int .i64 a0_1)) (fun _ hk => hk.2) (.slice none 0 0)) (fun _ hk => hk.2) (.slice none 0 0)) (fun _ hk => hk.2) (.slice Ao21 t281.length co21)) (fun _ hk => hk.2) (.slice none 0 0)) (fun _ h_ => h_.1))) hb); have n1_ := Aside0.mk (blk_below (g := gb279) (o := .cells #[.int .i64 a0_0, .int .i64 a0_1] 23 (0, 0)) (by (with_reducible repeat (first | refine blk_drewN ?_ _ | refine blk_drew ?_ | refine blk_alloc ?_ _)); refine blk_far ?_ NB279_285.out _; (with_reducible repeat (first | refine blk_drewN ?_ _ | refine blk_drew ?_ | refine blk_alloc ?_ _)); refine blk_far ?_ NB279_285.out _; (with_reducible repeat (first | refine blk_drewN ?_ _ | refine blk_drew ?_ | refine blk_alloc ?_ _)); refine blk_far ?_ NB279_285.out _; (with_reducible repeat (first | refine blk_drewN ?_ _ | refine blk_drew ?_ | refine blk_alloc ?_ _)); refine blk_far ?_ NB279_285.out _; (with_reducible repeat (first | refine blk_drewN ?_ _ | refine blk_drew ?_ | refine blk_alloc ?_ _)); refine blk_far ?_ NB279_285.out _; (with_reducible repeat (first | refine blk_drewN ?_ _ | refine blk_drew ?_ | refine blk_alloc ?_ _)); refine blk_far ?_ NB279_285.out _; (with_reducible repeat (first | refine blk_drewN ?_ _ | refine blk_drew ?_ | refine blk_alloc ?_ _)); refine blk_far ?_ NB279_285.out _; (with_reducible repeat (first | refine blk_drewN ?_ _ | refine blk_drew ?_ | refine blk_alloc ?_ _)); exact BK279.out) hb); have n2_ := Aside0.mk (blk_below (g := gb285) (o := .cells #[.slice none 0 0, .int .i64 a0_0, .int .i64 a0_1, .slice none 0 0, .slice none 0 0, .slice Ao21 t281.length co21, .slice none 0 0] 40 (0, 0)) (by (with_reducible repeat (first | refine blk_drewN ?_ _ | refine blk_drew ?_ | refine blk_alloc ?_ _)); refine blk_put (cs := #[.slice none 0 0, .int .i64 a0_0, .int .i64 a0_1, .slice none 0 0, .slice none 0 0, .slice Ao21 t281.length co21, .slice none 0 0]) ?_ 6 _ rfl; (with_reducible repeat (first | refine blk_drewN ?_ _ | refine blk_drew ?_ | refine blk_alloc ?_ _)); refine blk_put (cs := #[.slice none 0 0, .int .i64 a0_0, .int .i64 a0_1, .slice none 0 0, .slice none 0 0, .slice none 0 0, .slice none 0 0]) ?_ 5 _ rfl; (with_reducible repeat (first | refine blk_drewN ?_ _ | refine blk_drew ?_ | refine blk_alloc ?_ _)); refine blk_put (cs := #[.slice none 0 0, .int .i64 a0_0, .int .i64 a0_1, .slice none 0 0, .slice none 0 0, .slice none 0 0, .slice none 0 0]) ?_ 4 _ rfl; (with_reducible repeat (first | refine blk_drewN ?_ _ | refine blk_drew ?_ | refine blk_alloc ?_ _)); refine blk_put (cs := #[.slice none 0 0, .int .i64 a0_0, .int .i64 a0_1, .slice none 0 0, .slice none 0 0, .slice none 0 0, .slice none 0 0]) ?_ 3 _ rfl; (with_reducible repeat (first | refine blk_drewN ?_ _ | refine blk_drew ?_ | refine blk_alloc ?_ _)); refine blk_put (cs := #[.slice none 0 0, .int .i64 a0_0, .int .i64 0, .slice none 0 0, .slice none 0 0, .slice none 0 0, .slice none 0 0]) ?_ 2 _ rfl; (with_reducible repeat (first | refine blk_drewN ?_ _ | refine blk_drew ?_ | refine blk_alloc ?_ _)); refine blk_put (cs := #[.slice none 0 0, .int .i64 0, .int .i64 0, .slice none 0 0, .slice none 0 0, .slice none 0 0, .slice none 0 0]) ?_ 1 _ rfl; (with_reducible repeat (first | refine blk_drewN ?_ _ | refine blk_drew ?_ | refine blk_alloc ?_ _)); refine blk_put (cs := #[.slice none 0 0, .int .i64 0, .int .i64 0, .slice none 0 0, .slice none 0 0, .slice none 0 0, .slice none 0 0]) ?_ 0 _ rfl; (with_reducible repeat (first | refine blk_drewN ?_ _ | refine blk_drew ?_ | refine blk_alloc ?_ _)); exact BK285.out) hb); have n3_ := Aside0.mk (below_step (by repeat (first | (with_reducible first | exact HB.out | apply below_alloc | apply pw_below_drewN | apply below_drew1 | refine below_set ?_ GE279.out | refine below_set ?_ GE285.out) | exact HB.out)) hb); clear HO283; clear BK279; clear BK285; clear HB; have HO283 := n0_; have BK279 := n1_; have BK285 := n2_; have HB := n3_; clear n0_ n1_ n2_ n3_; (try clear hb); (try clear hb2); (try clear hk); (try clear hi)) | (go_at_call 21; (with_reducible refine (allocation_Join.calls kj4 _ _ t281 t287 _ ?side1 ?side2 A27.out).mono ?_); (case side1 => repeat (first | exact (Kd.R_reads' HO283.out).2.2 | (with_reducible refine Kd.C_alloc ?_ _) | (with_reducible refine Kd.C_drewN ?_ _) | (with_reducible refine Kd.C_drew ?_))); (case side2 => exact (Kd.R_reads' HO283.out).2.1); rintro e w38 ⟨v288, rfl, ho0, hb⟩; have n0_ := Aside0.mk (Kd.R_elder' (by (with_reducible repeat (first | apply Kd.R_alloc | apply Kd.R_drewN | apply Kd.R_drew)); exact HO283.out) (Kd.R_base ho0) hb); have n1_ := Aside0.mk (Kd.R_lower (Kd.R_new' ho0 (Kd.R_lt (by (with_reducible repeat (first | apply Kd.R_alloc | apply Kd.R_drewN | apply Kd.R_drew)); exact HO283.out))) (below_size (by repeat (first | (with_reducible first | exact HB.out | apply below_alloc | apply pw_below_drewN | apply below_drew1 | refine below_set ?_ GE279.out | refine below_set ?_ GE285.out) | exact HB.out)))); have n2_ := Aside0.mk (blk_below (g := gb279) (o := .cells #[.int .i64 a0_0, .int .i64 a0_1] 23 (0, 0)) (by (with_reducible repeat (first | refine blk_drewN ?_ _ | refine blk_drew ?_ | refine blk_alloc ?_ _)); exact BK279.out) hb); have n3_ := Aside0.mk (blk_below (g := gb285) (o := .cells #[.slice none 0 0, .int .i64 a0_0, .int .i64 a0_1, .slice none 0 0, .slice none 0 0, .slice Ao21 t281.length co21, .slice none 0 0] 40 (0, 0)) (by (with_reducible repeat (first | refine blk_drewN ?_ _ | refine blk_drew ?_ | refine blk_alloc ?_ _)); exact BK285.out) hb); have n4_ := Aside0.mk (below_step (by repeat (first | (with_reducible first | exact HB.out | apply below_alloc | apply pw_below_drewN | apply below_drew1 | refine below_set ?_ GE279.out | refine below_set ?_ GE285.out) | exact HB.out)) hb); clear HO283; clear BK279; clear BK285; clear HB; have HO283 := n0_; have HO289 := n1_; have BK279 := n2_; have BK285 := n3_; have HB := n4_; clear n0_ n1_ n2_ n3_ n4_; (try clear hb); (try clear hb2); (try clear hk); (try clear hi); (try clear ho0); obtain ⟨Ao39, co39, eo39⟩ := Kd.R_slice HO289.out; subst eo39) | (go_at_call 14; (with_reducible refine (slices_Equal_api_Extent.calls kj4 _ _ t287 _ _ t281 false _ ?side1 ?side2 ?side3 ?side4 A28.out).mono ?_); (case side1 => repeat (first | exact (Kd.R_reads' HO289.out).2.2 | (with_reducible refine Kd.C_alloc ?_ _) | (with_reducible refine Kd.C_drewN ?_ _) | (with_reducible refine Kd.C_drew ?_))); (case side2 => exact (Kd.R_reads' HO289.out).2.1); (case side3 => repeat (first | exact (Kd.R_reads' HO283.out).2.2 | (with_reducible refine Kd.C_alloc ?_ _) | (with_reducible refine Kd.C_drewN ?_ _) | (with_reducible refine Kd.C_drew ?_))); (case side4 => exact (Kd.R_reads' HO283.out).2.1); rintro e w' ⟨rfl, ⟨nd, rfl⟩⟩))
                  go_meet
                  case rel => exact ⟨_, (true), (by first | rfl | (simp; done) | (simp [*]; done)), H', ⟨by have := HJ4.out; first | omega | exact Nat.le_refl _⟩, ⟨by (with_reducible repeat (first | apply Kd.R_alloc | apply Kd.R_drewN | apply Kd.R_drew)); exact Kd.R_mono HO283.out (fun _ hk => trivial)⟩, ⟨by (with_reducible repeat (first | apply Kd.R_alloc | apply Kd.R_drewN | apply Kd.R_drew)); exact Kd.R_mono HO283.out (fun _ hk => trivial)⟩, ⟨by (with_reducible repeat (first | refine blk_drewN ?_ _ | refine blk_drew ?_ | refine blk_alloc ?_ _)); exact BK279.out⟩, ⟨by (with_reducible repeat (first | refine blk_drewN ?_ _ | refine blk_drew ?_ | refine blk_alloc ?_ _)); exact BK285.out⟩, ⟨by repeat (first | (with_reducible first | exact HB.out | apply below_alloc | apply pw_below_drewN | apply below_drew1 | refine below_set ?_ GE279.out | refine below_set ?_ GE285.out) | exact HB.out)⟩⟩
              · rw [if_neg c26] at H
                have c26b0 : (t286 == (wrap64 ((l1.length : Int) * 2048))) = false := beq_eq_false_iff_ne.mpr c26
                have c26b1 : (t286 != (wrap64 ((l1.length : Int) * 2048))) = true := bne_iff_ne.mpr c26
                (first | rw [c26b0] | (simp only [i64_w, i32_w]; rw [c26b0]) | skip)
                have H' := Aside0.mk H
                clear H
                go_wp2_with (first | ((with_reducible refine gate_callee (f := 20) rfl ?_); refine goesL_ (some 51) rfl rfl Try.func20 (by kernel_rfl) rfl #[.slice Ao21 t281.length co21] rfl (by (try simp only [List.map_toArray, List.map_cons, List.map_nil]); first | done | rfl | (simp only [List.length_drop, List.length_take]; rfl)) ?_; (with_reducible refine (allocation_Length.calls kj4 _ _ t281 t286 _ ?side1 ?side2 A25.out).mono ?_); (case side1 => refine (Kd.R_reads' (e := 35) (base := w.heap.size) (ok := fun k_ => True) (n := t281.length) (c := co21) ?_).2.2; exact (by (with_reducible repeat (first | apply Kd.R_alloc | apply Kd.R_drewN | apply Kd.R_drew)); exact (Kd.R_mono (Kd.R_far (p := ⟨gb285, 6, none⟩) (Kd.R_far (p := ⟨gb285, 5, none⟩) (Kd.R_far (p := ⟨gb285, 4, none⟩) (Kd.R_far (p := ⟨gb285, 3, none⟩) (Kd.R_far (p := ⟨gb285, 2, none⟩) (Kd.R_far (p := ⟨gb285, 1, none⟩) (Kd.R_far (p := ⟨gb285, 0, none⟩) (Kd.R_types HO283.out BK285.out (by decide)) (fun _ hk => hk.2) (.slice none 0 0)) (fun _ hk => hk.2) (.int .i64 a0_0)) (fun _ hk => hk.2) (.int .i64 a0_1)) (fun _ hk => hk.2) (.slice none 0 0)) (fun _ hk => hk.2) (.slice none 0 0)) (fun _ hk => hk.2) (.slice Ao21 t281.length co21)) (fun _ hk => hk.2) (.slice none 0 0)) (fun _ h_ => h_.1)))); (case side2 => exact (Kd.R_reads' HO283.out).2.1); rintro e w40 ⟨rfl, hb⟩; refine ⟨_, rfl, ?_⟩; have n0_ := Aside0.mk (Kd.R_below (by (with_reducible repeat (first | apply Kd.R_alloc | apply Kd.R_drewN | apply Kd.R_drew)); exact (Kd.R_mono (Kd.R_far (p := ⟨gb285, 6, none⟩) (Kd.R_far (p := ⟨gb285, 5, none⟩) (Kd.R_far (p := ⟨gb285, 4, none⟩) (Kd.R_far (p := ⟨gb285, 3, none⟩) (Kd.R_far (p := ⟨gb285, 2, none⟩) (Kd.R_far (p := ⟨gb285, 1, none⟩) (Kd.R_far (p := ⟨gb285, 0, none⟩) (Kd.R_types HO283.out BK285.out (by decide)) (fun _ hk => hk.2) (.slice none 0 0)) (fun _ hk => hk.2) (.int .i64 a0_0)) (fun _ hk => hk.2) (.int .i64 a0_1)) (fun _ hk => hk.2) (.slice none 0 0)) (fun _ hk => hk.2) (.slice none 0 0)) (fun _ hk => hk.2) (.slice Ao21 t281.length co21)) (fun _ hk => hk.2) (.slice none 0 0)) (fun _ h_ => h_.1))) hb); have n1_ := Aside0.mk (blk_below (g := gb279) (o := .cells #[.int .i64 a0_0, .int .i64 a0_1] 23 (0, 0)) (by (with_reducible repeat (first | refine blk_drewN ?_ _ | refine blk_drew ?_ | refine blk_alloc ?_ _)); refine blk_far ?_ NB279_285.out _; (with_reducible repeat (first | refine blk_drewN ?_ _ | refine blk_drew ?_ | refine blk_alloc ?_ _)); refine blk_far ?_ NB279_285.out _; (with_reducible repeat (first | refine blk_drewN ?_ _ | refine blk_drew ?_ | refine blk_alloc ?_ _)); refine blk_far ?_ NB279_285.out _; (with_reducible repeat (first | refine blk_drewN ?_ _ | refine blk_drew ?_ | refine blk_alloc ?_ _)); refine blk_far ?_ NB279_285.out _; (with_reducible repeat (first | refine blk_drewN ?_ _ | refine blk_drew ?_ | refine blk_alloc ?_ _)); refine blk_far ?_ NB279_285.out _; (with_reducible repeat (first | refine blk_drewN ?_ _ | refine blk_drew ?_ | refine blk_alloc ?_ _)); refine blk_far ?_ NB279_285.out _; (with_reducible repeat (first | refine blk_drewN ?_ _ | refine blk_drew ?_ | refine blk_alloc ?_ _)); refine blk_far ?_ NB279_285.out _; (with_reducible repeat (first | refine blk_drewN ?_ _ | refine blk_drew ?_ | refine blk_alloc ?_ _)); exact BK279.out) hb); have n2_ := Aside0.mk (blk_below (g := gb285) (o := .cells #[.slice none 0 0, .int .i64 a0_0, .int .i64 a0_1, .slice none 0 0, .slice none 0 0, .slice Ao21 t281.length co21, .slice none 0 0] 40 (0, 0)) (by (with_reducible repeat (first | refine blk_drewN ?_ _ | refine blk_drew ?_ | refine blk_alloc ?_ _)); refine blk_put (cs := #[.slice none 0 0, .int .i64 a0_0, .int .i64 a0_1, .slice none 0 0, .slice none 0 0, .slice Ao21 t281.length co21, .slice none 0 0]) ?_ 6 _ rfl; (with_reducible repeat (first | refine blk_drewN ?_ _ | refine blk_drew ?_ | refine blk_alloc ?_ _)); refine blk_put (cs := #[.slice none 0 0, .int .i64 a0_0, .int .i64 a0_1, .slice none 0 0, .slice none 0 0, .slice none 0 0, .slice none 0 0]) ?_ 5 _ rfl; (with_reducible repeat (first | refine blk_drewN ?_ _ | refine blk_drew ?_ | refine blk_alloc ?_ _)); refine blk_put (cs := #[.slice none 0 0, .int .i64 a0_0, .int .i64 a0_1, .slice none 0 0, .slice none 0 0, .slice none 0 0, .slice none 0 0]) ?_ 4 _ rfl; (with_reducible repeat (first | refine blk_drewN ?_ _ | refine blk_drew ?_ | refine blk_alloc ?_ _)); refine blk_put (cs := #[.slice none 0 0, .int .i64 a0_0, .int .i64 a0_1, .slice none 0 0, .slice none 0 0, .slice none 0 0, .slice none 0 0]) ?_ 3 _ rfl; (with_reducible repeat (first | refine blk_drewN ?_ _ | refine blk_drew ?_ | refine blk_alloc ?_ _)); refine blk_put (cs := #[.slice none 0 0, .int .i64 a0_0, .int .i64 0, .slice none 0 0, .slice none 0 0, .slice none 0 0, .slice none 0 0]) ?_ 2 _ rfl; (with_reducible repeat (first | refine blk_drewN ?_ _ | refine blk_drew ?_ | refine blk_alloc ?_ _)); refine blk_put (cs := #[.slice none 0 0, .int .i64 0, .int .i64 0, .slice none 0 0, .slice none 0 0, .slice none 0 0, .slice none 0 0]) ?_ 1 _ rfl; (with_reducible repeat (first | refine blk_drewN ?_ _ | refine blk_drew ?_ | refine blk_alloc ?_ _)); refine blk_put (cs := #[.slice none 0 0, .int .i64 0, .int .i64 0, .slice none 0 0, .slice none 0 0, .slice none 0 0, .slice none 0 0]) ?_ 0 _ rfl; (with_reducible repeat (first | refine blk_drewN ?_ _ | refine blk_drew ?_ | refine blk_alloc ?_ _)); exact BK285.out) hb); have n3_ := Aside0.mk (below_step (by repeat (first | (with_reducible first | exact HB.out | apply below_alloc | apply pw_below_drewN | apply below_drew1 | refine below_set ?_ GE279.out | refine below_set ?_ GE285.out) | exact HB.out)) hb); clear HO283; clear BK279; clear BK285; clear HB; have HO283 := n0_; have BK279 := n1_; have BK285 := n2_; have HB := n3_; clear n0_ n1_ n2_ n3_; (try clear hb); (try clear hb2); (try clear hk); (try clear hi)))
                go_meet
                case rel => exact ⟨_, (true), (by first | rfl | (simp; done) | (simp [*]; done)), H', ⟨by have := HJ4.out; first | omega | exact Nat.le_refl _⟩, ⟨by (with_reducible repeat (first | apply Kd.R_alloc | apply Kd.R_drewN | apply Kd.R_drew)); exact HO283.out⟩, ⟨by (with_reducible repeat (first | apply Kd.R_alloc | apply Kd.R_drewN | apply Kd.R_drew)); exact HO283.out⟩, ⟨by (with_reducible repeat (first | refine blk_drewN ?_ _ | refine blk_drew ?_ | refine blk_alloc ?_ _)); exact BK279.out⟩, ⟨by (with_reducible repeat (first | refine blk_drewN ?_ _ | refine blk_drew ?_ | refine blk_alloc ?_ _)); exact BK285.out⟩, ⟨by repeat (first | (with_reducible first | exact HB.out | apply below_alloc | apply pw_below_drewN | apply below_drew1 | refine below_set ?_ GE279.out | refine below_set ?_ GE285.out) | exact HB.out)⟩⟩
            case rest =>
              clear HC17
              try clear c1
              try clear c2
              try clear p2
              try clear c3
              try clear c4
              try clear c5
              try clear p6
              try clear c8
              try clear c8b0
              try clear c8b1
              try clear c9
              try clear c9b0
              try clear c10
              try clear c11
              try clear c11b0
              try clear c14
              try clear c16
              try clear c16b0
              try clear c16b1
              try clear c20
              try clear c23
              try clear c26
              try clear c26b0
              try clear c26b1
              try clear c29
              try clear c34
              try clear hcz10_0
              try clear hcz10_1
              try clear hcz12_0
              try clear hcz12_1
              try clear hcz13_0
              try clear hcz13_1
              try clear hcz18_0
              try clear hcz18_1
              try clear hcz20_0
              try clear hcz20_1
              try clear hcz24_0
              try clear hcz24_1
              try clear hcz24_2
              try clear hcz24_3
              try clear hcz24_4
              try clear hcz24_5
              try clear hcz24_6
              try clear hcz35_0
              try clear hcz35_1
              try clear hcz35_2
              try clear hcz35_3
              try clear hcz35_4
              try clear hcz35_5
              try clear hcz35_6
              try clear hfz10_0
              try clear hfz10_1
              try clear hfz12_0
              try clear hfz12_1
              try clear hfz13_0
              try clear hfz13_1
              try clear hfz18_0
              try clear hfz18_1
              try clear hfz20_0
              try clear hfz20_1
              try clear hfz24_0
              try clear hfz24_1
              try clear hfz24_2
              try clear hfz24_3
              try clear hfz24_4
              try clear hfz24_5
              try clear hfz24_6
              try clear hfz35_0
              try clear hfz35_1
              try clear hfz35_2
              try clear hfz35_3
              try clear hfz35_4
              try clear hfz35_5
              try clear hfz35_6
              try clear p2
              obtain ⟨kq, x69_16, rfl, HA, HJ16, HO_5, HO_286005, BK279, BK285, HB⟩ := hcut
              cases kq with
              | zero => exact absurd HA.out (by simp [masterdisclaw40_MetadataOrder.j1])
              | succ kj16 =>
                have H := HA.out
                clear HA
                simp only [masterdisclaw40_MetadataOrder.j1] at H
                by_cases c41 : x69_16 = true
                · subst c41
                  have H1 : (some false) = some r := by rw [if_pos rfl] at H; exact H
                  clear H
                  have H := H1
                  clear H1
                  exact absurd ((Option.some.inj H).trans htr.out) (by decide)
                · replace c41 := Bool.eq_false_iff.mpr c41
                  subst c41
                  have H1 : (masterdisclaw40_MetadataOrder.l0 kj16 t281 l1 (l1.length : Int) 0 a0_0 a0_1 a0_0 a0_1 t281) = some r := by rw [if_neg (show ¬ (false = true) by decide)] at H; exact H
                  clear H
                  have H := H1
                  clear H1
                  have H' := Aside0.mk H
                  clear H
                  go_wp2
                  go_loopg [72] kj16 (fun kq v72 w' => ∃ (x72_3 : Int), v72 = .int .i64 x72_3 ∧ Aside0 (masterdisclaw40_MetadataOrder.l0 kq t281 l1 (l1.length : Int) x72_3 a0_0 a0_1 a0_0 a0_1 t281 = some r) ∧ Aside0 (kq ≤ kj16) ∧ Aside0 (Kd.R k35 35 w' w.heap.size (fun _ => True) (.slice Ao21 t281.length co21) t281) ∧ Aside0 (Kd.R k35 35 w' w.heap.size (fun _ => True) (.slice Ao21 t281.length co21) t281) ∧ Aside0 (w'.heap[gb279]? = some (.cells #[.int .i64 a0_0, .int .i64 a0_1] 23 (0, 0))) ∧ Aside0 (w'.heap[gb285]? = some (.cells #[(.slice none 0 0), .int .i64 a0_0, .int .i64 a0_1, (.slice none 0 0), (.slice none 0 0), (.slice Ao21 t281.length co21), (.slice none 0 0)] 40 (0, 0))) ∧ Aside0 (Below w.heap.size w w'))
                  case atStart => exact ⟨(0), (by first | rfl | (simp; done) | (simp [*]; done)), H', ⟨Nat.le_refl _⟩, ⟨by (with_reducible repeat (first | apply Kd.R_alloc | apply Kd.R_drewN | apply Kd.R_drew)); exact HO_5.out⟩, ⟨by (with_reducible repeat (first | apply Kd.R_alloc | apply Kd.R_drewN | apply Kd.R_drew)); exact HO_286005.out⟩, ⟨by (with_reducible repeat (first | refine blk_drewN ?_ _ | refine blk_drew ?_ | refine blk_alloc ?_ _)); exact BK279.out⟩, ⟨by (with_reducible repeat (first | refine blk_drewN ?_ _ | refine blk_drew ?_ | refine blk_alloc ?_ _)); exact BK285.out⟩, ⟨by repeat (first | (with_reducible first | exact HB.out | apply below_alloc | apply pw_below_drewN | apply below_drew1 | refine below_set ?_ GE279.out | refine below_set ?_ GE285.out) | exact HB.out)⟩⟩
                  case round =>
                    clear H'
                    try clear c1
                    try clear c2
                    try clear p2
                    try clear c3
                    try clear c4
                    try clear c5
                    try clear p6
                    try clear c8
                    try clear c8b0
                    try clear c8b1
                    try clear c9
                    try clear c9b0
                    try clear c10
                    try clear c11
                    try clear c11b0
                    try clear c14
                    try clear c16
                    try clear c16b0
                    try clear c16b1
                    try clear c20
                    try clear c23
                    try clear c26
                    try clear c26b0
                    try clear c26b1
                    try clear c29
                    try clear c34
                    try clear c41
                    try clear hcz10_0
                    try clear hcz10_1
                    try clear hcz12_0
                    try clear hcz12_1
                    try clear hcz13_0
                    try clear hcz13_1
                    try clear hcz18_0
                    try clear hcz18_1
                    try clear hcz20_0
                    try clear hcz20_1
                    try clear hcz24_0
                    try clear hcz24_1
                    try clear hcz24_2
                    try clear hcz24_3
                    try clear hcz24_4
                    try clear hcz24_5
                    try clear hcz24_6
                    try clear hcz35_0
                    try clear hcz35_1
                    try clear hcz35_2
                    try clear hcz35_3
                    try clear hcz35_4
                    try clear hcz35_5
                    try clear hcz35_6
                    try clear hfz10_0
                    try clear hfz10_1
                    try clear hfz12_0
                    try clear hfz12_1
                    try clear hfz13_0
                    try clear hfz13_1
                    try clear hfz18_0
                    try clear hfz18_1
                    try clear hfz20_0
                    try clear hfz20_1
                    try clear hfz24_0
                    try clear hfz24_1
                    try clear hfz24_2
                    try clear hfz24_3
                    try clear hfz24_4
                    try clear hfz24_5
                    try clear hfz24_6
                    try clear hfz35_0
                    try clear hfz35_1
                    try clear hfz35_2
                    try clear hfz35_3
                    try clear hfz35_4
                    try clear hfz35_5
                    try clear hfz35_6
                    try clear p2
                    try clear p6
                    obtain ⟨x72_3, rfl, HA, HK3, HO_5, HO_286005, BK279, BK285, HB⟩ := hrel
                    cases gk with
                    | zero => exact absurd HA.out (by simp [masterdisclaw40_MetadataOrder.l0])
                    | succ k3 =>
                      have H := HA.out
                      clear HA
                      simp only [masterdisclaw40_MetadataOrder.l0] at H
                      by_cases c42 : x72_3 < (l1.length : Int)
                      · rw [if_pos c42] at H
                        have c42b0 : decide (x72_3 < (l1.length : Int)) = true := decide_eq_true c42
                        clear c42
                        by_cases c43 : 0 ≤ x72_3
                        · rw [if_pos c43] at H
                          have c43b0 : decide (0 ≤ x72_3) = true := decide_eq_true c43
                          clear c43
                          by_cases c44 : x72_3 < (l1.length : Int)
                          · rw [if_pos c44] at H
                            have c44b0 : decide (x72_3 < (l1.length : Int)) = true := decide_eq_true c44
                            clear c44
                            replace H := Option.bind_eq_some_iff.mp H
                            obtain ⟨⟨t293, t294, t295, t296⟩, A450, H⟩ := H
                            replace H : ((metadata_Locations.f k3 ([] : List (S96)) a0_0 a0_1 ([] : List Int) ([] : List (S98)) t281 ([] : List (S35)) x72_3).bind fun bt298 => (if t296 = 0 then (if t295 = 0 then (if (wrap64 (t293 + a0_0)) = (rd l1 x72_3) then (if bt298.2.2 = 0 then (if bt298.1 = (rd l1 x72_3) then (if bt298.2.1 = (-1) then (masterdisclaw40_MetadataOrder.l0 k3 t281 l1 (l1.length : Int) (wrap64 (x72_3 + 1)) a0_0 a0_1 a0_0 a0_1 t281) else (some false)) else (some false)) else (some false)) else (some false)) else (some false)) else (some false))) = some r := H
                            have A45 := Aside0.mk A450
                            clear A450
                            replace H := Option.bind_eq_some_iff.mp H
                            obtain ⟨⟨t298, t299, t300⟩, A460, H⟩ := H
                            replace H : (if t296 = 0 then (if t295 = 0 then (if (wrap64 (t293 + a0_0)) = (rd l1 x72_3) then (if t300 = 0 then (if t298 = (rd l1 x72_3) then (if t299 = (-1) then (masterdisclaw40_MetadataOrder.l0 k3 t281 l1 (l1.length : Int) (wrap64 (x72_3 + 1)) a0_0 a0_1 a0_0 a0_1 t281) else (some false)) else (some false)) else (some false)) else (some false)) else (some false)) else (some false)) = some r := H
                            have A46 := Aside0.mk A460
                            clear A460
                            by_cases c47 : t296 = 0
                            · rw [if_pos c47] at H
                              have c47b0 : (t296 == 0) = true := beq_iff_eq.mpr c47
                              have c47b1 : (t296 != 0) = false := bne_eq_false_iff_eq.mpr c47
                              clear c47
                              by_cases c48 : t295 = 0
                              · rw [if_pos c48] at H
                                have c48b0 : (t295 == 0) = true := beq_iff_eq.mpr c48
                                have c48b1 : (t295 != 0) = false := bne_eq_false_iff_eq.mpr c48
                                clear c48
                                by_cases c49 : (wrap64 (t293 + a0_0)) = (rd l1 x72_3)
                                · rw [if_pos c49] at H
                                  have c49b0 : ((wrap64 (t293 + a0_0)) == (rd l1 x72_3)) = true := beq_iff_eq.mpr c49
                                  have c49b1 : ((wrap64 (t293 + a0_0)) != (rd l1 x72_3)) = false := bne_eq_false_iff_eq.mpr c49
                                  clear c49
                                  by_cases c50 : t300 = 0
                                  · rw [if_pos c50] at H
                                    have c50b0 : (t300 == 0) = true := beq_iff_eq.mpr c50
                                    have c50b1 : (t300 != 0) = false := bne_eq_false_iff_eq.mpr c50
                                    clear c50
                                    by_cases c51 : t298 = (rd l1 x72_3)
                                    · rw [if_pos c51] at H
                                      have c51b0 : (t298 == (rd l1 x72_3)) = true := beq_iff_eq.mpr c51
                                      have c51b1 : (t298 != (rd l1 x72_3)) = false := bne_eq_false_iff_eq.mpr c51
                                      clear c51
                                      by_cases c52 : t299 = (-1)
                                      · rw [if_pos c52] at H
                                        have c52b0 : (t299 == (-1)) = true := beq_iff_eq.mpr c52
                                        have c52b1 : (t299 != (-1)) = false := bne_eq_false_iff_eq.mpr c52
                                        clear c52
                                        have H' := Aside0.mk H
                                        clear H
                                        have p292 : 0 ≤ (x72_3 : Int) := of_decide_eq_true (by first | (with_reducible assumption) | assumption)
                                        have q292 : x72_3 < (l1.length : Int) := of_decide_eq_true (by first | (with_reducible assumption) | assumption)
                                        obtain ⟨ad292, e292, hx292_0⟩ := Kd.at_int HR1.out x72_3 p292 q292
                                        cases e292
                                        replace hx292_0 := (HB.out.cell (World.block_lt_of_cell? w _ hx292_0)).trans hx292_0
                                        replace p292 := eq_true p292
                                        replace q292 := eq_true q292
                                        go_wp2_with (first | ((with_reducible refine gate_callee (f := 22) rfl ?_); refine goesL_ (some 80) rfl rfl Try.func22 (by kernel_rfl) rfl #[.slice Ao21 t281.length co21, .int .i64 x72_3] rfl (by (try simp only [List.map_toArray, List.map_cons, List.map_nil]); first | done | rfl | (simp only [List.length_drop, List.length_take]; rfl)) ?_; (with_reducible refine (allocation_Locate.calls k3 _ _ t281 x72_3 t293 t294 t295 t296 _ ?side1 ?side2 A45.out).mono ?_); (case side1 => repeat (first | exact (Kd.R_reads' HO_5.out).2.2 | (with_reducible refine Kd.C_alloc ?_ _) | (with_reducible refine Kd.C_drewN ?_ _) | (with_reducible refine Kd.C_drew ?_))); (case side2 => exact (Kd.R_reads' HO_5.out).2.1); rintro e w53 ⟨rfl, hb⟩; refine ⟨_, rfl, ?_⟩; have n0_ := Aside0.mk (Kd.R_below (by (with_reducible repeat (first | apply Kd.R_alloc | apply Kd.R_drewN | apply Kd.R_drew)); exact HO_5.out) hb); have n1_ := Aside0.mk (Kd.R_below (by (with_reducible repeat (first | apply Kd.R_alloc | apply Kd.R_drewN | apply Kd.R_drew)); exact HO_286005.out) hb); have n2_ := Aside0.mk (blk_below (g := gb279) (o := .cells #[.int .i64 a0_0, .int .i64 a0_1] 23 (0, 0)) (by (with_reducible repeat (first | refine blk_drewN ?_ _ | refine blk_drew ?_ | refine blk_alloc ?_ _)); exact BK279.out) hb); have n3_ := Aside0.mk (blk_below (g := gb285) (o := .cells #[.slice none 0 0, .int .i64 a0_0, .int .i64 a0_1, .slice none 0 0, .slice none 0 0, .slice Ao21 t281.length co21, .slice none 0 0] 40 (0, 0)) (by (with_reducible repeat (first | refine blk_drewN ?_ _ | refine blk_drew ?_ | refine blk_alloc ?_ _)); exact BK285.out) hb); have n4_ := Aside0.mk (below_step (by repeat (first | (with_reducible first | exact HB.out | apply below_alloc | apply pw_below_drewN | apply below_drew1 | refine below_set ?_ GE279.out | refine below_set ?_ GE285.out) | exact HB.out)) hb); clear HO_5; clear HO_286005; clear BK279; clear BK285; clear HB; have HO_5 := n0_; have HO_286005 := n1_; have BK279 := n2_; have BK285 := n3_; have HB := n4_; clear n0_ n1_ n2_ n3_ n4_; (try clear hb); (try clear hb2); (try clear hk); (try clear hi)) | ((with_reducible refine gate_dst (N := 10) rfl ?_); (try (refine gate_guard (by rfl) ?_; dsimp only)); refine box_event ?hg (N := 10) ?hd (cs := #[.int .i64 0, .int .i64 0]) (t := 33) ?hr ?_; (case hd => rfl); (case hg => rfl); (case hr => first | (go_simp; done) | (go_simp; rfl)); intro gb297 hg w54 hbox hb; have n0_ := Aside0.mk (Kd.R_below (by (with_reducible repeat (first | apply Kd.R_alloc | apply Kd.R_drewN | apply Kd.R_drew)); exact HO_5.out) hb); have n1_ := Aside0.mk (Kd.R_below (by (with_reducible repeat (first | apply Kd.R_alloc | apply Kd.R_drewN | apply Kd.R_drew)); exact HO_286005.out) hb); have n2_ := Aside0.mk (blk_below (g := gb279) (o := .cells #[.int .i64 a0_0, .int .i64 a0_1] 23 (0, 0)) (by (with_reducible repeat (first | refine blk_drewN ?_ _ | refine blk_drew ?_ | refine blk_alloc ?_ _)); exact BK279.out) hb); have n3_ := Aside0.mk (blk_below (g := gb285) (o := .cells #[.slice none 0 0, .int .i64 a0_0, .int .i64 a0_1, .slice none 0 0, .slice none 0 0, .slice Ao21 t281.length co21, .slice none 0 0] 40 (0, 0)) (by (with_reducible repeat (first | refine blk_drewN ?_ _ | refine blk_drew ?_ | refine blk_alloc ?_ _)); exact BK285.out) hb); have n4_ := Aside0.mk (below_step (by repeat (first | (with_reducible first | exact HB.out | apply below_alloc | apply pw_below_drewN | apply below_drew1 | refine below_set ?_ GE279.out | refine below_set ?_ GE285.out) | exact HB.out)) hb); have n5_ := Aside0.mk (hbox); have n6_ := Aside0.mk ((by rw [hg]; exact (below_size (by repeat (first | (with_reducible first | exact HB.out | apply below_alloc | apply pw_below_drewN | apply below_drew1 | refine below_set ?_ GE279.out | refine below_set ?_ GE285.out) | exact HB.out))) : w.heap.size ≤ gb297)); have n7_ := Aside0.mk ((by rw [hg]; exact (below_size (by repeat (first | (with_reducible first | exact HB.out | apply below_alloc | apply pw_below_drewN | apply below_drew1 | refine below_set ?_ GE279.out | refine below_set ?_ GE285.out) | exact HB.out))) : w.heap.size ≤ gb297)); have n8_ := Aside0.mk ((by rw [hg]; exact Nat.ne_of_lt (blk_lt (g := gb279) (o := .cells #[.int .i64 a0_0, .int .i64 a0_1] 23 (0, 0)) (by (with_reducible repeat (first | refine blk_drewN ?_ _ | refine blk_drew ?_ | refine blk_alloc ?_ _)); exact BK279.out)) : gb279 ≠ gb297)); have n9_ := Aside0.mk ((by rw [hg]; exact Nat.ne_of_gt (blk_lt (g := gb279) (o := .cells #[.int .i64 a0_0, .int .i64 a0_1] 23 (0, 0)) (by (with_reducible repeat (first | refine blk_drewN ?_ _ | refine blk_drew ?_ | refine blk_alloc ?_ _)); exact BK279.out)) : gb297 ≠ gb279)); have n10_ := Aside0.mk ((by rw [hg]; exact Nat.ne_of_lt (blk_lt (g := gb285) (o := .cells #[.slice none 0 0, .int .i64 a0_0, .int .i64 a0_1, .slice none 0 0, .slice none 0 0, .slice Ao21 t281.length co21, .slice none 0 0] 40 (0, 0)) (by (with_reducible repeat (first | refine blk_drewN ?_ _ | refine blk_drew ?_ | refine blk_alloc ?_ _)); exact BK285.out)) : gb285 ≠ gb297)); have n11_ := Aside0.mk ((by rw [hg]; exact Nat.ne_of_gt (blk_lt (g := gb285) (o := .cells #[.slice none 0 0, .int .i64 a0_0, .int .i64 a0_1, .slice none 0 0, .slice none 0 0, .slice Ao21 t281.length co21, .slice none 0 0] 40 (0, 0)) (by (with_reducible repeat (first | refine blk_drewN ?_ _ | refine blk_drew ?_ | refine blk_alloc ?_ _)); exact BK285.out)) : gb297 ≠ gb285)); clear HO_5; clear HO_286005; clear BK279; clear BK285; clear HB; have HO_5 := n0_; have HO_286005 := n1_; have BK279 := n2_; have BK285 := n3_; have HB := n4_; have BK297 := n5_; have GW297 := n6_; have GE297 := n7_; have NB279_297 := n8_; have NB297_279 := n9_; have NB285_297 := n10_; have NB297_285 := n11_; clear n0_ n1_ n2_ n3_ n4_ n5_ n6_ n7_ n8_ n9_ n10_ n11_; clear hb hbox hg; have hnb55 := NB297_279.out; have hnc55 := NB279_297.out; have hnb56 := NB297_285.out; have hnc56 := NB285_297.out; have hcz57_0 : w54.cell? ⟨gb297, 0, none⟩ = some (.int .i64 0) := (blk_cell BK297.out 0).trans rfl; have hcz57_1 : w54.cell? ⟨gb297, 1, none⟩ = some (.int .i64 0) := (blk_cell BK297.out 1).trans rfl; have hfz57_0 := blk_frozen BK297.out 0; have hfz57_1 := blk_frozen BK297.out 1; have hnb58 := NB285_279.out; have hnc58 := NB279_285.out; have hcz59_0 : w54.cell? ⟨gb285, 0, none⟩ = some (.slice none 0 0) := (blk_cell BK285.out 0).trans rfl; have hcz59_1 : w54.cell? ⟨gb285, 1, none⟩ = some (.int .i64 a0_0) := (blk_cell BK285.out 1).trans rfl; have hcz59_2 : w54.cell? ⟨gb285, 2, none⟩ = some (.int .i64 a0_1) := (blk_cell BK285.out 2).trans rfl; have hcz59_3 : w54.cell? ⟨gb285, 3, none⟩ = some (.slice none 0 0) := (blk_cell BK285.out 3).trans rfl; have hcz59_4 : w54.cell? ⟨gb285, 4, none⟩ = some (.slice none 0 0) := (blk_cell BK285.out 4).trans rfl; have hcz59_5 : w54.cell? ⟨gb285, 5, none⟩ = some (.slice Ao21 t281.length co21) := (blk_cell BK285.out 5).trans rfl; have hcz59_6 : w54.cell? ⟨gb285, 6, none⟩ = some (.slice none 0 0) := (blk_cell BK285.out 6).trans rfl; have hfz59_0 := blk_frozen BK285.out 0; have hfz59_1 := blk_frozen BK285.out 1; have hfz59_2 := blk_frozen BK285.out 2; have hfz59_3 := blk_frozen BK285.out 3; have hfz59_4 := blk_frozen BK285.out 4; have hfz59_5 := blk_frozen BK285.out 5; have hfz59_6 := blk_frozen BK285.out 6) | ((with_reducible refine gate_callee (f := 16) rfl ?_); refine goesL_ (some 87) rfl rfl Try.func16 (by kernel_rfl) rfl #[.agg #[.slice none 0 0, .int .i64 a0_0, .int .i64 a0_1, .slice none 0 0, .slice none 0 0, .slice Ao21 t281.length co21, .slice none 0 0], .int .i64 x72_3] rfl (by (try simp only [List.map_toArray, List.map_cons, List.map_nil]); first | done | rfl | (simp only [List.length_drop, List.length_take]; rfl)) ?_; (refine (metadata_Locations.calls k3 _ _ ([] : List (S96)) a0_0 a0_1 _ _ ([] : List Int) _ _ ([] : List (S98)) _ _ t281 _ _ ([] : List (S35)) x72_3 t298 t299 t300 _ ?side1 ?side2 ?side3 ?side4 ?side5 ?side6 ?side7 ?side8 ?side9 ?side10 A46.out).mono ?_); (case side1 => exact Kd.C_nil _ _); (case side2 => exact Nat.le_refl _); (case side3 => exact Kd.C_nil _ _); (case side4 => exact Nat.le_refl _); (case side5 => exact Kd.C_nil _ _); (case side6 => exact Nat.le_refl _); (case side7 => refine (Kd.R_reads' (e := 35) (base := w.heap.size) (ok := fun k_ => True) (n := t281.length) (c := co21) ?_).2.2; exact (by (with_reducible repeat (first | apply Kd.R_alloc | apply Kd.R_drewN | apply Kd.R_drew)); exact (Kd.R_mono (Kd.R_far (p := ⟨gb297, 1, none⟩) (Kd.R_far (p := ⟨gb297, 0, none⟩) (Kd.R_types HO_286005.out BK297.out (by decide)) (fun _ hk => hk.2) (.int .i64 t293)) (fun _ hk => hk.2) (.int .i64 t294)) (fun _ h_ => h_.1)))); (case side8 => exact (Kd.R_reads' HO_286005.out).2.1); (case side9 => exact Kd.C_nil _ _); (case side10 => exact Nat.le_refl _); rintro e w60 ⟨rfl, hb⟩; refine ⟨_, rfl, ?_⟩; have n0_ := Aside0.mk (Kd.R_below (by (with_reducible repeat (first | apply Kd.R_alloc | apply Kd.R_drewN | apply Kd.R_drew)); exact (Kd.R_mono (Kd.R_far (p := ⟨gb297, 1, none⟩) (Kd.R_far (p := ⟨gb297, 0, none⟩) (Kd.R_types HO_5.out BK297.out (by decide)) (fun _ hk => hk.2) (.int .i64 t293)) (fun _ hk => hk.2) (.int .i64 t294)) (fun _ h_ => h_.1))) hb); have n1_ := Aside0.mk (Kd.R_below (by (with_reducible repeat (first | apply Kd.R_alloc | apply Kd.R_drewN | apply Kd.R_drew)); exact (Kd.R_mono (Kd.R_far (p := ⟨gb297, 1, none⟩) (Kd.R_far (p := ⟨gb297, 0, none⟩) (Kd.R_types HO_286005.out BK297.out (by decide)) (fun _ hk => hk.2) (.int .i64 t293)) (fun _ hk => hk.2) (.int .i64 t294)) (fun _ h_ => h_.1))) hb); have n2_ := Aside0.mk (blk_below (g := gb279) (o := .cells #[.int .i64 a0_0, .int .i64 a0_1] 23 (0, 0)) (by (with_reducible repeat (first | refine blk_drewN ?_ _ | refine blk_drew ?_ | refine blk_alloc ?_ _)); refine blk_far ?_ NB279_297.out _; (with_reducible repeat (first | refine blk_drewN ?_ _ | refine blk_drew ?_ | refine blk_alloc ?_ _)); refine blk_far ?_ NB279_297.out _; (with_reducible repeat (first | refine blk_drewN ?_ _ | refine blk_drew ?_ | refine blk_alloc ?_ _)); exact BK279.out) hb); have n3_ := Aside0.mk (blk_below (g := gb285) (o := .cells #[.slice none 0 0, .int .i64 a0_0, .int .i64 a0_1, .slice none 0 0, .slice none 0 0, .slice Ao21 t281.length co21, .slice none 0 0] 40 (0, 0)) (by (with_reducible repeat (first | refine blk_drewN ?_ _ | refine blk_drew ?_ | refine blk_alloc ?_ _)); refine blk_far ?_ NB285_297.out _; (with_reducible repeat (first | refine blk_drewN ?_ _ | refine blk_drew ?_ | refine blk_alloc ?_ _)); refine blk_far ?_ NB285_297.out _; (with_reducible repeat (first | refine blk_drewN ?_ _ | refine blk_drew ?_ | refine blk_alloc ?_ _)); exact BK285.out) hb); have n4_ := Aside0.mk (blk_below (g := gb297) (o := .cells #[.int .i64 t293, .int .i64 t294] 33 (0, 0)) (by (with_reducible repeat (first | refine blk_drewN ?_ _ | refine blk_drew ?_ | refine blk_alloc ?_ _)); refine blk_put (cs := #[.int .i64 t293, .int .i64 0]) ?_ 1 _ rfl; (with_reducible repeat (first | refine blk_drewN ?_ _ | refine blk_drew ?_ | refine blk_alloc ?_ _)); refine blk_put (cs := #[.int .i64 0, .int .i64 0]) ?_ 0 _ rfl; (with_reducible repeat (first | refine blk_drewN ?_ _ | refine blk_drew ?_ | refine blk_alloc ?_ _)); exact BK297.out) hb); have n5_ := Aside0.mk (below_step (by repeat (first | (with_reducible first | exact HB.out | apply below_alloc | apply pw_below_drewN | apply below_drew1 | refine below_set ?_ GE279.out | refine below_set ?_ GE285.out | refine below_set ?_ GE297.out) | exact HB.out)) hb); clear HO_5; clear HO_286005; clear BK279; clear BK285; clear BK297; clear HB; have HO_5 := n0_; have HO_286005 := n1_; have BK279 := n2_; have BK285 := n3_; have BK297 := n4_; have HB := n5_; clear n0_ n1_ n2_ n3_ n4_ n5_; (try clear hb); (try clear hb2); (try clear hk); (try clear hi); have hcz61_0 : w60.cell? ⟨gb297, 0, none⟩ = some (.int .i64 t293) := (blk_cell BK297.out 0).trans rfl; have hcz61_1 : w60.cell? ⟨gb297, 1, none⟩ = some (.int .i64 t294) := (blk_cell BK297.out 1).trans rfl; have hfz61_0 := blk_frozen BK297.out 0; have hfz61_1 := blk_frozen BK297.out 1; have hcz62_0 : w60.cell? ⟨gb279, 0, none⟩ = some (.int .i64 a0_0) := (blk_cell BK279.out 0).trans rfl; have hcz62_1 : w60.cell? ⟨gb279, 1, none⟩ = some (.int .i64 a0_1) := (blk_cell BK279.out 1).trans rfl; have hfz62_0 := blk_frozen BK279.out 0; have hfz62_1 := blk_frozen BK279.out 1))
                                        go_roundg k3
                                        case measure => have := HJ4.out; have := HJ16.out; have := HK3.out; omega
                                        case rel => exact ⟨(wrap64 (x72_3 + 1)), (by first | rfl | (simp; done) | (simp [*]; done)), H', ⟨by have := HJ4.out; have := HJ16.out; have := HK3.out; omega⟩, ⟨by (with_reducible repeat (first | apply Kd.R_alloc | apply Kd.R_drewN | apply Kd.R_drew)); exact HO_5.out⟩, ⟨by (with_reducible repeat (first | apply Kd.R_alloc | apply Kd.R_drewN | apply Kd.R_drew)); exact HO_286005.out⟩, ⟨by (with_reducible repeat (first | refine blk_drewN ?_ _ | refine blk_drew ?_ | refine blk_alloc ?_ _)); exact BK279.out⟩, ⟨by (with_reducible repeat (first | refine blk_drewN ?_ _ | refine blk_drew ?_ | refine blk_alloc ?_ _)); exact BK285.out⟩, ⟨by repeat (first | (with_reducible first | exact HB.out | apply below_alloc | apply pw_below_drewN | apply below_drew1 | refine below_set ?_ GE279.out | refine below_set ?_ GE285.out | refine below_set ?_ GE297.out) | exact HB.out)⟩⟩
                                      · rw [if_neg c52] at H
                                        have c52b0 : (t299 == (-1)) = false := beq_eq_false_iff_ne.mpr c52
                                        have c52b1 : (t299 != (-1)) = true := bne_iff_ne.mpr c52
                                        exact absurd ((Option.some.inj H).trans htr.out) (by decide)
                                    · rw [if_neg c51] at H
                                      have c51b0 : (t298 == (rd l1 x72_3)) = false := beq_eq_false_iff_ne.mpr c51
                                      have c51b1 : (t298 != (rd l1 x72_3)) = true := bne_iff_ne.mpr c51
                                      exact absurd ((Option.some.inj H).trans htr.out) (by decide)
                                  · rw [if_neg c50] at H
                                    have c50b0 : (t300 == 0) = false := beq_eq_false_iff_ne.mpr c50
                                    have c50b1 : (t300 != 0) = true := bne_iff_ne.mpr c50
                                    exact absurd ((Option.some.inj H).trans htr.out) (by decide)
                                · rw [if_neg c49] at H
                                  have c49b0 : ((wrap64 (t293 + a0_0)) == (rd l1 x72_3)) = false := beq_eq_false_iff_ne.mpr c49
                                  have c49b1 : ((wrap64 (t293 + a0_0)) != (rd l1 x72_3)) = true := bne_iff_ne.mpr c49
                                  exact absurd ((Option.some.inj H).trans htr.out) (by decide)
                              · rw [if_neg c48] at H
                                have c48b0 : (t295 == 0) = false := beq_eq_false_iff_ne.mpr c48
                                have c48b1 : (t295 != 0) = true := bne_iff_ne.mpr c48
                                exact absurd ((Option.some.inj H).trans htr.out) (by decide)
                            · rw [if_neg c47] at H
                              have c47b0 : (t296 == 0) = false := beq_eq_false_iff_ne.mpr c47
                              have c47b1 : (t296 != 0) = true := bne_iff_ne.mpr c47
                              exact absurd ((Option.some.inj H).trans htr.out) (by decide)
                          · rw [if_neg c44] at H
                            exact absurd H (by simp)
                        · rw [if_neg c43] at H
                          exact absurd H (by simp)
                      · rw [if_neg c42] at H
                        have c42b0 : decide (x72_3 < (l1.length : Int)) = false := decide_eq_false c42
                        clear c42
                        obtain rfl := Option.some.inj H
                        go_wp2
                        go_ret
                        exact ⟨by first | rfl | (simp [errW_none, errW_some] <;> rfl) | (simp [*, errW_none, errW_some] <;> rfl), by repeat (first | (with_reducible first | exact HB.out | apply below_alloc | apply pw_below_drewN | apply below_drew1 | refine below_set ?_ GE279.out | refine below_set ?_ GE285.out) | exact HB.out)⟩
          · rw [if_neg c16] at H
            have c16b0 : (t284 == 0) = false := beq_eq_false_iff_ne.mpr c16
            have c16b1 : (t284 != 0) = true := bne_iff_ne.mpr c16
            obtain rfl := Option.some.inj H
            have hcz63_0 : wc.cell? ⟨gb279, 0, none⟩ = some (.int .i64 a0_0) := (blk_cell BK279.out 0).trans rfl
            have hcz63_1 : wc.cell? ⟨gb279, 1, none⟩ = some (.int .i64 a0_1) := (blk_cell BK279.out 1).trans rfl
            have hfz63_0 := blk_frozen BK279.out 0
            have hfz63_1 := blk_frozen BK279.out 1
            go_wp2_with (first | ((with_reducible refine gate_callee (f := 10) rfl ?_); refine goesL_ (some 39) rfl rfl Try.func10 (by kernel_rfl) rfl #[.agg #[.int .i64 a0_0, .int .i64 a0_1], .slice A1 l1.length c1] rfl (by (try simp only [List.map_toArray, List.map_cons, List.map_nil]); first | done | rfl | (simp only [List.length_drop, List.length_take]; rfl)) ?_; (with_reducible refine (metadata_Extents.calls kj4 a0_0 a0_1 _ _ l1 t281 t284 _ ?side1 ?side2 A15.out).mono ?_); (case side1 => repeat (first | exact (Kd.C_below HR1.out HB.out) | (with_reducible refine Kd.C_alloc ?_ _) | (with_reducible refine Kd.C_drewN ?_ _) | (with_reducible refine Kd.C_drew ?_))); (case side2 => exact HC1.out); rintro e w64 ⟨v282, rfl, ho0, hb⟩; refine ⟨_, rfl, ?_⟩; have n0_ := Aside0.mk (Kd.R_lower ho0 (below_size (by repeat (first | (with_reducible first | exact HB.out | apply below_alloc | apply pw_below_drewN | apply below_drew1 | refine below_set ?_ GE279.out) | exact HB.out)))); have n1_ := Aside0.mk (blk_below (g := gb279) (o := .cells #[.int .i64 a0_0, .int .i64 a0_1] 23 (0, 0)) (by (with_reducible repeat (first | refine blk_drewN ?_ _ | refine blk_drew ?_ | refine blk_alloc ?_ _)); exact BK279.out) hb); have n2_ := Aside0.mk (below_step (by repeat (first | (with_reducible first | exact HB.out | apply below_alloc | apply pw_below_drewN | apply below_drew1 | refine below_set ?_ GE279.out) | exact HB.out)) hb); clear BK279; clear HB; have HO283 := n0_; have BK279 := n1_; have HB := n2_; clear n0_ n1_ n2_; (try clear hb); (try clear hb2); (try clear hk); (try clear hi); (try clear ho0); obtain ⟨Ao65, co65, eo65⟩ := Kd.R_slice HO283.out; subst eo65))
            go_ret
            exact ⟨by first | rfl | (simp [errW_none, errW_some] <;> rfl) | (simp [*, errW_none, errW_some] <;> rfl), by repeat (first | (with_reducible first | exact HB.out | apply below_alloc | apply pw_below_drewN | apply below_drew1 | refine below_set ?_ GE279.out) | exact HB.out)⟩
  · replace c4 := Bool.eq_false_iff.mpr c4
    subst c4
    have H1 : (some false) = some r := by rw [if_neg (show ¬ (false = true) by decide)] at H; exact H
    clear H
    have H := H1
    clear H1
    exact absurd ((Option.some.inj H).trans htr.out) (by decide)

/-- The pure statement of masterdisclaw40_MetadataOrder. -/
def masterdisclaw40_MetadataOrder.Pure : Prop := ∀ (x0 : S23) (x1 : List Int), (((Lit.int .i64 x0.f0).wf = true) ∧ ((Lit.int .i64 x0.f1).wf = true)) → (x1.length * 8 ≤ 140737488351232 ∧ ∀ z ∈ x1, (Lit.int .i64 z).wf = true) → ∃ k, masterdisclaw40_MetadataOrder.f k x0.f0 x0.f1 x1 = some true

end Go.Proofs.Yticmghpnbjhhnaa.M
