/- Lean functions with the answers of the Go functions that they are named after, and the walks that tie the Go functions to them (written by the program mp.py of this session). -/
import Derived.Test.YticmghpnbjhhnaaM0
import Derived.Test.YticmghpnbjhhnaaM4
namespace Go.Proofs.Yticmghpnbjhhnaa.M
open Go.RowKit Go.Proofs.YticmghpnbjhhnaaW.PrintWords Go.Proofs.YticmghpnbjhhnaaW.PrintLast Go.Proofs.YticmghpnbjhhnaaW.PrintMore
attribute [local go_sem] max2_int min2_int max_two min_two max_three min_three max_four min_four   -- for this text's walks alone
set_option linter.unusedVariables false
set_option linter.unusedSimpArgs false

/-! ### metadata_Extents: function 10 -/
mutual
def metadata_Extents.l0 : Nat → List (S35) → List Int → Int → Int → Int → Int → Option ((List (S35)) × Int)
  | 0, _, _, _, _, _, _ => none
  | k + 1, x6, x12, x13, x14, x123000, x123001 => if x14 < x13 then (if 0 ≤ x14 then (if x14 < (x12.length : Int) then (if (rd x12 x14) < x123000 then (metadata_Extents.j1 k x6 (rd x12 x14) x12 x13 x14 true x123000 x123001) else (metadata_Extents.j1 k x6 (rd x12 x14) x12 x13 x14 (decide ((wrap64 ((rd x12 x14) - x123000)) ≥ x123001)) x123000 x123001)) else (none)) else (none)) else (if (x6.length : Int) > 64 then (some (([] : List (S35)), 7)) else (some (x6, 0)))
def metadata_Extents.j1 : Nat → List (S35) → Int → List Int → Int → Int → Bool → Int → Int → Option ((List (S35)) × Int)
  | 0, _, _, _, _, _, _, _, _ => none
  | k + 1, x6, x8, x12, x13, x14, x30, x123000, x123001 => if x30 = true then (some (([] : List (S35)), 2)) else (if (x6.length : Int) > 0 then (if 0 ≤ (wrap64 ((x6.length : Int) - 1)) then (if (wrap64 ((x6.length : Int) - 1)) < (x6.length : Int) then ((allocation_Join.f k (([(⟨(rd_T35 x6 (wrap64 ((x6.length : Int) - 1))).f0, (rd_T35 x6 (wrap64 ((x6.length : Int) - 1))).f1, (⟨(rd_T35 x6 (wrap64 ((x6.length : Int) - 1))).f2.f0, (rd_T35 x6 (wrap64 ((x6.length : Int) - 1))).f2.f1⟩ : S33)⟩ : S35), (⟨0, 2048, (⟨wrap64 (x8 - x123000), 0⟩ : S33)⟩ : S35)] : List (S35)))).bind fun t129 => (if (t129.length : Int) = 1 then (if 0 < (t129.length : Int) then (metadata_Extents.l0 k (x6.set ((wrap64 ((x6.length : Int) - 1)) : Int).toNat (⟨(rd_T35 t129 0).f0, (rd_T35 t129 0).f1, (⟨(rd_T35 t129 0).f2.f0, (rd_T35 t129 0).f2.f1⟩ : S33)⟩ : S35)) x12 x13 (wrap64 (x14 + 1)) x123000 x123001) else (none)) else (if x6.length < 4398046511104 then (metadata_Extents.l0 k (x6 ++ [(⟨0, 2048, (⟨wrap64 (x8 - x123000), 0⟩ : S33)⟩ : S35)]) x12 x13 (wrap64 (x14 + 1)) x123000 x123001) else (none)))) else (none)) else (none)) else (if x6.length < 4398046511104 then (metadata_Extents.l0 k (x6 ++ [(⟨0, 2048, (⟨wrap64 (x8 - x123000), 0⟩ : S33)⟩ : S35)]) x12 x13 (wrap64 (x14 + 1)) x123000 x123001) else (none)))
end
def metadata_Extents.f (k : Nat) (a0_0 : Int) (a0_1 : Int) (l1 : List Int) : Option ((List (S35)) × Int) := metadata_Extents.l0 k ([] : List (S35)) l1 (l1.length : Int) 0 a0_0 a0_1
theorem metadata_Extents.mono_l : ∀ k, (∀ y0 y1 y2 y3 y4 y5, LeO (metadata_Extents.l0 k y0 y1 y2 y3 y4 y5) (metadata_Extents.l0 (k + 1) y0 y1 y2 y3 y4 y5)) ∧ (∀ y0 y1 y2 y3 y4 y5 y6 y7, LeO (metadata_Extents.j1 k y0 y1 y2 y3 y4 y5 y6 y7) (metadata_Extents.j1 (k + 1) y0 y1 y2 y3 y4 y5 y6 y7))
  | 0 => ⟨fun _ _ _ _ _ _ r h => by simp [metadata_Extents.l0] at h, fun _ _ _ _ _ _ _ _ r h => by simp [metadata_Extents.j1] at h⟩
  | k + 1 => by
    obtain ⟨ih0, ih1⟩ := metadata_Extents.mono_l k
    refine ⟨?_, ?_⟩
    · intro y0 y1 y2 y3 y4 y5
      unfold metadata_Extents.l0
      repeat' first
      | (with_reducible exact ih0 _ _ _ _ _ _)
      | (with_reducible exact ih1 _ _ _ _ _ _ _ _)
      | (with_reducible exact allocation_Join.mono _ _)
      | (with_reducible exact LeO.refl _)
      | (with_reducible exact LeO.none _)
      | (with_reducible refine LeO.ite ?_ ?_)
      | (with_reducible refine LeO.bind ?_ (fun _ => ?_))
      | exact ih0 _ _ _ _ _ _
      | exact ih1 _ _ _ _ _ _ _ _
      | exact allocation_Join.mono _ _
      | exact LeO.none _
      | refine LeO.ite ?_ ?_
      | refine LeO.bind ?_ (fun _ => ?_)
    · intro y0 y1 y2 y3 y4 y5 y6 y7
      unfold metadata_Extents.j1
      repeat' first
      | (with_reducible exact ih0 _ _ _ _ _ _)
      | (with_reducible exact ih1 _ _ _ _ _ _ _ _)
      | (with_reducible exact allocation_Join.mono _ _)
      | (with_reducible exact LeO.refl _)
      | (with_reducible exact LeO.none _)
      | (with_reducible refine LeO.ite ?_ ?_)
      | (with_reducible refine LeO.bind ?_ (fun _ => ?_))
      | exact ih0 _ _ _ _ _ _
      | exact ih1 _ _ _ _ _ _ _ _
      | exact allocation_Join.mono _ _
      | exact LeO.none _
      | refine LeO.ite ?_ ?_
      | refine LeO.bind ?_ (fun _ => ?_)
theorem metadata_Extents.mono : ∀ a0 a1 a2 k, LeO (metadata_Extents.f k a0 a1 a2) (metadata_Extents.f (k + 1) a0 a1 a2) := by
  intro a0 a1 a2 k
  obtain ⟨ih0, ih1⟩ := metadata_Extents.mono_l k
  unfold metadata_Extents.f
  repeat' first
      | (with_reducible exact ih0 _ _ _ _ _ _)
      | (with_reducible exact ih1 _ _ _ _ _ _ _ _)
      | (with_reducible exact allocation_Join.mono _ _)
      | (with_reducible exact LeO.refl _)
      | (with_reducible exact LeO.none _)
      | (with_reducible refine LeO.ite ?_ ?_)
      | (with_reducible refine LeO.bind ?_ (fun _ => ?_))
      | exact ih0 _ _ _ _ _ _
      | exact ih1 _ _ _ _ _ _ _ _
      | exact allocation_Join.mono _ _
      | exact LeO.none _
      | refine LeO.ite ?_ ?_
      | refine LeO.bind ?_ (fun _ => ?_)
def metadata_Extents.T10 : Bool × List (List Nat × List Nat) := (true, [([], []), ([], []), ([1], [1]), ([0, 2], [0, 2]), ([3], [3]), ([], []), ([4, 5], [4, 5]), ([6], [6]), ([7, 7, 0, 1, 2, 3, 4, 5, 6, 7], [7])])
def metadata_Extents.B10 : List Nat := [0, 0, 2, 7, 15, 0, 63, 127, 255]
theorem metadata_Extents.tab10 : rtab .any (opsOf Try.f10 10) = metadata_Extents.T10 := by kernel_rfl
theorem metadata_Extents.bits10 : waitsOk metadata_Extents.T10.2 metadata_Extents.B10 = true := by kernel_rfl
set_option maxHeartbeats 8000000 in
set_option maxRecDepth 100000 in
theorem metadata_Extents.calls (k : Nat) (a0_0 : Int) (a0_1 : Int) (A1 : Option Addr) (c1 : Nat) (l1 : List Int) (r1 : List (S35)) (r2 : Int) (w : World) (hr1 : Kd.C (Kd.int .i64) w A1 l1.length l1) (hc1 : l1.length ≤ c1) (h : metadata_Extents.f k a0_0 a0_1 l1 = some (r1, r2)) :
    Calls Try.prog 10 #[.agg #[.int .i64 a0_0, .int .i64 a0_1], .slice A1 l1.length c1] w fun e w' => ∃ v0_ : Value, e = .returned (.tuple #[v0_, .int .i64 r2]) ∧ Kd.R k35 35 w' w.heap.size (fun _ => True) v0_ r1 ∧ Below w.heap.size w w' := by
  have hu23 := Try.underlying23
  have hu33 := Try.underlying33
  have hu35 := Try.underlying35
  have HR1 := Aside0.mk hr1
  have HC1 := Aside0.mk hc1
  clear hr1 hc1
  have HB := Aside0.mk (Below.refl w.heap.size w)
  have H : (metadata_Extents.l0 k ([] : List (S35)) l1 (l1.length : Int) 0 a0_0 a0_1) = some (r1, r2) := h
  clear h
  have H' := Aside0.mk H
  clear H
  go_enter Try.func10, Try.ntmps10
  go_wp2_with (first | ((with_reducible refine gate_dst (N := 2) rfl ?_); refine box_event ?hg (N := 2) ?hd (cs := #[.int .i64 a0_0, .int .i64 a0_1]) (t := 23) ?hr ?_; (case hd => rfl); (case hg => rfl); (case hr => first | (go_simp; done) | (go_simp; rfl)); intro gb122 hg w3 hbox hb; have n0_ := Aside0.mk (below_step (by repeat (first | (with_reducible first | exact HB.out | apply below_alloc | apply pw_below_drewN | apply below_drew1) | exact HB.out)) hb); have n1_ := Aside0.mk (hbox); have n2_ := Aside0.mk ((by rw [hg]; exact (below_size (by repeat (first | (with_reducible first | exact HB.out | apply below_alloc | apply pw_below_drewN | apply below_drew1) | exact HB.out))) : w.heap.size ≤ gb122)); have n3_ := Aside0.mk ((by rw [hg]; exact (below_size (by repeat (first | (with_reducible first | exact HB.out | apply below_alloc | apply pw_below_drewN | apply below_drew1) | exact HB.out))) : w.heap.size ≤ gb122)); clear HB; have HB := n0_; have BK122 := n1_; have GW122 := n2_; have GE122 := n3_; clear n0_ n1_ n2_ n3_; clear hb hbox hg))
  go_loopg [6, 14] k (fun kq v6 v14 w' => ∃ (x6_1 : List (S35)) (x14_1 : Int), v14 = .int .i64 x14_1 ∧ Aside0 (metadata_Extents.l0 kq x6_1 l1 (l1.length : Int) x14_1 a0_0 a0_1 = some (r1, r2)) ∧ Aside0 (kq ≤ k) ∧ Aside0 (Kd.R k35 35 w' w.heap.size (fun _ => True) v6 x6_1) ∧ Aside0 (w'.heap[gb122]? = some (.cells #[.int .i64 a0_0, .int .i64 a0_1] 23 (0, 0))) ∧ Aside0 (Below w.heap.size w w'))
  case atStart => exact ⟨(([] : List (S35))), (0), (by first | rfl | (simp; done) | (simp [*]; done)), H', ⟨Nat.le_refl _⟩, ⟨by first | exact Kd.R_nil _ _ _ _ _ | exact Kd.N_nil _ _ _ _ _ | exact Kd.V_nil _ _ _ _ _ | exact Kd.Q_nil _ _ _ _ _ | exact Kd.S_nil _ _ _ _ _⟩, ⟨by (with_reducible repeat (first | refine blk_drewN ?_ _ | refine blk_drew ?_ | refine blk_alloc ?_ _)); exact BK122.out⟩, ⟨by repeat (first | (with_reducible first | exact HB.out | apply below_alloc | apply pw_below_drewN | apply below_drew1 | refine below_set ?_ GE122.out) | exact HB.out)⟩⟩
  case round =>
    clear H'
    try clear c1
    try clear p2
    obtain ⟨x6_1, x14_1, rfl, HA, HK1, HO_6, BK122, HB⟩ := hrel
    cases gk with
    | zero => exact absurd HA.out (by simp [metadata_Extents.l0])
    | succ k1 =>
      have H := HA.out
      clear HA
      simp only [metadata_Extents.l0] at H
      by_cases c4 : x14_1 < (l1.length : Int)
      · rw [if_pos c4] at H
        have c4b0 : decide (x14_1 < (l1.length : Int)) = true := decide_eq_true c4
        clear c4
        by_cases c5 : 0 ≤ x14_1
        · rw [if_pos c5] at H
          have c5b0 : decide (0 ≤ x14_1) = true := decide_eq_true c5
          clear c5
          by_cases c6 : x14_1 < (l1.length : Int)
          · rw [if_pos c6] at H
            have c6b0 : decide (x14_1 < (l1.length : Int)) = true := decide_eq_true c6
            clear c6
            have HC7 := Aside0.mk H
            clear H
            have p123 : 0 ≤ (x14_1 : Int) := of_decide_eq_true (by first | (with_reducible assumption) | assumption)
            have q123 : x14_1 < (l1.length : Int) := of_decide_eq_true (by first | (with_reducible assumption) | assumption)
            obtain ⟨ad123, e123, hx123_0⟩ := Kd.at_int HR1.out x14_1 p123 q123
            cases e123
            replace hx123_0 := (HB.out.cell (World.block_lt_of_cell? w _ hx123_0)).trans hx123_0
            replace p123 := eq_true p123
            replace q123 := eq_true q123
            go_upto_region 5 with (fail)
            go_cut [30] (fun v30 wc => ∃ (kq : Nat) (x30_6 : Bool), v30 = .bool x30_6 ∧ Aside0 (metadata_Extents.j1 kq x6_1 (rd l1 x14_1) l1 (l1.length : Int) x14_1 x30_6 a0_0 a0_1 = some (r1, r2)) ∧ Aside0 (kq ≤ k1) ∧ Aside0 (Kd.R k35 35 wc w.heap.size (fun _ => True) u6 x6_1) ∧ Aside0 (wc.heap[gb122]? = some (.cells #[.int .i64 a0_0, .int .i64 a0_1] 23 (0, 0))) ∧ Aside0 (Below w.heap.size w wc))
            case first =>
              have H := HC7.out
              clear HC7
              by_cases c8 : (rd l1 x14_1) < a0_0
              · rw [if_pos c8] at H
                have c8b0 : decide ((rd l1 x14_1) < a0_0) = true := decide_eq_true c8
                clear c8
                (first | rw [c8b0] | (simp only [i64_w, i32_w]; rw [c8b0]) | skip)
                have H' := Aside0.mk H
                clear H
                have hcz9_0 : wr.cell? ⟨gb122, 0, none⟩ = some (.int .i64 a0_0) := (blk_cell BK122.out 0).trans rfl
                have hcz9_1 : wr.cell? ⟨gb122, 1, none⟩ = some (.int .i64 a0_1) := (blk_cell BK122.out 1).trans rfl
                have hfz9_0 := blk_frozen BK122.out 0
                have hfz9_1 := blk_frozen BK122.out 1
                go_wp2
                go_meet
                case rel => exact ⟨_, (true), (by first | rfl | (simp; done) | (simp [*]; done)), H', ⟨by have := HK1.out; first | omega | exact Nat.le_refl _⟩, ⟨by (with_reducible repeat (first | apply Kd.R_alloc | apply Kd.R_drewN | apply Kd.R_drew)); exact HO_6.out⟩, ⟨by (with_reducible repeat (first | refine blk_drewN ?_ _ | refine blk_drew ?_ | refine blk_alloc ?_ _)); exact BK122.out⟩, ⟨by repeat (first | (with_reducible first | exact HB.out | apply below_alloc | apply pw_below_drewN | apply below_drew1 | refine below_set ?_ GE122.out) | exact HB.out)⟩⟩
              · rw [if_neg c8] at H
                have c8b0 : decide ((rd l1 x14_1) < a0_0) = false := decide_eq_false c8
                clear c8
                (first | rw [c8b0] | (simp only [i64_w, i32_w]; rw [c8b0]) | skip)
                have H' := Aside0.mk H
                clear H
                have hcz10_0 : wr.cell? ⟨gb122, 0, none⟩ = some (.int .i64 a0_0) := (blk_cell BK122.out 0).trans rfl
                have hcz10_1 : wr.cell? ⟨gb122, 1, none⟩ = some (.int .i64 a0_1) := (blk_cell BK122.out 1).trans rfl
                have hfz10_0 := blk_frozen BK122.out 0
                have hfz10_1 := blk_frozen BK122.out 1
                go_wp2
                go_meet
                case rel => exact ⟨_, (decide ((wrap64 ((rd l1 x14_1) - a0_0)) ≥ a0_1)), (by first | rfl | (simp; done) | (simp [*]; done)), H', ⟨by have := HK1.out; first | omega | exact Nat.le_refl _⟩, ⟨by (with_reducible repeat (first | apply Kd.R_alloc | apply Kd.R_drewN | apply Kd.R_drew)); exact HO_6.out⟩, ⟨by (with_reducible repeat (first | refine blk_drewN ?_ _ | refine blk_drew ?_ | refine blk_alloc ?_ _)); exact BK122.out⟩, ⟨by repeat (first | (with_reducible first | exact HB.out | apply below_alloc | apply pw_below_drewN | apply below_drew1 | refine below_set ?_ GE122.out) | exact HB.out)⟩⟩
            case rest =>
              clear HC7
              try clear c1
              try clear p1
              try clear q1
              try clear hx1
              try clear p2
              try clear c4
              try clear c4b0
              try clear c5
              try clear c5b0
              try clear c6
              try clear c6b0
              try clear p6
              try clear c8
              try clear c8b0
              try clear c10
              try clear hcz10_0
              try clear hcz10_1
              try clear hcz9_0
              try clear hcz9_1
              try clear hfz10_0
              try clear hfz10_1
              try clear hfz9_0
              try clear hfz9_1
              try clear hx123_0
              try clear p123
              try clear p2
              try clear q123
              obtain ⟨kq, x30_6, rfl, HA, HJ6, HO_6, BK122, HB⟩ := hcut
              cases kq with
              | zero => exact absurd HA.out (by simp [metadata_Extents.j1])
              | succ kj6 =>
                have H := HA.out
                clear HA
                simp only [metadata_Extents.j1] at H
                by_cases c11 : x30_6 = true
                · subst c11
                  have H1 : (some (([] : List (S35)), 2)) = some (r1, r2) := by rw [if_pos rfl] at H; exact H
                  clear H
                  have H := H1
                  clear H1
                  simp only [Option.some.injEq, Prod.mk.injEq] at H
                  obtain ⟨rfl, rfl⟩ := H
                  go_wp2
                  go_ret2
                  exact ⟨_, by first | rfl | (simp [errW_none, errW_some] <;> rfl) | (simp [*, errW_none, errW_some] <;> rfl), by first | exact Kd.R_nil _ _ _ _ _ | exact Kd.N_nil _ _ _ _ _ | exact Kd.V_nil _ _ _ _ _ | exact Kd.Q_nil _ _ _ _ _ | exact Kd.S_nil _ _ _ _ _, by repeat (first | (with_reducible first | exact HB.out | apply below_alloc | apply pw_below_drewN | apply below_drew1 | refine below_set ?_ GE122.out) | exact HB.out)⟩
                · replace c11 := Bool.eq_false_iff.mpr c11
                  subst c11
                  have H1 : (if (x6_1.length : Int) > 0 then (if 0 ≤ (wrap64 ((x6_1.length : Int) - 1)) then (if (wrap64 ((x6_1.length : Int) - 1)) < (x6_1.length : Int) then ((allocation_Join.f kj6 (([(⟨(rd_T35 x6_1 (wrap64 ((x6_1.length : Int) - 1))).f0, (rd_T35 x6_1 (wrap64 ((x6_1.length : Int) - 1))).f1, (⟨(rd_T35 x6_1 (wrap64 ((x6_1.length : Int) - 1))).f2.f0, (rd_T35 x6_1 (wrap64 ((x6_1.length : Int) - 1))).f2.f1⟩ : S33)⟩ : S35), (⟨0, 2048, (⟨wrap64 ((rd l1 x14_1) - a0_0), 0⟩ : S33)⟩ : S35)] : List (S35)))).bind fun t129 => (if (t129.length : Int) = 1 then (if 0 < (t129.length : Int) then (metadata_Extents.l0 kj6 (x6_1.set ((wrap64 ((x6_1.length : Int) - 1)) : Int).toNat (⟨(rd_T35 t129 0).f0, (rd_T35 t129 0).f1, (⟨(rd_T35 t129 0).f2.f0, (rd_T35 t129 0).f2.f1⟩ : S33)⟩ : S35)) l1 (l1.length : Int) (wrap64 (x14_1 + 1)) a0_0 a0_1) else (none)) else (if x6_1.length < 4398046511104 then (metadata_Extents.l0 kj6 (x6_1 ++ [(⟨0, 2048, (⟨wrap64 ((rd l1 x14_1) - a0_0), 0⟩ : S33)⟩ : S35)]) l1 (l1.length : Int) (wrap64 (x14_1 + 1)) a0_0 a0_1) else (none)))) else (none)) else (none)) else (if x6_1.length < 4398046511104 then (metadata_Extents.l0 kj6 (x6_1 ++ [(⟨0, 2048, (⟨wrap64 ((rd l1 x14_1) - a0_0), 0⟩ : S33)⟩ : S35)]) l1 (l1.length : Int) (wrap64 (x14_1 + 1)) a0_0 a0_1) else (none))) = some (r1, r2) := by rw [if_neg (show ¬ (false = true) by decide)] at H; exact H
                  clear H
                  have H := H1
                  clear H1
                  by_cases c12 : (x6_1.length : Int) > 0
                  · rw [if_pos c12] at H
                    have c12b0 : decide (0 < (x6_1.length : Int)) = true := decide_eq_true c12
                    have c12b1 : decide (0 < x6_1.length) = true := decide_eq_true (by omega)
                    clear c12
                    obtain ⟨ji13, hji13⟩ : ∃ j_ : Int, (wrap64 ((x6_1.length : Int) - 1)) = j_ := ⟨_, rfl⟩
                    replace H : (if 0 ≤ (ji13) then (if (ji13) < (x6_1.length : Int) then ((allocation_Join.f kj6 (([(⟨(rd_T35 x6_1 (ji13)).f0, (rd_T35 x6_1 (ji13)).f1, (⟨(rd_T35 x6_1 (ji13)).f2.f0, (rd_T35 x6_1 (ji13)).f2.f1⟩ : S33)⟩ : S35), (⟨0, 2048, (⟨wrap64 ((rd l1 x14_1) - a0_0), 0⟩ : S33)⟩ : S35)] : List (S35)))).bind fun t129 => (if (t129.length : Int) = 1 then (if 0 < (t129.length : Int) then (metadata_Extents.l0 kj6 (x6_1.set ((ji13) : Int).toNat (⟨(rd_T35 t129 0).f0, (rd_T35 t129 0).f1, (⟨(rd_T35 t129 0).f2.f0, (rd_T35 t129 0).f2.f1⟩ : S33)⟩ : S35)) l1 (l1.length : Int) (wrap64 (x14_1 + 1)) a0_0 a0_1) else (none)) else (if x6_1.length < 4398046511104 then (metadata_Extents.l0 kj6 (x6_1 ++ [(⟨0, 2048, (⟨wrap64 ((rd l1 x14_1) - a0_0), 0⟩ : S33)⟩ : S35)]) l1 (l1.length : Int) (wrap64 (x14_1 + 1)) a0_0 a0_1) else (none)))) else (none)) else (none)) = some (r1, r2) := by first | (rw [hji13] at H; exact H) | (simp only [hji13] at H ⊢; exact H)
                    have hji13w : (IntKind.i64.wrap ((x6_1.length : Int) - 1)) = ji13 := (i64_w _).trans hji13
                    by_cases c14 : 0 ≤ (ji13)
                    · rw [if_pos c14] at H
                      have c14b0 : decide (0 ≤ (ji13)) = true := decide_eq_true c14
                      clear c14
                      by_cases c15 : (ji13) < (x6_1.length : Int)
                      · rw [if_pos c15] at H
                        have c15b0 : decide ((ji13) < (x6_1.length : Int)) = true := decide_eq_true c15
                        clear c15
                        obtain ⟨y126, hy126⟩ : ∃ y_ : List (S35), y_ = (([(⟨(rd_T35 x6_1 (ji13)).f0, (rd_T35 x6_1 (ji13)).f1, (⟨(rd_T35 x6_1 (ji13)).f2.f0, (rd_T35 x6_1 (ji13)).f2.f1⟩ : S33)⟩ : S35), (⟨0, 2048, (⟨wrap64 ((rd l1 x14_1) - a0_0), 0⟩ : S33)⟩ : S35)] : List (S35))) := ⟨_, rfl⟩
                        replace H : ((allocation_Join.f kj6 y126).bind fun t129 => (if (t129.length : Int) = 1 then (if 0 < (t129.length : Int) then (metadata_Extents.l0 kj6 (x6_1.set ((ji13) : Int).toNat (⟨(rd_T35 t129 0).f0, (rd_T35 t129 0).f1, (⟨(rd_T35 t129 0).f2.f0, (rd_T35 t129 0).f2.f1⟩ : S33)⟩ : S35)) l1 (l1.length : Int) (wrap64 (x14_1 + 1)) a0_0 a0_1) else (none)) else (if x6_1.length < 4398046511104 then (metadata_Extents.l0 kj6 (x6_1 ++ [(⟨0, 2048, (⟨wrap64 ((rd l1 x14_1) - a0_0), 0⟩ : S33)⟩ : S35)]) l1 (l1.length : Int) (wrap64 (x14_1 + 1)) a0_0 a0_1) else (none)))) = some (r1, r2) := by first | (rw [hy126]; with_reducible exact H) | (have H2_ := (Option.bind_some _ _).symm.trans H; rw [hy126]; with_reducible exact H2_) | (have H2_ := (Option.bind_some _ _).symm.trans H; with_reducible exact H2_) | with_reducible exact H | (rw [hy126]; exact H) | exact H
                        have Ny126 := Aside0.mk hy126
                        clear hy126
                        replace H := Option.bind_eq_some_iff.mp H
                        obtain ⟨t129, A160, H⟩ := H
                        replace H : (if (t129.length : Int) = 1 then (if 0 < (t129.length : Int) then (metadata_Extents.l0 kj6 (x6_1.set ((ji13) : Int).toNat (⟨(rd_T35 t129 0).f0, (rd_T35 t129 0).f1, (⟨(rd_T35 t129 0).f2.f0, (rd_T35 t129 0).f2.f1⟩ : S33)⟩ : S35)) l1 (l1.length : Int) (wrap64 (x14_1 + 1)) a0_0 a0_1) else (none)) else (if x6_1.length < 4398046511104 then (metadata_Extents.l0 kj6 (x6_1 ++ [(⟨0, 2048, (⟨wrap64 ((rd l1 x14_1) - a0_0), 0⟩ : S33)⟩ : S35)]) l1 (l1.length : Int) (wrap64 (x14_1 + 1)) a0_0 a0_1) else (none))) = some (r1, r2) := H
                        have A16 := Aside0.mk A160
                        clear A160
                        by_cases c17 : (t129.length : Int) = 1
                        · rw [if_pos c17] at H
                          have c17b0 : ((t129.length : Int) == 1) = true := beq_iff_eq.mpr c17
                          have c17b1 : ((t129.length : Int) != 1) = false := bne_eq_false_iff_eq.mpr c17
                          clear c17
                          by_cases c18 : 0 < (t129.length : Int)
                          · rw [if_pos c18] at H
                            have c18b0 : decide (0 < (t129.length : Int)) = true := decide_eq_true c18
                            have c18b1 : decide (0 < t129.length) = true := decide_eq_true (by omega)
                            clear c18
                            obtain ⟨y133, hy133⟩ : ∃ y_ : List (S35), y_ = (x6_1.set ((ji13) : Int).toNat (⟨(rd_T35 t129 0).f0, (rd_T35 t129 0).f1, (⟨(rd_T35 t129 0).f2.f0, (rd_T35 t129 0).f2.f1⟩ : S33)⟩ : S35)) := ⟨_, rfl⟩
                            replace H : (metadata_Extents.l0 kj6 y133 l1 (l1.length : Int) (wrap64 (x14_1 + 1)) a0_0 a0_1) = some (r1, r2) := by first | (rw [hy133]; with_reducible exact H) | (have H2_ := (Option.bind_some _ _).symm.trans H; rw [hy133]; with_reducible exact H2_) | (have H2_ := (Option.bind_some _ _).symm.trans H; with_reducible exact H2_) | with_reducible exact H | (rw [hy133]; exact H) | exact H
                            have Ny133 := Aside0.mk hy133
                            clear hy133
                            have H' := Aside0.mk H
                            clear H
                            have hcz20_0 : wc.cell? ⟨gb122, 0, none⟩ = some (.int .i64 a0_0) := (blk_cell BK122.out 0).trans rfl
                            have hcz20_1 : wc.cell? ⟨gb122, 1, none⟩ = some (.int .i64 a0_1) := (blk_cell BK122.out 1).trans rfl
                            have hfz20_0 := blk_frozen BK122.out 0
                            have hfz20_1 := blk_frozen BK122.out 1
                            try go_wp2_with (first | ((with_reducible refine gate_dst (N := 9) rfl ?_); refine box_event ?hg (N := 9) ?hd (cs := #[.int .i64 0, .int .i64 0, .int .i64 0, .int .i64 0]) (t := 35) ?hr ?_; (case hd => rfl); (case hg => rfl); (case hr => first | (go_simp; done) | (go_simp; rfl)); intro gb124 hg w21 hbox hb; have n0_ := Aside0.mk (Kd.R_below (Kd.R_elderB (by (with_reducible repeat (first | apply Kd.R_alloc | apply Kd.R_drewN | apply Kd.R_drew)); exact HO_6.out) gb124 (Nat.le_of_eq hg.symm)) hb); have n1_ := Aside0.mk (blk_below (g := gb122) (o := .cells #[.int .i64 a0_0, .int .i64 a0_1] 23 (0, 0)) (by (with_reducible repeat (first | refine blk_drewN ?_ _ | refine blk_drew ?_ | refine blk_alloc ?_ _)); exact BK122.out) hb); have n2_ := Aside0.mk (below_step (by repeat (first | (with_reducible first | exact HB.out | apply below_alloc | apply pw_below_drewN | apply below_drew1 | refine below_set ?_ GE122.out) | exact HB.out)) hb); have n3_ := Aside0.mk (hbox); have n4_ := Aside0.mk ((by rw [hg]; exact (below_size (by repeat (first | (with_reducible first | exact HB.out | apply below_alloc | apply pw_below_drewN | apply below_drew1 | refine below_set ?_ GE122.out) | exact HB.out))) : w.heap.size ≤ gb124)); have n5_ := Aside0.mk ((by rw [hg]; exact (below_size (by repeat (first | (with_reducible first | exact HB.out | apply below_alloc | apply pw_below_drewN | apply below_drew1 | refine below_set ?_ GE122.out) | exact HB.out))) : w.heap.size ≤ gb124)); have n6_ := Aside0.mk ((by rw [hg]; exact Nat.ne_of_lt (blk_lt (g := gb122) (o := .cells #[.int .i64 a0_0, .int .i64 a0_1] 23 (0, 0)) (by (with_reducible repeat (first | refine blk_drewN ?_ _ | refine blk_drew ?_ | refine blk_alloc ?_ _)); exact BK122.out)) : gb122 ≠ gb124)); have n7_ := Aside0.mk ((by rw [hg]; exact Nat.ne_of_gt (blk_lt (g := gb122) (o := .cells #[.int .i64 a0_0, .int .i64 a0_1] 23 (0, 0)) (by (with_reducible repeat (first | refine blk_drewN ?_ _ | refine blk_drew ?_ | refine blk_alloc ?_ _)); exact BK122.out)) : gb124 ≠ gb122)); clear HO_6; clear BK122; clear HB; have HO_6 := n0_; have BK122 := n1_; have HB := n2_; have BK124 := n3_; have GW124 := n4_; have GE124 := n5_; have NB122_124 := n6_; have NB124_122 := n7_; clear n0_ n1_ n2_ n3_ n4_ n5_ n6_ n7_; clear hb hbox hg; have hnb22 := NB124_122.out; have hnc22 := NB122_124.out; have hcz23_0 : w21.cell? ⟨gb124, 0, none⟩ = some (.int .i64 0) := (blk_cell BK124.out 0).trans rfl; have hcz23_1 : w21.cell? ⟨gb124, 1, none⟩ = some (.int .i64 0) := (blk_cell BK124.out 1).trans rfl; have hcz23_2 : w21.cell? ⟨gb124, 2, none⟩ = some (.int .i64 0) := (blk_cell BK124.out 2).trans rfl; have hcz23_3 : w21.cell? ⟨gb124, 3, none⟩ = some (.int .i64 0) := (blk_cell BK124.out 3).trans rfl; have hfz23_0 := blk_frozen BK124.out 0; have hfz23_1 := blk_frozen BK124.out 1; have hfz23_2 := blk_frozen BK124.out 2; have hfz23_3 := blk_frozen BK124.out 3; obtain ⟨Ao24, co24, eo24⟩ := Kd.R_slice HO_6.out; subst eo24))
                            have n0_ : Aside0 (Kd.R k35 35 ((((w21.setCell ⟨gb124, 0, none⟩ (.int .i64 0)).setCell ⟨gb124, 1, none⟩ (.int .i64 2048)).setCell ⟨gb124, 2, none⟩ (.int .i64 (wrap64 ((rd l1 x14_1) - a0_0)))).setCell ⟨gb124, 3, none⟩ (.int .i64 0)) w.heap.size (fun k_ => k_ ≠ gb124) (.slice Ao24 x6_1.length co24) x6_1) := ⟨by (with_reducible repeat (first | apply Kd.R_alloc | apply Kd.R_drewN | apply Kd.R_drew)); exact Kd.R_mono (Kd.R_far (p := ⟨gb124, 3, none⟩) (Kd.R_far (p := ⟨gb124, 2, none⟩) (Kd.R_far (p := ⟨gb124, 1, none⟩) (Kd.R_far (p := ⟨gb124, 0, none⟩) (Kd.R_mono HO_6.out (fun k_ hk => (⟨hk, hk.2⟩ : _ ∧ k_ ≠ gb124))) (fun _ hk => hk.2) (.int .i64 0)) (fun _ hk => hk.2) (.int .i64 2048)) (fun _ hk => hk.2) (.int .i64 (wrap64 ((rd l1 x14_1) - a0_0)))) (fun _ hk => hk.2) (.int .i64 0)) (fun _ hk => hk.1.2)⟩
                            have n1_ : Aside0 (((((w21.setCell ⟨gb124, 0, none⟩ (.int .i64 0)).setCell ⟨gb124, 1, none⟩ (.int .i64 2048)).setCell ⟨gb124, 2, none⟩ (.int .i64 (wrap64 ((rd l1 x14_1) - a0_0)))).setCell ⟨gb124, 3, none⟩ (.int .i64 0)).heap[gb122]? = some (.cells #[.int .i64 a0_0, .int .i64 a0_1] 23 (0, 0))) := ⟨by (with_reducible repeat (first | refine blk_drewN ?_ _ | refine blk_drew ?_ | refine blk_alloc ?_ _)); refine blk_far ?_ NB122_124.out _; (with_reducible repeat (first | refine blk_drewN ?_ _ | refine blk_drew ?_ | refine blk_alloc ?_ _)); refine blk_far ?_ NB122_124.out _; (with_reducible repeat (first | refine blk_drewN ?_ _ | refine blk_drew ?_ | refine blk_alloc ?_ _)); refine blk_far ?_ NB122_124.out _; (with_reducible repeat (first | refine blk_drewN ?_ _ | refine blk_drew ?_ | refine blk_alloc ?_ _)); refine blk_far ?_ NB122_124.out _; (with_reducible repeat (first | refine blk_drewN ?_ _ | refine blk_drew ?_ | refine blk_alloc ?_ _)); exact BK122.out⟩
                            have n2_ : Aside0 (((((w21.setCell ⟨gb124, 0, none⟩ (.int .i64 0)).setCell ⟨gb124, 1, none⟩ (.int .i64 2048)).setCell ⟨gb124, 2, none⟩ (.int .i64 (wrap64 ((rd l1 x14_1) - a0_0)))).setCell ⟨gb124, 3, none⟩ (.int .i64 0)).heap[gb124]? = some (.cells #[.int .i64 0, .int .i64 2048, .int .i64 (wrap64 ((rd l1 x14_1) - a0_0)), .int .i64 0] 35 (0, 0))) := ⟨by (with_reducible repeat (first | refine blk_drewN ?_ _ | refine blk_drew ?_ | refine blk_alloc ?_ _)); refine blk_put (cs := #[.int .i64 0, .int .i64 2048, .int .i64 (wrap64 ((rd l1 x14_1) - a0_0)), .int .i64 0]) ?_ 3 _ rfl; (with_reducible repeat (first | refine blk_drewN ?_ _ | refine blk_drew ?_ | refine blk_alloc ?_ _)); refine blk_put (cs := #[.int .i64 0, .int .i64 2048, .int .i64 0, .int .i64 0]) ?_ 2 _ rfl; (with_reducible repeat (first | refine blk_drewN ?_ _ | refine blk_drew ?_ | refine blk_alloc ?_ _)); refine blk_put (cs := #[.int .i64 0, .int .i64 0, .int .i64 0, .int .i64 0]) ?_ 1 _ rfl; (with_reducible repeat (first | refine blk_drewN ?_ _ | refine blk_drew ?_ | refine blk_alloc ?_ _)); refine blk_put (cs := #[.int .i64 0, .int .i64 0, .int .i64 0, .int .i64 0]) ?_ 0 _ rfl; (with_reducible repeat (first | refine blk_drewN ?_ _ | refine blk_drew ?_ | refine blk_alloc ?_ _)); exact BK124.out⟩
                            have n3_ : Aside0 (Below w.heap.size w ((((w21.setCell ⟨gb124, 0, none⟩ (.int .i64 0)).setCell ⟨gb124, 1, none⟩ (.int .i64 2048)).setCell ⟨gb124, 2, none⟩ (.int .i64 (wrap64 ((rd l1 x14_1) - a0_0)))).setCell ⟨gb124, 3, none⟩ (.int .i64 0))) := ⟨by repeat (first | (with_reducible first | exact HB.out | apply below_alloc | apply pw_below_drewN | apply below_drew1 | refine below_set ?_ GE122.out | refine below_set ?_ GE124.out) | exact HB.out)⟩
                            (try clear HO_6)
                            (try clear BK122)
                            (try clear BK124)
                            (try clear HB)
                            generalize ((((w21.setCell ⟨gb124, 0, none⟩ (.int .i64 0)).setCell ⟨gb124, 1, none⟩ (.int .i64 2048)).setCell ⟨gb124, 2, none⟩ (.int .i64 (wrap64 ((rd l1 x14_1) - a0_0)))).setCell ⟨gb124, 3, none⟩ (.int .i64 0)) = w25 at n0_ n1_ n2_ n3_ ⊢
                            have HO_6 := n0_
                            have BK122 := n1_
                            have BK124 := n2_
                            have HB := n3_
                            clear n0_ n1_ n2_ n3_
                            have n0_ := Aside0.mk (Kd.R_drew HO_6.out)
                            have n1_ := Aside0.mk (blk_drew BK122.out)
                            have n2_ := Aside0.mk (blk_drew BK124.out)
                            have n3_ := Aside0.mk (below_drew1 HB.out)
                            clear HO_6
                            clear BK122
                            clear BK124
                            clear HB
                            have HO_6 := n0_
                            have BK122 := n1_
                            have BK124 := n2_
                            have HB := n3_
                            clear n0_ n1_ n2_ n3_
                            have p125 : 0 ≤ ((ji13) : Int) := of_decide_eq_true (by first | (with_reducible assumption) | assumption)
                            have q125 : (ji13) < (x6_1.length : Int) := of_decide_eq_true (by first | (with_reducible assumption) | assumption)
                            obtain ⟨ad125, e125, hx125_0, hx125_1, hx125_2, hx125_3⟩ := at_T35 (Kd.R_reads' HO_6.out).2.2 (ji13) p125 q125
                            cases e125
                            replace p125 := eq_true p125
                            replace q125 := eq_true q125
                            refine start_ (n := 9) (S := fun w' => w'.cell? ⟨gb124, 0, none⟩ = some (.int .i64 0) ∧ w'.cell? ⟨gb124, 1, none⟩ = some (.int .i64 2048) ∧ w'.cell? ⟨gb124, 2, none⟩ = some (.int .i64 (wrap64 ((rd l1 x14_1) - a0_0))) ∧ w'.cell? ⟨gb124, 3, none⟩ = some (.int .i64 0) ∧ w'.cell? (ad125.add (((ji13)).toNat * 4)) = some (.int .i64 ((rd_T35 x6_1 (ji13)).f0)) ∧ w'.cell? ⟨(ad125.add (((ji13)).toNat * 4)).block, (ad125.add (((ji13)).toNat * 4)).off + 1, none⟩ = some (.int .i64 ((rd_T35 x6_1 (ji13)).f1)) ∧ w'.cell? ⟨(ad125.add (((ji13)).toNat * 4)).block, (ad125.add (((ji13)).toNat * 4)).off + 2, none⟩ = some (.int .i64 ((rd_T35 x6_1 (ji13)).f2.f0)) ∧ w'.cell? ⟨(ad125.add (((ji13)).toNat * 4)).block, (ad125.add (((ji13)).toNat * 4)).off + 3, none⟩ = some (.int .i64 ((rd_T35 x6_1 (ji13)).f2.f1))) (ds := []) #[false, false, false, false, false, false, false, false, false] (by kernel_rfl) rfl rfl ⟨(blk_cell BK124.out 0).trans rfl, (blk_cell BK124.out 1).trans rfl, (blk_cell BK124.out 2).trans rfl, (blk_cell BK124.out 3).trans rfl, hx125_0, hx125_1, hx125_2, hx125_3⟩ (fun hHeld => ?_); refine with_tabW metadata_Extents.tab10 metadata_Extents.bits10 (fun HT_ HW_ => ?_)
                            generalize w25.drew = w26 at HO_6 BK122 BK124 HB hx125_0 hx125_1 hx125_2 hx125_3 hHeld ⊢
                            refine pure_ (i := 0) (N := some 41) (v := ?_) (a' := ?_) #[true, false, false, false, false, false, false, false, false] rfl rfl (any_of HT_.out (by kernel_rfl)) (fun _ _ _ h => h) (Or.inl ⟨by rfl, ?_⟩) ?_ ?_
                            rotate_left
                            · intro w'
                              go_simp
                              with_reducible rfl
                            rotate_left
                            · simp only [Act.put, List.setIfInBounds_toArray, List.set_cons_zero, List.set_cons_succ, i64_w, i32_w]
                              rfl
                            refine pure_ (i := 1) (N := some 42) (v := ?_) (a' := ?_) #[true, true, false, false, false, false, false, false, false] rfl rfl (any_of HT_.out (by kernel_rfl)) (fun _ _ _ h => h) (Or.inl ⟨by rfl, ?_⟩) ?_ ?_
                            rotate_left
                            · intro w'
                              go_simp
                              with_reducible rfl
                            rotate_left
                            · simp only [Act.put, List.setIfInBounds_toArray, List.set_cons_zero, List.set_cons_succ, i64_w, i32_w]
                              rfl
                            refine pure_ (i := 2) (N := some 43) (v := ?_) (a' := ?_) #[true, true, true, false, false, false, false, false, false] rfl rfl (any_of HT_.out (by kernel_rfl)) (fun _ _ _ h => h) (Or.inl ⟨by rfl, ?_⟩) ?_ ?_
                            rotate_left
                            · intro w'
                              go_simp
                              with_reducible rfl
                            rotate_left
                            · simp only [Act.put, List.setIfInBounds_toArray, List.set_cons_zero, List.set_cons_succ, i64_w, i32_w]
                              rfl
                            refine pure_ (i := 3) (N := some 44) (v := ?_) (a' := ?_) #[true, true, true, true, false, false, false, false, false] rfl rfl (any_of HT_.out (by kernel_rfl)) (fun _ _ _ h => h) (Or.inl ⟨by rfl, ?_⟩) ?_ ?_
                            rotate_left
                            · intro w'
                              go_simp
                              with_reducible rfl
                            rotate_left
                            · simp only [Act.put, List.setIfInBounds_toArray, List.set_cons_zero, List.set_cons_succ, i64_w, i32_w]
                              rfl
                            refine take_ (i := 4) (N := some 45) (v := ?_) (a' := ?_) #[true, true, true, true, true, false, false, false, false] rfl rfl (take_ofW HT_.out HW_.out (by kernel_rfl)) (fun _ _ _ h => h) (Or.inl ⟨by rfl, ?_⟩) hHeld ?_ ?_
                            rotate_left
                            · rintro w' ⟨s0, s1, s2, s3, s4, s5, s6, s7⟩
                              go_simp
                              with_reducible rfl
                            rotate_left
                            · simp only [Act.put, List.setIfInBounds_toArray, List.set_cons_zero, List.set_cons_succ, i64_w, i32_w]
                              rfl
                            refine take_ (i := 5) (N := some 46) (v := ?_) (a' := ?_) #[true, true, true, true, true, true, false, false, false] rfl rfl (take_ofW HT_.out HW_.out (by kernel_rfl)) (fun _ _ _ h => h) (Or.inl ⟨by rfl, ?_⟩) hHeld ?_ ?_
                            rotate_left
                            · rintro w' ⟨s0, s1, s2, s3, s4, s5, s6, s7⟩
                              go_simp
                              with_reducible rfl
                            rotate_left
                            · simp only [Act.put, List.setIfInBounds_toArray, List.set_cons_zero, List.set_cons_succ, i64_w, i32_w]
                              rfl
                            refine one_ (i := 6) (N := some 47) #[true, true, true, true, true, true, true, false, false] rfl rfl (one_of HT_.out (by kernel_rfl)) (by decide) (fun K hK => ?_)
                            refine Kd.R_lit_step k35 _ 35 ?hg (N := 47) ?hd (xs := ([(⟨(rd_T35 x6_1 (ji13)).f0, (rd_T35 x6_1 (ji13)).f1, (⟨(rd_T35 x6_1 (ji13)).f2.f0, (rd_T35 x6_1 (ji13)).f2.f1⟩ : S33)⟩ : S35), (⟨0, 2048, (⟨wrap64 ((rd l1 x14_1) - a0_0), 0⟩ : S33)⟩ : S35)] : List (S35))) (inner := [.int .i64 ((rd_T35 x6_1 (ji13)).f0), .int .i64 ((rd_T35 x6_1 (ji13)).f1), .int .i64 ((rd_T35 x6_1 (ji13)).f2.f0), .int .i64 ((rd_T35 x6_1 (ji13)).f2.f1), .int .i64 0, .int .i64 2048, .int .i64 (wrap64 ((rd l1 x14_1) - a0_0)), .int .i64 0]) (ok := fun _ => True) (okp := fun _ => True) ?hr ?hp (fun _ hk => hk) trivial (Below.refl _ _) (Nat.le_refl _) (by simp) ?_; (case hd => rfl); (case hg => rfl); (case hr => first | (go_simp; done) | (go_simp; rfl)); (case hp => exact (Reps.c4 (show Kd.M k35 _ _ _ (⟨(rd_T35 x6_1 (ji13)).f0, (rd_T35 x6_1 (ji13)).f1, (⟨(rd_T35 x6_1 (ji13)).f2.f0, (rd_T35 x6_1 (ji13)).f2.f1⟩ : S33)⟩ : S35) [.int .i64 ((rd_T35 x6_1 (ji13)).f0), .int .i64 ((rd_T35 x6_1 (ji13)).f1), .int .i64 ((rd_T35 x6_1 (ji13)).f2.f0), .int .i64 ((rd_T35 x6_1 (ji13)).f2.f1)] from (k35_mkM _ _ _ (⟨(rd_T35 x6_1 (ji13)).f0, (rd_T35 x6_1 (ji13)).f1, (⟨(rd_T35 x6_1 (ji13)).f2.f0, (rd_T35 x6_1 (ji13)).f2.f1⟩ : S33)⟩ : S35) )) (Reps.c4 (show Kd.M k35 _ _ _ (⟨0, 2048, (⟨wrap64 ((rd l1 x14_1) - a0_0), 0⟩ : S33)⟩ : S35) [.int .i64 0, .int .i64 2048, .int .i64 (wrap64 ((rd l1 x14_1) - a0_0)), .int .i64 0] from (k35_mkM _ _ _ (⟨0, 2048, (⟨wrap64 ((rd l1 x14_1) - a0_0), 0⟩ : S33)⟩ : S35) )) (Reps.none _ _))))
                            intro v127 w27 ho28 hb hg_ hnew_
                            have HS4_ := (hb.cell (World.block_lt_of_cell? _ _ (hHeld.2.2.2.2.1))).trans (hHeld.2.2.2.2.1)
                            have HS5_ := (hb.cell (World.block_lt_of_cell? _ _ (hHeld.2.2.2.2.2.1))).trans (hHeld.2.2.2.2.2.1)
                            have HS6_ := (hb.cell (World.block_lt_of_cell? _ _ (hHeld.2.2.2.2.2.2.1))).trans (hHeld.2.2.2.2.2.2.1)
                            have HS7_ := (hb.cell (World.block_lt_of_cell? _ _ (hHeld.2.2.2.2.2.2.2))).trans (hHeld.2.2.2.2.2.2.2)
                            clear hg_ hnew_
                            (first | rw [← Ny126.out] at ho28 | (simp only [Int.reduceToNat] at ho28; rw [← Ny126.out] at ho28))
                            have n0_ := Aside0.mk (Kd.R_elder' (by (with_reducible repeat (first | apply Kd.R_alloc | apply Kd.R_drewN | apply Kd.R_drew)); exact HO_6.out) (Kd.R_base ho28) hb)
                            have n1_ := Aside0.mk (Kd.R_lower (Kd.R_newB (Kd.R_new' ho28 (Kd.R_lt (by (with_reducible repeat (first | apply Kd.R_alloc | apply Kd.R_drewN | apply Kd.R_drew)); exact HO_6.out))) (g := gb124) (o := .cells #[.int .i64 0, .int .i64 2048, .int .i64 (wrap64 ((rd l1 x14_1) - a0_0)), .int .i64 0] 35 (0, 0)) (by (with_reducible repeat (first | refine blk_drewN ?_ _ | refine blk_drew ?_ | refine blk_alloc ?_ _)); exact BK124.out)) (below_size (by repeat (first | (with_reducible first | exact HB.out | apply below_alloc | apply pw_below_drewN | apply below_drew1 | refine below_set ?_ GE122.out | refine below_set ?_ GE124.out) | exact HB.out))))
                            have n2_ := Aside0.mk (blk_below (g := gb122) (o := .cells #[.int .i64 a0_0, .int .i64 a0_1] 23 (0, 0)) (by (with_reducible repeat (first | refine blk_drewN ?_ _ | refine blk_drew ?_ | refine blk_alloc ?_ _)); exact BK122.out) hb)
                            have n3_ := Aside0.mk (blk_below (g := gb124) (o := .cells #[.int .i64 0, .int .i64 2048, .int .i64 (wrap64 ((rd l1 x14_1) - a0_0)), .int .i64 0] 35 (0, 0)) (by (with_reducible repeat (first | refine blk_drewN ?_ _ | refine blk_drew ?_ | refine blk_alloc ?_ _)); exact BK124.out) hb)
                            have n4_ := Aside0.mk (below_step (by repeat (first | (with_reducible first | exact HB.out | apply below_alloc | apply pw_below_drewN | apply below_drew1 | refine below_set ?_ GE122.out | refine below_set ?_ GE124.out) | exact HB.out)) hb)
                            clear HO_6
                            clear BK122
                            clear BK124
                            clear HB
                            have HO_6 := n0_
                            have HO128 := n1_
                            have BK122 := n2_
                            have BK124 := n3_
                            have HB := n4_
                            clear n0_ n1_ n2_ n3_ n4_
                            clear hb ho28
                            obtain ⟨Ao29, co29, eo29⟩ := Kd.R_slice HO128.out
                            (first | subst eo29 | (injection eo29 with f1_ f2_ f3_; have f4_ := f1_.symm; have f5_ := f3_.symm; clear f1_ f2_ f3_; subst f4_; subst f5_))
                            refine hK.out _ _ ⟨(blk_cell BK124.out 0).trans rfl, (blk_cell BK124.out 1).trans rfl, (blk_cell BK124.out 2).trans rfl, (blk_cell BK124.out 3).trans rfl, HS4_, HS5_, HS6_, HS7_⟩ (fun hHeld => ?_)
                            clear hK K
                            refine norm_ (a' := ?_) ?_ ?_
                            rotate_left
                            · show Act.put _ (some 47) _ = _
                              simp only [Act.put, List.setIfInBounds_toArray, List.set_cons_zero, List.set_cons_succ, i64_w, i32_w]
                              rfl
                            refine one_ (i := 7) (N := some 48) #[true, true, true, true, true, true, true, true, false] rfl rfl (one_of HT_.out (by kernel_rfl)) (by decide) (fun K hK => ?_)
                            refine goes_ Try.func21 (by kernel_rfl) rfl #[.slice Ao29 y126.length co29] (by rfl) rfl rfl (by (try simp only [List.map_toArray, List.map_cons, List.map_nil]); first | done | rfl | (simp only [List.length_drop, List.length_take]; rfl)) ?_
                            with_reducible refine (allocation_Join.calls kj6 _ _ y126 t129 _ ?side1 ?side2 A16.out).mono ?_
                            (case side1 => repeat (first | exact (Kd.R_reads' HO128.out).2.2 | (with_reducible refine Kd.C_alloc ?_ _) | (with_reducible refine Kd.C_drewN ?_ _) | (with_reducible refine Kd.C_drew ?_)))
                            (case side2 => exact (Kd.R_reads' HO128.out).2.1)
                            rintro e w30 ⟨v130, rfl, ho0, hb⟩
                            have HS4_ := (hb.cell (World.block_lt_of_cell? _ _ (hHeld.2.2.2.2.1))).trans (hHeld.2.2.2.2.1)
                            have HS5_ := (hb.cell (World.block_lt_of_cell? _ _ (hHeld.2.2.2.2.2.1))).trans (hHeld.2.2.2.2.2.1)
                            have HS6_ := (hb.cell (World.block_lt_of_cell? _ _ (hHeld.2.2.2.2.2.2.1))).trans (hHeld.2.2.2.2.2.2.1)
                            have HS7_ := (hb.cell (World.block_lt_of_cell? _ _ (hHeld.2.2.2.2.2.2.2))).trans (hHeld.2.2.2.2.2.2.2)
                            refine ⟨_, rfl, ?_⟩
                            have n0_ := Aside0.mk (Kd.R_elder' (by (with_reducible repeat (first | apply Kd.R_alloc | apply Kd.R_drewN | apply Kd.R_drew)); exact HO_6.out) (Kd.R_base ho0) hb)
                            have n1_ := Aside0.mk (Kd.R_elder' (by (with_reducible repeat (first | apply Kd.R_alloc | apply Kd.R_drewN | apply Kd.R_drew)); exact HO128.out) (Kd.R_base ho0) hb)
                            have n2_ := Aside0.mk (Kd.R_lower (Kd.R_newB (Kd.R_new' (Kd.R_new' ho0 (Kd.R_lt (by (with_reducible repeat (first | apply Kd.R_alloc | apply Kd.R_drewN | apply Kd.R_drew)); exact HO_6.out))) (Kd.R_lt (by (with_reducible repeat (first | apply Kd.R_alloc | apply Kd.R_drewN | apply Kd.R_drew)); exact HO128.out))) (g := gb124) (o := .cells #[.int .i64 0, .int .i64 2048, .int .i64 (wrap64 ((rd l1 x14_1) - a0_0)), .int .i64 0] 35 (0, 0)) (by (with_reducible repeat (first | refine blk_drewN ?_ _ | refine blk_drew ?_ | refine blk_alloc ?_ _)); exact BK124.out)) (below_size (by repeat (first | (with_reducible first | exact HB.out | apply below_alloc | apply pw_below_drewN | apply below_drew1 | refine below_set ?_ GE122.out | refine below_set ?_ GE124.out) | exact HB.out))))
                            have n3_ := Aside0.mk (blk_below (g := gb122) (o := .cells #[.int .i64 a0_0, .int .i64 a0_1] 23 (0, 0)) (by (with_reducible repeat (first | refine blk_drewN ?_ _ | refine blk_drew ?_ | refine blk_alloc ?_ _)); exact BK122.out) hb)
                            have n4_ := Aside0.mk (blk_below (g := gb124) (o := .cells #[.int .i64 0, .int .i64 2048, .int .i64 (wrap64 ((rd l1 x14_1) - a0_0)), .int .i64 0] 35 (0, 0)) (by (with_reducible repeat (first | refine blk_drewN ?_ _ | refine blk_drew ?_ | refine blk_alloc ?_ _)); exact BK124.out) hb)
                            have n5_ := Aside0.mk (below_step (by repeat (first | (with_reducible first | exact HB.out | apply below_alloc | apply pw_below_drewN | apply below_drew1 | refine below_set ?_ GE122.out | refine below_set ?_ GE124.out) | exact HB.out)) hb)
                            clear HO_6
                            clear HO128
                            clear BK122
                            clear BK124
                            clear HB
                            have HO_6 := n0_
                            have HO128 := n1_
                            have HO131 := n2_
                            have BK122 := n3_
                            have BK124 := n4_
                            have HB := n5_
                            clear n0_ n1_ n2_ n3_ n4_ n5_
                            (try clear hb)
                            (try clear hb2)
                            (try clear hk)
                            (try clear hi)
                            (try clear ho0)
                            refine hK.out _ _ ⟨(blk_cell BK124.out 0).trans rfl, (blk_cell BK124.out 1).trans rfl, (blk_cell BK124.out 2).trans rfl, (blk_cell BK124.out 3).trans rfl, HS4_, HS5_, HS6_, HS7_⟩ (fun hHeld => ?_)
                            clear hK K
                            refine norm_ (a' := ?_) ?_ ?_
                            rotate_left
                            · show Act.put _ (some 48) _ = _
                              simp only [Act.put, List.setIfInBounds_toArray, List.set_cons_zero, List.set_cons_succ, i64_w, i32_w]
                              rfl
                            refine pure_ (i := 8) (N := some 11) (v := ?_) (a' := ?_) #[true, true, true, true, true, true, true, true, true] rfl rfl (any_of HT_.out (by kernel_rfl)) (fun _ _ _ h => h) (Or.inl ⟨by rfl, ?_⟩) ?_ ?_
                            rotate_left
                            · intro w'
                              go_simp
                              with_reducible rfl
                            rotate_left
                            · simp only [Act.put, List.setIfInBounds_toArray, List.set_cons_zero, List.set_cons_succ, i64_w, i32_w]
                              rfl
                            refine done_ (done_of HT_.out (by kernel_rfl)) ?_
                            obtain ⟨Ao31, co31, eo31⟩ := Kd.R_slice HO131.out
                            subst eo31
                            have p132 : 0 ≤ (0 : Int) := (by omega)
                            have q132 : 0 < (t129.length : Int) := of_decide_eq_true (by first | (with_reducible assumption) | assumption)
                            obtain ⟨ad132, e132, hx132_0, hx132_1, hx132_2, hx132_3⟩ := at_T35 (Kd.R_reads' HO131.out).2.2 0 p132 q132
                            cases e132
                            have qi132 : (0 < t129.length) = True := eq_true (by omega)
                            (try rw [show ((0 : Int)).toNat = 0 from rfl] at hx132_0)
                            (try rw [show 0 * 4 = 0 from rfl] at hx132_0)
                            (try rw [Addr.add_zero'] at hx132_0)
                            (try rw [show ((0 : Int)).toNat = 0 from rfl] at hx132_1)
                            (try rw [show 0 * 4 = 0 from rfl] at hx132_1)
                            (try rw [Addr.add_zero'] at hx132_1)
                            (try rw [show ((0 : Int)).toNat = 0 from rfl] at hx132_2)
                            (try rw [show 0 * 4 = 0 from rfl] at hx132_2)
                            (try rw [Addr.add_zero'] at hx132_2)
                            (try rw [show ((0 : Int)).toNat = 0 from rfl] at hx132_3)
                            (try rw [show 0 * 4 = 0 from rfl] at hx132_3)
                            (try rw [Addr.add_zero'] at hx132_3)
                            replace p132 := eq_true p132
                            replace q132 := eq_true q132
                            have p19 : 0 ≤ ((ji13) : Int) := of_decide_eq_true (by first | (with_reducible assumption) | assumption)
                            have q19 : ((ji13) : Int) < ((x6_1.length : Int) : Int) := of_decide_eq_true (by first | (with_reducible assumption) | assumption)
                            obtain ⟨go19, co19, eo19, gb19, gl19, cl19, HG19⟩ := Kd.R_form HO_6.out (by omega)
                            (first | cases eo19 | (injection eo19 with ea_ en_ ec_; (first | subst ea_ | (injection ea_ with ea_; subst ea_)); subst ec_; clear en_))
                            have GB19 := Aside0.mk gb19
                            have GG19 := Aside0.mk HG19
                            clear gb19 gl19 HG19
                            (first | simp only [add_plain] at hx125_0 | skip)
                            (first | simp only [add_plain] at hx125_1 | skip)
                            (first | simp only [add_plain] at hx125_2 | skip)
                            (first | simp only [add_plain] at hx125_3 | skip)
                            obtain ⟨ce19, hcl19, hM19, hcc19, hfr19⟩ := Kd.R_elem HO_6.out z35 ((ji13) : Int) p19 q19
                            obtain rfl := k35_openM hM19
                            have hx19_0 : w30.cell? ⟨go19, ((ji13) : Int).toNat * 4, none⟩ = some (.int .i64 ((rd_T35 x6_1 (ji13)).f0)) := hcc19 0 _ rfl
                            have hx19_1 : w30.cell? ⟨go19, ((ji13) : Int).toNat * 4 + 1, none⟩ = some (.int .i64 ((rd_T35 x6_1 (ji13)).f1)) := hcc19 1 _ rfl
                            have hx19_2 : w30.cell? ⟨go19, ((ji13) : Int).toNat * 4 + 2, none⟩ = some (.int .i64 ((rd_T35 x6_1 (ji13)).f2.f0)) := hcc19 2 _ rfl
                            have hx19_3 : w30.cell? ⟨go19, ((ji13) : Int).toNat * 4 + 3, none⟩ = some (.int .i64 ((rd_T35 x6_1 (ji13)).f2.f1)) := hcc19 3 _ rfl
                            have hf19_0 : w30.frozen? ⟨go19, ((ji13) : Int).toNat * 4, none⟩ = false := hfr19 0
                            have hf19_1 : w30.frozen? ⟨go19, ((ji13) : Int).toNat * 4 + 1, none⟩ = false := hfr19 1
                            have hf19_2 : w30.frozen? ⟨go19, ((ji13) : Int).toNat * 4 + 2, none⟩ = false := hfr19 2
                            have hf19_3 : w30.frozen? ⟨go19, ((ji13) : Int).toNat * 4 + 3, none⟩ = false := hfr19 3
                            clear hcl19 hcc19 hfr19 hM19
                            replace p19 := eq_true p19
                            replace q19 := eq_true q19
                            have n_ := Aside0.mk (Kd.R_mono (ok' := (fun k_ => some k_ ≠ (.slice Ao29 y126.length co29 : Value).ownBlock ∧ some k_ ≠ (.slice (some ad132) t129.length co31 : Value).ownBlock ∧ k_ ≠ gb124)) HO_6.out (fun k_ hk => ⟨hk.1.2, ⟨hk.2, hk.1.1⟩⟩))
                            clear HO_6
                            have HO_6 := n_
                            clear n_
                            have HX32 := Aside0.mk (show Kd.R k35 35 w30 w.heap.size (fun k_ => some k_ ≠ (.slice Ao29 y126.length co29 : Value).ownBlock ∧ some k_ ≠ (.slice (some ad132) t129.length co31 : Value).ownBlock ∧ k_ ≠ gb124) (.slice (some ⟨go19, 0, none⟩) x6_1.length co24) x6_1 from (by (with_reducible repeat (first | apply Kd.R_alloc | apply Kd.R_drewN | apply Kd.R_drew)); exact HO_6.out))
                            obtain ⟨ce32, hcl32, hM32, hcc32, hfr32⟩ := Kd.R_elem HX32.out z35 ((ji13) : Int) (of_decide_eq_true (by first | (with_reducible assumption) | assumption)) (by have h_ : ((ji13) : Int) < ((x6_1.length : Int) : Int) := of_decide_eq_true (by first | (with_reducible assumption) | assumption); first | exact h_ | (have e_ := (Kd.R_reads' HO_6.out).1; omega) | simpa using h_)
                            obtain rfl := k35_openM hM32
                            have HP32 := Kd.R_seg HX32.out ((ji13) : Int) (of_decide_eq_true (by first | (with_reducible assumption) | assumption)) (by have h_ : ((ji13) : Int) < ((x6_1.length : Int) : Int) := of_decide_eq_true (by first | (with_reducible assumption) | assumption); first | exact h_ | (have e_ := (Kd.R_reads' HO_6.out).1; omega) | simpa using h_) (seg := [.int .i64 ((rd_T35 t129 0).f0), .int .i64 ((rd_T35 t129 0).f1), .int .i64 ((rd_T35 t129 0).f2.f0), .int .i64 ((rd_T35 t129 0).f2.f1)]) (j := 0) hcl32 hcc32 (show 4 ≤ 4 from by decide) (x' := (⟨(rd_T35 t129 0).f0, (rd_T35 t129 0).f1, (⟨(rd_T35 t129 0).f2.f0, (rd_T35 t129 0).f2.f1⟩ : S33)⟩ : S35)) (k35_mkM _ _ _ (⟨(rd_T35 t129 0).f0, (rd_T35 t129 0).f1, (⟨(rd_T35 t129 0).f2.f0, (rd_T35 t129 0).f2.f1⟩ : S33)⟩ : S35) ) (fun _ hk => hk)
                            have hx32_0 := hcc32 0 _ rfl
                            (try simp only [show (k35).sz = 4 from rfl, Nat.mul_one, Nat.add_zero] at hx32_0)
                            have hf32_0 := hfr32 0
                            (try simp only [show (k35).sz = 4 from rfl, Nat.mul_one, Nat.add_zero] at hf32_0)
                            have hx32_1 := hcc32 1 _ rfl
                            (try simp only [show (k35).sz = 4 from rfl, Nat.mul_one, Nat.add_zero] at hx32_1)
                            have hf32_1 := hfr32 1
                            (try simp only [show (k35).sz = 4 from rfl, Nat.mul_one, Nat.add_zero] at hf32_1)
                            have hx32_2 := hcc32 2 _ rfl
                            (try simp only [show (k35).sz = 4 from rfl, Nat.mul_one, Nat.add_zero] at hx32_2)
                            have hf32_2 := hfr32 2
                            (try simp only [show (k35).sz = 4 from rfl, Nat.mul_one, Nat.add_zero] at hf32_2)
                            have hx32_3 := hcc32 3 _ rfl
                            (try simp only [show (k35).sz = 4 from rfl, Nat.mul_one, Nat.add_zero] at hx32_3)
                            have hf32_3 := hfr32 3
                            (try simp only [show (k35).sz = 4 from rfl, Nat.mul_one, Nat.add_zero] at hf32_3)
                            clear hcl32 hcc32 hfr32 hM32
                            try go_wp2_with (first | ((with_reducible refine gate_store (t := 35) (p := 58) rfl ?_); refine store_event (t := 35) (p := 58) (v := ?vo_w33) (w1 := ((((w30.setCell ⟨go19, ((ji13) : Int).toNat * 4, none⟩ (.int .i64 ((rd_T35 t129 0).f0))).setCell ⟨go19, ((ji13) : Int).toNat * 4 + 1, none⟩ (.int .i64 ((rd_T35 t129 0).f1))).setCell ⟨go19, ((ji13) : Int).toNat * 4 + 2, none⟩ (.int .i64 ((rd_T35 t129 0).f2.f0))).setCell ⟨go19, ((ji13) : Int).toNat * 4 + 3, none⟩ (.int .i64 ((rd_T35 t129 0).f2.f1)))) ?hg ?ho ?hn ?hr ?_; (case ho => rfl); (case hg => rfl); (case hn => rfl); (case hr => first | (go_simp; done) | (go_simp; rfl)); intro w33 hw; have hg : w30.grownBy w33 (some go19) := (by rw [hw]; exact HP32.2); have hp_ : Kd.R k35 35 w33 w.heap.size (fun k_ => some k_ ≠ (.slice Ao29 y126.length co29 : Value).ownBlock ∧ some k_ ≠ (.slice (some ad132) t129.length co31 : Value).ownBlock ∧ k_ ≠ gb124) (.slice (some ⟨go19, 0, none⟩) x6_1.length co24) y133 := (by rw [hw, Ny133.out]; exact HP32.1); clear HP32; have n0_ := Aside0.mk (hp_); have n1_ := Aside0.mk (blk_grown (g := gb122) (o := .cells #[.int .i64 a0_0, .int .i64 a0_1] 23 (0, 0)) (by (with_reducible repeat (first | refine blk_drewN ?_ _ | refine blk_drew ?_ | refine blk_alloc ?_ _)); exact BK122.out) hg (Kd.R_ne HO_6.out BK122.out (by decide))); have n2_ := Aside0.mk (blk_grown (g := gb124) (o := .cells #[.int .i64 0, .int .i64 2048, .int .i64 (wrap64 ((rd l1 x14_1) - a0_0)), .int .i64 0] 35 (0, 0)) (by (with_reducible repeat (first | refine blk_drewN ?_ _ | refine blk_drew ?_ | refine blk_alloc ?_ _)); exact BK124.out) hg (Kd.R_away HO_6.out (fun _ hk => hk.2.2))); have n3_ := Aside0.mk (Kd.R_after (v := (.slice (some ⟨go19, 0, none⟩) x6_1.length co24)) (v1 := (.slice (some ⟨go19, 0, none⟩) x6_1.length co24)) (ok := (fun k_ => some k_ ≠ (.slice (some ad132) t129.length co31 : Value).ownBlock ∧ k_ ≠ gb124)) (by (with_reducible repeat (first | apply Kd.R_alloc | apply Kd.R_drewN | apply Kd.R_drew)); exact Kd.R_mono HO128.out (fun _ hk => ⟨⟨hk.2, hk.1.2⟩, hk.1.1.2⟩)) hg (.inl rfl)); have n4_ := Aside0.mk (Kd.R_after (v := (.slice (some ⟨go19, 0, none⟩) x6_1.length co24)) (v1 := (.slice (some ⟨go19, 0, none⟩) x6_1.length co24)) (ok := (fun k_ => some k_ ≠ (.slice Ao29 y126.length co29 : Value).ownBlock ∧ k_ ≠ gb124)) (by (with_reducible repeat (first | apply Kd.R_alloc | apply Kd.R_drewN | apply Kd.R_drew)); exact Kd.R_mono HO131.out (fun _ hk => ⟨⟨hk.1.2, hk.2⟩, hk.1.1.2⟩)) hg (.inl rfl)); have n5_ := Aside0.mk ((by rw [hw]; exact below_set (below_set (below_set (below_set (HB.out) GB19.out) GB19.out) GB19.out) GB19.out : Below w.heap.size w w33)); clear HO_6; clear BK122; clear BK124; clear HO128; clear HO131; clear HB; have HO_6 := n0_; have BK122 := n1_; have BK124 := n2_; have HO128 := n3_; have HO131 := n4_; have HB := n5_; clear n0_ n1_ n2_ n3_ n4_ n5_; clear hg hw hp_))
                            go_roundg kj6
                            case measure => have := HK1.out; have := HJ6.out; omega
                            case rel => exact ⟨(y133), (wrap64 (x14_1 + 1)), (by first | rfl | (simp; done) | (simp [*]; done)), H', ⟨by have := HK1.out; have := HJ6.out; omega⟩, ⟨by (with_reducible repeat (first | apply Kd.R_alloc | apply Kd.R_drewN | apply Kd.R_drew)); exact Kd.R_mono HO_6.out (fun _ hk => trivial)⟩, ⟨by (with_reducible repeat (first | refine blk_drewN ?_ _ | refine blk_drew ?_ | refine blk_alloc ?_ _)); exact BK122.out⟩, ⟨by repeat (first | (with_reducible first | exact HB.out | apply below_alloc | apply pw_below_drewN | apply below_drew1 | refine below_set ?_ GE122.out | refine below_set ?_ GE124.out) | exact HB.out)⟩⟩
                          · rw [if_neg c18] at H
                            exact absurd H (by simp)
                        · rw [if_neg c17] at H
                          have c17b0 : ((t129.length : Int) == 1) = false := beq_eq_false_iff_ne.mpr c17
                          have c17b1 : ((t129.length : Int) != 1) = true := bne_iff_ne.mpr c17
                          by_cases c34 : x6_1.length < 4398046511104
                          · rw [if_pos c34] at H
                            have LMc34 := Aside0.mk c34
                            clear c34
                            obtain ⟨y134, hy134⟩ : ∃ y_ : List (S35), y_ = (x6_1 ++ [(⟨0, 2048, (⟨wrap64 ((rd l1 x14_1) - a0_0), 0⟩ : S33)⟩ : S35)]) := ⟨_, rfl⟩
                            replace H : (metadata_Extents.l0 kj6 y134 l1 (l1.length : Int) (wrap64 (x14_1 + 1)) a0_0 a0_1) = some (r1, r2) := by first | (rw [hy134]; with_reducible exact H) | (have H2_ := (Option.bind_some _ _).symm.trans H; rw [hy134]; with_reducible exact H2_) | (have H2_ := (Option.bind_some _ _).symm.trans H; with_reducible exact H2_) | with_reducible exact H | (rw [hy134]; exact H) | exact H
                            have Ny134 := Aside0.mk hy134
                            clear hy134
                            have H' := Aside0.mk H
                            clear H
                            have hcz35_0 : wc.cell? ⟨gb122, 0, none⟩ = some (.int .i64 a0_0) := (blk_cell BK122.out 0).trans rfl
                            have hcz35_1 : wc.cell? ⟨gb122, 1, none⟩ = some (.int .i64 a0_1) := (blk_cell BK122.out 1).trans rfl
                            have hfz35_0 := blk_frozen BK122.out 0
                            have hfz35_1 := blk_frozen BK122.out 1
                            try go_wp2_with (first | ((with_reducible refine gate_dst (N := 9) rfl ?_); refine box_event ?hg (N := 9) ?hd (cs := #[.int .i64 0, .int .i64 0, .int .i64 0, .int .i64 0]) (t := 35) ?hr ?_; (case hd => rfl); (case hg => rfl); (case hr => first | (go_simp; done) | (go_simp; rfl)); intro gb124 hg w36 hbox hb; have n0_ := Aside0.mk (Kd.R_below (Kd.R_elderB (by (with_reducible repeat (first | apply Kd.R_alloc | apply Kd.R_drewN | apply Kd.R_drew)); exact HO_6.out) gb124 (Nat.le_of_eq hg.symm)) hb); have n1_ := Aside0.mk (blk_below (g := gb122) (o := .cells #[.int .i64 a0_0, .int .i64 a0_1] 23 (0, 0)) (by (with_reducible repeat (first | refine blk_drewN ?_ _ | refine blk_drew ?_ | refine blk_alloc ?_ _)); exact BK122.out) hb); have n2_ := Aside0.mk (below_step (by repeat (first | (with_reducible first | exact HB.out | apply below_alloc | apply pw_below_drewN | apply below_drew1 | refine below_set ?_ GE122.out) | exact HB.out)) hb); have n3_ := Aside0.mk (hbox); have n4_ := Aside0.mk ((by rw [hg]; exact (below_size (by repeat (first | (with_reducible first | exact HB.out | apply below_alloc | apply pw_below_drewN | apply below_drew1 | refine below_set ?_ GE122.out) | exact HB.out))) : w.heap.size ≤ gb124)); have n5_ := Aside0.mk ((by rw [hg]; exact (below_size (by repeat (first | (with_reducible first | exact HB.out | apply below_alloc | apply pw_below_drewN | apply below_drew1 | refine below_set ?_ GE122.out) | exact HB.out))) : w.heap.size ≤ gb124)); have n6_ := Aside0.mk ((by rw [hg]; exact Nat.ne_of_lt (blk_lt (g := gb122) (o := .cells #[.int .i64 a0_0, .int .i64 a0_1] 23 (0, 0)) (by (with_reducible repeat (first | refine blk_drewN ?_ _ | refine blk_drew ?_ | refine blk_alloc ?_ _)); exact BK122.out)) : gb122 ≠ gb124)); have n7_ := Aside0.mk ((by rw [hg]; exact Nat.ne_of_gt (blk_lt (g := gb122) (o := .cells #[.int .i64 a0_0, .int .i64 a0_1] 23 (0, 0)) (by (with_reducible repeat (first | refine blk_drewN ?_ _ | refine blk_drew ?_ | refine blk_alloc ?_ _)); exact BK122.out)) : gb124 ≠ gb122)); clear HO_6; clear BK122; clear HB; have HO_6 := n0_; have BK122 := n1_; have HB := n2_; have BK124 := n3_; have GW124 := n4_; have GE124 := n5_; have NB122_124 := n6_; have NB124_122 := n7_; clear n0_ n1_ n2_ n3_ n4_ n5_ n6_ n7_; clear hb hbox hg; have hnb37 := NB124_122.out; have hnc37 := NB122_124.out; have hcz38_0 : w36.cell? ⟨gb124, 0, none⟩ = some (.int .i64 0) := (blk_cell BK124.out 0).trans rfl; have hcz38_1 : w36.cell? ⟨gb124, 1, none⟩ = some (.int .i64 0) := (blk_cell BK124.out 1).trans rfl; have hcz38_2 : w36.cell? ⟨gb124, 2, none⟩ = some (.int .i64 0) := (blk_cell BK124.out 2).trans rfl; have hcz38_3 : w36.cell? ⟨gb124, 3, none⟩ = some (.int .i64 0) := (blk_cell BK124.out 3).trans rfl; have hfz38_0 := blk_frozen BK124.out 0; have hfz38_1 := blk_frozen BK124.out 1; have hfz38_2 := blk_frozen BK124.out 2; have hfz38_3 := blk_frozen BK124.out 3; obtain ⟨Ao39, co39, eo39⟩ := Kd.R_slice HO_6.out; subst eo39))
                            have n0_ : Aside0 (Kd.R k35 35 ((((w36.setCell ⟨gb124, 0, none⟩ (.int .i64 0)).setCell ⟨gb124, 1, none⟩ (.int .i64 2048)).setCell ⟨gb124, 2, none⟩ (.int .i64 (wrap64 ((rd l1 x14_1) - a0_0)))).setCell ⟨gb124, 3, none⟩ (.int .i64 0)) w.heap.size (fun k_ => k_ ≠ gb124) (.slice Ao39 x6_1.length co39) x6_1) := ⟨by (with_reducible repeat (first | apply Kd.R_alloc | apply Kd.R_drewN | apply Kd.R_drew)); exact Kd.R_mono (Kd.R_far (p := ⟨gb124, 3, none⟩) (Kd.R_far (p := ⟨gb124, 2, none⟩) (Kd.R_far (p := ⟨gb124, 1, none⟩) (Kd.R_far (p := ⟨gb124, 0, none⟩) (Kd.R_mono HO_6.out (fun k_ hk => (⟨hk, hk.2⟩ : _ ∧ k_ ≠ gb124))) (fun _ hk => hk.2) (.int .i64 0)) (fun _ hk => hk.2) (.int .i64 2048)) (fun _ hk => hk.2) (.int .i64 (wrap64 ((rd l1 x14_1) - a0_0)))) (fun _ hk => hk.2) (.int .i64 0)) (fun _ hk => hk.1.2)⟩
                            have n1_ : Aside0 (((((w36.setCell ⟨gb124, 0, none⟩ (.int .i64 0)).setCell ⟨gb124, 1, none⟩ (.int .i64 2048)).setCell ⟨gb124, 2, none⟩ (.int .i64 (wrap64 ((rd l1 x14_1) - a0_0)))).setCell ⟨gb124, 3, none⟩ (.int .i64 0)).heap[gb122]? = some (.cells #[.int .i64 a0_0, .int .i64 a0_1] 23 (0, 0))) := ⟨by (with_reducible repeat (first | refine blk_drewN ?_ _ | refine blk_drew ?_ | refine blk_alloc ?_ _)); refine blk_far ?_ NB122_124.out _; (with_reducible repeat (first | refine blk_drewN ?_ _ | refine blk_drew ?_ | refine blk_alloc ?_ _)); refine blk_far ?_ NB122_124.out _; (with_reducible repeat (first | refine blk_drewN ?_ _ | refine blk_drew ?_ | refine blk_alloc ?_ _)); refine blk_far ?_ NB122_124.out _; (with_reducible repeat (first | refine blk_drewN ?_ _ | refine blk_drew ?_ | refine blk_alloc ?_ _)); refine blk_far ?_ NB122_124.out _; (with_reducible repeat (first | refine blk_drewN ?_ _ | refine blk_drew ?_ | refine blk_alloc ?_ _)); exact BK122.out⟩
                            have n2_ : Aside0 (((((w36.setCell ⟨gb124, 0, none⟩ (.int .i64 0)).setCell ⟨gb124, 1, none⟩ (.int .i64 2048)).setCell ⟨gb124, 2, none⟩ (.int .i64 (wrap64 ((rd l1 x14_1) - a0_0)))).setCell ⟨gb124, 3, none⟩ (.int .i64 0)).heap[gb124]? = some (.cells #[.int .i64 0, .int .i64 2048, .int .i64 (wrap64 ((rd l1 x14_1) - a0_0)), .int .i64 0] 35 (0, 0))) := ⟨by (with_reducible repeat (first | refine blk_drewN ?_ _ | refine blk_drew ?_ | refine blk_alloc ?_ _)); refine blk_put (cs := #[.int .i64 0, .int .i64 2048, .int .i64 (wrap64 ((rd l1 x14_1) - a0_0)), .int .i64 0]) ?_ 3 _ rfl; (with_reducible repeat (first | refine blk_drewN ?_ _ | refine blk_drew ?_ | refine blk_alloc ?_ _)); refine blk_put (cs := #[.int .i64 0, .int .i64 2048, .int .i64 0, .int .i64 0]) ?_ 2 _ rfl; (with_reducible repeat (first | refine blk_drewN ?_ _ | refine blk_drew ?_ | refine blk_alloc ?_ _)); refine blk_put (cs := #[.int .i64 0, .int .i64 0, .int .i64 0, .int .i64 0]) ?_ 1 _ rfl; (with_reducible repeat (first | refine blk_drewN ?_ _ | refine blk_drew ?_ | refine blk_alloc ?_ _)); refine blk_put (cs := #[.int .i64 0, .int .i64 0, .int .i64 0, .int .i64 0]) ?_ 0 _ rfl; (with_reducible repeat (first | refine blk_drewN ?_ _ | refine blk_drew ?_ | refine blk_alloc ?_ _)); exact BK124.out⟩
                            have n3_ : Aside0 (Below w.heap.size w ((((w36.setCell ⟨gb124, 0, none⟩ (.int .i64 0)).setCell ⟨gb124, 1, none⟩ (.int .i64 2048)).setCell ⟨gb124, 2, none⟩ (.int .i64 (wrap64 ((rd l1 x14_1) - a0_0)))).setCell ⟨gb124, 3, none⟩ (.int .i64 0))) := ⟨by repeat (first | (with_reducible first | exact HB.out | apply below_alloc | apply pw_below_drewN | apply below_drew1 | refine below_set ?_ GE122.out | refine below_set ?_ GE124.out) | exact HB.out)⟩
                            (try clear HO_6)
                            (try clear BK122)
                            (try clear BK124)
                            (try clear HB)
                            generalize ((((w36.setCell ⟨gb124, 0, none⟩ (.int .i64 0)).setCell ⟨gb124, 1, none⟩ (.int .i64 2048)).setCell ⟨gb124, 2, none⟩ (.int .i64 (wrap64 ((rd l1 x14_1) - a0_0)))).setCell ⟨gb124, 3, none⟩ (.int .i64 0)) = w40 at n0_ n1_ n2_ n3_ ⊢
                            have HO_6 := n0_
                            have BK122 := n1_
                            have BK124 := n2_
                            have HB := n3_
                            clear n0_ n1_ n2_ n3_
                            have n0_ := Aside0.mk (Kd.R_drew HO_6.out)
                            have n1_ := Aside0.mk (blk_drew BK122.out)
                            have n2_ := Aside0.mk (blk_drew BK124.out)
                            have n3_ := Aside0.mk (below_drew1 HB.out)
                            clear HO_6
                            clear BK122
                            clear BK124
                            clear HB
                            have HO_6 := n0_
                            have BK122 := n1_
                            have BK124 := n2_
                            have HB := n3_
                            clear n0_ n1_ n2_ n3_
                            have p125 : 0 ≤ ((ji13) : Int) := of_decide_eq_true (by first | (with_reducible assumption) | assumption)
                            have q125 : (ji13) < (x6_1.length : Int) := of_decide_eq_true (by first | (with_reducible assumption) | assumption)
                            obtain ⟨ad125, e125, hx125_0, hx125_1, hx125_2, hx125_3⟩ := at_T35 (Kd.R_reads' HO_6.out).2.2 (ji13) p125 q125
                            cases e125
                            replace p125 := eq_true p125
                            replace q125 := eq_true q125
                            refine start_ (n := 9) (S := fun w' => w'.cell? ⟨gb124, 0, none⟩ = some (.int .i64 0) ∧ w'.cell? ⟨gb124, 1, none⟩ = some (.int .i64 2048) ∧ w'.cell? ⟨gb124, 2, none⟩ = some (.int .i64 (wrap64 ((rd l1 x14_1) - a0_0))) ∧ w'.cell? ⟨gb124, 3, none⟩ = some (.int .i64 0) ∧ w'.cell? (ad125.add (((ji13)).toNat * 4)) = some (.int .i64 ((rd_T35 x6_1 (ji13)).f0)) ∧ w'.cell? ⟨(ad125.add (((ji13)).toNat * 4)).block, (ad125.add (((ji13)).toNat * 4)).off + 1, none⟩ = some (.int .i64 ((rd_T35 x6_1 (ji13)).f1)) ∧ w'.cell? ⟨(ad125.add (((ji13)).toNat * 4)).block, (ad125.add (((ji13)).toNat * 4)).off + 2, none⟩ = some (.int .i64 ((rd_T35 x6_1 (ji13)).f2.f0)) ∧ w'.cell? ⟨(ad125.add (((ji13)).toNat * 4)).block, (ad125.add (((ji13)).toNat * 4)).off + 3, none⟩ = some (.int .i64 ((rd_T35 x6_1 (ji13)).f2.f1))) (ds := []) #[false, false, false, false, false, false, false, false, false] (by kernel_rfl) rfl rfl ⟨(blk_cell BK124.out 0).trans rfl, (blk_cell BK124.out 1).trans rfl, (blk_cell BK124.out 2).trans rfl, (blk_cell BK124.out 3).trans rfl, hx125_0, hx125_1, hx125_2, hx125_3⟩ (fun hHeld => ?_); refine with_tabW metadata_Extents.tab10 metadata_Extents.bits10 (fun HT_ HW_ => ?_)
                            generalize w40.drew = w41 at HO_6 BK122 BK124 HB hx125_0 hx125_1 hx125_2 hx125_3 hHeld ⊢
                            refine pure_ (i := 0) (N := some 41) (v := ?_) (a' := ?_) #[true, false, false, false, false, false, false, false, false] rfl rfl (any_of HT_.out (by kernel_rfl)) (fun _ _ _ h => h) (Or.inl ⟨by rfl, ?_⟩) ?_ ?_
                            rotate_left
                            · intro w'
                              go_simp
                              with_reducible rfl
                            rotate_left
                            · simp only [Act.put, List.setIfInBounds_toArray, List.set_cons_zero, List.set_cons_succ, i64_w, i32_w]
                              rfl
                            refine pure_ (i := 1) (N := some 42) (v := ?_) (a' := ?_) #[true, true, false, false, false, false, false, false, false] rfl rfl (any_of HT_.out (by kernel_rfl)) (fun _ _ _ h => h) (Or.inl ⟨by rfl, ?_⟩) ?_ ?_
                            rotate_left
                            · intro w'
                              go_simp
                              with_reducible rfl
                            rotate_left
                            · simp only [Act.put, List.setIfInBounds_toArray, List.set_cons_zero, List.set_cons_succ, i64_w, i32_w]
                              rfl
                            refine pure_ (i := 2) (N := some 43) (v := ?_) (a' := ?_) #[true, true, true, false, false, false, false, false, false] rfl rfl (any_of HT_.out (by kernel_rfl)) (fun _ _ _ h => h) (Or.inl ⟨by rfl, ?_⟩) ?_ ?_
                            rotate_left
                            · intro w'
                              go_simp
                              with_reducible rfl
                            rotate_left
                            · simp only [Act.put, List.setIfInBounds_toArray, List.set_cons_zero, List.set_cons_succ, i64_w, i32_w]
                              rfl
                            refine pure_ (i := 3) (N := some 44) (v := ?_) (a' := ?_) #[true, true, true, true, false, false, false, false, false] rfl rfl (any_of HT_.out (by kernel_rfl)) (fun _ _ _ h => h) (Or.inl ⟨by rfl, ?_⟩) ?_ ?_
                            rotate_left
                            · intro w'
                              go_simp
                              with_reducible rfl
                            rotate_left
                            · simp only [Act.put, List.setIfInBounds_toArray, List.set_cons_zero, List.set_cons_succ, i64_w, i32_w]
                              rfl
                            refine take_ (i := 4) (N := some 45) (v := ?_) (a' := ?_) #[true, true, true, true, true, false, false, false, false] rfl rfl (take_ofW HT_.out HW_.out (by kernel_rfl)) (fun _ _ _ h => h) (Or.inl ⟨by rfl, ?_⟩) hHeld ?_ ?_
                            rotate_left
                            · rintro w' ⟨s0, s1, s2, s3, s4, s5, s6, s7⟩
                              go_simp
                              with_reducible rfl
                            rotate_left
                            · simp only [Act.put, List.setIfInBounds_toArray, List.set_cons_zero, List.set_cons_succ, i64_w, i32_w]
                              rfl
                            refine take_ (i := 5) (N := some 46) (v := ?_) (a' := ?_) #[true, true, true, true, true, true, false, false, false] rfl rfl (take_ofW HT_.out HW_.out (by kernel_rfl)) (fun _ _ _ h => h) (Or.inl ⟨by rfl, ?_⟩) hHeld ?_ ?_
                            rotate_left
                            · rintro w' ⟨s0, s1, s2, s3, s4, s5, s6, s7⟩
                              go_simp
                              with_reducible rfl
                            rotate_left
                            · simp only [Act.put, List.setIfInBounds_toArray, List.set_cons_zero, List.set_cons_succ, i64_w, i32_w]
                              rfl
                            refine one_ (i := 6) (N := some 47) #[true, true, true, true, true, true, true, false, false] rfl rfl (one_of HT_.out (by kernel_rfl)) (by decide) (fun K hK => ?_)
                            refine Kd.R_lit_step k35 _ 35 ?hg (N := 47) ?hd (xs := ([(⟨(rd_T35 x6_1 (ji13)).f0, (rd_T35 x6_1 (ji13)).f1, (⟨(rd_T35 x6_1 (ji13)).f2.f0, (rd_T35 x6_1 (ji13)).f2.f1⟩ : S33)⟩ : S35), (⟨0, 2048, (⟨wrap64 ((rd l1 x14_1) - a0_0), 0⟩ : S33)⟩ : S35)] : List (S35))) (inner := [.int .i64 ((rd_T35 x6_1 (ji13)).f0), .int .i64 ((rd_T35 x6_1 (ji13)).f1), .int .i64 ((rd_T35 x6_1 (ji13)).f2.f0), .int .i64 ((rd_T35 x6_1 (ji13)).f2.f1), .int .i64 0, .int .i64 2048, .int .i64 (wrap64 ((rd l1 x14_1) - a0_0)), .int .i64 0]) (ok := fun _ => True) (okp := fun _ => True) ?hr ?hp (fun _ hk => hk) trivial (Below.refl _ _) (Nat.le_refl _) (by simp) ?_; (case hd => rfl); (case hg => rfl); (case hr => first | (go_simp; done) | (go_simp; rfl)); (case hp => exact (Reps.c4 (show Kd.M k35 _ _ _ (⟨(rd_T35 x6_1 (ji13)).f0, (rd_T35 x6_1 (ji13)).f1, (⟨(rd_T35 x6_1 (ji13)).f2.f0, (rd_T35 x6_1 (ji13)).f2.f1⟩ : S33)⟩ : S35) [.int .i64 ((rd_T35 x6_1 (ji13)).f0), .int .i64 ((rd_T35 x6_1 (ji13)).f1), .int .i64 ((rd_T35 x6_1 (ji13)).f2.f0), .int .i64 ((rd_T35 x6_1 (ji13)).f2.f1)] from (k35_mkM _ _ _ (⟨(rd_T35 x6_1 (ji13)).f0, (rd_T35 x6_1 (ji13)).f1, (⟨(rd_T35 x6_1 (ji13)).f2.f0, (rd_T35 x6_1 (ji13)).f2.f1⟩ : S33)⟩ : S35) )) (Reps.c4 (show Kd.M k35 _ _ _ (⟨0, 2048, (⟨wrap64 ((rd l1 x14_1) - a0_0), 0⟩ : S33)⟩ : S35) [.int .i64 0, .int .i64 2048, .int .i64 (wrap64 ((rd l1 x14_1) - a0_0)), .int .i64 0] from (k35_mkM _ _ _ (⟨0, 2048, (⟨wrap64 ((rd l1 x14_1) - a0_0), 0⟩ : S33)⟩ : S35) )) (Reps.none _ _))))
                            intro v127 w42 ho43 hb hg_ hnew_
                            have HS4_ := (hb.cell (World.block_lt_of_cell? _ _ (hHeld.2.2.2.2.1))).trans (hHeld.2.2.2.2.1)
                            have HS5_ := (hb.cell (World.block_lt_of_cell? _ _ (hHeld.2.2.2.2.2.1))).trans (hHeld.2.2.2.2.2.1)
                            have HS6_ := (hb.cell (World.block_lt_of_cell? _ _ (hHeld.2.2.2.2.2.2.1))).trans (hHeld.2.2.2.2.2.2.1)
                            have HS7_ := (hb.cell (World.block_lt_of_cell? _ _ (hHeld.2.2.2.2.2.2.2))).trans (hHeld.2.2.2.2.2.2.2)
                            clear hg_ hnew_
                            (first | rw [← Ny126.out] at ho43 | (simp only [Int.reduceToNat] at ho43; rw [← Ny126.out] at ho43))
                            have n0_ := Aside0.mk (Kd.R_elder' (by (with_reducible repeat (first | apply Kd.R_alloc | apply Kd.R_drewN | apply Kd.R_drew)); exact HO_6.out) (Kd.R_base ho43) hb)
                            have n1_ := Aside0.mk (Kd.R_lower (Kd.R_newB (Kd.R_new' ho43 (Kd.R_lt (by (with_reducible repeat (first | apply Kd.R_alloc | apply Kd.R_drewN | apply Kd.R_drew)); exact HO_6.out))) (g := gb124) (o := .cells #[.int .i64 0, .int .i64 2048, .int .i64 (wrap64 ((rd l1 x14_1) - a0_0)), .int .i64 0] 35 (0, 0)) (by (with_reducible repeat (first | refine blk_drewN ?_ _ | refine blk_drew ?_ | refine blk_alloc ?_ _)); exact BK124.out)) (below_size (by repeat (first | (with_reducible first | exact HB.out | apply below_alloc | apply pw_below_drewN | apply below_drew1 | refine below_set ?_ GE122.out | refine below_set ?_ GE124.out) | exact HB.out))))
                            have n2_ := Aside0.mk (blk_below (g := gb122) (o := .cells #[.int .i64 a0_0, .int .i64 a0_1] 23 (0, 0)) (by (with_reducible repeat (first | refine blk_drewN ?_ _ | refine blk_drew ?_ | refine blk_alloc ?_ _)); exact BK122.out) hb)
                            have n3_ := Aside0.mk (blk_below (g := gb124) (o := .cells #[.int .i64 0, .int .i64 2048, .int .i64 (wrap64 ((rd l1 x14_1) - a0_0)), .int .i64 0] 35 (0, 0)) (by (with_reducible repeat (first | refine blk_drewN ?_ _ | refine blk_drew ?_ | refine blk_alloc ?_ _)); exact BK124.out) hb)
                            have n4_ := Aside0.mk (below_step (by repeat (first | (with_reducible first | exact HB.out | apply below_alloc | apply pw_below_drewN | apply below_drew1 | refine below_set ?_ GE122.out | refine below_set ?_ GE124.out) | exact HB.out)) hb)
                            clear HO_6
                            clear BK122
                            clear BK124
                            clear HB
                            have HO_6 := n0_
                            have HO128 := n1_
                            have BK122 := n2_
                            have BK124 := n3_
                            have HB := n4_
                            clear n0_ n1_ n2_ n3_ n4_
                            clear hb ho43
                            obtain ⟨Ao44, co44, eo44⟩ := Kd.R_slice HO128.out
                            (first | subst eo44 | (injection eo44 with f1_ f2_ f3_; have f4_ := f1_.symm; have f5_ := f3_.symm; clear f1_ f2_ f3_; subst f4_; subst f5_))
                            refine hK.out _ _ ⟨(blk_cell BK124.out 0).trans rfl, (blk_cell BK124.out 1).trans rfl, (blk_cell BK124.out 2).trans rfl, (blk_cell BK124.out 3).trans rfl, HS4_, HS5_, HS6_, HS7_⟩ (fun hHeld => ?_)
                            clear hK K
                            refine norm_ (a' := ?_) ?_ ?_
                            rotate_left
                            · show Act.put _ (some 47) _ = _
                              simp only [Act.put, List.setIfInBounds_toArray, List.set_cons_zero, List.set_cons_succ, i64_w, i32_w]
                              rfl
                            refine one_ (i := 7) (N := some 48) #[true, true, true, true, true, true, true, true, false] rfl rfl (one_of HT_.out (by kernel_rfl)) (by decide) (fun K hK => ?_)
                            refine goes_ Try.func21 (by kernel_rfl) rfl #[.slice Ao44 y126.length co44] (by rfl) rfl rfl (by (try simp only [List.map_toArray, List.map_cons, List.map_nil]); first | done | rfl | (simp only [List.length_drop, List.length_take]; rfl)) ?_
                            with_reducible refine (allocation_Join.calls kj6 _ _ y126 t129 _ ?side1 ?side2 A16.out).mono ?_
                            (case side1 => repeat (first | exact (Kd.R_reads' HO128.out).2.2 | (with_reducible refine Kd.C_alloc ?_ _) | (with_reducible refine Kd.C_drewN ?_ _) | (with_reducible refine Kd.C_drew ?_)))
                            (case side2 => exact (Kd.R_reads' HO128.out).2.1)
                            rintro e w45 ⟨v130, rfl, ho0, hb⟩
                            have HS4_ := (hb.cell (World.block_lt_of_cell? _ _ (hHeld.2.2.2.2.1))).trans (hHeld.2.2.2.2.1)
                            have HS5_ := (hb.cell (World.block_lt_of_cell? _ _ (hHeld.2.2.2.2.2.1))).trans (hHeld.2.2.2.2.2.1)
                            have HS6_ := (hb.cell (World.block_lt_of_cell? _ _ (hHeld.2.2.2.2.2.2.1))).trans (hHeld.2.2.2.2.2.2.1)
                            have HS7_ := (hb.cell (World.block_lt_of_cell? _ _ (hHeld.2.2.2.2.2.2.2))).trans (hHeld.2.2.2.2.2.2.2)
                            refine ⟨_, rfl, ?_⟩
                            have n0_ := Aside0.mk (Kd.R_elder' (by (with_reducible repeat (first | apply Kd.R_alloc | apply Kd.R_drewN | apply Kd.R_drew)); exact HO_6.out) (Kd.R_base ho0) hb)
                            have n1_ := Aside0.mk (Kd.R_elder' (by (with_reducible repeat (first | apply Kd.R_alloc | apply Kd.R_drewN | apply Kd.R_drew)); exact HO128.out) (Kd.R_base ho0) hb)
                            have n2_ := Aside0.mk (Kd.R_lower (Kd.R_newB (Kd.R_new' (Kd.R_new' ho0 (Kd.R_lt (by (with_reducible repeat (first | apply Kd.R_alloc | apply Kd.R_drewN | apply Kd.R_drew)); exact HO_6.out))) (Kd.R_lt (by (with_reducible repeat (first | apply Kd.R_alloc | apply Kd.R_drewN | apply Kd.R_drew)); exact HO128.out))) (g := gb124) (o := .cells #[.int .i64 0, .int .i64 2048, .int .i64 (wrap64 ((rd l1 x14_1) - a0_0)), .int .i64 0] 35 (0, 0)) (by (with_reducible repeat (first | refine blk_drewN ?_ _ | refine blk_drew ?_ | refine blk_alloc ?_ _)); exact BK124.out)) (below_size (by repeat (first | (with_reducible first | exact HB.out | apply below_alloc | apply pw_below_drewN | apply below_drew1 | refine below_set ?_ GE122.out | refine below_set ?_ GE124.out) | exact HB.out))))
                            have n3_ := Aside0.mk (blk_below (g := gb122) (o := .cells #[.int .i64 a0_0, .int .i64 a0_1] 23 (0, 0)) (by (with_reducible repeat (first | refine blk_drewN ?_ _ | refine blk_drew ?_ | refine blk_alloc ?_ _)); exact BK122.out) hb)
                            have n4_ := Aside0.mk (blk_below (g := gb124) (o := .cells #[.int .i64 0, .int .i64 2048, .int .i64 (wrap64 ((rd l1 x14_1) - a0_0)), .int .i64 0] 35 (0, 0)) (by (with_reducible repeat (first | refine blk_drewN ?_ _ | refine blk_drew ?_ | refine blk_alloc ?_ _)); exact BK124.out) hb)
                            have n5_ := Aside0.mk (below_step (by repeat (first | (with_reducible first | exact HB.out | apply below_alloc | apply pw_below_drewN | apply below_drew1 | refine below_set ?_ GE122.out | refine below_set ?_ GE124.out) | exact HB.out)) hb)
                            clear HO_6
                            clear HO128
                            clear BK122
                            clear BK124
                            clear HB
                            have HO_6 := n0_
                            have HO128 := n1_
                            have HO131 := n2_
                            have BK122 := n3_
                            have BK124 := n4_
                            have HB := n5_
                            clear n0_ n1_ n2_ n3_ n4_ n5_
                            (try clear hb)
                            (try clear hb2)
                            (try clear hk)
                            (try clear hi)
                            (try clear ho0)
                            refine hK.out _ _ ⟨(blk_cell BK124.out 0).trans rfl, (blk_cell BK124.out 1).trans rfl, (blk_cell BK124.out 2).trans rfl, (blk_cell BK124.out 3).trans rfl, HS4_, HS5_, HS6_, HS7_⟩ (fun hHeld => ?_)
                            clear hK K
                            refine norm_ (a' := ?_) ?_ ?_
                            rotate_left
                            · show Act.put _ (some 48) _ = _
                              simp only [Act.put, List.setIfInBounds_toArray, List.set_cons_zero, List.set_cons_succ, i64_w, i32_w]
                              rfl
                            refine pure_ (i := 8) (N := some 11) (v := ?_) (a' := ?_) #[true, true, true, true, true, true, true, true, true] rfl rfl (any_of HT_.out (by kernel_rfl)) (fun _ _ _ h => h) (Or.inl ⟨by rfl, ?_⟩) ?_ ?_
                            rotate_left
                            · intro w'
                              go_simp
                              with_reducible rfl
                            rotate_left
                            · simp only [Act.put, List.setIfInBounds_toArray, List.set_cons_zero, List.set_cons_succ, i64_w, i32_w]
                              rfl
                            refine done_ (done_of HT_.out (by kernel_rfl)) ?_
                            obtain ⟨Ao46, co46, eo46⟩ := Kd.R_slice HO131.out
                            subst eo46
                            have hcz47_0 : w45.cell? ⟨gb124, 0, none⟩ = some (.int .i64 0) := (blk_cell BK124.out 0).trans rfl
                            have hcz47_1 : w45.cell? ⟨gb124, 1, none⟩ = some (.int .i64 2048) := (blk_cell BK124.out 1).trans rfl
                            have hcz47_2 : w45.cell? ⟨gb124, 2, none⟩ = some (.int .i64 (wrap64 ((rd l1 x14_1) - a0_0))) := (blk_cell BK124.out 2).trans rfl
                            have hcz47_3 : w45.cell? ⟨gb124, 3, none⟩ = some (.int .i64 0) := (blk_cell BK124.out 3).trans rfl
                            have hfz47_0 := blk_frozen BK124.out 0
                            have hfz47_1 := blk_frozen BK124.out 1
                            have hfz47_2 := blk_frozen BK124.out 2
                            have hfz47_3 := blk_frozen BK124.out 3
                            try go_wp2_with (first | ((with_reducible refine gate_builtin (b := .append) (xs := #[.tmp 59, .tmp 61]) rfl ?_); at_builtin; refine Kd.R_append k35 (w0 := w) w.heap.size rfl (.tmp 59) (.tmp 61) 26 35 (.agg #[(.int .i64 0), (.int .i64 0), (.int .i64 0), (.int .i64 0)]) 32 rfl Try.underlying26 info35 rfl (by decide) (by omega) (.slice (some ad125) x6_1.length co39) x6_1 (⟨0, 2048, (⟨wrap64 ((rd l1 x14_1) - a0_0), 0⟩ : S33)⟩ : S35) [.int .i64 0, .int .i64 2048, .int .i64 (wrap64 ((rd l1 x14_1) - a0_0)), .int .i64 0] (fun k_ => some k_ ≠ (.slice Ao44 y126.length co44 : Value).ownBlock ∧ some k_ ≠ (.slice Ao46 t129.length co46 : Value).ownBlock ∧ k_ ≠ gb124) (fun _ => False) rfl rfl ?aP (fun _ hk => hk.elim) ?aF ?aO ?aB ?aS ?aL ?_; (case aP => exact k35_mkM _ _ _ (⟨0, 2048, (⟨wrap64 ((rd l1 x14_1) - a0_0), 0⟩ : S33)⟩ : S35)); (case aB => exact (by repeat (first | (with_reducible first | exact HB.out | apply below_alloc | apply pw_below_drewN | apply below_drew1 | refine below_set ?_ GE122.out | refine below_set ?_ GE124.out) | exact HB.out))); (case aF => exact (fun k_ hk => ⟨Kd.fresh' (Kd.R_lt (by (with_reducible repeat (first | apply Kd.R_alloc | apply Kd.R_drewN | apply Kd.R_drew)); exact HO128.out)) k_ hk, Kd.fresh' (Kd.R_lt (by (with_reducible repeat (first | apply Kd.R_alloc | apply Kd.R_drewN | apply Kd.R_drew)); exact HO131.out)) k_ hk, Kd.freshB (g := gb124) (o := .cells #[.int .i64 0, .int .i64 2048, .int .i64 (wrap64 ((rd l1 x14_1) - a0_0)), .int .i64 0] 35 (0, 0)) (by (with_reducible repeat (first | refine blk_drewN ?_ _ | refine blk_drew ?_ | refine blk_alloc ?_ _)); exact BK124.out) k_ hk⟩)); (case aO => exact (by (with_reducible repeat (first | apply Kd.R_alloc | apply Kd.R_drewN | apply Kd.R_drew)); exact Kd.R_mono HO_6.out (fun _ hk => ⟨hk.1.2, ⟨hk.2, hk.1.1⟩⟩))); (case aS => exact (below_size (by repeat (first | (with_reducible first | exact HB.out | apply below_alloc | apply pw_below_drewN | apply below_drew1 | refine below_set ?_ GE122.out | refine below_set ?_ GE124.out) | exact HB.out)))); (case aL => have := LMc34.out; omega); intro v135 w48 ho hb hg hat; rw [← Ny134.out] at ho; have n0_ := Aside0.mk (blk_grown (g := gb122) (o := .cells #[.int .i64 a0_0, .int .i64 a0_1] 23 (0, 0)) (by (with_reducible repeat (first | refine blk_drewN ?_ _ | refine blk_drew ?_ | refine blk_alloc ?_ _)); exact BK122.out) hg (Kd.R_ne HO_6.out BK122.out (by decide))); have n1_ := Aside0.mk (blk_grown (g := gb124) (o := .cells #[.int .i64 0, .int .i64 2048, .int .i64 (wrap64 ((rd l1 x14_1) - a0_0)), .int .i64 0] 35 (0, 0)) (by (with_reducible repeat (first | refine blk_drewN ?_ _ | refine blk_drew ?_ | refine blk_alloc ?_ _)); exact BK124.out) hg (Kd.R_away HO_6.out (fun _ hk => hk.1.1))); have n2_ := Aside0.mk (Kd.R_after (ok := (fun k_ => some k_ ≠ (.slice Ao46 t129.length co46 : Value).ownBlock ∧ k_ ≠ gb124)) (by (with_reducible repeat (first | apply Kd.R_alloc | apply Kd.R_drewN | apply Kd.R_drew)); exact Kd.R_mono HO128.out (fun _ hk => ⟨⟨hk.2, hk.1.2⟩, hk.1.1.2⟩)) hg hat); have n3_ := Aside0.mk (Kd.R_after (ok := (fun k_ => some k_ ≠ (.slice Ao44 y126.length co44 : Value).ownBlock ∧ k_ ≠ gb124)) (by (with_reducible repeat (first | apply Kd.R_alloc | apply Kd.R_drewN | apply Kd.R_drew)); exact Kd.R_mono HO131.out (fun _ hk => ⟨⟨hk.1.2, hk.2⟩, hk.1.1.2⟩)) hg hat); have n4_ := Aside0.mk (hb); have n5_ := Aside0.mk (ho); clear BK122; clear BK124; clear HO128; clear HO131; clear HB; clear HO_6; have BK122 := n0_; have BK124 := n1_; have HO128 := n2_; have HO131 := n3_; have HB := n4_; have HO136 := n5_; clear n0_ n1_ n2_ n3_ n4_ n5_; clear ho hb hg hat))
                            go_roundg kj6
                            case measure => have := HK1.out; have := HJ6.out; omega
                            case rel => exact ⟨(y134), (wrap64 (x14_1 + 1)), (by first | rfl | (simp; done) | (simp [*]; done)), H', ⟨by have := HK1.out; have := HJ6.out; omega⟩, ⟨by (with_reducible repeat (first | apply Kd.R_alloc | apply Kd.R_drewN | apply Kd.R_drew)); exact Kd.R_mono HO136.out (fun _ hk => trivial)⟩, ⟨by (with_reducible repeat (first | refine blk_drewN ?_ _ | refine blk_drew ?_ | refine blk_alloc ?_ _)); exact BK122.out⟩, ⟨by repeat (first | (with_reducible first | exact HB.out | apply below_alloc | apply pw_below_drewN | apply below_drew1 | refine below_set ?_ GE122.out | refine below_set ?_ GE124.out) | exact HB.out)⟩⟩
                          · rw [if_neg c34] at H
                            exact absurd H (by simp)
                      · rw [if_neg c15] at H
                        exact absurd H (by simp)
                    · rw [if_neg c14] at H
                      exact absurd H (by simp)
                  · rw [if_neg c12] at H
                    have c12b0 : decide (0 < (x6_1.length : Int)) = false := decide_eq_false c12
                    have c12b1 : decide (0 < x6_1.length) = false := decide_eq_false (by omega)
                    clear c12
                    by_cases c49 : x6_1.length < 4398046511104
                    · rw [if_pos c49] at H
                      have LMc49 := Aside0.mk c49
                      clear c49
                      obtain ⟨y137, hy137⟩ : ∃ y_ : List (S35), y_ = (x6_1 ++ [(⟨0, 2048, (⟨wrap64 ((rd l1 x14_1) - a0_0), 0⟩ : S33)⟩ : S35)]) := ⟨_, rfl⟩
                      replace H : (metadata_Extents.l0 kj6 y137 l1 (l1.length : Int) (wrap64 (x14_1 + 1)) a0_0 a0_1) = some (r1, r2) := by first | (rw [hy137]; with_reducible exact H) | (have H2_ := (Option.bind_some _ _).symm.trans H; rw [hy137]; with_reducible exact H2_) | (have H2_ := (Option.bind_some _ _).symm.trans H; with_reducible exact H2_) | with_reducible exact H | (rw [hy137]; exact H) | exact H
                      have Ny137 := Aside0.mk hy137
                      clear hy137
                      have H' := Aside0.mk H
                      clear H
                      have hcz50_0 : wc.cell? ⟨gb122, 0, none⟩ = some (.int .i64 a0_0) := (blk_cell BK122.out 0).trans rfl
                      have hcz50_1 : wc.cell? ⟨gb122, 1, none⟩ = some (.int .i64 a0_1) := (blk_cell BK122.out 1).trans rfl
                      have hfz50_0 := blk_frozen BK122.out 0
                      have hfz50_1 := blk_frozen BK122.out 1
                      go_wp2_with (first | ((with_reducible refine gate_dst (N := 9) rfl ?_); refine box_event ?hg (N := 9) ?hd (cs := #[.int .i64 0, .int .i64 0, .int .i64 0, .int .i64 0]) (t := 35) ?hr ?_; (case hd => rfl); (case hg => rfl); (case hr => first | (go_simp; done) | (go_simp; rfl)); intro gb124 hg w51 hbox hb; have n0_ := Aside0.mk (Kd.R_below (Kd.R_elderB (by (with_reducible repeat (first | apply Kd.R_alloc | apply Kd.R_drewN | apply Kd.R_drew)); exact HO_6.out) gb124 (Nat.le_of_eq hg.symm)) hb); have n1_ := Aside0.mk (blk_below (g := gb122) (o := .cells #[.int .i64 a0_0, .int .i64 a0_1] 23 (0, 0)) (by (with_reducible repeat (first | refine blk_drewN ?_ _ | refine blk_drew ?_ | refine blk_alloc ?_ _)); exact BK122.out) hb); have n2_ := Aside0.mk (below_step (by repeat (first | (with_reducible first | exact HB.out | apply below_alloc | apply pw_below_drewN | apply below_drew1 | refine below_set ?_ GE122.out) | exact HB.out)) hb); have n3_ := Aside0.mk (hbox); have n4_ := Aside0.mk ((by rw [hg]; exact (below_size (by repeat (first | (with_reducible first | exact HB.out | apply below_alloc | apply pw_below_drewN | apply below_drew1 | refine below_set ?_ GE122.out) | exact HB.out))) : w.heap.size ≤ gb124)); have n5_ := Aside0.mk ((by rw [hg]; exact (below_size (by repeat (first | (with_reducible first | exact HB.out | apply below_alloc | apply pw_below_drewN | apply below_drew1 | refine below_set ?_ GE122.out) | exact HB.out))) : w.heap.size ≤ gb124)); have n6_ := Aside0.mk ((by rw [hg]; exact Nat.ne_of_lt (blk_lt (g := gb122) (o := .cells #[.int .i64 a0_0, .int .i64 a0_1] 23 (0, 0)) (by (with_reducible repeat (first | refine blk_drewN ?_ _ | refine blk_drew ?_ | refine blk_alloc ?_ _)); exact BK122.out)) : gb122 ≠ gb124)); have n7_ := Aside0.mk ((by rw [hg]; exact Nat.ne_of_gt (blk_lt (g := gb122) (o := .cells #[.int .i64 a0_0, .int .i64 a0_1] 23 (0, 0)) (by (with_reducible repeat (first | refine blk_drewN ?_ _ | refine blk_drew ?_ | refine blk_alloc ?_ _)); exact BK122.out)) : gb124 ≠ gb122)); clear HO_6; clear BK122; clear HB; have HO_6 := n0_; have BK122 := n1_; have HB := n2_; have BK124 := n3_; have GW124 := n4_; have GE124 := n5_; have NB122_124 := n6_; have NB124_122 := n7_; clear n0_ n1_ n2_ n3_ n4_ n5_ n6_ n7_; clear hb hbox hg; have hnb52 := NB124_122.out; have hnc52 := NB122_124.out; have hcz53_0 : w51.cell? ⟨gb124, 0, none⟩ = some (.int .i64 0) := (blk_cell BK124.out 0).trans rfl; have hcz53_1 : w51.cell? ⟨gb124, 1, none⟩ = some (.int .i64 0) := (blk_cell BK124.out 1).trans rfl; have hcz53_2 : w51.cell? ⟨gb124, 2, none⟩ = some (.int .i64 0) := (blk_cell BK124.out 2).trans rfl; have hcz53_3 : w51.cell? ⟨gb124, 3, none⟩ = some (.int .i64 0) := (blk_cell BK124.out 3).trans rfl; have hfz53_0 := blk_frozen BK124.out 0; have hfz53_1 := blk_frozen BK124.out 1; have hfz53_2 := blk_frozen BK124.out 2; have hfz53_3 := blk_frozen BK124.out 3; obtain ⟨Ao54, co54, eo54⟩ := Kd.R_slice HO_6.out; subst eo54) | ((with_reducible refine gate_builtin (b := .append) (xs := #[.tmp 59, .tmp 61]) rfl ?_); at_builtin; refine Kd.R_append k35 (w0 := w) w.heap.size rfl (.tmp 59) (.tmp 61) 26 35 (.agg #[(.int .i64 0), (.int .i64 0), (.int .i64 0), (.int .i64 0)]) 32 rfl Try.underlying26 info35 rfl (by decide) (by omega) (.slice Ao54 x6_1.length co54) x6_1 (⟨0, 2048, (⟨wrap64 ((rd l1 x14_1) - a0_0), 0⟩ : S33)⟩ : S35) [.int .i64 0, .int .i64 2048, .int .i64 (wrap64 ((rd l1 x14_1) - a0_0)), .int .i64 0] (fun k_ => k_ ≠ gb124) (fun _ => False) rfl (by first | (go_simp; done) | (go_simp; rfl)) ?aP (fun _ hk => hk.elim) ?aF ?aO ?aB ?aS ?aL ?_; (case aP => exact k35_mkM _ _ _ (⟨0, 2048, (⟨wrap64 ((rd l1 x14_1) - a0_0), 0⟩ : S33)⟩ : S35)); (case aB => exact (by repeat (first | (with_reducible first | exact HB.out | apply below_alloc | apply pw_below_drewN | apply below_drew1 | refine below_set ?_ GE122.out | refine below_set ?_ GE124.out) | exact HB.out))); (case aF => exact (fun k_ hk => Kd.freshB (g := gb124) (o := .cells #[.int .i64 0, .int .i64 2048, .int .i64 (wrap64 ((rd l1 x14_1) - a0_0)), .int .i64 0] 35 (0, 0)) (by (with_reducible repeat (first | refine blk_drewN ?_ _ | refine blk_drew ?_ | refine blk_alloc ?_ _)); refine blk_put (cs := #[.int .i64 0, .int .i64 2048, .int .i64 (wrap64 ((rd l1 x14_1) - a0_0)), .int .i64 0]) ?_ 3 _ rfl; (with_reducible repeat (first | refine blk_drewN ?_ _ | refine blk_drew ?_ | refine blk_alloc ?_ _)); refine blk_put (cs := #[.int .i64 0, .int .i64 2048, .int .i64 0, .int .i64 0]) ?_ 2 _ rfl; (with_reducible repeat (first | refine blk_drewN ?_ _ | refine blk_drew ?_ | refine blk_alloc ?_ _)); refine blk_put (cs := #[.int .i64 0, .int .i64 0, .int .i64 0, .int .i64 0]) ?_ 1 _ rfl; (with_reducible repeat (first | refine blk_drewN ?_ _ | refine blk_drew ?_ | refine blk_alloc ?_ _)); refine blk_put (cs := #[.int .i64 0, .int .i64 0, .int .i64 0, .int .i64 0]) ?_ 0 _ rfl; (with_reducible repeat (first | refine blk_drewN ?_ _ | refine blk_drew ?_ | refine blk_alloc ?_ _)); exact BK124.out) k_ hk)); (case aO => exact (by (with_reducible repeat (first | apply Kd.R_alloc | apply Kd.R_drewN | apply Kd.R_drew)); exact Kd.R_mono (Kd.R_far (p := ⟨gb124, 3, none⟩) (Kd.R_far (p := ⟨gb124, 2, none⟩) (Kd.R_far (p := ⟨gb124, 1, none⟩) (Kd.R_far (p := ⟨gb124, 0, none⟩) (Kd.R_mono HO_6.out (fun k_ hk => (⟨hk, hk.2⟩ : _ ∧ k_ ≠ gb124))) (fun _ hk => hk.2) (.int .i64 0)) (fun _ hk => hk.2) (.int .i64 2048)) (fun _ hk => hk.2) (.int .i64 (wrap64 ((rd l1 x14_1) - a0_0)))) (fun _ hk => hk.2) (.int .i64 0)) (fun _ hk => hk.1.2))); (case aS => exact (below_size (by repeat (first | (with_reducible first | exact HB.out | apply below_alloc | apply pw_below_drewN | apply below_drew1 | refine below_set ?_ GE122.out | refine below_set ?_ GE124.out) | exact HB.out)))); (case aL => have := LMc49.out; omega); intro v138 w55 ho hb hg hat; rw [← Ny137.out] at ho; have n0_ := Aside0.mk (blk_grown (g := gb122) (o := .cells #[.int .i64 a0_0, .int .i64 a0_1] 23 (0, 0)) (by (with_reducible repeat (first | refine blk_drewN ?_ _ | refine blk_drew ?_ | refine blk_alloc ?_ _)); refine blk_far ?_ NB122_124.out _; (with_reducible repeat (first | refine blk_drewN ?_ _ | refine blk_drew ?_ | refine blk_alloc ?_ _)); refine blk_far ?_ NB122_124.out _; (with_reducible repeat (first | refine blk_drewN ?_ _ | refine blk_drew ?_ | refine blk_alloc ?_ _)); refine blk_far ?_ NB122_124.out _; (with_reducible repeat (first | refine blk_drewN ?_ _ | refine blk_drew ?_ | refine blk_alloc ?_ _)); refine blk_far ?_ NB122_124.out _; (with_reducible repeat (first | refine blk_drewN ?_ _ | refine blk_drew ?_ | refine blk_alloc ?_ _)); exact BK122.out) hg (Kd.R_ne HO_6.out BK122.out (by decide))); have n1_ := Aside0.mk (blk_grown (g := gb124) (o := .cells #[.int .i64 0, .int .i64 2048, .int .i64 (wrap64 ((rd l1 x14_1) - a0_0)), .int .i64 0] 35 (0, 0)) (by (with_reducible repeat (first | refine blk_drewN ?_ _ | refine blk_drew ?_ | refine blk_alloc ?_ _)); refine blk_put (cs := #[.int .i64 0, .int .i64 2048, .int .i64 (wrap64 ((rd l1 x14_1) - a0_0)), .int .i64 0]) ?_ 3 _ rfl; (with_reducible repeat (first | refine blk_drewN ?_ _ | refine blk_drew ?_ | refine blk_alloc ?_ _)); refine blk_put (cs := #[.int .i64 0, .int .i64 2048, .int .i64 0, .int .i64 0]) ?_ 2 _ rfl; (with_reducible repeat (first | refine blk_drewN ?_ _ | refine blk_drew ?_ | refine blk_alloc ?_ _)); refine blk_put (cs := #[.int .i64 0, .int .i64 0, .int .i64 0, .int .i64 0]) ?_ 1 _ rfl; (with_reducible repeat (first | refine blk_drewN ?_ _ | refine blk_drew ?_ | refine blk_alloc ?_ _)); refine blk_put (cs := #[.int .i64 0, .int .i64 0, .int .i64 0, .int .i64 0]) ?_ 0 _ rfl; (with_reducible repeat (first | refine blk_drewN ?_ _ | refine blk_drew ?_ | refine blk_alloc ?_ _)); exact BK124.out) hg (Kd.R_away HO_6.out (fun _ hk => hk.2))); have n2_ := Aside0.mk (hb); have n3_ := Aside0.mk (ho); clear BK122; clear BK124; clear HB; clear HO_6; have BK122 := n0_; have BK124 := n1_; have HB := n2_; have HO139 := n3_; clear n0_ n1_ n2_ n3_; clear ho hb hg hat))
                      go_roundg kj6
                      case measure => have := HK1.out; have := HJ6.out; omega
                      case rel => exact ⟨(y137), (wrap64 (x14_1 + 1)), (by first | rfl | (simp; done) | (simp [*]; done)), H', ⟨by have := HK1.out; have := HJ6.out; omega⟩, ⟨by (with_reducible repeat (first | apply Kd.R_alloc | apply Kd.R_drewN | apply Kd.R_drew)); exact Kd.R_mono HO139.out (fun _ hk => trivial)⟩, ⟨by (with_reducible repeat (first | refine blk_drewN ?_ _ | refine blk_drew ?_ | refine blk_alloc ?_ _)); exact BK122.out⟩, ⟨by repeat (first | (with_reducible first | exact HB.out | apply below_alloc | apply pw_below_drewN | apply below_drew1 | refine below_set ?_ GE122.out | refine below_set ?_ GE124.out) | exact HB.out)⟩⟩
                    · rw [if_neg c49] at H
                      exact absurd H (by simp)
          · rw [if_neg c6] at H
            exact absurd H (by simp)
        · rw [if_neg c5] at H
          exact absurd H (by simp)
      · rw [if_neg c4] at H
        have c4b0 : decide (x14_1 < (l1.length : Int)) = false := decide_eq_false c4
        clear c4
        by_cases c56 : (x6_1.length : Int) > 64
        · rw [if_pos c56] at H
          have c56b0 : decide (64 < (x6_1.length : Int)) = true := decide_eq_true c56
          have c56b1 : decide (64 < x6_1.length) = true := decide_eq_true (by omega)
          clear c56
          simp only [Option.some.injEq, Prod.mk.injEq] at H
          obtain ⟨rfl, rfl⟩ := H
          obtain ⟨Ao57, co57, eo57⟩ := Kd.R_slice HO_6.out
          subst eo57
          go_wp2
          go_ret2
          exact ⟨_, by first | rfl | (simp [errW_none, errW_some] <;> rfl) | (simp [*, errW_none, errW_some] <;> rfl), by first | exact Kd.R_nil _ _ _ _ _ | exact Kd.N_nil _ _ _ _ _ | exact Kd.V_nil _ _ _ _ _ | exact Kd.Q_nil _ _ _ _ _ | exact Kd.S_nil _ _ _ _ _, by repeat (first | (with_reducible first | exact HB.out | apply below_alloc | apply pw_below_drewN | apply below_drew1 | refine below_set ?_ GE122.out) | exact HB.out)⟩
        · rw [if_neg c56] at H
          have c56b0 : decide (64 < (x6_1.length : Int)) = false := decide_eq_false c56
          have c56b1 : decide (64 < x6_1.length) = false := decide_eq_false (by omega)
          clear c56
          simp only [Option.some.injEq, Prod.mk.injEq] at H
          obtain ⟨rfl, rfl⟩ := H
          obtain ⟨Ao58, co58, eo58⟩ := Kd.R_slice HO_6.out
          subst eo58
          go_wp2
          go_ret2
          exact ⟨_, by first | rfl | (simp [errW_none, errW_some] <;> rfl) | (simp [*, errW_none, errW_some] <;> rfl), by (with_reducible repeat (first | apply Kd.R_alloc | apply Kd.R_drewN | apply Kd.R_drew)); exact HO_6.out, by repeat (first | (with_reducible first | exact HB.out | apply below_alloc | apply pw_below_drewN | apply below_drew1 | refine below_set ?_ GE122.out) | exact HB.out)⟩

/-! ### metadata_Rounded: function 12 -/
def metadata_Rounded.f (a0 : Int) : Option (Int) := if a0 < 0 then (some 0) else (if a0 > 4096 then (some 0) else (some (wrap64 ((wrap64 (Int.tdiv (wrap64 ((wrap64 (a0 + 8)) - 1)) 8)) * 8))))
set_option maxHeartbeats 8000000 in
set_option maxRecDepth 100000 in
theorem metadata_Rounded.calls (a0 : Int) (r : Int) (w : World) (h : metadata_Rounded.f a0 = some r) :
    Calls Try.prog 12 #[.int .i64 a0] w fun e w' => e = .returned (.int .i64 r) ∧ Drawn0 w w' := by
  have H : (if a0 < 0 then (some 0) else (if a0 > 4096 then (some 0) else (some (wrap64 ((wrap64 (Int.tdiv (wrap64 ((wrap64 (a0 + 8)) - 1)) 8)) * 8))))) = some r := h
  clear h
  by_cases c2 : a0 < 0
  · rw [if_pos c2] at H
    have c2b0 : decide (a0 < 0) = true := decide_eq_true c2
    clear c2
    obtain rfl := Option.some.inj H
    go_enter Try.func12, Try.ntmps12
    go_wp2
    go_ret
    exact ⟨by first | rfl | (simp; done) | (simp [*]; done), by repeat (first | exact Drawn0.refl _ | apply Drawn0.step)⟩
  · rw [if_neg c2] at H
    have c2b0 : decide (a0 < 0) = false := decide_eq_false c2
    clear c2
    by_cases c3 : a0 > 4096
    · rw [if_pos c3] at H
      have c3b0 : decide (4096 < a0) = true := decide_eq_true c3
      clear c3
      obtain rfl := Option.some.inj H
      go_enter Try.func12, Try.ntmps12
      go_wp2
      go_ret
      exact ⟨by first | rfl | (simp; done) | (simp [*]; done), by repeat (first | exact Drawn0.refl _ | apply Drawn0.step)⟩
    · rw [if_neg c3] at H
      have c3b0 : decide (4096 < a0) = false := decide_eq_false c3
      clear c3
      obtain rfl := Option.some.inj H
      go_enter Try.func12, Try.ntmps12
      go_wp2
      go_ret
      exact ⟨by first | rfl | (simp; done) | (simp [*]; done), by repeat (first | exact Drawn0.refl _ | apply Drawn0.step)⟩

end Go.Proofs.Yticmghpnbjhhnaa.M
