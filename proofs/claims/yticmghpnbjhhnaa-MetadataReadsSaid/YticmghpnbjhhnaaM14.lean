/- Lean functions with the answers of the Go functions that they are named after, and the walks that tie the Go functions to them (written by the program mp.py of this session). -/
import Derived.Test.YticmghpnbjhhnaaM0
import Derived.Test.YticmghpnbjhhnaaM12
import Derived.Test.YticmghpnbjhhnaaM13
namespace Go.Proofs.Yticmghpnbjhhnaa.M
open Go.RowKit Go.Proofs.YticmghpnbjhhnaaW.PrintWords Go.Proofs.YticmghpnbjhhnaaW.PrintLast Go.Proofs.YticmghpnbjhhnaaW.PrintMore
attribute [local go_sem] max2_int min2_int max_two min_two max_three min_three max_four min_four   -- for this text's walks alone
set_option linter.unusedVariables false
set_option linter.unusedSimpArgs false

/-! ### masterdiscref33_Locate: function 41 -/
mutual
def masterdiscref33_Locate.j0 : Nat → List (S35) → Int → Bool → Option (Int × Int × Int × Int)
  | 0, _, _, _ => none
  | k + 1, x0, x1, x20 => if x20 = true then (some (0, 0, 0, 2)) else (masterdiscref33_Locate.l0 k x0 x1 0)
def masterdiscref33_Locate.l0 : Nat → List (S35) → Int → Int → Option (Int × Int × Int × Int)
  | 0, _, _, _ => none
  | k + 1, x0, x1, x7 => if 0 ≤ x7 then (if x7 < (x0.length : Int) then ((masterdiscref33_Count.f ((rd_T35 x0 x7).f1)).bind fun t253 => (if x1 ≥ t253 then ((masterdiscref33_Count.f ((rd_T35 x0 x7).f1)).bind fun t255 => (masterdiscref33_Locate.l0 k x0 (wrap64 (x1 - t255)) (wrap64 (x7 + 1)))) else (some (wrap64 (((rd_T35 x0 x7).f2.f0) + x1), (rd_T35 x0 x7).f2.f1, (rd_T35 x0 x7).f0, 0)))) else (none)) else (none)
end
def masterdiscref33_Locate.f (k : Nat) (l0 : List (S35)) (a1 : Int) : Option (Int × Int × Int × Int) := (masterdiscref33_Valid.f k l0).bind fun t249 => (if t249 = true then (if a1 < 0 then (masterdiscref33_Locate.j0 k l0 a1 true) else ((masterdiscref33_Length.f k l0).bind fun t250 => ((masterdiscref33_Count.f t250).bind fun t251 => (masterdiscref33_Locate.j0 k l0 a1 (decide (a1 ≥ t251)))))) else (some (0, 0, 0, 1)))
theorem masterdiscref33_Locate.mono_l : ∀ k, (∀ y0 y1 y2, LeO (masterdiscref33_Locate.j0 k y0 y1 y2) (masterdiscref33_Locate.j0 (k + 1) y0 y1 y2)) ∧ (∀ y0 y1 y2, LeO (masterdiscref33_Locate.l0 k y0 y1 y2) (masterdiscref33_Locate.l0 (k + 1) y0 y1 y2))
  | 0 => ⟨fun _ _ _ r h => by simp [masterdiscref33_Locate.j0] at h, fun _ _ _ r h => by simp [masterdiscref33_Locate.l0] at h⟩
  | k + 1 => by
    obtain ⟨ih0, ih1⟩ := masterdiscref33_Locate.mono_l k
    refine ⟨?_, ?_⟩
    · intro y0 y1 y2
      unfold masterdiscref33_Locate.j0
      repeat' first
      | (with_reducible exact ih0 _ _ _)
      | (with_reducible exact ih1 _ _ _)
      | (with_reducible exact masterdiscref33_Length.mono _ _)
      | (with_reducible exact masterdiscref33_Valid.mono _ _)
      | (with_reducible exact LeO.refl _)
      | (with_reducible exact LeO.none _)
      | (with_reducible refine LeO.ite ?_ ?_)
      | (with_reducible refine LeO.bind ?_ (fun _ => ?_))
      | exact ih0 _ _ _
      | exact ih1 _ _ _
      | exact masterdiscref33_Length.mono _ _
      | exact masterdiscref33_Valid.mono _ _
      | exact LeO.none _
      | refine LeO.ite ?_ ?_
      | refine LeO.bind ?_ (fun _ => ?_)
    · intro y0 y1 y2
      unfold masterdiscref33_Locate.l0
      repeat' first
      | (with_reducible exact ih0 _ _ _)
      | (with_reducible exact ih1 _ _ _)
      | (with_reducible exact masterdiscref33_Length.mono _ _)
      | (with_reducible exact masterdiscref33_Valid.mono _ _)
      | (with_reducible exact LeO.refl _)
      | (with_reducible exact LeO.none _)
      | (with_reducible refine LeO.ite ?_ ?_)
      | (with_reducible refine LeO.bind ?_ (fun _ => ?_))
      | exact ih0 _ _ _
      | exact ih1 _ _ _
      | exact masterdiscref33_Length.mono _ _
      | exact masterdiscref33_Valid.mono _ _
      | exact LeO.none _
      | refine LeO.ite ?_ ?_
      | refine LeO.bind ?_ (fun _ => ?_)
theorem masterdiscref33_Locate.mono : ∀ a0 a1 k, LeO (masterdiscref33_Locate.f k a0 a1) (masterdiscref33_Locate.f (k + 1) a0 a1) := by
  intro a0 a1 k
  obtain ⟨ih0, ih1⟩ := masterdiscref33_Locate.mono_l k
  unfold masterdiscref33_Locate.f
  repeat' first
      | (with_reducible exact ih0 _ _ _)
      | (with_reducible exact ih1 _ _ _)
      | (with_reducible exact masterdiscref33_Length.mono _ _)
      | (with_reducible exact masterdiscref33_Valid.mono _ _)
      | (with_reducible exact LeO.refl _)
      | (with_reducible exact LeO.none _)
      | (with_reducible refine LeO.ite ?_ ?_)
      | (with_reducible refine LeO.bind ?_ (fun _ => ?_))
      | exact ih0 _ _ _
      | exact ih1 _ _ _
      | exact masterdiscref33_Length.mono _ _
      | exact masterdiscref33_Valid.mono _ _
      | exact LeO.none _
      | refine LeO.ite ?_ ?_
      | refine LeO.bind ?_ (fun _ => ?_)
def masterdiscref33_Locate.T9 : Bool × List (List Nat × List Nat) := (true, [([], []), ([], []), ([0, 1], [0, 1]), ([2], [2]), ([3], [3]), ([4], [4]), ([], []), ([5, 6], [5, 6]), ([], []), ([], []), ([8, 9], [8, 9]), ([10], [10]), ([11], [11]), ([12], [12]), ([7, 13], [7, 13]), ([], []), ([], []), ([15, 16], [15, 16]), ([17], [17]), ([18], [18]), ([14, 0, 1, 2, 3, 4, 5, 6, 7, 8, 9, 10, 11, 12, 13, 14], [14]), ([19, 20, 0, 1, 2, 3, 4, 5, 6, 7, 8, 9, 10, 11, 12, 13, 14, 15, 16, 17, 18, 19, 20], [19]), ([21, 0, 1, 2, 3, 4, 5, 6, 7, 8, 9, 10, 11, 12, 13, 14, 15, 16, 17, 18, 19, 20, 21], [])])
def masterdiscref33_Locate.B9 : List Nat := [0, 0, 3, 7, 15, 31, 0, 127, 0, 0, 768, 1792, 3840, 7936, 16383, 0, 0, 98304, 229376, 491520, 32767, 2097151, 4194303]
theorem masterdiscref33_Locate.tab9 : rtab .any (opsOf Try.f41 9) = masterdiscref33_Locate.T9 := by kernel_rfl
theorem masterdiscref33_Locate.bits9 : waitsOk masterdiscref33_Locate.T9.2 masterdiscref33_Locate.B9 = true := by kernel_rfl
set_option maxHeartbeats 8000000 in
set_option maxRecDepth 100000 in
theorem masterdiscref33_Locate.calls (k : Nat) (A0 : Option Addr) (c0 : Nat) (l0 : List (S35)) (a1 : Int) (r1 : Int) (r2 : Int) (r3 : Int) (r4 : Int) (w : World) (hr0 : Kd.C k35 w A0 l0.length l0) (hc0 : l0.length ≤ c0) (h : masterdiscref33_Locate.f k l0 a1 = some (r1, r2, r3, r4)) :
    Calls Try.prog 41 #[.slice A0 l0.length c0, .int .i64 a1] w fun e w' => e = .returned (.tuple #[.agg #[.int .i64 r1, .int .i64 r2], .int .i64 r3, .int .i64 r4]) ∧ Below w.heap.size w w' := by
  have hu33 := Try.underlying33
  have HR0 := Aside0.mk hr0
  have HC0 := Aside0.mk hc0
  clear hr0 hc0
  have HB := Aside0.mk (Below.refl w.heap.size w)
  have H : ((masterdiscref33_Valid.f k l0).bind fun t249 => (if t249 = true then (if a1 < 0 then (masterdiscref33_Locate.j0 k l0 a1 true) else ((masterdiscref33_Length.f k l0).bind fun t250 => ((masterdiscref33_Count.f t250).bind fun t251 => (masterdiscref33_Locate.j0 k l0 a1 (decide (a1 ≥ t251)))))) else (some (0, 0, 0, 1)))) = some (r1, r2, r3, r4) := h
  clear h
  replace H := Option.bind_eq_some_iff.mp H
  obtain ⟨t249, A30, H⟩ := H
  replace H : (if t249 = true then (if a1 < 0 then (masterdiscref33_Locate.j0 k l0 a1 true) else ((masterdiscref33_Length.f k l0).bind fun t250 => ((masterdiscref33_Count.f t250).bind fun t251 => (masterdiscref33_Locate.j0 k l0 a1 (decide (a1 ≥ t251)))))) else (some (0, 0, 0, 1))) = some (r1, r2, r3, r4) := H
  have A3 := Aside0.mk A30
  clear A30
  by_cases c4 : t249 = true
  · subst c4
    have H1 : (if a1 < 0 then (masterdiscref33_Locate.j0 k l0 a1 true) else ((masterdiscref33_Length.f k l0).bind fun t250 => ((masterdiscref33_Count.f t250).bind fun t251 => (masterdiscref33_Locate.j0 k l0 a1 (decide (a1 ≥ t251)))))) = some (r1, r2, r3, r4) := by rw [if_pos rfl] at H; exact H
    clear H
    have H := H1
    clear H1
    have HC5 := Aside0.mk H
    clear H
    go_enter Try.func41, Try.ntmps41
    go_upto_region 3 with (first | ((with_reducible refine gate_dst (N := 4) rfl ?_); refine box_event ?hg (N := 4) ?hd (cs := #[.int .i64 0, .int .i64 0]) (t := 33) ?hr ?_; (case hd => rfl); (case hg => rfl); (case hr => first | (go_simp; done) | (go_simp; rfl)); intro gb248 hg w6 hbox hb; have n0_ := Aside0.mk (below_step (by repeat (first | (with_reducible first | exact HB.out | apply below_alloc | apply pw_below_drewN | apply below_drew1) | exact HB.out)) hb); have n1_ := Aside0.mk (hbox); have n2_ := Aside0.mk ((by rw [hg]; exact (below_size (by repeat (first | (with_reducible first | exact HB.out | apply below_alloc | apply pw_below_drewN | apply below_drew1) | exact HB.out))) : w.heap.size ≤ gb248)); have n3_ := Aside0.mk ((by rw [hg]; exact (below_size (by repeat (first | (with_reducible first | exact HB.out | apply below_alloc | apply pw_below_drewN | apply below_drew1) | exact HB.out))) : w.heap.size ≤ gb248)); clear HB; have HB := n0_; have BK248 := n1_; have GW248 := n2_; have GE248 := n3_; clear n0_ n1_ n2_ n3_; clear hb hbox hg) | ((with_reducible refine gate_callee (f := 42) rfl ?_); refine goesL_ (some 9) rfl rfl Try.func42 (by kernel_rfl) rfl #[.slice A0 l0.length c0] rfl (by (try simp only [List.map_toArray, List.map_cons, List.map_nil]); first | done | rfl | (simp only [List.length_drop, List.length_take]; rfl)) ?_; (with_reducible refine (masterdiscref33_Valid.calls k _ _ l0 true _ ?side1 ?side2 A3.out).mono ?_); (case side1 => repeat (first | exact (Kd.C_below HR0.out HB.out) | (with_reducible refine Kd.C_alloc ?_ _) | (with_reducible refine Kd.C_drewN ?_ _) | (with_reducible refine Kd.C_drew ?_))); (case side2 => exact HC0.out); rintro e w7 ⟨rfl, hb⟩; refine ⟨_, rfl, ?_⟩; have n0_ := Aside0.mk (blk_below (g := gb248) (o := .cells #[.int .i64 0, .int .i64 0] 33 (0, 0)) (by (with_reducible repeat (first | refine blk_drewN ?_ _ | refine blk_drew ?_ | refine blk_alloc ?_ _)); exact BK248.out) hb); have n1_ := Aside0.mk (below_step (by repeat (first | (with_reducible first | exact HB.out | apply below_alloc | apply pw_below_drewN | apply below_drew1 | refine below_set ?_ GE248.out) | exact HB.out)) hb); clear BK248; clear HB; have BK248 := n0_; have HB := n1_; clear n0_ n1_; (try clear hb); (try clear hb2); (try clear hk); (try clear hi)))
    (try simp only [Act.put, List.setIfInBounds_toArray, List.set_cons_zero, List.set_cons_succ])
    go_cut [20] (fun v20 wc => ∃ (kq : Nat) (x20_4 : Bool), v20 = .bool x20_4 ∧ Aside0 (masterdiscref33_Locate.j0 kq l0 a1 x20_4 = some (r1, r2, r3, r4)) ∧ Aside0 (kq ≤ k) ∧ Aside0 (wc.heap[gb248]? = some (.cells #[.int .i64 0, .int .i64 0] 33 (0, 0))) ∧ Aside0 (Below w.heap.size w wc))
    case first =>
      have H := HC5.out
      clear HC5
      by_cases c8 : a1 < 0
      · rw [if_pos c8] at H
        have c8b0 : decide (a1 < 0) = true := decide_eq_true c8
        clear c8
        (first | rw [c8b0] | (simp only [i64_w, i32_w]; rw [c8b0]) | skip)
        have H' := Aside0.mk H
        clear H
        go_wp2
        go_meet
        case rel => exact ⟨_, (true), (by first | rfl | (simp; done) | (simp [*]; done)), H', ⟨by first | omega | exact Nat.le_refl _⟩, ⟨by (with_reducible repeat (first | refine blk_drewN ?_ _ | refine blk_drew ?_ | refine blk_alloc ?_ _)); exact BK248.out⟩, ⟨by repeat (first | (with_reducible first | exact HB.out | apply below_alloc | apply pw_below_drewN | apply below_drew1 | refine below_set ?_ GE248.out) | exact HB.out)⟩⟩
      · rw [if_neg c8] at H
        have c8b0 : decide (a1 < 0) = false := decide_eq_false c8
        clear c8
        (first | rw [c8b0] | (simp only [i64_w, i32_w]; rw [c8b0]) | skip)
        replace H := Option.bind_eq_some_iff.mp H
        obtain ⟨t250, A90, H⟩ := H
        replace H : ((masterdiscref33_Count.f t250).bind fun t251 => (masterdiscref33_Locate.j0 k l0 a1 (decide (a1 ≥ t251)))) = some (r1, r2, r3, r4) := H
        have A9 := Aside0.mk A90
        clear A90
        replace H := Option.bind_eq_some_iff.mp H
        obtain ⟨t251, A100, H⟩ := H
        replace H : (masterdiscref33_Locate.j0 k l0 a1 (decide (a1 ≥ t251))) = some (r1, r2, r3, r4) := H
        have A10 := Aside0.mk A100
        clear A100
        have H' := Aside0.mk H
        clear H
        go_wp2_with (first | (go_at_call 44; (with_reducible refine (masterdiscref33_Length.calls k _ _ l0 t250 _ ?side1 ?side2 A9.out).mono ?_); (case side1 => repeat (first | exact (Kd.C_below HR0.out HB.out) | (with_reducible refine Kd.C_alloc ?_ _) | (with_reducible refine Kd.C_drewN ?_ _) | (with_reducible refine Kd.C_drew ?_))); (case side2 => exact HC0.out); rintro e w11 ⟨rfl, hb⟩; have n0_ := Aside0.mk (blk_below (g := gb248) (o := .cells #[.int .i64 0, .int .i64 0] 33 (0, 0)) (by (with_reducible repeat (first | refine blk_drewN ?_ _ | refine blk_drew ?_ | refine blk_alloc ?_ _)); exact BK248.out) hb); have n1_ := Aside0.mk (below_step (by repeat (first | (with_reducible first | exact HB.out | apply below_alloc | apply pw_below_drewN | apply below_drew1 | refine below_set ?_ GE248.out) | exact HB.out)) hb); clear BK248; clear HB; have BK248 := n0_; have HB := n1_; clear n0_ n1_; (try clear hb); (try clear hb2); (try clear hk); (try clear hi)) | (go_at_call 43; (with_reducible refine (masterdiscref33_Count.calls t250 t251 _ A10.out).mono ?_); rintro e w' ⟨rfl, ⟨nd, rfl⟩⟩))
        go_meet
        case rel => exact ⟨_, (decide (a1 ≥ t251)), (by first | rfl | (simp; done) | (simp [*]; done)), H', ⟨by first | omega | exact Nat.le_refl _⟩, ⟨by (with_reducible repeat (first | refine blk_drewN ?_ _ | refine blk_drew ?_ | refine blk_alloc ?_ _)); exact BK248.out⟩, ⟨by repeat (first | (with_reducible first | exact HB.out | apply below_alloc | apply pw_below_drewN | apply below_drew1 | refine below_set ?_ GE248.out) | exact HB.out)⟩⟩
    case rest =>
      clear HC5
      try clear p2
      try clear c4
      try clear c8
      try clear c8b0
      obtain ⟨kq, x20_4, rfl, HA, HJ4, BK248, HB⟩ := hcut
      cases kq with
      | zero => exact absurd HA.out (by simp [masterdiscref33_Locate.j0])
      | succ kj4 =>
        have H := HA.out
        clear HA
        simp only [masterdiscref33_Locate.j0] at H
        by_cases c12 : x20_4 = true
        · subst c12
          have H1 : (some (0, 0, 0, 2)) = some (r1, r2, r3, r4) := by rw [if_pos rfl] at H; exact H
          clear H
          have H := H1
          clear H1
          simp only [Option.some.injEq, Prod.mk.injEq] at H
          obtain ⟨rfl, rfl, rfl, rfl⟩ := H
          have hcz13_0 : wc.cell? ⟨gb248, 0, none⟩ = some (.int .i64 0) := (blk_cell BK248.out 0).trans rfl
          have hcz13_1 : wc.cell? ⟨gb248, 1, none⟩ = some (.int .i64 0) := (blk_cell BK248.out 1).trans rfl
          have hfz13_0 := blk_frozen BK248.out 0
          have hfz13_1 := blk_frozen BK248.out 1
          go_wp2
          refine bodyPost_ret (results_ctt rfl _ _ gb248 33 #[.int .i64 0, .int .i64 0] (0, 0) _ rfl (by (with_reducible repeat (first | refine blk_drewN ?_ _ | refine blk_drew ?_ | refine blk_alloc ?_ _)); refine blk_put (cs := #[.int .i64 0, .int .i64 0]) ?_ 1 _ rfl; (with_reducible repeat (first | refine blk_drewN ?_ _ | refine blk_drew ?_ | refine blk_alloc ?_ _)); refine blk_put (cs := #[.int .i64 0, .int .i64 0]) ?_ 0 _ rfl; (with_reducible repeat (first | refine blk_drewN ?_ _ | refine blk_drew ?_ | refine blk_alloc ?_ _)); exact BK248.out) Try.underlying33 rfl (by kernel_rfl)) rfl ?_
          exact ⟨by first | rfl | (simp [errW_none, errW_some] <;> rfl) | (simp [*, errW_none, errW_some] <;> rfl), by repeat (first | (with_reducible first | exact HB.out | apply below_alloc | apply pw_below_drewN | apply below_drew1 | refine below_set ?_ GE248.out) | exact HB.out)⟩
        · replace c12 := Bool.eq_false_iff.mpr c12
          subst c12
          have H1 : (masterdiscref33_Locate.l0 kj4 l0 a1 0) = some (r1, r2, r3, r4) := by rw [if_neg (show ¬ (false = true) by decide)] at H; exact H
          clear H
          have H := H1
          clear H1
          have H' := Aside0.mk H
          clear H
          go_wp2
          go_loopg [1, 7] kj4 (fun kq v1 v7 w' => ∃ (x1_2 : Int) (x7_2 : Int), v1 = .int .i64 x1_2 ∧ v7 = .int .i64 x7_2 ∧ Aside0 (masterdiscref33_Locate.l0 kq l0 x1_2 x7_2 = some (r1, r2, r3, r4)) ∧ Aside0 (kq ≤ kj4) ∧ Aside0 (w'.heap[gb248]? = some (.cells #[.int .i64 0, .int .i64 0] 33 (0, 0))) ∧ Aside0 (Below w.heap.size w w'))
          case atStart => exact ⟨(a1), (0), (by first | rfl | (simp; done) | (simp [*]; done)), (by first | rfl | (simp; done) | (simp [*]; done)), H', ⟨Nat.le_refl _⟩, ⟨by (with_reducible repeat (first | refine blk_drewN ?_ _ | refine blk_drew ?_ | refine blk_alloc ?_ _)); exact BK248.out⟩, ⟨by repeat (first | (with_reducible first | exact HB.out | apply below_alloc | apply pw_below_drewN | apply below_drew1 | refine below_set ?_ GE248.out) | exact HB.out)⟩⟩
          case round =>
            clear H'
            try clear c1
            try clear p2
            try clear c4
            try clear c8
            try clear c8b0
            try clear c12
            try clear hcz13_0
            try clear hcz13_1
            try clear hfz13_0
            try clear hfz13_1
            try clear p2
            obtain ⟨x1_2, x7_2, rfl, rfl, HA, HK2, BK248, HB⟩ := hrel
            cases gk with
            | zero => exact absurd HA.out (by simp [masterdiscref33_Locate.l0])
            | succ k2 =>
              have H := HA.out
              clear HA
              simp only [masterdiscref33_Locate.l0] at H
              by_cases c14 : 0 ≤ x7_2
              · rw [if_pos c14] at H
                have c14b0 : decide (0 ≤ x7_2) = true := decide_eq_true c14
                clear c14
                by_cases c15 : x7_2 < (l0.length : Int)
                · rw [if_pos c15] at H
                  have c15b0 : decide (x7_2 < (l0.length : Int)) = true := decide_eq_true c15
                  clear c15
                  replace H := Option.bind_eq_some_iff.mp H
                  obtain ⟨t253, A160, H⟩ := H
                  replace H : (if x1_2 ≥ t253 then ((masterdiscref33_Count.f ((rd_T35 l0 x7_2).f1)).bind fun t255 => (masterdiscref33_Locate.l0 k2 l0 (wrap64 (x1_2 - t255)) (wrap64 (x7_2 + 1)))) else (some (wrap64 (((rd_T35 l0 x7_2).f2.f0) + x1_2), (rd_T35 l0 x7_2).f2.f1, (rd_T35 l0 x7_2).f0, 0))) = some (r1, r2, r3, r4) := H
                  have A16 := Aside0.mk A160
                  clear A160
                  by_cases c17 : x1_2 ≥ t253
                  · rw [if_pos c17] at H
                    have c17b0 : decide (t253 ≤ x1_2) = true := decide_eq_true c17
                    clear c17
                    replace H := Option.bind_eq_some_iff.mp H
                    obtain ⟨t255, A180, H⟩ := H
                    replace H : (masterdiscref33_Locate.l0 k2 l0 (wrap64 (x1_2 - t255)) (wrap64 (x7_2 + 1))) = some (r1, r2, r3, r4) := H
                    have A18 := Aside0.mk A180
                    clear A180
                    have H' := Aside0.mk H
                    clear H
                    have p252 : 0 ≤ (x7_2 : Int) := of_decide_eq_true (by first | (with_reducible assumption) | assumption)
                    have q252 : x7_2 < (l0.length : Int) := of_decide_eq_true (by first | (with_reducible assumption) | assumption)
                    obtain ⟨ad252, e252, hx252_0, hx252_1, hx252_2, hx252_3⟩ := at_T35 HR0.out x7_2 p252 q252
                    cases e252
                    replace hx252_0 := (HB.out.cell (World.block_lt_of_cell? w _ hx252_0)).trans hx252_0
                    replace hx252_1 := (HB.out.cell (World.block_lt_of_cell? w _ hx252_1)).trans hx252_1
                    replace hx252_2 := (HB.out.cell (World.block_lt_of_cell? w _ hx252_2)).trans hx252_2
                    replace hx252_3 := (HB.out.cell (World.block_lt_of_cell? w _ hx252_3)).trans hx252_3
                    replace p252 := eq_true p252
                    replace q252 := eq_true q252
                    go_wp2_with (first | ((with_reducible refine gate_callee (f := 43) rfl ?_); refine goesL_ (some 28) rfl rfl Try.func43 (by kernel_rfl) rfl #[.int .i64 ((rd_T35 l0 x7_2).f1)] rfl (by (try simp only [List.map_toArray, List.map_cons, List.map_nil]); first | done | rfl | (simp only [List.length_drop, List.length_take]; rfl)) ?_; (with_reducible refine (masterdiscref33_Count.calls ((rd_T35 l0 x7_2).f1) t253 _ A16.out).mono ?_); rintro e w' ⟨rfl, ⟨nd, rfl⟩⟩; refine ⟨_, rfl, ?_⟩; have p254 : 0 ≤ (x7_2 : Int) := of_decide_eq_true (by first | (with_reducible assumption) | assumption); have q254 : x7_2 < (l0.length : Int) := of_decide_eq_true (by first | (with_reducible assumption) | assumption); obtain ⟨ad254, e254, hx254_0, hx254_1, hx254_2, hx254_3⟩ := at_T35 HR0.out x7_2 p254 q254; obtain rfl : ad252 = ad254 := (by injection e254); replace hx254_0 := (HB.out.cell (World.block_lt_of_cell? w _ hx254_0)).trans hx254_0; replace hx254_1 := (HB.out.cell (World.block_lt_of_cell? w _ hx254_1)).trans hx254_1; replace hx254_2 := (HB.out.cell (World.block_lt_of_cell? w _ hx254_2)).trans hx254_2; replace hx254_3 := (HB.out.cell (World.block_lt_of_cell? w _ hx254_3)).trans hx254_3; replace p254 := eq_true p254; replace q254 := eq_true q254) | ((with_reducible refine gate_callee (f := 43) rfl ?_); refine goesL_ (some 36) rfl rfl Try.func43 (by kernel_rfl) rfl #[.int .i64 ((rd_T35 l0 x7_2).f1)] rfl (by (try simp only [List.map_toArray, List.map_cons, List.map_nil]); first | done | rfl | (simp only [List.length_drop, List.length_take]; rfl)) ?_; (with_reducible refine (masterdiscref33_Count.calls ((rd_T35 l0 x7_2).f1) t255 _ A18.out).mono ?_); rintro e w' ⟨rfl, ⟨nd, rfl⟩⟩; refine ⟨_, rfl, ?_⟩))
                    go_roundg k2
                    case measure => have := HJ4.out; have := HK2.out; omega
                    case rel => exact ⟨(wrap64 (x1_2 - t255)), (wrap64 (x7_2 + 1)), (by first | rfl | (simp; done) | (simp [*]; done)), (by first | rfl | (simp; done) | (simp [*]; done)), H', ⟨by have := HJ4.out; have := HK2.out; omega⟩, ⟨by (with_reducible repeat (first | refine blk_drewN ?_ _ | refine blk_drew ?_ | refine blk_alloc ?_ _)); exact BK248.out⟩, ⟨by repeat (first | (with_reducible first | exact HB.out | apply below_alloc | apply pw_below_drewN | apply below_drew1 | refine below_set ?_ GE248.out) | exact HB.out)⟩⟩
                  · rw [if_neg c17] at H
                    have c17b0 : decide (t253 ≤ x1_2) = false := decide_eq_false c17
                    clear c17
                    simp only [Option.some.injEq, Prod.mk.injEq] at H
                    obtain ⟨rfl, rfl, rfl, rfl⟩ := H
                    have p252 : 0 ≤ (x7_2 : Int) := of_decide_eq_true (by first | (with_reducible assumption) | assumption)
                    have q252 : x7_2 < (l0.length : Int) := of_decide_eq_true (by first | (with_reducible assumption) | assumption)
                    obtain ⟨ad252, e252, hx252_0, hx252_1, hx252_2, hx252_3⟩ := at_T35 HR0.out x7_2 p252 q252
                    cases e252
                    replace hx252_0 := (HB.out.cell (World.block_lt_of_cell? w _ hx252_0)).trans hx252_0
                    replace hx252_1 := (HB.out.cell (World.block_lt_of_cell? w _ hx252_1)).trans hx252_1
                    replace hx252_2 := (HB.out.cell (World.block_lt_of_cell? w _ hx252_2)).trans hx252_2
                    replace hx252_3 := (HB.out.cell (World.block_lt_of_cell? w _ hx252_3)).trans hx252_3
                    replace p252 := eq_true p252
                    replace q252 := eq_true q252
                    try go_wp2_with (first | ((with_reducible refine gate_callee (f := 43) rfl ?_); refine goesL_ (some 28) rfl rfl Try.func43 (by kernel_rfl) rfl #[.int .i64 ((rd_T35 l0 x7_2).f1)] rfl (by (try simp only [List.map_toArray, List.map_cons, List.map_nil]); first | done | rfl | (simp only [List.length_drop, List.length_take]; rfl)) ?_; (with_reducible refine (masterdiscref33_Count.calls ((rd_T35 l0 x7_2).f1) t253 _ A16.out).mono ?_); rintro e w' ⟨rfl, ⟨nd, rfl⟩⟩; refine ⟨_, rfl, ?_⟩; (try (rw [drewN_self wr]; generalize hq_ : World.drewN wr _ = wr; have n0_ : Aside0 (wr.heap[gb248]? = some (.cells #[.int .i64 0, .int .i64 0] 33 (0, 0))) := ⟨by rw [← hq_]; exact (by (with_reducible repeat (first | refine blk_drewN ?_ _ | refine blk_drew ?_ | refine blk_alloc ?_ _)); exact BK248.out)⟩; have n1_ : Aside0 (Below w.heap.size w wr) := ⟨by rw [← hq_]; exact (by repeat (first | (with_reducible first | exact HB.out | apply below_alloc | apply pw_below_drewN | apply below_drew1 | refine below_set ?_ GE248.out) | exact HB.out))⟩; clear BK248 HB hq_; have BK248 := n0_; have HB := n1_; clear n0_ n1_))))
                    have n0_ := Aside0.mk (blk_drew BK248.out)
                    have n1_ := Aside0.mk (below_drew1 HB.out)
                    clear BK248
                    clear HB
                    have BK248 := n0_
                    have HB := n1_
                    clear n0_ n1_
                    have p256 : 0 ≤ (x7_2 : Int) := of_decide_eq_true (by first | (with_reducible assumption) | assumption)
                    have q256 : x7_2 < (l0.length : Int) := of_decide_eq_true (by first | (with_reducible assumption) | assumption)
                    obtain ⟨ad256, e256, hx256_0, hx256_1, hx256_2, hx256_3⟩ := at_T35 HR0.out x7_2 p256 q256
                    have hw256_3 := hx256_3
                    have hw256_2 := hx256_2
                    have hw256_1 := hx256_1
                    have hw256_0 := hx256_0
                    obtain rfl : ad252 = ad256 := (by injection e256)
                    replace hx256_0 := (HB.out.cell (World.block_lt_of_cell? w _ hx256_0)).trans hx256_0
                    replace hx256_1 := (HB.out.cell (World.block_lt_of_cell? w _ hx256_1)).trans hx256_1
                    replace hx256_2 := (HB.out.cell (World.block_lt_of_cell? w _ hx256_2)).trans hx256_2
                    replace hx256_3 := (HB.out.cell (World.block_lt_of_cell? w _ hx256_3)).trans hx256_3
                    replace p256 := eq_true p256
                    replace q256 := eq_true q256
                    have p257 : 0 ≤ (x7_2 : Int) := of_decide_eq_true (by first | (with_reducible assumption) | assumption)
                    have q257 : x7_2 < (l0.length : Int) := of_decide_eq_true (by first | (with_reducible assumption) | assumption)
                    obtain ⟨ad257, e257, hx257_0, hx257_1, hx257_2, hx257_3⟩ := at_T35 HR0.out x7_2 p257 q257
                    have hw257_3 := hx257_3
                    have hw257_2 := hx257_2
                    have hw257_1 := hx257_1
                    have hw257_0 := hx257_0
                    obtain rfl : ad252 = ad257 := (by injection e257)
                    replace hx257_0 := (HB.out.cell (World.block_lt_of_cell? w _ hx257_0)).trans hx257_0
                    replace hx257_1 := (HB.out.cell (World.block_lt_of_cell? w _ hx257_1)).trans hx257_1
                    replace hx257_2 := (HB.out.cell (World.block_lt_of_cell? w _ hx257_2)).trans hx257_2
                    replace hx257_3 := (HB.out.cell (World.block_lt_of_cell? w _ hx257_3)).trans hx257_3
                    replace p257 := eq_true p257
                    replace q257 := eq_true q257
                    have p258 : 0 ≤ (x7_2 : Int) := of_decide_eq_true (by first | (with_reducible assumption) | assumption)
                    have q258 : x7_2 < (l0.length : Int) := of_decide_eq_true (by first | (with_reducible assumption) | assumption)
                    obtain ⟨ad258, e258, hx258_0, hx258_1, hx258_2, hx258_3⟩ := at_T35 HR0.out x7_2 p258 q258
                    have hw258_3 := hx258_3
                    have hw258_2 := hx258_2
                    have hw258_1 := hx258_1
                    have hw258_0 := hx258_0
                    obtain rfl : ad252 = ad258 := (by injection e258)
                    replace hx258_0 := (HB.out.cell (World.block_lt_of_cell? w _ hx258_0)).trans hx258_0
                    replace hx258_1 := (HB.out.cell (World.block_lt_of_cell? w _ hx258_1)).trans hx258_1
                    replace hx258_2 := (HB.out.cell (World.block_lt_of_cell? w _ hx258_2)).trans hx258_2
                    replace hx258_3 := (HB.out.cell (World.block_lt_of_cell? w _ hx258_3)).trans hx258_3
                    replace p258 := eq_true p258
                    replace q258 := eq_true q258
                    refine start_ (n := 23) (S := fun w' => w'.cell? (ad252.add ((x7_2).toNat * 4)) = some (.int .i64 ((rd_T35 l0 x7_2).f0)) ∧ w'.cell? ⟨(ad252.add ((x7_2).toNat * 4)).block, (ad252.add ((x7_2).toNat * 4)).off + 1, none⟩ = some (.int .i64 ((rd_T35 l0 x7_2).f1)) ∧ w'.cell? ⟨(ad252.add ((x7_2).toNat * 4)).block, (ad252.add ((x7_2).toNat * 4)).off + 2, none⟩ = some (.int .i64 ((rd_T35 l0 x7_2).f2.f0)) ∧ w'.cell? ⟨(ad252.add ((x7_2).toNat * 4)).block, (ad252.add ((x7_2).toNat * 4)).off + 3, none⟩ = some (.int .i64 ((rd_T35 l0 x7_2).f2.f1)) ∧ w'.cell? (ad252.add ((x7_2).toNat * 4)) = some (.int .i64 ((rd_T35 l0 x7_2).f0)) ∧ w'.cell? ⟨(ad252.add ((x7_2).toNat * 4)).block, (ad252.add ((x7_2).toNat * 4)).off + 1, none⟩ = some (.int .i64 ((rd_T35 l0 x7_2).f1)) ∧ w'.cell? ⟨(ad252.add ((x7_2).toNat * 4)).block, (ad252.add ((x7_2).toNat * 4)).off + 2, none⟩ = some (.int .i64 ((rd_T35 l0 x7_2).f2.f0)) ∧ w'.cell? ⟨(ad252.add ((x7_2).toNat * 4)).block, (ad252.add ((x7_2).toNat * 4)).off + 3, none⟩ = some (.int .i64 ((rd_T35 l0 x7_2).f2.f1)) ∧ w'.cell? (ad252.add ((x7_2).toNat * 4)) = some (.int .i64 ((rd_T35 l0 x7_2).f0)) ∧ w'.cell? ⟨(ad252.add ((x7_2).toNat * 4)).block, (ad252.add ((x7_2).toNat * 4)).off + 1, none⟩ = some (.int .i64 ((rd_T35 l0 x7_2).f1)) ∧ w'.cell? ⟨(ad252.add ((x7_2).toNat * 4)).block, (ad252.add ((x7_2).toNat * 4)).off + 2, none⟩ = some (.int .i64 ((rd_T35 l0 x7_2).f2.f0)) ∧ w'.cell? ⟨(ad252.add ((x7_2).toNat * 4)).block, (ad252.add ((x7_2).toNat * 4)).off + 3, none⟩ = some (.int .i64 ((rd_T35 l0 x7_2).f2.f1))) (ds := []) #[false, false, false, false, false, false, false, false, false, false, false, false, false, false, false, false, false, false, false, false, false, false, false] (by kernel_rfl) rfl rfl ⟨((HB.out.cell (World.block_lt_of_cell? w _ hw256_0)).trans hw256_0), ((HB.out.cell (World.block_lt_of_cell? w _ hw256_1)).trans hw256_1), ((HB.out.cell (World.block_lt_of_cell? w _ hw256_2)).trans hw256_2), ((HB.out.cell (World.block_lt_of_cell? w _ hw256_3)).trans hw256_3), ((HB.out.cell (World.block_lt_of_cell? w _ hw257_0)).trans hw257_0), ((HB.out.cell (World.block_lt_of_cell? w _ hw257_1)).trans hw257_1), ((HB.out.cell (World.block_lt_of_cell? w _ hw257_2)).trans hw257_2), ((HB.out.cell (World.block_lt_of_cell? w _ hw257_3)).trans hw257_3), ((HB.out.cell (World.block_lt_of_cell? w _ hw258_0)).trans hw258_0), ((HB.out.cell (World.block_lt_of_cell? w _ hw258_1)).trans hw258_1), ((HB.out.cell (World.block_lt_of_cell? w _ hw258_2)).trans hw258_2), ((HB.out.cell (World.block_lt_of_cell? w _ hw258_3)).trans hw258_3)⟩ (fun hHeld => ?_); refine with_tabW masterdiscref33_Locate.tab9 masterdiscref33_Locate.bits9 (fun HT_ HW_ => ?_)
                    generalize wr.drew = w19 at BK248 HB hx256_0 hx256_1 hx256_2 hx256_3 hx257_0 hx257_1 hx257_2 hx257_3 hx258_0 hx258_1 hx258_2 hx258_3 hHeld ⊢
                    refine pure_ (i := 0) (N := some 40) (v := ?_) (a' := ?_) #[true, false, false, false, false, false, false, false, false, false, false, false, false, false, false, false, false, false, false, false, false, false, false] rfl rfl (any_of HT_.out (by kernel_rfl)) (fun _ _ _ h => h) (Or.inl ⟨by rfl, ?_⟩) ?_ ?_
                    rotate_left
                    · intro w'
                      go_simp
                      with_reducible rfl
                    rotate_left
                    · simp only [Act.put, List.setIfInBounds_toArray, List.set_cons_zero, List.set_cons_succ, i64_w, i32_w]
                      rfl
                    refine pure_ (i := 1) (N := some 41) (v := ?_) (a' := ?_) #[true, true, false, false, false, false, false, false, false, false, false, false, false, false, false, false, false, false, false, false, false, false, false] rfl rfl (any_of HT_.out (by kernel_rfl)) (fun _ _ _ h => h) (Or.inl ⟨by rfl, ?_⟩) ?_ ?_
                    rotate_left
                    · intro w'
                      go_simp
                      with_reducible rfl
                    rotate_left
                    · simp only [Act.put, List.setIfInBounds_toArray, List.set_cons_zero, List.set_cons_succ, i64_w, i32_w]
                      rfl
                    refine pure_ (i := 2) (N := some 42) (v := ?_) (a' := ?_) #[true, true, true, false, false, false, false, false, false, false, false, false, false, false, false, false, false, false, false, false, false, false, false] rfl rfl (any_of HT_.out (by kernel_rfl)) (fun _ _ _ h => h) (Or.inl ⟨by rfl, ?_⟩) ?_ ?_
                    rotate_left
                    · intro w'
                      go_simp
                      with_reducible rfl
                    rotate_left
                    · simp only [Act.put, List.setIfInBounds_toArray, List.set_cons_zero, List.set_cons_succ, i64_w, i32_w]
                      rfl
                    refine pure_ (i := 3) (N := some 43) (v := ?_) (a' := ?_) #[true, true, true, true, false, false, false, false, false, false, false, false, false, false, false, false, false, false, false, false, false, false, false] rfl rfl (any_of HT_.out (by kernel_rfl)) (fun _ _ _ h => h) (Or.inl ⟨by rfl, ?_⟩) ?_ ?_
                    rotate_left
                    · intro w'
                      go_simp
                      with_reducible rfl
                    rotate_left
                    · simp only [Act.put, List.setIfInBounds_toArray, List.set_cons_zero, List.set_cons_succ, i64_w, i32_w]
                      rfl
                    refine pure_ (i := 4) (N := some 44) (v := ?_) (a' := ?_) #[true, true, true, true, true, false, false, false, false, false, false, false, false, false, false, false, false, false, false, false, false, false, false] rfl rfl (any_of HT_.out (by kernel_rfl)) (fun _ _ _ h => h) (Or.inl ⟨by rfl, ?_⟩) ?_ ?_
                    rotate_left
                    · intro w'
                      go_simp
                      with_reducible rfl
                    rotate_left
                    · simp only [Act.put, List.setIfInBounds_toArray, List.set_cons_zero, List.set_cons_succ, i64_w, i32_w]
                      rfl
                    refine pure_ (i := 6) (N := some 46) (v := ?_) (a' := ?_) #[true, true, true, true, true, false, true, false, false, false, false, false, false, false, false, false, false, false, false, false, false, false, false] rfl rfl (any_of HT_.out (by kernel_rfl)) (fun _ _ _ h => h) (Or.inl ⟨by rfl, ?_⟩) ?_ ?_
                    rotate_left
                    · intro w'
                      go_simp
                      with_reducible rfl
                    rotate_left
                    · simp only [Act.put, List.setIfInBounds_toArray, List.set_cons_zero, List.set_cons_succ, i64_w, i32_w]
                      rfl
                    refine pure_ (i := 8) (N := some 48) (v := ?_) (a' := ?_) #[true, true, true, true, true, false, true, false, true, false, false, false, false, false, false, false, false, false, false, false, false, false, false] rfl rfl (any_of HT_.out (by kernel_rfl)) (fun _ _ _ h => h) (Or.inl ⟨by rfl, ?_⟩) ?_ ?_
                    rotate_left
                    · intro w'
                      go_simp
                      with_reducible rfl
                    rotate_left
                    · simp only [Act.put, List.setIfInBounds_toArray, List.set_cons_zero, List.set_cons_succ, i64_w, i32_w]
                      rfl
                    refine pure_ (i := 9) (N := some 49) (v := ?_) (a' := ?_) #[true, true, true, true, true, false, true, false, true, true, false, false, false, false, false, false, false, false, false, false, false, false, false] rfl rfl (any_of HT_.out (by kernel_rfl)) (fun _ _ _ h => h) (Or.inl ⟨by rfl, ?_⟩) ?_ ?_
                    rotate_left
                    · intro w'
                      go_simp
                      with_reducible rfl
                    rotate_left
                    · simp only [Act.put, List.setIfInBounds_toArray, List.set_cons_zero, List.set_cons_succ, i64_w, i32_w]
                      rfl
                    refine pure_ (i := 10) (N := some 50) (v := ?_) (a' := ?_) #[true, true, true, true, true, false, true, false, true, true, true, false, false, false, false, false, false, false, false, false, false, false, false] rfl rfl (any_of HT_.out (by kernel_rfl)) (fun _ _ _ h => h) (Or.inl ⟨by rfl, ?_⟩) ?_ ?_
                    rotate_left
                    · intro w'
                      go_simp
                      with_reducible rfl
                    rotate_left
                    · simp only [Act.put, List.setIfInBounds_toArray, List.set_cons_zero, List.set_cons_succ, i64_w, i32_w]
                      rfl
                    refine pure_ (i := 11) (N := some 51) (v := ?_) (a' := ?_) #[true, true, true, true, true, false, true, false, true, true, true, true, false, false, false, false, false, false, false, false, false, false, false] rfl rfl (any_of HT_.out (by kernel_rfl)) (fun _ _ _ h => h) (Or.inl ⟨by rfl, ?_⟩) ?_ ?_
                    rotate_left
                    · intro w'
                      go_simp
                      with_reducible rfl
                    rotate_left
                    · simp only [Act.put, List.setIfInBounds_toArray, List.set_cons_zero, List.set_cons_succ, i64_w, i32_w]
                      rfl
                    refine pure_ (i := 12) (N := some 52) (v := ?_) (a' := ?_) #[true, true, true, true, true, false, true, false, true, true, true, true, true, false, false, false, false, false, false, false, false, false, false] rfl rfl (any_of HT_.out (by kernel_rfl)) (fun _ _ _ h => h) (Or.inl ⟨by rfl, ?_⟩) ?_ ?_
                    rotate_left
                    · intro w'
                      go_simp
                      with_reducible rfl
                    rotate_left
                    · simp only [Act.put, List.setIfInBounds_toArray, List.set_cons_zero, List.set_cons_succ, i64_w, i32_w]
                      rfl
                    refine pure_ (i := 15) (N := some 55) (v := ?_) (a' := ?_) #[true, true, true, true, true, false, true, false, true, true, true, true, true, false, false, true, false, false, false, false, false, false, false] rfl rfl (any_of HT_.out (by kernel_rfl)) (fun _ _ _ h => h) (Or.inl ⟨by rfl, ?_⟩) ?_ ?_
                    rotate_left
                    · intro w'
                      go_simp
                      with_reducible rfl
                    rotate_left
                    · simp only [Act.put, List.setIfInBounds_toArray, List.set_cons_zero, List.set_cons_succ, i64_w, i32_w]
                      rfl
                    refine pure_ (i := 16) (N := some 56) (v := ?_) (a' := ?_) #[true, true, true, true, true, false, true, false, true, true, true, true, true, false, false, true, true, false, false, false, false, false, false] rfl rfl (any_of HT_.out (by kernel_rfl)) (fun _ _ _ h => h) (Or.inl ⟨by rfl, ?_⟩) ?_ ?_
                    rotate_left
                    · intro w'
                      go_simp
                      with_reducible rfl
                    rotate_left
                    · simp only [Act.put, List.setIfInBounds_toArray, List.set_cons_zero, List.set_cons_succ, i64_w, i32_w]
                      rfl
                    refine pure_ (i := 17) (N := some 57) (v := ?_) (a' := ?_) #[true, true, true, true, true, false, true, false, true, true, true, true, true, false, false, true, true, true, false, false, false, false, false] rfl rfl (any_of HT_.out (by kernel_rfl)) (fun _ _ _ h => h) (Or.inl ⟨by rfl, ?_⟩) ?_ ?_
                    rotate_left
                    · intro w'
                      go_simp
                      with_reducible rfl
                    rotate_left
                    · simp only [Act.put, List.setIfInBounds_toArray, List.set_cons_zero, List.set_cons_succ, i64_w, i32_w]
                      rfl
                    refine pure_ (i := 18) (N := some 58) (v := ?_) (a' := ?_) #[true, true, true, true, true, false, true, false, true, true, true, true, true, false, false, true, true, true, true, false, false, false, false] rfl rfl (any_of HT_.out (by kernel_rfl)) (fun _ _ _ h => h) (Or.inl ⟨by rfl, ?_⟩) ?_ ?_
                    rotate_left
                    · intro w'
                      go_simp
                      with_reducible rfl
                    rotate_left
                    · simp only [Act.put, List.setIfInBounds_toArray, List.set_cons_zero, List.set_cons_succ, i64_w, i32_w]
                      rfl
                    refine take_ (i := 5) (N := some 45) (v := ?_) (a' := ?_) #[true, true, true, true, true, true, true, false, true, true, true, true, true, false, false, true, true, true, true, false, false, false, false] rfl rfl (take_ofW HT_.out HW_.out (by kernel_rfl)) (fun _ _ _ h => h) (Or.inl ⟨by rfl, ?_⟩) hHeld ?_ ?_
                    rotate_left
                    · rintro w' ⟨s0, s1, s2, s3, s4, s5, s6, s7, s8, s9, s10, s11⟩
                      go_simp
                      with_reducible rfl
                    rotate_left
                    · simp only [Act.put, List.setIfInBounds_toArray, List.set_cons_zero, List.set_cons_succ, i64_w, i32_w]
                      rfl
                    refine pure_ (i := 7) (N := some 47) (v := ?_) (a' := ?_) #[true, true, true, true, true, true, true, true, true, true, true, true, true, false, false, true, true, true, true, false, false, false, false] rfl rfl (any_of HT_.out (by kernel_rfl)) (fun _ _ _ h => h) (Or.inl ⟨by rfl, ?_⟩) ?_ ?_
                    rotate_left
                    · intro w'
                      go_simp
                      with_reducible rfl
                    rotate_left
                    · simp only [Act.put, List.setIfInBounds_toArray, List.set_cons_zero, List.set_cons_succ, i64_w, i32_w]
                      rfl
                    refine take_ (i := 13) (N := some 53) (v := ?_) (a' := ?_) #[true, true, true, true, true, true, true, true, true, true, true, true, true, true, false, true, true, true, true, false, false, false, false] rfl rfl (take_ofW HT_.out HW_.out (by kernel_rfl)) (fun _ _ _ h => h) (Or.inl ⟨by rfl, ?_⟩) hHeld ?_ ?_
                    rotate_left
                    · rintro w' ⟨s0, s1, s2, s3, s4, s5, s6, s7, s8, s9, s10, s11⟩
                      go_simp
                      with_reducible rfl
                    rotate_left
                    · simp only [Act.put, List.setIfInBounds_toArray, List.set_cons_zero, List.set_cons_succ, i64_w, i32_w]
                      rfl
                    refine pure_ (i := 14) (N := some 54) (v := ?_) (a' := ?_) #[true, true, true, true, true, true, true, true, true, true, true, true, true, true, true, true, true, true, true, false, false, false, false] rfl rfl (any_of HT_.out (by kernel_rfl)) (fun _ _ _ h => h) (Or.inl ⟨by rfl, ?_⟩) ?_ ?_
                    rotate_left
                    · intro w'
                      go_simp
                      with_reducible rfl
                    rotate_left
                    · simp only [Act.put, List.setIfInBounds_toArray, List.set_cons_zero, List.set_cons_succ, i64_w, i32_w]
                      rfl
                    refine take_ (i := 19) (N := some 59) (v := ?_) (a' := ?_) #[true, true, true, true, true, true, true, true, true, true, true, true, true, true, true, true, true, true, true, true, false, false, false] rfl rfl (take_ofW HT_.out HW_.out (by kernel_rfl)) (fun _ _ _ h => h) (Or.inl ⟨by rfl, ?_⟩) hHeld ?_ ?_
                    rotate_left
                    · rintro w' ⟨s0, s1, s2, s3, s4, s5, s6, s7, s8, s9, s10, s11⟩
                      go_simp
                      with_reducible rfl
                    rotate_left
                    · simp only [Act.put, List.setIfInBounds_toArray, List.set_cons_zero, List.set_cons_succ, i64_w, i32_w]
                      rfl
                    refine one_ (i := 20) (N := none) #[true, true, true, true, true, true, true, true, true, true, true, true, true, true, true, true, true, true, true, true, true, false, false] rfl rfl (one_of HT_.out (by kernel_rfl)) (by decide) (fun K hK => ?_)
                    have hs20 : w19.cell? ⟨gb248, 0, none⟩ = some (.int .i64 0) := (blk_cell BK248.out 0).trans rfl
                    have hfs20 := blk_frozen BK248.out 0
                    have hs21 : w19.cell? ⟨gb248, 1, none⟩ = some (.int .i64 0) := (blk_cell BK248.out 1).trans rfl
                    have hfs21 := blk_frozen BK248.out 1
                    refine skip_ (w1 := ?_) (by rfl) rfl ?_ ?_
                    rotate_left
                    · go_simp
                      rfl
                    refine hK.out _ _ ⟨((cell_far (p := ⟨gb248, _, none⟩) (by first | exact Nat.ne_of_lt (Nat.lt_of_lt_of_le (by have := World.block_lt_of_cell? _ _ hw256_0; first | rwa [add_block] at this | exact this) GW248.out) | (rw [add_block]; exact Nat.ne_of_lt (Nat.lt_of_lt_of_le (by have := World.block_lt_of_cell? _ _ hw256_0; first | rwa [add_block] at this | exact this) GW248.out)) | (show (Addr.add _ _).block ≠ _; rw [add_block]; exact Nat.ne_of_lt (Nat.lt_of_lt_of_le (by have := World.block_lt_of_cell? _ _ hw256_0; first | rwa [add_block] at this | exact this) GW248.out)) | (dsimp only; exact Nat.ne_of_lt (Nat.lt_of_lt_of_le (by have := World.block_lt_of_cell? _ _ hw256_0; first | rwa [add_block] at this | exact this) GW248.out))) _).trans (((cell_far (p := ⟨gb248, _, none⟩) (by first | exact Nat.ne_of_lt (Nat.lt_of_lt_of_le (by have := World.block_lt_of_cell? _ _ hw256_0; first | rwa [add_block] at this | exact this) GW248.out) | (rw [add_block]; exact Nat.ne_of_lt (Nat.lt_of_lt_of_le (by have := World.block_lt_of_cell? _ _ hw256_0; first | rwa [add_block] at this | exact this) GW248.out)) | (show (Addr.add _ _).block ≠ _; rw [add_block]; exact Nat.ne_of_lt (Nat.lt_of_lt_of_le (by have := World.block_lt_of_cell? _ _ hw256_0; first | rwa [add_block] at this | exact this) GW248.out)) | (dsimp only; exact Nat.ne_of_lt (Nat.lt_of_lt_of_le (by have := World.block_lt_of_cell? _ _ hw256_0; first | rwa [add_block] at this | exact this) GW248.out))) _).trans (hHeld.1)))), ((cell_far (p := ⟨gb248, _, none⟩) (by first | exact Nat.ne_of_lt (Nat.lt_of_lt_of_le (by have := World.block_lt_of_cell? _ _ hw256_1; first | rwa [add_block] at this | exact this) GW248.out) | (rw [add_block]; exact Nat.ne_of_lt (Nat.lt_of_lt_of_le (by have := World.block_lt_of_cell? _ _ hw256_1; first | rwa [add_block] at this | exact this) GW248.out)) | (show (Addr.add _ _).block ≠ _; rw [add_block]; exact Nat.ne_of_lt (Nat.lt_of_lt_of_le (by have := World.block_lt_of_cell? _ _ hw256_1; first | rwa [add_block] at this | exact this) GW248.out)) | (dsimp only; exact Nat.ne_of_lt (Nat.lt_of_lt_of_le (by have := World.block_lt_of_cell? _ _ hw256_1; first | rwa [add_block] at this | exact this) GW248.out))) _).trans (((cell_far (p := ⟨gb248, _, none⟩) (by first | exact Nat.ne_of_lt (Nat.lt_of_lt_of_le (by have := World.block_lt_of_cell? _ _ hw256_1; first | rwa [add_block] at this | exact this) GW248.out) | (rw [add_block]; exact Nat.ne_of_lt (Nat.lt_of_lt_of_le (by have := World.block_lt_of_cell? _ _ hw256_1; first | rwa [add_block] at this | exact this) GW248.out)) | (show (Addr.add _ _).block ≠ _; rw [add_block]; exact Nat.ne_of_lt (Nat.lt_of_lt_of_le (by have := World.block_lt_of_cell? _ _ hw256_1; first | rwa [add_block] at this | exact this) GW248.out)) | (dsimp only; exact Nat.ne_of_lt (Nat.lt_of_lt_of_le (by have := World.block_lt_of_cell? _ _ hw256_1; first | rwa [add_block] at this | exact this) GW248.out))) _).trans (hHeld.2.1)))), ((cell_far (p := ⟨gb248, _, none⟩) (by first | exact Nat.ne_of_lt (Nat.lt_of_lt_of_le (by have := World.block_lt_of_cell? _ _ hw256_2; first | rwa [add_block] at this | exact this) GW248.out) | (rw [add_block]; exact Nat.ne_of_lt (Nat.lt_of_lt_of_le (by have := World.block_lt_of_cell? _ _ hw256_2; first | rwa [add_block] at this | exact this) GW248.out)) | (show (Addr.add _ _).block ≠ _; rw [add_block]; exact Nat.ne_of_lt (Nat.lt_of_lt_of_le (by have := World.block_lt_of_cell? _ _ hw256_2; first | rwa [add_block] at this | exact this) GW248.out)) | (dsimp only; exact Nat.ne_of_lt (Nat.lt_of_lt_of_le (by have := World.block_lt_of_cell? _ _ hw256_2; first | rwa [add_block] at this | exact this) GW248.out))) _).trans (((cell_far (p := ⟨gb248, _, none⟩) (by first | exact Nat.ne_of_lt (Nat.lt_of_lt_of_le (by have := World.block_lt_of_cell? _ _ hw256_2; first | rwa [add_block] at this | exact this) GW248.out) | (rw [add_block]; exact Nat.ne_of_lt (Nat.lt_of_lt_of_le (by have := World.block_lt_of_cell? _ _ hw256_2; first | rwa [add_block] at this | exact this) GW248.out)) | (show (Addr.add _ _).block ≠ _; rw [add_block]; exact Nat.ne_of_lt (Nat.lt_of_lt_of_le (by have := World.block_lt_of_cell? _ _ hw256_2; first | rwa [add_block] at this | exact this) GW248.out)) | (dsimp only; exact Nat.ne_of_lt (Nat.lt_of_lt_of_le (by have := World.block_lt_of_cell? _ _ hw256_2; first | rwa [add_block] at this | exact this) GW248.out))) _).trans (hHeld.2.2.1)))), ((cell_far (p := ⟨gb248, _, none⟩) (by first | exact Nat.ne_of_lt (Nat.lt_of_lt_of_le (by have := World.block_lt_of_cell? _ _ hw256_3; first | rwa [add_block] at this | exact this) GW248.out) | (rw [add_block]; exact Nat.ne_of_lt (Nat.lt_of_lt_of_le (by have := World.block_lt_of_cell? _ _ hw256_3; first | rwa [add_block] at this | exact this) GW248.out)) | (show (Addr.add _ _).block ≠ _; rw [add_block]; exact Nat.ne_of_lt (Nat.lt_of_lt_of_le (by have := World.block_lt_of_cell? _ _ hw256_3; first | rwa [add_block] at this | exact this) GW248.out)) | (dsimp only; exact Nat.ne_of_lt (Nat.lt_of_lt_of_le (by have := World.block_lt_of_cell? _ _ hw256_3; first | rwa [add_block] at this | exact this) GW248.out))) _).trans (((cell_far (p := ⟨gb248, _, none⟩) (by first | exact Nat.ne_of_lt (Nat.lt_of_lt_of_le (by have := World.block_lt_of_cell? _ _ hw256_3; first | rwa [add_block] at this | exact this) GW248.out) | (rw [add_block]; exact Nat.ne_of_lt (Nat.lt_of_lt_of_le (by have := World.block_lt_of_cell? _ _ hw256_3; first | rwa [add_block] at this | exact this) GW248.out)) | (show (Addr.add _ _).block ≠ _; rw [add_block]; exact Nat.ne_of_lt (Nat.lt_of_lt_of_le (by have := World.block_lt_of_cell? _ _ hw256_3; first | rwa [add_block] at this | exact this) GW248.out)) | (dsimp only; exact Nat.ne_of_lt (Nat.lt_of_lt_of_le (by have := World.block_lt_of_cell? _ _ hw256_3; first | rwa [add_block] at this | exact this) GW248.out))) _).trans (hHeld.2.2.2.1)))), ((cell_far (p := ⟨gb248, _, none⟩) (by first | exact Nat.ne_of_lt (Nat.lt_of_lt_of_le (by have := World.block_lt_of_cell? _ _ hw257_0; first | rwa [add_block] at this | exact this) GW248.out) | (rw [add_block]; exact Nat.ne_of_lt (Nat.lt_of_lt_of_le (by have := World.block_lt_of_cell? _ _ hw257_0; first | rwa [add_block] at this | exact this) GW248.out)) | (show (Addr.add _ _).block ≠ _; rw [add_block]; exact Nat.ne_of_lt (Nat.lt_of_lt_of_le (by have := World.block_lt_of_cell? _ _ hw257_0; first | rwa [add_block] at this | exact this) GW248.out)) | (dsimp only; exact Nat.ne_of_lt (Nat.lt_of_lt_of_le (by have := World.block_lt_of_cell? _ _ hw257_0; first | rwa [add_block] at this | exact this) GW248.out))) _).trans (((cell_far (p := ⟨gb248, _, none⟩) (by first | exact Nat.ne_of_lt (Nat.lt_of_lt_of_le (by have := World.block_lt_of_cell? _ _ hw257_0; first | rwa [add_block] at this | exact this) GW248.out) | (rw [add_block]; exact Nat.ne_of_lt (Nat.lt_of_lt_of_le (by have := World.block_lt_of_cell? _ _ hw257_0; first | rwa [add_block] at this | exact this) GW248.out)) | (show (Addr.add _ _).block ≠ _; rw [add_block]; exact Nat.ne_of_lt (Nat.lt_of_lt_of_le (by have := World.block_lt_of_cell? _ _ hw257_0; first | rwa [add_block] at this | exact this) GW248.out)) | (dsimp only; exact Nat.ne_of_lt (Nat.lt_of_lt_of_le (by have := World.block_lt_of_cell? _ _ hw257_0; first | rwa [add_block] at this | exact this) GW248.out))) _).trans (hHeld.2.2.2.2.1)))), ((cell_far (p := ⟨gb248, _, none⟩) (by first | exact Nat.ne_of_lt (Nat.lt_of_lt_of_le (by have := World.block_lt_of_cell? _ _ hw257_1; first | rwa [add_block] at this | exact this) GW248.out) | (rw [add_block]; exact Nat.ne_of_lt (Nat.lt_of_lt_of_le (by have := World.block_lt_of_cell? _ _ hw257_1; first | rwa [add_block] at this | exact this) GW248.out)) | (show (Addr.add _ _).block ≠ _; rw [add_block]; exact Nat.ne_of_lt (Nat.lt_of_lt_of_le (by have := World.block_lt_of_cell? _ _ hw257_1; first | rwa [add_block] at this | exact this) GW248.out)) | (dsimp only; exact Nat.ne_of_lt (Nat.lt_of_lt_of_le (by have := World.block_lt_of_cell? _ _ hw257_1; first | rwa [add_block] at this | exact this) GW248.out))) _).trans (((cell_far (p := ⟨gb248, _, none⟩) (by first | exact Nat.ne_of_lt (Nat.lt_of_lt_of_le (by have := World.block_lt_of_cell? _ _ hw257_1; first | rwa [add_block] at this | exact this) GW248.out) | (rw [add_block]; exact Nat.ne_of_lt (Nat.lt_of_lt_of_le (by have := World.block_lt_of_cell? _ _ hw257_1; first | rwa [add_block] at this | exact this) GW248.out)) | (show (Addr.add _ _).block ≠ _; rw [add_block]; exact Nat.ne_of_lt (Nat.lt_of_lt_of_le (by have := World.block_lt_of_cell? _ _ hw257_1; first | rwa [add_block] at this | exact this) GW248.out)) | (dsimp only; exact Nat.ne_of_lt (Nat.lt_of_lt_of_le (by have := World.block_lt_of_cell? _ _ hw257_1; first | rwa [add_block] at this | exact this) GW248.out))) _).trans (hHeld.2.2.2.2.2.1)))), ((cell_far (p := ⟨gb248, _, none⟩) (by first | exact Nat.ne_of_lt (Nat.lt_of_lt_of_le (by have := World.block_lt_of_cell? _ _ hw257_2; first | rwa [add_block] at this | exact this) GW248.out) | (rw [add_block]; exact Nat.ne_of_lt (Nat.lt_of_lt_of_le (by have := World.block_lt_of_cell? _ _ hw257_2; first | rwa [add_block] at this | exact this) GW248.out)) | (show (Addr.add _ _).block ≠ _; rw [add_block]; exact Nat.ne_of_lt (Nat.lt_of_lt_of_le (by have := World.block_lt_of_cell? _ _ hw257_2; first | rwa [add_block] at this | exact this) GW248.out)) | (dsimp only; exact Nat.ne_of_lt (Nat.lt_of_lt_of_le (by have := World.block_lt_of_cell? _ _ hw257_2; first | rwa [add_block] at this | exact this) GW248.out))) _).trans (((cell_far (p := ⟨gb248, _, none⟩) (by first | exact Nat.ne_of_lt (Nat.lt_of_lt_of_le (by have := World.block_lt_of_cell? _ _ hw257_2; first | rwa [add_block] at this | exact this) GW248.out) | (rw [add_block]; exact Nat.ne_of_lt (Nat.lt_of_lt_of_le (by have := World.block_lt_of_cell? _ _ hw257_2; first | rwa [add_block] at this | exact this) GW248.out)) | (show (Addr.add _ _).block ≠ _; rw [add_block]; exact Nat.ne_of_lt (Nat.lt_of_lt_of_le (by have := World.block_lt_of_cell? _ _ hw257_2; first | rwa [add_block] at this | exact this) GW248.out)) | (dsimp only; exact Nat.ne_of_lt (Nat.lt_of_lt_of_le (by have := World.block_lt_of_cell? _ _ hw257_2; first | rwa [add_block] at this | exact this) GW248.out))) _).trans (hHeld.2.2.2.2.2.2.1)))), ((cell_far (p := ⟨gb248, _, none⟩) (by first | exact Nat.ne_of_lt (Nat.lt_of_lt_of_le (by have := World.block_lt_of_cell? _ _ hw257_3; first | rwa [add_block] at this | exact this) GW248.out) | (rw [add_block]; exact Nat.ne_of_lt (Nat.lt_of_lt_of_le (by have := World.block_lt_of_cell? _ _ hw257_3; first | rwa [add_block] at this | exact this) GW248.out)) | (show (Addr.add _ _).block ≠ _; rw [add_block]; exact Nat.ne_of_lt (Nat.lt_of_lt_of_le (by have := World.block_lt_of_cell? _ _ hw257_3; first | rwa [add_block] at this | exact this) GW248.out)) | (dsimp only; exact Nat.ne_of_lt (Nat.lt_of_lt_of_le (by have := World.block_lt_of_cell? _ _ hw257_3; first | rwa [add_block] at this | exact this) GW248.out))) _).trans (((cell_far (p := ⟨gb248, _, none⟩) (by first | exact Nat.ne_of_lt (Nat.lt_of_lt_of_le (by have := World.block_lt_of_cell? _ _ hw257_3; first | rwa [add_block] at this | exact this) GW248.out) | (rw [add_block]; exact Nat.ne_of_lt (Nat.lt_of_lt_of_le (by have := World.block_lt_of_cell? _ _ hw257_3; first | rwa [add_block] at this | exact this) GW248.out)) | (show (Addr.add _ _).block ≠ _; rw [add_block]; exact Nat.ne_of_lt (Nat.lt_of_lt_of_le (by have := World.block_lt_of_cell? _ _ hw257_3; first | rwa [add_block] at this | exact this) GW248.out)) | (dsimp only; exact Nat.ne_of_lt (Nat.lt_of_lt_of_le (by have := World.block_lt_of_cell? _ _ hw257_3; first | rwa [add_block] at this | exact this) GW248.out))) _).trans (hHeld.2.2.2.2.2.2.2.1)))), ((cell_far (p := ⟨gb248, _, none⟩) (by first | exact Nat.ne_of_lt (Nat.lt_of_lt_of_le (by have := World.block_lt_of_cell? _ _ hw258_0; first | rwa [add_block] at this | exact this) GW248.out) | (rw [add_block]; exact Nat.ne_of_lt (Nat.lt_of_lt_of_le (by have := World.block_lt_of_cell? _ _ hw258_0; first | rwa [add_block] at this | exact this) GW248.out)) | (show (Addr.add _ _).block ≠ _; rw [add_block]; exact Nat.ne_of_lt (Nat.lt_of_lt_of_le (by have := World.block_lt_of_cell? _ _ hw258_0; first | rwa [add_block] at this | exact this) GW248.out)) | (dsimp only; exact Nat.ne_of_lt (Nat.lt_of_lt_of_le (by have := World.block_lt_of_cell? _ _ hw258_0; first | rwa [add_block] at this | exact this) GW248.out))) _).trans (((cell_far (p := ⟨gb248, _, none⟩) (by first | exact Nat.ne_of_lt (Nat.lt_of_lt_of_le (by have := World.block_lt_of_cell? _ _ hw258_0; first | rwa [add_block] at this | exact this) GW248.out) | (rw [add_block]; exact Nat.ne_of_lt (Nat.lt_of_lt_of_le (by have := World.block_lt_of_cell? _ _ hw258_0; first | rwa [add_block] at this | exact this) GW248.out)) | (show (Addr.add _ _).block ≠ _; rw [add_block]; exact Nat.ne_of_lt (Nat.lt_of_lt_of_le (by have := World.block_lt_of_cell? _ _ hw258_0; first | rwa [add_block] at this | exact this) GW248.out)) | (dsimp only; exact Nat.ne_of_lt (Nat.lt_of_lt_of_le (by have := World.block_lt_of_cell? _ _ hw258_0; first | rwa [add_block] at this | exact this) GW248.out))) _).trans (hHeld.2.2.2.2.2.2.2.2.1)))), ((cell_far (p := ⟨gb248, _, none⟩) (by first | exact Nat.ne_of_lt (Nat.lt_of_lt_of_le (by have := World.block_lt_of_cell? _ _ hw258_1; first | rwa [add_block] at this | exact this) GW248.out) | (rw [add_block]; exact Nat.ne_of_lt (Nat.lt_of_lt_of_le (by have := World.block_lt_of_cell? _ _ hw258_1; first | rwa [add_block] at this | exact this) GW248.out)) | (show (Addr.add _ _).block ≠ _; rw [add_block]; exact Nat.ne_of_lt (Nat.lt_of_lt_of_le (by have := World.block_lt_of_cell? _ _ hw258_1; first | rwa [add_block] at this | exact this) GW248.out)) | (dsimp only; exact Nat.ne_of_lt (Nat.lt_of_lt_of_le (by have := World.block_lt_of_cell? _ _ hw258_1; first | rwa [add_block] at this | exact this) GW248.out))) _).trans (((cell_far (p := ⟨gb248, _, none⟩) (by first | exact Nat.ne_of_lt (Nat.lt_of_lt_of_le (by have := World.block_lt_of_cell? _ _ hw258_1; first | rwa [add_block] at this | exact this) GW248.out) | (rw [add_block]; exact Nat.ne_of_lt (Nat.lt_of_lt_of_le (by have := World.block_lt_of_cell? _ _ hw258_1; first | rwa [add_block] at this | exact this) GW248.out)) | (show (Addr.add _ _).block ≠ _; rw [add_block]; exact Nat.ne_of_lt (Nat.lt_of_lt_of_le (by have := World.block_lt_of_cell? _ _ hw258_1; first | rwa [add_block] at this | exact this) GW248.out)) | (dsimp only; exact Nat.ne_of_lt (Nat.lt_of_lt_of_le (by have := World.block_lt_of_cell? _ _ hw258_1; first | rwa [add_block] at this | exact this) GW248.out))) _).trans (hHeld.2.2.2.2.2.2.2.2.2.1)))), ((cell_far (p := ⟨gb248, _, none⟩) (by first | exact Nat.ne_of_lt (Nat.lt_of_lt_of_le (by have := World.block_lt_of_cell? _ _ hw258_2; first | rwa [add_block] at this | exact this) GW248.out) | (rw [add_block]; exact Nat.ne_of_lt (Nat.lt_of_lt_of_le (by have := World.block_lt_of_cell? _ _ hw258_2; first | rwa [add_block] at this | exact this) GW248.out)) | (show (Addr.add _ _).block ≠ _; rw [add_block]; exact Nat.ne_of_lt (Nat.lt_of_lt_of_le (by have := World.block_lt_of_cell? _ _ hw258_2; first | rwa [add_block] at this | exact this) GW248.out)) | (dsimp only; exact Nat.ne_of_lt (Nat.lt_of_lt_of_le (by have := World.block_lt_of_cell? _ _ hw258_2; first | rwa [add_block] at this | exact this) GW248.out))) _).trans (((cell_far (p := ⟨gb248, _, none⟩) (by first | exact Nat.ne_of_lt (Nat.lt_of_lt_of_le (by have := World.block_lt_of_cell? _ _ hw258_2; first | rwa [add_block] at this | exact this) GW248.out) | (rw [add_block]; exact Nat.ne_of_lt (Nat.lt_of_lt_of_le (by have := World.block_lt_of_cell? _ _ hw258_2; first | rwa [add_block] at this | exact this) GW248.out)) | (show (Addr.add _ _).block ≠ _; rw [add_block]; exact Nat.ne_of_lt (Nat.lt_of_lt_of_le (by have := World.block_lt_of_cell? _ _ hw258_2; first | rwa [add_block] at this | exact this) GW248.out)) | (dsimp only; exact Nat.ne_of_lt (Nat.lt_of_lt_of_le (by have := World.block_lt_of_cell? _ _ hw258_2; first | rwa [add_block] at this | exact this) GW248.out))) _).trans (hHeld.2.2.2.2.2.2.2.2.2.2.1)))), ((cell_far (p := ⟨gb248, _, none⟩) (by first | exact Nat.ne_of_lt (Nat.lt_of_lt_of_le (by have := World.block_lt_of_cell? _ _ hw258_3; first | rwa [add_block] at this | exact this) GW248.out) | (rw [add_block]; exact Nat.ne_of_lt (Nat.lt_of_lt_of_le (by have := World.block_lt_of_cell? _ _ hw258_3; first | rwa [add_block] at this | exact this) GW248.out)) | (show (Addr.add _ _).block ≠ _; rw [add_block]; exact Nat.ne_of_lt (Nat.lt_of_lt_of_le (by have := World.block_lt_of_cell? _ _ hw258_3; first | rwa [add_block] at this | exact this) GW248.out)) | (dsimp only; exact Nat.ne_of_lt (Nat.lt_of_lt_of_le (by have := World.block_lt_of_cell? _ _ hw258_3; first | rwa [add_block] at this | exact this) GW248.out))) _).trans (((cell_far (p := ⟨gb248, _, none⟩) (by first | exact Nat.ne_of_lt (Nat.lt_of_lt_of_le (by have := World.block_lt_of_cell? _ _ hw258_3; first | rwa [add_block] at this | exact this) GW248.out) | (rw [add_block]; exact Nat.ne_of_lt (Nat.lt_of_lt_of_le (by have := World.block_lt_of_cell? _ _ hw258_3; first | rwa [add_block] at this | exact this) GW248.out)) | (show (Addr.add _ _).block ≠ _; rw [add_block]; exact Nat.ne_of_lt (Nat.lt_of_lt_of_le (by have := World.block_lt_of_cell? _ _ hw258_3; first | rwa [add_block] at this | exact this) GW248.out)) | (dsimp only; exact Nat.ne_of_lt (Nat.lt_of_lt_of_le (by have := World.block_lt_of_cell? _ _ hw258_3; first | rwa [add_block] at this | exact this) GW248.out))) _).trans (hHeld.2.2.2.2.2.2.2.2.2.2.2))))⟩ (fun hHeld => ?_)
                    clear hK K
                    refine pure_ (i := 21) (N := some 5) (v := ?_) (a' := ?_) #[true, true, true, true, true, true, true, true, true, true, true, true, true, true, true, true, true, true, true, true, true, true, false] rfl rfl (any_of HT_.out (by kernel_rfl)) (fun _ _ _ h => h) (Or.inl ⟨by rfl, ?_⟩) ?_ ?_
                    rotate_left
                    · intro w'
                      go_simp
                      with_reducible rfl
                    rotate_left
                    · simp only [Act.put, List.setIfInBounds_toArray, List.set_cons_zero, List.set_cons_succ, i64_w, i32_w]
                      rfl
                    refine pure_ (i := 22) (N := some 6) (v := ?_) (a' := ?_) #[true, true, true, true, true, true, true, true, true, true, true, true, true, true, true, true, true, true, true, true, true, true, true] rfl rfl (any_of HT_.out (by kernel_rfl)) (fun _ _ _ h => h) (Or.inl ⟨by rfl, ?_⟩) ?_ ?_
                    rotate_left
                    · intro w'
                      go_simp
                      with_reducible rfl
                    rotate_left
                    · simp only [Act.put, List.setIfInBounds_toArray, List.set_cons_zero, List.set_cons_succ, i64_w, i32_w]
                      rfl
                    refine done_ (done_of HT_.out (by kernel_rfl)) ?_
                    try go_wp2
                    refine bodyPost_ret (results_ctt rfl _ _ gb248 33 #[.int .i64 (wrap64 (((rd_T35 l0 x7_2).f2.f0) + x1_2)), .int .i64 ((rd_T35 l0 x7_2).f2.f1)] (0, 0) _ rfl (by (with_reducible repeat (first | refine blk_drewN ?_ _ | refine blk_drew ?_ | refine blk_alloc ?_ _)); refine blk_put (cs := #[.int .i64 (wrap64 (((rd_T35 l0 x7_2).f2.f0) + x1_2)), .int .i64 0]) ?_ 1 _ rfl; (with_reducible repeat (first | refine blk_drewN ?_ _ | refine blk_drew ?_ | refine blk_alloc ?_ _)); refine blk_put (cs := #[.int .i64 0, .int .i64 0]) ?_ 0 _ rfl; (with_reducible repeat (first | refine blk_drewN ?_ _ | refine blk_drew ?_ | refine blk_alloc ?_ _)); exact BK248.out) Try.underlying33 rfl (by kernel_rfl)) rfl ?_
                    exact ⟨by first | rfl | (simp [errW_none, errW_some] <;> rfl) | (simp [*, errW_none, errW_some] <;> rfl), by repeat (first | (with_reducible first | exact HB.out | apply below_alloc | apply pw_below_drewN | apply below_drew1 | refine below_set ?_ GE248.out) | exact HB.out)⟩
                · rw [if_neg c15] at H
                  exact absurd H (by simp)
              · rw [if_neg c14] at H
                exact absurd H (by simp)
  · replace c4 := Bool.eq_false_iff.mpr c4
    subst c4
    have H1 : (some (0, 0, 0, 1)) = some (r1, r2, r3, r4) := by rw [if_neg (show ¬ (false = true) by decide)] at H; exact H
    clear H
    have H := H1
    clear H1
    simp only [Option.some.injEq, Prod.mk.injEq] at H
    obtain ⟨rfl, rfl, rfl, rfl⟩ := H
    go_enter Try.func41, Try.ntmps41
    go_wp2_with (first | ((with_reducible refine gate_dst (N := 4) rfl ?_); refine box_event ?hg (N := 4) ?hd (cs := #[.int .i64 0, .int .i64 0]) (t := 33) ?hr ?_; (case hd => rfl); (case hg => rfl); (case hr => first | (go_simp; done) | (go_simp; rfl)); intro gb248 hg w22 hbox hb; have n0_ := Aside0.mk (below_step (by repeat (first | (with_reducible first | exact HB.out | apply below_alloc | apply pw_below_drewN | apply below_drew1) | exact HB.out)) hb); have n1_ := Aside0.mk (hbox); have n2_ := Aside0.mk ((by rw [hg]; exact (below_size (by repeat (first | (with_reducible first | exact HB.out | apply below_alloc | apply pw_below_drewN | apply below_drew1) | exact HB.out))) : w.heap.size ≤ gb248)); have n3_ := Aside0.mk ((by rw [hg]; exact (below_size (by repeat (first | (with_reducible first | exact HB.out | apply below_alloc | apply pw_below_drewN | apply below_drew1) | exact HB.out))) : w.heap.size ≤ gb248)); clear HB; have HB := n0_; have BK248 := n1_; have GW248 := n2_; have GE248 := n3_; clear n0_ n1_ n2_ n3_; clear hb hbox hg) | ((with_reducible refine gate_callee (f := 42) rfl ?_); refine goesL_ (some 9) rfl rfl Try.func42 (by kernel_rfl) rfl #[.slice A0 l0.length c0] rfl (by (try simp only [List.map_toArray, List.map_cons, List.map_nil]); first | done | rfl | (simp only [List.length_drop, List.length_take]; rfl)) ?_; (with_reducible refine (masterdiscref33_Valid.calls k _ _ l0 false _ ?side1 ?side2 A3.out).mono ?_); (case side1 => repeat (first | exact (Kd.C_below HR0.out HB.out) | (with_reducible refine Kd.C_alloc ?_ _) | (with_reducible refine Kd.C_drewN ?_ _) | (with_reducible refine Kd.C_drew ?_))); (case side2 => exact HC0.out); rintro e w23 ⟨rfl, hb⟩; refine ⟨_, rfl, ?_⟩; have n0_ := Aside0.mk (blk_below (g := gb248) (o := .cells #[.int .i64 0, .int .i64 0] 33 (0, 0)) (by (with_reducible repeat (first | refine blk_drewN ?_ _ | refine blk_drew ?_ | refine blk_alloc ?_ _)); exact BK248.out) hb); have n1_ := Aside0.mk (below_step (by repeat (first | (with_reducible first | exact HB.out | apply below_alloc | apply pw_below_drewN | apply below_drew1 | refine below_set ?_ GE248.out) | exact HB.out)) hb); clear BK248; clear HB; have BK248 := n0_; have HB := n1_; clear n0_ n1_; (try clear hb); (try clear hb2); (try clear hk); (try clear hi); have hcz24_0 : w23.cell? ⟨gb248, 0, none⟩ = some (.int .i64 0) := (blk_cell BK248.out 0).trans rfl; have hcz24_1 : w23.cell? ⟨gb248, 1, none⟩ = some (.int .i64 0) := (blk_cell BK248.out 1).trans rfl; have hfz24_0 := blk_frozen BK248.out 0; have hfz24_1 := blk_frozen BK248.out 1))
    refine bodyPost_ret (results_ctt rfl _ _ gb248 33 #[.int .i64 0, .int .i64 0] (0, 0) _ rfl (by (with_reducible repeat (first | refine blk_drewN ?_ _ | refine blk_drew ?_ | refine blk_alloc ?_ _)); refine blk_put (cs := #[.int .i64 0, .int .i64 0]) ?_ 1 _ rfl; (with_reducible repeat (first | refine blk_drewN ?_ _ | refine blk_drew ?_ | refine blk_alloc ?_ _)); refine blk_put (cs := #[.int .i64 0, .int .i64 0]) ?_ 0 _ rfl; (with_reducible repeat (first | refine blk_drewN ?_ _ | refine blk_drew ?_ | refine blk_alloc ?_ _)); exact BK248.out) Try.underlying33 rfl (by kernel_rfl)) rfl ?_
    exact ⟨by first | rfl | (simp [errW_none, errW_some] <;> rfl) | (simp [*, errW_none, errW_some] <;> rfl), by repeat (first | (with_reducible first | exact HB.out | apply below_alloc | apply pw_below_drewN | apply below_drew1 | refine below_set ?_ GE248.out) | exact HB.out)⟩

/-! ### masterdiscref40_location: function 30 -/
def masterdiscref40_location.j0 : Nat → Bool → List (S96) → Int → Int → List Int → List (S98) → List (S35) → List (S35) → Int → Int → Option (Int)
  | 0, _, _, _, _, _, _, _, _, _, _ => none
  | k + 1, x30, x260000, x260001, x260002, x260003, x260004, x260005, x260006, x265000, x265001 => if x30 = true then (some (-1)) else (some (wrap64 (x260001 + x265000)))
def masterdiscref40_location.f (k : Nat) (l0_0 : List (S96)) (a0_1 : Int) (a0_2 : Int) (l0_3 : List Int) (l0_4 : List (S98)) (l0_5 : List (S35)) (l0_6 : List (S35)) (l1 : List (S35)) (a2 : Int) : Option (Int) := (masterdiscref33_Locate.f k l1 a2).bind fun bt260 => (if bt260.2.2.2 = 0 then (if bt260.2.2.1 = 0 then (masterdiscref40_location.j0 k (decide (bt260.1 ≥ a0_2)) l0_0 a0_1 a0_2 l0_3 l0_4 l0_5 l0_6 bt260.1 bt260.2.1) else (masterdiscref40_location.j0 k true l0_0 a0_1 a0_2 l0_3 l0_4 l0_5 l0_6 bt260.1 bt260.2.1)) else (masterdiscref40_location.j0 k true l0_0 a0_1 a0_2 l0_3 l0_4 l0_5 l0_6 bt260.1 bt260.2.1))
theorem masterdiscref40_location.mono_l : ∀ k, (∀ y0 y1 y2 y3 y4 y5 y6 y7 y8 y9, LeO (masterdiscref40_location.j0 k y0 y1 y2 y3 y4 y5 y6 y7 y8 y9) (masterdiscref40_location.j0 (k + 1) y0 y1 y2 y3 y4 y5 y6 y7 y8 y9))
  | 0 => fun _ _ _ _ _ _ _ _ _ _ r h => by simp [masterdiscref40_location.j0] at h
  | k + 1 => by
    have ih0 := masterdiscref40_location.mono_l k
    · intro y0 y1 y2 y3 y4 y5 y6 y7 y8 y9
      unfold masterdiscref40_location.j0
      repeat' first
      | (with_reducible exact ih0 _ _ _ _ _ _ _ _ _ _)
      | (with_reducible exact masterdiscref33_Locate.mono _ _ _)
      | (with_reducible exact LeO.refl _)
      | (with_reducible exact LeO.none _)
      | (with_reducible refine LeO.ite ?_ ?_)
      | (with_reducible refine LeO.bind ?_ (fun _ => ?_))
      | exact ih0 _ _ _ _ _ _ _ _ _ _
      | exact masterdiscref33_Locate.mono _ _ _
      | exact LeO.none _
      | refine LeO.ite ?_ ?_
      | refine LeO.bind ?_ (fun _ => ?_)
theorem masterdiscref40_location.mono : ∀ a0 a1 a2 a3 a4 a5 a6 a7 a8 k, LeO (masterdiscref40_location.f k a0 a1 a2 a3 a4 a5 a6 a7 a8) (masterdiscref40_location.f (k + 1) a0 a1 a2 a3 a4 a5 a6 a7 a8) := by
  intro a0 a1 a2 a3 a4 a5 a6 a7 a8 k
  have ih0 := masterdiscref40_location.mono_l k
  unfold masterdiscref40_location.f
  repeat' first
      | (with_reducible exact ih0 _ _ _ _ _ _ _ _ _ _)
      | (with_reducible exact masterdiscref33_Locate.mono _ _ _)
      | (with_reducible exact LeO.refl _)
      | (with_reducible exact LeO.none _)
      | (with_reducible refine LeO.ite ?_ ?_)
      | (with_reducible refine LeO.bind ?_ (fun _ => ?_))
      | exact ih0 _ _ _ _ _ _ _ _ _ _
      | exact masterdiscref33_Locate.mono _ _ _
      | exact LeO.none _
      | refine LeO.ite ?_ ?_
      | refine LeO.bind ?_ (fun _ => ?_)
set_option maxHeartbeats 8000000 in
set_option maxRecDepth 100000 in
theorem masterdiscref40_location.calls (k : Nat) (A0_0 : Option Addr) (c0_0 : Nat) (l0_0 : List (S96)) (a0_1 : Int) (a0_2 : Int) (A0_3 : Option Addr) (c0_3 : Nat) (l0_3 : List Int) (A0_4 : Option Addr) (c0_4 : Nat) (l0_4 : List (S98)) (A0_5 : Option Addr) (c0_5 : Nat) (l0_5 : List (S35)) (A0_6 : Option Addr) (c0_6 : Nat) (l0_6 : List (S35)) (A1 : Option Addr) (c1 : Nat) (l1 : List (S35)) (a2 : Int) (r : Int) (w : World) (hr0_0 : Kd.C k96 w A0_0 l0_0.length l0_0) (hc0_0 : l0_0.length ≤ c0_0) (hr0_3 : Kd.C (Kd.int .i64) w A0_3 l0_3.length l0_3) (hc0_3 : l0_3.length ≤ c0_3) (hr0_4 : Kd.C k98 w A0_4 l0_4.length l0_4) (hc0_4 : l0_4.length ≤ c0_4) (hr0_5 : Kd.C k35 w A0_5 l0_5.length l0_5) (hc0_5 : l0_5.length ≤ c0_5) (hr0_6 : Kd.C k35 w A0_6 l0_6.length l0_6) (hc0_6 : l0_6.length ≤ c0_6) (hr1 : Kd.C k35 w A1 l1.length l1) (hc1 : l1.length ≤ c1) (h : masterdiscref40_location.f k l0_0 a0_1 a0_2 l0_3 l0_4 l0_5 l0_6 l1 a2 = some r) :
    Calls Try.prog 30 #[.agg #[.slice A0_0 l0_0.length c0_0, .int .i64 a0_1, .int .i64 a0_2, .slice A0_3 l0_3.length c0_3, .slice A0_4 l0_4.length c0_4, .slice A0_5 l0_5.length c0_5, .slice A0_6 l0_6.length c0_6], .slice A1 l1.length c1, .int .i64 a2] w fun e w' => e = .returned (.int .i64 r) ∧ Below w.heap.size w w' := by
  have hu40 := Try.underlying40
  have hu33 := Try.underlying33
  have HR0_0 := Aside0.mk hr0_0
  have HC0_0 := Aside0.mk hc0_0
  clear hr0_0 hc0_0
  have HR0_3 := Aside0.mk hr0_3
  have HC0_3 := Aside0.mk hc0_3
  clear hr0_3 hc0_3
  have HR0_4 := Aside0.mk hr0_4
  have HC0_4 := Aside0.mk hc0_4
  clear hr0_4 hc0_4
  have HR0_5 := Aside0.mk hr0_5
  have HC0_5 := Aside0.mk hc0_5
  clear hr0_5 hc0_5
  have HR0_6 := Aside0.mk hr0_6
  have HC0_6 := Aside0.mk hc0_6
  clear hr0_6 hc0_6
  have HR1 := Aside0.mk hr1
  have HC1 := Aside0.mk hc1
  clear hr1 hc1
  have HB := Aside0.mk (Below.refl w.heap.size w)
  have H : ((masterdiscref33_Locate.f k l1 a2).bind fun bt260 => (if bt260.2.2.2 = 0 then (if bt260.2.2.1 = 0 then (masterdiscref40_location.j0 k (decide (bt260.1 ≥ a0_2)) l0_0 a0_1 a0_2 l0_3 l0_4 l0_5 l0_6 bt260.1 bt260.2.1) else (masterdiscref40_location.j0 k true l0_0 a0_1 a0_2 l0_3 l0_4 l0_5 l0_6 bt260.1 bt260.2.1)) else (masterdiscref40_location.j0 k true l0_0 a0_1 a0_2 l0_3 l0_4 l0_5 l0_6 bt260.1 bt260.2.1))) = some r := h
  clear h
  replace H := Option.bind_eq_some_iff.mp H
  obtain ⟨⟨t260, t261, t262, t263⟩, A40, H⟩ := H
  replace H : (if t263 = 0 then (if t262 = 0 then (masterdiscref40_location.j0 k (decide (t260 ≥ a0_2)) l0_0 a0_1 a0_2 l0_3 l0_4 l0_5 l0_6 t260 t261) else (masterdiscref40_location.j0 k true l0_0 a0_1 a0_2 l0_3 l0_4 l0_5 l0_6 t260 t261)) else (masterdiscref40_location.j0 k true l0_0 a0_1 a0_2 l0_3 l0_4 l0_5 l0_6 t260 t261)) = some r := H
  have A4 := Aside0.mk A40
  clear A40
  have HC5 := Aside0.mk H
  clear H
  go_enter Try.func30, Try.ntmps30
  go_upto_region 2 with (first | ((with_reducible refine gate_dst (N := 3) rfl ?_); refine box_event ?hg (N := 3) ?hd (cs := #[.slice A0_0 l0_0.length c0_0, .int .i64 a0_1, .int .i64 a0_2, .slice A0_3 l0_3.length c0_3, .slice A0_4 l0_4.length c0_4, .slice A0_5 l0_5.length c0_5, .slice A0_6 l0_6.length c0_6]) (t := 40) ?hr ?_; (case hd => rfl); (case hg => rfl); (case hr => first | (go_simp; done) | (go_simp; rfl)); intro gb259 hg w6 hbox hb; have n0_ := Aside0.mk (below_step (by repeat (first | (with_reducible first | exact HB.out | apply below_alloc | apply pw_below_drewN | apply below_drew1) | exact HB.out)) hb); have n1_ := Aside0.mk (hbox); have n2_ := Aside0.mk ((by rw [hg]; exact (below_size (by repeat (first | (with_reducible first | exact HB.out | apply below_alloc | apply pw_below_drewN | apply below_drew1) | exact HB.out))) : w.heap.size ≤ gb259)); have n3_ := Aside0.mk ((by rw [hg]; exact (below_size (by repeat (first | (with_reducible first | exact HB.out | apply below_alloc | apply pw_below_drewN | apply below_drew1) | exact HB.out))) : w.heap.size ≤ gb259)); clear HB; have HB := n0_; have BK259 := n1_; have GW259 := n2_; have GE259 := n3_; clear n0_ n1_ n2_ n3_; clear hb hbox hg) | ((with_reducible refine gate_callee (f := 41) rfl ?_); refine goesL_ (some 13) rfl rfl Try.func41 (by kernel_rfl) rfl #[.slice A1 l1.length c1, .int .i64 a2] rfl (by (try simp only [List.map_toArray, List.map_cons, List.map_nil]); first | done | rfl | (simp only [List.length_drop, List.length_take]; rfl)) ?_; (with_reducible refine (masterdiscref33_Locate.calls k _ _ l1 a2 t260 t261 t262 t263 _ ?side1 ?side2 A4.out).mono ?_); (case side1 => repeat (first | exact (Kd.C_below HR1.out HB.out) | (with_reducible refine Kd.C_alloc ?_ _) | (with_reducible refine Kd.C_drewN ?_ _) | (with_reducible refine Kd.C_drew ?_))); (case side2 => exact HC1.out); rintro e w7 ⟨rfl, hb⟩; refine ⟨_, rfl, ?_⟩; have n0_ := Aside0.mk (blk_below (g := gb259) (o := .cells #[.slice A0_0 l0_0.length c0_0, .int .i64 a0_1, .int .i64 a0_2, .slice A0_3 l0_3.length c0_3, .slice A0_4 l0_4.length c0_4, .slice A0_5 l0_5.length c0_5, .slice A0_6 l0_6.length c0_6] 40 (0, 0)) (by (with_reducible repeat (first | refine blk_drewN ?_ _ | refine blk_drew ?_ | refine blk_alloc ?_ _)); exact BK259.out) hb); have n1_ := Aside0.mk (below_step (by repeat (first | (with_reducible first | exact HB.out | apply below_alloc | apply pw_below_drewN | apply below_drew1 | refine below_set ?_ GE259.out) | exact HB.out)) hb); clear BK259; clear HB; have BK259 := n0_; have HB := n1_; clear n0_ n1_; (try clear hb); (try clear hb2); (try clear hk); (try clear hi)) | ((with_reducible refine gate_dst (N := 7) rfl ?_); refine box_event ?hg (N := 7) ?hd (cs := #[.int .i64 0, .int .i64 0]) (t := 33) ?hr ?_; (case hd => rfl); (case hg => rfl); (case hr => first | (go_simp; done) | (go_simp; rfl)); intro gb264 hg w8 hbox hb; have n0_ := Aside0.mk (blk_below (g := gb259) (o := .cells #[.slice A0_0 l0_0.length c0_0, .int .i64 a0_1, .int .i64 a0_2, .slice A0_3 l0_3.length c0_3, .slice A0_4 l0_4.length c0_4, .slice A0_5 l0_5.length c0_5, .slice A0_6 l0_6.length c0_6] 40 (0, 0)) (by (with_reducible repeat (first | refine blk_drewN ?_ _ | refine blk_drew ?_ | refine blk_alloc ?_ _)); exact BK259.out) hb); have n1_ := Aside0.mk (below_step (by repeat (first | (with_reducible first | exact HB.out | apply below_alloc | apply pw_below_drewN | apply below_drew1 | refine below_set ?_ GE259.out) | exact HB.out)) hb); have n2_ := Aside0.mk (hbox); have n3_ := Aside0.mk ((by rw [hg]; exact (below_size (by repeat (first | (with_reducible first | exact HB.out | apply below_alloc | apply pw_below_drewN | apply below_drew1 | refine below_set ?_ GE259.out) | exact HB.out))) : w.heap.size ≤ gb264)); have n4_ := Aside0.mk ((by rw [hg]; exact (below_size (by repeat (first | (with_reducible first | exact HB.out | apply below_alloc | apply pw_below_drewN | apply below_drew1 | refine below_set ?_ GE259.out) | exact HB.out))) : w.heap.size ≤ gb264)); have n5_ := Aside0.mk ((by rw [hg]; exact Nat.ne_of_lt (blk_lt (g := gb259) (o := .cells #[.slice A0_0 l0_0.length c0_0, .int .i64 a0_1, .int .i64 a0_2, .slice A0_3 l0_3.length c0_3, .slice A0_4 l0_4.length c0_4, .slice A0_5 l0_5.length c0_5, .slice A0_6 l0_6.length c0_6] 40 (0, 0)) (by (with_reducible repeat (first | refine blk_drewN ?_ _ | refine blk_drew ?_ | refine blk_alloc ?_ _)); exact BK259.out)) : gb259 ≠ gb264)); have n6_ := Aside0.mk ((by rw [hg]; exact Nat.ne_of_gt (blk_lt (g := gb259) (o := .cells #[.slice A0_0 l0_0.length c0_0, .int .i64 a0_1, .int .i64 a0_2, .slice A0_3 l0_3.length c0_3, .slice A0_4 l0_4.length c0_4, .slice A0_5 l0_5.length c0_5, .slice A0_6 l0_6.length c0_6] 40 (0, 0)) (by (with_reducible repeat (first | refine blk_drewN ?_ _ | refine blk_drew ?_ | refine blk_alloc ?_ _)); exact BK259.out)) : gb264 ≠ gb259)); clear BK259; clear HB; have BK259 := n0_; have HB := n1_; have BK264 := n2_; have GW264 := n3_; have GE264 := n4_; have NB259_264 := n5_; have NB264_259 := n6_; clear n0_ n1_ n2_ n3_ n4_ n5_ n6_; clear hb hbox hg; have hnb9 := NB264_259.out; have hnc9 := NB259_264.out; have hcz10_0 : w8.cell? ⟨gb264, 0, none⟩ = some (.int .i64 0) := (blk_cell BK264.out 0).trans rfl; have hcz10_1 : w8.cell? ⟨gb264, 1, none⟩ = some (.int .i64 0) := (blk_cell BK264.out 1).trans rfl; have hfz10_0 := blk_frozen BK264.out 0; have hfz10_1 := blk_frozen BK264.out 1))
  (try simp only [Act.put, List.setIfInBounds_toArray, List.set_cons_zero, List.set_cons_succ])
  go_cut [30] (fun v30 wc => ∃ (kq : Nat) (x30_4 : Bool), v30 = .bool x30_4 ∧ Aside0 (masterdiscref40_location.j0 kq x30_4 l0_0 a0_1 a0_2 l0_3 l0_4 l0_5 l0_6 t260 t261 = some r) ∧ Aside0 (kq ≤ k) ∧ Aside0 (wc.heap[gb259]? = some (.cells #[(.slice A0_0 l0_0.length c0_0), .int .i64 a0_1, .int .i64 a0_2, (.slice A0_3 l0_3.length c0_3), (.slice A0_4 l0_4.length c0_4), (.slice A0_5 l0_5.length c0_5), (.slice A0_6 l0_6.length c0_6)] 40 (0, 0))) ∧ Aside0 (wc.heap[gb264]? = some (.cells #[.int .i64 t260, .int .i64 t261] 33 (0, 0))) ∧ Aside0 (Below w.heap.size w wc))
  case first =>
    have H := HC5.out
    clear HC5
    by_cases c11 : t263 = 0
    · rw [if_pos c11] at H
      have c11b0 : (t263 == 0) = true := beq_iff_eq.mpr c11
      have c11b1 : (t263 != 0) = false := bne_eq_false_iff_eq.mpr c11
      clear c11
      (first | rw [c11b0] | (simp only [i64_w, i32_w]; rw [c11b0]) | skip)
      by_cases c12 : t262 = 0
      · rw [if_pos c12] at H
        have c12b0 : (t262 == 0) = true := beq_iff_eq.mpr c12
        have c12b1 : (t262 != 0) = false := bne_eq_false_iff_eq.mpr c12
        clear c12
        have H' := Aside0.mk H
        clear H
        have hnb13 := NB264_259.out
        have hnc13 := NB259_264.out
        have hcz14_0 : w8.cell? ⟨gb264, 0, none⟩ = some (.int .i64 0) := (blk_cell BK264.out 0).trans rfl
        have hcz14_1 : w8.cell? ⟨gb264, 1, none⟩ = some (.int .i64 0) := (blk_cell BK264.out 1).trans rfl
        have hfz14_0 := blk_frozen BK264.out 0
        have hfz14_1 := blk_frozen BK264.out 1
        have hcz15_0 : w8.cell? ⟨gb259, 0, none⟩ = some (.slice A0_0 l0_0.length c0_0) := (blk_cell BK259.out 0).trans rfl
        have hcz15_1 : w8.cell? ⟨gb259, 1, none⟩ = some (.int .i64 a0_1) := (blk_cell BK259.out 1).trans rfl
        have hcz15_2 : w8.cell? ⟨gb259, 2, none⟩ = some (.int .i64 a0_2) := (blk_cell BK259.out 2).trans rfl
        have hcz15_3 : w8.cell? ⟨gb259, 3, none⟩ = some (.slice A0_3 l0_3.length c0_3) := (blk_cell BK259.out 3).trans rfl
        have hcz15_4 : w8.cell? ⟨gb259, 4, none⟩ = some (.slice A0_4 l0_4.length c0_4) := (blk_cell BK259.out 4).trans rfl
        have hcz15_5 : w8.cell? ⟨gb259, 5, none⟩ = some (.slice A0_5 l0_5.length c0_5) := (blk_cell BK259.out 5).trans rfl
        have hcz15_6 : w8.cell? ⟨gb259, 6, none⟩ = some (.slice A0_6 l0_6.length c0_6) := (blk_cell BK259.out 6).trans rfl
        have hfz15_0 := blk_frozen BK259.out 0
        have hfz15_1 := blk_frozen BK259.out 1
        have hfz15_2 := blk_frozen BK259.out 2
        have hfz15_3 := blk_frozen BK259.out 3
        have hfz15_4 := blk_frozen BK259.out 4
        have hfz15_5 := blk_frozen BK259.out 5
        have hfz15_6 := blk_frozen BK259.out 6
        go_wp2
        go_meet
        case rel => exact ⟨_, (decide (t260 ≥ a0_2)), (by first | rfl | (simp; done) | (simp [*]; done)), H', ⟨by first | omega | exact Nat.le_refl _⟩, ⟨by (with_reducible repeat (first | refine blk_drewN ?_ _ | refine blk_drew ?_ | refine blk_alloc ?_ _)); refine blk_far ?_ NB259_264.out _; (with_reducible repeat (first | refine blk_drewN ?_ _ | refine blk_drew ?_ | refine blk_alloc ?_ _)); refine blk_far ?_ NB259_264.out _; (with_reducible repeat (first | refine blk_drewN ?_ _ | refine blk_drew ?_ | refine blk_alloc ?_ _)); exact BK259.out⟩, ⟨by (with_reducible repeat (first | refine blk_drewN ?_ _ | refine blk_drew ?_ | refine blk_alloc ?_ _)); refine blk_put (cs := #[.int .i64 t260, .int .i64 0]) ?_ 1 _ rfl; (with_reducible repeat (first | refine blk_drewN ?_ _ | refine blk_drew ?_ | refine blk_alloc ?_ _)); refine blk_put (cs := #[.int .i64 0, .int .i64 0]) ?_ 0 _ rfl; (with_reducible repeat (first | refine blk_drewN ?_ _ | refine blk_drew ?_ | refine blk_alloc ?_ _)); exact BK264.out⟩, ⟨by repeat (first | (with_reducible first | exact HB.out | apply below_alloc | apply pw_below_drewN | apply below_drew1 | refine below_set ?_ GE259.out | refine below_set ?_ GE264.out) | exact HB.out)⟩⟩
      · rw [if_neg c12] at H
        have c12b0 : (t262 == 0) = false := beq_eq_false_iff_ne.mpr c12
        have c12b1 : (t262 != 0) = true := bne_iff_ne.mpr c12
        have H' := Aside0.mk H
        clear H
        go_wp2
        go_meet
        case rel => exact ⟨_, (true), (by first | rfl | (simp; done) | (simp [*]; done)), H', ⟨by first | omega | exact Nat.le_refl _⟩, ⟨by (with_reducible repeat (first | refine blk_drewN ?_ _ | refine blk_drew ?_ | refine blk_alloc ?_ _)); refine blk_far ?_ NB259_264.out _; (with_reducible repeat (first | refine blk_drewN ?_ _ | refine blk_drew ?_ | refine blk_alloc ?_ _)); refine blk_far ?_ NB259_264.out _; (with_reducible repeat (first | refine blk_drewN ?_ _ | refine blk_drew ?_ | refine blk_alloc ?_ _)); exact BK259.out⟩, ⟨by (with_reducible repeat (first | refine blk_drewN ?_ _ | refine blk_drew ?_ | refine blk_alloc ?_ _)); refine blk_put (cs := #[.int .i64 t260, .int .i64 0]) ?_ 1 _ rfl; (with_reducible repeat (first | refine blk_drewN ?_ _ | refine blk_drew ?_ | refine blk_alloc ?_ _)); refine blk_put (cs := #[.int .i64 0, .int .i64 0]) ?_ 0 _ rfl; (with_reducible repeat (first | refine blk_drewN ?_ _ | refine blk_drew ?_ | refine blk_alloc ?_ _)); exact BK264.out⟩, ⟨by repeat (first | (with_reducible first | exact HB.out | apply below_alloc | apply pw_below_drewN | apply below_drew1 | refine below_set ?_ GE259.out | refine below_set ?_ GE264.out) | exact HB.out)⟩⟩
    · rw [if_neg c11] at H
      have c11b0 : (t263 == 0) = false := beq_eq_false_iff_ne.mpr c11
      have c11b1 : (t263 != 0) = true := bne_iff_ne.mpr c11
      (first | rw [c11b0] | (simp only [i64_w, i32_w]; rw [c11b0]) | skip)
      have H' := Aside0.mk H
      clear H
      go_wp2
      go_meet
      case rel => exact ⟨_, (true), (by first | rfl | (simp; done) | (simp [*]; done)), H', ⟨by first | omega | exact Nat.le_refl _⟩, ⟨by (with_reducible repeat (first | refine blk_drewN ?_ _ | refine blk_drew ?_ | refine blk_alloc ?_ _)); refine blk_far ?_ NB259_264.out _; (with_reducible repeat (first | refine blk_drewN ?_ _ | refine blk_drew ?_ | refine blk_alloc ?_ _)); refine blk_far ?_ NB259_264.out _; (with_reducible repeat (first | refine blk_drewN ?_ _ | refine blk_drew ?_ | refine blk_alloc ?_ _)); exact BK259.out⟩, ⟨by (with_reducible repeat (first | refine blk_drewN ?_ _ | refine blk_drew ?_ | refine blk_alloc ?_ _)); refine blk_put (cs := #[.int .i64 t260, .int .i64 0]) ?_ 1 _ rfl; (with_reducible repeat (first | refine blk_drewN ?_ _ | refine blk_drew ?_ | refine blk_alloc ?_ _)); refine blk_put (cs := #[.int .i64 0, .int .i64 0]) ?_ 0 _ rfl; (with_reducible repeat (first | refine blk_drewN ?_ _ | refine blk_drew ?_ | refine blk_alloc ?_ _)); exact BK264.out⟩, ⟨by repeat (first | (with_reducible first | exact HB.out | apply below_alloc | apply pw_below_drewN | apply below_drew1 | refine below_set ?_ GE259.out | refine below_set ?_ GE264.out) | exact HB.out)⟩⟩
  case rest =>
    clear HC5
    try clear c1
    try clear p2
    try clear c3
    try clear c4
    try clear c9
    try clear c11
    try clear c11b0
    try clear c11b1
    try clear c12
    try clear c12b0
    try clear c12b1
    try clear c13
    try clear hcz10_0
    try clear hcz10_1
    try clear hcz14_0
    try clear hcz14_1
    try clear hcz15_0
    try clear hcz15_1
    try clear hcz15_2
    try clear hcz15_3
    try clear hcz15_4
    try clear hcz15_5
    try clear hcz15_6
    try clear hfz10_0
    try clear hfz10_1
    try clear hfz14_0
    try clear hfz14_1
    try clear hfz15_0
    try clear hfz15_1
    try clear hfz15_2
    try clear hfz15_3
    try clear hfz15_4
    try clear hfz15_5
    try clear hfz15_6
    obtain ⟨kq, x30_4, rfl, HA, HJ4, BK259, BK264, HB⟩ := hcut
    cases kq with
    | zero => exact absurd HA.out (by simp [masterdiscref40_location.j0])
    | succ kj4 =>
      have H := HA.out
      clear HA
      simp only [masterdiscref40_location.j0] at H
      by_cases c16 : x30_4 = true
      · subst c16
        have H1 : (some (-1)) = some r := by rw [if_pos rfl] at H; exact H
        clear H
        have H := H1
        clear H1
        obtain rfl := Option.some.inj H
        go_wp2
        go_ret
        exact ⟨by first | rfl | (simp [errW_none, errW_some] <;> rfl) | (simp [*, errW_none, errW_some] <;> rfl), by repeat (first | (with_reducible first | exact HB.out | apply below_alloc | apply pw_below_drewN | apply below_drew1 | refine below_set ?_ GE259.out | refine below_set ?_ GE264.out) | exact HB.out)⟩
      · replace c16 := Bool.eq_false_iff.mpr c16
        subst c16
        have H1 : (some (wrap64 (a0_1 + t260))) = some r := by rw [if_neg (show ¬ (false = true) by decide)] at H; exact H
        clear H
        have H := H1
        clear H1
        obtain rfl := Option.some.inj H
        have hnb17 := NB259_264.out
        have hnc17 := NB264_259.out
        have hcz18_0 : wc.cell? ⟨gb259, 0, none⟩ = some (.slice A0_0 l0_0.length c0_0) := (blk_cell BK259.out 0).trans rfl
        have hcz18_1 : wc.cell? ⟨gb259, 1, none⟩ = some (.int .i64 a0_1) := (blk_cell BK259.out 1).trans rfl
        have hcz18_2 : wc.cell? ⟨gb259, 2, none⟩ = some (.int .i64 a0_2) := (blk_cell BK259.out 2).trans rfl
        have hcz18_3 : wc.cell? ⟨gb259, 3, none⟩ = some (.slice A0_3 l0_3.length c0_3) := (blk_cell BK259.out 3).trans rfl
        have hcz18_4 : wc.cell? ⟨gb259, 4, none⟩ = some (.slice A0_4 l0_4.length c0_4) := (blk_cell BK259.out 4).trans rfl
        have hcz18_5 : wc.cell? ⟨gb259, 5, none⟩ = some (.slice A0_5 l0_5.length c0_5) := (blk_cell BK259.out 5).trans rfl
        have hcz18_6 : wc.cell? ⟨gb259, 6, none⟩ = some (.slice A0_6 l0_6.length c0_6) := (blk_cell BK259.out 6).trans rfl
        have hfz18_0 := blk_frozen BK259.out 0
        have hfz18_1 := blk_frozen BK259.out 1
        have hfz18_2 := blk_frozen BK259.out 2
        have hfz18_3 := blk_frozen BK259.out 3
        have hfz18_4 := blk_frozen BK259.out 4
        have hfz18_5 := blk_frozen BK259.out 5
        have hfz18_6 := blk_frozen BK259.out 6
        have hcz19_0 : wc.cell? ⟨gb264, 0, none⟩ = some (.int .i64 t260) := (blk_cell BK264.out 0).trans rfl
        have hcz19_1 : wc.cell? ⟨gb264, 1, none⟩ = some (.int .i64 t261) := (blk_cell BK264.out 1).trans rfl
        have hfz19_0 := blk_frozen BK264.out 0
        have hfz19_1 := blk_frozen BK264.out 1
        go_wp2
        go_ret
        exact ⟨by first | rfl | (simp [errW_none, errW_some] <;> rfl) | (simp [*, errW_none, errW_some] <;> rfl), by repeat (first | (with_reducible first | exact HB.out | apply below_alloc | apply pw_below_drewN | apply below_drew1 | refine below_set ?_ GE259.out | refine below_set ?_ GE264.out) | exact HB.out)⟩

end Go.Proofs.Yticmghpnbjhhnaa.M
