/- Lean functions with the answers of the Go functions that they are named after, and the walks that tie the Go functions to them (written by the program mp.py of this session). -/
import Derived.Test.YticmghpnbjhhnaaM0
import Derived.Test.YticmghpnbjhhnaaM3
namespace Go.Proofs.Yticmghpnbjhhnaa.M
open Go.RowKit Go.Proofs.YticmghpnbjhhnaaW.PrintWords Go.Proofs.YticmghpnbjhhnaaW.PrintLast Go.Proofs.YticmghpnbjhhnaaW.PrintMore
attribute [local go_sem] max2_int min2_int max_two min_two max_three min_three max_four min_four   -- for this text's walks alone
set_option linter.unusedVariables false
set_option linter.unusedSimpArgs false

/-! ### allocation_Join: function 21 -/
def allocation_Join.l0 : Nat → List (S35) → List (S35) → Int → Int → Option ((List (S35)))
  | 0, _, _, _, _ => none
  | k + 1, x3, x10, x11, x12 => if x12 < x11 then (if 0 ≤ x12 then (if x12 < (x10.length : Int) then (if (wrap64 ((x3.length : Int) - 1)) ≥ 0 then (if 0 ≤ (wrap64 ((x3.length : Int) - 1)) then (if (wrap64 ((x3.length : Int) - 1)) < (x3.length : Int) then ((allocation_joins.f ((rd_T35 x3 (wrap64 ((x3.length : Int) - 1))).f0) ((rd_T35 x3 (wrap64 ((x3.length : Int) - 1))).f1) ((rd_T35 x3 (wrap64 ((x3.length : Int) - 1))).f2.f0) ((rd_T35 x3 (wrap64 ((x3.length : Int) - 1))).f2.f1) ((rd_T35 x10 x12).f0) ((rd_T35 x10 x12).f1) ((rd_T35 x10 x12).f2.f0) ((rd_T35 x10 x12).f2.f1)).bind fun t113 => (if t113 = true then (allocation_Join.l0 k (x3.set ((wrap64 ((x3.length : Int) - 1)) : Int).toNat (⟨(rd_T35 x3 (wrap64 ((x3.length : Int) - 1))).f0, wrap64 (((rd_T35 x3 (wrap64 ((x3.length : Int) - 1))).f1) + ((rd_T35 x10 x12).f1)), (⟨(rd_T35 x3 (wrap64 ((x3.length : Int) - 1))).f2.f0, (rd_T35 x3 (wrap64 ((x3.length : Int) - 1))).f2.f1⟩ : S33)⟩ : S35)) x10 x11 (wrap64 (x12 + 1))) else (if x3.length < 4398046511104 then (allocation_Join.l0 k (x3 ++ [(⟨(rd_T35 x10 x12).f0, (rd_T35 x10 x12).f1, (⟨(rd_T35 x10 x12).f2.f0, (rd_T35 x10 x12).f2.f1⟩ : S33)⟩ : S35)]) x10 x11 (wrap64 (x12 + 1))) else (none)))) else (none)) else (none)) else (if x3.length < 4398046511104 then (allocation_Join.l0 k (x3 ++ [(⟨(rd_T35 x10 x12).f0, (rd_T35 x10 x12).f1, (⟨(rd_T35 x10 x12).f2.f0, (rd_T35 x10 x12).f2.f1⟩ : S33)⟩ : S35)]) x10 x11 (wrap64 (x12 + 1))) else (none))) else (none)) else (none)) else (some x3)
def allocation_Join.f (k : Nat) (l0 : List (S35)) : Option ((List (S35))) := (allocation_formed.f k l0).bind fun t109 => (if t109 = true then (allocation_Join.l0 k ([] : List (S35)) l0 (l0.length : Int) 0) else (some ([] : List (S35))))
theorem allocation_Join.mono_l : ∀ k, (∀ y0 y1 y2 y3, LeO (allocation_Join.l0 k y0 y1 y2 y3) (allocation_Join.l0 (k + 1) y0 y1 y2 y3))
  | 0 => fun _ _ _ _ r h => by simp [allocation_Join.l0] at h
  | k + 1 => by
    have ih0 := allocation_Join.mono_l k
    · intro y0 y1 y2 y3
      unfold allocation_Join.l0
      repeat' first
      | (with_reducible exact ih0 _ _ _ _)
      | (with_reducible exact allocation_formed.mono _ _)
      | (with_reducible exact LeO.refl _)
      | (with_reducible exact LeO.none _)
      | (with_reducible refine LeO.ite ?_ ?_)
      | (with_reducible refine LeO.bind ?_ (fun _ => ?_))
      | exact ih0 _ _ _ _
      | exact allocation_formed.mono _ _
      | exact LeO.none _
      | refine LeO.ite ?_ ?_
      | refine LeO.bind ?_ (fun _ => ?_)
theorem allocation_Join.mono : ∀ a0 k, LeO (allocation_Join.f k a0) (allocation_Join.f (k + 1) a0) := by
  intro a0 k
  have ih0 := allocation_Join.mono_l k
  unfold allocation_Join.f
  repeat' first
      | (with_reducible exact ih0 _ _ _ _)
      | (with_reducible exact allocation_formed.mono _ _)
      | (with_reducible exact LeO.refl _)
      | (with_reducible exact LeO.none _)
      | (with_reducible refine LeO.ite ?_ ?_)
      | (with_reducible refine LeO.bind ?_ (fun _ => ?_))
      | exact ih0 _ _ _ _
      | exact allocation_formed.mono _ _
      | exact LeO.none _
      | refine LeO.ite ?_ ?_
      | refine LeO.bind ?_ (fun _ => ?_)
def allocation_Join.T8 : Bool × List (List Nat × List Nat) := (true, [([], []), ([0], [0]), ([1], [1]), ([2], [2]), ([2], [2]), ([3, 4, 2], [2, 3, 4]), ([5, 2], [2, 5]), ([2], [2]), ([6, 7, 2, 2], [2, 6, 7]), ([2, 8], [2, 8])])
def allocation_Join.B8 : List Nat := [0, 1, 3, 7, 7, 31, 63, 7, 255, 511]
theorem allocation_Join.tab8 : rtab .any (opsOf Try.f21 8) = allocation_Join.T8 := by kernel_rfl
theorem allocation_Join.bits8 : waitsOk allocation_Join.T8.2 allocation_Join.B8 = true := by kernel_rfl
def allocation_Join.T9 : Bool × List (List Nat × List Nat) := (true, [([], []), ([], []), ([0, 1], [0, 1]), ([2], [2]), ([3], [3]), ([], []), ([5], [5]), ([4, 6], [4, 6]), ([0, 1, 0, 1, 2, 3, 4, 5, 6, 7], [0, 1]), ([8, 0, 1, 2, 3, 4, 5, 6, 7], [8]), ([9, 7, 0, 1, 2, 3, 4, 5, 6, 7], [7, 9])])
def allocation_Join.B9 : List Nat := [0, 0, 3, 7, 15, 0, 32, 127, 255, 511, 1023]
theorem allocation_Join.tab9 : rtab .any (opsOf Try.f21 9) = allocation_Join.T9 := by kernel_rfl
theorem allocation_Join.bits9 : waitsOk allocation_Join.T9.2 allocation_Join.B9 = true := by kernel_rfl
set_option maxHeartbeats 8000000 in
set_option maxRecDepth 100000 in
theorem allocation_Join.calls (k : Nat) (A0 : Option Addr) (c0 : Nat) (l0 : List (S35)) (r : List (S35)) (w : World) (hr0 : Kd.C k35 w A0 l0.length l0) (hc0 : l0.length ≤ c0) (h : allocation_Join.f k l0 = some r) :
    Calls Try.prog 21 #[.slice A0 l0.length c0] w fun e w' => ∃ v0_ : Value, e = .returned (v0_) ∧ Kd.R k35 35 w' w.heap.size (fun _ => True) v0_ r ∧ Below w.heap.size w w' := by
  have hu35 := Try.underlying35
  have HR0 := Aside0.mk hr0
  have HC0 := Aside0.mk hc0
  clear hr0 hc0
  have HB := Aside0.mk (Below.refl w.heap.size w)
  have H : ((allocation_formed.f k l0).bind fun t109 => (if t109 = true then (allocation_Join.l0 k ([] : List (S35)) l0 (l0.length : Int) 0) else (some ([] : List (S35))))) = some r := h
  clear h
  replace H := Option.bind_eq_some_iff.mp H
  obtain ⟨t109, A20, H⟩ := H
  replace H : (if t109 = true then (allocation_Join.l0 k ([] : List (S35)) l0 (l0.length : Int) 0) else (some ([] : List (S35)))) = some r := H
  have A2 := Aside0.mk A20
  clear A20
  by_cases c3 : t109 = true
  · subst c3
    have H1 : (allocation_Join.l0 k ([] : List (S35)) l0 (l0.length : Int) 0) = some r := by rw [if_pos rfl] at H; exact H
    clear H
    have H := H1
    clear H1
    have H' := Aside0.mk H
    clear H
    go_enter Try.func21, Try.ntmps21
    go_wp2_with (first | ((with_reducible refine gate_callee (f := 34) rfl ?_); refine goesL_ (some 8) rfl rfl Try.func34 (by kernel_rfl) rfl #[.slice A0 l0.length c0] rfl (by (try simp only [List.map_toArray, List.map_cons, List.map_nil]); first | done | rfl | (simp only [List.length_drop, List.length_take]; rfl)) ?_; (with_reducible refine (allocation_formed.calls k _ _ l0 true _ ?side1 ?side2 A2.out).mono ?_); (case side1 => repeat (first | exact HR0.out | (with_reducible refine Kd.C_alloc ?_ _) | (with_reducible refine Kd.C_drewN ?_ _) | (with_reducible refine Kd.C_drew ?_))); (case side2 => exact HC0.out); rintro e w4 ⟨rfl, hb⟩; refine ⟨_, rfl, ?_⟩; have n0_ := Aside0.mk (below_step (by repeat (first | (with_reducible first | exact HB.out | apply below_alloc | apply pw_below_drewN | apply below_drew1) | exact HB.out)) hb); clear HB; have HB := n0_; clear n0_; (try clear hb); (try clear hb2); (try clear hk); (try clear hi)))
    go_loopg [3, 12] k (fun kq v3 v12 w' => ∃ (x3_1 : List (S35)) (x12_1 : Int), v12 = .int .i64 x12_1 ∧ Aside0 (allocation_Join.l0 kq x3_1 l0 (l0.length : Int) x12_1 = some r) ∧ Aside0 (kq ≤ k) ∧ Aside0 (Kd.R k35 35 w' w.heap.size (fun _ => True) v3 x3_1) ∧ Aside0 (Below w.heap.size w w'))
    case atStart => exact ⟨(([] : List (S35))), (0), (by first | rfl | (simp; done) | (simp [*]; done)), H', ⟨Nat.le_refl _⟩, ⟨by first | exact Kd.R_nil _ _ _ _ _ | exact Kd.N_nil _ _ _ _ _ | exact Kd.V_nil _ _ _ _ _ | exact Kd.Q_nil _ _ _ _ _ | exact Kd.S_nil _ _ _ _ _⟩, ⟨by repeat (first | (with_reducible first | exact HB.out | apply below_alloc | apply pw_below_drewN | apply below_drew1) | exact HB.out)⟩⟩
    case round =>
      clear H'
      try clear c2
      try clear p2
      try clear c3
      obtain ⟨x3_1, x12_1, rfl, HA, HK1, HO_3, HB⟩ := hrel
      cases gk with
      | zero => exact absurd HA.out (by simp [allocation_Join.l0])
      | succ k1 =>
        have H := HA.out
        clear HA
        simp only [allocation_Join.l0] at H
        by_cases c5 : x12_1 < (l0.length : Int)
        · rw [if_pos c5] at H
          have c5b0 : decide (x12_1 < (l0.length : Int)) = true := decide_eq_true c5
          clear c5
          by_cases c6 : 0 ≤ x12_1
          · rw [if_pos c6] at H
            have c6b0 : decide (0 ≤ x12_1) = true := decide_eq_true c6
            clear c6
            by_cases c7 : x12_1 < (l0.length : Int)
            · rw [if_pos c7] at H
              have c7b0 : decide (x12_1 < (l0.length : Int)) = true := decide_eq_true c7
              clear c7
              by_cases c8 : (wrap64 ((x3_1.length : Int) - 1)) ≥ 0
              · rw [if_pos c8] at H
                have c8b0 : decide (0 ≤ (wrap64 ((x3_1.length : Int) - 1))) = true := decide_eq_true c8
                clear c8
                obtain ⟨ji9, hji9⟩ : ∃ j_ : Int, (wrap64 ((x3_1.length : Int) - 1)) = j_ := ⟨_, rfl⟩
                replace H : (if 0 ≤ (ji9) then (if (ji9) < (x3_1.length : Int) then ((allocation_joins.f ((rd_T35 x3_1 (ji9)).f0) ((rd_T35 x3_1 (ji9)).f1) ((rd_T35 x3_1 (ji9)).f2.f0) ((rd_T35 x3_1 (ji9)).f2.f1) ((rd_T35 l0 x12_1).f0) ((rd_T35 l0 x12_1).f1) ((rd_T35 l0 x12_1).f2.f0) ((rd_T35 l0 x12_1).f2.f1)).bind fun t113 => (if t113 = true then (allocation_Join.l0 k1 (x3_1.set ((ji9) : Int).toNat (⟨(rd_T35 x3_1 (ji9)).f0, wrap64 (((rd_T35 x3_1 (ji9)).f1) + ((rd_T35 l0 x12_1).f1)), (⟨(rd_T35 x3_1 (ji9)).f2.f0, (rd_T35 x3_1 (ji9)).f2.f1⟩ : S33)⟩ : S35)) l0 (l0.length : Int) (wrap64 (x12_1 + 1))) else (if x3_1.length < 4398046511104 then (allocation_Join.l0 k1 (x3_1 ++ [(⟨(rd_T35 l0 x12_1).f0, (rd_T35 l0 x12_1).f1, (⟨(rd_T35 l0 x12_1).f2.f0, (rd_T35 l0 x12_1).f2.f1⟩ : S33)⟩ : S35)]) l0 (l0.length : Int) (wrap64 (x12_1 + 1))) else (none)))) else (none)) else (none)) = some r := by first | (rw [hji9] at H; exact H) | (simp only [hji9] at H ⊢; exact H)
                (try rw [hji9] at c8b0)
                have hji9w : (IntKind.i64.wrap ((x3_1.length : Int) - 1)) = ji9 := (i64_w _).trans hji9
                by_cases c10 : 0 ≤ (ji9)
                · rw [if_pos c10] at H
                  have c10b0 : decide (0 ≤ (ji9)) = true := decide_eq_true c10
                  clear c10
                  by_cases c11 : (ji9) < (x3_1.length : Int)
                  · rw [if_pos c11] at H
                    have c11b0 : decide ((ji9) < (x3_1.length : Int)) = true := decide_eq_true c11
                    clear c11
                    replace H := Option.bind_eq_some_iff.mp H
                    obtain ⟨t113, A120, H⟩ := H
                    replace H : (if t113 = true then (allocation_Join.l0 k1 (x3_1.set ((ji9) : Int).toNat (⟨(rd_T35 x3_1 (ji9)).f0, wrap64 (((rd_T35 x3_1 (ji9)).f1) + ((rd_T35 l0 x12_1).f1)), (⟨(rd_T35 x3_1 (ji9)).f2.f0, (rd_T35 x3_1 (ji9)).f2.f1⟩ : S33)⟩ : S35)) l0 (l0.length : Int) (wrap64 (x12_1 + 1))) else (if x3_1.length < 4398046511104 then (allocation_Join.l0 k1 (x3_1 ++ [(⟨(rd_T35 l0 x12_1).f0, (rd_T35 l0 x12_1).f1, (⟨(rd_T35 l0 x12_1).f2.f0, (rd_T35 l0 x12_1).f2.f1⟩ : S33)⟩ : S35)]) l0 (l0.length : Int) (wrap64 (x12_1 + 1))) else (none))) = some r := H
                    have A12 := Aside0.mk A120
                    clear A120
                    by_cases c13 : t113 = true
                    · subst c13
                      have H1 : (allocation_Join.l0 k1 (x3_1.set ((ji9) : Int).toNat (⟨(rd_T35 x3_1 (ji9)).f0, wrap64 (((rd_T35 x3_1 (ji9)).f1) + ((rd_T35 l0 x12_1).f1)), (⟨(rd_T35 x3_1 (ji9)).f2.f0, (rd_T35 x3_1 (ji9)).f2.f1⟩ : S33)⟩ : S35)) l0 (l0.length : Int) (wrap64 (x12_1 + 1))) = some r := by rw [if_pos rfl] at H; exact H
                      clear H
                      have H := H1
                      clear H1
                      obtain ⟨y115, hy115⟩ : ∃ y_ : List (S35), y_ = (x3_1.set ((ji9) : Int).toNat (⟨(rd_T35 x3_1 (ji9)).f0, wrap64 (((rd_T35 x3_1 (ji9)).f1) + ((rd_T35 l0 x12_1).f1)), (⟨(rd_T35 x3_1 (ji9)).f2.f0, (rd_T35 x3_1 (ji9)).f2.f1⟩ : S33)⟩ : S35)) := ⟨_, rfl⟩
                      replace H : (allocation_Join.l0 k1 y115 l0 (l0.length : Int) (wrap64 (x12_1 + 1))) = some r := by first | (rw [hy115]; with_reducible exact H) | (have H2_ := (Option.bind_some _ _).symm.trans H; rw [hy115]; with_reducible exact H2_) | (have H2_ := (Option.bind_some _ _).symm.trans H; with_reducible exact H2_) | with_reducible exact H | (rw [hy115]; exact H) | exact H
                      have Ny115 := Aside0.mk hy115
                      clear hy115
                      have H' := Aside0.mk H
                      clear H
                      have p110 : 0 ≤ (x12_1 : Int) := of_decide_eq_true (by first | (with_reducible assumption) | assumption)
                      have q110 : x12_1 < (l0.length : Int) := of_decide_eq_true (by first | (with_reducible assumption) | assumption)
                      obtain ⟨ad110, e110, hx110_0, hx110_1, hx110_2, hx110_3⟩ := at_T35 HR0.out x12_1 p110 q110
                      cases e110
                      replace hx110_0 := (HB.out.cell (World.block_lt_of_cell? w _ hx110_0)).trans hx110_0
                      replace hx110_1 := (HB.out.cell (World.block_lt_of_cell? w _ hx110_1)).trans hx110_1
                      replace hx110_2 := (HB.out.cell (World.block_lt_of_cell? w _ hx110_2)).trans hx110_2
                      replace hx110_3 := (HB.out.cell (World.block_lt_of_cell? w _ hx110_3)).trans hx110_3
                      replace p110 := eq_true p110
                      replace q110 := eq_true q110
                      try go_wp2_with (first | ((with_reducible refine gate_dst (N := 5) rfl ?_); refine box_event ?hg (N := 5) ?hd (cs := #[.int .i64 0, .int .i64 0, .int .i64 0, .int .i64 0]) (t := 35) ?hr ?_; (case hd => rfl); (case hg => rfl); (case hr => first | (go_simp; done) | (go_simp; rfl)); intro gb111 hg w15 hbox hb; have n0_ := Aside0.mk (Kd.R_below (Kd.R_elderB (by (with_reducible repeat (first | apply Kd.R_alloc | apply Kd.R_drewN | apply Kd.R_drew)); exact HO_3.out) gb111 (Nat.le_of_eq hg.symm)) hb); have n1_ := Aside0.mk (below_step (by repeat (first | (with_reducible first | exact HB.out | apply below_alloc | apply pw_below_drewN | apply below_drew1) | exact HB.out)) hb); have n2_ := Aside0.mk (hbox); have n3_ := Aside0.mk ((by rw [hg]; exact (below_size (by repeat (first | (with_reducible first | exact HB.out | apply below_alloc | apply pw_below_drewN | apply below_drew1) | exact HB.out))) : w.heap.size ≤ gb111)); have n4_ := Aside0.mk ((by rw [hg]; exact (below_size (by repeat (first | (with_reducible first | exact HB.out | apply below_alloc | apply pw_below_drewN | apply below_drew1) | exact HB.out))) : w.heap.size ≤ gb111)); clear HO_3; clear HB; have HO_3 := n0_; have HB := n1_; have BK111 := n2_; have GW111 := n3_; have GE111 := n4_; clear n0_ n1_ n2_ n3_ n4_; clear hb hbox hg; have hcz16_0 : w15.cell? ⟨gb111, 0, none⟩ = some (.int .i64 0) := (blk_cell BK111.out 0).trans rfl; have hcz16_1 : w15.cell? ⟨gb111, 1, none⟩ = some (.int .i64 0) := (blk_cell BK111.out 1).trans rfl; have hcz16_2 : w15.cell? ⟨gb111, 2, none⟩ = some (.int .i64 0) := (blk_cell BK111.out 2).trans rfl; have hcz16_3 : w15.cell? ⟨gb111, 3, none⟩ = some (.int .i64 0) := (blk_cell BK111.out 3).trans rfl; have hfz16_0 := blk_frozen BK111.out 0; have hfz16_1 := blk_frozen BK111.out 1; have hfz16_2 := blk_frozen BK111.out 2; have hfz16_3 := blk_frozen BK111.out 3; obtain ⟨Ao17, co17, eo17⟩ := Kd.R_slice HO_3.out; subst eo17))
                      have n0_ : Aside0 (Kd.R k35 35 ((((w15.setCell ⟨gb111, 0, none⟩ (.int .i64 ((rd_T35 l0 x12_1).f0))).setCell ⟨gb111, 1, none⟩ (.int .i64 ((rd_T35 l0 x12_1).f1))).setCell ⟨gb111, 2, none⟩ (.int .i64 ((rd_T35 l0 x12_1).f2.f0))).setCell ⟨gb111, 3, none⟩ (.int .i64 ((rd_T35 l0 x12_1).f2.f1))) w.heap.size (fun k_ => k_ ≠ gb111) (.slice Ao17 x3_1.length co17) x3_1) := ⟨by (with_reducible repeat (first | apply Kd.R_alloc | apply Kd.R_drewN | apply Kd.R_drew)); exact Kd.R_mono (Kd.R_far (p := ⟨gb111, 3, none⟩) (Kd.R_far (p := ⟨gb111, 2, none⟩) (Kd.R_far (p := ⟨gb111, 1, none⟩) (Kd.R_far (p := ⟨gb111, 0, none⟩) (Kd.R_mono HO_3.out (fun k_ hk => (⟨hk, hk.2⟩ : _ ∧ k_ ≠ gb111))) (fun _ hk => hk.2) (.int .i64 ((rd_T35 l0 x12_1).f0))) (fun _ hk => hk.2) (.int .i64 ((rd_T35 l0 x12_1).f1))) (fun _ hk => hk.2) (.int .i64 ((rd_T35 l0 x12_1).f2.f0))) (fun _ hk => hk.2) (.int .i64 ((rd_T35 l0 x12_1).f2.f1))) (fun _ hk => hk.1.2)⟩
                      have n1_ : Aside0 (((((w15.setCell ⟨gb111, 0, none⟩ (.int .i64 ((rd_T35 l0 x12_1).f0))).setCell ⟨gb111, 1, none⟩ (.int .i64 ((rd_T35 l0 x12_1).f1))).setCell ⟨gb111, 2, none⟩ (.int .i64 ((rd_T35 l0 x12_1).f2.f0))).setCell ⟨gb111, 3, none⟩ (.int .i64 ((rd_T35 l0 x12_1).f2.f1))).heap[gb111]? = some (.cells #[.int .i64 ((rd_T35 l0 x12_1).f0), .int .i64 ((rd_T35 l0 x12_1).f1), .int .i64 ((rd_T35 l0 x12_1).f2.f0), .int .i64 ((rd_T35 l0 x12_1).f2.f1)] 35 (0, 0))) := ⟨by (with_reducible repeat (first | refine blk_drewN ?_ _ | refine blk_drew ?_ | refine blk_alloc ?_ _)); refine blk_put (cs := #[.int .i64 ((rd_T35 l0 x12_1).f0), .int .i64 ((rd_T35 l0 x12_1).f1), .int .i64 ((rd_T35 l0 x12_1).f2.f0), .int .i64 0]) ?_ 3 _ rfl; (with_reducible repeat (first | refine blk_drewN ?_ _ | refine blk_drew ?_ | refine blk_alloc ?_ _)); refine blk_put (cs := #[.int .i64 ((rd_T35 l0 x12_1).f0), .int .i64 ((rd_T35 l0 x12_1).f1), .int .i64 0, .int .i64 0]) ?_ 2 _ rfl; (with_reducible repeat (first | refine blk_drewN ?_ _ | refine blk_drew ?_ | refine blk_alloc ?_ _)); refine blk_put (cs := #[.int .i64 ((rd_T35 l0 x12_1).f0), .int .i64 0, .int .i64 0, .int .i64 0]) ?_ 1 _ rfl; (with_reducible repeat (first | refine blk_drewN ?_ _ | refine blk_drew ?_ | refine blk_alloc ?_ _)); refine blk_put (cs := #[.int .i64 0, .int .i64 0, .int .i64 0, .int .i64 0]) ?_ 0 _ rfl; (with_reducible repeat (first | refine blk_drewN ?_ _ | refine blk_drew ?_ | refine blk_alloc ?_ _)); exact BK111.out⟩
                      have n2_ : Aside0 (Below w.heap.size w ((((w15.setCell ⟨gb111, 0, none⟩ (.int .i64 ((rd_T35 l0 x12_1).f0))).setCell ⟨gb111, 1, none⟩ (.int .i64 ((rd_T35 l0 x12_1).f1))).setCell ⟨gb111, 2, none⟩ (.int .i64 ((rd_T35 l0 x12_1).f2.f0))).setCell ⟨gb111, 3, none⟩ (.int .i64 ((rd_T35 l0 x12_1).f2.f1)))) := ⟨by repeat (first | (with_reducible first | exact HB.out | apply below_alloc | apply pw_below_drewN | apply below_drew1 | refine below_set ?_ GE111.out) | exact HB.out)⟩
                      (try clear HO_3)
                      (try clear BK111)
                      (try clear HB)
                      generalize ((((w15.setCell ⟨gb111, 0, none⟩ (.int .i64 ((rd_T35 l0 x12_1).f0))).setCell ⟨gb111, 1, none⟩ (.int .i64 ((rd_T35 l0 x12_1).f1))).setCell ⟨gb111, 2, none⟩ (.int .i64 ((rd_T35 l0 x12_1).f2.f0))).setCell ⟨gb111, 3, none⟩ (.int .i64 ((rd_T35 l0 x12_1).f2.f1))) = w18 at n0_ n1_ n2_ ⊢
                      have HO_3 := n0_
                      have BK111 := n1_
                      have HB := n2_
                      clear n0_ n1_ n2_
                      have n0_ := Aside0.mk (Kd.R_drew HO_3.out)
                      have n1_ := Aside0.mk (blk_drew BK111.out)
                      have n2_ := Aside0.mk (below_drew1 HB.out)
                      clear HO_3
                      clear BK111
                      clear HB
                      have HO_3 := n0_
                      have BK111 := n1_
                      have HB := n2_
                      clear n0_ n1_ n2_
                      have p112 : 0 ≤ ((ji9) : Int) := of_decide_eq_true (by first | (with_reducible assumption) | assumption)
                      have q112 : (ji9) < (x3_1.length : Int) := of_decide_eq_true (by first | (with_reducible assumption) | assumption)
                      obtain ⟨ad112, e112, hx112_0, hx112_1, hx112_2, hx112_3⟩ := at_T35 (Kd.R_reads' HO_3.out).2.2 (ji9) p112 q112
                      cases e112
                      replace p112 := eq_true p112
                      replace q112 := eq_true q112
                      refine start_ (n := 10) (S := fun w' => w'.cell? ⟨gb111, 0, none⟩ = some (.int .i64 ((rd_T35 l0 x12_1).f0)) ∧ w'.cell? ⟨gb111, 1, none⟩ = some (.int .i64 ((rd_T35 l0 x12_1).f1)) ∧ w'.cell? ⟨gb111, 2, none⟩ = some (.int .i64 ((rd_T35 l0 x12_1).f2.f0)) ∧ w'.cell? ⟨gb111, 3, none⟩ = some (.int .i64 ((rd_T35 l0 x12_1).f2.f1)) ∧ w'.cell? (ad112.add (((ji9)).toNat * 4)) = some (.int .i64 ((rd_T35 x3_1 (ji9)).f0)) ∧ w'.cell? ⟨(ad112.add (((ji9)).toNat * 4)).block, (ad112.add (((ji9)).toNat * 4)).off + 1, none⟩ = some (.int .i64 ((rd_T35 x3_1 (ji9)).f1)) ∧ w'.cell? ⟨(ad112.add (((ji9)).toNat * 4)).block, (ad112.add (((ji9)).toNat * 4)).off + 2, none⟩ = some (.int .i64 ((rd_T35 x3_1 (ji9)).f2.f0)) ∧ w'.cell? ⟨(ad112.add (((ji9)).toNat * 4)).block, (ad112.add (((ji9)).toNat * 4)).off + 3, none⟩ = some (.int .i64 ((rd_T35 x3_1 (ji9)).f2.f1))) (ds := []) #[false, false, false, false, false, false, false, false, false, false] (by kernel_rfl) rfl rfl ⟨(blk_cell BK111.out 0).trans rfl, (blk_cell BK111.out 1).trans rfl, (blk_cell BK111.out 2).trans rfl, (blk_cell BK111.out 3).trans rfl, hx112_0, hx112_1, hx112_2, hx112_3⟩ (fun hHeld => ?_); refine with_tabW allocation_Join.tab8 allocation_Join.bits8 (fun HT_ HW_ => ?_)
                      generalize w18.drew = w19 at HO_3 BK111 HB hx112_0 hx112_1 hx112_2 hx112_3 hHeld ⊢
                      refine pure_ (i := 0) (N := some 19) (v := ?_) (a' := ?_) #[true, false, false, false, false, false, false, false, false, false] rfl rfl (any_of HT_.out (by kernel_rfl)) (fun _ _ _ h => h) (Or.inl ⟨by rfl, ?_⟩) ?_ ?_
                      rotate_left
                      · intro w'
                        go_simp
                        with_reducible rfl
                      rotate_left
                      · simp only [Act.put, List.setIfInBounds_toArray, List.set_cons_zero, List.set_cons_succ, i64_w, i32_w]
                        rfl
                      refine pure_ (i := 1) (N := some 20) (v := ?_) (a' := ?_) #[true, true, false, false, false, false, false, false, false, false] rfl rfl (any_of HT_.out (by kernel_rfl)) (fun _ _ _ h => h) (Or.inl ⟨by rfl, ?_⟩) ?_ ?_
                      rotate_left
                      · intro w'
                        go_simp
                        with_reducible rfl
                      rotate_left
                      · simp only [Act.put, List.setIfInBounds_toArray, List.set_cons_zero, List.set_cons_succ, i64_w, i32_w]
                        rfl
                      refine pure_ (i := 2) (N := some 21) (v := ?_) (a' := ?_) #[true, true, true, false, false, false, false, false, false, false] rfl rfl (any_of HT_.out (by kernel_rfl)) (fun _ _ _ h => h) (Or.inl ⟨by rfl, ?_⟩) ?_ ?_
                      rotate_left
                      · intro w'
                        go_simp
                        with_reducible rfl
                      rotate_left
                      · simp only [Act.put, List.setIfInBounds_toArray, List.set_cons_zero, List.set_cons_succ, i64_w, i32_w]
                        rfl
                      refine pure_ (i := 3) (N := some 22) (v := ?_) (a' := ?_) #[true, true, true, true, false, false, false, false, false, false] rfl rfl (any_of HT_.out (by kernel_rfl)) (fun _ _ _ h => h) (Or.inl ⟨by rfl, ?_⟩) ?_ ?_
                      rotate_left
                      · intro w'
                        go_simp
                        with_reducible rfl
                      rotate_left
                      · simp only [Act.put, List.setIfInBounds_toArray, List.set_cons_zero, List.set_cons_succ, i64_w, i32_w]
                        rfl
                      refine pure_ (i := 4) (N := some 23) (v := ?_) (a' := ?_) #[true, true, true, true, true, false, false, false, false, false] rfl rfl (any_of HT_.out (by kernel_rfl)) (fun _ _ _ h => h) (Or.inl ⟨by rfl, ?_⟩) ?_ ?_
                      rotate_left
                      · intro w'
                        go_simp
                        with_reducible rfl
                      rotate_left
                      · simp only [Act.put, List.setIfInBounds_toArray, List.set_cons_zero, List.set_cons_succ, i64_w, i32_w]
                        rfl
                      refine pure_ (i := 5) (N := some 24) (v := ?_) (a' := ?_) #[true, true, true, true, true, true, false, false, false, false] rfl rfl (any_of HT_.out (by kernel_rfl)) (fun _ _ _ h => h) (Or.inl ⟨by rfl, ?_⟩) ?_ ?_
                      rotate_left
                      · intro w'
                        go_simp
                        with_reducible rfl
                      rotate_left
                      · simp only [Act.put, List.setIfInBounds_toArray, List.set_cons_zero, List.set_cons_succ, i64_w, i32_w]
                        rfl
                      refine take_ (i := 6) (N := some 25) (v := ?_) (a' := ?_) #[true, true, true, true, true, true, true, false, false, false] rfl rfl (take_ofW HT_.out HW_.out (by kernel_rfl)) (fun _ _ _ h => h) (Or.inl ⟨by rfl, ?_⟩) hHeld ?_ ?_
                      rotate_left
                      · rintro w' ⟨s0, s1, s2, s3, s4, s5, s6, s7⟩
                        go_simp
                        with_reducible rfl
                      rotate_left
                      · simp only [Act.put, List.setIfInBounds_toArray, List.set_cons_zero, List.set_cons_succ, i64_w, i32_w]
                        rfl
                      refine take_ (i := 7) (N := some 26) (v := ?_) (a' := ?_) #[true, true, true, true, true, true, true, true, false, false] rfl rfl (take_ofW HT_.out HW_.out (by kernel_rfl)) (fun _ _ _ h => h) (Or.inl ⟨by rfl, ?_⟩) hHeld ?_ ?_
                      rotate_left
                      · rintro w' ⟨s0, s1, s2, s3, s4, s5, s6, s7⟩
                        go_simp
                        with_reducible rfl
                      rotate_left
                      · simp only [Act.put, List.setIfInBounds_toArray, List.set_cons_zero, List.set_cons_succ, i64_w, i32_w]
                        rfl
                      refine one_ (i := 8) (N := some 27) #[true, true, true, true, true, true, true, true, true, false] rfl rfl (one_of HT_.out (by kernel_rfl)) (by decide) (fun K hK => ?_)
                      refine goes_ Try.func35 (by kernel_rfl) rfl #[.agg #[.int .i64 ((rd_T35 x3_1 (ji9)).f0), .int .i64 ((rd_T35 x3_1 (ji9)).f1), .int .i64 ((rd_T35 x3_1 (ji9)).f2.f0), .int .i64 ((rd_T35 x3_1 (ji9)).f2.f1)], .agg #[.int .i64 ((rd_T35 l0 x12_1).f0), .int .i64 ((rd_T35 l0 x12_1).f1), .int .i64 ((rd_T35 l0 x12_1).f2.f0), .int .i64 ((rd_T35 l0 x12_1).f2.f1)]] (by rfl) rfl rfl (by (try simp only [List.map_toArray, List.map_cons, List.map_nil]); first | done | (simp only [hji9]; rfl) | rfl | (simp only [List.length_drop, List.length_take]; rfl)) ?_
                      with_reducible refine (allocation_joins.calls ((rd_T35 x3_1 (ji9)).f0) ((rd_T35 x3_1 (ji9)).f1) ((rd_T35 x3_1 (ji9)).f2.f0) ((rd_T35 x3_1 (ji9)).f2.f1) ((rd_T35 l0 x12_1).f0) ((rd_T35 l0 x12_1).f1) ((rd_T35 l0 x12_1).f2.f0) ((rd_T35 l0 x12_1).f2.f1) true _ A12.out).mono ?_
                      rintro e w20 ⟨rfl, hb⟩
                      have HS4_ := (hb.cell (World.block_lt_of_cell? _ _ (hHeld.2.2.2.2.1))).trans (hHeld.2.2.2.2.1)
                      have HS5_ := (hb.cell (World.block_lt_of_cell? _ _ (hHeld.2.2.2.2.2.1))).trans (hHeld.2.2.2.2.2.1)
                      have HS6_ := (hb.cell (World.block_lt_of_cell? _ _ (hHeld.2.2.2.2.2.2.1))).trans (hHeld.2.2.2.2.2.2.1)
                      have HS7_ := (hb.cell (World.block_lt_of_cell? _ _ (hHeld.2.2.2.2.2.2.2))).trans (hHeld.2.2.2.2.2.2.2)
                      refine ⟨_, rfl, ?_⟩
                      have n0_ := Aside0.mk (Kd.R_below (by (with_reducible repeat (first | apply Kd.R_alloc | apply Kd.R_drewN | apply Kd.R_drew)); exact HO_3.out) hb)
                      have n1_ := Aside0.mk (blk_below (g := gb111) (o := .cells #[.int .i64 ((rd_T35 l0 x12_1).f0), .int .i64 ((rd_T35 l0 x12_1).f1), .int .i64 ((rd_T35 l0 x12_1).f2.f0), .int .i64 ((rd_T35 l0 x12_1).f2.f1)] 35 (0, 0)) (by (with_reducible repeat (first | refine blk_drewN ?_ _ | refine blk_drew ?_ | refine blk_alloc ?_ _)); exact BK111.out) hb)
                      have n2_ := Aside0.mk (below_step (by repeat (first | (with_reducible first | exact HB.out | apply below_alloc | apply pw_below_drewN | apply below_drew1 | refine below_set ?_ GE111.out) | exact HB.out)) hb)
                      clear HO_3
                      clear BK111
                      clear HB
                      have HO_3 := n0_
                      have BK111 := n1_
                      have HB := n2_
                      clear n0_ n1_ n2_
                      (try clear hb)
                      (try clear hb2)
                      (try clear hk)
                      (try clear hi)
                      refine hK.out _ _ ⟨(blk_cell BK111.out 0).trans rfl, (blk_cell BK111.out 1).trans rfl, (blk_cell BK111.out 2).trans rfl, (blk_cell BK111.out 3).trans rfl, HS4_, HS5_, HS6_, HS7_⟩ (fun hHeld => ?_)
                      clear hK K
                      refine norm_ (a' := ?_) ?_ ?_
                      rotate_left
                      · show Act.put _ (some 27) _ = _
                        simp only [Act.put, List.setIfInBounds_toArray, List.set_cons_zero, List.set_cons_succ, i64_w, i32_w]
                        rfl
                      refine pure_ (i := 9) (N := some 28) (v := ?_) (a' := ?_) #[true, true, true, true, true, true, true, true, true, true] rfl rfl (any_of HT_.out (by kernel_rfl)) (fun _ _ _ h => h) (Or.inl ⟨by rfl, ?_⟩) ?_ ?_
                      rotate_left
                      · intro w'
                        go_simp
                        with_reducible rfl
                      rotate_left
                      · simp only [Act.put, List.setIfInBounds_toArray, List.set_cons_zero, List.set_cons_succ, i64_w, i32_w]
                        rfl
                      refine done_ (done_of HT_.out (by kernel_rfl)) ?_
                      try go_wp2
                      have n0_ := Aside0.mk (Kd.R_drew HO_3.out)
                      have n1_ := Aside0.mk (blk_drew BK111.out)
                      have n2_ := Aside0.mk (below_drew1 HB.out)
                      clear HO_3
                      clear BK111
                      clear HB
                      have HO_3 := n0_
                      have BK111 := n1_
                      have HB := n2_
                      clear n0_ n1_ n2_
                      have p114 : 0 ≤ ((ji9) : Int) := of_decide_eq_true (by first | (with_reducible assumption) | assumption)
                      have q114 : (ji9) < (x3_1.length : Int) := of_decide_eq_true (by first | (with_reducible assumption) | assumption)
                      obtain ⟨ad114, e114, hx114_0, hx114_1, hx114_2, hx114_3⟩ := at_T35 (Kd.R_reads' HO_3.out).2.2 (ji9) p114 q114
                      obtain rfl : ad112 = ad114 := (by injection e114)
                      replace p114 := eq_true p114
                      replace q114 := eq_true q114
                      have p14 : 0 ≤ ((ji9) : Int) := of_decide_eq_true (by first | (with_reducible assumption) | assumption)
                      have q14 : ((ji9) : Int) < ((x3_1.length : Int) : Int) := of_decide_eq_true (by first | (with_reducible assumption) | assumption)
                      obtain ⟨go14, co14, eo14, gb14, gl14, cl14, HG14⟩ := Kd.R_form HO_3.out (by omega)
                      (first | cases eo14 | (injection eo14 with ea_ en_ ec_; (first | subst ea_ | (injection ea_ with ea_; subst ea_)); subst ec_; clear en_))
                      have GB14 := Aside0.mk gb14
                      have GG14 := Aside0.mk HG14
                      clear gb14 gl14 HG14
                      (first | simp only [add_plain] at hx112_0 | skip)
                      (first | simp only [add_plain] at hx112_1 | skip)
                      (first | simp only [add_plain] at hx112_2 | skip)
                      (first | simp only [add_plain] at hx112_3 | skip)
                      (first | simp only [add_plain] at hx114_0 | skip)
                      (first | simp only [add_plain] at hx114_1 | skip)
                      (first | simp only [add_plain] at hx114_2 | skip)
                      (first | simp only [add_plain] at hx114_3 | skip)
                      obtain ⟨ce14, hcl14, hM14, hcc14, hfr14⟩ := Kd.R_elem HO_3.out z35 ((ji9) : Int) p14 q14
                      obtain rfl := k35_openM hM14
                      have hx14_0 : World.cell? _ ⟨go14, ((ji9) : Int).toNat * 4, none⟩ = some (.int .i64 ((rd_T35 x3_1 (ji9)).f0)) := hcc14 0 _ rfl
                      have hx14_1 : World.cell? _ ⟨go14, ((ji9) : Int).toNat * 4 + 1, none⟩ = some (.int .i64 ((rd_T35 x3_1 (ji9)).f1)) := hcc14 1 _ rfl
                      have hx14_2 : World.cell? _ ⟨go14, ((ji9) : Int).toNat * 4 + 2, none⟩ = some (.int .i64 ((rd_T35 x3_1 (ji9)).f2.f0)) := hcc14 2 _ rfl
                      have hx14_3 : World.cell? _ ⟨go14, ((ji9) : Int).toNat * 4 + 3, none⟩ = some (.int .i64 ((rd_T35 x3_1 (ji9)).f2.f1)) := hcc14 3 _ rfl
                      have hf14_0 : World.frozen? _ ⟨go14, ((ji9) : Int).toNat * 4, none⟩ = false := hfr14 0
                      have hf14_1 : World.frozen? _ ⟨go14, ((ji9) : Int).toNat * 4 + 1, none⟩ = false := hfr14 1
                      have hf14_2 : World.frozen? _ ⟨go14, ((ji9) : Int).toNat * 4 + 2, none⟩ = false := hfr14 2
                      have hf14_3 : World.frozen? _ ⟨go14, ((ji9) : Int).toNat * 4 + 3, none⟩ = false := hfr14 3
                      clear hcl14 hcc14 hfr14 hM14
                      replace p14 := eq_true p14
                      replace q14 := eq_true q14
                      obtain ⟨ce22, hcl22, hM22, hcc22, hfr22⟩ := Kd.R_elem HO_3.out z35 ((ji9) : Int) (of_decide_eq_true (by first | (with_reducible assumption) | assumption)) (by have h_ : ((ji9) : Int) < ((x3_1.length : Int) : Int) := of_decide_eq_true (by first | (with_reducible assumption) | assumption); first | exact h_ | (have e_ := (Kd.R_reads' HO_3.out).1; omega) | simpa using h_)
                      obtain rfl := k35_openM hM22
                      have HP22 := (Kd.R_seg HO_3.out ((ji9) : Int) (of_decide_eq_true (by first | (with_reducible assumption) | assumption)) (by have h_ : ((ji9) : Int) < ((x3_1.length : Int) : Int) := of_decide_eq_true (by first | (with_reducible assumption) | assumption); first | exact h_ | (have e_ := (Kd.R_reads' HO_3.out).1; omega) | simpa using h_) (seg := [.int .i64 (wrap64 (((rd_T35 x3_1 (ji9)).f1) + ((rd_T35 l0 x12_1).f1)))]) (j := 1) hcl22 hcc22 (show 2 ≤ 4 from by decide) (x' := (⟨(rd_T35 x3_1 (ji9)).f0, wrap64 (((rd_T35 x3_1 (ji9)).f1) + ((rd_T35 l0 x12_1).f1)), (⟨(rd_T35 x3_1 (ji9)).f2.f0, (rd_T35 x3_1 (ji9)).f2.f1⟩ : S33)⟩ : S35)) (k35_mkM _ _ _ (⟨(rd_T35 x3_1 (ji9)).f0, wrap64 (((rd_T35 x3_1 (ji9)).f1) + ((rd_T35 l0 x12_1).f1)), (⟨(rd_T35 x3_1 (ji9)).f2.f0, (rd_T35 x3_1 (ji9)).f2.f1⟩ : S33)⟩ : S35) ) (fun _ hk => hk)).1
                      rw [← Ny115.out] at HP22
                      have HQ22 := Aside0.mk HP22
                      clear hcl22 hcc22 hfr22 hM22 HP22
                      refine start_ (n := 11) (S := fun w' => w'.cell? ⟨gb111, 0, none⟩ = some (.int .i64 ((rd_T35 l0 x12_1).f0)) ∧ w'.cell? ⟨gb111, 1, none⟩ = some (.int .i64 ((rd_T35 l0 x12_1).f1)) ∧ w'.cell? ⟨gb111, 2, none⟩ = some (.int .i64 ((rd_T35 l0 x12_1).f2.f0)) ∧ w'.cell? ⟨gb111, 3, none⟩ = some (.int .i64 ((rd_T35 l0 x12_1).f2.f1)) ∧ w'.cell? ⟨go14, (((ji9)).toNat * 4), none⟩ = some (.int .i64 ((rd_T35 x3_1 (ji9)).f0)) ∧ w'.cell? ⟨go14, (((ji9)).toNat * 4) + 1, none⟩ = some (.int .i64 ((rd_T35 x3_1 (ji9)).f1)) ∧ w'.cell? ⟨go14, (((ji9)).toNat * 4) + 2, none⟩ = some (.int .i64 ((rd_T35 x3_1 (ji9)).f2.f0)) ∧ w'.cell? ⟨go14, (((ji9)).toNat * 4) + 3, none⟩ = some (.int .i64 ((rd_T35 x3_1 (ji9)).f2.f1))) (ds := [10]) #[false, false, false, false, false, false, false, false, false, false, false] (by kernel_rfl) rfl rfl ⟨(blk_cell BK111.out 0).trans rfl, (blk_cell BK111.out 1).trans rfl, (blk_cell BK111.out 2).trans rfl, (blk_cell BK111.out 3).trans rfl, hx114_0, hx114_1, hx114_2, hx114_3⟩ (fun hHeld => ?_); refine with_tabW allocation_Join.tab9 allocation_Join.bits9 (fun HT_ HW_ => ?_)
                      generalize w20.drew = w21 at HO_3 BK111 HB GG14 HQ22 hf14_0 hf14_1 hf14_2 hf14_3 hx112_0 hx112_1 hx112_2 hx112_3 hx114_0 hx114_1 hx114_2 hx114_3 hx14_0 hx14_1 hx14_2 hx14_3 hHeld ⊢
                      refine pure_ (i := 0) (N := some 29) (v := ?_) (a' := ?_) #[true, false, false, false, false, false, false, false, false, false, false] rfl rfl (any_of HT_.out (by kernel_rfl)) (fun _ _ _ h => h) (Or.inl ⟨by rfl, ?_⟩) ?_ ?_
                      rotate_left
                      · intro w'
                        go_simp
                        with_reducible rfl
                      rotate_left
                      · simp only [Act.put, List.setIfInBounds_toArray, List.set_cons_zero, List.set_cons_succ, i64_w, i32_w]
                        rfl
                      refine pure_ (i := 1) (N := some 30) (v := ?_) (a' := ?_) #[true, true, false, false, false, false, false, false, false, false, false] rfl rfl (any_of HT_.out (by kernel_rfl)) (fun _ _ _ h => h) (Or.inl ⟨by rfl, ?_⟩) ?_ ?_
                      rotate_left
                      · intro w'
                        go_simp
                        with_reducible rfl
                      rotate_left
                      · simp only [Act.put, List.setIfInBounds_toArray, List.set_cons_zero, List.set_cons_succ, i64_w, i32_w]
                        rfl
                      refine pure_ (i := 2) (N := some 31) (v := ?_) (a' := ?_) #[true, true, true, false, false, false, false, false, false, false, false] rfl rfl (any_of HT_.out (by kernel_rfl)) (fun _ _ _ h => h) (Or.inl ⟨by rfl, ?_⟩) ?_ ?_
                      rotate_left
                      · intro w'
                        go_simp
                        with_reducible rfl
                      rotate_left
                      · simp only [Act.put, List.setIfInBounds_toArray, List.set_cons_zero, List.set_cons_succ, i64_w, i32_w]
                        rfl
                      refine pure_ (i := 3) (N := some 32) (v := ?_) (a' := ?_) #[true, true, true, true, false, false, false, false, false, false, false] rfl rfl (any_of HT_.out (by kernel_rfl)) (fun _ _ _ h => h) (Or.inl ⟨by rfl, ?_⟩) ?_ ?_
                      rotate_left
                      · intro w'
                        go_simp
                        with_reducible rfl
                      rotate_left
                      · simp only [Act.put, List.setIfInBounds_toArray, List.set_cons_zero, List.set_cons_succ, i64_w, i32_w]
                        rfl
                      refine pure_ (i := 5) (N := some 34) (v := ?_) (a' := ?_) #[true, true, true, true, false, true, false, false, false, false, false] rfl rfl (any_of HT_.out (by kernel_rfl)) (fun _ _ _ h => h) (Or.inl ⟨by rfl, ?_⟩) ?_ ?_
                      rotate_left
                      · intro w'
                        go_simp
                        with_reducible rfl
                      rotate_left
                      · simp only [Act.put, List.setIfInBounds_toArray, List.set_cons_zero, List.set_cons_succ, i64_w, i32_w]
                        rfl
                      refine take_ (i := 4) (N := some 33) (v := ?_) (a' := ?_) #[true, true, true, true, true, true, false, false, false, false, false] rfl rfl (take_ofW HT_.out HW_.out (by kernel_rfl)) (fun _ _ _ h => h) (Or.inl ⟨by rfl, ?_⟩) hHeld ?_ ?_
                      rotate_left
                      · rintro w' ⟨s0, s1, s2, s3, s4, s5, s6, s7⟩
                        go_simp
                        with_reducible rfl
                      rotate_left
                      · simp only [Act.put, List.setIfInBounds_toArray, List.set_cons_zero, List.set_cons_succ, i64_w, i32_w]
                        rfl
                      refine take_ (i := 6) (N := some 35) (v := ?_) (a' := ?_) #[true, true, true, true, true, true, true, false, false, false, false] rfl rfl (take_ofW HT_.out HW_.out (by kernel_rfl)) (fun _ _ _ h => h) (Or.inl ⟨by rfl, ?_⟩) hHeld ?_ ?_
                      rotate_left
                      · rintro w' ⟨s0, s1, s2, s3, s4, s5, s6, s7⟩
                        go_simp
                        with_reducible rfl
                      rotate_left
                      · simp only [Act.put, List.setIfInBounds_toArray, List.set_cons_zero, List.set_cons_succ, i64_w, i32_w]
                        rfl
                      refine pure_ (i := 7) (N := some 36) (v := ?_) (a' := ?_) #[true, true, true, true, true, true, true, true, false, false, false] rfl rfl (any_of HT_.out (by kernel_rfl)) (fun _ _ _ h => h) (Or.inl ⟨by rfl, ?_⟩) ?_ ?_
                      rotate_left
                      · intro w'
                        go_simp
                        with_reducible rfl
                      rotate_left
                      · simp only [Act.put, List.setIfInBounds_toArray, List.set_cons_zero, List.set_cons_succ, i64_w, i32_w]
                        rfl
                      refine pure_ (i := 8) (N := some 37) (v := ?_) (a' := ?_) #[true, true, true, true, true, true, true, true, true, false, false] rfl rfl (any_of HT_.out (by kernel_rfl)) (fun _ _ _ h => h) (Or.inl ⟨by rfl, ?_⟩) ?_ ?_
                      rotate_left
                      · intro w'
                        go_simp
                        with_reducible rfl
                      rotate_left
                      · simp only [Act.put, List.setIfInBounds_toArray, List.set_cons_zero, List.set_cons_succ, i64_w, i32_w]
                        rfl
                      refine pure_ (i := 9) (N := some 38) (v := ?_) (a' := ?_) #[true, true, true, true, true, true, true, true, true, true, false] rfl rfl (any_of HT_.out (by kernel_rfl)) (fun _ _ _ h => h) (Or.inl ⟨by rfl, ?_⟩) ?_ ?_
                      rotate_left
                      · intro w'
                        go_simp
                        with_reducible rfl
                      rotate_left
                      · simp only [Act.put, List.setIfInBounds_toArray, List.set_cons_zero, List.set_cons_succ, i64_w, i32_w]
                        rfl
                      refine last_ (i := 10) (N := none) #[true, true, true, true, true, true, true, true, true, true, true] rfl rfl (one_of HT_.out (by kernel_rfl)) (by decide) (fun K hK => ?_)
                      refine skip_ (w1 := ?_) (by rfl) rfl ?_ ?_
                      rotate_left
                      · go_simp
                        rfl
                      refine hK.out _ _ ?_
                      clear hK K
                      refine done_ (done_of HT_.out (by kernel_rfl)) ?_
                      try go_wp2
                      go_roundg k1
                      case measure => have := HK1.out; omega
                      case rel => exact ⟨(y115), (wrap64 (x12_1 + 1)), (by first | rfl | (simp; done) | (simp [*]; done)), H', ⟨by have := HK1.out; omega⟩, ⟨by (with_reducible repeat (first | apply Kd.R_alloc | apply Kd.R_drewN | apply Kd.R_drew)); exact Kd.R_mono HQ22.out (fun _ hk => trivial)⟩, ⟨by repeat (first | (with_reducible first | exact HB.out | apply below_alloc | apply pw_below_drewN | apply below_drew1 | refine below_set ?_ GB14.out | refine below_set ?_ GE111.out) | exact HB.out)⟩⟩
                    · replace c13 := Bool.eq_false_iff.mpr c13
                      subst c13
                      have H1 : (if x3_1.length < 4398046511104 then (allocation_Join.l0 k1 (x3_1 ++ [(⟨(rd_T35 l0 x12_1).f0, (rd_T35 l0 x12_1).f1, (⟨(rd_T35 l0 x12_1).f2.f0, (rd_T35 l0 x12_1).f2.f1⟩ : S33)⟩ : S35)]) l0 (l0.length : Int) (wrap64 (x12_1 + 1))) else (none)) = some r := by rw [if_neg (show ¬ (false = true) by decide)] at H; exact H
                      clear H
                      have H := H1
                      clear H1
                      by_cases c23 : x3_1.length < 4398046511104
                      · rw [if_pos c23] at H
                        have LMc23 := Aside0.mk c23
                        clear c23
                        obtain ⟨y116, hy116⟩ : ∃ y_ : List (S35), y_ = (x3_1 ++ [(⟨(rd_T35 l0 x12_1).f0, (rd_T35 l0 x12_1).f1, (⟨(rd_T35 l0 x12_1).f2.f0, (rd_T35 l0 x12_1).f2.f1⟩ : S33)⟩ : S35)]) := ⟨_, rfl⟩
                        replace H : (allocation_Join.l0 k1 y116 l0 (l0.length : Int) (wrap64 (x12_1 + 1))) = some r := by first | (rw [hy116]; with_reducible exact H) | (have H2_ := (Option.bind_some _ _).symm.trans H; rw [hy116]; with_reducible exact H2_) | (have H2_ := (Option.bind_some _ _).symm.trans H; with_reducible exact H2_) | with_reducible exact H | (rw [hy116]; exact H) | exact H
                        have Ny116 := Aside0.mk hy116
                        clear hy116
                        have H' := Aside0.mk H
                        clear H
                        have p110 : 0 ≤ (x12_1 : Int) := of_decide_eq_true (by first | (with_reducible assumption) | assumption)
                        have q110 : x12_1 < (l0.length : Int) := of_decide_eq_true (by first | (with_reducible assumption) | assumption)
                        obtain ⟨ad110, e110, hx110_0, hx110_1, hx110_2, hx110_3⟩ := at_T35 HR0.out x12_1 p110 q110
                        cases e110
                        replace hx110_0 := (HB.out.cell (World.block_lt_of_cell? w _ hx110_0)).trans hx110_0
                        replace hx110_1 := (HB.out.cell (World.block_lt_of_cell? w _ hx110_1)).trans hx110_1
                        replace hx110_2 := (HB.out.cell (World.block_lt_of_cell? w _ hx110_2)).trans hx110_2
                        replace hx110_3 := (HB.out.cell (World.block_lt_of_cell? w _ hx110_3)).trans hx110_3
                        replace p110 := eq_true p110
                        replace q110 := eq_true q110
                        try go_wp2_with (first | ((with_reducible refine gate_dst (N := 5) rfl ?_); refine box_event ?hg (N := 5) ?hd (cs := #[.int .i64 0, .int .i64 0, .int .i64 0, .int .i64 0]) (t := 35) ?hr ?_; (case hd => rfl); (case hg => rfl); (case hr => first | (go_simp; done) | (go_simp; rfl)); intro gb111 hg w24 hbox hb; have n0_ := Aside0.mk (Kd.R_below (Kd.R_elderB (by (with_reducible repeat (first | apply Kd.R_alloc | apply Kd.R_drewN | apply Kd.R_drew)); exact HO_3.out) gb111 (Nat.le_of_eq hg.symm)) hb); have n1_ := Aside0.mk (below_step (by repeat (first | (with_reducible first | exact HB.out | apply below_alloc | apply pw_below_drewN | apply below_drew1) | exact HB.out)) hb); have n2_ := Aside0.mk (hbox); have n3_ := Aside0.mk ((by rw [hg]; exact (below_size (by repeat (first | (with_reducible first | exact HB.out | apply below_alloc | apply pw_below_drewN | apply below_drew1) | exact HB.out))) : w.heap.size ≤ gb111)); have n4_ := Aside0.mk ((by rw [hg]; exact (below_size (by repeat (first | (with_reducible first | exact HB.out | apply below_alloc | apply pw_below_drewN | apply below_drew1) | exact HB.out))) : w.heap.size ≤ gb111)); clear HO_3; clear HB; have HO_3 := n0_; have HB := n1_; have BK111 := n2_; have GW111 := n3_; have GE111 := n4_; clear n0_ n1_ n2_ n3_ n4_; clear hb hbox hg; have hcz25_0 : w24.cell? ⟨gb111, 0, none⟩ = some (.int .i64 0) := (blk_cell BK111.out 0).trans rfl; have hcz25_1 : w24.cell? ⟨gb111, 1, none⟩ = some (.int .i64 0) := (blk_cell BK111.out 1).trans rfl; have hcz25_2 : w24.cell? ⟨gb111, 2, none⟩ = some (.int .i64 0) := (blk_cell BK111.out 2).trans rfl; have hcz25_3 : w24.cell? ⟨gb111, 3, none⟩ = some (.int .i64 0) := (blk_cell BK111.out 3).trans rfl; have hfz25_0 := blk_frozen BK111.out 0; have hfz25_1 := blk_frozen BK111.out 1; have hfz25_2 := blk_frozen BK111.out 2; have hfz25_3 := blk_frozen BK111.out 3; obtain ⟨Ao26, co26, eo26⟩ := Kd.R_slice HO_3.out; subst eo26))
                        have n0_ : Aside0 (Kd.R k35 35 ((((w24.setCell ⟨gb111, 0, none⟩ (.int .i64 ((rd_T35 l0 x12_1).f0))).setCell ⟨gb111, 1, none⟩ (.int .i64 ((rd_T35 l0 x12_1).f1))).setCell ⟨gb111, 2, none⟩ (.int .i64 ((rd_T35 l0 x12_1).f2.f0))).setCell ⟨gb111, 3, none⟩ (.int .i64 ((rd_T35 l0 x12_1).f2.f1))) w.heap.size (fun k_ => k_ ≠ gb111) (.slice Ao26 x3_1.length co26) x3_1) := ⟨by (with_reducible repeat (first | apply Kd.R_alloc | apply Kd.R_drewN | apply Kd.R_drew)); exact Kd.R_mono (Kd.R_far (p := ⟨gb111, 3, none⟩) (Kd.R_far (p := ⟨gb111, 2, none⟩) (Kd.R_far (p := ⟨gb111, 1, none⟩) (Kd.R_far (p := ⟨gb111, 0, none⟩) (Kd.R_mono HO_3.out (fun k_ hk => (⟨hk, hk.2⟩ : _ ∧ k_ ≠ gb111))) (fun _ hk => hk.2) (.int .i64 ((rd_T35 l0 x12_1).f0))) (fun _ hk => hk.2) (.int .i64 ((rd_T35 l0 x12_1).f1))) (fun _ hk => hk.2) (.int .i64 ((rd_T35 l0 x12_1).f2.f0))) (fun _ hk => hk.2) (.int .i64 ((rd_T35 l0 x12_1).f2.f1))) (fun _ hk => hk.1.2)⟩
                        have n1_ : Aside0 (((((w24.setCell ⟨gb111, 0, none⟩ (.int .i64 ((rd_T35 l0 x12_1).f0))).setCell ⟨gb111, 1, none⟩ (.int .i64 ((rd_T35 l0 x12_1).f1))).setCell ⟨gb111, 2, none⟩ (.int .i64 ((rd_T35 l0 x12_1).f2.f0))).setCell ⟨gb111, 3, none⟩ (.int .i64 ((rd_T35 l0 x12_1).f2.f1))).heap[gb111]? = some (.cells #[.int .i64 ((rd_T35 l0 x12_1).f0), .int .i64 ((rd_T35 l0 x12_1).f1), .int .i64 ((rd_T35 l0 x12_1).f2.f0), .int .i64 ((rd_T35 l0 x12_1).f2.f1)] 35 (0, 0))) := ⟨by (with_reducible repeat (first | refine blk_drewN ?_ _ | refine blk_drew ?_ | refine blk_alloc ?_ _)); refine blk_put (cs := #[.int .i64 ((rd_T35 l0 x12_1).f0), .int .i64 ((rd_T35 l0 x12_1).f1), .int .i64 ((rd_T35 l0 x12_1).f2.f0), .int .i64 0]) ?_ 3 _ rfl; (with_reducible repeat (first | refine blk_drewN ?_ _ | refine blk_drew ?_ | refine blk_alloc ?_ _)); refine blk_put (cs := #[.int .i64 ((rd_T35 l0 x12_1).f0), .int .i64 ((rd_T35 l0 x12_1).f1), .int .i64 0, .int .i64 0]) ?_ 2 _ rfl; (with_reducible repeat (first | refine blk_drewN ?_ _ | refine blk_drew ?_ | refine blk_alloc ?_ _)); refine blk_put (cs := #[.int .i64 ((rd_T35 l0 x12_1).f0), .int .i64 0, .int .i64 0, .int .i64 0]) ?_ 1 _ rfl; (with_reducible repeat (first | refine blk_drewN ?_ _ | refine blk_drew ?_ | refine blk_alloc ?_ _)); refine blk_put (cs := #[.int .i64 0, .int .i64 0, .int .i64 0, .int .i64 0]) ?_ 0 _ rfl; (with_reducible repeat (first | refine blk_drewN ?_ _ | refine blk_drew ?_ | refine blk_alloc ?_ _)); exact BK111.out⟩
                        have n2_ : Aside0 (Below w.heap.size w ((((w24.setCell ⟨gb111, 0, none⟩ (.int .i64 ((rd_T35 l0 x12_1).f0))).setCell ⟨gb111, 1, none⟩ (.int .i64 ((rd_T35 l0 x12_1).f1))).setCell ⟨gb111, 2, none⟩ (.int .i64 ((rd_T35 l0 x12_1).f2.f0))).setCell ⟨gb111, 3, none⟩ (.int .i64 ((rd_T35 l0 x12_1).f2.f1)))) := ⟨by repeat (first | (with_reducible first | exact HB.out | apply below_alloc | apply pw_below_drewN | apply below_drew1 | refine below_set ?_ GE111.out) | exact HB.out)⟩
                        (try clear HO_3)
                        (try clear BK111)
                        (try clear HB)
                        generalize ((((w24.setCell ⟨gb111, 0, none⟩ (.int .i64 ((rd_T35 l0 x12_1).f0))).setCell ⟨gb111, 1, none⟩ (.int .i64 ((rd_T35 l0 x12_1).f1))).setCell ⟨gb111, 2, none⟩ (.int .i64 ((rd_T35 l0 x12_1).f2.f0))).setCell ⟨gb111, 3, none⟩ (.int .i64 ((rd_T35 l0 x12_1).f2.f1))) = w27 at n0_ n1_ n2_ ⊢
                        have HO_3 := n0_
                        have BK111 := n1_
                        have HB := n2_
                        clear n0_ n1_ n2_
                        have n0_ := Aside0.mk (Kd.R_drew HO_3.out)
                        have n1_ := Aside0.mk (blk_drew BK111.out)
                        have n2_ := Aside0.mk (below_drew1 HB.out)
                        clear HO_3
                        clear BK111
                        clear HB
                        have HO_3 := n0_
                        have BK111 := n1_
                        have HB := n2_
                        clear n0_ n1_ n2_
                        have p112 : 0 ≤ ((ji9) : Int) := of_decide_eq_true (by first | (with_reducible assumption) | assumption)
                        have q112 : (ji9) < (x3_1.length : Int) := of_decide_eq_true (by first | (with_reducible assumption) | assumption)
                        obtain ⟨ad112, e112, hx112_0, hx112_1, hx112_2, hx112_3⟩ := at_T35 (Kd.R_reads' HO_3.out).2.2 (ji9) p112 q112
                        cases e112
                        replace p112 := eq_true p112
                        replace q112 := eq_true q112
                        refine start_ (n := 10) (S := fun w' => w'.cell? ⟨gb111, 0, none⟩ = some (.int .i64 ((rd_T35 l0 x12_1).f0)) ∧ w'.cell? ⟨gb111, 1, none⟩ = some (.int .i64 ((rd_T35 l0 x12_1).f1)) ∧ w'.cell? ⟨gb111, 2, none⟩ = some (.int .i64 ((rd_T35 l0 x12_1).f2.f0)) ∧ w'.cell? ⟨gb111, 3, none⟩ = some (.int .i64 ((rd_T35 l0 x12_1).f2.f1)) ∧ w'.cell? (ad112.add (((ji9)).toNat * 4)) = some (.int .i64 ((rd_T35 x3_1 (ji9)).f0)) ∧ w'.cell? ⟨(ad112.add (((ji9)).toNat * 4)).block, (ad112.add (((ji9)).toNat * 4)).off + 1, none⟩ = some (.int .i64 ((rd_T35 x3_1 (ji9)).f1)) ∧ w'.cell? ⟨(ad112.add (((ji9)).toNat * 4)).block, (ad112.add (((ji9)).toNat * 4)).off + 2, none⟩ = some (.int .i64 ((rd_T35 x3_1 (ji9)).f2.f0)) ∧ w'.cell? ⟨(ad112.add (((ji9)).toNat * 4)).block, (ad112.add (((ji9)).toNat * 4)).off + 3, none⟩ = some (.int .i64 ((rd_T35 x3_1 (ji9)).f2.f1))) (ds := []) #[false, false, false, false, false, false, false, false, false, false] (by kernel_rfl) rfl rfl ⟨(blk_cell BK111.out 0).trans rfl, (blk_cell BK111.out 1).trans rfl, (blk_cell BK111.out 2).trans rfl, (blk_cell BK111.out 3).trans rfl, hx112_0, hx112_1, hx112_2, hx112_3⟩ (fun hHeld => ?_); refine with_tabW allocation_Join.tab8 allocation_Join.bits8 (fun HT_ HW_ => ?_)
                        generalize w27.drew = w28 at HO_3 BK111 HB hx112_0 hx112_1 hx112_2 hx112_3 hHeld ⊢
                        refine pure_ (i := 0) (N := some 19) (v := ?_) (a' := ?_) #[true, false, false, false, false, false, false, false, false, false] rfl rfl (any_of HT_.out (by kernel_rfl)) (fun _ _ _ h => h) (Or.inl ⟨by rfl, ?_⟩) ?_ ?_
                        rotate_left
                        · intro w'
                          go_simp
                          with_reducible rfl
                        rotate_left
                        · simp only [Act.put, List.setIfInBounds_toArray, List.set_cons_zero, List.set_cons_succ, i64_w, i32_w]
                          rfl
                        refine pure_ (i := 1) (N := some 20) (v := ?_) (a' := ?_) #[true, true, false, false, false, false, false, false, false, false] rfl rfl (any_of HT_.out (by kernel_rfl)) (fun _ _ _ h => h) (Or.inl ⟨by rfl, ?_⟩) ?_ ?_
                        rotate_left
                        · intro w'
                          go_simp
                          with_reducible rfl
                        rotate_left
                        · simp only [Act.put, List.setIfInBounds_toArray, List.set_cons_zero, List.set_cons_succ, i64_w, i32_w]
                          rfl
                        refine pure_ (i := 2) (N := some 21) (v := ?_) (a' := ?_) #[true, true, true, false, false, false, false, false, false, false] rfl rfl (any_of HT_.out (by kernel_rfl)) (fun _ _ _ h => h) (Or.inl ⟨by rfl, ?_⟩) ?_ ?_
                        rotate_left
                        · intro w'
                          go_simp
                          with_reducible rfl
                        rotate_left
                        · simp only [Act.put, List.setIfInBounds_toArray, List.set_cons_zero, List.set_cons_succ, i64_w, i32_w]
                          rfl
                        refine pure_ (i := 3) (N := some 22) (v := ?_) (a' := ?_) #[true, true, true, true, false, false, false, false, false, false] rfl rfl (any_of HT_.out (by kernel_rfl)) (fun _ _ _ h => h) (Or.inl ⟨by rfl, ?_⟩) ?_ ?_
                        rotate_left
                        · intro w'
                          go_simp
                          with_reducible rfl
                        rotate_left
                        · simp only [Act.put, List.setIfInBounds_toArray, List.set_cons_zero, List.set_cons_succ, i64_w, i32_w]
                          rfl
                        refine pure_ (i := 4) (N := some 23) (v := ?_) (a' := ?_) #[true, true, true, true, true, false, false, false, false, false] rfl rfl (any_of HT_.out (by kernel_rfl)) (fun _ _ _ h => h) (Or.inl ⟨by rfl, ?_⟩) ?_ ?_
                        rotate_left
                        · intro w'
                          go_simp
                          with_reducible rfl
                        rotate_left
                        · simp only [Act.put, List.setIfInBounds_toArray, List.set_cons_zero, List.set_cons_succ, i64_w, i32_w]
                          rfl
                        refine pure_ (i := 5) (N := some 24) (v := ?_) (a' := ?_) #[true, true, true, true, true, true, false, false, false, false] rfl rfl (any_of HT_.out (by kernel_rfl)) (fun _ _ _ h => h) (Or.inl ⟨by rfl, ?_⟩) ?_ ?_
                        rotate_left
                        · intro w'
                          go_simp
                          with_reducible rfl
                        rotate_left
                        · simp only [Act.put, List.setIfInBounds_toArray, List.set_cons_zero, List.set_cons_succ, i64_w, i32_w]
                          rfl
                        refine take_ (i := 6) (N := some 25) (v := ?_) (a' := ?_) #[true, true, true, true, true, true, true, false, false, false] rfl rfl (take_ofW HT_.out HW_.out (by kernel_rfl)) (fun _ _ _ h => h) (Or.inl ⟨by rfl, ?_⟩) hHeld ?_ ?_
                        rotate_left
                        · rintro w' ⟨s0, s1, s2, s3, s4, s5, s6, s7⟩
                          go_simp
                          with_reducible rfl
                        rotate_left
                        · simp only [Act.put, List.setIfInBounds_toArray, List.set_cons_zero, List.set_cons_succ, i64_w, i32_w]
                          rfl
                        refine take_ (i := 7) (N := some 26) (v := ?_) (a' := ?_) #[true, true, true, true, true, true, true, true, false, false] rfl rfl (take_ofW HT_.out HW_.out (by kernel_rfl)) (fun _ _ _ h => h) (Or.inl ⟨by rfl, ?_⟩) hHeld ?_ ?_
                        rotate_left
                        · rintro w' ⟨s0, s1, s2, s3, s4, s5, s6, s7⟩
                          go_simp
                          with_reducible rfl
                        rotate_left
                        · simp only [Act.put, List.setIfInBounds_toArray, List.set_cons_zero, List.set_cons_succ, i64_w, i32_w]
                          rfl
                        refine one_ (i := 8) (N := some 27) #[true, true, true, true, true, true, true, true, true, false] rfl rfl (one_of HT_.out (by kernel_rfl)) (by decide) (fun K hK => ?_)
                        refine goes_ Try.func35 (by kernel_rfl) rfl #[.agg #[.int .i64 ((rd_T35 x3_1 (ji9)).f0), .int .i64 ((rd_T35 x3_1 (ji9)).f1), .int .i64 ((rd_T35 x3_1 (ji9)).f2.f0), .int .i64 ((rd_T35 x3_1 (ji9)).f2.f1)], .agg #[.int .i64 ((rd_T35 l0 x12_1).f0), .int .i64 ((rd_T35 l0 x12_1).f1), .int .i64 ((rd_T35 l0 x12_1).f2.f0), .int .i64 ((rd_T35 l0 x12_1).f2.f1)]] (by rfl) rfl rfl (by (try simp only [List.map_toArray, List.map_cons, List.map_nil]); first | done | (simp only [hji9]; rfl) | rfl | (simp only [List.length_drop, List.length_take]; rfl)) ?_
                        with_reducible refine (allocation_joins.calls ((rd_T35 x3_1 (ji9)).f0) ((rd_T35 x3_1 (ji9)).f1) ((rd_T35 x3_1 (ji9)).f2.f0) ((rd_T35 x3_1 (ji9)).f2.f1) ((rd_T35 l0 x12_1).f0) ((rd_T35 l0 x12_1).f1) ((rd_T35 l0 x12_1).f2.f0) ((rd_T35 l0 x12_1).f2.f1) false _ A12.out).mono ?_
                        rintro e w29 ⟨rfl, hb⟩
                        have HS4_ := (hb.cell (World.block_lt_of_cell? _ _ (hHeld.2.2.2.2.1))).trans (hHeld.2.2.2.2.1)
                        have HS5_ := (hb.cell (World.block_lt_of_cell? _ _ (hHeld.2.2.2.2.2.1))).trans (hHeld.2.2.2.2.2.1)
                        have HS6_ := (hb.cell (World.block_lt_of_cell? _ _ (hHeld.2.2.2.2.2.2.1))).trans (hHeld.2.2.2.2.2.2.1)
                        have HS7_ := (hb.cell (World.block_lt_of_cell? _ _ (hHeld.2.2.2.2.2.2.2))).trans (hHeld.2.2.2.2.2.2.2)
                        refine ⟨_, rfl, ?_⟩
                        have n0_ := Aside0.mk (Kd.R_below (by (with_reducible repeat (first | apply Kd.R_alloc | apply Kd.R_drewN | apply Kd.R_drew)); exact HO_3.out) hb)
                        have n1_ := Aside0.mk (blk_below (g := gb111) (o := .cells #[.int .i64 ((rd_T35 l0 x12_1).f0), .int .i64 ((rd_T35 l0 x12_1).f1), .int .i64 ((rd_T35 l0 x12_1).f2.f0), .int .i64 ((rd_T35 l0 x12_1).f2.f1)] 35 (0, 0)) (by (with_reducible repeat (first | refine blk_drewN ?_ _ | refine blk_drew ?_ | refine blk_alloc ?_ _)); exact BK111.out) hb)
                        have n2_ := Aside0.mk (below_step (by repeat (first | (with_reducible first | exact HB.out | apply below_alloc | apply pw_below_drewN | apply below_drew1 | refine below_set ?_ GE111.out) | exact HB.out)) hb)
                        clear HO_3
                        clear BK111
                        clear HB
                        have HO_3 := n0_
                        have BK111 := n1_
                        have HB := n2_
                        clear n0_ n1_ n2_
                        (try clear hb)
                        (try clear hb2)
                        (try clear hk)
                        (try clear hi)
                        refine hK.out _ _ ⟨(blk_cell BK111.out 0).trans rfl, (blk_cell BK111.out 1).trans rfl, (blk_cell BK111.out 2).trans rfl, (blk_cell BK111.out 3).trans rfl, HS4_, HS5_, HS6_, HS7_⟩ (fun hHeld => ?_)
                        clear hK K
                        refine norm_ (a' := ?_) ?_ ?_
                        rotate_left
                        · show Act.put _ (some 27) _ = _
                          simp only [Act.put, List.setIfInBounds_toArray, List.set_cons_zero, List.set_cons_succ, i64_w, i32_w]
                          rfl
                        refine pure_ (i := 9) (N := some 28) (v := ?_) (a' := ?_) #[true, true, true, true, true, true, true, true, true, true] rfl rfl (any_of HT_.out (by kernel_rfl)) (fun _ _ _ h => h) (Or.inl ⟨by rfl, ?_⟩) ?_ ?_
                        rotate_left
                        · intro w'
                          go_simp
                          with_reducible rfl
                        rotate_left
                        · simp only [Act.put, List.setIfInBounds_toArray, List.set_cons_zero, List.set_cons_succ, i64_w, i32_w]
                          rfl
                        refine done_ (done_of HT_.out (by kernel_rfl)) ?_
                        have hcz30_0 : w29.cell? ⟨gb111, 0, none⟩ = some (.int .i64 ((rd_T35 l0 x12_1).f0)) := (blk_cell BK111.out 0).trans rfl
                        have hcz30_1 : w29.cell? ⟨gb111, 1, none⟩ = some (.int .i64 ((rd_T35 l0 x12_1).f1)) := (blk_cell BK111.out 1).trans rfl
                        have hcz30_2 : w29.cell? ⟨gb111, 2, none⟩ = some (.int .i64 ((rd_T35 l0 x12_1).f2.f0)) := (blk_cell BK111.out 2).trans rfl
                        have hcz30_3 : w29.cell? ⟨gb111, 3, none⟩ = some (.int .i64 ((rd_T35 l0 x12_1).f2.f1)) := (blk_cell BK111.out 3).trans rfl
                        have hfz30_0 := blk_frozen BK111.out 0
                        have hfz30_1 := blk_frozen BK111.out 1
                        have hfz30_2 := blk_frozen BK111.out 2
                        have hfz30_3 := blk_frozen BK111.out 3
                        try go_wp2_with (first | ((with_reducible refine gate_builtin (b := .append) (xs := #[.tmp 39, .tmp 41]) rfl ?_); at_builtin; refine Kd.R_append k35 (w0 := w) w.heap.size rfl (.tmp 39) (.tmp 41) 26 35 (.agg #[(.int .i64 0), (.int .i64 0), (.int .i64 0), (.int .i64 0)]) 32 rfl Try.underlying26 info35 rfl (by decide) (by omega) (.slice (some ad112) x3_1.length co26) x3_1 (⟨(rd_T35 l0 x12_1).f0, (rd_T35 l0 x12_1).f1, (⟨(rd_T35 l0 x12_1).f2.f0, (rd_T35 l0 x12_1).f2.f1⟩ : S33)⟩ : S35) [.int .i64 ((rd_T35 l0 x12_1).f0), .int .i64 ((rd_T35 l0 x12_1).f1), .int .i64 ((rd_T35 l0 x12_1).f2.f0), .int .i64 ((rd_T35 l0 x12_1).f2.f1)] (fun k_ => k_ ≠ gb111) (fun _ => False) rfl rfl ?aP (fun _ hk => hk.elim) ?aF ?aO ?aB ?aS ?aL ?_; (case aP => exact k35_mkM _ _ _ (⟨(rd_T35 l0 x12_1).f0, (rd_T35 l0 x12_1).f1, (⟨(rd_T35 l0 x12_1).f2.f0, (rd_T35 l0 x12_1).f2.f1⟩ : S33)⟩ : S35)); (case aB => exact (by repeat (first | (with_reducible first | exact HB.out | apply below_alloc | apply pw_below_drewN | apply below_drew1 | refine below_set ?_ GE111.out) | exact HB.out))); (case aF => exact (fun k_ hk => Kd.freshB (g := gb111) (o := .cells #[.int .i64 ((rd_T35 l0 x12_1).f0), .int .i64 ((rd_T35 l0 x12_1).f1), .int .i64 ((rd_T35 l0 x12_1).f2.f0), .int .i64 ((rd_T35 l0 x12_1).f2.f1)] 35 (0, 0)) (by (with_reducible repeat (first | refine blk_drewN ?_ _ | refine blk_drew ?_ | refine blk_alloc ?_ _)); exact BK111.out) k_ hk)); (case aO => exact (by (with_reducible repeat (first | apply Kd.R_alloc | apply Kd.R_drewN | apply Kd.R_drew)); exact HO_3.out)); (case aS => exact (below_size (by repeat (first | (with_reducible first | exact HB.out | apply below_alloc | apply pw_below_drewN | apply below_drew1 | refine below_set ?_ GE111.out) | exact HB.out)))); (case aL => have := LMc23.out; omega); intro v117 w31 ho hb hg hat; rw [← Ny116.out] at ho; have n0_ := Aside0.mk (blk_grown (g := gb111) (o := .cells #[.int .i64 ((rd_T35 l0 x12_1).f0), .int .i64 ((rd_T35 l0 x12_1).f1), .int .i64 ((rd_T35 l0 x12_1).f2.f0), .int .i64 ((rd_T35 l0 x12_1).f2.f1)] 35 (0, 0)) (by (with_reducible repeat (first | refine blk_drewN ?_ _ | refine blk_drew ?_ | refine blk_alloc ?_ _)); exact BK111.out) hg (Kd.R_away HO_3.out (fun _ hk => hk))); have n1_ := Aside0.mk (hb); have n2_ := Aside0.mk (ho); clear BK111; clear HB; clear HO_3; have BK111 := n0_; have HB := n1_; have HO118 := n2_; clear n0_ n1_ n2_; clear ho hb hg hat))
                        go_roundg k1
                        case measure => have := HK1.out; omega
                        case rel => exact ⟨(y116), (wrap64 (x12_1 + 1)), (by first | rfl | (simp; done) | (simp [*]; done)), H', ⟨by have := HK1.out; omega⟩, ⟨by (with_reducible repeat (first | apply Kd.R_alloc | apply Kd.R_drewN | apply Kd.R_drew)); exact Kd.R_mono HO118.out (fun _ hk => trivial)⟩, ⟨by repeat (first | (with_reducible first | exact HB.out | apply below_alloc | apply pw_below_drewN | apply below_drew1 | refine below_set ?_ GE111.out) | exact HB.out)⟩⟩
                      · rw [if_neg c23] at H
                        exact absurd H (by simp)
                  · rw [if_neg c11] at H
                    exact absurd H (by simp)
                · rw [if_neg c10] at H
                  exact absurd H (by simp)
              · rw [if_neg c8] at H
                have c8b0 : decide (0 ≤ (wrap64 ((x3_1.length : Int) - 1))) = false := decide_eq_false c8
                clear c8
                by_cases c32 : x3_1.length < 4398046511104
                · rw [if_pos c32] at H
                  have LMc32 := Aside0.mk c32
                  clear c32
                  obtain ⟨y119, hy119⟩ : ∃ y_ : List (S35), y_ = (x3_1 ++ [(⟨(rd_T35 l0 x12_1).f0, (rd_T35 l0 x12_1).f1, (⟨(rd_T35 l0 x12_1).f2.f0, (rd_T35 l0 x12_1).f2.f1⟩ : S33)⟩ : S35)]) := ⟨_, rfl⟩
                  replace H : (allocation_Join.l0 k1 y119 l0 (l0.length : Int) (wrap64 (x12_1 + 1))) = some r := by first | (rw [hy119]; with_reducible exact H) | (have H2_ := (Option.bind_some _ _).symm.trans H; rw [hy119]; with_reducible exact H2_) | (have H2_ := (Option.bind_some _ _).symm.trans H; with_reducible exact H2_) | with_reducible exact H | (rw [hy119]; exact H) | exact H
                  have Ny119 := Aside0.mk hy119
                  clear hy119
                  have H' := Aside0.mk H
                  clear H
                  have p110 : 0 ≤ (x12_1 : Int) := of_decide_eq_true (by first | (with_reducible assumption) | assumption)
                  have q110 : x12_1 < (l0.length : Int) := of_decide_eq_true (by first | (with_reducible assumption) | assumption)
                  obtain ⟨ad110, e110, hx110_0, hx110_1, hx110_2, hx110_3⟩ := at_T35 HR0.out x12_1 p110 q110
                  cases e110
                  replace hx110_0 := (HB.out.cell (World.block_lt_of_cell? w _ hx110_0)).trans hx110_0
                  replace hx110_1 := (HB.out.cell (World.block_lt_of_cell? w _ hx110_1)).trans hx110_1
                  replace hx110_2 := (HB.out.cell (World.block_lt_of_cell? w _ hx110_2)).trans hx110_2
                  replace hx110_3 := (HB.out.cell (World.block_lt_of_cell? w _ hx110_3)).trans hx110_3
                  replace p110 := eq_true p110
                  replace q110 := eq_true q110
                  try go_wp2_with (first | ((with_reducible refine gate_dst (N := 5) rfl ?_); refine box_event ?hg (N := 5) ?hd (cs := #[.int .i64 0, .int .i64 0, .int .i64 0, .int .i64 0]) (t := 35) ?hr ?_; (case hd => rfl); (case hg => rfl); (case hr => first | (go_simp; done) | (go_simp; rfl)); intro gb111 hg w33 hbox hb; have n0_ := Aside0.mk (Kd.R_below (Kd.R_elderB (by (with_reducible repeat (first | apply Kd.R_alloc | apply Kd.R_drewN | apply Kd.R_drew)); exact HO_3.out) gb111 (Nat.le_of_eq hg.symm)) hb); have n1_ := Aside0.mk (below_step (by repeat (first | (with_reducible first | exact HB.out | apply below_alloc | apply pw_below_drewN | apply below_drew1) | exact HB.out)) hb); have n2_ := Aside0.mk (hbox); have n3_ := Aside0.mk ((by rw [hg]; exact (below_size (by repeat (first | (with_reducible first | exact HB.out | apply below_alloc | apply pw_below_drewN | apply below_drew1) | exact HB.out))) : w.heap.size ≤ gb111)); have n4_ := Aside0.mk ((by rw [hg]; exact (below_size (by repeat (first | (with_reducible first | exact HB.out | apply below_alloc | apply pw_below_drewN | apply below_drew1) | exact HB.out))) : w.heap.size ≤ gb111)); clear HO_3; clear HB; have HO_3 := n0_; have HB := n1_; have BK111 := n2_; have GW111 := n3_; have GE111 := n4_; clear n0_ n1_ n2_ n3_ n4_; clear hb hbox hg; have hcz34_0 : w33.cell? ⟨gb111, 0, none⟩ = some (.int .i64 0) := (blk_cell BK111.out 0).trans rfl; have hcz34_1 : w33.cell? ⟨gb111, 1, none⟩ = some (.int .i64 0) := (blk_cell BK111.out 1).trans rfl; have hcz34_2 : w33.cell? ⟨gb111, 2, none⟩ = some (.int .i64 0) := (blk_cell BK111.out 2).trans rfl; have hcz34_3 : w33.cell? ⟨gb111, 3, none⟩ = some (.int .i64 0) := (blk_cell BK111.out 3).trans rfl; have hfz34_0 := blk_frozen BK111.out 0; have hfz34_1 := blk_frozen BK111.out 1; have hfz34_2 := blk_frozen BK111.out 2; have hfz34_3 := blk_frozen BK111.out 3; obtain ⟨Ao35, co35, eo35⟩ := Kd.R_slice HO_3.out; subst eo35))
                  have n0_ : Aside0 (Kd.R k35 35 ((((w33.setCell ⟨gb111, 0, none⟩ (.int .i64 ((rd_T35 l0 x12_1).f0))).setCell ⟨gb111, 1, none⟩ (.int .i64 ((rd_T35 l0 x12_1).f1))).setCell ⟨gb111, 2, none⟩ (.int .i64 ((rd_T35 l0 x12_1).f2.f0))).setCell ⟨gb111, 3, none⟩ (.int .i64 ((rd_T35 l0 x12_1).f2.f1))) w.heap.size (fun k_ => k_ ≠ gb111) (.slice Ao35 x3_1.length co35) x3_1) := ⟨by (with_reducible repeat (first | apply Kd.R_alloc | apply Kd.R_drewN | apply Kd.R_drew)); exact Kd.R_mono (Kd.R_far (p := ⟨gb111, 3, none⟩) (Kd.R_far (p := ⟨gb111, 2, none⟩) (Kd.R_far (p := ⟨gb111, 1, none⟩) (Kd.R_far (p := ⟨gb111, 0, none⟩) (Kd.R_mono HO_3.out (fun k_ hk => (⟨hk, hk.2⟩ : _ ∧ k_ ≠ gb111))) (fun _ hk => hk.2) (.int .i64 ((rd_T35 l0 x12_1).f0))) (fun _ hk => hk.2) (.int .i64 ((rd_T35 l0 x12_1).f1))) (fun _ hk => hk.2) (.int .i64 ((rd_T35 l0 x12_1).f2.f0))) (fun _ hk => hk.2) (.int .i64 ((rd_T35 l0 x12_1).f2.f1))) (fun _ hk => hk.1.2)⟩
                  have n1_ : Aside0 (((((w33.setCell ⟨gb111, 0, none⟩ (.int .i64 ((rd_T35 l0 x12_1).f0))).setCell ⟨gb111, 1, none⟩ (.int .i64 ((rd_T35 l0 x12_1).f1))).setCell ⟨gb111, 2, none⟩ (.int .i64 ((rd_T35 l0 x12_1).f2.f0))).setCell ⟨gb111, 3, none⟩ (.int .i64 ((rd_T35 l0 x12_1).f2.f1))).heap[gb111]? = some (.cells #[.int .i64 ((rd_T35 l0 x12_1).f0), .int .i64 ((rd_T35 l0 x12_1).f1), .int .i64 ((rd_T35 l0 x12_1).f2.f0), .int .i64 ((rd_T35 l0 x12_1).f2.f1)] 35 (0, 0))) := ⟨by (with_reducible repeat (first | refine blk_drewN ?_ _ | refine blk_drew ?_ | refine blk_alloc ?_ _)); refine blk_put (cs := #[.int .i64 ((rd_T35 l0 x12_1).f0), .int .i64 ((rd_T35 l0 x12_1).f1), .int .i64 ((rd_T35 l0 x12_1).f2.f0), .int .i64 0]) ?_ 3 _ rfl; (with_reducible repeat (first | refine blk_drewN ?_ _ | refine blk_drew ?_ | refine blk_alloc ?_ _)); refine blk_put (cs := #[.int .i64 ((rd_T35 l0 x12_1).f0), .int .i64 ((rd_T35 l0 x12_1).f1), .int .i64 0, .int .i64 0]) ?_ 2 _ rfl; (with_reducible repeat (first | refine blk_drewN ?_ _ | refine blk_drew ?_ | refine blk_alloc ?_ _)); refine blk_put (cs := #[.int .i64 ((rd_T35 l0 x12_1).f0), .int .i64 0, .int .i64 0, .int .i64 0]) ?_ 1 _ rfl; (with_reducible repeat (first | refine blk_drewN ?_ _ | refine blk_drew ?_ | refine blk_alloc ?_ _)); refine blk_put (cs := #[.int .i64 0, .int .i64 0, .int .i64 0, .int .i64 0]) ?_ 0 _ rfl; (with_reducible repeat (first | refine blk_drewN ?_ _ | refine blk_drew ?_ | refine blk_alloc ?_ _)); exact BK111.out⟩
                  have n2_ : Aside0 (Below w.heap.size w ((((w33.setCell ⟨gb111, 0, none⟩ (.int .i64 ((rd_T35 l0 x12_1).f0))).setCell ⟨gb111, 1, none⟩ (.int .i64 ((rd_T35 l0 x12_1).f1))).setCell ⟨gb111, 2, none⟩ (.int .i64 ((rd_T35 l0 x12_1).f2.f0))).setCell ⟨gb111, 3, none⟩ (.int .i64 ((rd_T35 l0 x12_1).f2.f1)))) := ⟨by repeat (first | (with_reducible first | exact HB.out | apply below_alloc | apply pw_below_drewN | apply below_drew1 | refine below_set ?_ GE111.out) | exact HB.out)⟩
                  (try clear HO_3)
                  (try clear BK111)
                  (try clear HB)
                  generalize ((((w33.setCell ⟨gb111, 0, none⟩ (.int .i64 ((rd_T35 l0 x12_1).f0))).setCell ⟨gb111, 1, none⟩ (.int .i64 ((rd_T35 l0 x12_1).f1))).setCell ⟨gb111, 2, none⟩ (.int .i64 ((rd_T35 l0 x12_1).f2.f0))).setCell ⟨gb111, 3, none⟩ (.int .i64 ((rd_T35 l0 x12_1).f2.f1))) = w36 at n0_ n1_ n2_ ⊢
                  have HO_3 := n0_
                  have BK111 := n1_
                  have HB := n2_
                  clear n0_ n1_ n2_
                  have n0_ := Aside0.mk (Kd.R_drew HO_3.out)
                  have n1_ := Aside0.mk (blk_drew BK111.out)
                  have n2_ := Aside0.mk (below_drew1 HB.out)
                  clear HO_3
                  clear BK111
                  clear HB
                  have HO_3 := n0_
                  have BK111 := n1_
                  have HB := n2_
                  clear n0_ n1_ n2_
                  refine start_ (n := 10) (S := fun w' => True) (ds := []) #[false, false, false, false, false, false, false, false, false, false] (by kernel_rfl) rfl rfl trivial (fun hHeld => ?_); refine with_tabW allocation_Join.tab8 allocation_Join.bits8 (fun HT_ HW_ => ?_)
                  generalize w36.drew = w37 at HO_3 BK111 HB hHeld ⊢
                  refine pure_ (i := 0) (N := some 19) (v := ?_) (a' := ?_) #[true, false, false, false, false, false, false, false, false, false] rfl rfl (any_of HT_.out (by kernel_rfl)) (fun _ _ _ h => h) (Or.inl ⟨by rfl, ?_⟩) ?_ ?_
                  rotate_left
                  · intro w'
                    go_simp
                    with_reducible rfl
                  rotate_left
                  · simp only [Act.put, List.setIfInBounds_toArray, List.set_cons_zero, List.set_cons_succ, i64_w, i32_w]
                    rfl
                  refine pure_ (i := 1) (N := some 20) (v := ?_) (a' := ?_) #[true, true, false, false, false, false, false, false, false, false] rfl rfl (any_of HT_.out (by kernel_rfl)) (fun _ _ _ h => h) (Or.inl ⟨by rfl, ?_⟩) ?_ ?_
                  rotate_left
                  · intro w'
                    go_simp
                    with_reducible rfl
                  rotate_left
                  · simp only [Act.put, List.setIfInBounds_toArray, List.set_cons_zero, List.set_cons_succ, i64_w, i32_w]
                    rfl
                  refine pure_ (i := 2) (N := some 21) (v := ?_) (a' := ?_) #[true, true, true, false, false, false, false, false, false, false] rfl rfl (any_of HT_.out (by kernel_rfl)) (fun _ _ _ h => h) (Or.inl ⟨by rfl, ?_⟩) ?_ ?_
                  rotate_left
                  · intro w'
                    go_simp
                    with_reducible rfl
                  rotate_left
                  · simp only [Act.put, List.setIfInBounds_toArray, List.set_cons_zero, List.set_cons_succ, i64_w, i32_w]
                    rfl
                  refine pure_ (i := 3) (N := some 22) (v := undef) (a' := ?_) #[true, true, true, true, false, false, false, false, false, false] rfl rfl (any_of HT_.out (by kernel_rfl)) (fun _ _ _ h => h) (Or.inr ⟨by rfl, rfl⟩) ?_ ?_
                  rotate_left
                  · simp only [Act.put, List.setIfInBounds_toArray, List.set_cons_zero, List.set_cons_succ, i64_w, i32_w]
                    rfl
                  refine pure_ (i := 4) (N := some 23) (v := undef) (a' := ?_) #[true, true, true, true, true, false, false, false, false, false] rfl rfl (any_of HT_.out (by kernel_rfl)) (fun _ _ _ h => h) (Or.inr ⟨by rfl, rfl⟩) ?_ ?_
                  rotate_left
                  · simp only [Act.put, List.setIfInBounds_toArray, List.set_cons_zero, List.set_cons_succ, i64_w, i32_w]
                    rfl
                  refine pure_ (i := 5) (N := some 24) (v := undef) (a' := ?_) #[true, true, true, true, true, true, false, false, false, false] rfl rfl (any_of HT_.out (by kernel_rfl)) (fun _ _ _ h => h) (Or.inr ⟨by rfl, rfl⟩) ?_ ?_
                  rotate_left
                  · simp only [Act.put, List.setIfInBounds_toArray, List.set_cons_zero, List.set_cons_succ, i64_w, i32_w]
                    rfl
                  refine pure_ (i := 6) (N := some 25) (v := undef) (a' := ?_) #[true, true, true, true, true, true, true, false, false, false] rfl rfl (any_of HT_.out (by kernel_rfl)) (fun _ _ _ h => h) (Or.inr ⟨by rfl, rfl⟩) ?_ ?_
                  rotate_left
                  · simp only [Act.put, List.setIfInBounds_toArray, List.set_cons_zero, List.set_cons_succ, i64_w, i32_w]
                    rfl
                  refine pure_ (i := 7) (N := some 26) (v := undef) (a' := ?_) #[true, true, true, true, true, true, true, true, false, false] rfl rfl (any_of HT_.out (by kernel_rfl)) (fun _ _ _ h => h) (Or.inr ⟨by rfl, rfl⟩) ?_ ?_
                  rotate_left
                  · simp only [Act.put, List.setIfInBounds_toArray, List.set_cons_zero, List.set_cons_succ, i64_w, i32_w]
                    rfl
                  refine pure_ (i := 8) (N := some 27) (v := undef) (a' := ?_) #[true, true, true, true, true, true, true, true, true, false] rfl rfl (any_of HT_.out (by kernel_rfl)) (fun _ _ _ h => h) (Or.inr ⟨by rfl, rfl⟩) ?_ ?_
                  rotate_left
                  · simp only [Act.put, List.setIfInBounds_toArray, List.set_cons_zero, List.set_cons_succ, i64_w, i32_w]
                    rfl
                  refine pure_ (i := 9) (N := some 28) (v := ?_) (a' := ?_) #[true, true, true, true, true, true, true, true, true, true] rfl rfl (any_of HT_.out (by kernel_rfl)) (fun _ _ _ h => h) (Or.inl ⟨by rfl, ?_⟩) ?_ ?_
                  rotate_left
                  · intro w'
                    go_simp
                    with_reducible rfl
                  rotate_left
                  · simp only [Act.put, List.setIfInBounds_toArray, List.set_cons_zero, List.set_cons_succ, i64_w, i32_w]
                    rfl
                  refine done_ (done_of HT_.out (by kernel_rfl)) ?_
                  have hcz38_0 : w37.cell? ⟨gb111, 0, none⟩ = some (.int .i64 ((rd_T35 l0 x12_1).f0)) := (blk_cell BK111.out 0).trans rfl
                  have hcz38_1 : w37.cell? ⟨gb111, 1, none⟩ = some (.int .i64 ((rd_T35 l0 x12_1).f1)) := (blk_cell BK111.out 1).trans rfl
                  have hcz38_2 : w37.cell? ⟨gb111, 2, none⟩ = some (.int .i64 ((rd_T35 l0 x12_1).f2.f0)) := (blk_cell BK111.out 2).trans rfl
                  have hcz38_3 : w37.cell? ⟨gb111, 3, none⟩ = some (.int .i64 ((rd_T35 l0 x12_1).f2.f1)) := (blk_cell BK111.out 3).trans rfl
                  have hfz38_0 := blk_frozen BK111.out 0
                  have hfz38_1 := blk_frozen BK111.out 1
                  have hfz38_2 := blk_frozen BK111.out 2
                  have hfz38_3 := blk_frozen BK111.out 3
                  try go_wp2_with (first | ((with_reducible refine gate_builtin (b := .append) (xs := #[.tmp 39, .tmp 41]) rfl ?_); at_builtin; refine Kd.R_append k35 (w0 := w) w.heap.size rfl (.tmp 39) (.tmp 41) 26 35 (.agg #[(.int .i64 0), (.int .i64 0), (.int .i64 0), (.int .i64 0)]) 32 rfl Try.underlying26 info35 rfl (by decide) (by omega) (.slice Ao35 x3_1.length co35) x3_1 (⟨(rd_T35 l0 x12_1).f0, (rd_T35 l0 x12_1).f1, (⟨(rd_T35 l0 x12_1).f2.f0, (rd_T35 l0 x12_1).f2.f1⟩ : S33)⟩ : S35) [.int .i64 ((rd_T35 l0 x12_1).f0), .int .i64 ((rd_T35 l0 x12_1).f1), .int .i64 ((rd_T35 l0 x12_1).f2.f0), .int .i64 ((rd_T35 l0 x12_1).f2.f1)] (fun k_ => k_ ≠ gb111) (fun _ => False) rfl rfl ?aP (fun _ hk => hk.elim) ?aF ?aO ?aB ?aS ?aL ?_; (case aP => exact k35_mkM _ _ _ (⟨(rd_T35 l0 x12_1).f0, (rd_T35 l0 x12_1).f1, (⟨(rd_T35 l0 x12_1).f2.f0, (rd_T35 l0 x12_1).f2.f1⟩ : S33)⟩ : S35)); (case aB => exact (by repeat (first | (with_reducible first | exact HB.out | apply below_alloc | apply pw_below_drewN | apply below_drew1 | refine below_set ?_ GE111.out) | exact HB.out))); (case aF => exact (fun k_ hk => Kd.freshB (g := gb111) (o := .cells #[.int .i64 ((rd_T35 l0 x12_1).f0), .int .i64 ((rd_T35 l0 x12_1).f1), .int .i64 ((rd_T35 l0 x12_1).f2.f0), .int .i64 ((rd_T35 l0 x12_1).f2.f1)] 35 (0, 0)) (by (with_reducible repeat (first | refine blk_drewN ?_ _ | refine blk_drew ?_ | refine blk_alloc ?_ _)); exact BK111.out) k_ hk)); (case aO => exact (by (with_reducible repeat (first | apply Kd.R_alloc | apply Kd.R_drewN | apply Kd.R_drew)); exact HO_3.out)); (case aS => exact (below_size (by repeat (first | (with_reducible first | exact HB.out | apply below_alloc | apply pw_below_drewN | apply below_drew1 | refine below_set ?_ GE111.out) | exact HB.out)))); (case aL => have := LMc32.out; omega); intro v120 w39 ho hb hg hat; rw [← Ny119.out] at ho; have n0_ := Aside0.mk (blk_grown (g := gb111) (o := .cells #[.int .i64 ((rd_T35 l0 x12_1).f0), .int .i64 ((rd_T35 l0 x12_1).f1), .int .i64 ((rd_T35 l0 x12_1).f2.f0), .int .i64 ((rd_T35 l0 x12_1).f2.f1)] 35 (0, 0)) (by (with_reducible repeat (first | refine blk_drewN ?_ _ | refine blk_drew ?_ | refine blk_alloc ?_ _)); exact BK111.out) hg (Kd.R_away HO_3.out (fun _ hk => hk))); have n1_ := Aside0.mk (hb); have n2_ := Aside0.mk (ho); clear BK111; clear HB; clear HO_3; have BK111 := n0_; have HB := n1_; have HO121 := n2_; clear n0_ n1_ n2_; clear ho hb hg hat))
                  go_roundg k1
                  case measure => have := HK1.out; omega
                  case rel => exact ⟨(y119), (wrap64 (x12_1 + 1)), (by first | rfl | (simp; done) | (simp [*]; done)), H', ⟨by have := HK1.out; omega⟩, ⟨by (with_reducible repeat (first | apply Kd.R_alloc | apply Kd.R_drewN | apply Kd.R_drew)); exact Kd.R_mono HO121.out (fun _ hk => trivial)⟩, ⟨by repeat (first | (with_reducible first | exact HB.out | apply below_alloc | apply pw_below_drewN | apply below_drew1 | refine below_set ?_ GE111.out) | exact HB.out)⟩⟩
                · rw [if_neg c32] at H
                  exact absurd H (by simp)
            · rw [if_neg c7] at H
              exact absurd H (by simp)
          · rw [if_neg c6] at H
            exact absurd H (by simp)
        · rw [if_neg c5] at H
          have c5b0 : decide (x12_1 < (l0.length : Int)) = false := decide_eq_false c5
          clear c5
          obtain rfl := Option.some.inj H
          go_wp2
          go_ret
          exact ⟨_, by first | rfl | (simp [errW_none, errW_some] <;> rfl) | (simp [*, errW_none, errW_some] <;> rfl), by (with_reducible repeat (first | apply Kd.R_alloc | apply Kd.R_drewN | apply Kd.R_drew)); exact HO_3.out, by repeat (first | (with_reducible first | exact HB.out | apply below_alloc | apply pw_below_drewN | apply below_drew1) | exact HB.out)⟩
  · replace c3 := Bool.eq_false_iff.mpr c3
    subst c3
    have H1 : (some ([] : List (S35))) = some r := by rw [if_neg (show ¬ (false = true) by decide)] at H; exact H
    clear H
    have H := H1
    clear H1
    obtain rfl := Option.some.inj H
    go_enter Try.func21, Try.ntmps21
    go_wp2_with (first | ((with_reducible refine gate_callee (f := 34) rfl ?_); refine goesL_ (some 8) rfl rfl Try.func34 (by kernel_rfl) rfl #[.slice A0 l0.length c0] rfl (by (try simp only [List.map_toArray, List.map_cons, List.map_nil]); first | done | rfl | (simp only [List.length_drop, List.length_take]; rfl)) ?_; (with_reducible refine (allocation_formed.calls k _ _ l0 false _ ?side1 ?side2 A2.out).mono ?_); (case side1 => repeat (first | exact HR0.out | (with_reducible refine Kd.C_alloc ?_ _) | (with_reducible refine Kd.C_drewN ?_ _) | (with_reducible refine Kd.C_drew ?_))); (case side2 => exact HC0.out); rintro e w40 ⟨rfl, hb⟩; refine ⟨_, rfl, ?_⟩; have n0_ := Aside0.mk (below_step (by repeat (first | (with_reducible first | exact HB.out | apply below_alloc | apply pw_below_drewN | apply below_drew1) | exact HB.out)) hb); clear HB; have HB := n0_; clear n0_; (try clear hb); (try clear hb2); (try clear hk); (try clear hi)))
    go_ret
    exact ⟨_, by first | rfl | (simp [errW_none, errW_some] <;> rfl) | (simp [*, errW_none, errW_some] <;> rfl), by first | exact Kd.R_nil _ _ _ _ _ | exact Kd.N_nil _ _ _ _ _ | exact Kd.V_nil _ _ _ _ _ | exact Kd.Q_nil _ _ _ _ _ | exact Kd.S_nil _ _ _ _ _, by repeat (first | (with_reducible first | exact HB.out | apply below_alloc | apply pw_below_drewN | apply below_drew1) | exact HB.out)⟩

end Go.Proofs.Yticmghpnbjhhnaa.M
