/- Lean functions with the answers of the Go functions that they are named after, and the walks that tie the Go functions to them (written by the program mp.py of this session). -/
import Derived.Test.YticmghpnbjhhnaaM0
import Derived.Test.YticmghpnbjhhnaaM7
import Derived.Test.YticmghpnbjhhnaaM8
import Derived.Test.YticmghpnbjhhnaaM19
namespace Go.Proofs.Yticmghpnbjhhnaa.M
open Go.RowKit Go.Proofs.YticmghpnbjhhnaaW.PrintWords Go.Proofs.YticmghpnbjhhnaaW.PrintLast Go.Proofs.YticmghpnbjhhnaaW.PrintMore
attribute [local go_sem] max2_int min2_int max_two min_two max_three min_three max_four min_four   -- for this text's walks alone
set_option linter.unusedVariables false
set_option linter.unusedSimpArgs false

/-! ### metadata_Differences: function 27 -/
mutual
def metadata_Differences.l0 : Nat → List ByteArray → List Int → Int → Int → List (S96) → Int → Int → List Int → List (S98) → List (S35) → List (S35) → Option (List Int)
  | 0, _, _, _, _, _, _, _, _, _, _, _ => none
  | k + 1, x0, x5, x13, x14, x320000, x320001, x320002, x320003, x320004, x320005, x320006 => if x14 < x13 then ((metadata_location.f k x320000 x320001 x320002 x320003 x320004 x320005 x320006 x320005 x14).bind fun t321 => ((metadata_at.f x0 t321).bind fun bt322 => ((metadata_location.f k x320000 x320001 x320002 x320003 x320004 x320005 x320006 x320006 x14).bind fun t324 => ((metadata_at.f x0 t324).bind fun bt325 => (if bt322.2 = true then (if bt325.2 = true then (metadata_Differences.j1 k x0 x5 x14 x13 x14 (bt322.1.toList != bt325.1.toList) x320000 x320001 x320002 x320003 x320004 x320005 x320006) else (metadata_Differences.j1 k x0 x5 x14 x13 x14 true x320000 x320001 x320002 x320003 x320004 x320005 x320006)) else (metadata_Differences.j1 k x0 x5 x14 x13 x14 true x320000 x320001 x320002 x320003 x320004 x320005 x320006)))))) else (some x5)
def metadata_Differences.j1 : Nat → List ByteArray → List Int → Int → Int → Int → Bool → List (S96) → Int → Int → List Int → List (S98) → List (S35) → List (S35) → Option (List Int)
  | 0, _, _, _, _, _, _, _, _, _, _, _, _, _ => none
  | k + 1, x0, x5, x6, x13, x14, x47, x320000, x320001, x320002, x320003, x320004, x320005, x320006 => if x47 = true then (if x5.length < 17592186044416 then (metadata_Differences.l0 k x0 (x5 ++ [x6]) x13 (wrap64 (x14 + 1)) x320000 x320001 x320002 x320003 x320004 x320005 x320006) else (none)) else (metadata_Differences.l0 k x0 x5 x13 (wrap64 (x14 + 1)) x320000 x320001 x320002 x320003 x320004 x320005 x320006)
end
def metadata_Differences.f (k : Nat) (l0 : List ByteArray) (l1_0 : List (S96)) (a1_1 : Int) (a1_2 : Int) (l1_3 : List Int) (l1_4 : List (S98)) (l1_5 : List (S35)) (l1_6 : List (S35)) : Option (List Int) := (metadata_Size.f k l1_0 a1_1 a1_2 l1_3 l1_4 l1_5 l1_6).bind fun t320 => (metadata_Differences.l0 k l0 ([] : List Int) (mn t320 4096) 0 l1_0 a1_1 a1_2 l1_3 l1_4 l1_5 l1_6)
theorem metadata_Differences.mono_l : ∀ k, (∀ y0 y1 y2 y3 y4 y5 y6 y7 y8 y9 y10, LeO (metadata_Differences.l0 k y0 y1 y2 y3 y4 y5 y6 y7 y8 y9 y10) (metadata_Differences.l0 (k + 1) y0 y1 y2 y3 y4 y5 y6 y7 y8 y9 y10)) ∧ (∀ y0 y1 y2 y3 y4 y5 y6 y7 y8 y9 y10 y11 y12, LeO (metadata_Differences.j1 k y0 y1 y2 y3 y4 y5 y6 y7 y8 y9 y10 y11 y12) (metadata_Differences.j1 (k + 1) y0 y1 y2 y3 y4 y5 y6 y7 y8 y9 y10 y11 y12))
  | 0 => ⟨fun _ _ _ _ _ _ _ _ _ _ _ r h => by simp [metadata_Differences.l0] at h, fun _ _ _ _ _ _ _ _ _ _ _ _ _ r h => by simp [metadata_Differences.j1] at h⟩
  | k + 1 => by
    obtain ⟨ih0, ih1⟩ := metadata_Differences.mono_l k
    refine ⟨?_, ?_⟩
    · intro y0 y1 y2 y3 y4 y5 y6 y7 y8 y9 y10
      unfold metadata_Differences.l0
      repeat' first
      | (with_reducible exact ih0 _ _ _ _ _ _ _ _ _ _ _)
      | (with_reducible exact ih1 _ _ _ _ _ _ _ _ _ _ _ _ _)
      | (with_reducible exact metadata_Size.mono _ _ _ _ _ _ _ _)
      | (with_reducible exact metadata_location.mono _ _ _ _ _ _ _ _ _ _)
      | (with_reducible exact LeO.refl _)
      | (with_reducible exact LeO.none _)
      | (with_reducible refine LeO.ite ?_ ?_)
      | (with_reducible refine LeO.bind ?_ (fun _ => ?_))
      | exact ih0 _ _ _ _ _ _ _ _ _ _ _
      | exact ih1 _ _ _ _ _ _ _ _ _ _ _ _ _
      | exact metadata_Size.mono _ _ _ _ _ _ _ _
      | exact metadata_location.mono _ _ _ _ _ _ _ _ _ _
      | exact LeO.none _
      | refine LeO.ite ?_ ?_
      | refine LeO.bind ?_ (fun _ => ?_)
    · intro y0 y1 y2 y3 y4 y5 y6 y7 y8 y9 y10 y11 y12
      unfold metadata_Differences.j1
      repeat' first
      | (with_reducible exact ih0 _ _ _ _ _ _ _ _ _ _ _)
      | (with_reducible exact ih1 _ _ _ _ _ _ _ _ _ _ _ _ _)
      | (with_reducible exact metadata_Size.mono _ _ _ _ _ _ _ _)
      | (with_reducible exact metadata_location.mono _ _ _ _ _ _ _ _ _ _)
      | (with_reducible exact LeO.refl _)
      | (with_reducible exact LeO.none _)
      | (with_reducible refine LeO.ite ?_ ?_)
      | (with_reducible refine LeO.bind ?_ (fun _ => ?_))
      | exact ih0 _ _ _ _ _ _ _ _ _ _ _
      | exact ih1 _ _ _ _ _ _ _ _ _ _ _ _ _
      | exact metadata_Size.mono _ _ _ _ _ _ _ _
      | exact metadata_location.mono _ _ _ _ _ _ _ _ _ _
      | exact LeO.none _
      | refine LeO.ite ?_ ?_
      | refine LeO.bind ?_ (fun _ => ?_)
theorem metadata_Differences.mono : ∀ a0 a1 a2 a3 a4 a5 a6 a7 k, LeO (metadata_Differences.f k a0 a1 a2 a3 a4 a5 a6 a7) (metadata_Differences.f (k + 1) a0 a1 a2 a3 a4 a5 a6 a7) := by
  intro a0 a1 a2 a3 a4 a5 a6 a7 k
  obtain ⟨ih0, ih1⟩ := metadata_Differences.mono_l k
  unfold metadata_Differences.f
  repeat' first
      | (with_reducible exact ih0 _ _ _ _ _ _ _ _ _ _ _)
      | (with_reducible exact ih1 _ _ _ _ _ _ _ _ _ _ _ _ _)
      | (with_reducible exact metadata_Size.mono _ _ _ _ _ _ _ _)
      | (with_reducible exact metadata_location.mono _ _ _ _ _ _ _ _ _ _)
      | (with_reducible exact LeO.refl _)
      | (with_reducible exact LeO.none _)
      | (with_reducible refine LeO.ite ?_ ?_)
      | (with_reducible refine LeO.bind ?_ (fun _ => ?_))
      | exact ih0 _ _ _ _ _ _ _ _ _ _ _
      | exact ih1 _ _ _ _ _ _ _ _ _ _ _ _ _
      | exact metadata_Size.mono _ _ _ _ _ _ _ _
      | exact metadata_location.mono _ _ _ _ _ _ _ _ _ _
      | exact LeO.none _
      | refine LeO.ite ?_ ?_
      | refine LeO.bind ?_ (fun _ => ?_)
set_option maxHeartbeats 8000000 in
set_option maxRecDepth 100000 in
theorem metadata_Differences.calls (k : Nat) (A0 : Option Addr) (c0 : Nat) (l0 : List ByteArray) (A1_0 : Option Addr) (c1_0 : Nat) (l1_0 : List (S96)) (a1_1 : Int) (a1_2 : Int) (A1_3 : Option Addr) (c1_3 : Nat) (l1_3 : List Int) (A1_4 : Option Addr) (c1_4 : Nat) (l1_4 : List (S98)) (A1_5 : Option Addr) (c1_5 : Nat) (l1_5 : List (S35)) (A1_6 : Option Addr) (c1_6 : Nat) (l1_6 : List (S35)) (r : List Int) (w : World) (hr0 : Kd.C Kd.string w A0 l0.length l0) (hc0 : l0.length ≤ c0) (hr1_0 : Kd.C k96 w A1_0 l1_0.length l1_0) (hc1_0 : l1_0.length ≤ c1_0) (hr1_3 : Kd.C (Kd.int .i64) w A1_3 l1_3.length l1_3) (hc1_3 : l1_3.length ≤ c1_3) (hr1_4 : Kd.C k98 w A1_4 l1_4.length l1_4) (hc1_4 : l1_4.length ≤ c1_4) (hr1_5 : Kd.C k35 w A1_5 l1_5.length l1_5) (hc1_5 : l1_5.length ≤ c1_5) (hr1_6 : Kd.C k35 w A1_6 l1_6.length l1_6) (hc1_6 : l1_6.length ≤ c1_6) (h : metadata_Differences.f k l0 l1_0 a1_1 a1_2 l1_3 l1_4 l1_5 l1_6 = some r) :
    Calls Try.prog 27 #[.slice A0 l0.length c0, .agg #[.slice A1_0 l1_0.length c1_0, .int .i64 a1_1, .int .i64 a1_2, .slice A1_3 l1_3.length c1_3, .slice A1_4 l1_4.length c1_4, .slice A1_5 l1_5.length c1_5, .slice A1_6 l1_6.length c1_6]] w fun e w' => ∃ v0_ : Value, e = .returned (v0_) ∧ Kd.R (Kd.int .i64) 3 w' w.heap.size (fun _ => True) v0_ r ∧ Below w.heap.size w w' := by
  have hu40 := Try.underlying40
  have HR0 := Aside0.mk hr0
  have HC0 := Aside0.mk hc0
  clear hr0 hc0
  have HR1_0 := Aside0.mk hr1_0
  have HC1_0 := Aside0.mk hc1_0
  clear hr1_0 hc1_0
  have HR1_3 := Aside0.mk hr1_3
  have HC1_3 := Aside0.mk hc1_3
  clear hr1_3 hc1_3
  have HR1_4 := Aside0.mk hr1_4
  have HC1_4 := Aside0.mk hc1_4
  clear hr1_4 hc1_4
  have HR1_5 := Aside0.mk hr1_5
  have HC1_5 := Aside0.mk hc1_5
  clear hr1_5 hc1_5
  have HR1_6 := Aside0.mk hr1_6
  have HC1_6 := Aside0.mk hc1_6
  clear hr1_6 hc1_6
  have HB := Aside0.mk (Below.refl w.heap.size w)
  have H : ((metadata_Size.f k l1_0 a1_1 a1_2 l1_3 l1_4 l1_5 l1_6).bind fun t320 => (metadata_Differences.l0 k l0 ([] : List Int) (mn t320 4096) 0 l1_0 a1_1 a1_2 l1_3 l1_4 l1_5 l1_6)) = some r := h
  clear h
  replace H := Option.bind_eq_some_iff.mp H
  obtain ⟨t320, A30, H⟩ := H
  replace H : (metadata_Differences.l0 k l0 ([] : List Int) (mn t320 4096) 0 l1_0 a1_1 a1_2 l1_3 l1_4 l1_5 l1_6) = some r := H
  have A3 := Aside0.mk A30
  clear A30
  obtain ⟨ji4, hji4⟩ : ∃ j_ : Int, (mn t320 4096) = j_ := ⟨_, rfl⟩
  replace H : (metadata_Differences.l0 k l0 ([] : List Int) ji4 0 l1_0 a1_1 a1_2 l1_3 l1_4 l1_5 l1_6) = some r := by first | (rw [hji4] at H; exact H) | (simp only [hji4] at H ⊢; exact H)
  (try rw [hji4] at A3)
  (try (have hji4h : ji4 ≤ 4096 := by (rw [← hji4]; unfold mn; (repeat' split) <;> omega)))
  (try (have hji4g : ji4 ≤ 64 := by omega))
  have hji4_ : (if 4096 < t320 then 4096 else t320) = ji4 := hji4
  have H' := Aside0.mk H
  clear H
  go_enter Try.func27, Try.ntmps27
  go_wp2_with (first | ((with_reducible refine gate_dst (N := 3) rfl ?_); refine box_event ?hg (N := 3) ?hd (cs := #[.slice A1_0 l1_0.length c1_0, .int .i64 a1_1, .int .i64 a1_2, .slice A1_3 l1_3.length c1_3, .slice A1_4 l1_4.length c1_4, .slice A1_5 l1_5.length c1_5, .slice A1_6 l1_6.length c1_6]) (t := 40) ?hr ?_; (case hd => rfl); (case hg => rfl); (case hr => first | (go_simp; done) | (go_simp; rfl)); intro gb319 hg w5 hbox hb; have n0_ := Aside0.mk (below_step (by repeat (first | (with_reducible first | exact HB.out | apply below_alloc | apply pw_below_drewN | apply below_drew1) | exact HB.out)) hb); have n1_ := Aside0.mk (hbox); have n2_ := Aside0.mk ((by rw [hg]; exact (below_size (by repeat (first | (with_reducible first | exact HB.out | apply below_alloc | apply pw_below_drewN | apply below_drew1) | exact HB.out))) : w.heap.size ≤ gb319)); have n3_ := Aside0.mk ((by rw [hg]; exact (below_size (by repeat (first | (with_reducible first | exact HB.out | apply below_alloc | apply pw_below_drewN | apply below_drew1) | exact HB.out))) : w.heap.size ≤ gb319)); clear HB; have HB := n0_; have BK319 := n1_; have GW319 := n2_; have GE319 := n3_; clear n0_ n1_ n2_ n3_; clear hb hbox hg; have hcz6_0 : w5.cell? ⟨gb319, 0, none⟩ = some (.slice A1_0 l1_0.length c1_0) := (blk_cell BK319.out 0).trans rfl; have hcz6_1 : w5.cell? ⟨gb319, 1, none⟩ = some (.int .i64 a1_1) := (blk_cell BK319.out 1).trans rfl; have hcz6_2 : w5.cell? ⟨gb319, 2, none⟩ = some (.int .i64 a1_2) := (blk_cell BK319.out 2).trans rfl; have hcz6_3 : w5.cell? ⟨gb319, 3, none⟩ = some (.slice A1_3 l1_3.length c1_3) := (blk_cell BK319.out 3).trans rfl; have hcz6_4 : w5.cell? ⟨gb319, 4, none⟩ = some (.slice A1_4 l1_4.length c1_4) := (blk_cell BK319.out 4).trans rfl; have hcz6_5 : w5.cell? ⟨gb319, 5, none⟩ = some (.slice A1_5 l1_5.length c1_5) := (blk_cell BK319.out 5).trans rfl; have hcz6_6 : w5.cell? ⟨gb319, 6, none⟩ = some (.slice A1_6 l1_6.length c1_6) := (blk_cell BK319.out 6).trans rfl; have hfz6_0 := blk_frozen BK319.out 0; have hfz6_1 := blk_frozen BK319.out 1; have hfz6_2 := blk_frozen BK319.out 2; have hfz6_3 := blk_frozen BK319.out 3; have hfz6_4 := blk_frozen BK319.out 4; have hfz6_5 := blk_frozen BK319.out 5; have hfz6_6 := blk_frozen BK319.out 6) | ((with_reducible refine gate_callee (f := 18) rfl ?_); refine goesL_ (some 12) rfl rfl Try.func18 (by kernel_rfl) rfl #[.agg #[.slice A1_0 l1_0.length c1_0, .int .i64 a1_1, .int .i64 a1_2, .slice A1_3 l1_3.length c1_3, .slice A1_4 l1_4.length c1_4, .slice A1_5 l1_5.length c1_5, .slice A1_6 l1_6.length c1_6]] rfl (by (try simp only [List.map_toArray, List.map_cons, List.map_nil]); first | done | rfl | (simp only [List.length_drop, List.length_take]; rfl)) ?_; (with_reducible refine (metadata_Size.calls k _ _ l1_0 a1_1 a1_2 _ _ l1_3 _ _ l1_4 (fun k_ => k_ < w.heap.size) _ _ l1_5 (fun k_ => k_ < w.heap.size) _ _ l1_6 t320 _ ?side1 ?side2 ?side3 ?side4 ?side5 ?side6 ?side7 ?side8 A3.out).mono ?_); (case side1 => repeat (first | exact (Kd.C_below HR1_0.out HB.out) | (with_reducible refine Kd.C_alloc ?_ _) | (with_reducible refine Kd.C_drewN ?_ _) | (with_reducible refine Kd.C_drew ?_))); (case side2 => exact HC1_0.out); (case side3 => repeat (first | exact (Kd.C_below HR1_3.out HB.out) | (with_reducible refine Kd.C_alloc ?_ _) | (with_reducible refine Kd.C_drewN ?_ _) | (with_reducible refine Kd.C_drew ?_))); (case side4 => exact HC1_3.out); (case side5 => repeat (first | exact (Kd.C_below HR1_4.out HB.out) | (with_reducible refine Kd.C_alloc ?_ _) | (with_reducible refine Kd.C_drewN ?_ _) | (with_reducible refine Kd.C_drew ?_))); (case side6 => exact HC1_4.out); (case side7 => exact Kd.V_mk HC1_5.out (Kd.F_below (Kd.C_F k35_heap HR1_5.out) (by repeat (first | (with_reducible first | exact HB.out | apply below_alloc | apply pw_below_drewN | apply below_drew1 | refine below_set ?_ GE319.out) | exact HB.out)))); (case side8 => exact Kd.V_mk HC1_6.out (Kd.F_below (Kd.C_F k35_heap HR1_6.out) (by repeat (first | (with_reducible first | exact HB.out | apply below_alloc | apply pw_below_drewN | apply below_drew1 | refine below_set ?_ GE319.out) | exact HB.out)))); rintro e w7 ⟨rfl, hb⟩; refine ⟨_, rfl, ?_⟩; have n0_ := Aside0.mk (blk_below (g := gb319) (o := .cells #[.slice A1_0 l1_0.length c1_0, .int .i64 a1_1, .int .i64 a1_2, .slice A1_3 l1_3.length c1_3, .slice A1_4 l1_4.length c1_4, .slice A1_5 l1_5.length c1_5, .slice A1_6 l1_6.length c1_6] 40 (0, 0)) (by (with_reducible repeat (first | refine blk_drewN ?_ _ | refine blk_drew ?_ | refine blk_alloc ?_ _)); exact BK319.out) hb); have n1_ := Aside0.mk (below_step (by repeat (first | (with_reducible first | exact HB.out | apply below_alloc | apply pw_below_drewN | apply below_drew1 | refine below_set ?_ GE319.out) | exact HB.out)) hb); clear BK319; clear HB; have BK319 := n0_; have HB := n1_; clear n0_ n1_; (try clear hb); (try clear hb2); (try clear hk); (try clear hi)))
  go_loopg [5, 14] k (fun kq v5 v14 w' => ∃ (x5_1 : List Int) (x14_1 : Int), v14 = .int .i64 x14_1 ∧ Aside0 (metadata_Differences.l0 kq l0 x5_1 ji4 x14_1 l1_0 a1_1 a1_2 l1_3 l1_4 l1_5 l1_6 = some r) ∧ Aside0 (kq ≤ k) ∧ Aside0 (Kd.R (Kd.int .i64) 3 w' w.heap.size (fun _ => True) v5 x5_1) ∧ Aside0 (w'.heap[gb319]? = some (.cells #[(.slice A1_0 l1_0.length c1_0), .int .i64 a1_1, .int .i64 a1_2, (.slice A1_3 l1_3.length c1_3), (.slice A1_4 l1_4.length c1_4), (.slice A1_5 l1_5.length c1_5), (.slice A1_6 l1_6.length c1_6)] 40 (0, 0))) ∧ Aside0 (Below w.heap.size w w'))
  case atStart => exact ⟨(([] : List Int)), (0), (by first | rfl | (simp; done) | (simp [*]; done)), H', ⟨Nat.le_refl _⟩, ⟨by first | exact Kd.R_nil _ _ _ _ _ | exact Kd.N_nil _ _ _ _ _ | exact Kd.V_nil _ _ _ _ _ | exact Kd.Q_nil _ _ _ _ _ | exact Kd.S_nil _ _ _ _ _⟩, ⟨by (with_reducible repeat (first | refine blk_drewN ?_ _ | refine blk_drew ?_ | refine blk_alloc ?_ _)); exact BK319.out⟩, ⟨by repeat (first | (with_reducible first | exact HB.out | apply below_alloc | apply pw_below_drewN | apply below_drew1 | refine below_set ?_ GE319.out) | exact HB.out)⟩⟩
  case round =>
    clear H'
    try clear c1
    try clear c2
    try clear p2
    try clear hcz6_0
    try clear hcz6_1
    try clear hcz6_2
    try clear hcz6_3
    try clear hcz6_4
    try clear hcz6_5
    try clear hcz6_6
    try clear hfz6_0
    try clear hfz6_1
    try clear hfz6_2
    try clear hfz6_3
    try clear hfz6_4
    try clear hfz6_5
    try clear hfz6_6
    obtain ⟨x5_1, x14_1, rfl, HA, HK1, HO_5, BK319, HB⟩ := hrel
    cases gk with
    | zero => exact absurd HA.out (by simp [metadata_Differences.l0])
    | succ k1 =>
      have H := HA.out
      clear HA
      simp only [metadata_Differences.l0] at H
      by_cases c8 : x14_1 < ji4
      · rw [if_pos c8] at H
        have c8b0 : decide (x14_1 < ji4) = true := decide_eq_true c8
        clear c8
        replace H := Option.bind_eq_some_iff.mp H
        obtain ⟨t321, A90, H⟩ := H
        replace H : ((metadata_at.f l0 t321).bind fun bt322 => ((metadata_location.f k1 l1_0 a1_1 a1_2 l1_3 l1_4 l1_5 l1_6 l1_6 x14_1).bind fun t324 => ((metadata_at.f l0 t324).bind fun bt325 => (if bt322.2 = true then (if bt325.2 = true then (metadata_Differences.j1 k1 l0 x5_1 x14_1 ji4 x14_1 (bt322.1.toList != bt325.1.toList) l1_0 a1_1 a1_2 l1_3 l1_4 l1_5 l1_6) else (metadata_Differences.j1 k1 l0 x5_1 x14_1 ji4 x14_1 true l1_0 a1_1 a1_2 l1_3 l1_4 l1_5 l1_6)) else (metadata_Differences.j1 k1 l0 x5_1 x14_1 ji4 x14_1 true l1_0 a1_1 a1_2 l1_3 l1_4 l1_5 l1_6))))) = some r := H
        have A9 := Aside0.mk A90
        clear A90
        replace H := Option.bind_eq_some_iff.mp H
        obtain ⟨⟨t322, t323⟩, A100, H⟩ := H
        replace H : ((metadata_location.f k1 l1_0 a1_1 a1_2 l1_3 l1_4 l1_5 l1_6 l1_6 x14_1).bind fun t324 => ((metadata_at.f l0 t324).bind fun bt325 => (if t323 = true then (if bt325.2 = true then (metadata_Differences.j1 k1 l0 x5_1 x14_1 ji4 x14_1 (t322.toList != bt325.1.toList) l1_0 a1_1 a1_2 l1_3 l1_4 l1_5 l1_6) else (metadata_Differences.j1 k1 l0 x5_1 x14_1 ji4 x14_1 true l1_0 a1_1 a1_2 l1_3 l1_4 l1_5 l1_6)) else (metadata_Differences.j1 k1 l0 x5_1 x14_1 ji4 x14_1 true l1_0 a1_1 a1_2 l1_3 l1_4 l1_5 l1_6)))) = some r := H
        have A10 := Aside0.mk A100
        clear A100
        replace H := Option.bind_eq_some_iff.mp H
        obtain ⟨t324, A110, H⟩ := H
        replace H : ((metadata_at.f l0 t324).bind fun bt325 => (if t323 = true then (if bt325.2 = true then (metadata_Differences.j1 k1 l0 x5_1 x14_1 ji4 x14_1 (t322.toList != bt325.1.toList) l1_0 a1_1 a1_2 l1_3 l1_4 l1_5 l1_6) else (metadata_Differences.j1 k1 l0 x5_1 x14_1 ji4 x14_1 true l1_0 a1_1 a1_2 l1_3 l1_4 l1_5 l1_6)) else (metadata_Differences.j1 k1 l0 x5_1 x14_1 ji4 x14_1 true l1_0 a1_1 a1_2 l1_3 l1_4 l1_5 l1_6))) = some r := H
        have A11 := Aside0.mk A110
        clear A110
        replace H := Option.bind_eq_some_iff.mp H
        obtain ⟨⟨t325, t326⟩, A120, H⟩ := H
        replace H : (if t323 = true then (if t326 = true then (metadata_Differences.j1 k1 l0 x5_1 x14_1 ji4 x14_1 (t322.toList != t325.toList) l1_0 a1_1 a1_2 l1_3 l1_4 l1_5 l1_6) else (metadata_Differences.j1 k1 l0 x5_1 x14_1 ji4 x14_1 true l1_0 a1_1 a1_2 l1_3 l1_4 l1_5 l1_6)) else (metadata_Differences.j1 k1 l0 x5_1 x14_1 ji4 x14_1 true l1_0 a1_1 a1_2 l1_3 l1_4 l1_5 l1_6)) = some r := H
        have A12 := Aside0.mk A120
        clear A120
        have HC13 := Aside0.mk H
        clear H
        have hcz14_0 : wr.cell? ⟨gb319, 0, none⟩ = some (.slice A1_0 l1_0.length c1_0) := (blk_cell BK319.out 0).trans rfl
        have hcz14_1 : wr.cell? ⟨gb319, 1, none⟩ = some (.int .i64 a1_1) := (blk_cell BK319.out 1).trans rfl
        have hcz14_2 : wr.cell? ⟨gb319, 2, none⟩ = some (.int .i64 a1_2) := (blk_cell BK319.out 2).trans rfl
        have hcz14_3 : wr.cell? ⟨gb319, 3, none⟩ = some (.slice A1_3 l1_3.length c1_3) := (blk_cell BK319.out 3).trans rfl
        have hcz14_4 : wr.cell? ⟨gb319, 4, none⟩ = some (.slice A1_4 l1_4.length c1_4) := (blk_cell BK319.out 4).trans rfl
        have hcz14_5 : wr.cell? ⟨gb319, 5, none⟩ = some (.slice A1_5 l1_5.length c1_5) := (blk_cell BK319.out 5).trans rfl
        have hcz14_6 : wr.cell? ⟨gb319, 6, none⟩ = some (.slice A1_6 l1_6.length c1_6) := (blk_cell BK319.out 6).trans rfl
        have hfz14_0 := blk_frozen BK319.out 0
        have hfz14_1 := blk_frozen BK319.out 1
        have hfz14_2 := blk_frozen BK319.out 2
        have hfz14_3 := blk_frozen BK319.out 3
        have hfz14_4 := blk_frozen BK319.out 4
        have hfz14_5 := blk_frozen BK319.out 5
        have hfz14_6 := blk_frozen BK319.out 6
        go_upto_region 7 with (first | ((with_reducible refine gate_callee (f := 29) rfl ?_); refine goesL_ (some 23) rfl rfl Try.func29 (by kernel_rfl) rfl #[.agg #[.slice A1_0 l1_0.length c1_0, .int .i64 a1_1, .int .i64 a1_2, .slice A1_3 l1_3.length c1_3, .slice A1_4 l1_4.length c1_4, .slice A1_5 l1_5.length c1_5, .slice A1_6 l1_6.length c1_6], .slice A1_5 l1_5.length c1_5, .int .i64 x14_1] rfl (by (try simp only [List.map_toArray, List.map_cons, List.map_nil]); first | done | rfl | (simp only [List.length_drop, List.length_take]; rfl)) ?_; (with_reducible refine (metadata_location.calls k1 _ _ l1_0 a1_1 a1_2 _ _ l1_3 _ _ l1_4 _ _ l1_5 _ _ l1_6 _ _ l1_5 x14_1 t321 _ ?side1 ?side2 ?side3 ?side4 ?side5 ?side6 ?side7 ?side8 ?side9 ?side10 ?side11 ?side12 A9.out).mono ?_); (case side1 => repeat (first | exact (Kd.C_below HR1_0.out HB.out) | (with_reducible refine Kd.C_alloc ?_ _) | (with_reducible refine Kd.C_drewN ?_ _) | (with_reducible refine Kd.C_drew ?_))); (case side2 => exact HC1_0.out); (case side3 => repeat (first | exact (Kd.C_below HR1_3.out HB.out) | (with_reducible refine Kd.C_alloc ?_ _) | (with_reducible refine Kd.C_drewN ?_ _) | (with_reducible refine Kd.C_drew ?_))); (case side4 => exact HC1_3.out); (case side5 => repeat (first | exact (Kd.C_below HR1_4.out HB.out) | (with_reducible refine Kd.C_alloc ?_ _) | (with_reducible refine Kd.C_drewN ?_ _) | (with_reducible refine Kd.C_drew ?_))); (case side6 => exact HC1_4.out); (case side7 => repeat (first | exact (Kd.C_below HR1_5.out HB.out) | (with_reducible refine Kd.C_alloc ?_ _) | (with_reducible refine Kd.C_drewN ?_ _) | (with_reducible refine Kd.C_drew ?_))); (case side8 => exact HC1_5.out); (case side9 => repeat (first | exact (Kd.C_below HR1_6.out HB.out) | (with_reducible refine Kd.C_alloc ?_ _) | (with_reducible refine Kd.C_drewN ?_ _) | (with_reducible refine Kd.C_drew ?_))); (case side10 => exact HC1_6.out); (case side11 => repeat (first | exact (Kd.C_below HR1_5.out HB.out) | (with_reducible refine Kd.C_alloc ?_ _) | (with_reducible refine Kd.C_drewN ?_ _) | (with_reducible refine Kd.C_drew ?_))); (case side12 => exact HC1_5.out); rintro e w15 ⟨rfl, hb⟩; refine ⟨_, rfl, ?_⟩; have n0_ := Aside0.mk (Kd.R_below (by (with_reducible repeat (first | apply Kd.R_alloc | apply Kd.R_drewN | apply Kd.R_drew)); exact HO_5.out) hb); have n1_ := Aside0.mk (blk_below (g := gb319) (o := .cells #[.slice A1_0 l1_0.length c1_0, .int .i64 a1_1, .int .i64 a1_2, .slice A1_3 l1_3.length c1_3, .slice A1_4 l1_4.length c1_4, .slice A1_5 l1_5.length c1_5, .slice A1_6 l1_6.length c1_6] 40 (0, 0)) (by (with_reducible repeat (first | refine blk_drewN ?_ _ | refine blk_drew ?_ | refine blk_alloc ?_ _)); exact BK319.out) hb); have n2_ := Aside0.mk (below_step (by repeat (first | (with_reducible first | exact HB.out | apply below_alloc | apply pw_below_drewN | apply below_drew1 | refine below_set ?_ GE319.out) | exact HB.out)) hb); clear HO_5; clear BK319; clear HB; have HO_5 := n0_; have BK319 := n1_; have HB := n2_; clear n0_ n1_ n2_; (try clear hb); (try clear hb2); (try clear hk); (try clear hi)) | ((with_reducible refine gate_callee (f := 39) rfl ?_); refine goesL_ (some 24) rfl rfl Try.func39 (by kernel_rfl) rfl #[.slice A0 l0.length c0, .int .i64 t321] rfl (by (try simp only [List.map_toArray, List.map_cons, List.map_nil]); first | done | rfl | (simp only [List.length_drop, List.length_take]; rfl)) ?_; (with_reducible refine (metadata_at.calls _ _ l0 t321 t322 t323 _ ?side1 ?side2 A10.out).mono ?_); (case side1 => repeat (first | exact (Kd.C_below HR0.out HB.out) | (with_reducible refine Kd.C_alloc ?_ _) | (with_reducible refine Kd.C_drewN ?_ _) | (with_reducible refine Kd.C_drew ?_))); (case side2 => exact HC0.out); rintro e w' ⟨rfl, ⟨nd, rfl⟩⟩; refine ⟨_, rfl, ?_⟩; have hcz16_0 : w15.cell? ⟨gb319, 0, none⟩ = some (.slice A1_0 l1_0.length c1_0) := (blk_cell BK319.out 0).trans rfl; have hcz16_1 : w15.cell? ⟨gb319, 1, none⟩ = some (.int .i64 a1_1) := (blk_cell BK319.out 1).trans rfl; have hcz16_2 : w15.cell? ⟨gb319, 2, none⟩ = some (.int .i64 a1_2) := (blk_cell BK319.out 2).trans rfl; have hcz16_3 : w15.cell? ⟨gb319, 3, none⟩ = some (.slice A1_3 l1_3.length c1_3) := (blk_cell BK319.out 3).trans rfl; have hcz16_4 : w15.cell? ⟨gb319, 4, none⟩ = some (.slice A1_4 l1_4.length c1_4) := (blk_cell BK319.out 4).trans rfl; have hcz16_5 : w15.cell? ⟨gb319, 5, none⟩ = some (.slice A1_5 l1_5.length c1_5) := (blk_cell BK319.out 5).trans rfl; have hcz16_6 : w15.cell? ⟨gb319, 6, none⟩ = some (.slice A1_6 l1_6.length c1_6) := (blk_cell BK319.out 6).trans rfl; have hfz16_0 := blk_frozen BK319.out 0; have hfz16_1 := blk_frozen BK319.out 1; have hfz16_2 := blk_frozen BK319.out 2; have hfz16_3 := blk_frozen BK319.out 3; have hfz16_4 := blk_frozen BK319.out 4; have hfz16_5 := blk_frozen BK319.out 5; have hfz16_6 := blk_frozen BK319.out 6) | ((with_reducible refine gate_callee (f := 29) rfl ?_); refine goesL_ (some 33) rfl rfl Try.func29 (by kernel_rfl) rfl #[.agg #[.slice A1_0 l1_0.length c1_0, .int .i64 a1_1, .int .i64 a1_2, .slice A1_3 l1_3.length c1_3, .slice A1_4 l1_4.length c1_4, .slice A1_5 l1_5.length c1_5, .slice A1_6 l1_6.length c1_6], .slice A1_6 l1_6.length c1_6, .int .i64 x14_1] rfl (by (try simp only [List.map_toArray, List.map_cons, List.map_nil]); first | done | rfl | (simp only [List.length_drop, List.length_take]; rfl)) ?_; (with_reducible refine (metadata_location.calls k1 _ _ l1_0 a1_1 a1_2 _ _ l1_3 _ _ l1_4 _ _ l1_5 _ _ l1_6 _ _ l1_6 x14_1 t324 _ ?side1 ?side2 ?side3 ?side4 ?side5 ?side6 ?side7 ?side8 ?side9 ?side10 ?side11 ?side12 A11.out).mono ?_); (case side1 => repeat (first | exact (Kd.C_below HR1_0.out (by repeat (first | (with_reducible first | exact HB.out | apply below_alloc | apply pw_below_drewN | apply below_drew1 | refine below_set ?_ GE319.out) | exact HB.out))) | (with_reducible refine Kd.C_alloc ?_ _) | (with_reducible refine Kd.C_drewN ?_ _) | (with_reducible refine Kd.C_drew ?_))); (case side2 => exact HC1_0.out); (case side3 => repeat (first | exact (Kd.C_below HR1_3.out (by repeat (first | (with_reducible first | exact HB.out | apply below_alloc | apply pw_below_drewN | apply below_drew1 | refine below_set ?_ GE319.out) | exact HB.out))) | (with_reducible refine Kd.C_alloc ?_ _) | (with_reducible refine Kd.C_drewN ?_ _) | (with_reducible refine Kd.C_drew ?_))); (case side4 => exact HC1_3.out); (case side5 => repeat (first | exact (Kd.C_below HR1_4.out (by repeat (first | (with_reducible first | exact HB.out | apply below_alloc | apply pw_below_drewN | apply below_drew1 | refine below_set ?_ GE319.out) | exact HB.out))) | (with_reducible refine Kd.C_alloc ?_ _) | (with_reducible refine Kd.C_drewN ?_ _) | (with_reducible refine Kd.C_drew ?_))); (case side6 => exact HC1_4.out); (case side7 => repeat (first | exact (Kd.C_below HR1_5.out (by repeat (first | (with_reducible first | exact HB.out | apply below_alloc | apply pw_below_drewN | apply below_drew1 | refine below_set ?_ GE319.out) | exact HB.out))) | (with_reducible refine Kd.C_alloc ?_ _) | (with_reducible refine Kd.C_drewN ?_ _) | (with_reducible refine Kd.C_drew ?_))); (case side8 => exact HC1_5.out); (case side9 => repeat (first | exact (Kd.C_below HR1_6.out (by repeat (first | (with_reducible first | exact HB.out | apply below_alloc | apply pw_below_drewN | apply below_drew1 | refine below_set ?_ GE319.out) | exact HB.out))) | (with_reducible refine Kd.C_alloc ?_ _) | (with_reducible refine Kd.C_drewN ?_ _) | (with_reducible refine Kd.C_drew ?_))); (case side10 => exact HC1_6.out); (case side11 => repeat (first | exact (Kd.C_below HR1_6.out (by repeat (first | (with_reducible first | exact HB.out | apply below_alloc | apply pw_below_drewN | apply below_drew1 | refine below_set ?_ GE319.out) | exact HB.out))) | (with_reducible refine Kd.C_alloc ?_ _) | (with_reducible refine Kd.C_drewN ?_ _) | (with_reducible refine Kd.C_drew ?_))); (case side12 => exact HC1_6.out); rintro e w17 ⟨rfl, hb⟩; refine ⟨_, rfl, ?_⟩; have n0_ := Aside0.mk (Kd.R_below (by (with_reducible repeat (first | apply Kd.R_alloc | apply Kd.R_drewN | apply Kd.R_drew)); exact HO_5.out) hb); have n1_ := Aside0.mk (blk_below (g := gb319) (o := .cells #[.slice A1_0 l1_0.length c1_0, .int .i64 a1_1, .int .i64 a1_2, .slice A1_3 l1_3.length c1_3, .slice A1_4 l1_4.length c1_4, .slice A1_5 l1_5.length c1_5, .slice A1_6 l1_6.length c1_6] 40 (0, 0)) (by (with_reducible repeat (first | refine blk_drewN ?_ _ | refine blk_drew ?_ | refine blk_alloc ?_ _)); exact BK319.out) hb); have n2_ := Aside0.mk (below_step (by repeat (first | (with_reducible first | exact HB.out | apply below_alloc | apply pw_below_drewN | apply below_drew1 | refine below_set ?_ GE319.out) | exact HB.out)) hb); clear HO_5; clear BK319; clear HB; have HO_5 := n0_; have BK319 := n1_; have HB := n2_; clear n0_ n1_ n2_; (try clear hb); (try clear hb2); (try clear hk); (try clear hi)) | ((with_reducible refine gate_callee (f := 39) rfl ?_); refine goesL_ (some 34) rfl rfl Try.func39 (by kernel_rfl) rfl #[.slice A0 l0.length c0, .int .i64 t324] rfl (by (try simp only [List.map_toArray, List.map_cons, List.map_nil]); first | done | rfl | (simp only [List.length_drop, List.length_take]; rfl)) ?_; (with_reducible refine (metadata_at.calls _ _ l0 t324 t325 t326 _ ?side1 ?side2 A12.out).mono ?_); (case side1 => repeat (first | exact (Kd.C_below HR0.out HB.out) | (with_reducible refine Kd.C_alloc ?_ _) | (with_reducible refine Kd.C_drewN ?_ _) | (with_reducible refine Kd.C_drew ?_))); (case side2 => exact HC0.out); rintro e w' ⟨rfl, ⟨nd, rfl⟩⟩; refine ⟨_, rfl, ?_⟩))
        (try simp only [Act.put, List.setIfInBounds_toArray, List.set_cons_zero, List.set_cons_succ])
        go_cut [47] (fun v47 wc => ∃ (kq : Nat) (x47_12 : Bool), v47 = .bool x47_12 ∧ Aside0 (metadata_Differences.j1 kq l0 x5_1 x14_1 ji4 x14_1 x47_12 l1_0 a1_1 a1_2 l1_3 l1_4 l1_5 l1_6 = some r) ∧ Aside0 (kq ≤ k1) ∧ Aside0 (Kd.R (Kd.int .i64) 3 wc w.heap.size (fun _ => True) u5 x5_1) ∧ Aside0 (wc.heap[gb319]? = some (.cells #[(.slice A1_0 l1_0.length c1_0), .int .i64 a1_1, .int .i64 a1_2, (.slice A1_3 l1_3.length c1_3), (.slice A1_4 l1_4.length c1_4), (.slice A1_5 l1_5.length c1_5), (.slice A1_6 l1_6.length c1_6)] 40 (0, 0))) ∧ Aside0 (Below w.heap.size w wc))
        case first =>
          have H := HC13.out
          clear HC13
          by_cases c18 : t323 = true
          · subst c18
            have H1 : (if t326 = true then (metadata_Differences.j1 k1 l0 x5_1 x14_1 ji4 x14_1 (t322.toList != t325.toList) l1_0 a1_1 a1_2 l1_3 l1_4 l1_5 l1_6) else (metadata_Differences.j1 k1 l0 x5_1 x14_1 ji4 x14_1 true l1_0 a1_1 a1_2 l1_3 l1_4 l1_5 l1_6)) = some r := by rw [if_pos rfl] at H; exact H
            clear H
            have H := H1
            clear H1
            by_cases c19 : t326 = true
            · subst c19
              have H1 : (metadata_Differences.j1 k1 l0 x5_1 x14_1 ji4 x14_1 (t322.toList != t325.toList) l1_0 a1_1 a1_2 l1_3 l1_4 l1_5 l1_6) = some r := by rw [if_pos rfl] at H; exact H
              clear H
              have H := H1
              clear H1
              have H' := Aside0.mk H
              clear H
              go_wp2
              go_meet
              case rel => exact ⟨_, ((t322.toList != t325.toList)), (by first | rfl | (simp; done) | (simp [*]; done)), H', ⟨by have := HK1.out; first | omega | exact Nat.le_refl _⟩, ⟨by (with_reducible repeat (first | apply Kd.R_alloc | apply Kd.R_drewN | apply Kd.R_drew)); exact HO_5.out⟩, ⟨by (with_reducible repeat (first | refine blk_drewN ?_ _ | refine blk_drew ?_ | refine blk_alloc ?_ _)); exact BK319.out⟩, ⟨by repeat (first | (with_reducible first | exact HB.out | apply below_alloc | apply pw_below_drewN | apply below_drew1 | refine below_set ?_ GE319.out) | exact HB.out)⟩⟩
            · replace c19 := Bool.eq_false_iff.mpr c19
              subst c19
              have H1 : (metadata_Differences.j1 k1 l0 x5_1 x14_1 ji4 x14_1 true l1_0 a1_1 a1_2 l1_3 l1_4 l1_5 l1_6) = some r := by rw [if_neg (show ¬ (false = true) by decide)] at H; exact H
              clear H
              have H := H1
              clear H1
              have H' := Aside0.mk H
              clear H
              go_wp2
              go_meet
              case rel => exact ⟨_, (true), (by first | rfl | (simp; done) | (simp [*]; done)), H', ⟨by have := HK1.out; first | omega | exact Nat.le_refl _⟩, ⟨by (with_reducible repeat (first | apply Kd.R_alloc | apply Kd.R_drewN | apply Kd.R_drew)); exact HO_5.out⟩, ⟨by (with_reducible repeat (first | refine blk_drewN ?_ _ | refine blk_drew ?_ | refine blk_alloc ?_ _)); exact BK319.out⟩, ⟨by repeat (first | (with_reducible first | exact HB.out | apply below_alloc | apply pw_below_drewN | apply below_drew1 | refine below_set ?_ GE319.out) | exact HB.out)⟩⟩
          · replace c18 := Bool.eq_false_iff.mpr c18
            subst c18
            have H1 : (metadata_Differences.j1 k1 l0 x5_1 x14_1 ji4 x14_1 true l1_0 a1_1 a1_2 l1_3 l1_4 l1_5 l1_6) = some r := by rw [if_neg (show ¬ (false = true) by decide)] at H; exact H
            clear H
            have H := H1
            clear H1
            have H' := Aside0.mk H
            clear H
            go_wp2
            go_meet
            case rel => exact ⟨_, (true), (by first | rfl | (simp; done) | (simp [*]; done)), H', ⟨by have := HK1.out; first | omega | exact Nat.le_refl _⟩, ⟨by (with_reducible repeat (first | apply Kd.R_alloc | apply Kd.R_drewN | apply Kd.R_drew)); exact HO_5.out⟩, ⟨by (with_reducible repeat (first | refine blk_drewN ?_ _ | refine blk_drew ?_ | refine blk_alloc ?_ _)); exact BK319.out⟩, ⟨by repeat (first | (with_reducible first | exact HB.out | apply below_alloc | apply pw_below_drewN | apply below_drew1 | refine below_set ?_ GE319.out) | exact HB.out)⟩⟩
        case rest =>
          clear HC13
          try clear c1
          try clear c2
          try clear p2
          try clear c3
          try clear c8
          try clear c8b0
          try clear c18
          try clear c19
          try clear hcz14_0
          try clear hcz14_1
          try clear hcz14_2
          try clear hcz14_3
          try clear hcz14_4
          try clear hcz14_5
          try clear hcz14_6
          try clear hcz16_0
          try clear hcz16_1
          try clear hcz16_2
          try clear hcz16_3
          try clear hcz16_4
          try clear hcz16_5
          try clear hcz16_6
          try clear hcz6_0
          try clear hcz6_1
          try clear hcz6_2
          try clear hcz6_3
          try clear hcz6_4
          try clear hcz6_5
          try clear hcz6_6
          try clear hfz14_0
          try clear hfz14_1
          try clear hfz14_2
          try clear hfz14_3
          try clear hfz14_4
          try clear hfz14_5
          try clear hfz14_6
          try clear hfz16_0
          try clear hfz16_1
          try clear hfz16_2
          try clear hfz16_3
          try clear hfz16_4
          try clear hfz16_5
          try clear hfz16_6
          try clear hfz6_0
          try clear hfz6_1
          try clear hfz6_2
          try clear hfz6_3
          try clear hfz6_4
          try clear hfz6_5
          try clear hfz6_6
          try clear p2
          obtain ⟨kq, x47_12, rfl, HA, HJ12, HO_5, BK319, HB⟩ := hcut
          cases kq with
          | zero => exact absurd HA.out (by simp [metadata_Differences.j1])
          | succ kj12 =>
            have H := HA.out
            clear HA
            simp only [metadata_Differences.j1] at H
            by_cases c20 : x47_12 = true
            · subst c20
              have H1 : (if x5_1.length < 17592186044416 then (metadata_Differences.l0 kj12 l0 (x5_1 ++ [x14_1]) ji4 (wrap64 (x14_1 + 1)) l1_0 a1_1 a1_2 l1_3 l1_4 l1_5 l1_6) else (none)) = some r := by rw [if_pos rfl] at H; exact H
              clear H
              have H := H1
              clear H1
              by_cases c21 : x5_1.length < 17592186044416
              · rw [if_pos c21] at H
                have LMc21 := Aside0.mk c21
                clear c21
                obtain ⟨y327, hy327⟩ : ∃ y_ : List Int, y_ = (x5_1 ++ [x14_1]) := ⟨_, rfl⟩
                replace H : (metadata_Differences.l0 kj12 l0 y327 ji4 (wrap64 (x14_1 + 1)) l1_0 a1_1 a1_2 l1_3 l1_4 l1_5 l1_6) = some r := by first | (rw [hy327]; with_reducible exact H) | (have H2_ := (Option.bind_some _ _).symm.trans H; rw [hy327]; with_reducible exact H2_) | (have H2_ := (Option.bind_some _ _).symm.trans H; with_reducible exact H2_) | with_reducible exact H | (rw [hy327]; exact H) | exact H
                have Ny327 := Aside0.mk hy327
                clear hy327
                have H' := Aside0.mk H
                clear H
                go_wp2_with (first | ((with_reducible refine gate_builtin (b := .append) (xs := #[.tmp 48, .tmp 50]) rfl ?_); at_builtin; refine Kd.R_append (Kd.int .i64) (w0 := w) w.heap.size rfl (.tmp 48) (.tmp 50) 24 3 (.int .i64 0) 8 rfl Try.underlying24 info3 rfl (by decide) (by omega) u5 x5_1 x14_1 [.int .i64 x14_1] (fun _ => True) (fun _ => False) rfl rfl ?aP (fun _ hk => hk.elim) ?aF ?aO ?aB ?aS ?aL ?_; (case aP => exact rfl); (case aB => exact (by repeat (first | (with_reducible first | exact HB.out | apply below_alloc | apply pw_below_drewN | apply below_drew1 | refine below_set ?_ GE319.out) | exact HB.out))); (case aF => exact (fun _ _ => trivial)); (case aO => exact (by (with_reducible repeat (first | apply Kd.R_alloc | apply Kd.R_drewN | apply Kd.R_drew)); exact HO_5.out)); (case aS => exact (below_size (by repeat (first | (with_reducible first | exact HB.out | apply below_alloc | apply pw_below_drewN | apply below_drew1 | refine below_set ?_ GE319.out) | exact HB.out)))); (case aL => have := LMc21.out; omega); intro v328 w22 ho hb hg hat; rw [← Ny327.out] at ho; have n0_ := Aside0.mk (blk_grown (g := gb319) (o := .cells #[.slice A1_0 l1_0.length c1_0, .int .i64 a1_1, .int .i64 a1_2, .slice A1_3 l1_3.length c1_3, .slice A1_4 l1_4.length c1_4, .slice A1_5 l1_5.length c1_5, .slice A1_6 l1_6.length c1_6] 40 (0, 0)) (by (with_reducible repeat (first | refine blk_drewN ?_ _ | refine blk_drew ?_ | refine blk_alloc ?_ _)); exact BK319.out) hg (Kd.R_ne HO_5.out BK319.out (by decide))); have n1_ := Aside0.mk (hb); have n2_ := Aside0.mk (ho); clear BK319; clear HB; clear HO_5; have BK319 := n0_; have HB := n1_; have HO329 := n2_; clear n0_ n1_ n2_; clear ho hb hg hat))
                go_roundg kj12
                case measure => have := HK1.out; have := HJ12.out; omega
                case rel => exact ⟨(y327), (wrap64 (x14_1 + 1)), (by first | rfl | (simp; done) | (simp [*]; done)), H', ⟨by have := HK1.out; have := HJ12.out; omega⟩, ⟨by (with_reducible repeat (first | apply Kd.R_alloc | apply Kd.R_drewN | apply Kd.R_drew)); exact HO329.out⟩, ⟨by (with_reducible repeat (first | refine blk_drewN ?_ _ | refine blk_drew ?_ | refine blk_alloc ?_ _)); exact BK319.out⟩, ⟨by repeat (first | (with_reducible first | exact HB.out | apply below_alloc | apply pw_below_drewN | apply below_drew1 | refine below_set ?_ GE319.out) | exact HB.out)⟩⟩
              · rw [if_neg c21] at H
                exact absurd H (by simp)
            · replace c20 := Bool.eq_false_iff.mpr c20
              subst c20
              have H1 : (metadata_Differences.l0 kj12 l0 x5_1 ji4 (wrap64 (x14_1 + 1)) l1_0 a1_1 a1_2 l1_3 l1_4 l1_5 l1_6) = some r := by rw [if_neg (show ¬ (false = true) by decide)] at H; exact H
              clear H
              have H := H1
              clear H1
              have H' := Aside0.mk H
              clear H
              go_wp2
              go_roundg kj12
              case measure => have := HK1.out; have := HJ12.out; omega
              case rel => exact ⟨(x5_1), (wrap64 (x14_1 + 1)), (by first | rfl | (simp; done) | (simp [*]; done)), H', ⟨by have := HK1.out; have := HJ12.out; omega⟩, ⟨by (with_reducible repeat (first | apply Kd.R_alloc | apply Kd.R_drewN | apply Kd.R_drew)); exact HO_5.out⟩, ⟨by (with_reducible repeat (first | refine blk_drewN ?_ _ | refine blk_drew ?_ | refine blk_alloc ?_ _)); exact BK319.out⟩, ⟨by repeat (first | (with_reducible first | exact HB.out | apply below_alloc | apply pw_below_drewN | apply below_drew1 | refine below_set ?_ GE319.out) | exact HB.out)⟩⟩
      · rw [if_neg c8] at H
        have c8b0 : decide (x14_1 < ji4) = false := decide_eq_false c8
        clear c8
        obtain rfl := Option.some.inj H
        go_wp2
        go_ret
        exact ⟨_, by first | rfl | (simp [errW_none, errW_some] <;> rfl) | (simp only [← hji4]; first | rfl | (simp [errW_none, errW_some] <;> rfl)) | (simp [*, errW_none, errW_some] <;> rfl), by (with_reducible repeat (first | apply Kd.R_alloc | apply Kd.R_drewN | apply Kd.R_drew)); exact HO_5.out, by repeat (first | (with_reducible first | exact HB.out | apply below_alloc | apply pw_below_drewN | apply below_drew1 | refine below_set ?_ GE319.out) | exact HB.out)⟩

end Go.Proofs.Yticmghpnbjhhnaa.M
