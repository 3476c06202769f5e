/- Lean functions with the answers of the Go functions that they are named after, and the walks that tie the Go functions to them (written by the program mp.py of this session). -/
import Derived.Test.YticmghpnbjhhnaaM0
import Derived.Test.YticmghpnbjhhnaaM8
import Derived.Test.YticmghpnbjhhnaaM13
import Derived.Test.YticmghpnbjhhnaaM19
import Derived.Test.YticmghpnbjhhnaaM20
import Derived.Test.YticmghpnbjhhnaaM21
namespace Go.Proofs.Yticmghpnbjhhnaa.M
open Go.RowKit Go.Proofs.YticmghpnbjhhnaaW.PrintWords Go.Proofs.YticmghpnbjhhnaaW.PrintLast Go.Proofs.YticmghpnbjhhnaaW.PrintMore
attribute [local go_sem] max2_int min2_int max_two min_two max_three min_three max_four min_four   -- for this text's walks alone
set_option linter.unusedVariables false
set_option linter.unusedSimpArgs false

/-! ### masterdisclaw40_MetadataReads: function 7 -/
def masterdisclaw40_MetadataReads.j0 : Nat → List ByteArray → Int → Bool → List (S96) → Int → Int → List Int → List (S98) → List (S35) → List (S35) → Option (Bool)
  | 0, _, _, _, _, _, _, _, _, _, _ => none
  | k + 1, x0, x2, x22, x345000, x345001, x345002, x345003, x345004, x345005, x345006 => if x22 = true then (some true) else ((metadata_Read.f k x0 x345000 x345001 x345002 x345003 x345004 x345005 x345006 x2).bind fun bt348 => ((masterdiscref40_Read.f k x0 x345000 x345001 x345002 x345003 x345004 x345005 x345006 x2).bind fun bt351 => (if bt348.1.toList = bt351.1.toList then (if bt348.2.1 = bt351.2.1 then (if bt348.2.2 = bt351.2.2 then ((metadata_Differences.f k x0 x345000 x345001 x345002 x345003 x345004 x345005 x345006).bind fun t354 => ((masterdiscref40_Differences.f k x0 x345000 x345001 x345002 x345003 x345004 x345005 x345006).bind fun t357 => ((slices_Equal_int.f k t354 t357).bind fun t360 => (some t360)))) else (some false)) else (some false)) else (some false))))
def masterdisclaw40_MetadataReads.f (k : Nat) (l0 : List ByteArray) (l1_0 : List (S96)) (a1_1 : Int) (a1_2 : Int) (l1_3 : List Int) (l1_4 : List (S98)) (l1_5 : List (S35)) (l1_6 : List (S35)) (a2 : Int) : Option (Bool) := (masterdisclaw40_awake.f k).bind fun t345 => (if t345 = true then ((masterdiscref40_Few.f k l1_0 a1_1 a1_2 l1_3 l1_4 l1_5 l1_6).bind fun t346 => (if t346 = true then ((masterdiscref38_Image.f k l0 400).bind fun t347 => (masterdisclaw40_MetadataReads.j0 k l0 a2 (!t347) l1_0 a1_1 a1_2 l1_3 l1_4 l1_5 l1_6)) else (masterdisclaw40_MetadataReads.j0 k l0 a2 true l1_0 a1_1 a1_2 l1_3 l1_4 l1_5 l1_6))) else (some false))
theorem masterdisclaw40_MetadataReads.mono_l : ∀ k, (∀ y0 y1 y2 y3 y4 y5 y6 y7 y8 y9, LeO (masterdisclaw40_MetadataReads.j0 k y0 y1 y2 y3 y4 y5 y6 y7 y8 y9) (masterdisclaw40_MetadataReads.j0 (k + 1) y0 y1 y2 y3 y4 y5 y6 y7 y8 y9))
  | 0 => fun _ _ _ _ _ _ _ _ _ _ r h => by simp [masterdisclaw40_MetadataReads.j0] at h
  | k + 1 => by
    have ih0 := masterdisclaw40_MetadataReads.mono_l k
    · intro y0 y1 y2 y3 y4 y5 y6 y7 y8 y9
      unfold masterdisclaw40_MetadataReads.j0
      repeat' first
      | (with_reducible exact ih0 _ _ _ _ _ _ _ _ _ _)
      | (with_reducible exact masterdisclaw40_awake.mono _)
      | (with_reducible exact masterdiscref38_Image.mono _ _ _)
      | (with_reducible exact masterdiscref40_Differences.mono _ _ _ _ _ _ _ _ _)
      | (with_reducible exact masterdiscref40_Few.mono _ _ _ _ _ _ _ _)
      | (with_reducible exact masterdiscref40_Read.mono _ _ _ _ _ _ _ _ _ _)
      | (with_reducible exact metadata_Differences.mono _ _ _ _ _ _ _ _ _)
      | (with_reducible exact metadata_Read.mono _ _ _ _ _ _ _ _ _ _)
      | (with_reducible exact slices_Equal_int.mono _ _ _)
      | (with_reducible exact LeO.refl _)
      | (with_reducible exact LeO.none _)
      | (with_reducible refine LeO.ite ?_ ?_)
      | (with_reducible refine LeO.bind ?_ (fun _ => ?_))
      | exact ih0 _ _ _ _ _ _ _ _ _ _
      | exact masterdisclaw40_awake.mono _
      | exact masterdiscref38_Image.mono _ _ _
      | exact masterdiscref40_Differences.mono _ _ _ _ _ _ _ _ _
      | exact masterdiscref40_Few.mono _ _ _ _ _ _ _ _
      | exact masterdiscref40_Read.mono _ _ _ _ _ _ _ _ _ _
      | exact metadata_Differences.mono _ _ _ _ _ _ _ _ _
      | exact metadata_Read.mono _ _ _ _ _ _ _ _ _ _
      | exact slices_Equal_int.mono _ _ _
      | exact LeO.none _
      | refine LeO.ite ?_ ?_
      | refine LeO.bind ?_ (fun _ => ?_)
theorem masterdisclaw40_MetadataReads.mono : ∀ a0 a1 a2 a3 a4 a5 a6 a7 a8 k, LeO (masterdisclaw40_MetadataReads.f k a0 a1 a2 a3 a4 a5 a6 a7 a8) (masterdisclaw40_MetadataReads.f (k + 1) a0 a1 a2 a3 a4 a5 a6 a7 a8) := by
  intro a0 a1 a2 a3 a4 a5 a6 a7 a8 k
  have ih0 := masterdisclaw40_MetadataReads.mono_l k
  unfold masterdisclaw40_MetadataReads.f
  repeat' first
      | (with_reducible exact ih0 _ _ _ _ _ _ _ _ _ _)
      | (with_reducible exact masterdisclaw40_awake.mono _)
      | (with_reducible exact masterdiscref38_Image.mono _ _ _)
      | (with_reducible exact masterdiscref40_Differences.mono _ _ _ _ _ _ _ _ _)
      | (with_reducible exact masterdiscref40_Few.mono _ _ _ _ _ _ _ _)
      | (with_reducible exact masterdiscref40_Read.mono _ _ _ _ _ _ _ _ _ _)
      | (with_reducible exact metadata_Differences.mono _ _ _ _ _ _ _ _ _)
      | (with_reducible exact metadata_Read.mono _ _ _ _ _ _ _ _ _ _)
      | (with_reducible exact slices_Equal_int.mono _ _ _)
      | (with_reducible exact LeO.refl _)
      | (with_reducible exact LeO.none _)
      | (with_reducible refine LeO.ite ?_ ?_)
      | (with_reducible refine LeO.bind ?_ (fun _ => ?_))
      | exact ih0 _ _ _ _ _ _ _ _ _ _
      | exact masterdisclaw40_awake.mono _
      | exact masterdiscref38_Image.mono _ _ _
      | exact masterdiscref40_Differences.mono _ _ _ _ _ _ _ _ _
      | exact masterdiscref40_Few.mono _ _ _ _ _ _ _ _
      | exact masterdiscref40_Read.mono _ _ _ _ _ _ _ _ _ _
      | exact metadata_Differences.mono _ _ _ _ _ _ _ _ _
      | exact metadata_Read.mono _ _ _ _ _ _ _ _ _ _
      | exact slices_Equal_int.mono _ _ _
      | exact LeO.none _
      | refine LeO.ite ?_ ?_
      | refine LeO.bind ?_ (fun _ => ?_)
def masterdisclaw40_MetadataReads.T7 : Bool × List (List Nat × List Nat) := (true, [([], []), ([], []), ([0, 1], [0, 1]), ([2], [2]), ([3], [3]), ([3], [3]), ([4, 5, 3], [3, 4, 5]), ([3, 6], [3, 6]), ([7, 3], [7]), ([8], [8]), ([8], [8]), ([9, 10, 8], [8, 9, 10]), ([8, 11], [8, 11]), ([12, 8], [12]), ([13], [13]), ([13], [13]), ([14, 15, 13, 13], [13, 14, 15]), ([13], [13]), ([13], [13]), ([17, 18, 16, 13], [13, 17, 18]), ([16, 19, 19, 13], [13, 16, 19]), ([13, 20], [13, 20]), ([21, 20, 0, 1, 2, 3, 4, 5, 6, 7, 8, 9, 10, 11, 12, 13, 14, 15, 16, 17, 18, 19, 20, 21], [21])])
def masterdisclaw40_MetadataReads.B7 : List Nat := [0, 0, 3, 7, 15, 15, 63, 127, 255, 511, 511, 2047, 4095, 8191, 16383, 16383, 65535, 16383, 16383, 524287, 1048575, 2097151, 4194303]
theorem masterdisclaw40_MetadataReads.tab7 : rtab .any (opsOf Try.f7 7) = masterdisclaw40_MetadataReads.T7 := by kernel_rfl
theorem masterdisclaw40_MetadataReads.bits7 : waitsOk masterdisclaw40_MetadataReads.T7.2 masterdisclaw40_MetadataReads.B7 = true := by kernel_rfl
set_option maxHeartbeats 8000000 in
set_option maxRecDepth 100000 in
theorem masterdisclaw40_MetadataReads.calls (k : Nat) (A0 : Option Addr) (c0 : Nat) (l0 : List ByteArray) (A1_0 : Option Addr) (c1_0 : Nat) (l1_0 : List (S96)) (a1_1 : Int) (a1_2 : Int) (A1_3 : Option Addr) (c1_3 : Nat) (l1_3 : List Int) (A1_4 : Option Addr) (c1_4 : Nat) (l1_4 : List (S98)) (A1_5 : Option Addr) (c1_5 : Nat) (l1_5 : List (S35)) (A1_6 : Option Addr) (c1_6 : Nat) (l1_6 : List (S35)) (a2 : Int) (r : Bool) (w : World) (hr0 : Kd.C Kd.string w A0 l0.length l0) (hc0 : l0.length ≤ c0) (hr1_0 : Kd.C k96 w A1_0 l1_0.length l1_0) (hc1_0 : l1_0.length ≤ c1_0) (hr1_3 : Kd.C (Kd.int .i64) w A1_3 l1_3.length l1_3) (hc1_3 : l1_3.length ≤ c1_3) (hr1_4 : Kd.C k98 w A1_4 l1_4.length l1_4) (hc1_4 : l1_4.length ≤ c1_4) (hr1_5 : Kd.C k35 w A1_5 l1_5.length l1_5) (hc1_5 : l1_5.length ≤ c1_5) (hr1_6 : Kd.C k35 w A1_6 l1_6.length l1_6) (hc1_6 : l1_6.length ≤ c1_6) (htr : Aside0 (r = true)) (h : masterdisclaw40_MetadataReads.f k l0 l1_0 a1_1 a1_2 l1_3 l1_4 l1_5 l1_6 a2 = some r) :
    Calls Try.prog 7 #[.slice A0 l0.length c0, .agg #[.slice A1_0 l1_0.length c1_0, .int .i64 a1_1, .int .i64 a1_2, .slice A1_3 l1_3.length c1_3, .slice A1_4 l1_4.length c1_4, .slice A1_5 l1_5.length c1_5, .slice A1_6 l1_6.length c1_6], .int .i64 a2] w fun e w' => e = .returned (.bool r) ∧ Below w.heap.size w w' := by
  have hu40 := Try.underlying40
  have HR0 := Aside0.mk hr0
  have HC0 := Aside0.mk hc0
  clear hr0 hc0
  have HR1_0 := Aside0.mk hr1_0
  have HC1_0 := Aside0.mk hc1_0
  clear hr1_0 hc1_0
  have HR1_3 := Aside0.mk hr1_3
  have HC1_3 := Aside0.mk hc1_3
  clear hr1_3 hc1_3
  have HR1_4 := Aside0.mk hr1_4
  have HC1_4 := Aside0.mk hc1_4
  clear hr1_4 hc1_4
  have HR1_5 := Aside0.mk hr1_5
  have HC1_5 := Aside0.mk hc1_5
  clear hr1_5 hc1_5
  have HR1_6 := Aside0.mk hr1_6
  have HC1_6 := Aside0.mk hc1_6
  clear hr1_6 hc1_6
  have HB := Aside0.mk (Below.refl w.heap.size w)
  have H : ((masterdisclaw40_awake.f k).bind fun t345 => (if t345 = true then ((masterdiscref40_Few.f k l1_0 a1_1 a1_2 l1_3 l1_4 l1_5 l1_6).bind fun t346 => (if t346 = true then ((masterdiscref38_Image.f k l0 400).bind fun t347 => (masterdisclaw40_MetadataReads.j0 k l0 a2 (!t347) l1_0 a1_1 a1_2 l1_3 l1_4 l1_5 l1_6)) else (masterdisclaw40_MetadataReads.j0 k l0 a2 true l1_0 a1_1 a1_2 l1_3 l1_4 l1_5 l1_6))) else (some false))) = some r := h
  clear h
  replace H := Option.bind_eq_some_iff.mp H
  obtain ⟨t345, A40, H⟩ := H
  replace H : (if t345 = true then ((masterdiscref40_Few.f k l1_0 a1_1 a1_2 l1_3 l1_4 l1_5 l1_6).bind fun t346 => (if t346 = true then ((masterdiscref38_Image.f k l0 400).bind fun t347 => (masterdisclaw40_MetadataReads.j0 k l0 a2 (!t347) l1_0 a1_1 a1_2 l1_3 l1_4 l1_5 l1_6)) else (masterdisclaw40_MetadataReads.j0 k l0 a2 true l1_0 a1_1 a1_2 l1_3 l1_4 l1_5 l1_6))) else (some false)) = some r := H
  have A4 := Aside0.mk A40
  clear A40
  by_cases c5 : t345 = true
  · subst c5
    have H1 : ((masterdiscref40_Few.f k l1_0 a1_1 a1_2 l1_3 l1_4 l1_5 l1_6).bind fun t346 => (if t346 = true then ((masterdiscref38_Image.f k l0 400).bind fun t347 => (masterdisclaw40_MetadataReads.j0 k l0 a2 (!t347) l1_0 a1_1 a1_2 l1_3 l1_4 l1_5 l1_6)) else (masterdisclaw40_MetadataReads.j0 k l0 a2 true l1_0 a1_1 a1_2 l1_3 l1_4 l1_5 l1_6))) = some r := by rw [if_pos rfl] at H; exact H
    clear H
    have H := H1
    clear H1
    have HC6 := Aside0.mk H
    clear H
    go_enter Try.func7, Try.ntmps7
    go_upto_region 3 with (first | ((with_reducible refine gate_dst (N := 4) rfl ?_); refine box_event ?hg (N := 4) ?hd (cs := #[.slice A1_0 l1_0.length c1_0, .int .i64 a1_1, .int .i64 a1_2, .slice A1_3 l1_3.length c1_3, .slice A1_4 l1_4.length c1_4, .slice A1_5 l1_5.length c1_5, .slice A1_6 l1_6.length c1_6]) (t := 40) ?hr ?_; (case hd => rfl); (case hg => rfl); (case hr => first | (go_simp; done) | (go_simp; rfl)); intro gb344 hg w7 hbox hb; have n0_ := Aside0.mk (below_step (by repeat (first | (with_reducible first | exact HB.out | apply below_alloc | apply pw_below_drewN | apply below_drew1) | exact HB.out)) hb); have n1_ := Aside0.mk (hbox); have n2_ := Aside0.mk ((by rw [hg]; exact (below_size (by repeat (first | (with_reducible first | exact HB.out | apply below_alloc | apply pw_below_drewN | apply below_drew1) | exact HB.out))) : w.heap.size ≤ gb344)); have n3_ := Aside0.mk ((by rw [hg]; exact (below_size (by repeat (first | (with_reducible first | exact HB.out | apply below_alloc | apply pw_below_drewN | apply below_drew1) | exact HB.out))) : w.heap.size ≤ gb344)); clear HB; have HB := n0_; have BK344 := n1_; have GW344 := n2_; have GE344 := n3_; clear n0_ n1_ n2_ n3_; clear hb hbox hg) | ((with_reducible refine gate_callee (f := 9) rfl ?_); refine goesL_ (some 13) rfl rfl Try.func9 (by kernel_rfl) rfl #[] rfl (by (try simp only [List.map_toArray, List.map_cons, List.map_nil]); first | done | rfl | (simp only [List.length_drop, List.length_take]; rfl)) ?_; (with_reducible refine (masterdisclaw40_awake.calls k  true _ (Aside0.mk rfl) A4.out).mono ?_); rintro e w8 ⟨rfl, hb⟩; refine ⟨_, rfl, ?_⟩; have n0_ := Aside0.mk (blk_below (g := gb344) (o := .cells #[.slice A1_0 l1_0.length c1_0, .int .i64 a1_1, .int .i64 a1_2, .slice A1_3 l1_3.length c1_3, .slice A1_4 l1_4.length c1_4, .slice A1_5 l1_5.length c1_5, .slice A1_6 l1_6.length c1_6] 40 (0, 0)) (by (with_reducible repeat (first | refine blk_drewN ?_ _ | refine blk_drew ?_ | refine blk_alloc ?_ _)); exact BK344.out) hb); have n1_ := Aside0.mk (below_step (by repeat (first | (with_reducible first | exact HB.out | apply below_alloc | apply pw_below_drewN | apply below_drew1 | refine below_set ?_ GE344.out) | exact HB.out)) hb); clear BK344; clear HB; have BK344 := n0_; have HB := n1_; clear n0_ n1_; (try clear hb); (try clear hb2); (try clear hk); (try clear hi)))
    (try simp only [Act.put, List.setIfInBounds_toArray, List.set_cons_zero, List.set_cons_succ])
    go_cut [22] (fun v22 wc => ∃ (kq : Nat) (x22_5 : Bool), v22 = .bool x22_5 ∧ Aside0 (masterdisclaw40_MetadataReads.j0 kq l0 a2 x22_5 l1_0 a1_1 a1_2 l1_3 l1_4 l1_5 l1_6 = some r) ∧ Aside0 (kq ≤ k) ∧ Aside0 (wc.heap[gb344]? = some (.cells #[(.slice A1_0 l1_0.length c1_0), .int .i64 a1_1, .int .i64 a1_2, (.slice A1_3 l1_3.length c1_3), (.slice A1_4 l1_4.length c1_4), (.slice A1_5 l1_5.length c1_5), (.slice A1_6 l1_6.length c1_6)] 40 (0, 0))) ∧ Aside0 (Below w.heap.size w wc))
    case first =>
      have H := HC6.out
      clear HC6
      replace H := Option.bind_eq_some_iff.mp H
      obtain ⟨t346, A90, H⟩ := H
      replace H : (if t346 = true then ((masterdiscref38_Image.f k l0 400).bind fun t347 => (masterdisclaw40_MetadataReads.j0 k l0 a2 (!t347) l1_0 a1_1 a1_2 l1_3 l1_4 l1_5 l1_6)) else (masterdisclaw40_MetadataReads.j0 k l0 a2 true l1_0 a1_1 a1_2 l1_3 l1_4 l1_5 l1_6)) = some r := H
      have A9 := Aside0.mk A90
      clear A90
      by_cases c10 : t346 = true
      · subst c10
        have H1 : ((masterdiscref38_Image.f k l0 400).bind fun t347 => (masterdisclaw40_MetadataReads.j0 k l0 a2 (!t347) l1_0 a1_1 a1_2 l1_3 l1_4 l1_5 l1_6)) = some r := by rw [if_pos rfl] at H; exact H
        clear H
        have H := H1
        clear H1
        replace H := Option.bind_eq_some_iff.mp H
        obtain ⟨t347, A110, H⟩ := H
        replace H : (masterdisclaw40_MetadataReads.j0 k l0 a2 (!t347) l1_0 a1_1 a1_2 l1_3 l1_4 l1_5 l1_6) = some r := H
        have A11 := Aside0.mk A110
        clear A110
        have H' := Aside0.mk H
        clear H
        have hcz12_0 : w8.cell? ⟨gb344, 0, none⟩ = some (.slice A1_0 l1_0.length c1_0) := (blk_cell BK344.out 0).trans rfl
        have hcz12_1 : w8.cell? ⟨gb344, 1, none⟩ = some (.int .i64 a1_1) := (blk_cell BK344.out 1).trans rfl
        have hcz12_2 : w8.cell? ⟨gb344, 2, none⟩ = some (.int .i64 a1_2) := (blk_cell BK344.out 2).trans rfl
        have hcz12_3 : w8.cell? ⟨gb344, 3, none⟩ = some (.slice A1_3 l1_3.length c1_3) := (blk_cell BK344.out 3).trans rfl
        have hcz12_4 : w8.cell? ⟨gb344, 4, none⟩ = some (.slice A1_4 l1_4.length c1_4) := (blk_cell BK344.out 4).trans rfl
        have hcz12_5 : w8.cell? ⟨gb344, 5, none⟩ = some (.slice A1_5 l1_5.length c1_5) := (blk_cell BK344.out 5).trans rfl
        have hcz12_6 : w8.cell? ⟨gb344, 6, none⟩ = some (.slice A1_6 l1_6.length c1_6) := (blk_cell BK344.out 6).trans rfl
        have hfz12_0 := blk_frozen BK344.out 0
        have hfz12_1 := blk_frozen BK344.out 1
        have hfz12_2 := blk_frozen BK344.out 2
        have hfz12_3 := blk_frozen BK344.out 3
        have hfz12_4 := blk_frozen BK344.out 4
        have hfz12_5 := blk_frozen BK344.out 5
        have hfz12_6 := blk_frozen BK344.out 6
        go_wp2_with (first | ((with_reducible refine gate_callee (f := 15) rfl ?_); refine goesL_ (some 16) rfl rfl Try.func15 (by kernel_rfl) rfl #[.agg #[.slice A1_0 l1_0.length c1_0, .int .i64 a1_1, .int .i64 a1_2, .slice A1_3 l1_3.length c1_3, .slice A1_4 l1_4.length c1_4, .slice A1_5 l1_5.length c1_5, .slice A1_6 l1_6.length c1_6]] rfl (by (try simp only [List.map_toArray, List.map_cons, List.map_nil]); first | done | rfl | (simp only [List.length_drop, List.length_take]; rfl)) ?_; (with_reducible refine (masterdiscref40_Few.calls k _ _ l1_0 a1_1 a1_2 _ _ l1_3 _ _ l1_4 _ _ l1_5 _ _ l1_6 true _ ?side1 ?side2 ?side3 ?side4 ?side5 ?side6 ?side7 ?side8 ?side9 ?side10 A9.out).mono ?_); (case side1 => repeat (first | exact (Kd.C_below HR1_0.out HB.out) | (with_reducible refine Kd.C_alloc ?_ _) | (with_reducible refine Kd.C_drewN ?_ _) | (with_reducible refine Kd.C_drew ?_))); (case side2 => exact HC1_0.out); (case side3 => repeat (first | exact (Kd.C_below HR1_3.out HB.out) | (with_reducible refine Kd.C_alloc ?_ _) | (with_reducible refine Kd.C_drewN ?_ _) | (with_reducible refine Kd.C_drew ?_))); (case side4 => exact HC1_3.out); (case side5 => repeat (first | exact (Kd.C_below HR1_4.out HB.out) | (with_reducible refine Kd.C_alloc ?_ _) | (with_reducible refine Kd.C_drewN ?_ _) | (with_reducible refine Kd.C_drew ?_))); (case side6 => exact HC1_4.out); (case side7 => repeat (first | exact (Kd.C_below HR1_5.out HB.out) | (with_reducible refine Kd.C_alloc ?_ _) | (with_reducible refine Kd.C_drewN ?_ _) | (with_reducible refine Kd.C_drew ?_))); (case side8 => exact HC1_5.out); (case side9 => repeat (first | exact (Kd.C_below HR1_6.out HB.out) | (with_reducible refine Kd.C_alloc ?_ _) | (with_reducible refine Kd.C_drewN ?_ _) | (with_reducible refine Kd.C_drew ?_))); (case side10 => exact HC1_6.out); rintro e w13 ⟨rfl, hb⟩; refine ⟨_, rfl, ?_⟩; have n0_ := Aside0.mk (blk_below (g := gb344) (o := .cells #[.slice A1_0 l1_0.length c1_0, .int .i64 a1_1, .int .i64 a1_2, .slice A1_3 l1_3.length c1_3, .slice A1_4 l1_4.length c1_4, .slice A1_5 l1_5.length c1_5, .slice A1_6 l1_6.length c1_6] 40 (0, 0)) (by (with_reducible repeat (first | refine blk_drewN ?_ _ | refine blk_drew ?_ | refine blk_alloc ?_ _)); exact BK344.out) hb); have n1_ := Aside0.mk (below_step (by repeat (first | (with_reducible first | exact HB.out | apply below_alloc | apply pw_below_drewN | apply below_drew1 | refine below_set ?_ GE344.out) | exact HB.out)) hb); clear BK344; clear HB; have BK344 := n0_; have HB := n1_; clear n0_ n1_; (try clear hb); (try clear hb2); (try clear hk); (try clear hi)) | (go_at_call 23; (with_reducible refine (masterdiscref38_Image.calls k _ _ l0 400 t347 _ ?side1 ?side2 A11.out).mono ?_); (case side1 => repeat (first | exact (Kd.C_below HR0.out HB.out) | (with_reducible refine Kd.C_alloc ?_ _) | (with_reducible refine Kd.C_drewN ?_ _) | (with_reducible refine Kd.C_drew ?_))); (case side2 => exact HC0.out); rintro e w' ⟨rfl, ⟨nd, rfl⟩⟩))
        go_meet
        case rel => exact ⟨_, (!t347), (by first | rfl | (simp; done) | (simp [*]; done)), H', ⟨by first | omega | exact Nat.le_refl _⟩, ⟨by (with_reducible repeat (first | refine blk_drewN ?_ _ | refine blk_drew ?_ | refine blk_alloc ?_ _)); exact BK344.out⟩, ⟨by repeat (first | (with_reducible first | exact HB.out | apply below_alloc | apply pw_below_drewN | apply below_drew1 | refine below_set ?_ GE344.out) | exact HB.out)⟩⟩
      · replace c10 := Bool.eq_false_iff.mpr c10
        subst c10
        have H1 : (masterdisclaw40_MetadataReads.j0 k l0 a2 true l1_0 a1_1 a1_2 l1_3 l1_4 l1_5 l1_6) = some r := by rw [if_neg (show ¬ (false = true) by decide)] at H; exact H
        clear H
        have H := H1
        clear H1
        have H' := Aside0.mk H
        clear H
        have hcz14_0 : w8.cell? ⟨gb344, 0, none⟩ = some (.slice A1_0 l1_0.length c1_0) := (blk_cell BK344.out 0).trans rfl
        have hcz14_1 : w8.cell? ⟨gb344, 1, none⟩ = some (.int .i64 a1_1) := (blk_cell BK344.out 1).trans rfl
        have hcz14_2 : w8.cell? ⟨gb344, 2, none⟩ = some (.int .i64 a1_2) := (blk_cell BK344.out 2).trans rfl
        have hcz14_3 : w8.cell? ⟨gb344, 3, none⟩ = some (.slice A1_3 l1_3.length c1_3) := (blk_cell BK344.out 3).trans rfl
        have hcz14_4 : w8.cell? ⟨gb344, 4, none⟩ = some (.slice A1_4 l1_4.length c1_4) := (blk_cell BK344.out 4).trans rfl
        have hcz14_5 : w8.cell? ⟨gb344, 5, none⟩ = some (.slice A1_5 l1_5.length c1_5) := (blk_cell BK344.out 5).trans rfl
        have hcz14_6 : w8.cell? ⟨gb344, 6, none⟩ = some (.slice A1_6 l1_6.length c1_6) := (blk_cell BK344.out 6).trans rfl
        have hfz14_0 := blk_frozen BK344.out 0
        have hfz14_1 := blk_frozen BK344.out 1
        have hfz14_2 := blk_frozen BK344.out 2
        have hfz14_3 := blk_frozen BK344.out 3
        have hfz14_4 := blk_frozen BK344.out 4
        have hfz14_5 := blk_frozen BK344.out 5
        have hfz14_6 := blk_frozen BK344.out 6
        go_wp2_with (first | ((with_reducible refine gate_callee (f := 15) rfl ?_); refine goesL_ (some 16) rfl rfl Try.func15 (by kernel_rfl) rfl #[.agg #[.slice A1_0 l1_0.length c1_0, .int .i64 a1_1, .int .i64 a1_2, .slice A1_3 l1_3.length c1_3, .slice A1_4 l1_4.length c1_4, .slice A1_5 l1_5.length c1_5, .slice A1_6 l1_6.length c1_6]] rfl (by (try simp only [List.map_toArray, List.map_cons, List.map_nil]); first | done | rfl | (simp only [List.length_drop, List.length_take]; rfl)) ?_; (with_reducible refine (masterdiscref40_Few.calls k _ _ l1_0 a1_1 a1_2 _ _ l1_3 _ _ l1_4 _ _ l1_5 _ _ l1_6 false _ ?side1 ?side2 ?side3 ?side4 ?side5 ?side6 ?side7 ?side8 ?side9 ?side10 A9.out).mono ?_); (case side1 => repeat (first | exact (Kd.C_below HR1_0.out HB.out) | (with_reducible refine Kd.C_alloc ?_ _) | (with_reducible refine Kd.C_drewN ?_ _) | (with_reducible refine Kd.C_drew ?_))); (case side2 => exact HC1_0.out); (case side3 => repeat (first | exact (Kd.C_below HR1_3.out HB.out) | (with_reducible refine Kd.C_alloc ?_ _) | (with_reducible refine Kd.C_drewN ?_ _) | (with_reducible refine Kd.C_drew ?_))); (case side4 => exact HC1_3.out); (case side5 => repeat (first | exact (Kd.C_below HR1_4.out HB.out) | (with_reducible refine Kd.C_alloc ?_ _) | (with_reducible refine Kd.C_drewN ?_ _) | (with_reducible refine Kd.C_drew ?_))); (case side6 => exact HC1_4.out); (case side7 => repeat (first | exact (Kd.C_below HR1_5.out HB.out) | (with_reducible refine Kd.C_alloc ?_ _) | (with_reducible refine Kd.C_drewN ?_ _) | (with_reducible refine Kd.C_drew ?_))); (case side8 => exact HC1_5.out); (case side9 => repeat (first | exact (Kd.C_below HR1_6.out HB.out) | (with_reducible refine Kd.C_alloc ?_ _) | (with_reducible refine Kd.C_drewN ?_ _) | (with_reducible refine Kd.C_drew ?_))); (case side10 => exact HC1_6.out); rintro e w15 ⟨rfl, hb⟩; refine ⟨_, rfl, ?_⟩; have n0_ := Aside0.mk (blk_below (g := gb344) (o := .cells #[.slice A1_0 l1_0.length c1_0, .int .i64 a1_1, .int .i64 a1_2, .slice A1_3 l1_3.length c1_3, .slice A1_4 l1_4.length c1_4, .slice A1_5 l1_5.length c1_5, .slice A1_6 l1_6.length c1_6] 40 (0, 0)) (by (with_reducible repeat (first | refine blk_drewN ?_ _ | refine blk_drew ?_ | refine blk_alloc ?_ _)); exact BK344.out) hb); have n1_ := Aside0.mk (below_step (by repeat (first | (with_reducible first | exact HB.out | apply below_alloc | apply pw_below_drewN | apply below_drew1 | refine below_set ?_ GE344.out) | exact HB.out)) hb); clear BK344; clear HB; have BK344 := n0_; have HB := n1_; clear n0_ n1_; (try clear hb); (try clear hb2); (try clear hk); (try clear hi)))
        go_meet
        case rel => exact ⟨_, (true), (by first | rfl | (simp; done) | (simp [*]; done)), H', ⟨by first | omega | exact Nat.le_refl _⟩, ⟨by (with_reducible repeat (first | refine blk_drewN ?_ _ | refine blk_drew ?_ | refine blk_alloc ?_ _)); exact BK344.out⟩, ⟨by repeat (first | (with_reducible first | exact HB.out | apply below_alloc | apply pw_below_drewN | apply below_drew1 | refine below_set ?_ GE344.out) | exact HB.out)⟩⟩
    case rest =>
      clear HC6
      try clear c1
      try clear p2
      try clear c5
      try clear c7
      try clear c9
      try clear c10
      try clear c15
      try clear hcz12_0
      try clear hcz12_1
      try clear hcz12_2
      try clear hcz12_3
      try clear hcz12_4
      try clear hcz12_5
      try clear hcz12_6
      try clear hcz14_0
      try clear hcz14_1
      try clear hcz14_2
      try clear hcz14_3
      try clear hcz14_4
      try clear hcz14_5
      try clear hcz14_6
      try clear hfz12_0
      try clear hfz12_1
      try clear hfz12_2
      try clear hfz12_3
      try clear hfz12_4
      try clear hfz12_5
      try clear hfz12_6
      try clear hfz14_0
      try clear hfz14_1
      try clear hfz14_2
      try clear hfz14_3
      try clear hfz14_4
      try clear hfz14_5
      try clear hfz14_6
      obtain ⟨kq, x22_5, rfl, HA, HJ5, BK344, HB⟩ := hcut
      cases kq with
      | zero => exact absurd HA.out (by simp [masterdisclaw40_MetadataReads.j0])
      | succ kj5 =>
        have H := HA.out
        clear HA
        simp only [masterdisclaw40_MetadataReads.j0] at H
        by_cases c16 : x22_5 = true
        · subst c16
          have H1 : (some true) = some r := by rw [if_pos rfl] at H; exact H
          clear H
          have H := H1
          clear H1
          obtain rfl := Option.some.inj H
          go_wp2
          go_ret
          exact ⟨by first | rfl | (simp [errW_none, errW_some] <;> rfl) | (simp [*, errW_none, errW_some] <;> rfl), by repeat (first | (with_reducible first | exact HB.out | apply below_alloc | apply pw_below_drewN | apply below_drew1 | refine below_set ?_ GE344.out) | exact HB.out)⟩
        · replace c16 := Bool.eq_false_iff.mpr c16
          subst c16
          have H1 : ((metadata_Read.f kj5 l0 l1_0 a1_1 a1_2 l1_3 l1_4 l1_5 l1_6 a2).bind fun bt348 => ((masterdiscref40_Read.f kj5 l0 l1_0 a1_1 a1_2 l1_3 l1_4 l1_5 l1_6 a2).bind fun bt351 => (if bt348.1.toList = bt351.1.toList then (if bt348.2.1 = bt351.2.1 then (if bt348.2.2 = bt351.2.2 then ((metadata_Differences.f kj5 l0 l1_0 a1_1 a1_2 l1_3 l1_4 l1_5 l1_6).bind fun t354 => ((masterdiscref40_Differences.f kj5 l0 l1_0 a1_1 a1_2 l1_3 l1_4 l1_5 l1_6).bind fun t357 => ((slices_Equal_int.f kj5 t354 t357).bind fun t360 => (some t360)))) else (some false)) else (some false)) else (some false)))) = some r := by rw [if_neg (show ¬ (false = true) by decide)] at H; exact H
          clear H
          have H := H1
          clear H1
          replace H := Option.bind_eq_some_iff.mp H
          obtain ⟨⟨t348, t349, t350⟩, A170, H⟩ := H
          replace H : ((masterdiscref40_Read.f kj5 l0 l1_0 a1_1 a1_2 l1_3 l1_4 l1_5 l1_6 a2).bind fun bt351 => (if t348.toList = bt351.1.toList then (if t349 = bt351.2.1 then (if t350 = bt351.2.2 then ((metadata_Differences.f kj5 l0 l1_0 a1_1 a1_2 l1_3 l1_4 l1_5 l1_6).bind fun t354 => ((masterdiscref40_Differences.f kj5 l0 l1_0 a1_1 a1_2 l1_3 l1_4 l1_5 l1_6).bind fun t357 => ((slices_Equal_int.f kj5 t354 t357).bind fun t360 => (some t360)))) else (some false)) else (some false)) else (some false))) = some r := H
          have A17 := Aside0.mk A170
          clear A170
          replace H := Option.bind_eq_some_iff.mp H
          obtain ⟨⟨t351, t352, t353⟩, A180, H⟩ := H
          replace H : (if t348.toList = t351.toList then (if t349 = t352 then (if t350 = t353 then ((metadata_Differences.f kj5 l0 l1_0 a1_1 a1_2 l1_3 l1_4 l1_5 l1_6).bind fun t354 => ((masterdiscref40_Differences.f kj5 l0 l1_0 a1_1 a1_2 l1_3 l1_4 l1_5 l1_6).bind fun t357 => ((slices_Equal_int.f kj5 t354 t357).bind fun t360 => (some t360)))) else (some false)) else (some false)) else (some false)) = some r := H
          have A18 := Aside0.mk A180
          clear A180
          by_cases c19 : t348.toList = t351.toList
          · rw [if_pos c19] at H
            have c19b0 : (t348.toList == t351.toList) = true := beq_iff_eq.mpr c19
            have c19b1 : (t348.toList != t351.toList) = false := bne_eq_false_iff_eq.mpr c19
            clear c19
            by_cases c20 : t349 = t352
            · rw [if_pos c20] at H
              have c20b0 : (t349 == t352) = true := beq_iff_eq.mpr c20
              have c20b1 : (t349 != t352) = false := bne_eq_false_iff_eq.mpr c20
              clear c20
              by_cases c21 : t350 = t353
              · rw [if_pos c21] at H
                have c21b0 : (t350 == t353) = true := beq_iff_eq.mpr c21
                have c21b1 : (t350 != t353) = false := bne_eq_false_iff_eq.mpr c21
                clear c21
                replace H := Option.bind_eq_some_iff.mp H
                obtain ⟨t354, A220, H⟩ := H
                replace H : ((masterdiscref40_Differences.f kj5 l0 l1_0 a1_1 a1_2 l1_3 l1_4 l1_5 l1_6).bind fun t357 => ((slices_Equal_int.f kj5 t354 t357).bind fun t360 => (some t360))) = some r := H
                have A22 := Aside0.mk A220
                clear A220
                replace H := Option.bind_eq_some_iff.mp H
                obtain ⟨t357, A230, H⟩ := H
                replace H : ((slices_Equal_int.f kj5 t354 t357).bind fun t360 => (some t360)) = some r := H
                have A23 := Aside0.mk A230
                clear A230
                replace H := Option.bind_eq_some_iff.mp H
                obtain ⟨t360, A240, H⟩ := H
                replace H : (some t360) = some r := H
                have A24 := Aside0.mk A240
                clear A240
                obtain rfl := Option.some.inj H
                have hcz25_0 : wc.cell? ⟨gb344, 0, none⟩ = some (.slice A1_0 l1_0.length c1_0) := (blk_cell BK344.out 0).trans rfl
                have hcz25_1 : wc.cell? ⟨gb344, 1, none⟩ = some (.int .i64 a1_1) := (blk_cell BK344.out 1).trans rfl
                have hcz25_2 : wc.cell? ⟨gb344, 2, none⟩ = some (.int .i64 a1_2) := (blk_cell BK344.out 2).trans rfl
                have hcz25_3 : wc.cell? ⟨gb344, 3, none⟩ = some (.slice A1_3 l1_3.length c1_3) := (blk_cell BK344.out 3).trans rfl
                have hcz25_4 : wc.cell? ⟨gb344, 4, none⟩ = some (.slice A1_4 l1_4.length c1_4) := (blk_cell BK344.out 4).trans rfl
                have hcz25_5 : wc.cell? ⟨gb344, 5, none⟩ = some (.slice A1_5 l1_5.length c1_5) := (blk_cell BK344.out 5).trans rfl
                have hcz25_6 : wc.cell? ⟨gb344, 6, none⟩ = some (.slice A1_6 l1_6.length c1_6) := (blk_cell BK344.out 6).trans rfl
                have hfz25_0 := blk_frozen BK344.out 0
                have hfz25_1 := blk_frozen BK344.out 1
                have hfz25_2 := blk_frozen BK344.out 2
                have hfz25_3 := blk_frozen BK344.out 3
                have hfz25_4 := blk_frozen BK344.out 4
                have hfz25_5 := blk_frozen BK344.out 5
                have hfz25_6 := blk_frozen BK344.out 6
                try go_wp2_with (first | ((with_reducible refine gate_callee (f := 24) rfl ?_); refine goesL_ (some 27) rfl rfl Try.func24 (by kernel_rfl) rfl #[.slice A0 l0.length c0, .agg #[.slice A1_0 l1_0.length c1_0, .int .i64 a1_1, .int .i64 a1_2, .slice A1_3 l1_3.length c1_3, .slice A1_4 l1_4.length c1_4, .slice A1_5 l1_5.length c1_5, .slice A1_6 l1_6.length c1_6], .int .i64 a2] rfl (by (try simp only [List.map_toArray, List.map_cons, List.map_nil]); first | done | rfl | (simp only [List.length_drop, List.length_take]; rfl)) ?_; (with_reducible refine (metadata_Read.calls kj5 _ _ l0 _ _ l1_0 a1_1 a1_2 _ _ l1_3 _ _ l1_4 _ _ l1_5 _ _ l1_6 a2 t348 t349 t350 _ ?side1 ?side2 ?side3 ?side4 ?side5 ?side6 ?side7 ?side8 ?side9 ?side10 ?side11 ?side12 A17.out).mono ?_); (case side1 => repeat (first | exact (Kd.C_below HR0.out HB.out) | (with_reducible refine Kd.C_alloc ?_ _) | (with_reducible refine Kd.C_drewN ?_ _) | (with_reducible refine Kd.C_drew ?_))); (case side2 => exact HC0.out); (case side3 => repeat (first | exact (Kd.C_below HR1_0.out HB.out) | (with_reducible refine Kd.C_alloc ?_ _) | (with_reducible refine Kd.C_drewN ?_ _) | (with_reducible refine Kd.C_drew ?_))); (case side4 => exact HC1_0.out); (case side5 => repeat (first | exact (Kd.C_below HR1_3.out HB.out) | (with_reducible refine Kd.C_alloc ?_ _) | (with_reducible refine Kd.C_drewN ?_ _) | (with_reducible refine Kd.C_drew ?_))); (case side6 => exact HC1_3.out); (case side7 => repeat (first | exact (Kd.C_below HR1_4.out HB.out) | (with_reducible refine Kd.C_alloc ?_ _) | (with_reducible refine Kd.C_drewN ?_ _) | (with_reducible refine Kd.C_drew ?_))); (case side8 => exact HC1_4.out); (case side9 => repeat (first | exact (Kd.C_below HR1_5.out HB.out) | (with_reducible refine Kd.C_alloc ?_ _) | (with_reducible refine Kd.C_drewN ?_ _) | (with_reducible refine Kd.C_drew ?_))); (case side10 => exact HC1_5.out); (case side11 => repeat (first | exact (Kd.C_below HR1_6.out HB.out) | (with_reducible refine Kd.C_alloc ?_ _) | (with_reducible refine Kd.C_drewN ?_ _) | (with_reducible refine Kd.C_drew ?_))); (case side12 => exact HC1_6.out); rintro e w26 ⟨rfl, hb⟩; refine ⟨_, rfl, ?_⟩; have n0_ := Aside0.mk (blk_below (g := gb344) (o := .cells #[.slice A1_0 l1_0.length c1_0, .int .i64 a1_1, .int .i64 a1_2, .slice A1_3 l1_3.length c1_3, .slice A1_4 l1_4.length c1_4, .slice A1_5 l1_5.length c1_5, .slice A1_6 l1_6.length c1_6] 40 (0, 0)) (by (with_reducible repeat (first | refine blk_drewN ?_ _ | refine blk_drew ?_ | refine blk_alloc ?_ _)); exact BK344.out) hb); have n1_ := Aside0.mk (below_step (by repeat (first | (with_reducible first | exact HB.out | apply below_alloc | apply pw_below_drewN | apply below_drew1 | refine below_set ?_ GE344.out) | exact HB.out)) hb); clear BK344; clear HB; have BK344 := n0_; have HB := n1_; clear n0_ n1_; (try clear hb); (try clear hb2); (try clear hk); (try clear hi); have hcz27_0 : w26.cell? ⟨gb344, 0, none⟩ = some (.slice A1_0 l1_0.length c1_0) := (blk_cell BK344.out 0).trans rfl; have hcz27_1 : w26.cell? ⟨gb344, 1, none⟩ = some (.int .i64 a1_1) := (blk_cell BK344.out 1).trans rfl; have hcz27_2 : w26.cell? ⟨gb344, 2, none⟩ = some (.int .i64 a1_2) := (blk_cell BK344.out 2).trans rfl; have hcz27_3 : w26.cell? ⟨gb344, 3, none⟩ = some (.slice A1_3 l1_3.length c1_3) := (blk_cell BK344.out 3).trans rfl; have hcz27_4 : w26.cell? ⟨gb344, 4, none⟩ = some (.slice A1_4 l1_4.length c1_4) := (blk_cell BK344.out 4).trans rfl; have hcz27_5 : w26.cell? ⟨gb344, 5, none⟩ = some (.slice A1_5 l1_5.length c1_5) := (blk_cell BK344.out 5).trans rfl; have hcz27_6 : w26.cell? ⟨gb344, 6, none⟩ = some (.slice A1_6 l1_6.length c1_6) := (blk_cell BK344.out 6).trans rfl; have hfz27_0 := blk_frozen BK344.out 0; have hfz27_1 := blk_frozen BK344.out 1; have hfz27_2 := blk_frozen BK344.out 2; have hfz27_3 := blk_frozen BK344.out 3; have hfz27_4 := blk_frozen BK344.out 4; have hfz27_5 := blk_frozen BK344.out 5; have hfz27_6 := blk_frozen BK344.out 6) | ((with_reducible refine gate_callee (f := 25) rfl ?_); refine goesL_ (some 35) rfl rfl Try.func25 (by kernel_rfl) rfl #[.slice A0 l0.length c0, .agg #[.slice A1_0 l1_0.length c1_0, .int .i64 a1_1, .int .i64 a1_2, .slice A1_3 l1_3.length c1_3, .slice A1_4 l1_4.length c1_4, .slice A1_5 l1_5.length c1_5, .slice A1_6 l1_6.length c1_6], .int .i64 a2] rfl (by (try simp only [List.map_toArray, List.map_cons, List.map_nil]); first | done | rfl | (simp only [List.length_drop, List.length_take]; rfl)) ?_; (with_reducible refine (masterdiscref40_Read.calls kj5 _ _ l0 _ _ l1_0 a1_1 a1_2 _ _ l1_3 _ _ l1_4 _ _ l1_5 _ _ l1_6 a2 t351 t352 t353 _ ?side1 ?side2 ?side3 ?side4 ?side5 ?side6 ?side7 ?side8 ?side9 ?side10 ?side11 ?side12 A18.out).mono ?_); (case side1 => repeat (first | exact (Kd.C_below HR0.out HB.out) | (with_reducible refine Kd.C_alloc ?_ _) | (with_reducible refine Kd.C_drewN ?_ _) | (with_reducible refine Kd.C_drew ?_))); (case side2 => exact HC0.out); (case side3 => repeat (first | exact (Kd.C_below HR1_0.out HB.out) | (with_reducible refine Kd.C_alloc ?_ _) | (with_reducible refine Kd.C_drewN ?_ _) | (with_reducible refine Kd.C_drew ?_))); (case side4 => exact HC1_0.out); (case side5 => repeat (first | exact (Kd.C_below HR1_3.out HB.out) | (with_reducible refine Kd.C_alloc ?_ _) | (with_reducible refine Kd.C_drewN ?_ _) | (with_reducible refine Kd.C_drew ?_))); (case side6 => exact HC1_3.out); (case side7 => repeat (first | exact (Kd.C_below HR1_4.out HB.out) | (with_reducible refine Kd.C_alloc ?_ _) | (with_reducible refine Kd.C_drewN ?_ _) | (with_reducible refine Kd.C_drew ?_))); (case side8 => exact HC1_4.out); (case side9 => repeat (first | exact (Kd.C_below HR1_5.out HB.out) | (with_reducible refine Kd.C_alloc ?_ _) | (with_reducible refine Kd.C_drewN ?_ _) | (with_reducible refine Kd.C_drew ?_))); (case side10 => exact HC1_5.out); (case side11 => repeat (first | exact (Kd.C_below HR1_6.out HB.out) | (with_reducible refine Kd.C_alloc ?_ _) | (with_reducible refine Kd.C_drewN ?_ _) | (with_reducible refine Kd.C_drew ?_))); (case side12 => exact HC1_6.out); rintro e w28 ⟨rfl, hb⟩; refine ⟨_, rfl, ?_⟩; have n0_ := Aside0.mk (blk_below (g := gb344) (o := .cells #[.slice A1_0 l1_0.length c1_0, .int .i64 a1_1, .int .i64 a1_2, .slice A1_3 l1_3.length c1_3, .slice A1_4 l1_4.length c1_4, .slice A1_5 l1_5.length c1_5, .slice A1_6 l1_6.length c1_6] 40 (0, 0)) (by (with_reducible repeat (first | refine blk_drewN ?_ _ | refine blk_drew ?_ | refine blk_alloc ?_ _)); exact BK344.out) hb); have n1_ := Aside0.mk (below_step (by repeat (first | (with_reducible first | exact HB.out | apply below_alloc | apply pw_below_drewN | apply below_drew1 | refine below_set ?_ GE344.out) | exact HB.out)) hb); clear BK344; clear HB; have BK344 := n0_; have HB := n1_; clear n0_ n1_; (try clear hb); (try clear hb2); (try clear hk); (try clear hi)))
                have n0_ := Aside0.mk (blk_drew BK344.out)
                have n1_ := Aside0.mk (below_drew1 HB.out)
                clear BK344
                clear HB
                have BK344 := n0_
                have HB := n1_
                clear n0_ n1_
                refine start_ (n := 23) (S := fun w' => w'.cell? ⟨gb344, 0, none⟩ = some (.slice A1_0 l1_0.length c1_0) ∧ w'.cell? ⟨gb344, 1, none⟩ = some (.int .i64 a1_1) ∧ w'.cell? ⟨gb344, 2, none⟩ = some (.int .i64 a1_2) ∧ w'.cell? ⟨gb344, 3, none⟩ = some (.slice A1_3 l1_3.length c1_3) ∧ w'.cell? ⟨gb344, 4, none⟩ = some (.slice A1_4 l1_4.length c1_4) ∧ w'.cell? ⟨gb344, 5, none⟩ = some (.slice A1_5 l1_5.length c1_5) ∧ w'.cell? ⟨gb344, 6, none⟩ = some (.slice A1_6 l1_6.length c1_6)) (ds := []) #[false, false, false, false, false, false, false, false, false, false, false, false, false, false, false, false, false, false, false, false, false, false, false] (by kernel_rfl) rfl rfl ⟨(blk_cell BK344.out 0).trans rfl, (blk_cell BK344.out 1).trans rfl, (blk_cell BK344.out 2).trans rfl, (blk_cell BK344.out 3).trans rfl, (blk_cell BK344.out 4).trans rfl, (blk_cell BK344.out 5).trans rfl, (blk_cell BK344.out 6).trans rfl⟩ (fun hHeld => ?_); refine with_tabW masterdisclaw40_MetadataReads.tab7 masterdisclaw40_MetadataReads.bits7 (fun HT_ HW_ => ?_)
                generalize w28.drew = w29 at BK344 HB hHeld ⊢
                refine pure_ (i := 0) (N := some 39) (v := ?_) (a' := ?_) #[true, false, false, false, false, false, false, false, false, false, false, false, false, false, false, false, false, false, false, false, false, false, false] rfl rfl (any_of HT_.out (by kernel_rfl)) (fun _ _ _ h => h) (Or.inl ⟨by rfl, ?_⟩) ?_ ?_
                rotate_left
                · intro w'
                  go_simp
                  with_reducible rfl
                rotate_left
                · simp only [Act.put, List.setIfInBounds_toArray, List.set_cons_zero, List.set_cons_succ, i64_w, i32_w]
                  rfl
                refine pure_ (i := 1) (N := some 40) (v := ?_) (a' := ?_) #[true, true, false, false, false, false, false, false, false, false, false, false, false, false, false, false, false, false, false, false, false, false, false] rfl rfl (any_of HT_.out (by kernel_rfl)) (fun _ _ _ h => h) (Or.inl ⟨by rfl, ?_⟩) ?_ ?_
                rotate_left
                · intro w'
                  go_simp
                  with_reducible rfl
                rotate_left
                · simp only [Act.put, List.setIfInBounds_toArray, List.set_cons_zero, List.set_cons_succ, i64_w, i32_w]
                  rfl
                refine pure_ (i := 2) (N := some 41) (v := ?_) (a' := ?_) #[true, true, true, false, false, false, false, false, false, false, false, false, false, false, false, false, false, false, false, false, false, false, false] rfl rfl (any_of HT_.out (by kernel_rfl)) (fun _ _ _ h => h) (Or.inl ⟨by rfl, ?_⟩) ?_ ?_
                rotate_left
                · intro w'
                  go_simp
                  with_reducible rfl
                rotate_left
                · simp only [Act.put, List.setIfInBounds_toArray, List.set_cons_zero, List.set_cons_succ, i64_w, i32_w]
                  rfl
                refine pure_ (i := 3) (N := some 42) (v := ?_) (a' := ?_) #[true, true, true, true, false, false, false, false, false, false, false, false, false, false, false, false, false, false, false, false, false, false, false] rfl rfl (any_of HT_.out (by kernel_rfl)) (fun _ _ _ h => h) (Or.inl ⟨by rfl, ?_⟩) ?_ ?_
                rotate_left
                · intro w'
                  go_simp
                  with_reducible rfl
                rotate_left
                · simp only [Act.put, List.setIfInBounds_toArray, List.set_cons_zero, List.set_cons_succ, i64_w, i32_w]
                  rfl
                refine pure_ (i := 4) (N := some 43) (v := ?_) (a' := ?_) #[true, true, true, true, true, false, false, false, false, false, false, false, false, false, false, false, false, false, false, false, false, false, false] rfl rfl (any_of HT_.out (by kernel_rfl)) (fun _ _ _ h => h) (Or.inl ⟨by rfl, ?_⟩) ?_ ?_
                rotate_left
                · intro w'
                  go_simp
                  with_reducible rfl
                rotate_left
                · simp only [Act.put, List.setIfInBounds_toArray, List.set_cons_zero, List.set_cons_succ, i64_w, i32_w]
                  rfl
                refine pure_ (i := 5) (N := some 44) (v := ?_) (a' := ?_) #[true, true, true, true, true, true, false, false, false, false, false, false, false, false, false, false, false, false, false, false, false, false, false] rfl rfl (any_of HT_.out (by kernel_rfl)) (fun _ _ _ h => h) (Or.inl ⟨by rfl, ?_⟩) ?_ ?_
                rotate_left
                · intro w'
                  go_simp
                  with_reducible rfl
                rotate_left
                · simp only [Act.put, List.setIfInBounds_toArray, List.set_cons_zero, List.set_cons_succ, i64_w, i32_w]
                  rfl
                refine pure_ (i := 6) (N := some 45) (v := ?_) (a' := ?_) #[true, true, true, true, true, true, true, false, false, false, false, false, false, false, false, false, false, false, false, false, false, false, false] rfl rfl (any_of HT_.out (by kernel_rfl)) (fun _ _ _ h => h) (Or.inl ⟨by rfl, ?_⟩) ?_ ?_
                rotate_left
                · intro w'
                  go_simp
                  with_reducible rfl
                rotate_left
                · simp only [Act.put, List.setIfInBounds_toArray, List.set_cons_zero, List.set_cons_succ, i64_w, i32_w]
                  rfl
                refine pure_ (i := 7) (N := some 46) (v := ?_) (a' := ?_) #[true, true, true, true, true, true, true, true, false, false, false, false, false, false, false, false, false, false, false, false, false, false, false] rfl rfl (any_of HT_.out (by kernel_rfl)) (fun _ _ _ h => h) (Or.inl ⟨by rfl, ?_⟩) ?_ ?_
                rotate_left
                · intro w'
                  go_simp
                  with_reducible rfl
                rotate_left
                · simp only [Act.put, List.setIfInBounds_toArray, List.set_cons_zero, List.set_cons_succ, i64_w, i32_w]
                  rfl
                refine pure_ (i := 8) (N := some 47) (v := ?_) (a' := ?_) #[true, true, true, true, true, true, true, true, true, false, false, false, false, false, false, false, false, false, false, false, false, false, false] rfl rfl (any_of HT_.out (by kernel_rfl)) (fun _ _ _ h => h) (Or.inl ⟨by rfl, ?_⟩) ?_ ?_
                rotate_left
                · intro w'
                  go_simp
                  with_reducible rfl
                rotate_left
                · simp only [Act.put, List.setIfInBounds_toArray, List.set_cons_zero, List.set_cons_succ, i64_w, i32_w]
                  rfl
                refine pure_ (i := 9) (N := some 48) (v := ?_) (a' := ?_) #[true, true, true, true, true, true, true, true, true, true, false, false, false, false, false, false, false, false, false, false, false, false, false] rfl rfl (any_of HT_.out (by kernel_rfl)) (fun _ _ _ h => h) (Or.inl ⟨by rfl, ?_⟩) ?_ ?_
                rotate_left
                · intro w'
                  go_simp
                  with_reducible rfl
                rotate_left
                · simp only [Act.put, List.setIfInBounds_toArray, List.set_cons_zero, List.set_cons_succ, i64_w, i32_w]
                  rfl
                refine pure_ (i := 10) (N := some 49) (v := ?_) (a' := ?_) #[true, true, true, true, true, true, true, true, true, true, true, false, false, false, false, false, false, false, false, false, false, false, false] rfl rfl (any_of HT_.out (by kernel_rfl)) (fun _ _ _ h => h) (Or.inl ⟨by rfl, ?_⟩) ?_ ?_
                rotate_left
                · intro w'
                  go_simp
                  with_reducible rfl
                rotate_left
                · simp only [Act.put, List.setIfInBounds_toArray, List.set_cons_zero, List.set_cons_succ, i64_w, i32_w]
                  rfl
                refine pure_ (i := 11) (N := some 50) (v := ?_) (a' := ?_) #[true, true, true, true, true, true, true, true, true, true, true, true, false, false, false, false, false, false, false, false, false, false, false] rfl rfl (any_of HT_.out (by kernel_rfl)) (fun _ _ _ h => h) (Or.inl ⟨by rfl, ?_⟩) ?_ ?_
                rotate_left
                · intro w'
                  go_simp
                  with_reducible rfl
                rotate_left
                · simp only [Act.put, List.setIfInBounds_toArray, List.set_cons_zero, List.set_cons_succ, i64_w, i32_w]
                  rfl
                refine pure_ (i := 12) (N := some 51) (v := ?_) (a' := ?_) #[true, true, true, true, true, true, true, true, true, true, true, true, true, false, false, false, false, false, false, false, false, false, false] rfl rfl (any_of HT_.out (by kernel_rfl)) (fun _ _ _ h => h) (Or.inl ⟨by rfl, ?_⟩) ?_ ?_
                rotate_left
                · intro w'
                  go_simp
                  with_reducible rfl
                rotate_left
                · simp only [Act.put, List.setIfInBounds_toArray, List.set_cons_zero, List.set_cons_succ, i64_w, i32_w]
                  rfl
                refine pure_ (i := 13) (N := some 52) (v := ?_) (a' := ?_) #[true, true, true, true, true, true, true, true, true, true, true, true, true, true, false, false, false, false, false, false, false, false, false] rfl rfl (any_of HT_.out (by kernel_rfl)) (fun _ _ _ h => h) (Or.inl ⟨by rfl, ?_⟩) ?_ ?_
                rotate_left
                · intro w'
                  go_simp
                  with_reducible rfl
                rotate_left
                · simp only [Act.put, List.setIfInBounds_toArray, List.set_cons_zero, List.set_cons_succ, i64_w, i32_w]
                  rfl
                refine pure_ (i := 14) (N := some 53) (v := ?_) (a' := ?_) #[true, true, true, true, true, true, true, true, true, true, true, true, true, true, true, false, false, false, false, false, false, false, false] rfl rfl (any_of HT_.out (by kernel_rfl)) (fun _ _ _ h => h) (Or.inl ⟨by rfl, ?_⟩) ?_ ?_
                rotate_left
                · intro w'
                  go_simp
                  with_reducible rfl
                rotate_left
                · simp only [Act.put, List.setIfInBounds_toArray, List.set_cons_zero, List.set_cons_succ, i64_w, i32_w]
                  rfl
                refine pure_ (i := 17) (N := some 56) (v := ?_) (a' := ?_) #[true, true, true, true, true, true, true, true, true, true, true, true, true, true, true, false, false, true, false, false, false, false, false] rfl rfl (any_of HT_.out (by kernel_rfl)) (fun _ _ _ h => h) (Or.inl ⟨by rfl, ?_⟩) ?_ ?_
                rotate_left
                · intro w'
                  go_simp
                  with_reducible rfl
                rotate_left
                · simp only [Act.put, List.setIfInBounds_toArray, List.set_cons_zero, List.set_cons_succ, i64_w, i32_w]
                  rfl
                refine take_ (i := 15) (N := some 54) (v := ?_) (a' := ?_) #[true, true, true, true, true, true, true, true, true, true, true, true, true, true, true, true, false, true, false, false, false, false, false] rfl rfl (take_ofW HT_.out HW_.out (by kernel_rfl)) (fun _ _ _ h => h) (Or.inl ⟨by rfl, ?_⟩) hHeld ?_ ?_
                rotate_left
                · rintro w' ⟨s0, s1, s2, s3, s4, s5, s6⟩
                  go_simp
                  with_reducible rfl
                rotate_left
                · simp only [Act.put, List.setIfInBounds_toArray, List.set_cons_zero, List.set_cons_succ, i64_w, i32_w]
                  rfl
                refine take_ (i := 18) (N := some 57) (v := ?_) (a' := ?_) #[true, true, true, true, true, true, true, true, true, true, true, true, true, true, true, true, false, true, true, false, false, false, false] rfl rfl (take_ofW HT_.out HW_.out (by kernel_rfl)) (fun _ _ _ h => h) (Or.inl ⟨by rfl, ?_⟩) hHeld ?_ ?_
                rotate_left
                · rintro w' ⟨s0, s1, s2, s3, s4, s5, s6⟩
                  go_simp
                  with_reducible rfl
                rotate_left
                · simp only [Act.put, List.setIfInBounds_toArray, List.set_cons_zero, List.set_cons_succ, i64_w, i32_w]
                  rfl
                refine one_ (i := 16) (N := some 55) #[true, true, true, true, true, true, true, true, true, true, true, true, true, true, true, true, true, true, true, false, false, false, false] rfl rfl (one_of HT_.out (by kernel_rfl)) (by decide) (fun K hK => ?_)
                refine goes_ Try.func27 (by kernel_rfl) rfl #[.slice A0 l0.length c0, .agg #[.slice A1_0 l1_0.length c1_0, .int .i64 a1_1, .int .i64 a1_2, .slice A1_3 l1_3.length c1_3, .slice A1_4 l1_4.length c1_4, .slice A1_5 l1_5.length c1_5, .slice A1_6 l1_6.length c1_6]] (by rfl) rfl rfl (by (try simp only [List.map_toArray, List.map_cons, List.map_nil]); first | done | rfl | (simp only [List.length_drop, List.length_take]; rfl)) ?_
                with_reducible refine (metadata_Differences.calls kj5 _ _ l0 _ _ l1_0 a1_1 a1_2 _ _ l1_3 _ _ l1_4 _ _ l1_5 _ _ l1_6 t354 _ ?side1 ?side2 ?side3 ?side4 ?side5 ?side6 ?side7 ?side8 ?side9 ?side10 ?side11 ?side12 A22.out).mono ?_
                (case side1 => repeat (first | exact (Kd.C_below HR0.out HB.out) | (with_reducible refine Kd.C_alloc ?_ _) | (with_reducible refine Kd.C_drewN ?_ _) | (with_reducible refine Kd.C_drew ?_)))
                (case side2 => exact HC0.out)
                (case side3 => repeat (first | exact (Kd.C_below HR1_0.out HB.out) | (with_reducible refine Kd.C_alloc ?_ _) | (with_reducible refine Kd.C_drewN ?_ _) | (with_reducible refine Kd.C_drew ?_)))
                (case side4 => exact HC1_0.out)
                (case side5 => repeat (first | exact (Kd.C_below HR1_3.out HB.out) | (with_reducible refine Kd.C_alloc ?_ _) | (with_reducible refine Kd.C_drewN ?_ _) | (with_reducible refine Kd.C_drew ?_)))
                (case side6 => exact HC1_3.out)
                (case side7 => repeat (first | exact (Kd.C_below HR1_4.out HB.out) | (with_reducible refine Kd.C_alloc ?_ _) | (with_reducible refine Kd.C_drewN ?_ _) | (with_reducible refine Kd.C_drew ?_)))
                (case side8 => exact HC1_4.out)
                (case side9 => repeat (first | exact (Kd.C_below HR1_5.out HB.out) | (with_reducible refine Kd.C_alloc ?_ _) | (with_reducible refine Kd.C_drewN ?_ _) | (with_reducible refine Kd.C_drew ?_)))
                (case side10 => exact HC1_5.out)
                (case side11 => repeat (first | exact (Kd.C_below HR1_6.out HB.out) | (with_reducible refine Kd.C_alloc ?_ _) | (with_reducible refine Kd.C_drewN ?_ _) | (with_reducible refine Kd.C_drew ?_)))
                (case side12 => exact HC1_6.out)
                rintro e w30 ⟨v355, rfl, ho0, hb⟩
                refine ⟨_, rfl, ?_⟩
                have n0_ := Aside0.mk (Kd.R_lower ho0 (below_size (by repeat (first | (with_reducible first | exact HB.out | apply below_alloc | apply pw_below_drewN | apply below_drew1 | refine below_set ?_ GE344.out) | exact HB.out))))
                have n1_ := Aside0.mk (blk_below (g := gb344) (o := .cells #[.slice A1_0 l1_0.length c1_0, .int .i64 a1_1, .int .i64 a1_2, .slice A1_3 l1_3.length c1_3, .slice A1_4 l1_4.length c1_4, .slice A1_5 l1_5.length c1_5, .slice A1_6 l1_6.length c1_6] 40 (0, 0)) (by (with_reducible repeat (first | refine blk_drewN ?_ _ | refine blk_drew ?_ | refine blk_alloc ?_ _)); exact BK344.out) hb)
                have n2_ := Aside0.mk (below_step (by repeat (first | (with_reducible first | exact HB.out | apply below_alloc | apply pw_below_drewN | apply below_drew1 | refine below_set ?_ GE344.out) | exact HB.out)) hb)
                clear BK344
                clear HB
                have HO356 := n0_
                have BK344 := n1_
                have HB := n2_
                clear n0_ n1_ n2_
                (try clear hb)
                (try clear hb2)
                (try clear hk)
                (try clear hi)
                (try clear ho0)
                refine hK.out _ _ ⟨(blk_cell BK344.out 0).trans rfl, (blk_cell BK344.out 1).trans rfl, (blk_cell BK344.out 2).trans rfl, (blk_cell BK344.out 3).trans rfl, (blk_cell BK344.out 4).trans rfl, (blk_cell BK344.out 5).trans rfl, (blk_cell BK344.out 6).trans rfl⟩ (fun hHeld => ?_)
                clear hK K
                refine norm_ (a' := ?_) ?_ ?_
                rotate_left
                · show Act.put _ (some 55) _ = _
                  simp only [Act.put, List.setIfInBounds_toArray, List.set_cons_zero, List.set_cons_succ, i64_w, i32_w]
                  rfl
                refine one_ (i := 19) (N := some 58) #[true, true, true, true, true, true, true, true, true, true, true, true, true, true, true, true, true, true, true, true, false, false, false] rfl rfl (one_of HT_.out (by kernel_rfl)) (by decide) (fun K hK => ?_)
                refine goes_ Try.func28 (by kernel_rfl) rfl #[.slice A0 l0.length c0, .agg #[.slice A1_0 l1_0.length c1_0, .int .i64 a1_1, .int .i64 a1_2, .slice A1_3 l1_3.length c1_3, .slice A1_4 l1_4.length c1_4, .slice A1_5 l1_5.length c1_5, .slice A1_6 l1_6.length c1_6]] (by rfl) rfl rfl (by (try simp only [List.map_toArray, List.map_cons, List.map_nil]); first | done | rfl | (simp only [List.length_drop, List.length_take]; rfl)) ?_
                with_reducible refine (masterdiscref40_Differences.calls kj5 _ _ l0 _ _ l1_0 a1_1 a1_2 _ _ l1_3 _ _ l1_4 _ _ l1_5 _ _ l1_6 t357 _ ?side1 ?side2 ?side3 ?side4 ?side5 ?side6 ?side7 ?side8 ?side9 ?side10 ?side11 ?side12 A23.out).mono ?_
                (case side1 => repeat (first | exact (Kd.C_below HR0.out HB.out) | (with_reducible refine Kd.C_alloc ?_ _) | (with_reducible refine Kd.C_drewN ?_ _) | (with_reducible refine Kd.C_drew ?_)))
                (case side2 => exact HC0.out)
                (case side3 => repeat (first | exact (Kd.C_below HR1_0.out HB.out) | (with_reducible refine Kd.C_alloc ?_ _) | (with_reducible refine Kd.C_drewN ?_ _) | (with_reducible refine Kd.C_drew ?_)))
                (case side4 => exact HC1_0.out)
                (case side5 => repeat (first | exact (Kd.C_below HR1_3.out HB.out) | (with_reducible refine Kd.C_alloc ?_ _) | (with_reducible refine Kd.C_drewN ?_ _) | (with_reducible refine Kd.C_drew ?_)))
                (case side6 => exact HC1_3.out)
                (case side7 => repeat (first | exact (Kd.C_below HR1_4.out HB.out) | (with_reducible refine Kd.C_alloc ?_ _) | (with_reducible refine Kd.C_drewN ?_ _) | (with_reducible refine Kd.C_drew ?_)))
                (case side8 => exact HC1_4.out)
                (case side9 => repeat (first | exact (Kd.C_below HR1_5.out HB.out) | (with_reducible refine Kd.C_alloc ?_ _) | (with_reducible refine Kd.C_drewN ?_ _) | (with_reducible refine Kd.C_drew ?_)))
                (case side10 => exact HC1_5.out)
                (case side11 => repeat (first | exact (Kd.C_below HR1_6.out HB.out) | (with_reducible refine Kd.C_alloc ?_ _) | (with_reducible refine Kd.C_drewN ?_ _) | (with_reducible refine Kd.C_drew ?_)))
                (case side12 => exact HC1_6.out)
                rintro e w31 ⟨v358, rfl, ho0, hb⟩
                refine ⟨_, rfl, ?_⟩
                have n0_ := Aside0.mk (Kd.R_elder' (by (with_reducible repeat (first | apply Kd.R_alloc | apply Kd.R_drewN | apply Kd.R_drew)); exact HO356.out) (Kd.R_base ho0) hb)
                have n1_ := Aside0.mk (Kd.R_lower (Kd.R_new' ho0 (Kd.R_lt (by (with_reducible repeat (first | apply Kd.R_alloc | apply Kd.R_drewN | apply Kd.R_drew)); exact HO356.out))) (below_size (by repeat (first | (with_reducible first | exact HB.out | apply below_alloc | apply pw_below_drewN | apply below_drew1 | refine below_set ?_ GE344.out) | exact HB.out))))
                have n2_ := Aside0.mk (blk_below (g := gb344) (o := .cells #[.slice A1_0 l1_0.length c1_0, .int .i64 a1_1, .int .i64 a1_2, .slice A1_3 l1_3.length c1_3, .slice A1_4 l1_4.length c1_4, .slice A1_5 l1_5.length c1_5, .slice A1_6 l1_6.length c1_6] 40 (0, 0)) (by (with_reducible repeat (first | refine blk_drewN ?_ _ | refine blk_drew ?_ | refine blk_alloc ?_ _)); exact BK344.out) hb)
                have n3_ := Aside0.mk (below_step (by repeat (first | (with_reducible first | exact HB.out | apply below_alloc | apply pw_below_drewN | apply below_drew1 | refine below_set ?_ GE344.out) | exact HB.out)) hb)
                clear HO356
                clear BK344
                clear HB
                have HO356 := n0_
                have HO359 := n1_
                have BK344 := n2_
                have HB := n3_
                clear n0_ n1_ n2_ n3_
                (try clear hb)
                (try clear hb2)
                (try clear hk)
                (try clear hi)
                (try clear ho0)
                obtain ⟨Ao32, co32, eo32⟩ := Kd.R_slice HO356.out
                (first | subst eo32 | (injection eo32 with f1_ f2_ f3_; have f4_ := f1_.symm; have f5_ := f3_.symm; clear f1_ f2_ f3_; subst f4_; subst f5_))
                obtain ⟨Ao33, co33, eo33⟩ := Kd.R_slice HO359.out
                (first | subst eo33 | (injection eo33 with f1_ f2_ f3_; have f4_ := f1_.symm; have f5_ := f3_.symm; clear f1_ f2_ f3_; subst f4_; subst f5_))
                refine hK.out _ _ ⟨(blk_cell BK344.out 0).trans rfl, (blk_cell BK344.out 1).trans rfl, (blk_cell BK344.out 2).trans rfl, (blk_cell BK344.out 3).trans rfl, (blk_cell BK344.out 4).trans rfl, (blk_cell BK344.out 5).trans rfl, (blk_cell BK344.out 6).trans rfl⟩ (fun hHeld => ?_)
                clear hK K
                refine norm_ (a' := ?_) ?_ ?_
                rotate_left
                · show Act.put _ (some 58) _ = _
                  simp only [Act.put, List.setIfInBounds_toArray, List.set_cons_zero, List.set_cons_succ, i64_w, i32_w]
                  rfl
                refine one_ (i := 20) (N := some 59) #[true, true, true, true, true, true, true, true, true, true, true, true, true, true, true, true, true, true, true, true, true, false, false] rfl rfl (one_of HT_.out (by kernel_rfl)) (by decide) (fun K hK => ?_)
                refine goes_ Try.func26 (by kernel_rfl) rfl #[.slice Ao32 t354.length co32, .slice Ao33 t357.length co33] (by rfl) rfl rfl (by (try simp only [List.map_toArray, List.map_cons, List.map_nil]); first | done | rfl | (simp only [List.length_drop, List.length_take]; rfl)) ?_
                with_reducible refine (slices_Equal_int.calls kj5 _ _ t354 _ _ t357 t360 _ ?side1 ?side2 ?side3 ?side4 A24.out).mono ?_
                (case side1 => repeat (first | exact (Kd.R_reads' HO356.out).2.2 | (with_reducible refine Kd.C_alloc ?_ _) | (with_reducible refine Kd.C_drewN ?_ _) | (with_reducible refine Kd.C_drew ?_)))
                (case side2 => exact (Kd.R_reads' HO356.out).2.1)
                (case side3 => repeat (first | exact (Kd.R_reads' HO359.out).2.2 | (with_reducible refine Kd.C_alloc ?_ _) | (with_reducible refine Kd.C_drewN ?_ _) | (with_reducible refine Kd.C_drew ?_)))
                (case side4 => exact (Kd.R_reads' HO359.out).2.1)
                rintro e w' ⟨rfl, ⟨nd, rfl⟩⟩
                refine ⟨_, rfl, ?_⟩
                refine hK.out _ _ ⟨(blk_cell BK344.out 0).trans rfl, (blk_cell BK344.out 1).trans rfl, (blk_cell BK344.out 2).trans rfl, (blk_cell BK344.out 3).trans rfl, (blk_cell BK344.out 4).trans rfl, (blk_cell BK344.out 5).trans rfl, (blk_cell BK344.out 6).trans rfl⟩ (fun hHeld => ?_)
                clear hK K
                refine norm_ (a' := ?_) ?_ ?_
                rotate_left
                · show Act.put _ (some 59) _ = _
                  simp only [Act.put, List.setIfInBounds_toArray, List.set_cons_zero, List.set_cons_succ, i64_w, i32_w]
                  rfl
                refine pure_ (i := 21) (N := some 60) (v := ?_) (a' := ?_) #[true, true, true, true, true, true, true, true, true, true, true, true, true, true, true, true, true, true, true, true, true, true, false] rfl rfl (any_of HT_.out (by kernel_rfl)) (fun _ _ _ h => h) (Or.inl ⟨by rfl, ?_⟩) ?_ ?_
                rotate_left
                · intro w'
                  go_simp
                  with_reducible rfl
                rotate_left
                · simp only [Act.put, List.setIfInBounds_toArray, List.set_cons_zero, List.set_cons_succ, i64_w, i32_w]
                  rfl
                refine pure_ (i := 22) (N := some 6) (v := ?_) (a' := ?_) #[true, true, true, true, true, true, true, true, true, true, true, true, true, true, true, true, true, true, true, true, true, true, true] rfl rfl (any_of HT_.out (by kernel_rfl)) (fun _ _ _ h => h) (Or.inl ⟨by rfl, ?_⟩) ?_ ?_
                rotate_left
                · intro w'
                  go_simp
                  with_reducible rfl
                rotate_left
                · simp only [Act.put, List.setIfInBounds_toArray, List.set_cons_zero, List.set_cons_succ, i64_w, i32_w]
                  rfl
                refine done_ (done_of HT_.out (by kernel_rfl)) ?_
                try go_wp2
                go_ret
                exact ⟨by first | rfl | (simp [errW_none, errW_some] <;> rfl) | (simp [*, errW_none, errW_some] <;> rfl), by repeat (first | (with_reducible first | exact HB.out | apply below_alloc | apply pw_below_drewN | apply below_drew1 | refine below_set ?_ GE344.out) | exact HB.out)⟩
              · rw [if_neg c21] at H
                have c21b0 : (t350 == t353) = false := beq_eq_false_iff_ne.mpr c21
                have c21b1 : (t350 != t353) = true := bne_iff_ne.mpr c21
                exact absurd ((Option.some.inj H).trans htr.out) (by decide)
            · rw [if_neg c20] at H
              have c20b0 : (t349 == t352) = false := beq_eq_false_iff_ne.mpr c20
              have c20b1 : (t349 != t352) = true := bne_iff_ne.mpr c20
              exact absurd ((Option.some.inj H).trans htr.out) (by decide)
          · rw [if_neg c19] at H
            have c19b0 : (t348.toList == t351.toList) = false := beq_eq_false_iff_ne.mpr c19
            have c19b1 : (t348.toList != t351.toList) = true := bne_iff_ne.mpr c19
            exact absurd ((Option.some.inj H).trans htr.out) (by decide)
  · replace c5 := Bool.eq_false_iff.mpr c5
    subst c5
    have H1 : (some false) = some r := by rw [if_neg (show ¬ (false = true) by decide)] at H; exact H
    clear H
    have H := H1
    clear H1
    exact absurd ((Option.some.inj H).trans htr.out) (by decide)

/-- The pure statement of masterdisclaw40_MetadataReads. -/
def masterdisclaw40_MetadataReads.Pure : Prop := ∀ (x0 : List ByteArray) (x1 : S40) (x2 : Int), (x0.length * 16 ≤ 140737488351232 ∧ ∀ z ∈ x0, z.size ≤ 140737488351232) → ((x1.f0.length * 64 ≤ 140737488351232 ∧ ∀ z ∈ x1.f0, ((Lit.int .i64 z.f0).wf = true) ∧ ((Lit.int .i64 z.f1).wf = true) ∧ (z.f2.length * 8 ≤ 140737488351232 ∧ ∀ z2 ∈ z.f2, (Lit.int .i64 z2).wf = true) ∧ ((Lit.int .i64 z.f3).wf = true) ∧ ((Lit.int .i64 z.f4).wf = true) ∧ ((Lit.int .i64 z.f5).wf = true)) ∧ (((Lit.int .i64 x1.f1.f0).wf = true) ∧ ((Lit.int .i64 x1.f1.f1).wf = true)) ∧ (x1.f2.length * 8 ≤ 140737488351232 ∧ ∀ z ∈ x1.f2, (Lit.int .i64 z).wf = true) ∧ (x1.f3.length * 16 ≤ 140737488351232 ∧ ∀ z ∈ x1.f3, ((Lit.int .i64 z.f0).wf = true) ∧ ((Lit.int .i64 z.f1).wf = true)) ∧ (x1.f4.length * 32 ≤ 140737488351232 ∧ ∀ z ∈ x1.f4, ((Lit.int .i64 z.f0).wf = true) ∧ ((Lit.int .i64 z.f1).wf = true) ∧ (((Lit.int .i64 z.f2.f0).wf = true) ∧ ((Lit.int .i64 z.f2.f1).wf = true))) ∧ (x1.f5.length * 32 ≤ 140737488351232 ∧ ∀ z ∈ x1.f5, ((Lit.int .i64 z.f0).wf = true) ∧ ((Lit.int .i64 z.f1).wf = true) ∧ (((Lit.int .i64 z.f2.f0).wf = true) ∧ ((Lit.int .i64 z.f2.f1).wf = true)))) → ((Lit.int .i64 x2).wf = true) → ∃ k, masterdisclaw40_MetadataReads.f k x0 x1.f0 x1.f1.f0 x1.f1.f1 x1.f2 x1.f3 x1.f4 x1.f5 x2 = some true

end Go.Proofs.Yticmghpnbjhhnaa.M
