/- Lean functions with the answers of the Go functions that they are named after, and the walks that tie the Go functions to them (written by the program mp.py of this session). -/
import Derived.Test.YticmghpnbjhhnabM0
import Derived.Test.YticmghpnbjhhnabM7
import Derived.Test.YticmghpnbjhhnabM8
import Derived.Test.YticmghpnbjhhnabM11
import Derived.Test.YticmghpnbjhhnabM12
import Derived.Test.YticmghpnbjhhnabM13
namespace Go.Proofs.Yticmghpnbjhhnab.M
open Go.RowKit Go.Proofs.YticmghpnbjhhnabW.PrintWords Go.Proofs.YticmghpnbjhhnabW.PrintLast Go.Proofs.YticmghpnbjhhnabW.PrintMore
attribute [local go_sem] fieldA50_0 fieldA102_0 max2_int min2_int max_two min_two max_three min_three max_four min_four   -- for this text's walks alone
set_option linter.unusedVariables false
set_option linter.unusedSimpArgs false

/-! ### datetime_Join: function 92 -/
def datetime_Join.f (k : Nat) (a0_0 : Int) (a0_1 : Int) (a0_2 : Int) (a0_3 : Int) (a0_4 : Int) (a0_5 : Int) (a1 : Int) : Option (Int × Int) := (datetime_valid.f k a0_0 a0_1 a0_2 a0_3 a0_4 a0_5).bind fun t262 => (if t262 = true then ((datetime_isZone.f a1).bind fun t263 => (if t263 = true then ((datetime_seconds.f k a0_0 a0_1 a0_2 a0_3 a0_4 a0_5).bind fun t264 => ((datetime_isTime.f (wrap64 (t264 - (wrap64 (60 * a1))))).bind fun t265 => (if t265 = true then (some (wrap64 (t264 - (wrap64 (60 * a1))), 0)) else (some (0, 2))))) else (some (0, 2)))) else (some (0, 1)))
theorem datetime_Join.mono : ∀ a0 a1 a2 a3 a4 a5 a6 k, LeO (datetime_Join.f k a0 a1 a2 a3 a4 a5 a6) (datetime_Join.f (k + 1) a0 a1 a2 a3 a4 a5 a6) := by
 intro a0 a1 a2 a3 a4 a5 a6 k
 unfold datetime_Join.f
 repeat' first
   | (with_reducible exact datetime_seconds.mono _ _ _ _ _ _ _)
   | (with_reducible exact datetime_valid.mono _ _ _ _ _ _ _)
   | (with_reducible exact LeO.refl _)
   | (with_reducible exact LeO.none _)
   | (with_reducible refine LeO.ite ?_ ?_)
   | (with_reducible refine LeO.bind ?_ (fun _ => ?_))
   | exact datetime_seconds.mono _ _ _ _ _ _ _
   | exact datetime_valid.mono _ _ _ _ _ _ _
   | exact LeO.none _
   | refine LeO.ite ?_ ?_
   | refine LeO.bind ?_ (fun _ => ?_)
set_option maxHeartbeats 8000000 in
set_option maxRecDepth 100000 in
theorem datetime_Join.calls (k : Nat) (a0_0 : Int) (a0_1 : Int) (a0_2 : Int) (a0_3 : Int) (a0_4 : Int) (a0_5 : Int) (a1 : Int) (r1 : Int) (r2 : Int) (w : World) (h : datetime_Join.f k a0_0 a0_1 a0_2 a0_3 a0_4 a0_5 a1 = some (r1, r2)) :
  Calls Try.prog 92 #[.agg #[.int .i64 a0_0, .int .i64 a0_1, .int .i64 a0_2, .int .i64 a0_3, .int .i64 a0_4, .int .i64 a0_5], .int .i64 a1] w fun e w' => e = .returned (.tuple #[.int .i64 r1, .int .i64 r2]) ∧ Below w.heap.size w w' := by
 have hu93 := Try.underlying93
 have HB := Aside0.mk (Below.refl w.heap.size w)
 have H : ((datetime_valid.f k a0_0 a0_1 a0_2 a0_3 a0_4 a0_5).bind fun t262 => (if t262 = true then ((datetime_isZone.f a1).bind fun t263 => (if t263 = true then ((datetime_seconds.f k a0_0 a0_1 a0_2 a0_3 a0_4 a0_5).bind fun t264 => ((datetime_isTime.f (wrap64 (t264 - (wrap64 (60 * a1))))).bind fun t265 => (if t265 = true then (some (wrap64 (t264 - (wrap64 (60 * a1))), 0)) else (some (0, 2))))) else (some (0, 2)))) else (some (0, 1)))) = some (r1, r2) := h
 clear h
 replace H := Option.bind_eq_some_iff.mp H
 obtain ⟨t262, A30, H⟩ := H
 replace H : (if t262 = true then ((datetime_isZone.f a1).bind fun t263 => (if t263 = true then ((datetime_seconds.f k a0_0 a0_1 a0_2 a0_3 a0_4 a0_5).bind fun t264 => ((datetime_isTime.f (wrap64 (t264 - (wrap64 (60 * a1))))).bind fun t265 => (if t265 = true then (some (wrap64 (t264 - (wrap64 (60 * a1))), 0)) else (some (0, 2))))) else (some (0, 2)))) else (some (0, 1))) = some (r1, r2) := H
 have A3 := Aside0.mk A30
 clear A30
 by_cases c4 : t262 = true
 ·subst c4
  have H1 : ((datetime_isZone.f a1).bind fun t263 => (if t263 = true then ((datetime_seconds.f k a0_0 a0_1 a0_2 a0_3 a0_4 a0_5).bind fun t264 => ((datetime_isTime.f (wrap64 (t264 - (wrap64 (60 * a1))))).bind fun t265 => (if t265 = true then (some (wrap64 (t264 - (wrap64 (60 * a1))), 0)) else (some (0, 2))))) else (some (0, 2)))) = some (r1, r2) := by rw [if_pos rfl] at H; exact H
  clear H
  have H := H1
  clear H1
  replace H := Option.bind_eq_some_iff.mp H
  obtain ⟨t263, A50, H⟩ := H
  replace H : (if t263 = true then ((datetime_seconds.f k a0_0 a0_1 a0_2 a0_3 a0_4 a0_5).bind fun t264 => ((datetime_isTime.f (wrap64 (t264 - (wrap64 (60 * a1))))).bind fun t265 => (if t265 = true then (some (wrap64 (t264 - (wrap64 (60 * a1))), 0)) else (some (0, 2))))) else (some (0, 2))) = some (r1, r2) := H
  have A5 := Aside0.mk A50
  clear A50
  by_cases c6 : t263 = true
  ·subst c6
   have H1 : ((datetime_seconds.f k a0_0 a0_1 a0_2 a0_3 a0_4 a0_5).bind fun t264 => ((datetime_isTime.f (wrap64 (t264 - (wrap64 (60 * a1))))).bind fun t265 => (if t265 = true then (some (wrap64 (t264 - (wrap64 (60 * a1))), 0)) else (some (0, 2))))) = some (r1, r2) := by rw [if_pos rfl] at H; exact H
   clear H
   have H := H1
   clear H1
   replace H := Option.bind_eq_some_iff.mp H
   obtain ⟨t264, A70, H⟩ := H
   replace H : ((datetime_isTime.f (wrap64 (t264 - (wrap64 (60 * a1))))).bind fun t265 => (if t265 = true then (some (wrap64 (t264 - (wrap64 (60 * a1))), 0)) else (some (0, 2)))) = some (r1, r2) := H
   have A7 := Aside0.mk A70
   clear A70
   replace H := Option.bind_eq_some_iff.mp H
   obtain ⟨t265, A80, H⟩ := H
   replace H : (if t265 = true then (some (wrap64 (t264 - (wrap64 (60 * a1))), 0)) else (some (0, 2))) = some (r1, r2) := H
   have A8 := Aside0.mk A80
   clear A80
   by_cases c9 : t265 = true
   ·subst c9
    have H1 : (some (wrap64 (t264 - (wrap64 (60 * a1))), 0)) = some (r1, r2) := by rw [if_pos rfl] at H; exact H
    clear H
    have H := H1
    clear H1
    simp only [Option.some.injEq, Prod.mk.injEq] at H
    obtain ⟨rfl, rfl⟩ := H
    go_enter Try.func92, Try.ntmps92
    go_wp2_with (first | ((with_reducible refine gate_dst (N := 2) rfl ?_); refine box_event ?hg (N := 2) ?hd (cs := #[.int .i64 a0_0, .int .i64 a0_1, .int .i64 a0_2, .int .i64 a0_3, .int .i64 a0_4, .int .i64 a0_5]) (t := 93) ?hr ?_; (case hd => rfl); (case hg => rfl); (case hr => first | (go_simp; done) | (go_simp; rfl)); intro gb261 hg w10 hbox hb; have n0_ := Aside0.mk (below_step (by repeat (first | (with_reducible first | exact HB.out | apply below_alloc | apply pw_below_drewN | apply below_drew1) | exact HB.out)) hb); have n1_ := Aside0.mk (hbox); have n2_ := Aside0.mk ((by rw [hg]; exact (below_size (by repeat (first | (with_reducible first | exact HB.out | apply below_alloc | apply pw_below_drewN | apply below_drew1) | exact HB.out))) : w.heap.size ≤ gb261)); have n3_ := Aside0.mk ((by rw [hg]; exact (below_size (by repeat (first | (with_reducible first | exact HB.out | apply below_alloc | apply pw_below_drewN | apply below_drew1) | exact HB.out))) : w.heap.size ≤ gb261)); clear HB; have HB := n0_; have BK261 := n1_; have GW261 := n2_; have GE261 := n3_; clear n0_ n1_ n2_ n3_; clear hb hbox hg; obtain ⟨hcz11_0, hcz11_1, hcz11_2, hcz11_3, hcz11_4, hcz11_5⟩ := cz_6 BK261.out; obtain ⟨hfz11_0, hfz11_1, hfz11_2, hfz11_3, hfz11_4, hfz11_5⟩ := fz_6 BK261.out) | ((with_reducible refine gate_callee (f := 91) rfl ?_); refine goesL_ (some 8) rfl rfl Try.func91 (by kernel_rfl) rfl #[.agg #[.int .i64 a0_0, .int .i64 a0_1, .int .i64 a0_2, .int .i64 a0_3, .int .i64 a0_4, .int .i64 a0_5]] rfl (by (try simp only [List.map_toArray, List.map_cons, List.map_nil]); first | done | rfl | (simp only [List.length_drop, List.length_take]; rfl)) ?_; (with_reducible refine (datetime_valid.calls k a0_0 a0_1 a0_2 a0_3 a0_4 a0_5 true _ A3.out).mono ?_); rintro e w12 ⟨rfl, hb⟩; refine ⟨_, rfl, ?_⟩; have n0_ := Aside0.mk (blk_below (g := gb261) (o := .cells #[.int .i64 a0_0, .int .i64 a0_1, .int .i64 a0_2, .int .i64 a0_3, .int .i64 a0_4, .int .i64 a0_5] 93 (0, 0)) (by (with_reducible repeat (first | refine blk_drewN ?_ _ | refine blk_drew ?_ | refine blk_alloc ?_ _)); exact BK261.out) hb); have n1_ := Aside0.mk (below_step (by repeat (first | (with_reducible first | exact HB.out | apply below_alloc | apply pw_below_drewN | apply below_drew1 | refine below_set ?_ GE261.out) | exact HB.out)) hb); clear BK261; clear HB; have BK261 := n0_; have HB := n1_; clear n0_ n1_; (try clear hb); (try clear hb2); (try clear hk); (try clear hi)) | ((with_reducible refine gate_callee (f := 62) rfl ?_); refine goesL_ (some 11) rfl rfl Try.func62 (by kernel_rfl) rfl #[.int .i64 a1] rfl (by (try simp only [List.map_toArray, List.map_cons, List.map_nil]); first | done | rfl | (simp only [List.length_drop, List.length_take]; rfl)) ?_; (with_reducible refine (datetime_isZone.calls a1 true _ A5.out).mono ?_); rintro e w' ⟨rfl, ⟨nd, rfl⟩⟩; refine ⟨_, rfl, ?_⟩; obtain ⟨hcz13_0, hcz13_1, hcz13_2, hcz13_3, hcz13_4, hcz13_5⟩ := cz_6 BK261.out; obtain ⟨hfz13_0, hfz13_1, hfz13_2, hfz13_3, hfz13_4, hfz13_5⟩ := fz_6 BK261.out) | ((with_reducible refine gate_callee (f := 101) rfl ?_); refine goesL_ (some 14) rfl rfl Try.func101 (by kernel_rfl) rfl #[.agg #[.int .i64 a0_0, .int .i64 a0_1, .int .i64 a0_2, .int .i64 a0_3, .int .i64 a0_4, .int .i64 a0_5]] rfl (by (try simp only [List.map_toArray, List.map_cons, List.map_nil]); first | done | rfl | (simp only [List.length_drop, List.length_take]; rfl)) ?_; (with_reducible refine (datetime_seconds.calls k a0_0 a0_1 a0_2 a0_3 a0_4 a0_5 t264 _ A7.out).mono ?_); rintro e w14 ⟨rfl, hb⟩; refine ⟨_, rfl, ?_⟩; have n0_ := Aside0.mk (blk_below (g := gb261) (o := .cells #[.int .i64 a0_0, .int .i64 a0_1, .int .i64 a0_2, .int .i64 a0_3, .int .i64 a0_4, .int .i64 a0_5] 93 (0, 0)) (by (with_reducible repeat (first | refine blk_drewN ?_ _ | refine blk_drew ?_ | refine blk_alloc ?_ _)); exact BK261.out) hb); have n1_ := Aside0.mk (below_step (by repeat (first | (with_reducible first | exact HB.out | apply below_alloc | apply pw_below_drewN | apply below_drew1 | refine below_set ?_ GE261.out) | exact HB.out)) hb); clear BK261; clear HB; have BK261 := n0_; have HB := n1_; clear n0_ n1_; (try clear hb); (try clear hb2); (try clear hk); (try clear hi)) | ((with_reducible refine gate_callee (f := 78) rfl ?_); refine goesL_ (some 19) rfl rfl Try.func78 (by kernel_rfl) rfl #[.int .i64 (wrap64 (t264 - (wrap64 (60 * a1))))] rfl (by (try simp only [List.map_toArray, List.map_cons, List.map_nil]); first | done | rfl | (simp only [List.length_drop, List.length_take]; rfl)) ?_; (with_reducible refine (datetime_isTime.calls (wrap64 (t264 - (wrap64 (60 * a1)))) true _ A8.out).mono ?_); rintro e w' ⟨rfl, ⟨nd, rfl⟩⟩; refine ⟨_, rfl, ?_⟩))
    go_ret2
    exact ⟨by first | rfl | (simp [errW_none, errW_some] <;> rfl) | (simp [*, errW_none, errW_some] <;> rfl), by repeat (first | (with_reducible first | exact HB.out | apply below_alloc | apply pw_below_drewN | apply below_drew1 | refine below_set ?_ GE261.out) | exact HB.out)⟩
   ·replace c9 := Bool.eq_false_iff.mpr c9
    subst c9
    have H1 : (some (0, 2)) = some (r1, r2) := by rw [if_neg (show ¬ (false = true) by decide)] at H; exact H
    clear H
    have H := H1
    clear H1
    simp only [Option.some.injEq, Prod.mk.injEq] at H
    obtain ⟨rfl, rfl⟩ := H
    go_enter Try.func92, Try.ntmps92
    go_wp2_with (first | ((with_reducible refine gate_dst (N := 2) rfl ?_); refine box_event ?hg (N := 2) ?hd (cs := #[.int .i64 a0_0, .int .i64 a0_1, .int .i64 a0_2, .int .i64 a0_3, .int .i64 a0_4, .int .i64 a0_5]) (t := 93) ?hr ?_; (case hd => rfl); (case hg => rfl); (case hr => first | (go_simp; done) | (go_simp; rfl)); intro gb261 hg w15 hbox hb; have n0_ := Aside0.mk (below_step (by repeat (first | (with_reducible first | exact HB.out | apply below_alloc | apply pw_below_drewN | apply below_drew1) | exact HB.out)) hb); have n1_ := Aside0.mk (hbox); have n2_ := Aside0.mk ((by rw [hg]; exact (below_size (by repeat (first | (with_reducible first | exact HB.out | apply below_alloc | apply pw_below_drewN | apply below_drew1) | exact HB.out))) : w.heap.size ≤ gb261)); have n3_ := Aside0.mk ((by rw [hg]; exact (below_size (by repeat (first | (with_reducible first | exact HB.out | apply below_alloc | apply pw_below_drewN | apply below_drew1) | exact HB.out))) : w.heap.size ≤ gb261)); clear HB; have HB := n0_; have BK261 := n1_; have GW261 := n2_; have GE261 := n3_; clear n0_ n1_ n2_ n3_; clear hb hbox hg; obtain ⟨hcz16_0, hcz16_1, hcz16_2, hcz16_3, hcz16_4, hcz16_5⟩ := cz_6 BK261.out; obtain ⟨hfz16_0, hfz16_1, hfz16_2, hfz16_3, hfz16_4, hfz16_5⟩ := fz_6 BK261.out) | ((with_reducible refine gate_callee (f := 91) rfl ?_); refine goesL_ (some 8) rfl rfl Try.func91 (by kernel_rfl) rfl #[.agg #[.int .i64 a0_0, .int .i64 a0_1, .int .i64 a0_2, .int .i64 a0_3, .int .i64 a0_4, .int .i64 a0_5]] rfl (by (try simp only [List.map_toArray, List.map_cons, List.map_nil]); first | done | rfl | (simp only [List.length_drop, List.length_take]; rfl)) ?_; (with_reducible refine (datetime_valid.calls k a0_0 a0_1 a0_2 a0_3 a0_4 a0_5 true _ A3.out).mono ?_); rintro e w17 ⟨rfl, hb⟩; refine ⟨_, rfl, ?_⟩; have n0_ := Aside0.mk (blk_below (g := gb261) (o := .cells #[.int .i64 a0_0, .int .i64 a0_1, .int .i64 a0_2, .int .i64 a0_3, .int .i64 a0_4, .int .i64 a0_5] 93 (0, 0)) (by (with_reducible repeat (first | refine blk_drewN ?_ _ | refine blk_drew ?_ | refine blk_alloc ?_ _)); exact BK261.out) hb); have n1_ := Aside0.mk (below_step (by repeat (first | (with_reducible first | exact HB.out | apply below_alloc | apply pw_below_drewN | apply below_drew1 | refine below_set ?_ GE261.out) | exact HB.out)) hb); clear BK261; clear HB; have BK261 := n0_; have HB := n1_; clear n0_ n1_; (try clear hb); (try clear hb2); (try clear hk); (try clear hi)) | ((with_reducible refine gate_callee (f := 62) rfl ?_); refine goesL_ (some 11) rfl rfl Try.func62 (by kernel_rfl) rfl #[.int .i64 a1] rfl (by (try simp only [List.map_toArray, List.map_cons, List.map_nil]); first | done | rfl | (simp only [List.length_drop, List.length_take]; rfl)) ?_; (with_reducible refine (datetime_isZone.calls a1 true _ A5.out).mono ?_); rintro e w' ⟨rfl, ⟨nd, rfl⟩⟩; refine ⟨_, rfl, ?_⟩; obtain ⟨hcz18_0, hcz18_1, hcz18_2, hcz18_3, hcz18_4, hcz18_5⟩ := cz_6 BK261.out; obtain ⟨hfz18_0, hfz18_1, hfz18_2, hfz18_3, hfz18_4, hfz18_5⟩ := fz_6 BK261.out) | ((with_reducible refine gate_callee (f := 101) rfl ?_); refine goesL_ (some 14) rfl rfl Try.func101 (by kernel_rfl) rfl #[.agg #[.int .i64 a0_0, .int .i64 a0_1, .int .i64 a0_2, .int .i64 a0_3, .int .i64 a0_4, .int .i64 a0_5]] rfl (by (try simp only [List.map_toArray, List.map_cons, List.map_nil]); first | done | rfl | (simp only [List.length_drop, List.length_take]; rfl)) ?_; (with_reducible refine (datetime_seconds.calls k a0_0 a0_1 a0_2 a0_3 a0_4 a0_5 t264 _ A7.out).mono ?_); rintro e w19 ⟨rfl, hb⟩; refine ⟨_, rfl, ?_⟩; have n0_ := Aside0.mk (blk_below (g := gb261) (o := .cells #[.int .i64 a0_0, .int .i64 a0_1, .int .i64 a0_2, .int .i64 a0_3, .int .i64 a0_4, .int .i64 a0_5] 93 (0, 0)) (by (with_reducible repeat (first | refine blk_drewN ?_ _ | refine blk_drew ?_ | refine blk_alloc ?_ _)); exact BK261.out) hb); have n1_ := Aside0.mk (below_step (by repeat (first | (with_reducible first | exact HB.out | apply below_alloc | apply pw_below_drewN | apply below_drew1 | refine below_set ?_ GE261.out) | exact HB.out)) hb); clear BK261; clear HB; have BK261 := n0_; have HB := n1_; clear n0_ n1_; (try clear hb); (try clear hb2); (try clear hk); (try clear hi)) | ((with_reducible refine gate_callee (f := 78) rfl ?_); refine goesL_ (some 19) rfl rfl Try.func78 (by kernel_rfl) rfl #[.int .i64 (wrap64 (t264 - (wrap64 (60 * a1))))] rfl (by (try simp only [List.map_toArray, List.map_cons, List.map_nil]); first | done | rfl | (simp only [List.length_drop, List.length_take]; rfl)) ?_; (with_reducible refine (datetime_isTime.calls (wrap64 (t264 - (wrap64 (60 * a1)))) false _ A8.out).mono ?_); rintro e w' ⟨rfl, ⟨nd, rfl⟩⟩; refine ⟨_, rfl, ?_⟩))
    go_ret2
    exact ⟨by first | rfl | (simp [errW_none, errW_some] <;> rfl) | (simp [*, errW_none, errW_some] <;> rfl), by repeat (first | (with_reducible first | exact HB.out | apply below_alloc | apply pw_below_drewN | apply below_drew1 | refine below_set ?_ GE261.out) | exact HB.out)⟩
  ·replace c6 := Bool.eq_false_iff.mpr c6
   subst c6
   have H1 : (some (0, 2)) = some (r1, r2) := by rw [if_neg (show ¬ (false = true) by decide)] at H; exact H
   clear H
   have H := H1
   clear H1
   simp only [Option.some.injEq, Prod.mk.injEq] at H
   obtain ⟨rfl, rfl⟩ := H
   go_enter Try.func92, Try.ntmps92
   go_wp2_with (first | ((with_reducible refine gate_dst (N := 2) rfl ?_); refine box_event ?hg (N := 2) ?hd (cs := #[.int .i64 a0_0, .int .i64 a0_1, .int .i64 a0_2, .int .i64 a0_3, .int .i64 a0_4, .int .i64 a0_5]) (t := 93) ?hr ?_; (case hd => rfl); (case hg => rfl); (case hr => first | (go_simp; done) | (go_simp; rfl)); intro gb261 hg w20 hbox hb; have n0_ := Aside0.mk (below_step (by repeat (first | (with_reducible first | exact HB.out | apply below_alloc | apply pw_below_drewN | apply below_drew1) | exact HB.out)) hb); have n1_ := Aside0.mk (hbox); have n2_ := Aside0.mk ((by rw [hg]; exact (below_size (by repeat (first | (with_reducible first | exact HB.out | apply below_alloc | apply pw_below_drewN | apply below_drew1) | exact HB.out))) : w.heap.size ≤ gb261)); have n3_ := Aside0.mk ((by rw [hg]; exact (below_size (by repeat (first | (with_reducible first | exact HB.out | apply below_alloc | apply pw_below_drewN | apply below_drew1) | exact HB.out))) : w.heap.size ≤ gb261)); clear HB; have HB := n0_; have BK261 := n1_; have GW261 := n2_; have GE261 := n3_; clear n0_ n1_ n2_ n3_; clear hb hbox hg; obtain ⟨hcz21_0, hcz21_1, hcz21_2, hcz21_3, hcz21_4, hcz21_5⟩ := cz_6 BK261.out; obtain ⟨hfz21_0, hfz21_1, hfz21_2, hfz21_3, hfz21_4, hfz21_5⟩ := fz_6 BK261.out) | ((with_reducible refine gate_callee (f := 91) rfl ?_); refine goesL_ (some 8) rfl rfl Try.func91 (by kernel_rfl) rfl #[.agg #[.int .i64 a0_0, .int .i64 a0_1, .int .i64 a0_2, .int .i64 a0_3, .int .i64 a0_4, .int .i64 a0_5]] rfl (by (try simp only [List.map_toArray, List.map_cons, List.map_nil]); first | done | rfl | (simp only [List.length_drop, List.length_take]; rfl)) ?_; (with_reducible refine (datetime_valid.calls k a0_0 a0_1 a0_2 a0_3 a0_4 a0_5 true _ A3.out).mono ?_); rintro e w22 ⟨rfl, hb⟩; refine ⟨_, rfl, ?_⟩; have n0_ := Aside0.mk (blk_below (g := gb261) (o := .cells #[.int .i64 a0_0, .int .i64 a0_1, .int .i64 a0_2, .int .i64 a0_3, .int .i64 a0_4, .int .i64 a0_5] 93 (0, 0)) (by (with_reducible repeat (first | refine blk_drewN ?_ _ | refine blk_drew ?_ | refine blk_alloc ?_ _)); exact BK261.out) hb); have n1_ := Aside0.mk (below_step (by repeat (first | (with_reducible first | exact HB.out | apply below_alloc | apply pw_below_drewN | apply below_drew1 | refine below_set ?_ GE261.out) | exact HB.out)) hb); clear BK261; clear HB; have BK261 := n0_; have HB := n1_; clear n0_ n1_; (try clear hb); (try clear hb2); (try clear hk); (try clear hi)) | ((with_reducible refine gate_callee (f := 62) rfl ?_); refine goesL_ (some 11) rfl rfl Try.func62 (by kernel_rfl) rfl #[.int .i64 a1] rfl (by (try simp only [List.map_toArray, List.map_cons, List.map_nil]); first | done | rfl | (simp only [List.length_drop, List.length_take]; rfl)) ?_; (with_reducible refine (datetime_isZone.calls a1 false _ A5.out).mono ?_); rintro e w' ⟨rfl, ⟨nd, rfl⟩⟩; refine ⟨_, rfl, ?_⟩))
   go_ret2
   exact ⟨by first | rfl | (simp [errW_none, errW_some] <;> rfl) | (simp [*, errW_none, errW_some] <;> rfl), by repeat (first | (with_reducible first | exact HB.out | apply below_alloc | apply pw_below_drewN | apply below_drew1 | refine below_set ?_ GE261.out) | exact HB.out)⟩
 ·replace c4 := Bool.eq_false_iff.mpr c4
  subst c4
  have H1 : (some (0, 1)) = some (r1, r2) := by rw [if_neg (show ¬ (false = true) by decide)] at H; exact H
  clear H
  have H := H1
  clear H1
  simp only [Option.some.injEq, Prod.mk.injEq] at H
  obtain ⟨rfl, rfl⟩ := H
  go_enter Try.func92, Try.ntmps92
  go_wp2_with (first | ((with_reducible refine gate_dst (N := 2) rfl ?_); refine box_event ?hg (N := 2) ?hd (cs := #[.int .i64 a0_0, .int .i64 a0_1, .int .i64 a0_2, .int .i64 a0_3, .int .i64 a0_4, .int .i64 a0_5]) (t := 93) ?hr ?_; (case hd => rfl); (case hg => rfl); (case hr => first | (go_simp; done) | (go_simp; rfl)); intro gb261 hg w23 hbox hb; have n0_ := Aside0.mk (below_step (by repeat (first | (with_reducible first | exact HB.out | apply below_alloc | apply pw_below_drewN | apply below_drew1) | exact HB.out)) hb); have n1_ := Aside0.mk (hbox); have n2_ := Aside0.mk ((by rw [hg]; exact (below_size (by repeat (first | (with_reducible first | exact HB.out | apply below_alloc | apply pw_below_drewN | apply below_drew1) | exact HB.out))) : w.heap.size ≤ gb261)); have n3_ := Aside0.mk ((by rw [hg]; exact (below_size (by repeat (first | (with_reducible first | exact HB.out | apply below_alloc | apply pw_below_drewN | apply below_drew1) | exact HB.out))) : w.heap.size ≤ gb261)); clear HB; have HB := n0_; have BK261 := n1_; have GW261 := n2_; have GE261 := n3_; clear n0_ n1_ n2_ n3_; clear hb hbox hg; obtain ⟨hcz24_0, hcz24_1, hcz24_2, hcz24_3, hcz24_4, hcz24_5⟩ := cz_6 BK261.out; obtain ⟨hfz24_0, hfz24_1, hfz24_2, hfz24_3, hfz24_4, hfz24_5⟩ := fz_6 BK261.out) | ((with_reducible refine gate_callee (f := 91) rfl ?_); refine goesL_ (some 8) rfl rfl Try.func91 (by kernel_rfl) rfl #[.agg #[.int .i64 a0_0, .int .i64 a0_1, .int .i64 a0_2, .int .i64 a0_3, .int .i64 a0_4, .int .i64 a0_5]] rfl (by (try simp only [List.map_toArray, List.map_cons, List.map_nil]); first | done | rfl | (simp only [List.length_drop, List.length_take]; rfl)) ?_; (with_reducible refine (datetime_valid.calls k a0_0 a0_1 a0_2 a0_3 a0_4 a0_5 false _ A3.out).mono ?_); rintro e w25 ⟨rfl, hb⟩; refine ⟨_, rfl, ?_⟩; have n0_ := Aside0.mk (blk_below (g := gb261) (o := .cells #[.int .i64 a0_0, .int .i64 a0_1, .int .i64 a0_2, .int .i64 a0_3, .int .i64 a0_4, .int .i64 a0_5] 93 (0, 0)) (by (with_reducible repeat (first | refine blk_drewN ?_ _ | refine blk_drew ?_ | refine blk_alloc ?_ _)); exact BK261.out) hb); have n1_ := Aside0.mk (below_step (by repeat (first | (with_reducible first | exact HB.out | apply below_alloc | apply pw_below_drewN | apply below_drew1 | refine below_set ?_ GE261.out) | exact HB.out)) hb); clear BK261; clear HB; have BK261 := n0_; have HB := n1_; clear n0_ n1_; (try clear hb); (try clear hb2); (try clear hk); (try clear hi)))
  go_ret2
  exact ⟨by first | rfl | (simp [errW_none, errW_some] <;> rfl) | (simp [*, errW_none, errW_some] <;> rfl), by repeat (first | (with_reducible first | exact HB.out | apply below_alloc | apply pw_below_drewN | apply below_drew1 | refine below_set ?_ GE261.out) | exact HB.out)⟩

/-! ### datetime_read: function 63 -/
def datetime_read.j0 : Nat → Int → Bool → Int → Int → Int → Int → Int → Int → Option (Int × Int × Int)
 | 0, _, _, _, _, _, _, _, _ => none
 | k + 1, x1, x17, x267000, x267001, x267002, x267003, x267004, x267005 => if x17 = true then (some (0, 0, 10)) else ((datetime_Join.f k x267000 x267001 x267002 x267003 x267004 x267005 x1).bind fun bt268 => (if bt268.2 = 0 then (some (bt268.1, x1, 0)) else (some (0, 0, 2))))
def datetime_read.f (k : Nat) (a0_0 : Int) (a0_1 : Int) (a0_2 : Int) (a0_3 : Int) (a0_4 : Int) (a0_5 : Int) (a1 : Int) (a2 : Bool) : Option (Int × Int × Int) := if a2 = true then ((datetime_valid.f k a0_0 a0_1 a0_2 a0_3 a0_4 a0_5).bind fun t267 => (datetime_read.j0 k a1 (!t267) a0_0 a0_1 a0_2 a0_3 a0_4 a0_5)) else (datetime_read.j0 k a1 true a0_0 a0_1 a0_2 a0_3 a0_4 a0_5)
theorem datetime_read.mono_l : ∀ k, (∀ y0 y1 y2 y3 y4 y5 y6 y7, LeO (datetime_read.j0 k y0 y1 y2 y3 y4 y5 y6 y7) (datetime_read.j0 (k + 1) y0 y1 y2 y3 y4 y5 y6 y7))
 | 0 => fun _ _ _ _ _ _ _ _ r h => by simp [datetime_read.j0] at h
 | k + 1 => by
  have ih0 := datetime_read.mono_l k
  ·intro y0 y1 y2 y3 y4 y5 y6 y7
   unfold datetime_read.j0
   repeat' first
   | (with_reducible exact ih0 _ _ _ _ _ _ _ _)
   | (with_reducible exact datetime_Join.mono _ _ _ _ _ _ _ _)
   | (with_reducible exact datetime_valid.mono _ _ _ _ _ _ _)
   | (with_reducible exact LeO.refl _)
   | (with_reducible exact LeO.none _)
   | (with_reducible refine LeO.ite ?_ ?_)
   | (with_reducible refine LeO.bind ?_ (fun _ => ?_))
   | exact ih0 _ _ _ _ _ _ _ _
   | exact datetime_Join.mono _ _ _ _ _ _ _ _
   | exact datetime_valid.mono _ _ _ _ _ _ _
   | exact LeO.none _
   | refine LeO.ite ?_ ?_
   | refine LeO.bind ?_ (fun _ => ?_)
theorem datetime_read.mono : ∀ a0 a1 a2 a3 a4 a5 a6 a7 k, LeO (datetime_read.f k a0 a1 a2 a3 a4 a5 a6 a7) (datetime_read.f (k + 1) a0 a1 a2 a3 a4 a5 a6 a7) := by
 intro a0 a1 a2 a3 a4 a5 a6 a7 k
 have ih0 := datetime_read.mono_l k
 unfold datetime_read.f
 repeat' first
   | (with_reducible exact ih0 _ _ _ _ _ _ _ _)
   | (with_reducible exact datetime_Join.mono _ _ _ _ _ _ _ _)
   | (with_reducible exact datetime_valid.mono _ _ _ _ _ _ _)
   | (with_reducible exact LeO.refl _)
   | (with_reducible exact LeO.none _)
   | (with_reducible refine LeO.ite ?_ ?_)
   | (with_reducible refine LeO.bind ?_ (fun _ => ?_))
   | exact ih0 _ _ _ _ _ _ _ _
   | exact datetime_Join.mono _ _ _ _ _ _ _ _
   | exact datetime_valid.mono _ _ _ _ _ _ _
   | exact LeO.none _
   | refine LeO.ite ?_ ?_
   | refine LeO.bind ?_ (fun _ => ?_)
set_option maxHeartbeats 8000000 in
set_option maxRecDepth 100000 in
theorem datetime_read.calls (k : Nat) (a0_0 : Int) (a0_1 : Int) (a0_2 : Int) (a0_3 : Int) (a0_4 : Int) (a0_5 : Int) (a1 : Int) (a2 : Bool) (r1 : Int) (r2 : Int) (r3 : Int) (w : World) (h : datetime_read.f k a0_0 a0_1 a0_2 a0_3 a0_4 a0_5 a1 a2 = some (r1, r2, r3)) :
  Calls Try.prog 63 #[.agg #[.int .i64 a0_0, .int .i64 a0_1, .int .i64 a0_2, .int .i64 a0_3, .int .i64 a0_4, .int .i64 a0_5], .int .i64 a1, .bool a2] w fun e w' => e = .returned (.tuple #[.int .i64 r1, .int .i64 r2, .int .i64 r3]) ∧ Below w.heap.size w w' := by
 have hu93 := Try.underlying93
 have HB := Aside0.mk (Below.refl w.heap.size w)
 have H : (if a2 = true then ((datetime_valid.f k a0_0 a0_1 a0_2 a0_3 a0_4 a0_5).bind fun t267 => (datetime_read.j0 k a1 (!t267) a0_0 a0_1 a0_2 a0_3 a0_4 a0_5)) else (datetime_read.j0 k a1 true a0_0 a0_1 a0_2 a0_3 a0_4 a0_5)) = some (r1, r2, r3) := h
 clear h
 have HC4 := Aside0.mk H
 clear H
 go_enter Try.func63, Try.ntmps63
 go_upto_region 1 with (first | ((with_reducible refine gate_dst (N := 3) rfl ?_); refine box_event ?hg (N := 3) ?hd (cs := #[.int .i64 a0_0, .int .i64 a0_1, .int .i64 a0_2, .int .i64 a0_3, .int .i64 a0_4, .int .i64 a0_5]) (t := 93) ?hr ?_; (case hd => rfl); (case hg => rfl); (case hr => first | (go_simp; done) | (go_simp; rfl)); intro gb266 hg w5 hbox hb; have n0_ := Aside0.mk (below_step (by repeat (first | (with_reducible first | exact HB.out | apply below_alloc | apply pw_below_drewN | apply below_drew1) | exact HB.out)) hb); have n1_ := Aside0.mk (hbox); have n2_ := Aside0.mk ((by rw [hg]; exact (below_size (by repeat (first | (with_reducible first | exact HB.out | apply below_alloc | apply pw_below_drewN | apply below_drew1) | exact HB.out))) : w.heap.size ≤ gb266)); have n3_ := Aside0.mk ((by rw [hg]; exact (below_size (by repeat (first | (with_reducible first | exact HB.out | apply below_alloc | apply pw_below_drewN | apply below_drew1) | exact HB.out))) : w.heap.size ≤ gb266)); clear HB; have HB := n0_; have BK266 := n1_; have GW266 := n2_; have GE266 := n3_; clear n0_ n1_ n2_ n3_; clear hb hbox hg))
 (try simp only [put4_])
 go_cut [17] (fun v17 wc => ∃ (kq : Nat) (x17_3 : Bool), v17 = .bool x17_3 ∧ Aside0 (datetime_read.j0 kq a1 x17_3 a0_0 a0_1 a0_2 a0_3 a0_4 a0_5 = some (r1, r2, r3)) ∧ Aside0 (kq ≤ k) ∧ Aside0 (wc.heap[gb266]? = some (.cells #[.int .i64 a0_0, .int .i64 a0_1, .int .i64 a0_2, .int .i64 a0_3, .int .i64 a0_4, .int .i64 a0_5] 93 (0, 0))) ∧ Aside0 (Below w.heap.size w wc))
 case first =>
  have H := HC4.out
  clear HC4
  by_cases c6 : a2 = true
  ·subst c6
   have H1 : ((datetime_valid.f k a0_0 a0_1 a0_2 a0_3 a0_4 a0_5).bind fun t267 => (datetime_read.j0 k a1 (!t267) a0_0 a0_1 a0_2 a0_3 a0_4 a0_5)) = some (r1, r2, r3) := by rw [if_pos rfl] at H; exact H
   clear H
   have H := H1
   clear H1
   replace H := Option.bind_eq_some_iff.mp H
   obtain ⟨t267, A70, H⟩ := H
   replace H : (datetime_read.j0 k a1 (!t267) a0_0 a0_1 a0_2 a0_3 a0_4 a0_5) = some (r1, r2, r3) := H
   have A7 := Aside0.mk A70
   clear A70
   have H' := Aside0.mk H
   clear H
   obtain ⟨hcz8_0, hcz8_1, hcz8_2, hcz8_3, hcz8_4, hcz8_5⟩ := cz_6 BK266.out
   obtain ⟨hfz8_0, hfz8_1, hfz8_2, hfz8_3, hfz8_4, hfz8_5⟩ := fz_6 BK266.out
   go_wp2_with (first | (go_at_call 91; (with_reducible refine (datetime_valid.calls k a0_0 a0_1 a0_2 a0_3 a0_4 a0_5 t267 _ A7.out).mono ?_); rintro e w9 ⟨rfl, hb⟩; have n0_ := Aside0.mk (blk_below (g := gb266) (o := .cells #[.int .i64 a0_0, .int .i64 a0_1, .int .i64 a0_2, .int .i64 a0_3, .int .i64 a0_4, .int .i64 a0_5] 93 (0, 0)) (by (with_reducible repeat (first | refine blk_drewN ?_ _ | refine blk_drew ?_ | refine blk_alloc ?_ _)); exact BK266.out) hb); have n1_ := Aside0.mk (below_step (by repeat (first | (with_reducible first | exact HB.out | apply below_alloc | apply pw_below_drewN | apply below_drew1 | refine below_set ?_ GE266.out) | exact HB.out)) hb); clear BK266; clear HB; have BK266 := n0_; have HB := n1_; clear n0_ n1_; (try clear hb); (try clear hb2); (try clear hk); (try clear hi)))
   go_meet
   case rel => exact ⟨_, (!t267), (by first | rfl | (simp; done) | (simp [*]; done)), H', ⟨by first | omega | exact Nat.le_refl _⟩, ⟨by (with_reducible repeat (first | refine blk_drewN ?_ _ | refine blk_drew ?_ | refine blk_alloc ?_ _)); exact BK266.out⟩, ⟨by repeat (first | (with_reducible first | exact HB.out | apply below_alloc | apply pw_below_drewN | apply below_drew1 | refine below_set ?_ GE266.out) | exact HB.out)⟩⟩
  ·replace c6 := Bool.eq_false_iff.mpr c6
   subst c6
   have H1 : (datetime_read.j0 k a1 true a0_0 a0_1 a0_2 a0_3 a0_4 a0_5) = some (r1, r2, r3) := by rw [if_neg (show ¬ (false = true) by decide)] at H; exact H
   clear H
   have H := H1
   clear H1
   have H' := Aside0.mk H
   clear H
   go_wp2
   go_meet
   case rel => exact ⟨_, (true), (by first | rfl | (simp; done) | (simp [*]; done)), H', ⟨by first | omega | exact Nat.le_refl _⟩, ⟨by (with_reducible repeat (first | refine blk_drewN ?_ _ | refine blk_drew ?_ | refine blk_alloc ?_ _)); exact BK266.out⟩, ⟨by repeat (first | (with_reducible first | exact HB.out | apply below_alloc | apply pw_below_drewN | apply below_drew1 | refine below_set ?_ GE266.out) | exact HB.out)⟩⟩
 case rest =>
  clear HC4
  try clear p2
  try clear c6
  try clear hcz8_0 hcz8_1 hcz8_2 hcz8_3 hcz8_4 hcz8_5
  try clear hfz8_0 hfz8_1 hfz8_2 hfz8_3 hfz8_4 hfz8_5
  obtain ⟨kq, x17_3, rfl, HA, HJ3, BK266, HB⟩ := hcut
  cases kq with
  | zero => exact absurd HA.out (by simp [datetime_read.j0])
  | succ kj3 =>
   have H := HA.out
   clear HA
   simp only [datetime_read.j0] at H
   by_cases c10 : x17_3 = true
   ·subst c10
    have H1 : (some (0, 0, 10)) = some (r1, r2, r3) := by rw [if_pos rfl] at H; exact H
    clear H
    have H := H1
    clear H1
    simp only [Option.some.injEq, Prod.mk.injEq] at H
    obtain ⟨rfl, rfl, rfl⟩ := H
    go_wp2
    go_ret3
    exact ⟨by first | rfl | (simp [errW_none, errW_some] <;> rfl) | (simp [*, errW_none, errW_some] <;> rfl), by repeat (first | (with_reducible first | exact HB.out | apply below_alloc | apply pw_below_drewN | apply below_drew1 | refine below_set ?_ GE266.out) | exact HB.out)⟩
   ·replace c10 := Bool.eq_false_iff.mpr c10
    subst c10
    have H1 : ((datetime_Join.f kj3 a0_0 a0_1 a0_2 a0_3 a0_4 a0_5 a1).bind fun bt268 => (if bt268.2 = 0 then (some (bt268.1, a1, 0)) else (some (0, 0, 2)))) = some (r1, r2, r3) := by rw [if_neg (show ¬ (false = true) by decide)] at H; exact H
    clear H
    have H := H1
    clear H1
    replace H := Option.bind_eq_some_iff.mp H
    obtain ⟨⟨t268, t269⟩, A110, H⟩ := H
    replace H : (if t269 = 0 then (some (t268, a1, 0)) else (some (0, 0, 2))) = some (r1, r2, r3) := H
    have A11 := Aside0.mk A110
    clear A110
    by_cases c12 : t269 = 0
    ·rw [if_pos c12] at H
     have c12b0 : (t269 == 0) = true := beq_iff_eq.mpr c12
     have c12b1 : (t269 != 0) = false := bne_eq_false_iff_eq.mpr c12
     clear c12
     simp only [Option.some.injEq, Prod.mk.injEq] at H
     obtain ⟨rfl, rfl, rfl⟩ := H
     obtain ⟨hcz13_0, hcz13_1, hcz13_2, hcz13_3, hcz13_4, hcz13_5⟩ := cz_6 BK266.out
     obtain ⟨hfz13_0, hfz13_1, hfz13_2, hfz13_3, hfz13_4, hfz13_5⟩ := fz_6 BK266.out
     go_wp2_with (first | ((with_reducible refine gate_callee (f := 92) rfl ?_); refine goesL_ (some 21) rfl rfl Try.func92 (by kernel_rfl) rfl #[.agg #[.int .i64 a0_0, .int .i64 a0_1, .int .i64 a0_2, .int .i64 a0_3, .int .i64 a0_4, .int .i64 a0_5], .int .i64 a1] rfl (by (try simp only [List.map_toArray, List.map_cons, List.map_nil]); first | done | rfl | (simp only [List.length_drop, List.length_take]; rfl)) ?_; (with_reducible refine (datetime_Join.calls kj3 a0_0 a0_1 a0_2 a0_3 a0_4 a0_5 a1 t268 t269 _ A11.out).mono ?_); rintro e w14 ⟨rfl, hb⟩; refine ⟨_, rfl, ?_⟩; have n0_ := Aside0.mk (blk_below (g := gb266) (o := .cells #[.int .i64 a0_0, .int .i64 a0_1, .int .i64 a0_2, .int .i64 a0_3, .int .i64 a0_4, .int .i64 a0_5] 93 (0, 0)) (by (with_reducible repeat (first | refine blk_drewN ?_ _ | refine blk_drew ?_ | refine blk_alloc ?_ _)); exact BK266.out) hb); have n1_ := Aside0.mk (below_step (by repeat (first | (with_reducible first | exact HB.out | apply below_alloc | apply pw_below_drewN | apply below_drew1 | refine below_set ?_ GE266.out) | exact HB.out)) hb); clear BK266; clear HB; have BK266 := n0_; have HB := n1_; clear n0_ n1_; (try clear hb); (try clear hb2); (try clear hk); (try clear hi)))
     go_ret3
     exact ⟨by first | rfl | (simp [errW_none, errW_some] <;> rfl) | (simp [*, errW_none, errW_some] <;> rfl), by repeat (first | (with_reducible first | exact HB.out | apply below_alloc | apply pw_below_drewN | apply below_drew1 | refine below_set ?_ GE266.out) | exact HB.out)⟩
    ·rw [if_neg c12] at H
     have c12b0 : (t269 == 0) = false := beq_eq_false_iff_ne.mpr c12
     have c12b1 : (t269 != 0) = true := bne_iff_ne.mpr c12
     simp only [Option.some.injEq, Prod.mk.injEq] at H
     obtain ⟨rfl, rfl, rfl⟩ := H
     obtain ⟨hcz15_0, hcz15_1, hcz15_2, hcz15_3, hcz15_4, hcz15_5⟩ := cz_6 BK266.out
     obtain ⟨hfz15_0, hfz15_1, hfz15_2, hfz15_3, hfz15_4, hfz15_5⟩ := fz_6 BK266.out
     go_wp2_with (first | ((with_reducible refine gate_callee (f := 92) rfl ?_); refine goesL_ (some 21) rfl rfl Try.func92 (by kernel_rfl) rfl #[.agg #[.int .i64 a0_0, .int .i64 a0_1, .int .i64 a0_2, .int .i64 a0_3, .int .i64 a0_4, .int .i64 a0_5], .int .i64 a1] rfl (by (try simp only [List.map_toArray, List.map_cons, List.map_nil]); first | done | rfl | (simp only [List.length_drop, List.length_take]; rfl)) ?_; (with_reducible refine (datetime_Join.calls kj3 a0_0 a0_1 a0_2 a0_3 a0_4 a0_5 a1 t268 t269 _ A11.out).mono ?_); rintro e w16 ⟨rfl, hb⟩; refine ⟨_, rfl, ?_⟩; have n0_ := Aside0.mk (blk_below (g := gb266) (o := .cells #[.int .i64 a0_0, .int .i64 a0_1, .int .i64 a0_2, .int .i64 a0_3, .int .i64 a0_4, .int .i64 a0_5] 93 (0, 0)) (by (with_reducible repeat (first | refine blk_drewN ?_ _ | refine blk_drew ?_ | refine blk_alloc ?_ _)); exact BK266.out) hb); have n1_ := Aside0.mk (below_step (by repeat (first | (with_reducible first | exact HB.out | apply below_alloc | apply pw_below_drewN | apply below_drew1 | refine below_set ?_ GE266.out) | exact HB.out)) hb); clear BK266; clear HB; have BK266 := n0_; have HB := n1_; clear n0_ n1_; (try clear hb); (try clear hb2); (try clear hk); (try clear hi)))
     go_ret3
     exact ⟨by first | rfl | (simp [errW_none, errW_some] <;> rfl) | (simp [*, errW_none, errW_some] <;> rfl), by repeat (first | (with_reducible first | exact HB.out | apply below_alloc | apply pw_below_drewN | apply below_drew1 | refine below_set ?_ GE266.out) | exact HB.out)⟩

/-! ### datetime_ReadStamp: function 38 -/
theorem wraps_i64 (n : Int) (h₀ : 0 ≤ n) (h₁ : n < 2 ^ 63) : IntKind.i64.wrap n = n := by rw [IntKind.wrap_i64]; omega
theorem or_bytes (a b : Int) (ha : 0 ≤ a ∧ a < 256) (hb : 0 ≤ b ∧ b < 256) : bits .or .i64 a (b * 256) = a + b * 256 := by
 have e : bits .or .i64 a (b * 256) = bits .or .i64 (b * 256) a := by simp only [bits, BitVec.or_comm]
 rw [e, bits_join .i64 63 (by decide) wraps_i64 8 (b * 256) a (by omega) (by omega) (by omega) (by omega) (by omega) (by omega)]
 omega
theorem and_4095 (n : Int) (h0 : 0 ≤ n) (h1 : n < 65536) : bits .and .i64 n 4095 = n % 4096 := bits_mask .i64 63 (by decide) wraps_i64 12 (by decide) n h0 (by omega)
theorem bt_range (s : ByteArray) (i : Int) : 0 ≤ bt s i ∧ bt s i < 256 := by
 unfold bt
 split
 ·rename_i h; exact ⟨Int.natCast_nonneg _, by have := (s[i.toNat]'h).toNat_lt; omega⟩
 ·omega
theorem wr_bt (s : ByteArray) (i : Int) : wrap64 (bt s i) = bt s i := by have := bt_range s i; unfold wrap64; omega
theorem wr_bt256 (s : ByteArray) (i : Int) : wrap64 (bt s i * 256) = bt s i * 256 := by have := bt_range s i; unfold wrap64; omega
def zoneB (z : Int) : Bool := decide (-1440 ≤ z ∧ z ≤ 1440)
theorem isZone_is (z : Int) : datetime_isZone.f z = some (zoneB z) := by
 unfold datetime_isZone.f zoneB
 by_cases h : z ≥ -1440
 ·rw [if_pos h]; congr 1; exact decide_eq_decide.mpr (by omega)
 ·rw [if_neg h]; congr 1; exact (decide_eq_false (by omega)).symm
def stamp_z (z0 : Int) : Int := if z0 ≥ 2048 then z0 - 4096 else z0
def stamp_kind (c z : Int) : Int × Bool := if c = 0 ∨ (c = 1 ∧ z = -2047) then (0, true) else (z, decide (c ≤ 1) && zoneB z)
theorem stamp_kind_1 {c z : Int} (h : c = 0 ∨ (c = 1 ∧ z = -2047)) : stamp_kind c z = (0, true) := by unfold stamp_kind; rw [if_pos h]
theorem stamp_kind_2 {c z : Int} (h : ¬ (c = 0 ∨ (c = 1 ∧ z = -2047))) (h2 : 1 < c) : stamp_kind c z = (z, false) := by unfold stamp_kind; rw [if_neg h, decide_eq_false (by omega)]; rfl
theorem stamp_kind_3 {c z : Int} (h : ¬ (c = 0 ∨ (c = 1 ∧ z = -2047))) (h2 : ¬ 1 < c) : stamp_kind c z = (z, zoneB z) := by unfold stamp_kind; rw [if_neg h, decide_eq_true (by omega)]; rfl
def lowN (s : ByteArray) : Nat → Bool
 | 0 => true
 | n + 1 => lowN s n && decide (bt s (9 + (n : Int)) ≤ 99)
theorem rs_bytesBelow (w : World) (e : TypeId) (s : ByteArray) : Below w.heap.size w (Lib.bytesWorld w e s) :=
 ⟨rfl, rfl, rfl, by rw [Lib.bytesWorld_size]; omega, fun i hi => Lib.bytesWorld_at_old w e s i hi⟩
theorem extract_byte (s : ByteArray) (j : Nat) (hj : j < 3) (hs : s.size = 12) : some (Value.int .u8 ((s.extract 9 12).data.toList.getD j 0).toNat) = some (.int .u8 (bt s (9 + (j : Int)))) := by
 have hl : 9 + j < s.size := by omega
 have e : (9 + (j : Int)).toNat = 9 + j := by omega
 have : (s.extract 9 12).data.toList.getD j 0 = s[9 + j] := by
  rw [List.getD_eq_getElem?_getD]
  simp [ByteArray.data_extract, Array.getElem?_extract]
  rw [List.getElem?_take_of_lt hj, List.getElem?_drop]
  rw [List.getElem?_eq_getElem (by rw [Array.length_toList]; exact hl)]
  rfl
 rw [this]
 unfold bt
 simp only [e]
 rw [dif_pos hl]
def low3 (s : ByteArray) : Bool := decide (bt s 9 ≤ 99) && decide (bt s 10 ≤ 99) && decide (bt s 11 ≤ 99)
theorem low3_is (s : ByteArray) : lowN s 3 = low3 s := by simp [lowN, low3]
def datetime_ReadStamp.f (k : Nat) (a0 : ByteArray) : Option (Int × Int × Int) := if (a0.size : Int) = 12 then datetime_read.f k (bt a0 2 + bt a0 3 * 256) (bt a0 4) (bt a0 5) (bt a0 6) (bt a0 7) (bt a0 8) (stamp_kind ((bt a0 0 + bt a0 1 * 256) / 4096) (stamp_z ((bt a0 0 + bt a0 1 * 256) % 4096))).1 ((stamp_kind ((bt a0 0 + bt a0 1 * 256) / 4096) (stamp_z ((bt a0 0 + bt a0 1 * 256) % 4096))).2 && low3 a0) else some (0, 0, 1)
theorem datetime_ReadStamp.mono (a0 : ByteArray) (k : Nat) : LeO (datetime_ReadStamp.f k a0) (datetime_ReadStamp.f (k + 1) a0) := by
 unfold datetime_ReadStamp.f
 exact LeO.ite (datetime_read.mono _ _ _ _ _ _ _ _ _) (LeO.refl _)
set_option maxHeartbeats 8000000 in
set_option maxRecDepth 100000 in
theorem datetime_ReadStamp.calls (k : Nat) (a0 : ByteArray) (r1 r2 r3 : Int) (w : World) (h : datetime_ReadStamp.f k a0 = some (r1, r2, r3)) :
  Calls Try.prog 38 #[.string a0] w fun e w' => e = .returned (.tuple #[.int .i64 r1, .int .i64 r2, .int .i64 r3]) ∧ Below w.heap.size w w' := by
 unfold datetime_ReadStamp.f at h
 by_cases c1 : (a0.size : Int) = 12
 ·rw [if_pos c1] at h
  have hsz : a0.size = 12 := by omega
  have d1 : ((a0.size : Int) != 12) = false := by rw [c1]; rfl
  have b0 : ((a0[0]'(by omega)).toNat : Int) = bt a0 0 := bt_at a0 0 (by show 0 < a0.size; omega)
  have b1 : ((a0[1]'(by omega)).toNat : Int) = bt a0 1 := bt_at a0 1 (by show 1 < a0.size; omega)
  have q0 : ((0 : Int) < (a0.size : Int)) = True := eq_true (by omega)
  have q1 : ((1 : Int) < (a0.size : Int)) = True := eq_true (by omega)
  have r0 := bt_range a0 0
  have r1' := bt_range a0 1
  have e0 := or_bytes (bt a0 0) (bt a0 1) r0 r1'
  have hk0 : 0 ≤ bt a0 0 + bt a0 1 * 256 ∧ bt a0 0 + bt a0 1 * 256 < 65536 := by omega
  obtain ⟨r00, r01⟩ := r0
  obtain ⟨r10, r11⟩ := r1'
  obtain ⟨kd, hkd⟩ : ∃ n, bt a0 0 + bt a0 1 * 256 = n := ⟨_, rfl⟩
  rw [hkd] at e0 h hk0
  obtain ⟨hk1, hk2⟩ := hk0
  have e1 := and_4095 kd hk1 hk2
  obtain ⟨z0, hz0⟩ : ∃ n, kd % 4096 = n := ⟨_, rfl⟩
  have hz1 : 0 ≤ z0 := by omega
  have hz2 : z0 < 4096 := by omega
  obtain ⟨c, hc⟩ : ∃ n, kd / 4096 = n := ⟨_, rfl⟩
  have hc1 : 0 ≤ c := by omega
  have hc2 : c < 16 := by omega
  rw [hz0, hc] at h
  rw [hz0] at e1
  have H := Aside0.mk h
  have HSZ := Aside0.mk hsz
  clear h hkd hz0 hsz
  go_enter Try.func38, Try.ntmps38
  go_wp2_with fail
  go_quiet (fail)
  go_upto_if 24 with fail
  go_cut [6] from 25 to 26 (fun v6 wc => v6 = .int .i64 (stamp_z z0) ∧ Aside0 (wc = w.drewN nq))
  case first =>
   clear H
   by_cases hz : 2048 ≤ z0
   ·have ez : stamp_z z0 = z0 - 4096 := by unfold stamp_z; rw [if_pos hz]
    have EZ := Aside0.mk ez
    clear ez
    go_wp2
    go_meet
    case rel => exact ⟨by rw [EZ.out], ⟨rfl⟩⟩
   ·have ez : stamp_z z0 = z0 := by unfold stamp_z; rw [if_neg hz]
    have EZ := Aside0.mk ez
    clear ez
    go_wp2
    go_meet
    case rel => exact ⟨by rw [EZ.out], ⟨rfl⟩⟩
  obtain ⟨rfl, ⟨rfl⟩⟩ := hcut
  obtain ⟨z, hz⟩ : ∃ n, stamp_z z0 = n := ⟨_, rfl⟩
  rw [hz]
  have HH : Aside0 (datetime_read.f k (bt a0 2 + bt a0 3 * 256) (bt a0 4) (bt a0 5) (bt a0 6) (bt a0 7) (bt a0 8) (stamp_kind c z).1 ((stamp_kind c z).2 && low3 a0) = some (r1, r2, r3)) := ⟨by have := H.out; rw [hz] at this; exact this⟩
  clear H hz e1 hz1 hz2
  go_upto_block 0 with fail
  go_cut [6, 7] from 27 to 48 (fun v6 v7 wc => ∃ zz rr, v6 = .int .i64 zz ∧ v7 = .bool rr ∧ Aside0 (stamp_kind c z = (zz, rr)) ∧ Aside0 (Drawn0 w wc))
  case first =>
   clear HH
   by_cases k1 : c = 0 ∨ (c = 1 ∧ z = -2047)
   ·have ek := stamp_kind_1 k1
    have EK := Aside0.mk ek
    clear ek
    by_cases k2 : c = 0
    ·subst k2
     go_wp2
     go_meet
     case rel => exact ⟨_, _, rfl, rfl, EK, ⟨⟨_, rfl⟩⟩⟩
    ·have k3 : c = 1 := by omega
     have k4 : z = -2047 := by omega
     subst k3 k4
     clear k1 k2
     go_wp2
     go_meet
     case rel => exact ⟨_, _, rfl, rfl, EK, ⟨⟨_, rfl⟩⟩⟩
   ·by_cases k2 : 1 < c
    ·have ek := stamp_kind_2 k1 k2
     have EK := Aside0.mk ek
     have g1 : (c == 0) = false := beq_eq_false_iff_ne.mpr (by omega)
     have g2 : (c == 1) = false := beq_eq_false_iff_ne.mpr (by omega)
     have g3 := decide_eq_true k2
     clear ek k1
     go_wp2
     go_meet
     case rel => exact ⟨_, _, rfl, rfl, EK, ⟨⟨_, rfl⟩⟩⟩
    ·have ek := stamp_kind_3 k1 k2
     have EK := Aside0.mk ek
     have k3 : c = 1 := by omega
     subst k3
     have g3 : (z == -2047) = false := beq_eq_false_iff_ne.mpr (fun e => k1 (.inr ⟨rfl, e⟩))
     obtain ⟨zb, hzb⟩ : ∃ b, zoneB z = b := ⟨_, rfl⟩
     have HZ := Aside0.mk ((isZone_is z).trans (by rw [hzb]))
     have EB := Aside0.mk hzb
     clear ek k1 k2 hzb
     go_wp2_with (go_at_call 62; (with_reducible refine (datetime_isZone.calls z zb _ HZ.out).mono ?_); rintro e w' ⟨rfl, ⟨nd, rfl⟩⟩)
     all_goals
      go_meet
      case rel => exact ⟨_, _, rfl, rfl, ⟨by rw [EK.out, EB.out]; simp_all⟩, ⟨by repeat (first | exact Drawn0.refl _ | apply Drawn0.step)⟩⟩
  obtain ⟨zz, rr, rfl, rfl, ⟨hk⟩, ⟨hd⟩⟩ := hcut
  have H : Aside0 (datetime_read.f k (bt a0 2 + bt a0 3 * 256) (bt a0 4) (bt a0 5) (bt a0 6) (bt a0 7) (bt a0 8) zz (rr && low3 a0) = some (r1, r2, r3)) := ⟨by have := HH.out; rw [hk] at this; exact this⟩
  have HB := Aside0.mk hd.below
  clear HH hk hd
  go_upto_region 11 with fail
  have hsz := HSZ.out
  have hcell : ∀ j, j < 3 → (Lib.bytesWorld wc 5 (a0.extract 9 12)).cell? ⟨wc.heap.size, j, none⟩ = some (.int .u8 (bt a0 (9 + (j : Int)))) := by
   intro j hj
   have hx : (a0.extract 9 12).size = 3 := by rw [ByteArray.size_extract]; omega
   rw [Lib.bytesWorld_cell wc 5 (a0.extract 9 12) j (by omega), extract_byte a0 j hj hsz]
  have hbw : Below w.heap.size w (Lib.bytesWorld wc 5 (a0.extract 9 12)) := HB.out.trans (Below.mono (rs_bytesBelow wc 5 (a0.extract 9 12)) HB.out.size)
  have HCELL := Aside0.mk hcell
  have HBW := Aside0.mk hbw
  clear hcell hbw HB
  have hconv := fun (s : ByteArray) => Lib.run_convert_string_bytes (P := Try.prog) wc 9 54 5 s Try.underlying9 Try.underlying54 Try.underlying5
  have hx3 : (a0.extract 9 12).size = 3 := by rw [ByteArray.size_extract]; omega
  go_wp2_with fail
  clear hconv hx3
  obtain ⟨W, hW⟩ : ∃ W, Lib.bytesWorld wc 5 (a0.extract 9 12) = W := ⟨_, rfl⟩
  rw [hW] at HCELL HBW ⊢
  clear hW
  go_loopg [7, 9, 53] 3 (fun g v7 v9 v53 w' => ∃ (i : Nat) (u : Value) (b : Bool), i + g = 3 ∧ v9 = u ∧ v53 = .int .i64 i ∧ v7 = .bool b ∧ Aside0 (b = (rr && lowN a0 i)) ∧ w' = W)
  case atStart => exact ⟨0, _, rr, rfl, rfl, rfl, rfl, ⟨by simp [lowN]⟩, rfl⟩
  case round =>
   obtain ⟨i, u, b, hig, rfl, rfl, rfl, HL, rfl⟩ := hrel
   cases gk with
   | zero =>
    obtain rfl : i = 3 := by omega
    have h := H.out
    rw [← low3_is, ← HL.out] at h
    have HF := Aside0.mk h
    clear h H HL HCELL
    have b2 : ((a0[2]'(by omega)).toNat : Int) = bt a0 2 := bt_at a0 2 (by show 2 < a0.size; omega)
    have b3 : ((a0[3]'(by omega)).toNat : Int) = bt a0 3 := bt_at a0 3 (by show 3 < a0.size; omega)
    have b4 : ((a0[4]'(by omega)).toNat : Int) = bt a0 4 := bt_at a0 4 (by show 4 < a0.size; omega)
    have b5 : ((a0[5]'(by omega)).toNat : Int) = bt a0 5 := bt_at a0 5 (by show 5 < a0.size; omega)
    have b6 : ((a0[6]'(by omega)).toNat : Int) = bt a0 6 := bt_at a0 6 (by show 6 < a0.size; omega)
    have b7 : ((a0[7]'(by omega)).toNat : Int) = bt a0 7 := bt_at a0 7 (by show 7 < a0.size; omega)
    have b8 : ((a0[8]'(by omega)).toNat : Int) = bt a0 8 := bt_at a0 8 (by show 8 < a0.size; omega)
    have s2 := bt_range a0 2
    have s3 := bt_range a0 3
    have e2 := or_bytes (bt a0 2) (bt a0 3) s2 s3
    have w2 := wr_bt a0 2
    have w3 := wr_bt a0 3
    have w4 := wr_bt a0 4
    have w5 := wr_bt a0 5
    have w6 := wr_bt a0 6
    have w7 := wr_bt a0 7
    have w8 := wr_bt a0 8
    have w9 := wr_bt256 a0 3
    clear s2 s3
    obtain ⟨yr, hyr⟩ : ∃ n, bt a0 2 + bt a0 3 * 256 = n := ⟨_, rfl⟩
    have h := HF.out
    rw [hyr] at e2 h
    clear HF hyr
    have HF := Aside0.mk h
    clear h
    go_wp2_with fail
    refine start_ (n := 33) (S := fun w' => True) (ds := []) #[false, false, false, false, false, false, false, false, false, false, false, false, false, false, false, false, false, false, false, false, false, false, false, false, false, false, false, false, false, false, false, false, false] (by kernel_rfl) rfl rfl trivial (fun hHeld => ?_)
    refine pure_ (i := 0) (N := some 63) (v := ?_) (a' := ?_) #[true, false, false, false, false, false, false, false, false, false, false, false, false, false, false, false, false, false, false, false, false, false, false, false, false, false, false, false, false, false, false, false, false] rfl rfl (by kernel_rfl) (fun _ _ _ h => h) (Or.inl ⟨by rfl, ?_⟩) ?_ ?_
    rotate_left
    ·intro w'
     go_simp
     with_reducible rfl
    rotate_left
    ·simp only [puts_]
     rfl
    refine pure_ (i := 3) (N := some 66) (v := ?_) (a' := ?_) #[true, false, false, true, false, false, false, false, false, false, false, false, false, false, false, false, false, false, false, false, false, false, false, false, false, false, false, false, false, false, false, false, false] rfl rfl (by kernel_rfl) (fun _ _ _ h => h) (Or.inl ⟨by rfl, ?_⟩) ?_ ?_
    rotate_left
    ·intro w'
     go_simp
     with_reducible rfl
    rotate_left
    ·simp only [puts_]
     rfl
    refine pure_ (i := 8) (N := some 71) (v := ?_) (a' := ?_) #[true, false, false, true, false, false, false, false, true, false, false, false, false, false, false, false, false, false, false, false, false, false, false, false, false, false, false, false, false, false, false, false, false] rfl rfl (by kernel_rfl) (fun _ _ _ h => h) (Or.inl ⟨by rfl, ?_⟩) ?_ ?_
    rotate_left
    ·intro w'
     go_simp
     with_reducible rfl
    rotate_left
    ·simp only [puts_]
     rfl
    refine pure_ (i := 11) (N := some 74) (v := ?_) (a' := ?_) #[true, false, false, true, false, false, false, false, true, false, false, true, false, false, false, false, false, false, false, false, false, false, false, false, false, false, false, false, false, false, false, false, false] rfl rfl (by kernel_rfl) (fun _ _ _ h => h) (Or.inl ⟨by rfl, ?_⟩) ?_ ?_
    rotate_left
    ·intro w'
     go_simp
     with_reducible rfl
    rotate_left
    ·simp only [puts_]
     rfl
    refine pure_ (i := 14) (N := some 77) (v := ?_) (a' := ?_) #[true, false, false, true, false, false, false, false, true, false, false, true, false, false, true, false, false, false, false, false, false, false, false, false, false, false, false, false, false, false, false, false, false] rfl rfl (by kernel_rfl) (fun _ _ _ h => h) (Or.inl ⟨by rfl, ?_⟩) ?_ ?_
    rotate_left
    ·intro w'
     go_simp
     with_reducible rfl
    rotate_left
    ·simp only [puts_]
     rfl
    refine pure_ (i := 17) (N := some 80) (v := ?_) (a' := ?_) #[true, false, false, true, false, false, false, false, true, false, false, true, false, false, true, false, false, true, false, false, false, false, false, false, false, false, false, false, false, false, false, false, false] rfl rfl (by kernel_rfl) (fun _ _ _ h => h) (Or.inl ⟨by rfl, ?_⟩) ?_ ?_
    rotate_left
    ·intro w'
     go_simp
     with_reducible rfl
    rotate_left
    ·simp only [puts_]
     rfl
    refine pure_ (i := 20) (N := some 83) (v := ?_) (a' := ?_) #[true, false, false, true, false, false, false, false, true, false, false, true, false, false, true, false, false, true, false, false, true, false, false, false, false, false, false, false, false, false, false, false, false] rfl rfl (by kernel_rfl) (fun _ _ _ h => h) (Or.inl ⟨by rfl, ?_⟩) ?_ ?_
    rotate_left
    ·intro w'
     go_simp
     with_reducible rfl
    rotate_left
    ·simp only [puts_]
     rfl
    refine pure_ (i := 24) (N := some 87) (v := ?_) (a' := ?_) #[true, false, false, true, false, false, false, false, true, false, false, true, false, false, true, false, false, true, false, false, true, false, false, false, true, false, false, false, false, false, false, false, false] rfl rfl (by kernel_rfl) (fun _ _ _ h => h) (Or.inl ⟨by rfl, ?_⟩) ?_ ?_
    rotate_left
    ·intro w'
     go_simp
     with_reducible rfl
    rotate_left
    ·simp only [puts_]
     rfl
    refine pure_ (i := 25) (N := some 88) (v := ?_) (a' := ?_) #[true, false, false, true, false, false, false, false, true, false, false, true, false, false, true, false, false, true, false, false, true, false, false, false, true, true, false, false, false, false, false, false, false] rfl rfl (by kernel_rfl) (fun _ _ _ h => h) (Or.inl ⟨by rfl, ?_⟩) ?_ ?_
    rotate_left
    ·intro w'
     go_simp
     with_reducible rfl
    rotate_left
    ·simp only [puts_]
     rfl
    refine take_ (i := 1) (N := some 64) (v := ?_) (a' := ?_) #[true, true, false, true, false, false, false, false, true, false, false, true, false, false, true, false, false, true, false, false, true, false, false, false, true, true, false, false, false, false, false, false, false] rfl rfl (by kernel_rfl) (fun _ _ _ h => h) (Or.inl ⟨by rfl, ?_⟩) hHeld ?_ ?_
    rotate_left
    ·intro w' _
     go_simp
     with_reducible rfl
    rotate_left
    ·simp only [puts_]
     rfl
    refine pure_ (i := 2) (N := some 65) (v := ?_) (a' := ?_) #[true, true, true, true, false, false, false, false, true, false, false, true, false, false, true, false, false, true, false, false, true, false, false, false, true, true, false, false, false, false, false, false, false] rfl rfl (by kernel_rfl) (fun _ _ _ h => h) (Or.inl ⟨by rfl, ?_⟩) ?_ ?_
    rotate_left
    ·intro w'
     go_simp
     with_reducible rfl
    rotate_left
    ·simp only [puts_]
     rfl
    refine take_ (i := 4) (N := some 67) (v := ?_) (a' := ?_) #[true, true, true, true, true, false, false, false, true, false, false, true, false, false, true, false, false, true, false, false, true, false, false, false, true, true, false, false, false, false, false, false, false] rfl rfl (by kernel_rfl) (fun _ _ _ h => h) (Or.inl ⟨by rfl, ?_⟩) hHeld ?_ ?_
    rotate_left
    ·intro w' _
     go_simp
     with_reducible rfl
    rotate_left
    ·simp only [puts_]
     rfl
    refine pure_ (i := 5) (N := some 68) (v := ?_) (a' := ?_) #[true, true, true, true, true, true, false, false, true, false, false, true, false, false, true, false, false, true, false, false, true, false, false, false, true, true, false, false, false, false, false, false, false] rfl rfl (by kernel_rfl) (fun _ _ _ h => h) (Or.inl ⟨by rfl, ?_⟩) ?_ ?_
    rotate_left
    ·intro w'
     go_simp
     with_reducible rfl
    rotate_left
    ·simp only [puts_]
     rfl
    refine pure_ (i := 6) (N := some 69) (v := ?_) (a' := ?_) #[true, true, true, true, true, true, true, false, true, false, false, true, false, false, true, false, false, true, false, false, true, false, false, false, true, true, false, false, false, false, false, false, false] rfl rfl (by kernel_rfl) (fun _ _ _ h => h) (Or.inl ⟨by rfl, ?_⟩) ?_ ?_
    rotate_left
    ·intro w'
     go_simp
     with_reducible rfl
    rotate_left
    ·simp only [puts_]
     rfl
    refine pure_ (i := 7) (N := some 70) (v := ?_) (a' := ?_) #[true, true, true, true, true, true, true, true, true, false, false, true, false, false, true, false, false, true, false, false, true, false, false, false, true, true, false, false, false, false, false, false, false] rfl rfl (by kernel_rfl) (fun _ _ _ h => h) (Or.inl ⟨by rfl, ?_⟩) ?_ ?_
    rotate_left
    ·intro w'
     go_simp
     with_reducible rfl
    rotate_left
    ·simp only [puts_]
     rfl
    refine take_ (i := 9) (N := some 72) (v := ?_) (a' := ?_) #[true, true, true, true, true, true, true, true, true, true, false, true, false, false, true, false, false, true, false, false, true, false, false, false, true, true, false, false, false, false, false, false, false] rfl rfl (by kernel_rfl) (fun _ _ _ h => h) (Or.inl ⟨by rfl, ?_⟩) hHeld ?_ ?_
    rotate_left
    ·intro w' _
     go_simp
     with_reducible rfl
    rotate_left
    ·simp only [puts_]
     rfl
    refine pure_ (i := 10) (N := some 73) (v := ?_) (a' := ?_) #[true, true, true, true, true, true, true, true, true, true, true, true, false, false, true, false, false, true, false, false, true, false, false, false, true, true, false, false, false, false, false, false, false] rfl rfl (by kernel_rfl) (fun _ _ _ h => h) (Or.inl ⟨by rfl, ?_⟩) ?_ ?_
    rotate_left
    ·intro w'
     go_simp
     with_reducible rfl
    rotate_left
    ·simp only [puts_]
     rfl
    refine take_ (i := 12) (N := some 75) (v := ?_) (a' := ?_) #[true, true, true, true, true, true, true, true, true, true, true, true, true, false, true, false, false, true, false, false, true, false, false, false, true, true, false, false, false, false, false, false, false] rfl rfl (by kernel_rfl) (fun _ _ _ h => h) (Or.inl ⟨by rfl, ?_⟩) hHeld ?_ ?_
    rotate_left
    ·intro w' _
     go_simp
     with_reducible rfl
    rotate_left
    ·simp only [puts_]
     rfl
    refine pure_ (i := 13) (N := some 76) (v := ?_) (a' := ?_) #[true, true, true, true, true, true, true, true, true, true, true, true, true, true, true, false, false, true, false, false, true, false, false, false, true, true, false, false, false, false, false, false, false] rfl rfl (by kernel_rfl) (fun _ _ _ h => h) (Or.inl ⟨by rfl, ?_⟩) ?_ ?_
    rotate_left
    ·intro w'
     go_simp
     with_reducible rfl
    rotate_left
    ·simp only [puts_]
     rfl
    refine take_ (i := 15) (N := some 78) (v := ?_) (a' := ?_) #[true, true, true, true, true, true, true, true, true, true, true, true, true, true, true, true, false, true, false, false, true, false, false, false, true, true, false, false, false, false, false, false, false] rfl rfl (by kernel_rfl) (fun _ _ _ h => h) (Or.inl ⟨by rfl, ?_⟩) hHeld ?_ ?_
    rotate_left
    ·intro w' _
     go_simp
     with_reducible rfl
    rotate_left
    ·simp only [puts_]
     rfl
    refine pure_ (i := 16) (N := some 79) (v := ?_) (a' := ?_) #[true, true, true, true, true, true, true, true, true, true, true, true, true, true, true, true, true, true, false, false, true, false, false, false, true, true, false, false, false, false, false, false, false] rfl rfl (by kernel_rfl) (fun _ _ _ h => h) (Or.inl ⟨by rfl, ?_⟩) ?_ ?_
    rotate_left
    ·intro w'
     go_simp
     with_reducible rfl
    rotate_left
    ·simp only [puts_]
     rfl
    refine take_ (i := 18) (N := some 81) (v := ?_) (a' := ?_) #[true, true, true, true, true, true, true, true, true, true, true, true, true, true, true, true, true, true, true, false, true, false, false, false, true, true, false, false, false, false, false, false, false] rfl rfl (by kernel_rfl) (fun _ _ _ h => h) (Or.inl ⟨by rfl, ?_⟩) hHeld ?_ ?_
    rotate_left
    ·intro w' _
     go_simp
     with_reducible rfl
    rotate_left
    ·simp only [puts_]
     rfl
    refine pure_ (i := 19) (N := some 82) (v := ?_) (a' := ?_) #[true, true, true, true, true, true, true, true, true, true, true, true, true, true, true, true, true, true, true, true, true, false, false, false, true, true, false, false, false, false, false, false, false] rfl rfl (by kernel_rfl) (fun _ _ _ h => h) (Or.inl ⟨by rfl, ?_⟩) ?_ ?_
    rotate_left
    ·intro w'
     go_simp
     with_reducible rfl
    rotate_left
    ·simp only [puts_]
     rfl
    refine take_ (i := 21) (N := some 84) (v := ?_) (a' := ?_) #[true, true, true, true, true, true, true, true, true, true, true, true, true, true, true, true, true, true, true, true, true, true, false, false, true, true, false, false, false, false, false, false, false] rfl rfl (by kernel_rfl) (fun _ _ _ h => h) (Or.inl ⟨by rfl, ?_⟩) hHeld ?_ ?_
    rotate_left
    ·intro w' _
     go_simp
     with_reducible rfl
    rotate_left
    ·simp only [puts_]
     rfl
    refine pure_ (i := 22) (N := some 85) (v := ?_) (a' := ?_) #[true, true, true, true, true, true, true, true, true, true, true, true, true, true, true, true, true, true, true, true, true, true, true, false, true, true, false, false, false, false, false, false, false] rfl rfl (by kernel_rfl) (fun _ _ _ h => h) (Or.inl ⟨by rfl, ?_⟩) ?_ ?_
    rotate_left
    ·intro w'
     go_simp
     with_reducible rfl
    rotate_left
    ·simp only [puts_]
     rfl
    refine pure_ (i := 23) (N := some 86) (v := ?_) (a' := ?_) #[true, true, true, true, true, true, true, true, true, true, true, true, true, true, true, true, true, true, true, true, true, true, true, true, true, true, false, false, false, false, false, false, false] rfl rfl (by kernel_rfl) (fun _ _ _ h => h) (Or.inl ⟨by rfl, ?_⟩) ?_ ?_
    rotate_left
    ·intro w'
     go_simp
     with_reducible rfl
    rotate_left
    ·simp only [puts_]
     rfl
    refine one_ (i := 26) (N := some 89) #[true, true, true, true, true, true, true, true, true, true, true, true, true, true, true, true, true, true, true, true, true, true, true, true, true, true, true, false, false, false, false, false, false] rfl rfl (by kernel_rfl) (by decide) (fun K hK => ?_)
    refine goes_ Try.func63 (by kernel_rfl) rfl #[.agg #[.int .i64 yr, .int .i64 (bt a0 4), .int .i64 (bt a0 5), .int .i64 (bt a0 6), .int .i64 (bt a0 7), .int .i64 (bt a0 8)], .int .i64 zz, .bool b] (by rfl) rfl rfl (by simp only [List.map_toArray, List.map_cons, List.map_nil]; rfl) ?_
    with_reducible refine (datetime_read.calls k yr (bt a0 4) (bt a0 5) (bt a0 6) (bt a0 7) (bt a0 8) zz b r1 r2 r3 _ HF.out).mono ?_
    rintro e w9 ⟨rfl, hb⟩
    refine ⟨_, rfl, ?_⟩
    have HB9 := Aside0.mk (below_step (below_drew1 HBW.out) hb)
    clear hb
    refine hK.out _ _ trivial (fun hHeld => ?_)
    clear hK K
    refine norm_ (a' := ?_) ?_ ?_
    rotate_left
    ·show Act.put _ (some 89) _ = _
     simp only [puts_]
     rfl
    refine pure_ (i := 27) (N := some 90) (v := ?_) (a' := ?_) #[true, true, true, true, true, true, true, true, true, true, true, true, true, true, true, true, true, true, true, true, true, true, true, true, true, true, true, true, false, false, false, false, false] rfl rfl (by kernel_rfl) (fun _ _ _ h => h) (Or.inl ⟨by rfl, ?_⟩) ?_ ?_
    rotate_left
    ·intro w'
     go_simp
     with_reducible rfl
    rotate_left
    ·simp only [puts_]
     rfl
    refine pure_ (i := 28) (N := some 91) (v := ?_) (a' := ?_) #[true, true, true, true, true, true, true, true, true, true, true, true, true, true, true, true, true, true, true, true, true, true, true, true, true, true, true, true, true, false, false, false, false] rfl rfl (by kernel_rfl) (fun _ _ _ h => h) (Or.inl ⟨by rfl, ?_⟩) ?_ ?_
    rotate_left
    ·intro w'
     go_simp
     with_reducible rfl
    rotate_left
    ·simp only [puts_]
     rfl
    refine pure_ (i := 29) (N := some 92) (v := ?_) (a' := ?_) #[true, true, true, true, true, true, true, true, true, true, true, true, true, true, true, true, true, true, true, true, true, true, true, true, true, true, true, true, true, true, false, false, false] rfl rfl (by kernel_rfl) (fun _ _ _ h => h) (Or.inl ⟨by rfl, ?_⟩) ?_ ?_
    rotate_left
    ·intro w'
     go_simp
     with_reducible rfl
    rotate_left
    ·simp only [puts_]
     rfl
    refine pure_ (i := 30) (N := some 2) (v := ?_) (a' := ?_) #[true, true, true, true, true, true, true, true, true, true, true, true, true, true, true, true, true, true, true, true, true, true, true, true, true, true, true, true, true, true, true, false, false] rfl rfl (by kernel_rfl) (fun _ _ _ h => h) (Or.inl ⟨by rfl, ?_⟩) ?_ ?_
    rotate_left
    ·intro w'
     go_simp
     with_reducible rfl
    rotate_left
    ·simp only [puts_]
     rfl
    refine pure_ (i := 31) (N := some 3) (v := ?_) (a' := ?_) #[true, true, true, true, true, true, true, true, true, true, true, true, true, true, true, true, true, true, true, true, true, true, true, true, true, true, true, true, true, true, true, true, false] rfl rfl (by kernel_rfl) (fun _ _ _ h => h) (Or.inl ⟨by rfl, ?_⟩) ?_ ?_
    rotate_left
    ·intro w'
     go_simp
     with_reducible rfl
    rotate_left
    ·simp only [puts_]
     rfl
    refine pure_ (i := 32) (N := some 4) (v := ?_) (a' := ?_) #[true, true, true, true, true, true, true, true, true, true, true, true, true, true, true, true, true, true, true, true, true, true, true, true, true, true, true, true, true, true, true, true, true] rfl rfl (by kernel_rfl) (fun _ _ _ h => h) (Or.inl ⟨by rfl, ?_⟩) ?_ ?_
    rotate_left
    ·intro w'
     go_simp
     with_reducible rfl
    rotate_left
    ·simp only [puts_]
     rfl
    refine done_ (by kernel_rfl) ?_
    go_wp2
    go_ret3
    exact ⟨rfl, HB9.out⟩
   | succ g =>
    have hi : i < 3 := by omega
    have hcell := HCELL.out i hi
    obtain ⟨x, hx⟩ : ∃ x, bt a0 (9 + (i : Int)) = x := ⟨_, rfl⟩
    rw [hx] at hcell
    have HX := Aside0.mk hx
    clear hx
    cases b
    ·go_wp2
     go_roundg g
     case measure => omega
     case rel => exact ⟨i + 1, _, _, by omega, rfl, by first | rfl | (simp; done), rfl, ⟨by simp only [lowN]; rw [← Bool.and_assoc, ← HL.out]; rfl⟩, rfl⟩
    ·go_wp2
     go_roundg g
     case measure => omega
     case rel => exact ⟨i + 1, _, _, by omega, rfl, by first | rfl | (simp; done), rfl, ⟨by simp only [lowN]; rw [← Bool.and_assoc, ← HL.out, HX.out]; simp⟩, rfl⟩
 ·rw [if_neg c1] at h
  have e := Option.some.inj h
  simp only [Prod.mk.injEq] at e
  obtain ⟨rfl, rfl, rfl⟩ := e
  have d1 : ((a0.size : Int) != 12) = true := bne_iff_ne.mpr c1
  go_enter Try.func38, Try.ntmps38
  go_wp2
  go_ret3
  exact ⟨rfl, Below.refl _ _⟩

/-! ### allocation_read: function 66 -/
def allocation_read.f (k : Nat) (a0 : ByteArray) (a1 : Int) (a2 : Int) : Option (Int) := (endian_ReadLittle.f k a0 a1 a2).bind fun bt270 => (some bt270.1)
theorem allocation_read.mono : ∀ a0 a1 a2 k, LeO (allocation_read.f k a0 a1 a2) (allocation_read.f (k + 1) a0 a1 a2) := by
 intro a0 a1 a2 k
 unfold allocation_read.f
 repeat' first
   | (with_reducible exact endian_ReadLittle.mono _ _ _ _)
   | (with_reducible exact LeO.refl _)
   | (with_reducible exact LeO.none _)
   | (with_reducible refine LeO.ite ?_ ?_)
   | (with_reducible refine LeO.bind ?_ (fun _ => ?_))
   | exact endian_ReadLittle.mono _ _ _ _
   | exact LeO.none _
   | refine LeO.ite ?_ ?_
   | refine LeO.bind ?_ (fun _ => ?_)
set_option maxHeartbeats 8000000 in
set_option maxRecDepth 100000 in
theorem allocation_read.calls (k : Nat) (a0 : ByteArray) (a1 : Int) (a2 : Int) (r : Int) (w : World) (h : allocation_read.f k a0 a1 a2 = some r) :
  Calls Try.prog 66 #[.string a0, .int .i64 a1, .int .i64 a2] w fun e w' => e = .returned (.int .i64 r) ∧ Below w.heap.size w w' := by
 have HB := Aside0.mk (Below.refl w.heap.size w)
 have H : ((endian_ReadLittle.f k a0 a1 a2).bind fun bt270 => (some bt270.1)) = some r := h
 clear h
 replace H := Option.bind_eq_some_iff.mp H
 obtain ⟨⟨t270, t271⟩, A40, H⟩ := H
 replace H : (some t270) = some r := H
 have A4 := Aside0.mk A40
 clear A40
 obtain rfl := Option.some.inj H
 go_enter Try.func66, Try.ntmps66
 go_wp2_with (first | ((with_reducible refine gate_callee (f := 37) rfl ?_); refine goesL_ (some 13) rfl rfl Try.func37 (by kernel_rfl) rfl #[.string a0, .int .i64 a1, .int .i64 a2] rfl (by (try simp only [List.map_toArray, List.map_cons, List.map_nil]); first | done | rfl | (simp only [List.length_drop, List.length_take]; rfl)) ?_; (with_reducible refine (endian_ReadLittle.calls k a0 a1 a2 t270 t271 _ A4.out).mono ?_); rintro e w5 ⟨rfl, hb⟩; refine ⟨_, rfl, ?_⟩; have n0_ := Aside0.mk (below_step (by repeat (first | (with_reducible first | exact HB.out | apply below_alloc | apply pw_below_drewN | apply below_drew1) | exact HB.out)) hb); clear HB; have HB := n0_; clear n0_; (try clear hb); (try clear hb2); (try clear hk); (try clear hi)))
 go_ret
 exact ⟨by first | rfl | (simp [errW_none, errW_some] <;> rfl) | (simp [*, errW_none, errW_some] <;> rfl), by repeat (first | (with_reducible first | exact HB.out | apply below_alloc | apply pw_below_drewN | apply below_drew1) | exact HB.out)⟩

-- NOT PRINTED: function 64 (allocation_decode)

/-! ### allocation_DecodeLong_1: function 65 -/
def allocation_DecodeLong_1.f (k : Nat) (a0 : ByteArray) : Option (Int) := (allocation_read.f k a0 8 2).bind fun t272 => (some t272)
theorem allocation_DecodeLong_1.mono : ∀ a0 k, LeO (allocation_DecodeLong_1.f k a0) (allocation_DecodeLong_1.f (k + 1) a0) := by
 intro a0 k
 unfold allocation_DecodeLong_1.f
 repeat' first
   | (with_reducible exact allocation_read.mono _ _ _ _)
   | (with_reducible exact LeO.refl _)
   | (with_reducible exact LeO.none _)
   | (with_reducible refine LeO.ite ?_ ?_)
   | (with_reducible refine LeO.bind ?_ (fun _ => ?_))
   | exact allocation_read.mono _ _ _ _
   | exact LeO.none _
   | refine LeO.ite ?_ ?_
   | refine LeO.bind ?_ (fun _ => ?_)
set_option maxHeartbeats 8000000 in
set_option maxRecDepth 100000 in
theorem allocation_DecodeLong_1.calls (k : Nat) (a0 : ByteArray) (r : Int) (w : World) (h : allocation_DecodeLong_1.f k a0 = some r) :
  Calls Try.prog 65 #[.string a0] w fun e w' => e = .returned (.int .i64 r) ∧ Below w.heap.size w w' := by
 have HB := Aside0.mk (Below.refl w.heap.size w)
 have H : ((allocation_read.f k a0 8 2).bind fun t272 => (some t272)) = some r := h
 clear h
 replace H := Option.bind_eq_some_iff.mp H
 obtain ⟨t272, A20, H⟩ := H
 replace H : (some t272) = some r := H
 have A2 := Aside0.mk A20
 clear A20
 obtain rfl := Option.some.inj H
 go_enter Try.func65, Try.ntmps65
 go_wp2_with (first | ((with_reducible refine gate_callee (f := 66) rfl ?_); refine goesL_ (some 4) rfl rfl Try.func66 (by kernel_rfl) rfl #[.string a0, .int .i64 8, .int .i64 2] rfl (by (try simp only [List.map_toArray, List.map_cons, List.map_nil]); first | done | rfl | (simp only [List.length_drop, List.length_take]; rfl)) ?_; (with_reducible refine (allocation_read.calls k a0 8 2 t272 _ A2.out).mono ?_); rintro e w3 ⟨rfl, hb⟩; refine ⟨_, rfl, ?_⟩; have n0_ := Aside0.mk (below_step (by repeat (first | (with_reducible first | exact HB.out | apply below_alloc | apply pw_below_drewN | apply below_drew1) | exact HB.out)) hb); clear HB; have HB := n0_; clear n0_; (try clear hb); (try clear hb2); (try clear hk); (try clear hi)))
 go_ret
 exact ⟨by first | rfl | (simp [errW_none, errW_some] <;> rfl) | (simp [*, errW_none, errW_some] <;> rfl), by repeat (first | (with_reducible first | exact HB.out | apply below_alloc | apply pw_below_drewN | apply below_drew1) | exact HB.out)⟩

end Go.Proofs.Yticmghpnbjhhnab.M
