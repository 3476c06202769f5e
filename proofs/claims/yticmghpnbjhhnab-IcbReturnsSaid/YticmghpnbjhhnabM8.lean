/- Lean functions with the answers of the Go functions that they are named after, and the walks that tie the Go functions to them (written by the program mp.py of this session). -/
import Derived.Test.YticmghpnbjhhnabM0
import Derived.Test.YticmghpnbjhhnabM3
import Derived.Test.YticmghpnbjhhnabM4
import Derived.Test.YticmghpnbjhhnabM7
namespace Go.Proofs.Yticmghpnbjhhnab.M
open Go.RowKit Go.Proofs.YticmghpnbjhhnabW.PrintWords Go.Proofs.YticmghpnbjhhnabW.PrintLast Go.Proofs.YticmghpnbjhhnabW.PrintMore
attribute [local go_sem] fieldA50_0 fieldA102_0 max2_int min2_int max_two min_two max_three min_three max_four min_four   -- for this text's walks alone
set_option linter.unusedVariables false
set_option linter.unusedSimpArgs false

/-! ### datetime_isTime: function 78 -/
def datetime_isTime.f (a0 : Int) : Option (Bool) := if a0 ≥ 315532800 then (some (decide (a0 ≤ 4102444799))) else (some false)
set_option maxHeartbeats 8000000 in
set_option maxRecDepth 100000 in
theorem datetime_isTime.calls (a0 : Int) (r : Bool) (w : World) (h : datetime_isTime.f a0 = some r) :
  Calls Try.prog 78 #[.int .i64 a0] w fun e w' => e = .returned (.bool r) ∧ Drawn0 w w' := by
 have H : (if a0 ≥ 315532800 then (some (decide (a0 ≤ 4102444799))) else (some false)) = some r := h
 clear h
 by_cases c2 : a0 ≥ 315532800
 ·rw [if_pos c2] at H
  have c2b0 : decide (315532800 ≤ a0) = true := decide_eq_true c2
  clear c2
  obtain rfl := Option.some.inj H
  go_enter Try.func78, Try.ntmps78
  go_wp2
  go_ret
  exact ⟨by first | rfl | (simp; done) | (simp [*]; done), by repeat (first | exact Drawn0.refl _ | apply Drawn0.step)⟩
 ·rw [if_neg c2] at H
  have c2b0 : decide (315532800 ≤ a0) = false := decide_eq_false c2
  clear c2
  obtain rfl := Option.some.inj H
  go_enter Try.func78, Try.ntmps78
  go_wp2
  go_ret
  exact ⟨by first | rfl | (simp; done) | (simp [*]; done), by repeat (first | exact Drawn0.refl _ | apply Drawn0.step)⟩

/-! ### datetime_leap: function 95 -/
def datetime_leap.f (a0 : Int) : Option (Bool) := if (Int.tmod a0 400) = 0 then (some true) else (if (Int.tmod a0 4) = 0 then (some ((Int.tmod a0 100) != 0)) else (some false))
set_option maxHeartbeats 8000000 in
set_option maxRecDepth 100000 in
theorem datetime_leap.calls (a0 : Int) (r : Bool) (w : World) (h : datetime_leap.f a0 = some r) :
  Calls Try.prog 95 #[.int .i64 a0] w fun e w' => e = .returned (.bool r) ∧ Drawn0 w w' := by
 have H : (if (Int.tmod a0 400) = 0 then (some true) else (if (Int.tmod a0 4) = 0 then (some ((Int.tmod a0 100) != 0)) else (some false))) = some r := h
 clear h
 by_cases c2 : (Int.tmod a0 400) = 0
 ·rw [if_pos c2] at H
  have c2b0 : ((Int.tmod a0 400) == 0) = true := beq_iff_eq.mpr c2
  have c2b1 : ((Int.tmod a0 400) != 0) = false := bne_eq_false_iff_eq.mpr c2
  clear c2
  obtain rfl := Option.some.inj H
  go_enter Try.func95, Try.ntmps95
  go_wp2
  go_ret
  exact ⟨by first | rfl | (simp; done) | (simp [*]; done), by repeat (first | exact Drawn0.refl _ | apply Drawn0.step)⟩
 ·rw [if_neg c2] at H
  have c2b0 : ((Int.tmod a0 400) == 0) = false := beq_eq_false_iff_ne.mpr c2
  have c2b1 : ((Int.tmod a0 400) != 0) = true := bne_iff_ne.mpr c2
  by_cases c3 : (Int.tmod a0 4) = 0
  ·rw [if_pos c3] at H
   have c3b0 : ((Int.tmod a0 4) == 0) = true := beq_iff_eq.mpr c3
   have c3b1 : ((Int.tmod a0 4) != 0) = false := bne_eq_false_iff_eq.mpr c3
   clear c3
   obtain rfl := Option.some.inj H
   go_enter Try.func95, Try.ntmps95
   go_wp2
   go_ret
   exact ⟨by first | rfl | (simp; done) | (simp [*]; done), by repeat (first | exact Drawn0.refl _ | apply Drawn0.step)⟩
  ·rw [if_neg c3] at H
   have c3b0 : ((Int.tmod a0 4) == 0) = false := beq_eq_false_iff_ne.mpr c3
   have c3b1 : ((Int.tmod a0 4) != 0) = true := bne_iff_ne.mpr c3
   obtain rfl := Option.some.inj H
   go_enter Try.func95, Try.ntmps95
   go_wp2
   go_ret
   exact ⟨by first | rfl | (simp; done) | (simp [*]; done), by repeat (first | exact Drawn0.refl _ | apply Drawn0.step)⟩

/-! ### datetime_yearDays: function 79 -/
def datetime_yearDays.f (a0 : Int) : Option (Int) := (datetime_leap.f a0).bind fun t182 => (if t182 = true then (some 366) else (some 365))
set_option maxHeartbeats 8000000 in
set_option maxRecDepth 100000 in
theorem datetime_yearDays.calls (a0 : Int) (r : Int) (w : World) (h : datetime_yearDays.f a0 = some r) :
  Calls Try.prog 79 #[.int .i64 a0] w fun e w' => e = .returned (.int .i64 r) ∧ Drawn0 w w' := by
 have H : ((datetime_leap.f a0).bind fun t182 => (if t182 = true then (some 366) else (some 365))) = some r := h
 clear h
 replace H := Option.bind_eq_some_iff.mp H
 obtain ⟨t182, A20, H⟩ := H
 replace H : (if t182 = true then (some 366) else (some 365)) = some r := H
 have A2 := Aside0.mk A20
 clear A20
 by_cases c3 : t182 = true
 ·subst c3
  have H1 : (some 366) = some r := by rw [if_pos rfl] at H; exact H
  clear H
  have H := H1
  clear H1
  obtain rfl := Option.some.inj H
  go_enter Try.func79, Try.ntmps79
  go_wp2_with (first | ((with_reducible refine gate_callee (f := 95) rfl ?_); refine goesL_ (some 4) rfl rfl Try.func95 (by kernel_rfl) rfl #[.int .i64 a0] rfl (by (try simp only [List.map_toArray, List.map_cons, List.map_nil]); first | done | rfl | (simp only [List.length_drop, List.length_take]; rfl)) ?_; (with_reducible refine (datetime_leap.calls a0 true _ A2.out).mono ?_); rintro e w' ⟨rfl, ⟨nd, rfl⟩⟩; refine ⟨_, rfl, ?_⟩))
  go_ret
  exact ⟨by first | rfl | (simp; done) | (simp [*]; done), by repeat (first | exact Drawn0.refl _ | apply Drawn0.step)⟩
 ·replace c3 := Bool.eq_false_iff.mpr c3
  subst c3
  have H1 : (some 365) = some r := by rw [if_neg (show ¬ (false = true) by decide)] at H; exact H
  clear H
  have H := H1
  clear H1
  obtain rfl := Option.some.inj H
  go_enter Try.func79, Try.ntmps79
  go_wp2_with (first | ((with_reducible refine gate_callee (f := 95) rfl ?_); refine goesL_ (some 4) rfl rfl Try.func95 (by kernel_rfl) rfl #[.int .i64 a0] rfl (by (try simp only [List.map_toArray, List.map_cons, List.map_nil]); first | done | rfl | (simp only [List.length_drop, List.length_take]; rfl)) ?_; (with_reducible refine (datetime_leap.calls a0 false _ A2.out).mono ?_); rintro e w' ⟨rfl, ⟨nd, rfl⟩⟩; refine ⟨_, rfl, ?_⟩))
  go_ret
  exact ⟨by first | rfl | (simp; done) | (simp [*]; done), by repeat (first | exact Drawn0.refl _ | apply Drawn0.step)⟩

/-! ### datetime_monthDays: function 80 -/
def monthLen : List Int := [31, 28, 31, 30, 31, 30, 31, 31, 30, 31, 30, 31]
def datetime_monthDays.f (a0 a1 : Int) : Option Int := (if a1 = 2 then datetime_leap.f a0 else some false).bind fun b => if b = true then some 29 else if 1 ≤ a1 then monthLen[(a1 - 1).toNat]? else none
set_option maxHeartbeats 8000000 in
set_option maxRecDepth 100000 in
theorem datetime_monthDays.calls (a0 a1 : Int) (r : Int) (w : World) (h : datetime_monthDays.f a0 a1 = some r) :
  Calls Try.prog 80 #[.int .i64 a0, .int .i64 a1] w fun e w' => e = .returned (.int .i64 r) ∧ Below w.heap.size w w' := by
 obtain ⟨b, h1, h2⟩ := Option.bind_eq_some_iff.mp h
 clear h
 have H1 := Aside0.mk h1
 have H2 := Aside0.mk h2
 clear h1 h2
 by_cases c : a1 = 2
 ·subst c
  have h1 := H1.out
  rw [if_pos rfl] at h1
  have HL := Aside0.mk h1
  clear h1 H1
  have h2 := H2.out
  clear H2
  cases b
  ·rw [if_neg (by decide), if_pos (by decide)] at h2
   have e : r = 28 := (Option.some.inj h2).symm
   subst e
   clear h2
   go_enter Try.func80, Try.ntmps80
   go_wp2_with (go_at_call 95; (with_reducible refine (datetime_leap.calls a0 false _ HL.out).mono ?_); rintro e w1 ⟨rfl, ⟨m, rfl⟩⟩)
   go_ret
   exact ⟨rfl, pw_below_drewN (below_alloc (Below.refl _ _) _) m⟩
  ·rw [if_pos rfl] at h2
   have e : r = 29 := (Option.some.inj h2).symm
   subst e
   clear h2
   go_enter Try.func80, Try.ntmps80
   go_wp2_with (go_at_call 95; (with_reducible refine (datetime_leap.calls a0 true _ HL.out).mono ?_); rintro e w1 ⟨rfl, ⟨m, rfl⟩⟩)
   go_ret
   exact ⟨rfl, pw_below_drewN (below_alloc (Below.refl _ _) _) m⟩
 ·have h1 := H1.out
  rw [if_neg c] at h1
  obtain rfl := Option.some.inj h1
  have h2 := H2.out
  rw [if_neg (by decide)] at h2
  clear H1 H2 h1
  by_cases c1 : 1 ≤ a1
  ·rw [if_pos c1] at h2
   have hlt : (a1 - 1).toNat < 12 := (List.getElem?_eq_some_iff.1 h2).1
   rcases (by omega : a1 = 1 ∨ a1 = 3 ∨ a1 = 4 ∨ a1 = 5 ∨ a1 = 6 ∨ a1 = 7 ∨ a1 = 8 ∨ a1 = 9 ∨ a1 = 10 ∨ a1 = 11 ∨ a1 = 12) with rfl | rfl | rfl | rfl | rfl | rfl | rfl | rfl | rfl | rfl | rfl
   all_goals
    obtain rfl := Option.some.inj h2
    clear h2 hlt c1 c
    go_enter Try.func80, Try.ntmps80
    go_wp2
    go_ret
    exact ⟨rfl, below_alloc (Below.refl _ _) _⟩
  ·rw [if_neg c1] at h2; cases h2

/-! ### datetime_Split: function 54 -/
mutual
def datetime_Split.j0 : Nat → Int → Int → Bool → Option (Int × Int × Int × Int × Int × Int × Int)
 | 0, _, _, _ => none
 | k + 1, x0, x1, x17 => if x17 = true then (some (0, 0, 0, 0, 0, 0, 2)) else (datetime_Split.l0 k (wrap64 (Int.tdiv (wrap64 (x0 + (wrap64 (60 * x1)))) 86400)) 1970 1 0 (wrap64 (Int.tdiv (Int.tmod (wrap64 (x0 + (wrap64 (60 * x1)))) 86400) 3600)) (Int.tmod (wrap64 (Int.tdiv (Int.tmod (wrap64 (x0 + (wrap64 (60 * x1)))) 86400) 60)) 60) (Int.tmod (wrap64 (x0 + (wrap64 (60 * x1)))) 60))
def datetime_Split.l0 : Nat → Int → Int → Int → Int → Int → Int → Int → Option (Int × Int × Int × Int × Int × Int × Int)
 | 0, _, _, _, _, _, _, _ => none
 | k + 1, x7, x187000, x187001, x187002, x187003, x187004, x187005 => (datetime_yearDays.f x187000).bind fun t187 => (if x7 ≥ t187 then ((datetime_yearDays.f x187000).bind fun t188 => (datetime_Split.l0 k (wrap64 (x7 - t188)) (wrap64 (x187000 + 1)) x187001 x187002 x187003 x187004 x187005)) else (datetime_Split.l1 k x7 x187000 x187001 x187002 x187003 x187004 x187005))
def datetime_Split.l1 : Nat → Int → Int → Int → Int → Int → Int → Int → Option (Int × Int × Int × Int × Int × Int × Int)
 | 0, _, _, _, _, _, _, _ => none
 | k + 1, x7, x187000, x187001, x187002, x187003, x187004, x187005 => (datetime_monthDays.f x187000 x187001).bind fun t189 => (if x7 ≥ t189 then ((datetime_monthDays.f x187000 x187001).bind fun t190 => (datetime_Split.l1 k (wrap64 (x7 - t190)) x187000 (wrap64 (x187001 + 1)) x187002 x187003 x187004 x187005)) else (some (x187000, x187001, wrap64 (x7 + 1), x187003, x187004, x187005, 0)))
end
def datetime_Split.f (k : Nat) (a0 : Int) (a1 : Int) : Option (Int × Int × Int × Int × Int × Int × Int) := (datetime_isTime.f a0).bind fun t184 => (if t184 = true then ((datetime_isZone.f a1).bind fun t185 => (datetime_Split.j0 k a0 a1 (!t185))) else (datetime_Split.j0 k a0 a1 true))
theorem datetime_Split.mono_l : ∀ k, (∀ y0 y1 y2, LeO (datetime_Split.j0 k y0 y1 y2) (datetime_Split.j0 (k + 1) y0 y1 y2)) ∧ (∀ y0 y1 y2 y3 y4 y5 y6, LeO (datetime_Split.l0 k y0 y1 y2 y3 y4 y5 y6) (datetime_Split.l0 (k + 1) y0 y1 y2 y3 y4 y5 y6)) ∧ (∀ y0 y1 y2 y3 y4 y5 y6, LeO (datetime_Split.l1 k y0 y1 y2 y3 y4 y5 y6) (datetime_Split.l1 (k + 1) y0 y1 y2 y3 y4 y5 y6))
 | 0 => ⟨fun _ _ _ r h => by simp [datetime_Split.j0] at h, fun _ _ _ _ _ _ _ r h => by simp [datetime_Split.l0] at h, fun _ _ _ _ _ _ _ r h => by simp [datetime_Split.l1] at h⟩
 | k + 1 => by
  obtain ⟨ih0, ih1, ih2⟩ := datetime_Split.mono_l k
  refine ⟨?_, ?_, ?_⟩
  ·intro y0 y1 y2
   unfold datetime_Split.j0
   repeat' first
   | (with_reducible exact ih0 _ _ _)
   | (with_reducible exact ih1 _ _ _ _ _ _ _)
   | (with_reducible exact ih2 _ _ _ _ _ _ _)
   | (with_reducible exact LeO.refl _)
   | (with_reducible exact LeO.none _)
   | (with_reducible refine LeO.ite ?_ ?_)
   | (with_reducible refine LeO.bind ?_ (fun _ => ?_))
   | exact ih0 _ _ _
   | exact ih1 _ _ _ _ _ _ _
   | exact ih2 _ _ _ _ _ _ _
   | exact LeO.none _
   | refine LeO.ite ?_ ?_
   | refine LeO.bind ?_ (fun _ => ?_)
  ·intro y0 y1 y2 y3 y4 y5 y6
   unfold datetime_Split.l0
   repeat' first
   | (with_reducible exact ih0 _ _ _)
   | (with_reducible exact ih1 _ _ _ _ _ _ _)
   | (with_reducible exact ih2 _ _ _ _ _ _ _)
   | (with_reducible exact LeO.refl _)
   | (with_reducible exact LeO.none _)
   | (with_reducible refine LeO.ite ?_ ?_)
   | (with_reducible refine LeO.bind ?_ (fun _ => ?_))
   | exact ih0 _ _ _
   | exact ih1 _ _ _ _ _ _ _
   | exact ih2 _ _ _ _ _ _ _
   | exact LeO.none _
   | refine LeO.ite ?_ ?_
   | refine LeO.bind ?_ (fun _ => ?_)
  ·intro y0 y1 y2 y3 y4 y5 y6
   unfold datetime_Split.l1
   repeat' first
   | (with_reducible exact ih0 _ _ _)
   | (with_reducible exact ih1 _ _ _ _ _ _ _)
   | (with_reducible exact ih2 _ _ _ _ _ _ _)
   | (with_reducible exact LeO.refl _)
   | (with_reducible exact LeO.none _)
   | (with_reducible refine LeO.ite ?_ ?_)
   | (with_reducible refine LeO.bind ?_ (fun _ => ?_))
   | exact ih0 _ _ _
   | exact ih1 _ _ _ _ _ _ _
   | exact ih2 _ _ _ _ _ _ _
   | exact LeO.none _
   | refine LeO.ite ?_ ?_
   | refine LeO.bind ?_ (fun _ => ?_)
theorem datetime_Split.mono : ∀ a0 a1 k, LeO (datetime_Split.f k a0 a1) (datetime_Split.f (k + 1) a0 a1) := by
 intro a0 a1 k
 obtain ⟨ih0, ih1, ih2⟩ := datetime_Split.mono_l k
 unfold datetime_Split.f
 repeat' first
   | (with_reducible exact ih0 _ _ _)
   | (with_reducible exact ih1 _ _ _ _ _ _ _)
   | (with_reducible exact ih2 _ _ _ _ _ _ _)
   | (with_reducible exact LeO.refl _)
   | (with_reducible exact LeO.none _)
   | (with_reducible refine LeO.ite ?_ ?_)
   | (with_reducible refine LeO.bind ?_ (fun _ => ?_))
   | exact ih0 _ _ _
   | exact ih1 _ _ _ _ _ _ _
   | exact ih2 _ _ _ _ _ _ _
   | exact LeO.none _
   | refine LeO.ite ?_ ?_
   | refine LeO.bind ?_ (fun _ => ?_)
set_option maxHeartbeats 8000000 in
set_option maxRecDepth 100000 in
theorem datetime_Split.calls (k : Nat) (a0 : Int) (a1 : Int) (r1 : Int) (r2 : Int) (r3 : Int) (r4 : Int) (r5 : Int) (r6 : Int) (r7 : Int) (w : World) (h : datetime_Split.f k a0 a1 = some (r1, r2, r3, r4, r5, r6, r7)) :
  Calls Try.prog 54 #[.int .i64 a0, .int .i64 a1] w fun e w' => e = .returned (.tuple #[.agg #[.int .i64 r1, .int .i64 r2, .int .i64 r3, .int .i64 r4, .int .i64 r5, .int .i64 r6], .int .i64 r7]) ∧ Below w.heap.size w w' := by
 have hu93 := Try.underlying93
 have HB := Aside0.mk (Below.refl w.heap.size w)
 have H : ((datetime_isTime.f a0).bind fun t184 => (if t184 = true then ((datetime_isZone.f a1).bind fun t185 => (datetime_Split.j0 k a0 a1 (!t185))) else (datetime_Split.j0 k a0 a1 true))) = some (r1, r2, r3, r4, r5, r6, r7) := h
 clear h
 have HC3 := Aside0.mk H
 clear H
 go_enter Try.func54, Try.ntmps54
 go_upto_region 1 with (first | ((with_reducible refine gate_dst (N := 4) rfl ?_); refine box_event ?hg (N := 4) ?hd (cs := #[.int .i64 0, .int .i64 0, .int .i64 0, .int .i64 0, .int .i64 0, .int .i64 0]) (t := 93) ?hr ?_; (case hd => rfl); (case hg => rfl); (case hr => first | (go_simp; done) | (go_simp; rfl)); intro gb183 hg w4 hbox hb; have n0_ := Aside0.mk (below_step (by repeat (first | (with_reducible first | exact HB.out | apply below_alloc | apply pw_below_drewN | apply below_drew1) | exact HB.out)) hb); have n1_ := Aside0.mk (hbox); have n2_ := Aside0.mk ((by rw [hg]; exact (below_size (by repeat (first | (with_reducible first | exact HB.out | apply below_alloc | apply pw_below_drewN | apply below_drew1) | exact HB.out))) : w.heap.size ≤ gb183)); have n3_ := Aside0.mk ((by rw [hg]; exact (below_size (by repeat (first | (with_reducible first | exact HB.out | apply below_alloc | apply pw_below_drewN | apply below_drew1) | exact HB.out))) : w.heap.size ≤ gb183)); clear HB; have HB := n0_; have BK183 := n1_; have GW183 := n2_; have GE183 := n3_; clear n0_ n1_ n2_ n3_; clear hb hbox hg))
 (try simp only [put4_])
 go_cut [17] (fun v17 wc => ∃ (kq : Nat) (x17_2 : Bool), v17 = .bool x17_2 ∧ Aside0 (datetime_Split.j0 kq a0 a1 x17_2 = some (r1, r2, r3, r4, r5, r6, r7)) ∧ Aside0 (kq ≤ k) ∧ Aside0 (wc.heap[gb183]? = some (.cells #[.int .i64 0, .int .i64 0, .int .i64 0, .int .i64 0, .int .i64 0, .int .i64 0] 93 (0, 0))) ∧ Aside0 (Below w.heap.size w wc))
 case first =>
  have H := HC3.out
  clear HC3
  replace H := Option.bind_eq_some_iff.mp H
  obtain ⟨t184, A50, H⟩ := H
  replace H : (if t184 = true then ((datetime_isZone.f a1).bind fun t185 => (datetime_Split.j0 k a0 a1 (!t185))) else (datetime_Split.j0 k a0 a1 true)) = some (r1, r2, r3, r4, r5, r6, r7) := H
  have A5 := Aside0.mk A50
  clear A50
  by_cases c6 : t184 = true
  ·subst c6
   have H1 : ((datetime_isZone.f a1).bind fun t185 => (datetime_Split.j0 k a0 a1 (!t185))) = some (r1, r2, r3, r4, r5, r6, r7) := by rw [if_pos rfl] at H; exact H
   clear H
   have H := H1
   clear H1
   replace H := Option.bind_eq_some_iff.mp H
   obtain ⟨t185, A70, H⟩ := H
   replace H : (datetime_Split.j0 k a0 a1 (!t185)) = some (r1, r2, r3, r4, r5, r6, r7) := H
   have A7 := Aside0.mk A70
   clear A70
   have H' := Aside0.mk H
   clear H
   go_wp2_with (first | ((with_reducible refine gate_callee (f := 78) rfl ?_); refine goesL_ (some 11) rfl rfl Try.func78 (by kernel_rfl) rfl #[.int .i64 a0] rfl (by (try simp only [List.map_toArray, List.map_cons, List.map_nil]); first | done | rfl | (simp only [List.length_drop, List.length_take]; rfl)) ?_; (with_reducible refine (datetime_isTime.calls a0 true _ A5.out).mono ?_); rintro e w' ⟨rfl, ⟨nd, rfl⟩⟩; refine ⟨_, rfl, ?_⟩) | (go_at_call 62; (with_reducible refine (datetime_isZone.calls a1 t185 _ A7.out).mono ?_); rintro e w' ⟨rfl, ⟨nd, rfl⟩⟩))
   go_meet
   case rel => exact ⟨_, (!t185), (by first | rfl | (simp; done) | (simp [*]; done)), H', ⟨by first | omega | exact Nat.le_refl _⟩, ⟨by (with_reducible repeat (first | refine blk_drewN ?_ _ | refine blk_drew ?_ | refine blk_alloc ?_ _)); exact BK183.out⟩, ⟨by repeat (first | (with_reducible first | exact HB.out | apply below_alloc | apply pw_below_drewN | apply below_drew1 | refine below_set ?_ GE183.out) | exact HB.out)⟩⟩
  ·replace c6 := Bool.eq_false_iff.mpr c6
   subst c6
   have H1 : (datetime_Split.j0 k a0 a1 true) = some (r1, r2, r3, r4, r5, r6, r7) := by rw [if_neg (show ¬ (false = true) by decide)] at H; exact H
   clear H
   have H := H1
   clear H1
   have H' := Aside0.mk H
   clear H
   go_wp2_with (first | ((with_reducible refine gate_callee (f := 78) rfl ?_); refine goesL_ (some 11) rfl rfl Try.func78 (by kernel_rfl) rfl #[.int .i64 a0] rfl (by (try simp only [List.map_toArray, List.map_cons, List.map_nil]); first | done | rfl | (simp only [List.length_drop, List.length_take]; rfl)) ?_; (with_reducible refine (datetime_isTime.calls a0 false _ A5.out).mono ?_); rintro e w' ⟨rfl, ⟨nd, rfl⟩⟩; refine ⟨_, rfl, ?_⟩))
   go_meet
   case rel => exact ⟨_, (true), (by first | rfl | (simp; done) | (simp [*]; done)), H', ⟨by first | omega | exact Nat.le_refl _⟩, ⟨by (with_reducible repeat (first | refine blk_drewN ?_ _ | refine blk_drew ?_ | refine blk_alloc ?_ _)); exact BK183.out⟩, ⟨by repeat (first | (with_reducible first | exact HB.out | apply below_alloc | apply pw_below_drewN | apply below_drew1 | refine below_set ?_ GE183.out) | exact HB.out)⟩⟩
 case rest =>
  clear HC3
  try clear p2
  try clear c5
  try clear c6
  try clear c7
  obtain ⟨kq, x17_2, rfl, HA, HJ2, BK183, HB⟩ := hcut
  cases kq with
  | zero => exact absurd HA.out (by simp [datetime_Split.j0])
  | succ kj2 =>
   have H := HA.out
   clear HA
   simp only [datetime_Split.j0] at H
   by_cases c8 : x17_2 = true
   ·subst c8
    have H1 : (some (0, 0, 0, 0, 0, 0, 2)) = some (r1, r2, r3, r4, r5, r6, r7) := by rw [if_pos rfl] at H; exact H
    clear H
    have H := H1
    clear H1
    simp only [Option.some.injEq, Prod.mk.injEq] at H
    obtain ⟨rfl, rfl, rfl, rfl, rfl, rfl, rfl⟩ := H
    obtain ⟨hcz9_0, hcz9_1, hcz9_2, hcz9_3, hcz9_4, hcz9_5⟩ := cz_6 BK183.out
    obtain ⟨hfz9_0, hfz9_1, hfz9_2, hfz9_3, hfz9_4, hfz9_5⟩ := fz_6 BK183.out
    go_wp2
    refine bodyPost_ret (results_ct rfl _ _ gb183 93 #[.int .i64 0, .int .i64 0, .int .i64 0, .int .i64 0, .int .i64 0, .int .i64 0] (0, 0) _ rfl (by (with_reducible repeat (first | refine blk_drewN ?_ _ | refine blk_drew ?_ | refine blk_alloc ?_ _)); refine blk_put (cs := #[.int .i64 0, .int .i64 0, .int .i64 0, .int .i64 0, .int .i64 0, .int .i64 0]) ?_ 5 _ rfl; (with_reducible repeat (first | refine blk_drewN ?_ _ | refine blk_drew ?_ | refine blk_alloc ?_ _)); refine blk_put (cs := #[.int .i64 0, .int .i64 0, .int .i64 0, .int .i64 0, .int .i64 0, .int .i64 0]) ?_ 4 _ rfl; (with_reducible repeat (first | refine blk_drewN ?_ _ | refine blk_drew ?_ | refine blk_alloc ?_ _)); refine blk_put (cs := #[.int .i64 0, .int .i64 0, .int .i64 0, .int .i64 0, .int .i64 0, .int .i64 0]) ?_ 3 _ rfl; (with_reducible repeat (first | refine blk_drewN ?_ _ | refine blk_drew ?_ | refine blk_alloc ?_ _)); refine blk_put (cs := #[.int .i64 0, .int .i64 0, .int .i64 0, .int .i64 0, .int .i64 0, .int .i64 0]) ?_ 2 _ rfl; (with_reducible repeat (first | refine blk_drewN ?_ _ | refine blk_drew ?_ | refine blk_alloc ?_ _)); refine blk_put (cs := #[.int .i64 0, .int .i64 0, .int .i64 0, .int .i64 0, .int .i64 0, .int .i64 0]) ?_ 1 _ rfl; (with_reducible repeat (first | refine blk_drewN ?_ _ | refine blk_drew ?_ | refine blk_alloc ?_ _)); refine blk_put (cs := #[.int .i64 0, .int .i64 0, .int .i64 0, .int .i64 0, .int .i64 0, .int .i64 0]) ?_ 0 _ rfl; (with_reducible repeat (first | refine blk_drewN ?_ _ | refine blk_drew ?_ | refine blk_alloc ?_ _)); exact BK183.out) Try.underlying93 rfl (by kernel_rfl)) rfl ?_
    exact ⟨by first | rfl | (simp [errW_none, errW_some] <;> rfl) | (simp [*, errW_none, errW_some] <;> rfl), by repeat (first | (with_reducible first | exact HB.out | apply below_alloc | apply pw_below_drewN | apply below_drew1 | refine below_set ?_ GE183.out) | exact HB.out)⟩
   ·replace c8 := Bool.eq_false_iff.mpr c8
    subst c8
    have H1 : (datetime_Split.l0 kj2 (wrap64 (Int.tdiv (wrap64 (a0 + (wrap64 (60 * a1)))) 86400)) 1970 1 0 (wrap64 (Int.tdiv (Int.tmod (wrap64 (a0 + (wrap64 (60 * a1)))) 86400) 3600)) (Int.tmod (wrap64 (Int.tdiv (Int.tmod (wrap64 (a0 + (wrap64 (60 * a1)))) 86400) 60)) 60) (Int.tmod (wrap64 (a0 + (wrap64 (60 * a1)))) 60)) = some (r1, r2, r3, r4, r5, r6, r7) := by rw [if_neg (show ¬ (false = true) by decide)] at H; exact H
    clear H
    have H := H1
    clear H1
    have H' := Aside0.mk H
    clear H
    go_wp2_with (first | ((with_reducible refine gate_dst (N := 9) rfl ?_); refine box_event ?hg (N := 9) ?hd (cs := #[.int .i64 0, .int .i64 0, .int .i64 0, .int .i64 0, .int .i64 0, .int .i64 0]) (t := 93) ?hr ?_; (case hd => rfl); (case hg => rfl); (case hr => first | (go_simp; done) | (go_simp; rfl)); intro gb186 hg w10 hbox hb; have n0_ := Aside0.mk (blk_below (g := gb183) (o := .cells #[.int .i64 0, .int .i64 0, .int .i64 0, .int .i64 0, .int .i64 0, .int .i64 0] 93 (0, 0)) (by (with_reducible repeat (first | refine blk_drewN ?_ _ | refine blk_drew ?_ | refine blk_alloc ?_ _)); exact BK183.out) hb); have n1_ := Aside0.mk (below_step (by repeat (first | (with_reducible first | exact HB.out | apply below_alloc | apply pw_below_drewN | apply below_drew1 | refine below_set ?_ GE183.out) | exact HB.out)) hb); have n2_ := Aside0.mk (hbox); have n3_ := Aside0.mk ((by rw [hg]; exact (below_size (by repeat (first | (with_reducible first | exact HB.out | apply below_alloc | apply pw_below_drewN | apply below_drew1 | refine below_set ?_ GE183.out) | exact HB.out))) : w.heap.size ≤ gb186)); have n4_ := Aside0.mk ((by rw [hg]; exact (below_size (by repeat (first | (with_reducible first | exact HB.out | apply below_alloc | apply pw_below_drewN | apply below_drew1 | refine below_set ?_ GE183.out) | exact HB.out))) : w.heap.size ≤ gb186)); have n5_ := Aside0.mk ((by rw [hg]; exact Nat.ne_of_lt (blk_lt (g := gb183) (o := .cells #[.int .i64 0, .int .i64 0, .int .i64 0, .int .i64 0, .int .i64 0, .int .i64 0] 93 (0, 0)) (by (with_reducible repeat (first | refine blk_drewN ?_ _ | refine blk_drew ?_ | refine blk_alloc ?_ _)); exact BK183.out)) : gb183 ≠ gb186)); have n6_ := Aside0.mk ((by rw [hg]; exact Nat.ne_of_gt (blk_lt (g := gb183) (o := .cells #[.int .i64 0, .int .i64 0, .int .i64 0, .int .i64 0, .int .i64 0, .int .i64 0] 93 (0, 0)) (by (with_reducible repeat (first | refine blk_drewN ?_ _ | refine blk_drew ?_ | refine blk_alloc ?_ _)); exact BK183.out)) : gb186 ≠ gb183)); clear BK183; clear HB; have BK183 := n0_; have HB := n1_; have BK186 := n2_; have GW186 := n3_; have GE186 := n4_; have NB183_186 := n5_; have NB186_183 := n6_; clear n0_ n1_ n2_ n3_ n4_ n5_ n6_; clear hb hbox hg; have hnb11 := NB186_183.out; have hnc11 := NB183_186.out; obtain ⟨hcz12_0, hcz12_1, hcz12_2, hcz12_3, hcz12_4, hcz12_5⟩ := cz_6 BK186.out; obtain ⟨hfz12_0, hfz12_1, hfz12_2, hfz12_3, hfz12_4, hfz12_5⟩ := fz_6 BK186.out))
    go_loopg [7] kj2 (fun kq v7 w' => ∃ (x7_2 : Int) (x187000_2 : Int), v7 = .int .i64 x7_2 ∧ Aside0 (datetime_Split.l0 kq x7_2 x187000_2 1 0 (wrap64 (Int.tdiv (Int.tmod (wrap64 (a0 + (wrap64 (60 * a1)))) 86400) 3600)) (Int.tmod (wrap64 (Int.tdiv (Int.tmod (wrap64 (a0 + (wrap64 (60 * a1)))) 86400) 60)) 60) (Int.tmod (wrap64 (a0 + (wrap64 (60 * a1)))) 60) = some (r1, r2, r3, r4, r5, r6, r7)) ∧ Aside0 (kq ≤ kj2) ∧ Aside0 (w'.heap[gb183]? = some (.cells #[.int .i64 0, .int .i64 0, .int .i64 0, .int .i64 0, .int .i64 0, .int .i64 0] 93 (0, 0))) ∧ Aside0 (w'.heap[gb186]? = some (.cells #[.int .i64 x187000_2, .int .i64 1, .int .i64 0, .int .i64 (wrap64 (Int.tdiv (Int.tmod (wrap64 (a0 + (wrap64 (60 * a1)))) 86400) 3600)), .int .i64 (Int.tmod (wrap64 (Int.tdiv (Int.tmod (wrap64 (a0 + (wrap64 (60 * a1)))) 86400) 60)) 60), .int .i64 (Int.tmod (wrap64 (a0 + (wrap64 (60 * a1)))) 60)] 93 (0, 0))) ∧ Aside0 (Below w.heap.size w w'))
    case atStart => exact ⟨(wrap64 (Int.tdiv (wrap64 (a0 + (wrap64 (60 * a1)))) 86400)), (1970), (by first | rfl | (simp; done) | (simp [*]; done)), H', ⟨Nat.le_refl _⟩, ⟨by (with_reducible repeat (first | refine blk_drewN ?_ _ | refine blk_drew ?_ | refine blk_alloc ?_ _)); refine blk_far ?_ NB183_186.out _; (with_reducible repeat (first | refine blk_drewN ?_ _ | refine blk_drew ?_ | refine blk_alloc ?_ _)); refine blk_far ?_ NB183_186.out _; (with_reducible repeat (first | refine blk_drewN ?_ _ | refine blk_drew ?_ | refine blk_alloc ?_ _)); refine blk_far ?_ NB183_186.out _; (with_reducible repeat (first | refine blk_drewN ?_ _ | refine blk_drew ?_ | refine blk_alloc ?_ _)); refine blk_far ?_ NB183_186.out _; (with_reducible repeat (first | refine blk_drewN ?_ _ | refine blk_drew ?_ | refine blk_alloc ?_ _)); refine blk_far ?_ NB183_186.out _; (with_reducible repeat (first | refine blk_drewN ?_ _ | refine blk_drew ?_ | refine blk_alloc ?_ _)); refine blk_far ?_ NB183_186.out _; (with_reducible repeat (first | refine blk_drewN ?_ _ | refine blk_drew ?_ | refine blk_alloc ?_ _)); exact BK183.out⟩, ⟨by (with_reducible repeat (first | refine blk_drewN ?_ _ | refine blk_drew ?_ | refine blk_alloc ?_ _)); refine blk_put (cs := #[.int .i64 1970, .int .i64 1, .int .i64 0, .int .i64 (wrap64 (Int.tdiv (Int.tmod (wrap64 (a0 + (wrap64 (60 * a1)))) 86400) 3600)), .int .i64 (Int.tmod (wrap64 (Int.tdiv (Int.tmod (wrap64 (a0 + (wrap64 (60 * a1)))) 86400) 60)) 60), .int .i64 0]) ?_ 5 _ rfl; (with_reducible repeat (first | refine blk_drewN ?_ _ | refine blk_drew ?_ | refine blk_alloc ?_ _)); refine blk_put (cs := #[.int .i64 1970, .int .i64 1, .int .i64 0, .int .i64 (wrap64 (Int.tdiv (Int.tmod (wrap64 (a0 + (wrap64 (60 * a1)))) 86400) 3600)), .int .i64 0, .int .i64 0]) ?_ 4 _ rfl; (with_reducible repeat (first | refine blk_drewN ?_ _ | refine blk_drew ?_ | refine blk_alloc ?_ _)); refine blk_put (cs := #[.int .i64 1970, .int .i64 1, .int .i64 0, .int .i64 0, .int .i64 0, .int .i64 0]) ?_ 3 _ rfl; (with_reducible repeat (first | refine blk_drewN ?_ _ | refine blk_drew ?_ | refine blk_alloc ?_ _)); refine blk_put (cs := #[.int .i64 1970, .int .i64 1, .int .i64 0, .int .i64 0, .int .i64 0, .int .i64 0]) ?_ 2 _ rfl; (with_reducible repeat (first | refine blk_drewN ?_ _ | refine blk_drew ?_ | refine blk_alloc ?_ _)); refine blk_put (cs := #[.int .i64 1970, .int .i64 0, .int .i64 0, .int .i64 0, .int .i64 0, .int .i64 0]) ?_ 1 _ rfl; (with_reducible repeat (first | refine blk_drewN ?_ _ | refine blk_drew ?_ | refine blk_alloc ?_ _)); refine blk_put (cs := #[.int .i64 0, .int .i64 0, .int .i64 0, .int .i64 0, .int .i64 0, .int .i64 0]) ?_ 0 _ rfl; (with_reducible repeat (first | refine blk_drewN ?_ _ | refine blk_drew ?_ | refine blk_alloc ?_ _)); exact BK186.out⟩, ⟨by repeat (first | (with_reducible first | exact HB.out | apply below_alloc | apply pw_below_drewN | apply below_drew1 | refine below_set ?_ GE183.out | refine below_set ?_ GE186.out) | exact HB.out)⟩⟩
    case round =>
     clear H'
     try clear c1
     try clear p2
     try clear c5
     try clear c6
     try clear p6
     try clear c7
     try clear c8
     try clear c11
     try clear hcz12_0 hcz12_1 hcz12_2 hcz12_3 hcz12_4 hcz12_5
     try clear hcz9_0 hcz9_1 hcz9_2 hcz9_3 hcz9_4 hcz9_5
     try clear hfz12_0 hfz12_1 hfz12_2 hfz12_3 hfz12_4 hfz12_5
     try clear hfz9_0 hfz9_1 hfz9_2 hfz9_3 hfz9_4 hfz9_5
     try clear p2
     obtain ⟨x7_2, x187000_2, rfl, HA, HK2, BK183, BK186, HB⟩ := hrel
     cases gk with
     | zero => exact absurd HA.out (by simp [datetime_Split.l0])
     | succ k2 =>
      have H := HA.out
      clear HA
      simp only [datetime_Split.l0] at H
      replace H := Option.bind_eq_some_iff.mp H
      obtain ⟨t187, A130, H⟩ := H
      replace H : (if x7_2 ≥ t187 then ((datetime_yearDays.f x187000_2).bind fun t188 => (datetime_Split.l0 k2 (wrap64 (x7_2 - t188)) (wrap64 (x187000_2 + 1)) 1 0 (wrap64 (Int.tdiv (Int.tmod (wrap64 (a0 + (wrap64 (60 * a1)))) 86400) 3600)) (Int.tmod (wrap64 (Int.tdiv (Int.tmod (wrap64 (a0 + (wrap64 (60 * a1)))) 86400) 60)) 60) (Int.tmod (wrap64 (a0 + (wrap64 (60 * a1)))) 60))) else (datetime_Split.l1 k2 x7_2 x187000_2 1 0 (wrap64 (Int.tdiv (Int.tmod (wrap64 (a0 + (wrap64 (60 * a1)))) 86400) 3600)) (Int.tmod (wrap64 (Int.tdiv (Int.tmod (wrap64 (a0 + (wrap64 (60 * a1)))) 86400) 60)) 60) (Int.tmod (wrap64 (a0 + (wrap64 (60 * a1)))) 60))) = some (r1, r2, r3, r4, r5, r6, r7) := H
      have A13 := Aside0.mk A130
      clear A130
      by_cases c14 : x7_2 ≥ t187
      ·rw [if_pos c14] at H
       have c14b0 : decide (t187 ≤ x7_2) = true := decide_eq_true c14
       clear c14
       replace H := Option.bind_eq_some_iff.mp H
       obtain ⟨t188, A150, H⟩ := H
       replace H : (datetime_Split.l0 k2 (wrap64 (x7_2 - t188)) (wrap64 (x187000_2 + 1)) 1 0 (wrap64 (Int.tdiv (Int.tmod (wrap64 (a0 + (wrap64 (60 * a1)))) 86400) 3600)) (Int.tmod (wrap64 (Int.tdiv (Int.tmod (wrap64 (a0 + (wrap64 (60 * a1)))) 86400) 60)) 60) (Int.tmod (wrap64 (a0 + (wrap64 (60 * a1)))) 60)) = some (r1, r2, r3, r4, r5, r6, r7) := H
       have A15 := Aside0.mk A150
       clear A150
       have H' := Aside0.mk H
       clear H
       have hnb16 := NB186_183.out
       have hnc16 := NB183_186.out
       obtain ⟨hcz17_0, hcz17_1, hcz17_2, hcz17_3, hcz17_4, hcz17_5⟩ := cz_6 BK186.out
       obtain ⟨hfz17_0, hfz17_1, hfz17_2, hfz17_3, hfz17_4, hfz17_5⟩ := fz_6 BK186.out
       go_wp2_with (first | ((with_reducible refine gate_callee (f := 79) rfl ?_); refine goesL_ (some 38) rfl rfl Try.func79 (by kernel_rfl) rfl #[.int .i64 x187000_2] rfl (by (try simp only [List.map_toArray, List.map_cons, List.map_nil]); first | done | rfl | (simp only [List.length_drop, List.length_take]; rfl)) ?_; (with_reducible refine (datetime_yearDays.calls x187000_2 t187 _ A13.out).mono ?_); rintro e w' ⟨rfl, ⟨nd, rfl⟩⟩; refine ⟨_, rfl, ?_⟩; (try (rw [drewN_self wr]; generalize hq_ : World.drewN wr _ = wr; have n0_ : Aside0 (wr.heap[gb183]? = some (.cells #[.int .i64 0, .int .i64 0, .int .i64 0, .int .i64 0, .int .i64 0, .int .i64 0] 93 (0, 0))) := ⟨by rw [← hq_]; exact (by (with_reducible repeat (first | refine blk_drewN ?_ _ | refine blk_drew ?_ | refine blk_alloc ?_ _)); exact BK183.out)⟩; have n1_ : Aside0 (wr.heap[gb186]? = some (.cells #[.int .i64 x187000_2, .int .i64 1, .int .i64 0, .int .i64 (wrap64 (Int.tdiv (Int.tmod (wrap64 (a0 + (wrap64 (60 * a1)))) 86400) 3600)), .int .i64 (Int.tmod (wrap64 (Int.tdiv (Int.tmod (wrap64 (a0 + (wrap64 (60 * a1)))) 86400) 60)) 60), .int .i64 (Int.tmod (wrap64 (a0 + (wrap64 (60 * a1)))) 60)] 93 (0, 0))) := ⟨by rw [← hq_]; exact (by (with_reducible repeat (first | refine blk_drewN ?_ _ | refine blk_drew ?_ | refine blk_alloc ?_ _)); exact BK186.out)⟩; have n2_ : Aside0 (Below w.heap.size w wr) := ⟨by rw [← hq_]; exact (by repeat (first | (with_reducible first | exact HB.out | apply below_alloc | apply pw_below_drewN | apply below_drew1 | refine below_set ?_ GE183.out | refine below_set ?_ GE186.out) | exact HB.out))⟩; clear BK183 BK186 HB hq_; have BK183 := n0_; have BK186 := n1_; have HB := n2_; clear n0_ n1_ n2_; have hcy183_0 : wr.cell? ⟨gb183, 0, none⟩ = some (.int .i64 0) := (blk_cell BK183.out 0).trans rfl; have hfy183_0 := blk_frozen BK183.out 0; have hcy183_1 : wr.cell? ⟨gb183, 1, none⟩ = some (.int .i64 0) := (blk_cell BK183.out 1).trans rfl; have hfy183_1 := blk_frozen BK183.out 1; have hcy183_2 : wr.cell? ⟨gb183, 2, none⟩ = some (.int .i64 0) := (blk_cell BK183.out 2).trans rfl; have hfy183_2 := blk_frozen BK183.out 2; have hcy183_3 : wr.cell? ⟨gb183, 3, none⟩ = some (.int .i64 0) := (blk_cell BK183.out 3).trans rfl; have hfy183_3 := blk_frozen BK183.out 3; have hcy183_4 : wr.cell? ⟨gb183, 4, none⟩ = some (.int .i64 0) := (blk_cell BK183.out 4).trans rfl; have hfy183_4 := blk_frozen BK183.out 4; have hcy183_5 : wr.cell? ⟨gb183, 5, none⟩ = some (.int .i64 0) := (blk_cell BK183.out 5).trans rfl; have hfy183_5 := blk_frozen BK183.out 5; have hcy186_0 : wr.cell? ⟨gb186, 0, none⟩ = some (.int .i64 x187000_2) := (blk_cell BK186.out 0).trans rfl; have hfy186_0 := blk_frozen BK186.out 0; have hcy186_1 : wr.cell? ⟨gb186, 1, none⟩ = some (.int .i64 1) := (blk_cell BK186.out 1).trans rfl; have hfy186_1 := blk_frozen BK186.out 1; have hcy186_2 : wr.cell? ⟨gb186, 2, none⟩ = some (.int .i64 0) := (blk_cell BK186.out 2).trans rfl; have hfy186_2 := blk_frozen BK186.out 2; have hcy186_3 : wr.cell? ⟨gb186, 3, none⟩ = some (.int .i64 (wrap64 (Int.tdiv (Int.tmod (wrap64 (a0 + (wrap64 (60 * a1)))) 86400) 3600))) := (blk_cell BK186.out 3).trans rfl; have hfy186_3 := blk_frozen BK186.out 3; have hcy186_4 : wr.cell? ⟨gb186, 4, none⟩ = some (.int .i64 (Int.tmod (wrap64 (Int.tdiv (Int.tmod (wrap64 (a0 + (wrap64 (60 * a1)))) 86400) 60)) 60)) := (blk_cell BK186.out 4).trans rfl; have hfy186_4 := blk_frozen BK186.out 4; have hcy186_5 : wr.cell? ⟨gb186, 5, none⟩ = some (.int .i64 (Int.tmod (wrap64 (a0 + (wrap64 (60 * a1)))) 60)) := (blk_cell BK186.out 5).trans rfl; have hfy186_5 := blk_frozen BK186.out 5))) | ((with_reducible refine gate_callee (f := 79) rfl ?_); refine goesL_ (some 43) rfl rfl Try.func79 (by kernel_rfl) rfl #[.int .i64 x187000_2] rfl (by (try simp only [List.map_toArray, List.map_cons, List.map_nil]); first | done | rfl | (simp only [List.length_drop, List.length_take]; rfl)) ?_; (with_reducible refine (datetime_yearDays.calls x187000_2 t188 _ A15.out).mono ?_); rintro e w' ⟨rfl, ⟨nd, rfl⟩⟩; refine ⟨_, rfl, ?_⟩; (try (rw [drewN_self wr]; generalize hq_ : World.drewN wr _ = wr; have n0_ : Aside0 (wr.heap[gb183]? = some (.cells #[.int .i64 0, .int .i64 0, .int .i64 0, .int .i64 0, .int .i64 0, .int .i64 0] 93 (0, 0))) := ⟨by rw [← hq_]; exact (by (with_reducible repeat (first | refine blk_drewN ?_ _ | refine blk_drew ?_ | refine blk_alloc ?_ _)); exact BK183.out)⟩; have n1_ : Aside0 (wr.heap[gb186]? = some (.cells #[.int .i64 x187000_2, .int .i64 1, .int .i64 0, .int .i64 (wrap64 (Int.tdiv (Int.tmod (wrap64 (a0 + (wrap64 (60 * a1)))) 86400) 3600)), .int .i64 (Int.tmod (wrap64 (Int.tdiv (Int.tmod (wrap64 (a0 + (wrap64 (60 * a1)))) 86400) 60)) 60), .int .i64 (Int.tmod (wrap64 (a0 + (wrap64 (60 * a1)))) 60)] 93 (0, 0))) := ⟨by rw [← hq_]; exact (by (with_reducible repeat (first | refine blk_drewN ?_ _ | refine blk_drew ?_ | refine blk_alloc ?_ _)); exact BK186.out)⟩; have n2_ : Aside0 (Below w.heap.size w wr) := ⟨by rw [← hq_]; exact (by repeat (first | (with_reducible first | exact HB.out | apply below_alloc | apply pw_below_drewN | apply below_drew1 | refine below_set ?_ GE183.out | refine below_set ?_ GE186.out) | exact HB.out))⟩; clear BK183 BK186 HB hq_; have BK183 := n0_; have BK186 := n1_; have HB := n2_; clear n0_ n1_ n2_; have hcy183_0 : wr.cell? ⟨gb183, 0, none⟩ = some (.int .i64 0) := (blk_cell BK183.out 0).trans rfl; have hfy183_0 := blk_frozen BK183.out 0; have hcy183_1 : wr.cell? ⟨gb183, 1, none⟩ = some (.int .i64 0) := (blk_cell BK183.out 1).trans rfl; have hfy183_1 := blk_frozen BK183.out 1; have hcy183_2 : wr.cell? ⟨gb183, 2, none⟩ = some (.int .i64 0) := (blk_cell BK183.out 2).trans rfl; have hfy183_2 := blk_frozen BK183.out 2; have hcy183_3 : wr.cell? ⟨gb183, 3, none⟩ = some (.int .i64 0) := (blk_cell BK183.out 3).trans rfl; have hfy183_3 := blk_frozen BK183.out 3; have hcy183_4 : wr.cell? ⟨gb183, 4, none⟩ = some (.int .i64 0) := (blk_cell BK183.out 4).trans rfl; have hfy183_4 := blk_frozen BK183.out 4; have hcy183_5 : wr.cell? ⟨gb183, 5, none⟩ = some (.int .i64 0) := (blk_cell BK183.out 5).trans rfl; have hfy183_5 := blk_frozen BK183.out 5; have hcy186_0 : wr.cell? ⟨gb186, 0, none⟩ = some (.int .i64 x187000_2) := (blk_cell BK186.out 0).trans rfl; have hfy186_0 := blk_frozen BK186.out 0; have hcy186_1 : wr.cell? ⟨gb186, 1, none⟩ = some (.int .i64 1) := (blk_cell BK186.out 1).trans rfl; have hfy186_1 := blk_frozen BK186.out 1; have hcy186_2 : wr.cell? ⟨gb186, 2, none⟩ = some (.int .i64 0) := (blk_cell BK186.out 2).trans rfl; have hfy186_2 := blk_frozen BK186.out 2; have hcy186_3 : wr.cell? ⟨gb186, 3, none⟩ = some (.int .i64 (wrap64 (Int.tdiv (Int.tmod (wrap64 (a0 + (wrap64 (60 * a1)))) 86400) 3600))) := (blk_cell BK186.out 3).trans rfl; have hfy186_3 := blk_frozen BK186.out 3; have hcy186_4 : wr.cell? ⟨gb186, 4, none⟩ = some (.int .i64 (Int.tmod (wrap64 (Int.tdiv (Int.tmod (wrap64 (a0 + (wrap64 (60 * a1)))) 86400) 60)) 60)) := (blk_cell BK186.out 4).trans rfl; have hfy186_4 := blk_frozen BK186.out 4; have hcy186_5 : wr.cell? ⟨gb186, 5, none⟩ = some (.int .i64 (Int.tmod (wrap64 (a0 + (wrap64 (60 * a1)))) 60)) := (blk_cell BK186.out 5).trans rfl; have hfy186_5 := blk_frozen BK186.out 5))))
       go_roundg k2
       case measure => have := HJ2.out; have := HK2.out; omega
       case rel => exact ⟨(wrap64 (x7_2 - t188)), (wrap64 (x187000_2 + 1)), (by first | rfl | (simp; done) | (simp [*]; done)), H', ⟨by have := HJ2.out; have := HK2.out; omega⟩, ⟨by (with_reducible repeat (first | refine blk_drewN ?_ _ | refine blk_drew ?_ | refine blk_alloc ?_ _)); refine blk_far ?_ NB183_186.out _; (with_reducible repeat (first | refine blk_drewN ?_ _ | refine blk_drew ?_ | refine blk_alloc ?_ _)); exact BK183.out⟩, ⟨by (with_reducible repeat (first | refine blk_drewN ?_ _ | refine blk_drew ?_ | refine blk_alloc ?_ _)); refine blk_put (cs := #[.int .i64 x187000_2, .int .i64 1, .int .i64 0, .int .i64 (wrap64 (Int.tdiv (Int.tmod (wrap64 (a0 + (wrap64 (60 * a1)))) 86400) 3600)), .int .i64 (Int.tmod (wrap64 (Int.tdiv (Int.tmod (wrap64 (a0 + (wrap64 (60 * a1)))) 86400) 60)) 60), .int .i64 (Int.tmod (wrap64 (a0 + (wrap64 (60 * a1)))) 60)]) ?_ 0 _ rfl; (with_reducible repeat (first | refine blk_drewN ?_ _ | refine blk_drew ?_ | refine blk_alloc ?_ _)); exact BK186.out⟩, ⟨by repeat (first | (with_reducible first | exact HB.out | apply below_alloc | apply pw_below_drewN | apply below_drew1 | refine below_set ?_ GE183.out | refine below_set ?_ GE186.out) | exact HB.out)⟩⟩
      ·rw [if_neg c14] at H
       have c14b0 : decide (t187 ≤ x7_2) = false := decide_eq_false c14
       clear c14
       have H' := Aside0.mk H
       clear H
       have hnb18 := NB186_183.out
       have hnc18 := NB183_186.out
       obtain ⟨hcz19_0, hcz19_1, hcz19_2, hcz19_3, hcz19_4, hcz19_5⟩ := cz_6 BK186.out
       obtain ⟨hfz19_0, hfz19_1, hfz19_2, hfz19_3, hfz19_4, hfz19_5⟩ := fz_6 BK186.out
       go_wp2_with (first | ((with_reducible refine gate_callee (f := 79) rfl ?_); refine goesL_ (some 38) rfl rfl Try.func79 (by kernel_rfl) rfl #[.int .i64 x187000_2] rfl (by (try simp only [List.map_toArray, List.map_cons, List.map_nil]); first | done | rfl | (simp only [List.length_drop, List.length_take]; rfl)) ?_; (with_reducible refine (datetime_yearDays.calls x187000_2 t187 _ A13.out).mono ?_); rintro e w' ⟨rfl, ⟨nd, rfl⟩⟩; refine ⟨_, rfl, ?_⟩))
       go_loopg [7] k2 (fun kq v7 w' => ∃ (x7_3 : Int) (x187001_3 : Int), v7 = .int .i64 x7_3 ∧ Aside0 (datetime_Split.l1 kq x7_3 x187000_2 x187001_3 0 (wrap64 (Int.tdiv (Int.tmod (wrap64 (a0 + (wrap64 (60 * a1)))) 86400) 3600)) (Int.tmod (wrap64 (Int.tdiv (Int.tmod (wrap64 (a0 + (wrap64 (60 * a1)))) 86400) 60)) 60) (Int.tmod (wrap64 (a0 + (wrap64 (60 * a1)))) 60) = some (r1, r2, r3, r4, r5, r6, r7)) ∧ Aside0 (kq ≤ k2) ∧ Aside0 (w'.heap[gb183]? = some (.cells #[.int .i64 0, .int .i64 0, .int .i64 0, .int .i64 0, .int .i64 0, .int .i64 0] 93 (0, 0))) ∧ Aside0 (w'.heap[gb186]? = some (.cells #[.int .i64 x187000_2, .int .i64 x187001_3, .int .i64 0, .int .i64 (wrap64 (Int.tdiv (Int.tmod (wrap64 (a0 + (wrap64 (60 * a1)))) 86400) 3600)), .int .i64 (Int.tmod (wrap64 (Int.tdiv (Int.tmod (wrap64 (a0 + (wrap64 (60 * a1)))) 86400) 60)) 60), .int .i64 (Int.tmod (wrap64 (a0 + (wrap64 (60 * a1)))) 60)] 93 (0, 0))) ∧ Aside0 (Below w.heap.size w w'))
       case atStart => exact ⟨(x7_2), (1), (by first | rfl | (simp; done) | (simp [*]; done)), H', ⟨Nat.le_refl _⟩, ⟨by (with_reducible repeat (first | refine blk_drewN ?_ _ | refine blk_drew ?_ | refine blk_alloc ?_ _)); exact BK183.out⟩, ⟨by (with_reducible repeat (first | refine blk_drewN ?_ _ | refine blk_drew ?_ | refine blk_alloc ?_ _)); exact BK186.out⟩, ⟨by repeat (first | (with_reducible first | exact HB.out | apply below_alloc | apply pw_below_drewN | apply below_drew1 | refine below_set ?_ GE183.out | refine below_set ?_ GE186.out) | exact HB.out)⟩⟩
       case round =>
        clear H'
        try clear c1
        try clear p2
        try clear c5
        try clear c6
        try clear p6
        try clear c7
        try clear c8
        try clear c11
        try clear c14
        try clear c14b0
        try clear c16
        try clear c18
        try clear hcz12_0 hcz12_1 hcz12_2 hcz12_3 hcz12_4 hcz12_5
        try clear hcz17_0 hcz17_1 hcz17_2 hcz17_3 hcz17_4 hcz17_5
        try clear hcz19_0 hcz19_1 hcz19_2 hcz19_3 hcz19_4 hcz19_5
        try clear hcz9_0 hcz9_1 hcz9_2 hcz9_3 hcz9_4 hcz9_5
        try clear hfz12_0 hfz12_1 hfz12_2 hfz12_3 hfz12_4 hfz12_5
        try clear hfz17_0 hfz17_1 hfz17_2 hfz17_3 hfz17_4 hfz17_5
        try clear hfz19_0 hfz19_1 hfz19_2 hfz19_3 hfz19_4 hfz19_5
        try clear hfz9_0 hfz9_1 hfz9_2 hfz9_3 hfz9_4 hfz9_5
        try clear p2
        try clear p6
        obtain ⟨x7_3, x187001_3, rfl, HA, HK3, BK183, BK186, HB⟩ := hrel
        cases gk with
        | zero => exact absurd HA.out (by simp [datetime_Split.l1])
        | succ k3 =>
         have H := HA.out
         clear HA
         simp only [datetime_Split.l1] at H
         replace H := Option.bind_eq_some_iff.mp H
         obtain ⟨t189, A200, H⟩ := H
         replace H : (if x7_3 ≥ t189 then ((datetime_monthDays.f x187000_2 x187001_3).bind fun t190 => (datetime_Split.l1 k3 (wrap64 (x7_3 - t190)) x187000_2 (wrap64 (x187001_3 + 1)) 0 (wrap64 (Int.tdiv (Int.tmod (wrap64 (a0 + (wrap64 (60 * a1)))) 86400) 3600)) (Int.tmod (wrap64 (Int.tdiv (Int.tmod (wrap64 (a0 + (wrap64 (60 * a1)))) 86400) 60)) 60) (Int.tmod (wrap64 (a0 + (wrap64 (60 * a1)))) 60))) else (some (x187000_2, x187001_3, wrap64 (x7_3 + 1), (wrap64 (Int.tdiv (Int.tmod (wrap64 (a0 + (wrap64 (60 * a1)))) 86400) 3600)), (Int.tmod (wrap64 (Int.tdiv (Int.tmod (wrap64 (a0 + (wrap64 (60 * a1)))) 86400) 60)) 60), (Int.tmod (wrap64 (a0 + (wrap64 (60 * a1)))) 60), 0))) = some (r1, r2, r3, r4, r5, r6, r7) := H
         have A20 := Aside0.mk A200
         clear A200
         by_cases c21 : x7_3 ≥ t189
         ·rw [if_pos c21] at H
          have c21b0 : decide (t189 ≤ x7_3) = true := decide_eq_true c21
          clear c21
          replace H := Option.bind_eq_some_iff.mp H
          obtain ⟨t190, A220, H⟩ := H
          replace H : (datetime_Split.l1 k3 (wrap64 (x7_3 - t190)) x187000_2 (wrap64 (x187001_3 + 1)) 0 (wrap64 (Int.tdiv (Int.tmod (wrap64 (a0 + (wrap64 (60 * a1)))) 86400) 3600)) (Int.tmod (wrap64 (Int.tdiv (Int.tmod (wrap64 (a0 + (wrap64 (60 * a1)))) 86400) 60)) 60) (Int.tmod (wrap64 (a0 + (wrap64 (60 * a1)))) 60)) = some (r1, r2, r3, r4, r5, r6, r7) := H
          have A22 := Aside0.mk A220
          clear A220
          have H' := Aside0.mk H
          clear H
          have hnb23 := NB186_183.out
          have hnc23 := NB183_186.out
          obtain ⟨hcz24_0, hcz24_1, hcz24_2, hcz24_3, hcz24_4, hcz24_5⟩ := cz_6 BK186.out
          obtain ⟨hfz24_0, hfz24_1, hfz24_2, hfz24_3, hfz24_4, hfz24_5⟩ := fz_6 BK186.out
          go_wp2_with (first | ((with_reducible refine gate_callee (f := 80) rfl ?_); refine goesL_ (some 54) rfl rfl Try.func80 (by kernel_rfl) rfl #[.int .i64 x187000_2, .int .i64 x187001_3] rfl (by (try simp only [List.map_toArray, List.map_cons, List.map_nil]); first | done | rfl | (simp only [List.length_drop, List.length_take]; rfl)) ?_; (with_reducible refine (datetime_monthDays.calls x187000_2 x187001_3 t189 _ A20.out).mono ?_); rintro e w25 ⟨rfl, hb⟩; refine ⟨_, rfl, ?_⟩; have n0_ := Aside0.mk (blk_below (g := gb183) (o := .cells #[.int .i64 0, .int .i64 0, .int .i64 0, .int .i64 0, .int .i64 0, .int .i64 0] 93 (0, 0)) (by (with_reducible repeat (first | refine blk_drewN ?_ _ | refine blk_drew ?_ | refine blk_alloc ?_ _)); exact BK183.out) hb); have n1_ := Aside0.mk (blk_below (g := gb186) (o := .cells #[.int .i64 x187000_2, .int .i64 x187001_3, .int .i64 0, .int .i64 (wrap64 (Int.tdiv (Int.tmod (wrap64 (a0 + (wrap64 (60 * a1)))) 86400) 3600)), .int .i64 (Int.tmod (wrap64 (Int.tdiv (Int.tmod (wrap64 (a0 + (wrap64 (60 * a1)))) 86400) 60)) 60), .int .i64 (Int.tmod (wrap64 (a0 + (wrap64 (60 * a1)))) 60)] 93 (0, 0)) (by (with_reducible repeat (first | refine blk_drewN ?_ _ | refine blk_drew ?_ | refine blk_alloc ?_ _)); exact BK186.out) hb); have n2_ := Aside0.mk (below_step (by repeat (first | (with_reducible first | exact HB.out | apply below_alloc | apply pw_below_drewN | apply below_drew1 | refine below_set ?_ GE183.out | refine below_set ?_ GE186.out) | exact HB.out)) hb); clear BK183; clear BK186; clear HB; have BK183 := n0_; have BK186 := n1_; have HB := n2_; clear n0_ n1_ n2_; (try clear hb); (try clear hb2); (try clear hk); (try clear hi); obtain ⟨hcz26_0, hcz26_1, hcz26_2, hcz26_3, hcz26_4, hcz26_5⟩ := cz_6 BK186.out; obtain ⟨hfz26_0, hfz26_1, hfz26_2, hfz26_3, hfz26_4, hfz26_5⟩ := fz_6 BK186.out) | ((with_reducible refine gate_callee (f := 80) rfl ?_); refine goesL_ (some 61) rfl rfl Try.func80 (by kernel_rfl) rfl #[.int .i64 x187000_2, .int .i64 x187001_3] rfl (by (try simp only [List.map_toArray, List.map_cons, List.map_nil]); first | done | rfl | (simp only [List.length_drop, List.length_take]; rfl)) ?_; (with_reducible refine (datetime_monthDays.calls x187000_2 x187001_3 t190 _ A22.out).mono ?_); rintro e w27 ⟨rfl, hb⟩; refine ⟨_, rfl, ?_⟩; have n0_ := Aside0.mk (blk_below (g := gb183) (o := .cells #[.int .i64 0, .int .i64 0, .int .i64 0, .int .i64 0, .int .i64 0, .int .i64 0] 93 (0, 0)) (by (with_reducible repeat (first | refine blk_drewN ?_ _ | refine blk_drew ?_ | refine blk_alloc ?_ _)); exact BK183.out) hb); have n1_ := Aside0.mk (blk_below (g := gb186) (o := .cells #[.int .i64 x187000_2, .int .i64 x187001_3, .int .i64 0, .int .i64 (wrap64 (Int.tdiv (Int.tmod (wrap64 (a0 + (wrap64 (60 * a1)))) 86400) 3600)), .int .i64 (Int.tmod (wrap64 (Int.tdiv (Int.tmod (wrap64 (a0 + (wrap64 (60 * a1)))) 86400) 60)) 60), .int .i64 (Int.tmod (wrap64 (a0 + (wrap64 (60 * a1)))) 60)] 93 (0, 0)) (by (with_reducible repeat (first | refine blk_drewN ?_ _ | refine blk_drew ?_ | refine blk_alloc ?_ _)); exact BK186.out) hb); have n2_ := Aside0.mk (below_step (by repeat (first | (with_reducible first | exact HB.out | apply below_alloc | apply pw_below_drewN | apply below_drew1 | refine below_set ?_ GE183.out | refine below_set ?_ GE186.out) | exact HB.out)) hb); clear BK183; clear BK186; clear HB; have BK183 := n0_; have BK186 := n1_; have HB := n2_; clear n0_ n1_ n2_; (try clear hb); (try clear hb2); (try clear hk); (try clear hi); obtain ⟨hcz28_0, hcz28_1, hcz28_2, hcz28_3, hcz28_4, hcz28_5⟩ := cz_6 BK186.out; obtain ⟨hfz28_0, hfz28_1, hfz28_2, hfz28_3, hfz28_4, hfz28_5⟩ := fz_6 BK186.out))
          go_roundg k3
          case measure => have := HJ2.out; have := HK2.out; have := HK3.out; omega
          case rel => exact ⟨(wrap64 (x7_3 - t190)), (wrap64 (x187001_3 + 1)), (by first | rfl | (simp; done) | (simp [*]; done)), H', ⟨by have := HJ2.out; have := HK2.out; have := HK3.out; omega⟩, ⟨by (with_reducible repeat (first | refine blk_drewN ?_ _ | refine blk_drew ?_ | refine blk_alloc ?_ _)); refine blk_far ?_ NB183_186.out _; (with_reducible repeat (first | refine blk_drewN ?_ _ | refine blk_drew ?_ | refine blk_alloc ?_ _)); exact BK183.out⟩, ⟨by (with_reducible repeat (first | refine blk_drewN ?_ _ | refine blk_drew ?_ | refine blk_alloc ?_ _)); refine blk_put (cs := #[.int .i64 x187000_2, .int .i64 x187001_3, .int .i64 0, .int .i64 (wrap64 (Int.tdiv (Int.tmod (wrap64 (a0 + (wrap64 (60 * a1)))) 86400) 3600)), .int .i64 (Int.tmod (wrap64 (Int.tdiv (Int.tmod (wrap64 (a0 + (wrap64 (60 * a1)))) 86400) 60)) 60), .int .i64 (Int.tmod (wrap64 (a0 + (wrap64 (60 * a1)))) 60)]) ?_ 1 _ rfl; (with_reducible repeat (first | refine blk_drewN ?_ _ | refine blk_drew ?_ | refine blk_alloc ?_ _)); exact BK186.out⟩, ⟨by repeat (first | (with_reducible first | exact HB.out | apply below_alloc | apply pw_below_drewN | apply below_drew1 | refine below_set ?_ GE183.out | refine below_set ?_ GE186.out) | exact HB.out)⟩⟩
         ·rw [if_neg c21] at H
          have c21b0 : decide (t189 ≤ x7_3) = false := decide_eq_false c21
          clear c21
          simp only [Option.some.injEq, Prod.mk.injEq] at H
          obtain ⟨rfl, rfl, rfl, rfl, rfl, rfl, rfl⟩ := H
          have hnb29 := NB186_183.out
          have hnc29 := NB183_186.out
          obtain ⟨hcz30_0, hcz30_1, hcz30_2, hcz30_3, hcz30_4, hcz30_5⟩ := cz_6 BK186.out
          obtain ⟨hfz30_0, hfz30_1, hfz30_2, hfz30_3, hfz30_4, hfz30_5⟩ := fz_6 BK186.out
          go_wp2_with (first | ((with_reducible refine gate_callee (f := 80) rfl ?_); refine goesL_ (some 54) rfl rfl Try.func80 (by kernel_rfl) rfl #[.int .i64 x187000_2, .int .i64 x187001_3] rfl (by (try simp only [List.map_toArray, List.map_cons, List.map_nil]); first | done | rfl | (simp only [List.length_drop, List.length_take]; rfl)) ?_; (with_reducible refine (datetime_monthDays.calls x187000_2 x187001_3 t189 _ A20.out).mono ?_); rintro e w31 ⟨rfl, hb⟩; refine ⟨_, rfl, ?_⟩; have n0_ := Aside0.mk (blk_below (g := gb183) (o := .cells #[.int .i64 0, .int .i64 0, .int .i64 0, .int .i64 0, .int .i64 0, .int .i64 0] 93 (0, 0)) (by (with_reducible repeat (first | refine blk_drewN ?_ _ | refine blk_drew ?_ | refine blk_alloc ?_ _)); exact BK183.out) hb); have n1_ := Aside0.mk (blk_below (g := gb186) (o := .cells #[.int .i64 x187000_2, .int .i64 x187001_3, .int .i64 0, .int .i64 (wrap64 (Int.tdiv (Int.tmod (wrap64 (a0 + (wrap64 (60 * a1)))) 86400) 3600)), .int .i64 (Int.tmod (wrap64 (Int.tdiv (Int.tmod (wrap64 (a0 + (wrap64 (60 * a1)))) 86400) 60)) 60), .int .i64 (Int.tmod (wrap64 (a0 + (wrap64 (60 * a1)))) 60)] 93 (0, 0)) (by (with_reducible repeat (first | refine blk_drewN ?_ _ | refine blk_drew ?_ | refine blk_alloc ?_ _)); exact BK186.out) hb); have n2_ := Aside0.mk (below_step (by repeat (first | (with_reducible first | exact HB.out | apply below_alloc | apply pw_below_drewN | apply below_drew1 | refine below_set ?_ GE183.out | refine below_set ?_ GE186.out) | exact HB.out)) hb); clear BK183; clear BK186; clear HB; have BK183 := n0_; have BK186 := n1_; have HB := n2_; clear n0_ n1_ n2_; (try clear hb); (try clear hb2); (try clear hk); (try clear hi); obtain ⟨hcz32_0, hcz32_1, hcz32_2, hcz32_3, hcz32_4, hcz32_5⟩ := cz_6 BK186.out; obtain ⟨hfz32_0, hfz32_1, hfz32_2, hfz32_3, hfz32_4, hfz32_5⟩ := fz_6 BK186.out; obtain ⟨hcz33_0, hcz33_1, hcz33_2, hcz33_3, hcz33_4, hcz33_5⟩ := cz_6 BK183.out; obtain ⟨hfz33_0, hfz33_1, hfz33_2, hfz33_3, hfz33_4, hfz33_5⟩ := fz_6 BK183.out))
          refine bodyPost_ret (results_ct rfl _ _ gb183 93 #[.int .i64 x187000_2, .int .i64 x187001_3, .int .i64 (wrap64 (x7_3 + 1)), .int .i64 (wrap64 (Int.tdiv (Int.tmod (wrap64 (a0 + (wrap64 (60 * a1)))) 86400) 3600)), .int .i64 (Int.tmod (wrap64 (Int.tdiv (Int.tmod (wrap64 (a0 + (wrap64 (60 * a1)))) 86400) 60)) 60), .int .i64 (Int.tmod (wrap64 (a0 + (wrap64 (60 * a1)))) 60)] (0, 0) _ rfl (by (with_reducible repeat (first | refine blk_drewN ?_ _ | refine blk_drew ?_ | refine blk_alloc ?_ _)); refine blk_put (cs := #[.int .i64 x187000_2, .int .i64 x187001_3, .int .i64 (wrap64 (x7_3 + 1)), .int .i64 (wrap64 (Int.tdiv (Int.tmod (wrap64 (a0 + (wrap64 (60 * a1)))) 86400) 3600)), .int .i64 (Int.tmod (wrap64 (Int.tdiv (Int.tmod (wrap64 (a0 + (wrap64 (60 * a1)))) 86400) 60)) 60), .int .i64 0]) ?_ 5 _ rfl; (with_reducible repeat (first | refine blk_drewN ?_ _ | refine blk_drew ?_ | refine blk_alloc ?_ _)); refine blk_put (cs := #[.int .i64 x187000_2, .int .i64 x187001_3, .int .i64 (wrap64 (x7_3 + 1)), .int .i64 (wrap64 (Int.tdiv (Int.tmod (wrap64 (a0 + (wrap64 (60 * a1)))) 86400) 3600)), .int .i64 0, .int .i64 0]) ?_ 4 _ rfl; (with_reducible repeat (first | refine blk_drewN ?_ _ | refine blk_drew ?_ | refine blk_alloc ?_ _)); refine blk_put (cs := #[.int .i64 x187000_2, .int .i64 x187001_3, .int .i64 (wrap64 (x7_3 + 1)), .int .i64 0, .int .i64 0, .int .i64 0]) ?_ 3 _ rfl; (with_reducible repeat (first | refine blk_drewN ?_ _ | refine blk_drew ?_ | refine blk_alloc ?_ _)); refine blk_put (cs := #[.int .i64 x187000_2, .int .i64 x187001_3, .int .i64 0, .int .i64 0, .int .i64 0, .int .i64 0]) ?_ 2 _ rfl; (with_reducible repeat (first | refine blk_drewN ?_ _ | refine blk_drew ?_ | refine blk_alloc ?_ _)); refine blk_put (cs := #[.int .i64 x187000_2, .int .i64 0, .int .i64 0, .int .i64 0, .int .i64 0, .int .i64 0]) ?_ 1 _ rfl; (with_reducible repeat (first | refine blk_drewN ?_ _ | refine blk_drew ?_ | refine blk_alloc ?_ _)); refine blk_put (cs := #[.int .i64 0, .int .i64 0, .int .i64 0, .int .i64 0, .int .i64 0, .int .i64 0]) ?_ 0 _ rfl; (with_reducible repeat (first | refine blk_drewN ?_ _ | refine blk_drew ?_ | refine blk_alloc ?_ _)); refine blk_far ?_ NB183_186.out _; (with_reducible repeat (first | refine blk_drewN ?_ _ | refine blk_drew ?_ | refine blk_alloc ?_ _)); exact BK183.out) Try.underlying93 rfl (by kernel_rfl)) rfl ?_
          exact ⟨by first | rfl | (simp [errW_none, errW_some] <;> rfl) | (simp [*, errW_none, errW_some] <;> rfl), by repeat (first | (with_reducible first | exact HB.out | apply below_alloc | apply pw_below_drewN | apply below_drew1 | refine below_set ?_ GE183.out | refine below_set ?_ GE186.out) | exact HB.out)⟩

/-! ### datetime_Stamp: function 30 -/
def datetime_Stamp.f (k : Nat) (a0 : Int) (a1 : Int) : Option (ByteArray × Int) := (datetime_Split.f k a0 a1).bind fun bt191 => (if bt191.2.2.2.2.2.2 = 0 then (some (strOfNums (([(Go.bits .or .i64 4096 (Go.bits .and .i64 a1 4095)) % 256, ((Go.bits .or .i64 4096 (Go.bits .and .i64 a1 4095)) / 256) % 256, (bt191.1) % 256, (bt191.1 / 256) % 256, (bt191.2.1) % 256, (bt191.2.2.1) % 256, (bt191.2.2.2.1) % 256, (bt191.2.2.2.2.1) % 256, (bt191.2.2.2.2.2.1) % 256, 0, 0, 0] : List Int)), 0)) else (some ((⟨#[]⟩ : ByteArray), bt191.2.2.2.2.2.2)))
theorem datetime_Stamp.mono : ∀ a0 a1 k, LeO (datetime_Stamp.f k a0 a1) (datetime_Stamp.f (k + 1) a0 a1) := by
 intro a0 a1 k
 unfold datetime_Stamp.f
 repeat' first
   | (with_reducible exact datetime_Split.mono _ _ _)
   | (with_reducible exact LeO.refl _)
   | (with_reducible exact LeO.none _)
   | (with_reducible refine LeO.ite ?_ ?_)
   | (with_reducible refine LeO.bind ?_ (fun _ => ?_))
   | exact datetime_Split.mono _ _ _
   | exact LeO.none _
   | refine LeO.ite ?_ ?_
   | refine LeO.bind ?_ (fun _ => ?_)
set_option maxHeartbeats 8000000 in
set_option maxRecDepth 100000 in
theorem datetime_Stamp.calls (k : Nat) (a0 : Int) (a1 : Int) (r1 : ByteArray) (r2 : Int) (w : World) (h : datetime_Stamp.f k a0 a1 = some (r1, r2)) :
  Calls Try.prog 30 #[.int .i64 a0, .int .i64 a1] w fun e w' => e = .returned (.tuple #[.string r1, .int .i64 r2]) ∧ Below w.heap.size w w' := by
 have hu93 := Try.underlying93
 have HB := Aside0.mk (Below.refl w.heap.size w)
 have H : ((datetime_Split.f k a0 a1).bind fun bt191 => (if bt191.2.2.2.2.2.2 = 0 then (some (strOfNums (([(Go.bits .or .i64 4096 (Go.bits .and .i64 a1 4095)) % 256, ((Go.bits .or .i64 4096 (Go.bits .and .i64 a1 4095)) / 256) % 256, (bt191.1) % 256, (bt191.1 / 256) % 256, (bt191.2.1) % 256, (bt191.2.2.1) % 256, (bt191.2.2.2.1) % 256, (bt191.2.2.2.2.1) % 256, (bt191.2.2.2.2.2.1) % 256, 0, 0, 0] : List Int)), 0)) else (some ((⟨#[]⟩ : ByteArray), bt191.2.2.2.2.2.2)))) = some (r1, r2) := h
 clear h
 replace H := Option.bind_eq_some_iff.mp H
 obtain ⟨⟨t191, t192, t193, t194, t195, t196, t197⟩, A30, H⟩ := H
 replace H : (if t197 = 0 then (some (strOfNums (([(Go.bits .or .i64 4096 (Go.bits .and .i64 a1 4095)) % 256, ((Go.bits .or .i64 4096 (Go.bits .and .i64 a1 4095)) / 256) % 256, (t191) % 256, (t191 / 256) % 256, (t192) % 256, (t193) % 256, (t194) % 256, (t195) % 256, (t196) % 256, 0, 0, 0] : List Int)), 0)) else (some ((⟨#[]⟩ : ByteArray), t197))) = some (r1, r2) := H
 have A3 := Aside0.mk A30
 clear A30
 by_cases c4 : t197 = 0
 ·rw [if_pos c4] at H
  have c4b0 : (t197 == 0) = true := beq_iff_eq.mpr c4
  have c4b1 : (t197 != 0) = false := bne_eq_false_iff_eq.mpr c4
  clear c4
  obtain ⟨y199, hy199⟩ : ∃ y_ : List Int, y_ = (([(Go.bits .or .i64 4096 (Go.bits .and .i64 a1 4095)) % 256, ((Go.bits .or .i64 4096 (Go.bits .and .i64 a1 4095)) / 256) % 256, (t191) % 256, (t191 / 256) % 256, (t192) % 256, (t193) % 256, (t194) % 256, (t195) % 256, (t196) % 256, 0, 0, 0] : List Int)) := ⟨_, rfl⟩
  replace H : (some (strOfNums y199, 0)) = some (r1, r2) := by first | (rw [hy199]; with_reducible exact H) | (have H2_ := (Option.bind_some _ _).symm.trans H; rw [hy199]; with_reducible exact H2_) | (have H2_ := (Option.bind_some _ _).symm.trans H; with_reducible exact H2_) | with_reducible exact H | (rw [hy199]; exact H) | exact H
  have Ny199 := Aside0.mk hy199
  clear hy199
  simp only [Option.some.injEq, Prod.mk.injEq] at H
  obtain ⟨rfl, rfl⟩ := H
  go_enter Try.func30, Try.ntmps30
  go_wp2_with (first | ((with_reducible refine gate_callee (f := 54) rfl ?_); refine goesL_ (some 12) rfl rfl Try.func54 (by kernel_rfl) rfl #[.int .i64 a0, .int .i64 a1] rfl (by (try simp only [List.map_toArray, List.map_cons, List.map_nil]); first | done | rfl | (simp only [List.length_drop, List.length_take]; rfl)) ?_; (with_reducible refine (datetime_Split.calls k a0 a1 t191 t192 t193 t194 t195 t196 t197 _ A3.out).mono ?_); rintro e w5 ⟨rfl, hb⟩; refine ⟨_, rfl, ?_⟩; have n0_ := Aside0.mk (below_step (by repeat (first | (with_reducible first | exact HB.out | apply below_alloc | apply pw_below_drewN | apply below_drew1) | exact HB.out)) hb); clear HB; have HB := n0_; clear n0_; (try clear hb); (try clear hb2); (try clear hk); (try clear hi)) | ((with_reducible refine gate_dst (N := 6) rfl ?_); refine box_event ?hg (N := 6) ?hd (cs := #[.int .i64 0, .int .i64 0, .int .i64 0, .int .i64 0, .int .i64 0, .int .i64 0]) (t := 93) ?hr ?_; (case hd => rfl); (case hg => rfl); (case hr => first | (go_simp; done) | (go_simp; rfl)); intro gb198 hg w6 hbox hb; have n0_ := Aside0.mk (below_step (by repeat (first | (with_reducible first | exact HB.out | apply below_alloc | apply pw_below_drewN | apply below_drew1) | exact HB.out)) hb); have n1_ := Aside0.mk (hbox); have n2_ := Aside0.mk ((by rw [hg]; exact (below_size (by repeat (first | (with_reducible first | exact HB.out | apply below_alloc | apply pw_below_drewN | apply below_drew1) | exact HB.out))) : w.heap.size ≤ gb198)); have n3_ := Aside0.mk ((by rw [hg]; exact (below_size (by repeat (first | (with_reducible first | exact HB.out | apply below_alloc | apply pw_below_drewN | apply below_drew1) | exact HB.out))) : w.heap.size ≤ gb198)); clear HB; have HB := n0_; have BK198 := n1_; have GW198 := n2_; have GE198 := n3_; clear n0_ n1_ n2_ n3_; clear hb hbox hg; obtain ⟨hcz7_0, hcz7_1, hcz7_2, hcz7_3, hcz7_4, hcz7_5⟩ := cz_6 BK198.out; obtain ⟨hfz7_0, hfz7_1, hfz7_2, hfz7_3, hfz7_4, hfz7_5⟩ := fz_6 BK198.out) | ((with_reducible refine gate_dst (N := 48) rfl ?_); refine Kd.R_lit (Kd.int .u8) _ 5 ?hg (N := 48) ?hd (xs := ([(Go.bits .or .i64 4096 (Go.bits .and .i64 a1 4095)) % 256, ((Go.bits .or .i64 4096 (Go.bits .and .i64 a1 4095)) / 256) % 256, (t191) % 256, (t191 / 256) % 256, (t192) % 256, (t193) % 256, (t194) % 256, (t195) % 256, (t196) % 256, 0, 0, 0] : List Int)) (inner := [.int .u8 ((Go.bits .or .i64 4096 (Go.bits .and .i64 a1 4095)) % 256), .int .u8 (((Go.bits .or .i64 4096 (Go.bits .and .i64 a1 4095)) / 256) % 256), .int .u8 ((t191) % 256), .int .u8 ((t191 / 256) % 256), .int .u8 ((t192) % 256), .int .u8 ((t193) % 256), .int .u8 ((t194) % 256), .int .u8 ((t195) % 256), .int .u8 ((t196) % 256), .int .u8 0, .int .u8 0, .int .u8 0]) (ok := fun _ => True) (okp := fun _ => True) ?hr ?hp (fun _ hk => hk) trivial (Below.refl _ _) (Nat.le_refl _) (by simp) ?_; (case hd => rfl); (case hg => rfl); (case hr => first | (go_simp; done) | (go_simp; rfl)); (case hp => exact (Reps.one (show Kd.M (Kd.int .u8) _ _ _ ((Go.bits .or .i64 4096 (Go.bits .and .i64 a1 4095)) % 256) [.int .u8 ((Go.bits .or .i64 4096 (Go.bits .and .i64 a1 4095)) % 256)] from rfl) (Reps.one (show Kd.M (Kd.int .u8) _ _ _ (((Go.bits .or .i64 4096 (Go.bits .and .i64 a1 4095)) / 256) % 256) [.int .u8 (((Go.bits .or .i64 4096 (Go.bits .and .i64 a1 4095)) / 256) % 256)] from rfl) (Reps.one (show Kd.M (Kd.int .u8) _ _ _ ((t191) % 256) [.int .u8 ((t191) % 256)] from rfl) (Reps.one (show Kd.M (Kd.int .u8) _ _ _ ((t191 / 256) % 256) [.int .u8 ((t191 / 256) % 256)] from rfl) (Reps.one (show Kd.M (Kd.int .u8) _ _ _ ((t192) % 256) [.int .u8 ((t192) % 256)] from rfl) (Reps.one (show Kd.M (Kd.int .u8) _ _ _ ((t193) % 256) [.int .u8 ((t193) % 256)] from rfl) (Reps.one (show Kd.M (Kd.int .u8) _ _ _ ((t194) % 256) [.int .u8 ((t194) % 256)] from rfl) (Reps.one (show Kd.M (Kd.int .u8) _ _ _ ((t195) % 256) [.int .u8 ((t195) % 256)] from rfl) (Reps.one (show Kd.M (Kd.int .u8) _ _ _ ((t196) % 256) [.int .u8 ((t196) % 256)] from rfl) (Reps.one (show Kd.M (Kd.int .u8) _ _ _ 0 [.int .u8 0] from rfl) (Reps.one (show Kd.M (Kd.int .u8) _ _ _ 0 [.int .u8 0] from rfl) (Reps.one (show Kd.M (Kd.int .u8) _ _ _ 0 [.int .u8 0] from rfl) (Reps.none _ _)))))))))))))); intro v200 w8 ho9 hb hg_ hnew_; clear hg_ hnew_; (first | rw [← Ny199.out] at ho9 | (simp only [Int.reduceToNat] at ho9; rw [← Ny199.out] at ho9)); have n0_ := Aside0.mk (Kd.R_lower ho9 (below_size (by repeat (first | (with_reducible first | exact HB.out | apply below_alloc | apply pw_below_drewN | apply below_drew1 | refine below_set ?_ GE198.out) | exact HB.out)))); have n1_ := Aside0.mk (blk_below (g := gb198) (o := .cells #[.int .i64 t191, .int .i64 t192, .int .i64 t193, .int .i64 t194, .int .i64 t195, .int .i64 t196] 93 (0, 0)) (by (with_reducible repeat (first | refine blk_drewN ?_ _ | refine blk_drew ?_ | refine blk_alloc ?_ _)); refine blk_put (cs := #[.int .i64 t191, .int .i64 t192, .int .i64 t193, .int .i64 t194, .int .i64 t195, .int .i64 0]) ?_ 5 _ rfl; (with_reducible repeat (first | refine blk_drewN ?_ _ | refine blk_drew ?_ | refine blk_alloc ?_ _)); refine blk_put (cs := #[.int .i64 t191, .int .i64 t192, .int .i64 t193, .int .i64 t194, .int .i64 0, .int .i64 0]) ?_ 4 _ rfl; (with_reducible repeat (first | refine blk_drewN ?_ _ | refine blk_drew ?_ | refine blk_alloc ?_ _)); refine blk_put (cs := #[.int .i64 t191, .int .i64 t192, .int .i64 t193, .int .i64 0, .int .i64 0, .int .i64 0]) ?_ 3 _ rfl; (with_reducible repeat (first | refine blk_drewN ?_ _ | refine blk_drew ?_ | refine blk_alloc ?_ _)); refine blk_put (cs := #[.int .i64 t191, .int .i64 t192, .int .i64 0, .int .i64 0, .int .i64 0, .int .i64 0]) ?_ 2 _ rfl; (with_reducible repeat (first | refine blk_drewN ?_ _ | refine blk_drew ?_ | refine blk_alloc ?_ _)); refine blk_put (cs := #[.int .i64 t191, .int .i64 0, .int .i64 0, .int .i64 0, .int .i64 0, .int .i64 0]) ?_ 1 _ rfl; (with_reducible repeat (first | refine blk_drewN ?_ _ | refine blk_drew ?_ | refine blk_alloc ?_ _)); refine blk_put (cs := #[.int .i64 0, .int .i64 0, .int .i64 0, .int .i64 0, .int .i64 0, .int .i64 0]) ?_ 0 _ rfl; (with_reducible repeat (first | refine blk_drewN ?_ _ | refine blk_drew ?_ | refine blk_alloc ?_ _)); exact BK198.out) hb); have n2_ := Aside0.mk (below_step (by repeat (first | (with_reducible first | exact HB.out | apply below_alloc | apply pw_below_drewN | apply below_drew1 | refine below_set ?_ GE198.out) | exact HB.out)) hb); clear BK198; clear HB; have HO201 := n0_; have BK198 := n1_; have HB := n2_; clear n0_ n1_ n2_; clear hb ho9; have hcv10 := own_string (P := Try.prog) Try.underlying54 Try.underlying5 Try.underlying9 (Kd.own_of_R HO201.out)))
  go_ret2
  exact ⟨by first | rfl | (simp [errW_none, errW_some] <;> rfl) | (simp [*, errW_none, errW_some] <;> rfl), by repeat (first | (with_reducible first | exact HB.out | apply below_alloc | apply pw_below_drewN | apply below_drew1 | refine below_set ?_ GE198.out) | exact HB.out)⟩
 ·rw [if_neg c4] at H
  have c4b0 : (t197 == 0) = false := beq_eq_false_iff_ne.mpr c4
  have c4b1 : (t197 != 0) = true := bne_iff_ne.mpr c4
  simp only [Option.some.injEq, Prod.mk.injEq] at H
  obtain ⟨rfl, rfl⟩ := H
  go_enter Try.func30, Try.ntmps30
  go_wp2_with (first | ((with_reducible refine gate_callee (f := 54) rfl ?_); refine goesL_ (some 12) rfl rfl Try.func54 (by kernel_rfl) rfl #[.int .i64 a0, .int .i64 a1] rfl (by (try simp only [List.map_toArray, List.map_cons, List.map_nil]); first | done | rfl | (simp only [List.length_drop, List.length_take]; rfl)) ?_; (with_reducible refine (datetime_Split.calls k a0 a1 t191 t192 t193 t194 t195 t196 t197 _ A3.out).mono ?_); rintro e w11 ⟨rfl, hb⟩; refine ⟨_, rfl, ?_⟩; have n0_ := Aside0.mk (below_step (by repeat (first | (with_reducible first | exact HB.out | apply below_alloc | apply pw_below_drewN | apply below_drew1) | exact HB.out)) hb); clear HB; have HB := n0_; clear n0_; (try clear hb); (try clear hb2); (try clear hk); (try clear hi)) | ((with_reducible refine gate_dst (N := 6) rfl ?_); refine box_event ?hg (N := 6) ?hd (cs := #[.int .i64 0, .int .i64 0, .int .i64 0, .int .i64 0, .int .i64 0, .int .i64 0]) (t := 93) ?hr ?_; (case hd => rfl); (case hg => rfl); (case hr => first | (go_simp; done) | (go_simp; rfl)); intro gb198 hg w12 hbox hb; have n0_ := Aside0.mk (below_step (by repeat (first | (with_reducible first | exact HB.out | apply below_alloc | apply pw_below_drewN | apply below_drew1) | exact HB.out)) hb); have n1_ := Aside0.mk (hbox); have n2_ := Aside0.mk ((by rw [hg]; exact (below_size (by repeat (first | (with_reducible first | exact HB.out | apply below_alloc | apply pw_below_drewN | apply below_drew1) | exact HB.out))) : w.heap.size ≤ gb198)); have n3_ := Aside0.mk ((by rw [hg]; exact (below_size (by repeat (first | (with_reducible first | exact HB.out | apply below_alloc | apply pw_below_drewN | apply below_drew1) | exact HB.out))) : w.heap.size ≤ gb198)); clear HB; have HB := n0_; have BK198 := n1_; have GW198 := n2_; have GE198 := n3_; clear n0_ n1_ n2_ n3_; clear hb hbox hg; obtain ⟨hcz13_0, hcz13_1, hcz13_2, hcz13_3, hcz13_4, hcz13_5⟩ := cz_6 BK198.out; obtain ⟨hfz13_0, hfz13_1, hfz13_2, hfz13_3, hfz13_4, hfz13_5⟩ := fz_6 BK198.out))
  go_ret2
  exact ⟨by first | rfl | (simp [errW_none, errW_some] <;> rfl) | (simp [*, errW_none, errW_some] <;> rfl), by repeat (first | (with_reducible first | exact HB.out | apply below_alloc | apply pw_below_drewN | apply below_drew1 | refine below_set ?_ GE198.out) | exact HB.out)⟩

/-! ### allocation_Blocks: function 31 -/
def allocation_Blocks.l0 : Nat → Int → List (S69) → Int → Int → Option (Int)
 | 0, _, _, _, _ => none
 | k + 1, x3, x9, x10, x11 => if x11 < x10 then (if 0 ≤ x11 then (if x11 < (x9.length : Int) then (if ((rd_T69 x9 x11).f0) = 0 then ((allocation_blocks.f ((rd_T69 x9 x11).f1)).bind fun t205 => (allocation_Blocks.l0 k (wrap64 (x3 + t205)) x9 x10 (wrap64 (x11 + 1)))) else (allocation_Blocks.l0 k x3 x9 x10 (wrap64 (x11 + 1)))) else (none)) else (none)) else (some x3)
def allocation_Blocks.f (k : Nat) (l0 : List (S69)) : Option (Int) := (allocation_formed.f k l0).bind fun t202 => (if t202 = true then (allocation_Blocks.l0 k 0 l0 (l0.length : Int) 0) else (some 0))
theorem allocation_Blocks.mono_l : ∀ k, (∀ y0 y1 y2 y3, LeO (allocation_Blocks.l0 k y0 y1 y2 y3) (allocation_Blocks.l0 (k + 1) y0 y1 y2 y3))
 | 0 => fun _ _ _ _ r h => by simp [allocation_Blocks.l0] at h
 | k + 1 => by
  have ih0 := allocation_Blocks.mono_l k
  ·intro y0 y1 y2 y3
   unfold allocation_Blocks.l0
   repeat' first
   | (with_reducible exact ih0 _ _ _ _)
   | (with_reducible exact allocation_formed.mono _ _)
   | (with_reducible exact LeO.refl _)
   | (with_reducible exact LeO.none _)
   | (with_reducible refine LeO.ite ?_ ?_)
   | (with_reducible refine LeO.bind ?_ (fun _ => ?_))
   | exact ih0 _ _ _ _
   | exact allocation_formed.mono _ _
   | exact LeO.none _
   | refine LeO.ite ?_ ?_
   | refine LeO.bind ?_ (fun _ => ?_)
theorem allocation_Blocks.mono : ∀ a0 k, LeO (allocation_Blocks.f k a0) (allocation_Blocks.f (k + 1) a0) := by
 intro a0 k
 have ih0 := allocation_Blocks.mono_l k
 unfold allocation_Blocks.f
 repeat' first
   | (with_reducible exact ih0 _ _ _ _)
   | (with_reducible exact allocation_formed.mono _ _)
   | (with_reducible exact LeO.refl _)
   | (with_reducible exact LeO.none _)
   | (with_reducible refine LeO.ite ?_ ?_)
   | (with_reducible refine LeO.bind ?_ (fun _ => ?_))
   | exact ih0 _ _ _ _
   | exact allocation_formed.mono _ _
   | exact LeO.none _
   | refine LeO.ite ?_ ?_
   | refine LeO.bind ?_ (fun _ => ?_)
set_option maxHeartbeats 8000000 in
set_option maxRecDepth 100000 in
theorem allocation_Blocks.calls (k : Nat) (A0 : Option Addr) (c0 : Nat) (l0 : List (S69)) (r : Int) (w : World) (hr0 : Kd.C k69 w A0 l0.length l0) (hc0 : l0.length ≤ c0) (h : allocation_Blocks.f k l0 = some r) :
  Calls Try.prog 31 #[.slice A0 l0.length c0] w fun e w' => e = .returned (.int .i64 r) ∧ Below w.heap.size w w' := by
 have hu69 := Try.underlying69
 have HR0 := Aside0.mk hr0
 have HC0 := Aside0.mk hc0
 clear hr0 hc0
 have HB := Aside0.mk (Below.refl w.heap.size w)
 have H : ((allocation_formed.f k l0).bind fun t202 => (if t202 = true then (allocation_Blocks.l0 k 0 l0 (l0.length : Int) 0) else (some 0))) = some r := h
 clear h
 replace H := Option.bind_eq_some_iff.mp H
 obtain ⟨t202, A20, H⟩ := H
 replace H : (if t202 = true then (allocation_Blocks.l0 k 0 l0 (l0.length : Int) 0) else (some 0)) = some r := H
 have A2 := Aside0.mk A20
 clear A20
 by_cases c3 : t202 = true
 ·subst c3
  have H1 : (allocation_Blocks.l0 k 0 l0 (l0.length : Int) 0) = some r := by rw [if_pos rfl] at H; exact H
  clear H
  have H := H1
  clear H1
  have H' := Aside0.mk H
  clear H
  go_enter Try.func31, Try.ntmps31
  go_wp2_with (first | ((with_reducible refine gate_callee (f := 42) rfl ?_); refine goesL_ (some 7) rfl rfl Try.func42 (by kernel_rfl) rfl #[.slice A0 l0.length c0] rfl (by (try simp only [List.map_toArray, List.map_cons, List.map_nil]); first | done | rfl | (simp only [List.length_drop, List.length_take]; rfl)) ?_; (with_reducible refine (allocation_formed.calls k _ _ l0 true _ ?side1 ?side2 A2.out).mono ?_); (case side1 => repeat (first | exact HR0.out | (with_reducible refine Kd.C_alloc ?_ _) | (with_reducible refine Kd.C_drewN ?_ _) | (with_reducible refine Kd.C_drew ?_))); (case side2 => exact HC0.out); rintro e w4 ⟨rfl, hb⟩; refine ⟨_, rfl, ?_⟩; have n0_ := Aside0.mk (below_step (by repeat (first | (with_reducible first | exact HB.out | apply below_alloc | apply pw_below_drewN | apply below_drew1) | exact HB.out)) hb); clear HB; have HB := n0_; clear n0_; (try clear hb); (try clear hb2); (try clear hk); (try clear hi)))
  go_loopg [3, 11] k (fun kq v3 v11 w' => ∃ (x3_1 : Int) (x11_1 : Int), v3 = .int .i64 x3_1 ∧ v11 = .int .i64 x11_1 ∧ Aside0 (allocation_Blocks.l0 kq x3_1 l0 (l0.length : Int) x11_1 = some r) ∧ Aside0 (kq ≤ k) ∧ Aside0 (Below w.heap.size w w'))
  case atStart => exact ⟨(0), (0), (by first | rfl | (simp; done) | (simp [*]; done)), (by first | rfl | (simp; done) | (simp [*]; done)), H', ⟨Nat.le_refl _⟩, ⟨by repeat (first | (with_reducible first | exact HB.out | apply below_alloc | apply pw_below_drewN | apply below_drew1) | exact HB.out)⟩⟩
  case round =>
   clear H'
   try clear p2
   try clear c3
   try clear c4
   obtain ⟨x3_1, x11_1, rfl, rfl, HA, HK1, HB⟩ := hrel
   cases gk with
   | zero => exact absurd HA.out (by simp [allocation_Blocks.l0])
   | succ k1 =>
    have H := HA.out
    clear HA
    simp only [allocation_Blocks.l0] at H
    by_cases c5 : x11_1 < (l0.length : Int)
    ·rw [if_pos c5] at H
     have c5b0 : decide (x11_1 < (l0.length : Int)) = true := decide_eq_true c5
     clear c5
     by_cases c6 : 0 ≤ x11_1
     ·rw [if_pos c6] at H
      have c6b0 : decide (0 ≤ x11_1) = true := decide_eq_true c6
      clear c6
      by_cases c7 : x11_1 < (l0.length : Int)
      ·rw [if_pos c7] at H
       have c7b0 : decide (x11_1 < (l0.length : Int)) = true := decide_eq_true c7
       clear c7
       by_cases c8 : ((rd_T69 l0 x11_1).f0) = 0
       ·rw [if_pos c8] at H
        have c8b0 : (((rd_T69 l0 x11_1).f0) == 0) = true := beq_iff_eq.mpr c8
        have c8b1 : (((rd_T69 l0 x11_1).f0) != 0) = false := bne_eq_false_iff_eq.mpr c8
        clear c8
        replace H := Option.bind_eq_some_iff.mp H
        obtain ⟨t205, A90, H⟩ := H
        replace H : (allocation_Blocks.l0 k1 (wrap64 (x3_1 + t205)) l0 (l0.length : Int) (wrap64 (x11_1 + 1))) = some r := H
        have A9 := Aside0.mk A90
        clear A90
        have H' := Aside0.mk H
        clear H
        have p203 : 0 ≤ (x11_1 : Int) := of_decide_eq_true (by first | (with_reducible assumption) | assumption)
        have q203 : x11_1 < (l0.length : Int) := of_decide_eq_true (by first | (with_reducible assumption) | assumption)
        obtain ⟨ad203, e203, hx203_0, hx203_1, hx203_2, hx203_3⟩ := at_T69 HR0.out x11_1 p203 q203
        cases e203
        replace hx203_0 := (HB.out.cell (World.block_lt_of_cell? w _ hx203_0)).trans hx203_0
        replace hx203_1 := (HB.out.cell (World.block_lt_of_cell? w _ hx203_1)).trans hx203_1
        replace hx203_2 := (HB.out.cell (World.block_lt_of_cell? w _ hx203_2)).trans hx203_2
        replace hx203_3 := (HB.out.cell (World.block_lt_of_cell? w _ hx203_3)).trans hx203_3
        replace p203 := eq_true p203
        replace q203 := eq_true q203
        go_wp2_with (first | ((with_reducible refine gate_dst (N := 5) rfl ?_); refine box_event ?hg (N := 5) ?hd (cs := #[.int .i64 0, .int .i64 0, .int .i64 0, .int .i64 0]) (t := 69) ?hr ?_; (case hd => rfl); (case hg => rfl); (case hr => first | (go_simp; done) | (go_simp; rfl)); intro gb204 hg w10 hbox hb; have n0_ := Aside0.mk (below_step (by repeat (first | (with_reducible first | exact HB.out | apply below_alloc | apply pw_below_drewN | apply below_drew1) | exact HB.out)) hb); have n1_ := Aside0.mk (hbox); have n2_ := Aside0.mk ((by rw [hg]; exact (below_size (by repeat (first | (with_reducible first | exact HB.out | apply below_alloc | apply pw_below_drewN | apply below_drew1) | exact HB.out))) : w.heap.size ≤ gb204)); have n3_ := Aside0.mk ((by rw [hg]; exact (below_size (by repeat (first | (with_reducible first | exact HB.out | apply below_alloc | apply pw_below_drewN | apply below_drew1) | exact HB.out))) : w.heap.size ≤ gb204)); clear HB; have HB := n0_; have BK204 := n1_; have GW204 := n2_; have GE204 := n3_; clear n0_ n1_ n2_ n3_; clear hb hbox hg; obtain ⟨hcz11_0, hcz11_1, hcz11_2, hcz11_3⟩ := cz_4 BK204.out; obtain ⟨hfz11_0, hfz11_1, hfz11_2, hfz11_3⟩ := fz_4 BK204.out) | ((with_reducible refine gate_callee (f := 55) rfl ?_); refine goesL_ (some 21) rfl rfl Try.func55 (by kernel_rfl) rfl #[.int .i64 ((rd_T69 l0 x11_1).f1)] rfl (by (try simp only [List.map_toArray, List.map_cons, List.map_nil]); first | done | rfl | (simp only [List.length_drop, List.length_take]; rfl)) ?_; (with_reducible refine (allocation_blocks.calls ((rd_T69 l0 x11_1).f1) t205 _ A9.out).mono ?_); rintro e w' ⟨rfl, ⟨nd, rfl⟩⟩; refine ⟨_, rfl, ?_⟩))
        go_roundg k1
        case measure => have := HK1.out; omega
        case rel => exact ⟨(wrap64 (x3_1 + t205)), (wrap64 (x11_1 + 1)), (by first | rfl | (simp; done) | (simp [*]; done)), (by first | rfl | (simp; done) | (simp [*]; done)), H', ⟨by have := HK1.out; omega⟩, ⟨by repeat (first | (with_reducible first | exact HB.out | apply below_alloc | apply pw_below_drewN | apply below_drew1 | refine below_set ?_ GE204.out) | exact HB.out)⟩⟩
       ·rw [if_neg c8] at H
        have c8b0 : (((rd_T69 l0 x11_1).f0) == 0) = false := beq_eq_false_iff_ne.mpr c8
        have c8b1 : (((rd_T69 l0 x11_1).f0) != 0) = true := bne_iff_ne.mpr c8
        have H' := Aside0.mk H
        clear H
        have p203 : 0 ≤ (x11_1 : Int) := of_decide_eq_true (by first | (with_reducible assumption) | assumption)
        have q203 : x11_1 < (l0.length : Int) := of_decide_eq_true (by first | (with_reducible assumption) | assumption)
        obtain ⟨ad203, e203, hx203_0, hx203_1, hx203_2, hx203_3⟩ := at_T69 HR0.out x11_1 p203 q203
        cases e203
        replace hx203_0 := (HB.out.cell (World.block_lt_of_cell? w _ hx203_0)).trans hx203_0
        replace hx203_1 := (HB.out.cell (World.block_lt_of_cell? w _ hx203_1)).trans hx203_1
        replace hx203_2 := (HB.out.cell (World.block_lt_of_cell? w _ hx203_2)).trans hx203_2
        replace hx203_3 := (HB.out.cell (World.block_lt_of_cell? w _ hx203_3)).trans hx203_3
        replace p203 := eq_true p203
        replace q203 := eq_true q203
        go_wp2_with (first | ((with_reducible refine gate_dst (N := 5) rfl ?_); refine box_event ?hg (N := 5) ?hd (cs := #[.int .i64 0, .int .i64 0, .int .i64 0, .int .i64 0]) (t := 69) ?hr ?_; (case hd => rfl); (case hg => rfl); (case hr => first | (go_simp; done) | (go_simp; rfl)); intro gb204 hg w12 hbox hb; have n0_ := Aside0.mk (below_step (by repeat (first | (with_reducible first | exact HB.out | apply below_alloc | apply pw_below_drewN | apply below_drew1) | exact HB.out)) hb); have n1_ := Aside0.mk (hbox); have n2_ := Aside0.mk ((by rw [hg]; exact (below_size (by repeat (first | (with_reducible first | exact HB.out | apply below_alloc | apply pw_below_drewN | apply below_drew1) | exact HB.out))) : w.heap.size ≤ gb204)); have n3_ := Aside0.mk ((by rw [hg]; exact (below_size (by repeat (first | (with_reducible first | exact HB.out | apply below_alloc | apply pw_below_drewN | apply below_drew1) | exact HB.out))) : w.heap.size ≤ gb204)); clear HB; have HB := n0_; have BK204 := n1_; have GW204 := n2_; have GE204 := n3_; clear n0_ n1_ n2_ n3_; clear hb hbox hg; obtain ⟨hcz13_0, hcz13_1, hcz13_2, hcz13_3⟩ := cz_4 BK204.out; obtain ⟨hfz13_0, hfz13_1, hfz13_2, hfz13_3⟩ := fz_4 BK204.out))
        go_roundg k1
        case measure => have := HK1.out; omega
        case rel => exact ⟨(x3_1), (wrap64 (x11_1 + 1)), (by first | rfl | (simp; done) | (simp [*]; done)), (by first | rfl | (simp; done) | (simp [*]; done)), H', ⟨by have := HK1.out; omega⟩, ⟨by repeat (first | (with_reducible first | exact HB.out | apply below_alloc | apply pw_below_drewN | apply below_drew1 | refine below_set ?_ GE204.out) | exact HB.out)⟩⟩
      ·rw [if_neg c7] at H
       exact absurd H (by simp)
     ·rw [if_neg c6] at H
      exact absurd H (by simp)
    ·rw [if_neg c5] at H
     have c5b0 : decide (x11_1 < (l0.length : Int)) = false := decide_eq_false c5
     clear c5
     obtain rfl := Option.some.inj H
     go_wp2
     go_ret
     exact ⟨by first | rfl | (simp [errW_none, errW_some] <;> rfl) | (simp [*, errW_none, errW_some] <;> rfl), by repeat (first | (with_reducible first | exact HB.out | apply below_alloc | apply pw_below_drewN | apply below_drew1) | exact HB.out)⟩
 ·replace c3 := Bool.eq_false_iff.mpr c3
  subst c3
  have H1 : (some 0) = some r := by rw [if_neg (show ¬ (false = true) by decide)] at H; exact H
  clear H
  have H := H1
  clear H1
  obtain rfl := Option.some.inj H
  go_enter Try.func31, Try.ntmps31
  go_wp2_with (first | ((with_reducible refine gate_callee (f := 42) rfl ?_); refine goesL_ (some 7) rfl rfl Try.func42 (by kernel_rfl) rfl #[.slice A0 l0.length c0] rfl (by (try simp only [List.map_toArray, List.map_cons, List.map_nil]); first | done | rfl | (simp only [List.length_drop, List.length_take]; rfl)) ?_; (with_reducible refine (allocation_formed.calls k _ _ l0 false _ ?side1 ?side2 A2.out).mono ?_); (case side1 => repeat (first | exact HR0.out | (with_reducible refine Kd.C_alloc ?_ _) | (with_reducible refine Kd.C_drewN ?_ _) | (with_reducible refine Kd.C_drew ?_))); (case side2 => exact HC0.out); rintro e w14 ⟨rfl, hb⟩; refine ⟨_, rfl, ?_⟩; have n0_ := Aside0.mk (below_step (by repeat (first | (with_reducible first | exact HB.out | apply below_alloc | apply pw_below_drewN | apply below_drew1) | exact HB.out)) hb); clear HB; have HB := n0_; clear n0_; (try clear hb); (try clear hb2); (try clear hk); (try clear hi)))
  go_ret
  exact ⟨by first | rfl | (simp [errW_none, errW_some] <;> rfl) | (simp [*, errW_none, errW_some] <;> rfl), by repeat (first | (with_reducible first | exact HB.out | apply below_alloc | apply pw_below_drewN | apply below_drew1) | exact HB.out)⟩

-- NOT PRINTED: function 96 (slices_IndexFunc_byte)

-- NOT PRINTED: function 81 (slices_ContainsFunc_byte)

/-! ### udfstring_printable_1: function 82 -/
def udfstring_printable_1.f (a0 : Int) : Option (Bool) := if a0 < 32 then (some true) else (some (decide (a0 > 126)))
set_option maxHeartbeats 8000000 in
set_option maxRecDepth 100000 in
theorem udfstring_printable_1.calls (a0 : Int) (r : Bool) (w : World) (h : udfstring_printable_1.f a0 = some r) :
  Calls Try.prog 82 #[.int .u8 a0] w fun e w' => e = .returned (.bool r) ∧ Drawn0 w w' := by
 have H : (if a0 < 32 then (some true) else (some (decide (a0 > 126)))) = some r := h
 clear h
 by_cases c2 : a0 < 32
 ·rw [if_pos c2] at H
  have c2b0 : decide (a0 < 32) = true := decide_eq_true c2
  clear c2
  obtain rfl := Option.some.inj H
  go_enter Try.func82, Try.ntmps82
  go_wp2
  go_ret
  exact ⟨by first | rfl | (simp; done) | (simp [*]; done), by repeat (first | exact Drawn0.refl _ | apply Drawn0.step)⟩
 ·rw [if_neg c2] at H
  have c2b0 : decide (a0 < 32) = false := decide_eq_false c2
  clear c2
  obtain rfl := Option.some.inj H
  go_enter Try.func82, Try.ntmps82
  go_wp2
  go_ret
  exact ⟨by first | rfl | (simp; done) | (simp [*]; done), by repeat (first | exact Drawn0.refl _ | apply Drawn0.step)⟩

/-! ### udfstring_printable: function 56 -/
def badByte (b : UInt8) : Bool := decide (b.toNat < 32) || decide (b.toNat > 126)
def udfstring_printable.f (a0 : ByteArray) : Option Bool := some (decide (1 ≤ a0.size) && decide (a0.size ≤ 23) && !(a0.data.toList.any badByte))
theorem badByte_f (b : UInt8) : udfstring_printable_1.f (b.toNat : Int) = some (badByte b) := by
 unfold udfstring_printable_1.f badByte
 by_cases h : b.toNat < 32
 ·rw [if_pos (by omega)]; simp [h]
 ·rw [if_neg (by omega)]; simp only [h, decide_false, Bool.false_or]; congr 1; exact decide_eq_decide.mpr (by omega)
set_option maxHeartbeats 8000000 in
set_option maxRecDepth 100000 in
theorem printable_idx (s : ByteArray) (b c : Nat) (hs : s.size ≤ c) (hsz : s.size ≤ 23) (w : World) (hc : ∀ j, j < s.size → w.cell? ⟨b, j, none⟩ = some (.int .u8 (s.data.toList.getD j 0).toNat)) :
  Calls Try.prog 96 #[.slice (some ⟨b, 0, none⟩) s.size c, .func (.func 82) #[] #[]] w fun e w' => (∃ r : Int, e = .returned (.int .i64 r) ∧ decide (r ≥ 0) = s.data.toList.any badByte) ∧ Drawn0 w w' := by
 have HC := Aside0.mk hc
 clear hc
 have hl : s.data.toList.length = s.size := by rw [Array.length_toList]; rfl
 have HL := Aside0.mk hl
 clear hl
 go_enter Try.func96, Try.ntmps96
 go_wp2
 go_loopg [5, 8] s.size (fun g v5 v8 w' => ∃ (i : Nat) (u : Value), i + g = s.size ∧ v5 = u ∧ v8 = .int .i64 i ∧ Aside0 ((s.data.toList.take i).any badByte = false) ∧ Drawn0 w w')
 case atStart => exact ⟨0, _, by omega, rfl, rfl, ⟨rfl⟩, Drawn0.refl _⟩
 case round =>
  obtain ⟨i, u, hig, rfl, rfl, HA, ⟨m1, rfl⟩⟩ := hrel
  cases gk with
  | zero =>
   obtain rfl : i = s.size := by omega
   have hiz : decide ((s.size : Int) < (s.size : Int)) = false := decide_eq_false (by omega)
   have hall : s.data.toList.any badByte = false := by have := HA.out; rwa [List.take_of_length_le (by rw [HL.out]; exact Nat.le_refl _)] at this
   go_wp2
   go_ret
   exact ⟨⟨-1, rfl, by rw [hall]; rfl⟩, ⟨_, rfl⟩⟩
  | succ g =>
   have hi : i < s.size := by omega
   have hiz : decide ((i : Int) < (s.size : Int)) = true := decide_eq_true (by omega)
   have h0 : 0 ≤ (i : Int) := by omega
   have hcell := HC.out i hi
   obtain ⟨x, hx⟩ : ∃ x, s.data.toList.getD i 0 = x := ⟨_, rfl⟩
   rw [hx] at hcell
   have hx2 : s.data.toList[i]? = some x := by
    rw [← hx, List.getD_eq_getElem?_getD, List.getElem?_eq_getElem (by rw [HL.out]; exact hi)]; rfl
   have HX := Aside0.mk hx2
   clear hx hx2
   by_cases cb : badByte x = true
   ·have hf : udfstring_printable_1.f (x.toNat : Int) = some true := by rw [badByte_f, cb]
    have HF := Aside0.mk hf
    clear hf
    go_wp2_with (go_at_call 82; (with_reducible refine (udfstring_printable_1.calls (x.toNat : Int) true _ HF.out).mono ?_); rintro e w1 ⟨rfl, ⟨m, rfl⟩⟩)
    go_ret
    refine ⟨⟨(i : Int), rfl, ?_⟩, by repeat (first | exact Drawn0.refl _ | apply Drawn0.step)⟩
    rw [decide_eq_true (by omega)]
    symm
    rw [List.any_eq_true]
    exact ⟨x, List.mem_of_getElem? HX.out, cb⟩
   ·have cb' : badByte x = false := by simpa using cb
    have hf : udfstring_printable_1.f (x.toNat : Int) = some false := by rw [badByte_f, cb']
    have HF := Aside0.mk hf
    clear hf
    go_wp2_with (go_at_call 82; (with_reducible refine (udfstring_printable_1.calls (x.toNat : Int) false _ HF.out).mono ?_); rintro e w1 ⟨rfl, ⟨m, rfl⟩⟩)
    go_roundg g
    case measure => omega
    case rel => exact ⟨i + 1, _, by omega, rfl, by first | rfl | (simp; done), ⟨by rw [List.take_add_one, HX.out]; simp [HA.out, cb']⟩, by repeat (first | exact Drawn0.refl _ | apply Drawn0.step)⟩
set_option maxHeartbeats 8000000 in
set_option maxRecDepth 100000 in
theorem printable_has (s : ByteArray) (b c : Nat) (hs : s.size ≤ c) (hsz : s.size ≤ 23) (w : World) (hc : ∀ j, j < s.size → w.cell? ⟨b, j, none⟩ = some (.int .u8 (s.data.toList.getD j 0).toNat)) :
  Calls Try.prog 81 #[.slice (some ⟨b, 0, none⟩) s.size c, .func (.func 82) #[] #[]] w fun e w' => e = .returned (.bool (s.data.toList.any badByte)) ∧ Drawn0 w w' := by
 have HC := Aside0.mk (printable_idx s b c hs hsz w hc)
 clear hc
 go_enter Try.func81, Try.ntmps81
 go_wp2_with (go_at_call 96; refine HC.out.mono ?_; rintro e w1 ⟨⟨r, rfl, hr⟩, ⟨m, rfl⟩⟩; have HR := Aside0.mk hr; clear hr)
 go_ret
 exact ⟨by first | rw [← HR.out]; rfl | (rw [← HR.out]), ⟨m, rfl⟩⟩
theorem bytesWorld_below (w : World) (e : TypeId) (s : ByteArray) : Below w.heap.size w (Lib.bytesWorld w e s) :=
 ⟨rfl, rfl, rfl, by rw [Lib.bytesWorld_size]; omega, fun i hi => Lib.bytesWorld_at_old w e s i hi⟩
set_option maxHeartbeats 8000000 in
set_option maxRecDepth 100000 in
theorem udfstring_printable.calls (a0 : ByteArray) (r : Bool) (w : World) (h : udfstring_printable.f a0 = some r) :
  Calls Try.prog 56 #[.string a0] w fun e w' => e = .returned (.bool r) ∧ Below w.heap.size w w' := by
 have hr := Option.some.inj h
 clear h
 subst hr
 have hconv := Lib.run_convert_string_bytes (P := Try.prog) w 9 54 5 a0 Try.underlying9 Try.underlying54 Try.underlying5
 by_cases c1 : 1 ≤ a0.size
 ·by_cases c2 : a0.size ≤ 23
  ·have d1 : decide ((a0.size : Int) ≥ 1) = true := decide_eq_true (by omega)
   have d2 : decide ((a0.size : Int) ≤ 23) = true := decide_eq_true (by omega)
   have hcap : a0.size ≤ grownCap w a0.size 0 5 := grownCap_ge _ _ _ _
   have HP := Aside0.mk (printable_has a0 w.heap.size (grownCap w a0.size 0 5) hcap c2 (Lib.bytesWorld w 5 a0) (fun j hj => Lib.bytesWorld_cell w 5 a0 j hj))
   go_enter Try.func56, Try.ntmps56
   go_wp2_with (go_at_call 81; refine HP.out.mono ?_; rintro e w1 ⟨rfl, ⟨m, rfl⟩⟩)
   go_ret
   refine ⟨?_, pw_below_drewN (bytesWorld_below w _ a0) m⟩
   rw [decide_eq_true c1, decide_eq_true c2]; simp
  ·have d2 : decide ((a0.size : Int) ≤ 23) = false := decide_eq_false (by omega)
   have d1 : decide ((a0.size : Int) ≥ 1) = true := decide_eq_true (by omega)
   go_enter Try.func56, Try.ntmps56
   go_wp2
   go_ret
   refine ⟨?_, Below.refl _ _⟩
   rw [decide_eq_false c2]; simp
 ·have d1 : decide ((a0.size : Int) ≥ 1) = false := decide_eq_false (by omega)
  go_enter Try.func56, Try.ntmps56
  go_wp2
  go_ret
  refine ⟨?_, Below.refl _ _⟩
  rw [decide_eq_false c1]; simp

/-! ### udfstring_Entity_1: function 57 -/
def udfstring_Entity_1.f (a0 : Int) : Option (ByteArray) := (strings_Repeat.f (⟨#[0]⟩ : ByteArray) a0).bind fun t206 => (some t206)
set_option maxHeartbeats 8000000 in
set_option maxRecDepth 100000 in
theorem udfstring_Entity_1.calls (a0 : Int) (r : ByteArray) (w : World) (h : udfstring_Entity_1.f a0 = some r) :
  Calls Try.prog 57 #[.int .i64 a0] w fun e w' => e = .returned (.string r) ∧ Below w.heap.size w w' := by
 have HB := Aside0.mk (Below.refl w.heap.size w)
 have H : ((strings_Repeat.f (⟨#[0]⟩ : ByteArray) a0).bind fun t206 => (some t206)) = some r := h
 clear h
 replace H := Option.bind_eq_some_iff.mp H
 obtain ⟨t206, A20, H⟩ := H
 replace H : (some t206) = some r := H
 have A2 := Aside0.mk A20
 clear A20
 obtain rfl := Option.some.inj H
 go_enter Try.func57, Try.ntmps57
 go_wp2_with (first | ((with_reducible refine gate_callee (f := 29) rfl ?_); refine goesL_ (some 4) rfl rfl Try.func29 (by kernel_rfl) rfl #[.string (⟨#[0]⟩ : ByteArray), .int .i64 a0] rfl (by (try simp only [List.map_toArray, List.map_cons, List.map_nil]); first | done | rfl | (simp only [List.length_drop, List.length_take]; rfl)) ?_; (with_reducible refine (strings_Repeat.calls (⟨#[0]⟩ : ByteArray) a0 t206 _ A2.out).mono ?_); rintro e w3 ⟨rfl, hb⟩; refine ⟨_, rfl, ?_⟩; have n0_ := Aside0.mk (below_step (by repeat (first | (with_reducible first | exact HB.out | apply below_alloc | apply pw_below_drewN | apply below_drew1) | exact HB.out)) hb); clear HB; have HB := n0_; clear n0_; (try clear hb); (try clear hb2); (try clear hk); (try clear hi)))
 go_ret
 exact ⟨by first | rfl | (simp [errW_none, errW_some] <;> rfl) | (simp [*, errW_none, errW_some] <;> rfl), by repeat (first | (with_reducible first | exact HB.out | apply below_alloc | apply pw_below_drewN | apply below_drew1) | exact HB.out)⟩

end Go.Proofs.Yticmghpnbjhhnab.M
