/- Lean functions with the answers of the Go functions that they are named after, and the walks that tie the Go functions to them (written by the program mp.py of this session). -/
import Derived.Test.YticmghpnbjhhnabM0
import Derived.Test.YticmghpnbjhhnabM14
namespace Go.Proofs.Yticmghpnbjhhnab.M
open Go.RowKit Go.Proofs.YticmghpnbjhhnabW.PrintWords Go.Proofs.YticmghpnbjhhnabW.PrintLast Go.Proofs.YticmghpnbjhhnabW.PrintMore
attribute [local go_sem] fieldA50_0 fieldA102_0 max2_int min2_int max_two min_two max_three min_three max_four min_four   -- for this text's walks alone
set_option linter.unusedVariables false
set_option linter.unusedSimpArgs false

/-! ### allocation_decode_at_allocation_DecodeLong_1: function 64 -/
def allocation_decode_at_allocation_DecodeLong_1.l0 : Nat → ByteArray → Int → List (S69) → Int → Int → Option ((List (S69)) × Int)
 | 0, _, _, _, _, _ => none
 | k + 1, x0, x1, x8, x20, x21 => if x21 < x20 then (if 0 ≤ (wrap64 (x1 * x21)) then (if (wrap64 (x1 * x21)) ≤ (wrap64 (x1 * (wrap64 (x21 + 1)))) then (if (wrap64 (x1 * (wrap64 (x21 + 1)))) ≤ (x0.size : Int) then ((allocation_read.f k (x0.extract ((wrap64 (x1 * x21)) : Int).toNat ((wrap64 (x1 * (wrap64 (x21 + 1)))) : Int).toNat) 0 4).bind fun t273 => (if (Int.tmod t273 1073741824) = 0 then (some (x8, 0)) else (if (x8.length : Int) = 64 then (some (([] : List (S69)), 7)) else ((allocation_read.f k (x0.extract ((wrap64 (x1 * x21)) : Int).toNat ((wrap64 (x1 * (wrap64 (x21 + 1)))) : Int).toNat) 4 4).bind fun t274 => ((allocation_DecodeLong_1.f k (x0.extract ((wrap64 (x1 * x21)) : Int).toNat ((wrap64 (x1 * (wrap64 (x21 + 1)))) : Int).toNat)).bind fun t275 => (if x8.length < 4398046511104 then (allocation_decode_at_allocation_DecodeLong_1.l0 k x0 x1 (x8 ++ [(⟨wrap64 (Int.tdiv t273 1073741824), Int.tmod t273 1073741824, (⟨t274, t275⟩ : S29)⟩ : S69)]) x20 (wrap64 (x21 + 1))) else (none))))))) else (none)) else (none)) else (none)) else (some (x8, 0))
def allocation_decode_at_allocation_DecodeLong_1.f (k : Nat) (a0 : ByteArray) (a1 : Int)  : Option ((List (S69)) × Int) := if a1 = 0 then (none) else (if ((a0.size : Int) % a1) = 0 then (allocation_decode_at_allocation_DecodeLong_1.l0 k a0 a1 ([] : List (S69)) (wrap64 ((a0.size : Int) / a1)) 0) else (some (([] : List (S69)), 3)))
theorem allocation_decode_at_allocation_DecodeLong_1.mono_l : ∀ k, (∀ y0 y1 y2 y3 y4, LeO (allocation_decode_at_allocation_DecodeLong_1.l0 k y0 y1 y2 y3 y4) (allocation_decode_at_allocation_DecodeLong_1.l0 (k + 1) y0 y1 y2 y3 y4))
 | 0 => fun _ _ _ _ _ r h => by simp [allocation_decode_at_allocation_DecodeLong_1.l0] at h
 | k + 1 => by
  have ih0 := allocation_decode_at_allocation_DecodeLong_1.mono_l k
  ·intro y0 y1 y2 y3 y4
   unfold allocation_decode_at_allocation_DecodeLong_1.l0
   repeat' first
   | (with_reducible exact ih0 _ _ _ _ _)
   | (with_reducible exact allocation_DecodeLong_1.mono _ _)
   | (with_reducible exact allocation_read.mono _ _ _ _)
   | (with_reducible exact LeO.refl _)
   | (with_reducible exact LeO.none _)
   | (with_reducible refine LeO.ite ?_ ?_)
   | (with_reducible refine LeO.bind ?_ (fun _ => ?_))
   | exact ih0 _ _ _ _ _
   | exact allocation_DecodeLong_1.mono _ _
   | exact allocation_read.mono _ _ _ _
   | exact LeO.none _
   | refine LeO.ite ?_ ?_
   | refine LeO.bind ?_ (fun _ => ?_)
theorem allocation_decode_at_allocation_DecodeLong_1.mono : ∀ a0 a1 k, LeO (allocation_decode_at_allocation_DecodeLong_1.f k a0 a1) (allocation_decode_at_allocation_DecodeLong_1.f (k + 1) a0 a1) := by
 intro a0 a1 k
 have ih0 := allocation_decode_at_allocation_DecodeLong_1.mono_l k
 unfold allocation_decode_at_allocation_DecodeLong_1.f
 repeat' first
   | (with_reducible exact ih0 _ _ _ _ _)
   | (with_reducible exact allocation_DecodeLong_1.mono _ _)
   | (with_reducible exact allocation_read.mono _ _ _ _)
   | (with_reducible exact LeO.refl _)
   | (with_reducible exact LeO.none _)
   | (with_reducible refine LeO.ite ?_ ?_)
   | (with_reducible refine LeO.bind ?_ (fun _ => ?_))
   | exact ih0 _ _ _ _ _
   | exact allocation_DecodeLong_1.mono _ _
   | exact allocation_read.mono _ _ _ _
   | exact LeO.none _
   | refine LeO.ite ?_ ?_
   | refine LeO.bind ?_ (fun _ => ?_)
set_option maxHeartbeats 8000000 in
set_option maxRecDepth 100000 in
theorem allocation_decode_at_allocation_DecodeLong_1.calls (k : Nat) (a0 : ByteArray) (a1 : Int)  (r1 : List (S69)) (r2 : Int) (w : World) (h : allocation_decode_at_allocation_DecodeLong_1.f k a0 a1 = some (r1, r2)) :
  Calls Try.prog 64 #[.string a0, .int .i64 a1, .func (.func 65) #[] #[]] w fun e w' => ∃ v0_ : Value, e = .returned (.tuple #[v0_, .int .i64 r2]) ∧ Kd.R k69 69 w' w.heap.size (fun _ => True) v0_ r1 ∧ Below w.heap.size w w' := by
 have hu29 := Try.underlying29
 have hu69 := Try.underlying69
 have HB := Aside0.mk (Below.refl w.heap.size w)
 have H : (if a1 = 0 then (none) else (if ((a0.size : Int) % a1) = 0 then (allocation_decode_at_allocation_DecodeLong_1.l0 k a0 a1 ([] : List (S69)) (wrap64 ((a0.size : Int) / a1)) 0) else (some (([] : List (S69)), 3)))) = some (r1, r2) := h
 clear h
 by_cases c4 : a1 = 0
 ·rw [if_pos c4] at H
  exact absurd H (by simp)
 ·rw [if_neg c4] at H
  have c4b0 : (a1 == 0) = false := beq_eq_false_iff_ne.mpr c4
  have c4b1 : (a1 != 0) = true := bne_iff_ne.mpr c4
  by_cases c5 : ((a0.size : Int) % a1) = 0
  ·rw [if_pos c5] at H
   have c5b0 : (((a0.size : Int) % a1) == 0) = true := beq_iff_eq.mpr c5
   have c5b1 : (((a0.size : Int) % a1) != 0) = false := bne_eq_false_iff_eq.mpr c5
   clear c5
   have H' := Aside0.mk H
   clear H
   go_enter Try.func64, Try.ntmps64
   go_wp2
   go_loopg [8, 21] k (fun kq v8 v21 w' => ∃ (x8_1 : List (S69)) (x21_1 : Int), v21 = .int .i64 x21_1 ∧ Aside0 (allocation_decode_at_allocation_DecodeLong_1.l0 kq a0 a1 x8_1 (wrap64 ((a0.size : Int) / a1)) x21_1 = some (r1, r2)) ∧ Aside0 (kq ≤ k) ∧ Aside0 (Kd.R k69 69 w' w.heap.size (fun _ => True) v8 x8_1) ∧ Aside0 (Below w.heap.size w w'))
   case atStart => exact ⟨(([] : List (S69))), (0), (by first | rfl | (simp; done) | (simp [*]; done)), H', ⟨Nat.le_refl _⟩, ⟨by first | exact Kd.R_nil _ _ _ _ _ | exact Kd.N_nil _ _ _ _ _ | exact Kd.V_nil _ _ _ _ _ | exact Kd.Q_nil _ _ _ _ _ | exact Kd.S_nil _ _ _ _ _⟩, ⟨by repeat (first | (with_reducible first | exact HB.out | apply below_alloc | apply pw_below_drewN | apply below_drew1) | exact HB.out)⟩⟩
   case round =>
    clear H'
    try clear p2
    try clear c4
    try clear c4b0
    try clear c4b1
    try clear c5
    try clear c5b0
    try clear c5b1
    obtain ⟨x8_1, x21_1, rfl, HA, HK1, HO_8, HB⟩ := hrel
    cases gk with
    | zero => exact absurd HA.out (by simp [allocation_decode_at_allocation_DecodeLong_1.l0])
    | succ k1 =>
     have H := HA.out
     clear HA
     simp only [allocation_decode_at_allocation_DecodeLong_1.l0] at H
     by_cases c6 : x21_1 < (wrap64 ((a0.size : Int) / a1))
     ·rw [if_pos c6] at H
      have c6b0 : decide (x21_1 < (wrap64 ((a0.size : Int) / a1))) = true := decide_eq_true c6
      clear c6
      obtain ⟨ji7, hji7⟩ : ∃ j_ : Int, (wrap64 (a1 * x21_1)) = j_ := ⟨_, rfl⟩
      replace H : (if 0 ≤ (ji7) then (if (ji7) ≤ (wrap64 (a1 * (wrap64 (x21_1 + 1)))) then (if (wrap64 (a1 * (wrap64 (x21_1 + 1)))) ≤ (a0.size : Int) then ((allocation_read.f k1 (a0.extract ((ji7) : Int).toNat ((wrap64 (a1 * (wrap64 (x21_1 + 1)))) : Int).toNat) 0 4).bind fun t273 => (if (Int.tmod t273 1073741824) = 0 then (some (x8_1, 0)) else (if (x8_1.length : Int) = 64 then (some (([] : List (S69)), 7)) else ((allocation_read.f k1 (a0.extract ((ji7) : Int).toNat ((wrap64 (a1 * (wrap64 (x21_1 + 1)))) : Int).toNat) 4 4).bind fun t274 => ((allocation_DecodeLong_1.f k1 (a0.extract ((ji7) : Int).toNat ((wrap64 (a1 * (wrap64 (x21_1 + 1)))) : Int).toNat)).bind fun t275 => (if x8_1.length < 4398046511104 then (allocation_decode_at_allocation_DecodeLong_1.l0 k1 a0 a1 (x8_1 ++ [(⟨wrap64 (Int.tdiv t273 1073741824), Int.tmod t273 1073741824, (⟨t274, t275⟩ : S29)⟩ : S69)]) (wrap64 ((a0.size : Int) / a1)) (wrap64 (x21_1 + 1))) else (none))))))) else (none)) else (none)) else (none)) = some (r1, r2) := by first | (rw [hji7] at H; exact H) | (simp only [hji7] at H ⊢; exact H)
      have hji7w : (IntKind.i64.wrap (a1 * x21_1)) = ji7 := (i64_w _).trans hji7
      by_cases c8 : 0 ≤ (ji7)
      ·rw [if_pos c8] at H
       have c8b0 := eq_true c8
       have c8b1 : decide (0 ≤ (ji7)) = true := decide_eq_true c8
       clear c8
       by_cases c9 : (ji7) ≤ (wrap64 (a1 * (wrap64 (x21_1 + 1))))
       ·rw [if_pos c9] at H
        have c9b0 := eq_true c9
        have c9b1 : decide ((ji7) ≤ (wrap64 (a1 * (wrap64 (x21_1 + 1))))) = true := decide_eq_true c9
        by_cases c10 : (wrap64 (a1 * (wrap64 (x21_1 + 1)))) ≤ (a0.size : Int)
        ·rw [if_pos c10] at H
         have c10b0 := eq_true c10
         have c10b1 : decide ((wrap64 (a1 * (wrap64 (x21_1 + 1)))) ≤ (a0.size : Int)) = true := decide_eq_true c10
         replace H := Option.bind_eq_some_iff.mp H
         obtain ⟨t273, A110, H⟩ := H
         replace H : (if (Int.tmod t273 1073741824) = 0 then (some (x8_1, 0)) else (if (x8_1.length : Int) = 64 then (some (([] : List (S69)), 7)) else ((allocation_read.f k1 (a0.extract ((ji7) : Int).toNat ((wrap64 (a1 * (wrap64 (x21_1 + 1)))) : Int).toNat) 4 4).bind fun t274 => ((allocation_DecodeLong_1.f k1 (a0.extract ((ji7) : Int).toNat ((wrap64 (a1 * (wrap64 (x21_1 + 1)))) : Int).toNat)).bind fun t275 => (if x8_1.length < 4398046511104 then (allocation_decode_at_allocation_DecodeLong_1.l0 k1 a0 a1 (x8_1 ++ [(⟨wrap64 (Int.tdiv t273 1073741824), Int.tmod t273 1073741824, (⟨t274, t275⟩ : S29)⟩ : S69)]) (wrap64 ((a0.size : Int) / a1)) (wrap64 (x21_1 + 1))) else (none)))))) = some (r1, r2) := H
         have A11 := Aside0.mk A110
         clear A110
         by_cases c12 : (Int.tmod t273 1073741824) = 0
         ·rw [if_pos c12] at H
          have c12b0 : ((Int.tmod t273 1073741824) == 0) = true := beq_iff_eq.mpr c12
          have c12b1 : ((Int.tmod t273 1073741824) != 0) = false := bne_eq_false_iff_eq.mpr c12
          clear c12
          simp only [Option.some.injEq, Prod.mk.injEq] at H
          obtain ⟨rfl, rfl⟩ := H
          go_wp2_with (first | ((with_reducible refine gate_callee (f := 66) rfl ?_); refine goesL_ (some 34) rfl rfl Try.func66 (by kernel_rfl) rfl #[.string (a0.extract ((ji7) : Int).toNat ((wrap64 (a1 * (wrap64 (x21_1 + 1)))) : Int).toNat), .int .i64 0, .int .i64 4] rfl (by (try simp only [List.map_toArray, List.map_cons, List.map_nil]); first | done | (simp only [hji7]; rfl) | rfl | (simp only [List.length_drop, List.length_take]; rfl)) ?_; (with_reducible refine (allocation_read.calls k1 (a0.extract ((ji7) : Int).toNat ((wrap64 (a1 * (wrap64 (x21_1 + 1)))) : Int).toNat) 0 4 t273 _ A11.out).mono ?_); rintro e w13 ⟨rfl, hb⟩; refine ⟨_, rfl, ?_⟩; have n0_ := Aside0.mk (Kd.R_below (by (with_reducible repeat (first | apply Kd.R_alloc | apply Kd.R_drewN | apply Kd.R_drew)); exact HO_8.out) hb); have n1_ := Aside0.mk (below_step (by repeat (first | (with_reducible first | exact HB.out | apply below_alloc | apply pw_below_drewN | apply below_drew1) | exact HB.out)) hb); clear HO_8; clear HB; have HO_8 := n0_; have HB := n1_; clear n0_ n1_; (try clear hb); (try clear hb2); (try clear hk); (try clear hi)))
          go_ret2
          exact ⟨_, by first | rfl | (simp [errW_none, errW_some] <;> rfl) | (simp only [← hji7]; first | rfl | (simp [errW_none, errW_some] <;> rfl)) | (simp [*, errW_none, errW_some] <;> rfl), by (with_reducible repeat (first | apply Kd.R_alloc | apply Kd.R_drewN | apply Kd.R_drew)); exact HO_8.out, by repeat (first | (with_reducible first | exact HB.out | apply below_alloc | apply pw_below_drewN | apply below_drew1) | exact HB.out)⟩
         ·rw [if_neg c12] at H
          have c12b0 : ((Int.tmod t273 1073741824) == 0) = false := beq_eq_false_iff_ne.mpr c12
          have c12b1 : ((Int.tmod t273 1073741824) != 0) = true := bne_iff_ne.mpr c12
          by_cases c14 : (x8_1.length : Int) = 64
          ·rw [if_pos c14] at H
           have c14b0 : ((x8_1.length : Int) == 64) = true := beq_iff_eq.mpr c14
           have c14b1 : ((x8_1.length : Int) != 64) = false := bne_eq_false_iff_eq.mpr c14
           clear c14
           simp only [Option.some.injEq, Prod.mk.injEq] at H
           obtain ⟨rfl, rfl⟩ := H
           go_wp2_with (first | ((with_reducible refine gate_callee (f := 66) rfl ?_); refine goesL_ (some 34) rfl rfl Try.func66 (by kernel_rfl) rfl #[.string (a0.extract ((ji7) : Int).toNat ((wrap64 (a1 * (wrap64 (x21_1 + 1)))) : Int).toNat), .int .i64 0, .int .i64 4] rfl (by (try simp only [List.map_toArray, List.map_cons, List.map_nil]); first | done | (simp only [hji7]; rfl) | rfl | (simp only [List.length_drop, List.length_take]; rfl)) ?_; (with_reducible refine (allocation_read.calls k1 (a0.extract ((ji7) : Int).toNat ((wrap64 (a1 * (wrap64 (x21_1 + 1)))) : Int).toNat) 0 4 t273 _ A11.out).mono ?_); rintro e w15 ⟨rfl, hb⟩; refine ⟨_, rfl, ?_⟩; have n0_ := Aside0.mk (Kd.R_below (by (with_reducible repeat (first | apply Kd.R_alloc | apply Kd.R_drewN | apply Kd.R_drew)); exact HO_8.out) hb); have n1_ := Aside0.mk (below_step (by repeat (first | (with_reducible first | exact HB.out | apply below_alloc | apply pw_below_drewN | apply below_drew1) | exact HB.out)) hb); clear HO_8; clear HB; have HO_8 := n0_; have HB := n1_; clear n0_ n1_; (try clear hb); (try clear hb2); (try clear hk); (try clear hi); obtain ⟨Ao16, co16, eo16⟩ := Kd.R_slice HO_8.out; subst eo16))
           go_ret2
           exact ⟨_, by first | rfl | (simp [errW_none, errW_some] <;> rfl) | (simp only [← hji7]; first | rfl | (simp [errW_none, errW_some] <;> rfl)) | (simp [*, errW_none, errW_some] <;> rfl), by first | exact Kd.R_nil _ _ _ _ _ | exact Kd.N_nil _ _ _ _ _ | exact Kd.V_nil _ _ _ _ _ | exact Kd.Q_nil _ _ _ _ _ | exact Kd.S_nil _ _ _ _ _, by repeat (first | (with_reducible first | exact HB.out | apply below_alloc | apply pw_below_drewN | apply below_drew1) | exact HB.out)⟩
          ·rw [if_neg c14] at H
           have c14b0 : ((x8_1.length : Int) == 64) = false := beq_eq_false_iff_ne.mpr c14
           have c14b1 : ((x8_1.length : Int) != 64) = true := bne_iff_ne.mpr c14
           replace H := Option.bind_eq_some_iff.mp H
           obtain ⟨t274, A170, H⟩ := H
           replace H : ((allocation_DecodeLong_1.f k1 (a0.extract ((ji7) : Int).toNat ((wrap64 (a1 * (wrap64 (x21_1 + 1)))) : Int).toNat)).bind fun t275 => (if x8_1.length < 4398046511104 then (allocation_decode_at_allocation_DecodeLong_1.l0 k1 a0 a1 (x8_1 ++ [(⟨wrap64 (Int.tdiv t273 1073741824), Int.tmod t273 1073741824, (⟨t274, t275⟩ : S29)⟩ : S69)]) (wrap64 ((a0.size : Int) / a1)) (wrap64 (x21_1 + 1))) else (none))) = some (r1, r2) := H
           have A17 := Aside0.mk A170
           clear A170
           replace H := Option.bind_eq_some_iff.mp H
           obtain ⟨t275, A180, H⟩ := H
           replace H : (if x8_1.length < 4398046511104 then (allocation_decode_at_allocation_DecodeLong_1.l0 k1 a0 a1 (x8_1 ++ [(⟨wrap64 (Int.tdiv t273 1073741824), Int.tmod t273 1073741824, (⟨t274, t275⟩ : S29)⟩ : S69)]) (wrap64 ((a0.size : Int) / a1)) (wrap64 (x21_1 + 1))) else (none)) = some (r1, r2) := H
           have A18 := Aside0.mk A180
           clear A180
           by_cases c19 : x8_1.length < 4398046511104
           ·rw [if_pos c19] at H
            have LMc19 := Aside0.mk c19
            clear c19
            obtain ⟨y276, hy276⟩ : ∃ y_ : List (S69), y_ = (x8_1 ++ [(⟨wrap64 (Int.tdiv t273 1073741824), Int.tmod t273 1073741824, (⟨t274, t275⟩ : S29)⟩ : S69)]) := ⟨_, rfl⟩
            replace H : (allocation_decode_at_allocation_DecodeLong_1.l0 k1 a0 a1 y276 (wrap64 ((a0.size : Int) / a1)) (wrap64 (x21_1 + 1))) = some (r1, r2) := by first | (rw [hy276]; with_reducible exact H) | (have H2_ := (Option.bind_some _ _).symm.trans H; rw [hy276]; with_reducible exact H2_) | (have H2_ := (Option.bind_some _ _).symm.trans H; with_reducible exact H2_) | with_reducible exact H | (rw [hy276]; exact H) | exact H
            have Ny276 := Aside0.mk hy276
            clear hy276
            have H' := Aside0.mk H
            clear H
            go_wp2_with (first | ((with_reducible refine gate_callee (f := 66) rfl ?_); refine goesL_ (some 34) rfl rfl Try.func66 (by kernel_rfl) rfl #[.string (a0.extract ((ji7) : Int).toNat ((wrap64 (a1 * (wrap64 (x21_1 + 1)))) : Int).toNat), .int .i64 0, .int .i64 4] rfl (by (try simp only [List.map_toArray, List.map_cons, List.map_nil]); first | done | (simp only [hji7]; rfl) | rfl | (simp only [List.length_drop, List.length_take]; rfl)) ?_; (with_reducible refine (allocation_read.calls k1 (a0.extract ((ji7) : Int).toNat ((wrap64 (a1 * (wrap64 (x21_1 + 1)))) : Int).toNat) 0 4 t273 _ A11.out).mono ?_); rintro e w20 ⟨rfl, hb⟩; refine ⟨_, rfl, ?_⟩; have n0_ := Aside0.mk (Kd.R_below (by (with_reducible repeat (first | apply Kd.R_alloc | apply Kd.R_drewN | apply Kd.R_drew)); exact HO_8.out) hb); have n1_ := Aside0.mk (below_step (by repeat (first | (with_reducible first | exact HB.out | apply below_alloc | apply pw_below_drewN | apply below_drew1) | exact HB.out)) hb); clear HO_8; clear HB; have HO_8 := n0_; have HB := n1_; clear n0_ n1_; (try clear hb); (try clear hb2); (try clear hk); (try clear hi); obtain ⟨Ao21, co21, eo21⟩ := Kd.R_slice HO_8.out; subst eo21) | ((with_reducible refine gate_callee (f := 66) rfl ?_); refine goesL_ (some 47) rfl rfl Try.func66 (by kernel_rfl) rfl #[.string (a0.extract ((ji7) : Int).toNat ((wrap64 (a1 * (wrap64 (x21_1 + 1)))) : Int).toNat), .int .i64 4, .int .i64 4] rfl (by (try simp only [List.map_toArray, List.map_cons, List.map_nil]); first | done | (simp only [hji7]; rfl) | rfl | (simp only [List.length_drop, List.length_take]; rfl)) ?_; (with_reducible refine (allocation_read.calls k1 (a0.extract ((ji7) : Int).toNat ((wrap64 (a1 * (wrap64 (x21_1 + 1)))) : Int).toNat) 4 4 t274 _ A17.out).mono ?_); rintro e w22 ⟨rfl, hb⟩; refine ⟨_, rfl, ?_⟩; have n0_ := Aside0.mk (Kd.R_below (by (with_reducible repeat (first | apply Kd.R_alloc | apply Kd.R_drewN | apply Kd.R_drew)); exact HO_8.out) hb); have n1_ := Aside0.mk (below_step (by repeat (first | (with_reducible first | exact HB.out | apply below_alloc | apply pw_below_drewN | apply below_drew1) | exact HB.out)) hb); clear HO_8; clear HB; have HO_8 := n0_; have HB := n1_; clear n0_ n1_; (try clear hb); (try clear hb2); (try clear hk); (try clear hi)) | (go_at_call 65; (with_reducible refine (allocation_DecodeLong_1.calls k1 (a0.extract ((ji7) : Int).toNat ((wrap64 (a1 * (wrap64 (x21_1 + 1)))) : Int).toNat) t275 _ A18.out).mono ?_); rintro e w23 ⟨rfl, hb⟩; have n0_ := Aside0.mk (Kd.R_below (by (with_reducible repeat (first | apply Kd.R_alloc | apply Kd.R_drewN | apply Kd.R_drew)); exact HO_8.out) hb); have n1_ := Aside0.mk (below_step (by repeat (first | (with_reducible first | exact HB.out | apply below_alloc | apply pw_below_drewN | apply below_drew1) | exact HB.out)) hb); clear HO_8; clear HB; have HO_8 := n0_; have HB := n1_; clear n0_ n1_; (try clear hb); (try clear hb2); (try clear hk); (try clear hi)) | ((with_reducible refine gate_builtin (b := .append) (xs := #[.tmp 41, .tmp 53]) rfl ?_); at_builtin; refine Kd.R_append k69 (w0 := w) w.heap.size rfl (.tmp 41) (.tmp 53) 27 69 (.agg #[(.int .i64 0), (.int .i64 0), (.int .i64 0), (.int .i64 0)]) 32 rfl Try.underlying27 info69 rfl (by decide) (by omega) (.slice Ao21 x8_1.length co21) x8_1 (⟨wrap64 (Int.tdiv t273 1073741824), Int.tmod t273 1073741824, (⟨t274, t275⟩ : S29)⟩ : S69) [.int .i64 (wrap64 (Int.tdiv t273 1073741824)), .int .i64 (Int.tmod t273 1073741824), .int .i64 t274, .int .i64 t275] (fun _ => True) (fun _ => False) rfl rfl ?aP (fun _ hk => hk.elim) ?aF ?aO ?aB ?aS ?aL ?_; (case aP => exact k69_mkM _ _ _ (⟨wrap64 (Int.tdiv t273 1073741824), Int.tmod t273 1073741824, (⟨t274, t275⟩ : S29)⟩ : S69)); (case aB => exact (by repeat (first | (with_reducible first | exact HB.out | apply below_alloc | apply pw_below_drewN | apply below_drew1) | exact HB.out))); (case aF => exact (fun _ _ => trivial)); (case aO => exact (by (with_reducible repeat (first | apply Kd.R_alloc | apply Kd.R_drewN | apply Kd.R_drew)); exact HO_8.out)); (case aS => exact (below_size (by repeat (first | (with_reducible first | exact HB.out | apply below_alloc | apply pw_below_drewN | apply below_drew1) | exact HB.out)))); (case aL => have := LMc19.out; omega); intro v277 w24 ho hb hg hat; rw [← Ny276.out] at ho; have n0_ := Aside0.mk (hb); have n1_ := Aside0.mk (ho); clear HB; clear HO_8; have HB := n0_; have HO278 := n1_; clear n0_ n1_; clear ho hb hg hat))
            go_roundg k1
            case measure => have := HK1.out; omega
            case rel => exact ⟨(y276), (wrap64 (x21_1 + 1)), (by first | rfl | (simp; done) | (simp [*]; done)), H', ⟨by have := HK1.out; omega⟩, ⟨by (with_reducible repeat (first | apply Kd.R_alloc | apply Kd.R_drewN | apply Kd.R_drew)); exact HO278.out⟩, ⟨by repeat (first | (with_reducible first | exact HB.out | apply below_alloc | apply pw_below_drewN | apply below_drew1) | exact HB.out)⟩⟩
           ·rw [if_neg c19] at H
            exact absurd H (by simp)
        ·rw [if_neg c10] at H
         exact absurd H (by simp)
       ·rw [if_neg c9] at H
        exact absurd H (by simp)
      ·rw [if_neg c8] at H
       exact absurd H (by simp)
     ·rw [if_neg c6] at H
      have c6b0 : decide (x21_1 < (wrap64 ((a0.size : Int) / a1))) = false := decide_eq_false c6
      clear c6
      simp only [Option.some.injEq, Prod.mk.injEq] at H
      obtain ⟨rfl, rfl⟩ := H
      go_wp2
      go_ret2
      exact ⟨_, by first | rfl | (simp [errW_none, errW_some] <;> rfl) | (simp [*, errW_none, errW_some] <;> rfl), by (with_reducible repeat (first | apply Kd.R_alloc | apply Kd.R_drewN | apply Kd.R_drew)); exact HO_8.out, by repeat (first | (with_reducible first | exact HB.out | apply below_alloc | apply pw_below_drewN | apply below_drew1) | exact HB.out)⟩
  ·rw [if_neg c5] at H
   have c5b0 : (((a0.size : Int) % a1) == 0) = false := beq_eq_false_iff_ne.mpr c5
   have c5b1 : (((a0.size : Int) % a1) != 0) = true := bne_iff_ne.mpr c5
   simp only [Option.some.injEq, Prod.mk.injEq] at H
   obtain ⟨rfl, rfl⟩ := H
   go_enter Try.func64, Try.ntmps64
   go_wp2
   go_ret2
   exact ⟨_, by first | rfl | (simp [errW_none, errW_some] <;> rfl) | (simp [*, errW_none, errW_some] <;> rfl), by first | exact Kd.R_nil _ _ _ _ _ | exact Kd.N_nil _ _ _ _ _ | exact Kd.V_nil _ _ _ _ _ | exact Kd.Q_nil _ _ _ _ _ | exact Kd.S_nil _ _ _ _ _, by repeat (first | (with_reducible first | exact HB.out | apply below_alloc | apply pw_below_drewN | apply below_drew1) | exact HB.out)⟩

/-! ### allocation_DecodeLong: function 39 -/
def allocation_DecodeLong.f (k : Nat) (a0 : ByteArray) : Option ((List (S69)) × Int) := (allocation_decode_at_allocation_DecodeLong_1.f k a0 16).bind fun bt279 => (some (bt279.1, bt279.2))
theorem allocation_DecodeLong.mono : ∀ a0 k, LeO (allocation_DecodeLong.f k a0) (allocation_DecodeLong.f (k + 1) a0) := by
 intro a0 k
 unfold allocation_DecodeLong.f
 repeat' first
   | (with_reducible exact allocation_decode_at_allocation_DecodeLong_1.mono _ _ _)
   | (with_reducible exact LeO.refl _)
   | (with_reducible exact LeO.none _)
   | (with_reducible refine LeO.ite ?_ ?_)
   | (with_reducible refine LeO.bind ?_ (fun _ => ?_))
   | exact allocation_decode_at_allocation_DecodeLong_1.mono _ _ _
   | exact LeO.none _
   | refine LeO.ite ?_ ?_
   | refine LeO.bind ?_ (fun _ => ?_)
set_option maxHeartbeats 8000000 in
set_option maxRecDepth 100000 in
theorem allocation_DecodeLong.calls (k : Nat) (a0 : ByteArray) (r1 : List (S69)) (r2 : Int) (w : World) (h : allocation_DecodeLong.f k a0 = some (r1, r2)) :
  Calls Try.prog 39 #[.string a0] w fun e w' => ∃ v0_ : Value, e = .returned (.tuple #[v0_, .int .i64 r2]) ∧ Kd.R k69 69 w' w.heap.size (fun _ => True) v0_ r1 ∧ Below w.heap.size w w' := by
 have HB := Aside0.mk (Below.refl w.heap.size w)
 have H : ((allocation_decode_at_allocation_DecodeLong_1.f k a0 16).bind fun bt279 => (some (bt279.1, bt279.2))) = some (r1, r2) := h
 clear h
 replace H := Option.bind_eq_some_iff.mp H
 obtain ⟨⟨t279, t280⟩, A20, H⟩ := H
 replace H : (some (t279, t280)) = some (r1, r2) := H
 have A2 := Aside0.mk A20
 clear A20
 simp only [Option.some.injEq, Prod.mk.injEq] at H
 obtain ⟨rfl, rfl⟩ := H
 go_enter Try.func39, Try.ntmps39
 go_wp2_with (first | (go_at_call 64; (with_reducible refine (allocation_decode_at_allocation_DecodeLong_1.calls k a0 16  t279 t280 _ A2.out).mono ?_); rintro e w3 ⟨v281, rfl, ho0, hb⟩; have n0_ := Aside0.mk (Kd.R_lower ho0 (below_size (by repeat (first | (with_reducible first | exact HB.out | apply below_alloc | apply pw_below_drewN | apply below_drew1) | exact HB.out)))); have n1_ := Aside0.mk (below_step (by repeat (first | (with_reducible first | exact HB.out | apply below_alloc | apply pw_below_drewN | apply below_drew1) | exact HB.out)) hb); clear HB; have HO282 := n0_; have HB := n1_; clear n0_ n1_; (try clear hb); (try clear hb2); (try clear hk); (try clear hi); (try clear ho0)))
 go_ret2
 exact ⟨_, by first | rfl | (simp [errW_none, errW_some] <;> rfl) | (simp [*, errW_none, errW_some] <;> rfl), by (with_reducible repeat (first | apply Kd.R_alloc | apply Kd.R_drewN | apply Kd.R_drew)); exact HO282.out, by repeat (first | (with_reducible first | exact HB.out | apply below_alloc | apply pw_below_drewN | apply below_drew1) | exact HB.out)⟩

end Go.Proofs.Yticmghpnbjhhnab.M
