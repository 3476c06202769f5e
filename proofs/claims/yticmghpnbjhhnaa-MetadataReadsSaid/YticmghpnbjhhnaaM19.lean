/- Lean functions with the answers of the Go functions that they are named after, and the walks that tie the Go functions to them (written by the program mp.py of this session). -/
import Derived.Test.YticmghpnbjhhnaaM0
import Derived.Test.YticmghpnbjhhnaaM7
import Derived.Test.YticmghpnbjhhnaaM8
import Derived.Test.YticmghpnbjhhnaaM15
namespace Go.Proofs.Yticmghpnbjhhnaa.M
open Go.RowKit Go.Proofs.YticmghpnbjhhnaaW.PrintWords Go.Proofs.YticmghpnbjhhnaaW.PrintLast Go.Proofs.YticmghpnbjhhnaaW.PrintMore
attribute [local go_sem] max2_int min2_int max_two min_two max_three min_three max_four min_four   -- for this text's walks alone
set_option linter.unusedVariables false
set_option linter.unusedSimpArgs false

/-! ### masterdiscref38_Image: function 23 -/
def masterdiscref38_Image.l0 : Nat → List ByteArray → Int → Int → Option (Bool)
  | 0, _, _, _ => none
  | k + 1, x0, x1, x5 => if x5 < (x0.length : Int) then (if 0 ≤ x5 then (if (rdOf ByteArray.empty x0 x5).toList = ([] : List UInt8) then (masterdiscref38_Image.l0 k x0 x1 (wrap64 (x5 + 1))) else (if (rdOf ByteArray.empty x0 x5).toList = ([33] : List UInt8) then (masterdiscref38_Image.l0 k x0 x1 (wrap64 (x5 + 1))) else (if ((rdOf ByteArray.empty x0 x5).size : Int) = 2048 then (masterdiscref38_Image.l0 k x0 x1 (wrap64 (x5 + 1))) else (some false)))) else (none)) else (some (decide ((x0.length : Int) ≤ x1)))
def masterdiscref38_Image.f (k : Nat) (l0 : List ByteArray) (a1 : Int) : Option (Bool) := masterdiscref38_Image.l0 k l0 a1 0
theorem masterdiscref38_Image.mono_l : ∀ k, (∀ y0 y1 y2, LeO (masterdiscref38_Image.l0 k y0 y1 y2) (masterdiscref38_Image.l0 (k + 1) y0 y1 y2))
  | 0 => fun _ _ _ r h => by simp [masterdiscref38_Image.l0] at h
  | k + 1 => by
    have ih0 := masterdiscref38_Image.mono_l k
    · intro y0 y1 y2
      unfold masterdiscref38_Image.l0
      repeat' first
      | (with_reducible exact ih0 _ _ _)
      | (with_reducible exact LeO.refl _)
      | (with_reducible exact LeO.none _)
      | (with_reducible refine LeO.ite ?_ ?_)
      | (with_reducible refine LeO.bind ?_ (fun _ => ?_))
      | exact ih0 _ _ _
      | exact LeO.none _
      | refine LeO.ite ?_ ?_
      | refine LeO.bind ?_ (fun _ => ?_)
theorem masterdiscref38_Image.mono : ∀ a0 a1 k, LeO (masterdiscref38_Image.f k a0 a1) (masterdiscref38_Image.f (k + 1) a0 a1) := by
  intro a0 a1 k
  have ih0 := masterdiscref38_Image.mono_l k
  unfold masterdiscref38_Image.f
  repeat' first
      | (with_reducible exact ih0 _ _ _)
      | (with_reducible exact LeO.refl _)
      | (with_reducible exact LeO.none _)
      | (with_reducible refine LeO.ite ?_ ?_)
      | (with_reducible refine LeO.bind ?_ (fun _ => ?_))
      | exact ih0 _ _ _
      | exact LeO.none _
      | refine LeO.ite ?_ ?_
      | refine LeO.bind ?_ (fun _ => ?_)
set_option maxHeartbeats 8000000 in
set_option maxRecDepth 100000 in
theorem masterdiscref38_Image.calls (k : Nat) (A0 : Option Addr) (c0 : Nat) (l0 : List ByteArray) (a1 : Int) (r : Bool) (w : World) (hr0 : Kd.C Kd.string w A0 l0.length l0) (hc0 : l0.length ≤ c0) (h : masterdiscref38_Image.f k l0 a1 = some r) :
    Calls Try.prog 23 #[.slice A0 l0.length c0, .int .i64 a1] w fun e w' => e = .returned (.bool r) ∧ Drawn0 w w' := by
  have HR0 := Aside0.mk hr0
  have HC0 := Aside0.mk hc0
  clear hr0 hc0
  have H : (masterdiscref38_Image.l0 k l0 a1 0) = some r := h
  clear h
  have H' := Aside0.mk H
  clear H
  go_enter Try.func23, Try.ntmps23
  go_wp2
  go_loopg [5] k (fun kq v5 w' => ∃ (x5_1 : Int), v5 = .int .i64 x5_1 ∧ Aside0 (masterdiscref38_Image.l0 kq l0 a1 x5_1 = some r) ∧ Aside0 (kq ≤ k) ∧ Drawn0 w w')
  case atStart => exact ⟨(0), (by first | rfl | (simp; done) | (simp [*]; done)), H', ⟨Nat.le_refl _⟩, by repeat (first | exact Drawn0.refl _ | apply Drawn0.step)⟩
  case round =>
    clear H'
    try clear c2
    try clear p2
    obtain ⟨x5_1, rfl, HA, HK1, ⟨m1, rfl⟩⟩ := hrel
    cases gk with
    | zero => exact absurd HA.out (by simp [masterdiscref38_Image.l0])
    | succ k1 =>
      have H := HA.out
      clear HA
      simp only [masterdiscref38_Image.l0] at H
      by_cases c3 : x5_1 < (l0.length : Int)
      · rw [if_pos c3] at H
        have c3b0 : decide (x5_1 < (l0.length : Int)) = true := decide_eq_true c3
        clear c3
        by_cases c4 : 0 ≤ x5_1
        · rw [if_pos c4] at H
          have c4b0 : decide (0 ≤ x5_1) = true := decide_eq_true c4
          clear c4
          by_cases c5 : (rdOf ByteArray.empty l0 x5_1).toList = ([] : List UInt8)
          · rw [if_pos c5] at H
            have c5b0 : ((rdOf ByteArray.empty l0 x5_1).toList == ([] : List UInt8)) = true := beq_iff_eq.mpr c5
            have c5b1 : ((rdOf ByteArray.empty l0 x5_1).toList != ([] : List UInt8)) = false := bne_eq_false_iff_eq.mpr c5
            clear c5
            have H' := Aside0.mk H
            clear H
            have p303 : 0 ≤ (x5_1 : Int) := of_decide_eq_true (by first | (with_reducible assumption) | assumption)
            have q303 : x5_1 < (l0.length : Int) := of_decide_eq_true (by first | (with_reducible assumption) | assumption)
            obtain ⟨ad303, e303, hx303_0⟩ := Kd.at_string HR0.out x5_1 p303 q303
            cases e303
            replace p303 := eq_true p303
            replace q303 := eq_true q303
            go_wp2
            go_roundg k1
            case measure => have := HK1.out; omega
            case rel => exact ⟨(wrap64 (x5_1 + 1)), (by first | rfl | (simp; done) | (simp [*]; done)), H', ⟨by have := HK1.out; omega⟩, by repeat (first | exact Drawn0.refl _ | apply Drawn0.step)⟩
          · rw [if_neg c5] at H
            have c5b0 : ((rdOf ByteArray.empty l0 x5_1).toList == ([] : List UInt8)) = false := beq_eq_false_iff_ne.mpr c5
            have c5b1 : ((rdOf ByteArray.empty l0 x5_1).toList != ([] : List UInt8)) = true := bne_iff_ne.mpr c5
            by_cases c6 : (rdOf ByteArray.empty l0 x5_1).toList = ([33] : List UInt8)
            · rw [if_pos c6] at H
              have c6b0 : ((rdOf ByteArray.empty l0 x5_1).toList == ([33] : List UInt8)) = true := beq_iff_eq.mpr c6
              have c6b1 : ((rdOf ByteArray.empty l0 x5_1).toList != ([33] : List UInt8)) = false := bne_eq_false_iff_eq.mpr c6
              clear c6
              have H' := Aside0.mk H
              clear H
              have p303 : 0 ≤ (x5_1 : Int) := of_decide_eq_true (by first | (with_reducible assumption) | assumption)
              have q303 : x5_1 < (l0.length : Int) := of_decide_eq_true (by first | (with_reducible assumption) | assumption)
              obtain ⟨ad303, e303, hx303_0⟩ := Kd.at_string HR0.out x5_1 p303 q303
              cases e303
              replace p303 := eq_true p303
              replace q303 := eq_true q303
              have p304 : 0 ≤ (x5_1 : Int) := of_decide_eq_true (by first | (with_reducible assumption) | assumption)
              have q304 : x5_1 < (l0.length : Int) := of_decide_eq_true (by first | (with_reducible assumption) | assumption)
              obtain ⟨ad304, e304, hx304_0⟩ := Kd.at_string HR0.out x5_1 p304 q304
              obtain rfl : ad303 = ad304 := (by injection e304)
              replace p304 := eq_true p304
              replace q304 := eq_true q304
              go_wp2
              go_roundg k1
              case measure => have := HK1.out; omega
              case rel => exact ⟨(wrap64 (x5_1 + 1)), (by first | rfl | (simp; done) | (simp [*]; done)), H', ⟨by have := HK1.out; omega⟩, by repeat (first | exact Drawn0.refl _ | apply Drawn0.step)⟩
            · rw [if_neg c6] at H
              have c6b0 : ((rdOf ByteArray.empty l0 x5_1).toList == ([33] : List UInt8)) = false := beq_eq_false_iff_ne.mpr c6
              have c6b1 : ((rdOf ByteArray.empty l0 x5_1).toList != ([33] : List UInt8)) = true := bne_iff_ne.mpr c6
              by_cases c7 : ((rdOf ByteArray.empty l0 x5_1).size : Int) = 2048
              · rw [if_pos c7] at H
                have c7b0 : (((rdOf ByteArray.empty l0 x5_1).size : Int) == 2048) = true := beq_iff_eq.mpr c7
                have c7b1 : (((rdOf ByteArray.empty l0 x5_1).size : Int) != 2048) = false := bne_eq_false_iff_eq.mpr c7
                clear c7
                have H' := Aside0.mk H
                clear H
                have p303 : 0 ≤ (x5_1 : Int) := of_decide_eq_true (by first | (with_reducible assumption) | assumption)
                have q303 : x5_1 < (l0.length : Int) := of_decide_eq_true (by first | (with_reducible assumption) | assumption)
                obtain ⟨ad303, e303, hx303_0⟩ := Kd.at_string HR0.out x5_1 p303 q303
                cases e303
                replace p303 := eq_true p303
                replace q303 := eq_true q303
                have p304 : 0 ≤ (x5_1 : Int) := of_decide_eq_true (by first | (with_reducible assumption) | assumption)
                have q304 : x5_1 < (l0.length : Int) := of_decide_eq_true (by first | (with_reducible assumption) | assumption)
                obtain ⟨ad304, e304, hx304_0⟩ := Kd.at_string HR0.out x5_1 p304 q304
                obtain rfl : ad303 = ad304 := (by injection e304)
                replace p304 := eq_true p304
                replace q304 := eq_true q304
                have p305 : 0 ≤ (x5_1 : Int) := of_decide_eq_true (by first | (with_reducible assumption) | assumption)
                have q305 : x5_1 < (l0.length : Int) := of_decide_eq_true (by first | (with_reducible assumption) | assumption)
                obtain ⟨ad305, e305, hx305_0⟩ := Kd.at_string HR0.out x5_1 p305 q305
                obtain rfl : ad303 = ad305 := (by injection e305)
                replace p305 := eq_true p305
                replace q305 := eq_true q305
                go_wp2
                go_roundg k1
                case measure => have := HK1.out; omega
                case rel => exact ⟨(wrap64 (x5_1 + 1)), (by first | rfl | (simp; done) | (simp [*]; done)), H', ⟨by have := HK1.out; omega⟩, by repeat (first | exact Drawn0.refl _ | apply Drawn0.step)⟩
              · rw [if_neg c7] at H
                have c7b0 : (((rdOf ByteArray.empty l0 x5_1).size : Int) == 2048) = false := beq_eq_false_iff_ne.mpr c7
                have c7b1 : (((rdOf ByteArray.empty l0 x5_1).size : Int) != 2048) = true := bne_iff_ne.mpr c7
                obtain rfl := Option.some.inj H
                have p303 : 0 ≤ (x5_1 : Int) := of_decide_eq_true (by first | (with_reducible assumption) | assumption)
                have q303 : x5_1 < (l0.length : Int) := of_decide_eq_true (by first | (with_reducible assumption) | assumption)
                obtain ⟨ad303, e303, hx303_0⟩ := Kd.at_string HR0.out x5_1 p303 q303
                cases e303
                replace p303 := eq_true p303
                replace q303 := eq_true q303
                have p304 : 0 ≤ (x5_1 : Int) := of_decide_eq_true (by first | (with_reducible assumption) | assumption)
                have q304 : x5_1 < (l0.length : Int) := of_decide_eq_true (by first | (with_reducible assumption) | assumption)
                obtain ⟨ad304, e304, hx304_0⟩ := Kd.at_string HR0.out x5_1 p304 q304
                obtain rfl : ad303 = ad304 := (by injection e304)
                replace p304 := eq_true p304
                replace q304 := eq_true q304
                have p305 : 0 ≤ (x5_1 : Int) := of_decide_eq_true (by first | (with_reducible assumption) | assumption)
                have q305 : x5_1 < (l0.length : Int) := of_decide_eq_true (by first | (with_reducible assumption) | assumption)
                obtain ⟨ad305, e305, hx305_0⟩ := Kd.at_string HR0.out x5_1 p305 q305
                obtain rfl : ad303 = ad305 := (by injection e305)
                replace p305 := eq_true p305
                replace q305 := eq_true q305
                go_wp2
                go_ret
                exact ⟨by first | rfl | (simp; done) | (simp [*]; done), by repeat (first | exact Drawn0.refl _ | apply Drawn0.step)⟩
        · rw [if_neg c4] at H
          exact absurd H (by simp)
      · rw [if_neg c3] at H
        have c3b0 : decide (x5_1 < (l0.length : Int)) = false := decide_eq_false c3
        clear c3
        obtain rfl := Option.some.inj H
        go_wp2
        go_ret
        exact ⟨by first | rfl | (simp; done) | (simp [*]; done), by repeat (first | exact Drawn0.refl _ | apply Drawn0.step)⟩

/-! ### metadata_at: function 39 -/
def metadata_at.f (l0 : List ByteArray) (a1 : Int) : Option (ByteArray × Bool) := if a1 < 0 then (some ((⟨#[]⟩ : ByteArray), false)) else (if a1 ≥ (l0.length : Int) then (some ((⟨#[]⟩ : ByteArray), false)) else (if 0 ≤ a1 then (if a1 < (l0.length : Int) then (if ((rdOf ByteArray.empty l0 a1).size : Int) = 2048 then (some (rdOf ByteArray.empty l0 a1, true)) else (some ((⟨#[]⟩ : ByteArray), false))) else (none)) else (none)))
set_option maxHeartbeats 8000000 in
set_option maxRecDepth 100000 in
theorem metadata_at.calls (A0 : Option Addr) (c0 : Nat) (l0 : List ByteArray) (a1 : Int) (r1 : ByteArray) (r2 : Bool) (w : World) (hr0 : Kd.C Kd.string w A0 l0.length l0) (hc0 : l0.length ≤ c0) (h : metadata_at.f l0 a1 = some (r1, r2)) :
    Calls Try.prog 39 #[.slice A0 l0.length c0, .int .i64 a1] w fun e w' => e = .returned (.tuple #[.string r1, .bool r2]) ∧ Drawn0 w w' := by
  have HR0 := Aside0.mk hr0
  have HC0 := Aside0.mk hc0
  clear hr0 hc0
  have H : (if a1 < 0 then (some ((⟨#[]⟩ : ByteArray), false)) else (if a1 ≥ (l0.length : Int) then (some ((⟨#[]⟩ : ByteArray), false)) else (if 0 ≤ a1 then (if a1 < (l0.length : Int) then (if ((rdOf ByteArray.empty l0 a1).size : Int) = 2048 then (some (rdOf ByteArray.empty l0 a1, true)) else (some ((⟨#[]⟩ : ByteArray), false))) else (none)) else (none)))) = some (r1, r2) := h
  clear h
  by_cases c3 : a1 < 0
  · rw [if_pos c3] at H
    have c3b0 : decide (a1 < 0) = true := decide_eq_true c3
    clear c3
    simp only [Option.some.injEq, Prod.mk.injEq] at H
    obtain ⟨rfl, rfl⟩ := H
    go_enter Try.func39, Try.ntmps39
    go_wp2
    go_ret2
    exact ⟨by first | rfl | (simp; done) | (simp [*]; done), by repeat (first | exact Drawn0.refl _ | apply Drawn0.step)⟩
  · rw [if_neg c3] at H
    have c3b0 : decide (a1 < 0) = false := decide_eq_false c3
    clear c3
    by_cases c4 : a1 ≥ (l0.length : Int)
    · rw [if_pos c4] at H
      have c4b0 : decide ((l0.length : Int) ≤ a1) = true := decide_eq_true c4
      clear c4
      simp only [Option.some.injEq, Prod.mk.injEq] at H
      obtain ⟨rfl, rfl⟩ := H
      go_enter Try.func39, Try.ntmps39
      go_wp2
      go_ret2
      exact ⟨by first | rfl | (simp; done) | (simp [*]; done), by repeat (first | exact Drawn0.refl _ | apply Drawn0.step)⟩
    · rw [if_neg c4] at H
      have c4b0 : decide ((l0.length : Int) ≤ a1) = false := decide_eq_false c4
      clear c4
      by_cases c5 : 0 ≤ a1
      · rw [if_pos c5] at H
        have c5b0 : decide (0 ≤ a1) = true := decide_eq_true c5
        clear c5
        by_cases c6 : a1 < (l0.length : Int)
        · rw [if_pos c6] at H
          have c6b0 : decide (a1 < (l0.length : Int)) = true := decide_eq_true c6
          clear c6
          by_cases c7 : ((rdOf ByteArray.empty l0 a1).size : Int) = 2048
          · rw [if_pos c7] at H
            have c7b0 : (((rdOf ByteArray.empty l0 a1).size : Int) == 2048) = true := beq_iff_eq.mpr c7
            have c7b1 : (((rdOf ByteArray.empty l0 a1).size : Int) != 2048) = false := bne_eq_false_iff_eq.mpr c7
            clear c7
            simp only [Option.some.injEq, Prod.mk.injEq] at H
            obtain ⟨rfl, rfl⟩ := H
            have p306 : 0 ≤ (a1 : Int) := of_decide_eq_true (by first | (with_reducible assumption) | assumption)
            have q306 : a1 < (l0.length : Int) := of_decide_eq_true (by first | (with_reducible assumption) | assumption)
            obtain ⟨ad306, e306, hx306_0⟩ := Kd.at_string HR0.out a1 p306 q306
            cases e306
            replace p306 := eq_true p306
            replace q306 := eq_true q306
            have p307 : 0 ≤ (a1 : Int) := of_decide_eq_true (by first | (with_reducible assumption) | assumption)
            have q307 : a1 < (l0.length : Int) := of_decide_eq_true (by first | (with_reducible assumption) | assumption)
            obtain ⟨ad307, e307, hx307_0⟩ := Kd.at_string HR0.out a1 p307 q307
            obtain rfl : ad306 = ad307 := (by injection e307)
            replace p307 := eq_true p307
            replace q307 := eq_true q307
            go_enter Try.func39, Try.ntmps39
            go_wp2
            go_ret2
            exact ⟨by first | rfl | (simp; done) | (simp [*]; done), by repeat (first | exact Drawn0.refl _ | apply Drawn0.step)⟩
          · rw [if_neg c7] at H
            have c7b0 : (((rdOf ByteArray.empty l0 a1).size : Int) == 2048) = false := beq_eq_false_iff_ne.mpr c7
            have c7b1 : (((rdOf ByteArray.empty l0 a1).size : Int) != 2048) = true := bne_iff_ne.mpr c7
            simp only [Option.some.injEq, Prod.mk.injEq] at H
            obtain ⟨rfl, rfl⟩ := H
            have p306 : 0 ≤ (a1 : Int) := of_decide_eq_true (by first | (with_reducible assumption) | assumption)
            have q306 : a1 < (l0.length : Int) := of_decide_eq_true (by first | (with_reducible assumption) | assumption)
            obtain ⟨ad306, e306, hx306_0⟩ := Kd.at_string HR0.out a1 p306 q306
            cases e306
            replace p306 := eq_true p306
            replace q306 := eq_true q306
            go_enter Try.func39, Try.ntmps39
            go_wp2
            go_ret2
            exact ⟨by first | rfl | (simp; done) | (simp [*]; done), by repeat (first | exact Drawn0.refl _ | apply Drawn0.step)⟩
        · rw [if_neg c6] at H
          exact absurd H (by simp)
      · rw [if_neg c5] at H
        exact absurd H (by simp)

/-! ### metadata_Read_1: function 38 -/
def metadata_Read_1.f (k : Nat) (li : List ByteArray) (l0_0 : List (S96)) (a0_1 : Int) (a0_2 : Int) (l0_3 : List Int) (l0_4 : List (S98)) (l0_5 : List (S35)) (l0_6 : List (S35)) (b : Int) (l : List (S35)) : Option (ByteArray × Int × Bool) := (metadata_location.f k l0_0 a0_1 a0_2 l0_3 l0_4 l0_5 l0_6 l b).bind fun t => (metadata_at.f li t).bind fun q => some (q.1, t, q.2)
set_option maxHeartbeats 8000000 in
set_option maxRecDepth 100000 in
theorem metadata_Read_1.calls (k : Nat) (A1 : Option Addr) (c1 : Nat) (l1 : List (S35)) (gm gb gi : Nat) (Ai : Option Addr) (ci : Nat) (li : List ByteArray) (A0_0 : Option Addr) (c0_0 : Nat) (l0_0 : List (S96)) (a0_1 : Int) (a0_2 : Int) (A0_3 : Option Addr) (c0_3 : Nat) (l0_3 : List Int) (A0_4 : Option Addr) (c0_4 : Nat) (l0_4 : List (S98)) (A0_5 : Option Addr) (c0_5 : Nat) (l0_5 : List (S35)) (A0_6 : Option Addr) (c0_6 : Nat) (l0_6 : List (S35)) (b : Int) (r1 : ByteArray) (r2 : Int) (r3 : Bool) (w : World)
    (hr0_0 : Kd.C k96 w A0_0 l0_0.length l0_0) (hc0_0 : l0_0.length ≤ c0_0) (hr0_3 : Kd.C (Kd.int .i64) w A0_3 l0_3.length l0_3) (hc0_3 : l0_3.length ≤ c0_3) (hr0_4 : Kd.C k98 w A0_4 l0_4.length l0_4) (hc0_4 : l0_4.length ≤ c0_4) (hr0_5 : Kd.C k35 w A0_5 l0_5.length l0_5) (hc0_5 : l0_5.length ≤ c0_5) (hr0_6 : Kd.C k35 w A0_6 l0_6.length l0_6) (hc0_6 : l0_6.length ≤ c0_6)
    (hr1 : Kd.C k35 w A1 l1.length l1) (hc1 : l1.length ≤ c1) (hri : Kd.C Kd.string w Ai li.length li) (hci : li.length ≤ ci)
    (bm : w.heap[gm]? = some (.cells #[.slice A0_0 l0_0.length c0_0, .int .i64 a0_1, .int .i64 a0_2, .slice A0_3 l0_3.length c0_3, .slice A0_4 l0_4.length c0_4, .slice A0_5 l0_5.length c0_5, .slice A0_6 l0_6.length c0_6] 40 (0, 0))) (bb : w.heap[gb]? = some (.cells #[.int .i64 b] 3 (0, 0))) (bi : w.heap[gi]? = some (.cells #[.slice Ai li.length ci] 54 (0, 0)))
    (h : metadata_Read_1.f k li l0_0 a0_1 a0_2 l0_3 l0_4 l0_5 l0_6 b l1 = some (r1, r2, r3)) :
    Calls Try.prog 38 #[.slice A1 l1.length c1, .pointer (some ⟨gm, 0, none⟩), .pointer (some ⟨gb, 0, none⟩), .pointer (some ⟨gi, 0, none⟩)] w fun e w' => e = .returned (.tuple #[.string r1, .int .i64 r2, .bool r3]) ∧ Below w.heap.size w w' := by
  obtain ⟨t, h1, h2⟩ := Option.bind_eq_some_iff.mp h
  obtain ⟨⟨q1, q2⟩, h3, h4⟩ := Option.bind_eq_some_iff.mp h2
  simp only [Option.some.injEq, Prod.mk.injEq] at h4
  obtain ⟨rfl, rfl, rfl⟩ := h4
  have A1_ := Aside0.mk h1
  have A2_ := Aside0.mk h3
  have D0 := Aside0.mk hr0_0
  have D3 := Aside0.mk hr0_3
  have D4 := Aside0.mk hr0_4
  have D5 := Aside0.mk hr0_5
  have D6 := Aside0.mk hr0_6
  have D1 := Aside0.mk hr1
  have DI := Aside0.mk hri
  have BI := Aside0.mk bi
  have m0 := (blk_cell bm 0).trans rfl
  have m1 := (blk_cell bm 1).trans rfl
  have m2 := (blk_cell bm 2).trans rfl
  have m3 := (blk_cell bm 3).trans rfl
  have m4 := (blk_cell bm 4).trans rfl
  have m5 := (blk_cell bm 5).trans rfl
  have m6 := (blk_cell bm 6).trans rfl
  have b0 := (blk_cell bb 0).trans rfl
  have hc := Aside0.mk (⟨hc0_0, hc0_3, hc0_4, hc0_5, hc0_6, hc1, hci⟩ : l0_0.length ≤ c0_0 ∧ l0_3.length ≤ c0_3 ∧ l0_4.length ≤ c0_4 ∧ l0_5.length ≤ c0_5 ∧ l0_6.length ≤ c0_6 ∧ l1.length ≤ c1 ∧ li.length ≤ ci)
  clear h h1 h2 h3 hr0_0 hr0_3 hr0_4 hr0_5 hr0_6 hr1 hri bi bm bb hc0_0 hc0_3 hc0_4 hc0_5 hc0_6 hc1 hci
  have hu := Try.underlying40
  go_enter Try.func38, Try.ntmps38
  go_wp2_with (go_at_call 29; (with_reducible refine (metadata_location.calls k _ _ l0_0 a0_1 a0_2 _ _ l0_3 _ _ l0_4 _ _ l0_5 _ _ l0_6 _ _ l1 b t _ D0.out hc.out.1 D3.out hc.out.2.1 D4.out hc.out.2.2.1 D5.out hc.out.2.2.2.1 D6.out hc.out.2.2.2.2.1 D1.out hc.out.2.2.2.2.2.1 A1_.out).mono ?_); rintro e w1 ⟨rfl, hb⟩; have HB := Aside0.mk hb; have i0 := (blk_cell (blk_below BI.out hb) 0).trans rfl; have DJ := Aside0.mk (Kd.C_below DI.out hb); clear hb m0 m1 m2 m3 m4 m5 m6 b0)
  go_wp2_with (go_at_call 39; (with_reducible refine (metadata_at.calls _ _ li t q1 q2 _ DJ.out hc.out.2.2.2.2.2.2 A2_.out).mono ?_); rintro e w2 ⟨rfl, ⟨nd, rfl⟩⟩)
  go_ret3
  exact ⟨rfl, pw_below_drewN HB.out nd⟩

/-! ### metadata_Read: function 24 -/
def metadata_Read.f (k : Nat) (li : List ByteArray) (l0_0 : List (S96)) (a0_1 : Int) (a0_2 : Int) (l0_3 : List Int) (l0_4 : List (S98)) (l0_5 : List (S35)) (l0_6 : List (S35)) (b : Int) : Option (ByteArray × Int × Int) := (metadata_Locations.f k l0_0 a0_1 a0_2 l0_3 l0_4 l0_5 l0_6 b).bind fun q => if q.2.2 = 0 then ((metadata_Read_1.f k li l0_0 a0_1 a0_2 l0_3 l0_4 l0_5 l0_6 b l0_5).bind fun p => if p.2.2 = true then some (p.1, p.2.1, 0) else ((metadata_Read_1.f k li l0_0 a0_1 a0_2 l0_3 l0_4 l0_5 l0_6 b l0_6).bind fun u => if u.2.2 = true then some (u.1, u.2.1, 0) else some ((⟨#[]⟩ : ByteArray), 0, 9))) else some ((⟨#[]⟩ : ByteArray), 0, q.2.2)
theorem metadata_Read.mono : ∀ a0 a1 a2 a3 a4 a5 a6 a7 a8 k, LeO (metadata_Read.f k a0 a1 a2 a3 a4 a5 a6 a7 a8) (metadata_Read.f (k + 1) a0 a1 a2 a3 a4 a5 a6 a7 a8) := by
  intro a0 a1 a2 a3 a4 a5 a6 a7 a8 k
  have h1 : ∀ l, LeO (metadata_Read_1.f k a0 a1 a2 a3 a4 a5 a6 a7 a8 l) (metadata_Read_1.f (k + 1) a0 a1 a2 a3 a4 a5 a6 a7 a8 l) := fun l => LeO.bind (metadata_location.mono _ _ _ _ _ _ _ _ _ _) (fun _ => LeO.refl _)
  unfold metadata_Read.f
  exact LeO.bind (metadata_Locations.mono _ _ _ _ _ _ _ _ _) (fun _ => LeO.ite (LeO.bind (h1 _) (fun _ => LeO.ite (LeO.refl _) (LeO.bind (h1 _) (fun _ => LeO.refl _)))) (LeO.refl _))
set_option maxHeartbeats 8000000 in
set_option maxRecDepth 100000 in
theorem metadata_Read.calls (k : Nat) (Ai : Option Addr) (ci : Nat) (li : List ByteArray) (A0_0 : Option Addr) (c0_0 : Nat) (l0_0 : List (S96)) (a0_1 : Int) (a0_2 : Int) (A0_3 : Option Addr) (c0_3 : Nat) (l0_3 : List Int) (A0_4 : Option Addr) (c0_4 : Nat) (l0_4 : List (S98)) (A0_5 : Option Addr) (c0_5 : Nat) (l0_5 : List (S35)) (A0_6 : Option Addr) (c0_6 : Nat) (l0_6 : List (S35)) (b : Int) (r1 : ByteArray) (r2 : Int) (r3 : Int) (w : World)
    (hri : Kd.C Kd.string w Ai li.length li) (hci : li.length ≤ ci) (hr0_0 : Kd.C k96 w A0_0 l0_0.length l0_0) (hc0_0 : l0_0.length ≤ c0_0) (hr0_3 : Kd.C (Kd.int .i64) w A0_3 l0_3.length l0_3) (hc0_3 : l0_3.length ≤ c0_3) (hr0_4 : Kd.C k98 w A0_4 l0_4.length l0_4) (hc0_4 : l0_4.length ≤ c0_4) (hr0_5 : Kd.C k35 w A0_5 l0_5.length l0_5) (hc0_5 : l0_5.length ≤ c0_5) (hr0_6 : Kd.C k35 w A0_6 l0_6.length l0_6) (hc0_6 : l0_6.length ≤ c0_6)
    (h : metadata_Read.f k li l0_0 a0_1 a0_2 l0_3 l0_4 l0_5 l0_6 b = some (r1, r2, r3)) :
    Calls Try.prog 24 #[.slice Ai li.length ci, .agg #[.slice A0_0 l0_0.length c0_0, .int .i64 a0_1, .int .i64 a0_2, .slice A0_3 l0_3.length c0_3, .slice A0_4 l0_4.length c0_4, .slice A0_5 l0_5.length c0_5, .slice A0_6 l0_6.length c0_6], .int .i64 b] w fun e w' => e = .returned (.tuple #[.string r1, .int .i64 r2, .int .i64 r3]) ∧ Below w.heap.size w w' := by
  obtain ⟨⟨q1, q2, q3⟩, h1, h2⟩ := Option.bind_eq_some_iff.mp h
  have A1_ := Aside0.mk h1
  have D0 := Aside0.mk hr0_0
  have D3 := Aside0.mk hr0_3
  have D4 := Aside0.mk hr0_4
  have D5 := Aside0.mk hr0_5
  have D6 := Aside0.mk hr0_6
  have DI := Aside0.mk hri
  have hc := Aside0.mk (⟨hc0_0, hc0_3, hc0_4, hc0_5, hc0_6, hci⟩ : l0_0.length ≤ c0_0 ∧ l0_3.length ≤ c0_3 ∧ l0_4.length ≤ c0_4 ∧ l0_5.length ≤ c0_5 ∧ l0_6.length ≤ c0_6 ∧ li.length ≤ ci)
  have H := Aside0.mk h2
  clear h h1 h2 hr0_0 hr0_3 hr0_4 hr0_5 hr0_6 hri hc0_0 hc0_3 hc0_4 hc0_5 hc0_6 hci
  have hu := Try.underlying40
  have hmf : ∀ (fn : Fn) (first cap : Array Value) (w : World), (Instr.makeFunc fn first cap).run Try.prog w = .ok (.func fn first cap) w := fun _ _ _ _ => rfl
  by_cases c : q3 = 0
  · subst c
    have e2 := H.out
    rw [if_pos rfl] at e2
    obtain ⟨⟨p1, p2, p3⟩, h3, e3⟩ := Option.bind_eq_some_iff.mp e2
    have P1 := Aside0.mk h3
    have E3 := Aside0.mk e3
    clear H e2 h3 e3
    go_enter Try.func24, Try.ntmps24
    go_wp2_with (go_at_call 16; (with_reducible refine (metadata_Locations.calls k _ _ l0_0 a0_1 a0_2 _ _ l0_3 _ _ l0_4 _ _ l0_5 _ _ l0_6 b q1 q2 0 _ ?s0 hc.out.1 ?s3 hc.out.2.1 ?s4 hc.out.2.2.1 ?s5 hc.out.2.2.2.1 ?s6 hc.out.2.2.2.2.1 A1_.out).mono ?_); (case s0 => exact Kd.C_alloc (Kd.C_alloc (Kd.C_alloc D0.out _) _) _); (case s3 => exact Kd.C_alloc (Kd.C_alloc (Kd.C_alloc D3.out _) _) _); (case s4 => exact Kd.C_alloc (Kd.C_alloc (Kd.C_alloc D4.out _) _) _); (case s5 => exact Kd.C_alloc (Kd.C_alloc (Kd.C_alloc D5.out _) _) _); (case s6 => exact Kd.C_alloc (Kd.C_alloc (Kd.C_alloc D6.out _) _) _); rintro e w1 ⟨rfl, hb⟩; have HB := Aside0.mk hb; have BI := Aside0.mk (blk_below (blk_alloc (blk_alloc (blk_new w _) _) _) hb); have BM0 := blk_below (blk_alloc (blk_new (w.alloc _) _) _) hb; have BB0 := blk_below (blk_new ((w.alloc _).alloc _) _) hb; simp only [World.size_alloc] at BM0 BB0; have BM := Aside0.mk BM0; have BB := Aside0.mk BB0; clear BM0 BB0; have m5 := (blk_cell BM.out 5).trans rfl; have m6 := (blk_cell BM.out 6).trans rfl; have X0 := Aside0.mk (Kd.C_alloc (Kd.C_below (Kd.C_alloc (Kd.C_alloc (Kd.C_alloc D0.out _) _) _) hb) (Obj.cells #[.slice A0_5 l0_5.length c0_5, .slice A0_6 l0_6.length c0_6] 26)); have X3 := Aside0.mk (Kd.C_alloc (Kd.C_below (Kd.C_alloc (Kd.C_alloc (Kd.C_alloc D3.out _) _) _) hb) (Obj.cells #[.slice A0_5 l0_5.length c0_5, .slice A0_6 l0_6.length c0_6] 26)); have X4 := Aside0.mk (Kd.C_alloc (Kd.C_below (Kd.C_alloc (Kd.C_alloc (Kd.C_alloc D4.out _) _) _) hb) (Obj.cells #[.slice A0_5 l0_5.length c0_5, .slice A0_6 l0_6.length c0_6] 26)); have X5 := Aside0.mk (Kd.C_alloc (Kd.C_below (Kd.C_alloc (Kd.C_alloc (Kd.C_alloc D5.out _) _) _) hb) (Obj.cells #[.slice A0_5 l0_5.length c0_5, .slice A0_6 l0_6.length c0_6] 26)); have X6 := Aside0.mk (Kd.C_alloc (Kd.C_below (Kd.C_alloc (Kd.C_alloc (Kd.C_alloc D6.out _) _) _) hb) (Obj.cells #[.slice A0_5 l0_5.length c0_5, .slice A0_6 l0_6.length c0_6] 26)); have XI := Aside0.mk (Kd.C_alloc (Kd.C_below (Kd.C_alloc (Kd.C_alloc (Kd.C_alloc DI.out _) _) _) hb) (Obj.cells #[.slice A0_5 l0_5.length c0_5, .slice A0_6 l0_6.length c0_6] 26)); have HA := Aside0.mk (below_step (below_alloc (below_alloc (below_alloc (Below.refl _ _) _) _) _) hb); clear hb D0 D3 D4 D5 D6 DI)
    refine wp_loop_rounds 3 ?_
    rw [rounds_succ]
    by_cases c3 : p3 = true
    · subst c3
      have e4 := E3.out
      rw [if_pos rfl] at e4
      simp only [Option.some.injEq, Prod.mk.injEq] at e4
      obtain ⟨rfl, rfl, rfl⟩ := e4
      go_wp2_with (go_at_call 38; (with_reducible refine (metadata_Read_1.calls k _ _ l0_5 _ _ _ _ _ li _ _ l0_0 a0_1 a0_2 _ _ l0_3 _ _ l0_4 _ _ l0_5 _ _ l0_6 b p1 p2 true _ X0.out hc.out.1 X3.out hc.out.2.1 X4.out hc.out.2.2.1 X5.out hc.out.2.2.2.1 X6.out hc.out.2.2.2.2.1 X5.out hc.out.2.2.2.1 XI.out hc.out.2.2.2.2.2 (blk_alloc BM.out (Obj.cells #[.slice A0_5 l0_5.length c0_5, .slice A0_6 l0_6.length c0_6] 26)) (blk_alloc BB.out (Obj.cells #[.slice A0_5 l0_5.length c0_5, .slice A0_6 l0_6.length c0_6] 26)) (blk_alloc BI.out (Obj.cells #[.slice A0_5 l0_5.length c0_5, .slice A0_6 l0_6.length c0_6] 26)) P1.out).mono ?_); rintro e w2 ⟨rfl, hb⟩; have HC := Aside0.mk hb; clear hb)
      go_ret3
      exact ⟨rfl, below_step (below_alloc HA.out _) HC.out⟩
    · have c3' : p3 = false := by simpa using c3
      subst c3'
      have e4 := E3.out
      rw [if_neg (by simp)] at e4
      obtain ⟨⟨u1, u2, u3⟩, h5, e5⟩ := Option.bind_eq_some_iff.mp e4
      have P2 := Aside0.mk h5
      have E5 := Aside0.mk e5
      clear e4 h5 e5
      go_wp2_with (go_at_call 38; (with_reducible refine (metadata_Read_1.calls k _ _ l0_5 _ _ _ _ _ li _ _ l0_0 a0_1 a0_2 _ _ l0_3 _ _ l0_4 _ _ l0_5 _ _ l0_6 b p1 p2 false _ X0.out hc.out.1 X3.out hc.out.2.1 X4.out hc.out.2.2.1 X5.out hc.out.2.2.2.1 X6.out hc.out.2.2.2.2.1 X5.out hc.out.2.2.2.1 XI.out hc.out.2.2.2.2.2 (blk_alloc BM.out (Obj.cells #[.slice A0_5 l0_5.length c0_5, .slice A0_6 l0_6.length c0_6] 26)) (blk_alloc BB.out (Obj.cells #[.slice A0_5 l0_5.length c0_5, .slice A0_6 l0_6.length c0_6] 26)) (blk_alloc BI.out (Obj.cells #[.slice A0_5 l0_5.length c0_5, .slice A0_6 l0_6.length c0_6] 26)) P1.out).mono ?_); rintro e w2 ⟨rfl, hb⟩; have HC := Aside0.mk hb; have Y0 := Aside0.mk (Kd.C_below X0.out hb); have Y3 := Aside0.mk (Kd.C_below X3.out hb); have Y4 := Aside0.mk (Kd.C_below X4.out hb); have Y5 := Aside0.mk (Kd.C_below X5.out hb); have Y6 := Aside0.mk (Kd.C_below X6.out hb); have YI := Aside0.mk (Kd.C_below XI.out hb); have ZM := Aside0.mk (blk_below (blk_alloc BM.out (Obj.cells #[.slice A0_5 l0_5.length c0_5, .slice A0_6 l0_6.length c0_6] 26)) hb); have ZB := Aside0.mk (blk_below (blk_alloc BB.out (Obj.cells #[.slice A0_5 l0_5.length c0_5, .slice A0_6 l0_6.length c0_6] 26)) hb); have ZI := Aside0.mk (blk_below (blk_alloc BI.out (Obj.cells #[.slice A0_5 l0_5.length c0_5, .slice A0_6 l0_6.length c0_6] 26)) hb); have l1_ := (blk_cell (blk_below (blk_new w1 (Obj.cells #[.slice A0_5 l0_5.length c0_5, .slice A0_6 l0_6.length c0_6] 26)) hb) 1).trans rfl; clear hb)
      rw [rounds_succ]
      by_cases c5 : u3 = true
      · subst c5
        have e6 := E5.out
        rw [if_pos rfl] at e6
        simp only [Option.some.injEq, Prod.mk.injEq] at e6
        obtain ⟨rfl, rfl, rfl⟩ := e6
        go_wp2_with (go_at_call 38; (with_reducible refine (metadata_Read_1.calls k _ _ l0_6 _ _ _ _ _ li _ _ l0_0 a0_1 a0_2 _ _ l0_3 _ _ l0_4 _ _ l0_5 _ _ l0_6 b u1 u2 true _ Y0.out hc.out.1 Y3.out hc.out.2.1 Y4.out hc.out.2.2.1 Y5.out hc.out.2.2.2.1 Y6.out hc.out.2.2.2.2.1 Y6.out hc.out.2.2.2.2.1 YI.out hc.out.2.2.2.2.2 ZM.out ZB.out ZI.out P2.out).mono ?_); rintro e w3 ⟨rfl, hb⟩; have HD := Aside0.mk hb; clear hb)
        go_ret3
        exact ⟨rfl, below_step (below_step (below_alloc HA.out _) HC.out) HD.out⟩
      · have c5' : u3 = false := by simpa using c5
        subst c5'
        have e6 := E5.out
        rw [if_neg (by simp)] at e6
        simp only [Option.some.injEq, Prod.mk.injEq] at e6
        obtain ⟨rfl, rfl, rfl⟩ := e6
        go_wp2_with (go_at_call 38; (with_reducible refine (metadata_Read_1.calls k _ _ l0_6 _ _ _ _ _ li _ _ l0_0 a0_1 a0_2 _ _ l0_3 _ _ l0_4 _ _ l0_5 _ _ l0_6 b u1 u2 false _ Y0.out hc.out.1 Y3.out hc.out.2.1 Y4.out hc.out.2.2.1 Y5.out hc.out.2.2.2.1 Y6.out hc.out.2.2.2.2.1 Y6.out hc.out.2.2.2.2.1 YI.out hc.out.2.2.2.2.2 ZM.out ZB.out ZI.out P2.out).mono ?_); rintro e w3 ⟨rfl, hb⟩; have HD := Aside0.mk hb; clear hb)
        rw [rounds_succ]
        go_wp2
        go_ret3
        exact ⟨rfl, below_step (below_step (below_alloc HA.out _) HC.out) HD.out⟩
  · have hq : (q3 != 0) = true := bne_iff_ne.mpr c
    have e2 : some ((⟨#[]⟩ : ByteArray), (0 : Int), q3) = some (r1, r2, r3) := by have := H.out; rwa [if_neg c] at this
    simp only [Option.some.injEq, Prod.mk.injEq] at e2
    obtain ⟨rfl, rfl, rfl⟩ := e2
    go_enter Try.func24, Try.ntmps24
    go_wp2_with (go_at_call 16; (with_reducible refine (metadata_Locations.calls k _ _ l0_0 a0_1 a0_2 _ _ l0_3 _ _ l0_4 _ _ l0_5 _ _ l0_6 b q1 q2 q3 _ ?s0 hc.out.1 ?s3 hc.out.2.1 ?s4 hc.out.2.2.1 ?s5 hc.out.2.2.2.1 ?s6 hc.out.2.2.2.2.1 A1_.out).mono ?_); (case s0 => exact Kd.C_alloc (Kd.C_alloc (Kd.C_alloc D0.out _) _) _); (case s3 => exact Kd.C_alloc (Kd.C_alloc (Kd.C_alloc D3.out _) _) _); (case s4 => exact Kd.C_alloc (Kd.C_alloc (Kd.C_alloc D4.out _) _) _); (case s5 => exact Kd.C_alloc (Kd.C_alloc (Kd.C_alloc D5.out _) _) _); (case s6 => exact Kd.C_alloc (Kd.C_alloc (Kd.C_alloc D6.out _) _) _); rintro e w1 ⟨rfl, hb⟩; have HB := Aside0.mk hb; clear hb)
    go_ret3
    exact ⟨rfl, below_step (below_alloc (below_alloc (below_alloc (Below.refl _ _) _) _) _) HB.out⟩

/-! ### masterdiscref40_Readable: function 40 -/
def masterdiscref40_Readable.f (l0 : List ByteArray) (a1 : Int) : Option (Bool) := if a1 ≥ 0 then (if a1 < (l0.length : Int) then (if 0 ≤ a1 then (some (((rdOf ByteArray.empty l0 a1).size : Int) == 2048)) else (none)) else (some false)) else (some false)
set_option maxHeartbeats 8000000 in
set_option maxRecDepth 100000 in
theorem masterdiscref40_Readable.calls (A0 : Option Addr) (c0 : Nat) (l0 : List ByteArray) (a1 : Int) (r : Bool) (w : World) (hr0 : Kd.C Kd.string w A0 l0.length l0) (hc0 : l0.length ≤ c0) (h : masterdiscref40_Readable.f l0 a1 = some r) :
    Calls Try.prog 40 #[.slice A0 l0.length c0, .int .i64 a1] w fun e w' => e = .returned (.bool r) ∧ Drawn0 w w' := by
  have HR0 := Aside0.mk hr0
  have HC0 := Aside0.mk hc0
  clear hr0 hc0
  have H : (if a1 ≥ 0 then (if a1 < (l0.length : Int) then (if 0 ≤ a1 then (some (((rdOf ByteArray.empty l0 a1).size : Int) == 2048)) else (none)) else (some false)) else (some false)) = some r := h
  clear h
  by_cases c3 : a1 ≥ 0
  · rw [if_pos c3] at H
    have c3b0 : decide (0 ≤ a1) = true := decide_eq_true c3
    clear c3
    by_cases c4 : a1 < (l0.length : Int)
    · rw [if_pos c4] at H
      have c4b0 : decide (a1 < (l0.length : Int)) = true := decide_eq_true c4
      clear c4
      by_cases c5 : 0 ≤ a1
      · rw [if_pos c5] at H
        have c5b0 : decide (0 ≤ a1) = true := decide_eq_true c5
        clear c5
        obtain rfl := Option.some.inj H
        have p308 : 0 ≤ (a1 : Int) := of_decide_eq_true (by first | (with_reducible assumption) | assumption)
        have q308 : a1 < (l0.length : Int) := of_decide_eq_true (by first | (with_reducible assumption) | assumption)
        obtain ⟨ad308, e308, hx308_0⟩ := Kd.at_string HR0.out a1 p308 q308
        cases e308
        replace p308 := eq_true p308
        replace q308 := eq_true q308
        go_enter Try.func40, Try.ntmps40
        go_wp2
        go_ret
        exact ⟨by first | rfl | (simp; done) | (simp [*]; done), by repeat (first | exact Drawn0.refl _ | apply Drawn0.step)⟩
      · rw [if_neg c5] at H
        exact absurd H (by simp)
    · rw [if_neg c4] at H
      have c4b0 : decide (a1 < (l0.length : Int)) = false := decide_eq_false c4
      clear c4
      obtain rfl := Option.some.inj H
      go_enter Try.func40, Try.ntmps40
      go_wp2
      go_ret
      exact ⟨by first | rfl | (simp; done) | (simp [*]; done), by repeat (first | exact Drawn0.refl _ | apply Drawn0.step)⟩
  · rw [if_neg c3] at H
    have c3b0 : decide (0 ≤ a1) = false := decide_eq_false c3
    clear c3
    obtain rfl := Option.some.inj H
    go_enter Try.func40, Try.ntmps40
    go_wp2
    go_ret
    exact ⟨by first | rfl | (simp; done) | (simp [*]; done), by repeat (first | exact Drawn0.refl _ | apply Drawn0.step)⟩

/-! ### masterdiscref40_Read: function 25 -/
def masterdiscref40_Read.f (k : Nat) (l0 : List ByteArray) (l1_0 : List (S96)) (a1_1 : Int) (a1_2 : Int) (l1_3 : List Int) (l1_4 : List (S98)) (l1_5 : List (S35)) (l1_6 : List (S35)) (a2 : Int) : Option (ByteArray × Int × Int) := (masterdiscref40_Locations.f k l1_0 a1_1 a1_2 l1_3 l1_4 l1_5 l1_6 a2).bind fun bt310 => (if bt310.2.2 = 0 then ((masterdiscref40_Readable.f l0 bt310.1).bind fun t313 => (if t313 = true then (if 0 ≤ bt310.1 then (if bt310.1 < (l0.length : Int) then (some (rdOf ByteArray.empty l0 bt310.1, bt310.1, 0)) else (none)) else (none)) else ((masterdiscref40_Readable.f l0 bt310.2.1).bind fun t315 => (if t315 = true then (if 0 ≤ bt310.2.1 then (if bt310.2.1 < (l0.length : Int) then (some (rdOf ByteArray.empty l0 bt310.2.1, bt310.2.1, 0)) else (none)) else (none)) else (some ((⟨#[]⟩ : ByteArray), 0, 9)))))) else (some ((⟨#[]⟩ : ByteArray), 0, bt310.2.2)))
theorem masterdiscref40_Read.mono : ∀ a0 a1 a2 a3 a4 a5 a6 a7 a8 k, LeO (masterdiscref40_Read.f k a0 a1 a2 a3 a4 a5 a6 a7 a8) (masterdiscref40_Read.f (k + 1) a0 a1 a2 a3 a4 a5 a6 a7 a8) := by
  intro a0 a1 a2 a3 a4 a5 a6 a7 a8 k
  unfold masterdiscref40_Read.f
  repeat' first
      | (with_reducible exact masterdiscref40_Locations.mono _ _ _ _ _ _ _ _ _)
      | (with_reducible exact LeO.refl _)
      | (with_reducible exact LeO.none _)
      | (with_reducible refine LeO.ite ?_ ?_)
      | (with_reducible refine LeO.bind ?_ (fun _ => ?_))
      | exact masterdiscref40_Locations.mono _ _ _ _ _ _ _ _ _
      | exact LeO.none _
      | refine LeO.ite ?_ ?_
      | refine LeO.bind ?_ (fun _ => ?_)
set_option maxHeartbeats 8000000 in
set_option maxRecDepth 100000 in
theorem masterdiscref40_Read.calls (k : Nat) (A0 : Option Addr) (c0 : Nat) (l0 : List ByteArray) (A1_0 : Option Addr) (c1_0 : Nat) (l1_0 : List (S96)) (a1_1 : Int) (a1_2 : Int) (A1_3 : Option Addr) (c1_3 : Nat) (l1_3 : List Int) (A1_4 : Option Addr) (c1_4 : Nat) (l1_4 : List (S98)) (A1_5 : Option Addr) (c1_5 : Nat) (l1_5 : List (S35)) (A1_6 : Option Addr) (c1_6 : Nat) (l1_6 : List (S35)) (a2 : Int) (r1 : ByteArray) (r2 : Int) (r3 : Int) (w : World) (hr0 : Kd.C Kd.string w A0 l0.length l0) (hc0 : l0.length ≤ c0) (hr1_0 : Kd.C k96 w A1_0 l1_0.length l1_0) (hc1_0 : l1_0.length ≤ c1_0) (hr1_3 : Kd.C (Kd.int .i64) w A1_3 l1_3.length l1_3) (hc1_3 : l1_3.length ≤ c1_3) (hr1_4 : Kd.C k98 w A1_4 l1_4.length l1_4) (hc1_4 : l1_4.length ≤ c1_4) (hr1_5 : Kd.C k35 w A1_5 l1_5.length l1_5) (hc1_5 : l1_5.length ≤ c1_5) (hr1_6 : Kd.C k35 w A1_6 l1_6.length l1_6) (hc1_6 : l1_6.length ≤ c1_6) (h : masterdiscref40_Read.f k l0 l1_0 a1_1 a1_2 l1_3 l1_4 l1_5 l1_6 a2 = some (r1, r2, r3)) :
    Calls Try.prog 25 #[.slice A0 l0.length c0, .agg #[.slice A1_0 l1_0.length c1_0, .int .i64 a1_1, .int .i64 a1_2, .slice A1_3 l1_3.length c1_3, .slice A1_4 l1_4.length c1_4, .slice A1_5 l1_5.length c1_5, .slice A1_6 l1_6.length c1_6], .int .i64 a2] w fun e w' => e = .returned (.tuple #[.string r1, .int .i64 r2, .int .i64 r3]) ∧ Below w.heap.size w w' := by
  have hu40 := Try.underlying40
  have HR0 := Aside0.mk hr0
  have HC0 := Aside0.mk hc0
  clear hr0 hc0
  have HR1_0 := Aside0.mk hr1_0
  have HC1_0 := Aside0.mk hc1_0
  clear hr1_0 hc1_0
  have HR1_3 := Aside0.mk hr1_3
  have HC1_3 := Aside0.mk hc1_3
  clear hr1_3 hc1_3
  have HR1_4 := Aside0.mk hr1_4
  have HC1_4 := Aside0.mk hc1_4
  clear hr1_4 hc1_4
  have HR1_5 := Aside0.mk hr1_5
  have HC1_5 := Aside0.mk hc1_5
  clear hr1_5 hc1_5
  have HR1_6 := Aside0.mk hr1_6
  have HC1_6 := Aside0.mk hc1_6
  clear hr1_6 hc1_6
  have HB := Aside0.mk (Below.refl w.heap.size w)
  have H : ((masterdiscref40_Locations.f k l1_0 a1_1 a1_2 l1_3 l1_4 l1_5 l1_6 a2).bind fun bt310 => (if bt310.2.2 = 0 then ((masterdiscref40_Readable.f l0 bt310.1).bind fun t313 => (if t313 = true then (if 0 ≤ bt310.1 then (if bt310.1 < (l0.length : Int) then (some (rdOf ByteArray.empty l0 bt310.1, bt310.1, 0)) else (none)) else (none)) else ((masterdiscref40_Readable.f l0 bt310.2.1).bind fun t315 => (if t315 = true then (if 0 ≤ bt310.2.1 then (if bt310.2.1 < (l0.length : Int) then (some (rdOf ByteArray.empty l0 bt310.2.1, bt310.2.1, 0)) else (none)) else (none)) else (some ((⟨#[]⟩ : ByteArray), 0, 9)))))) else (some ((⟨#[]⟩ : ByteArray), 0, bt310.2.2)))) = some (r1, r2, r3) := h
  clear h
  replace H := Option.bind_eq_some_iff.mp H
  obtain ⟨⟨t310, t311, t312⟩, A40, H⟩ := H
  replace H : (if t312 = 0 then ((masterdiscref40_Readable.f l0 t310).bind fun t313 => (if t313 = true then (if 0 ≤ t310 then (if t310 < (l0.length : Int) then (some (rdOf ByteArray.empty l0 t310, t310, 0)) else (none)) else (none)) else ((masterdiscref40_Readable.f l0 t311).bind fun t315 => (if t315 = true then (if 0 ≤ t311 then (if t311 < (l0.length : Int) then (some (rdOf ByteArray.empty l0 t311, t311, 0)) else (none)) else (none)) else (some ((⟨#[]⟩ : ByteArray), 0, 9)))))) else (some ((⟨#[]⟩ : ByteArray), 0, t312))) = some (r1, r2, r3) := H
  have A4 := Aside0.mk A40
  clear A40
  by_cases c5 : t312 = 0
  · rw [if_pos c5] at H
    have c5b0 : (t312 == 0) = true := beq_iff_eq.mpr c5
    have c5b1 : (t312 != 0) = false := bne_eq_false_iff_eq.mpr c5
    clear c5
    replace H := Option.bind_eq_some_iff.mp H
    obtain ⟨t313, A60, H⟩ := H
    replace H : (if t313 = true then (if 0 ≤ t310 then (if t310 < (l0.length : Int) then (some (rdOf ByteArray.empty l0 t310, t310, 0)) else (none)) else (none)) else ((masterdiscref40_Readable.f l0 t311).bind fun t315 => (if t315 = true then (if 0 ≤ t311 then (if t311 < (l0.length : Int) then (some (rdOf ByteArray.empty l0 t311, t311, 0)) else (none)) else (none)) else (some ((⟨#[]⟩ : ByteArray), 0, 9))))) = some (r1, r2, r3) := H
    have A6 := Aside0.mk A60
    clear A60
    by_cases c7 : t313 = true
    · subst c7
      have H1 : (if 0 ≤ t310 then (if t310 < (l0.length : Int) then (some (rdOf ByteArray.empty l0 t310, t310, 0)) else (none)) else (none)) = some (r1, r2, r3) := by rw [if_pos rfl] at H; exact H
      clear H
      have H := H1
      clear H1
      by_cases c8 : 0 ≤ t310
      · rw [if_pos c8] at H
        have c8b0 : decide (0 ≤ t310) = true := decide_eq_true c8
        clear c8
        by_cases c9 : t310 < (l0.length : Int)
        · rw [if_pos c9] at H
          have c9b0 : decide (t310 < (l0.length : Int)) = true := decide_eq_true c9
          clear c9
          simp only [Option.some.injEq, Prod.mk.injEq] at H
          obtain ⟨rfl, rfl, rfl⟩ := H
          go_enter Try.func25, Try.ntmps25
          go_wp2_with (first | ((with_reducible refine gate_dst (N := 4) rfl ?_); refine box_event ?hg (N := 4) ?hd (cs := #[.slice A1_0 l1_0.length c1_0, .int .i64 a1_1, .int .i64 a1_2, .slice A1_3 l1_3.length c1_3, .slice A1_4 l1_4.length c1_4, .slice A1_5 l1_5.length c1_5, .slice A1_6 l1_6.length c1_6]) (t := 40) ?hr ?_; (case hd => rfl); (case hg => rfl); (case hr => first | (go_simp; done) | (go_simp; rfl)); intro gb309 hg w10 hbox hb; have n0_ := Aside0.mk (below_step (by repeat (first | (with_reducible first | exact HB.out | apply below_alloc | apply pw_below_drewN | apply below_drew1) | exact HB.out)) hb); have n1_ := Aside0.mk (hbox); have n2_ := Aside0.mk ((by rw [hg]; exact (below_size (by repeat (first | (with_reducible first | exact HB.out | apply below_alloc | apply pw_below_drewN | apply below_drew1) | exact HB.out))) : w.heap.size ≤ gb309)); have n3_ := Aside0.mk ((by rw [hg]; exact (below_size (by repeat (first | (with_reducible first | exact HB.out | apply below_alloc | apply pw_below_drewN | apply below_drew1) | exact HB.out))) : w.heap.size ≤ gb309)); clear HB; have HB := n0_; have BK309 := n1_; have GW309 := n2_; have GE309 := n3_; clear n0_ n1_ n2_ n3_; clear hb hbox hg; have hcz11_0 : w10.cell? ⟨gb309, 0, none⟩ = some (.slice A1_0 l1_0.length c1_0) := (blk_cell BK309.out 0).trans rfl; have hcz11_1 : w10.cell? ⟨gb309, 1, none⟩ = some (.int .i64 a1_1) := (blk_cell BK309.out 1).trans rfl; have hcz11_2 : w10.cell? ⟨gb309, 2, none⟩ = some (.int .i64 a1_2) := (blk_cell BK309.out 2).trans rfl; have hcz11_3 : w10.cell? ⟨gb309, 3, none⟩ = some (.slice A1_3 l1_3.length c1_3) := (blk_cell BK309.out 3).trans rfl; have hcz11_4 : w10.cell? ⟨gb309, 4, none⟩ = some (.slice A1_4 l1_4.length c1_4) := (blk_cell BK309.out 4).trans rfl; have hcz11_5 : w10.cell? ⟨gb309, 5, none⟩ = some (.slice A1_5 l1_5.length c1_5) := (blk_cell BK309.out 5).trans rfl; have hcz11_6 : w10.cell? ⟨gb309, 6, none⟩ = some (.slice A1_6 l1_6.length c1_6) := (blk_cell BK309.out 6).trans rfl; have hfz11_0 := blk_frozen BK309.out 0; have hfz11_1 := blk_frozen BK309.out 1; have hfz11_2 := blk_frozen BK309.out 2; have hfz11_3 := blk_frozen BK309.out 3; have hfz11_4 := blk_frozen BK309.out 4; have hfz11_5 := blk_frozen BK309.out 5; have hfz11_6 := blk_frozen BK309.out 6) | ((with_reducible refine gate_callee (f := 17) rfl ?_); refine goesL_ (some 15) rfl rfl Try.func17 (by kernel_rfl) rfl #[.agg #[.slice A1_0 l1_0.length c1_0, .int .i64 a1_1, .int .i64 a1_2, .slice A1_3 l1_3.length c1_3, .slice A1_4 l1_4.length c1_4, .slice A1_5 l1_5.length c1_5, .slice A1_6 l1_6.length c1_6], .int .i64 a2] rfl (by (try simp only [List.map_toArray, List.map_cons, List.map_nil]); first | done | rfl | (simp only [List.length_drop, List.length_take]; rfl)) ?_; (with_reducible refine (masterdiscref40_Locations.calls k _ _ l1_0 a1_1 a1_2 _ _ l1_3 _ _ l1_4 _ _ l1_5 _ _ l1_6 a2 t310 t311 t312 _ ?side1 ?side2 ?side3 ?side4 ?side5 ?side6 ?side7 ?side8 ?side9 ?side10 A4.out).mono ?_); (case side1 => repeat (first | exact (Kd.C_below HR1_0.out HB.out) | (with_reducible refine Kd.C_alloc ?_ _) | (with_reducible refine Kd.C_drewN ?_ _) | (with_reducible refine Kd.C_drew ?_))); (case side2 => exact HC1_0.out); (case side3 => repeat (first | exact (Kd.C_below HR1_3.out HB.out) | (with_reducible refine Kd.C_alloc ?_ _) | (with_reducible refine Kd.C_drewN ?_ _) | (with_reducible refine Kd.C_drew ?_))); (case side4 => exact HC1_3.out); (case side5 => repeat (first | exact (Kd.C_below HR1_4.out HB.out) | (with_reducible refine Kd.C_alloc ?_ _) | (with_reducible refine Kd.C_drewN ?_ _) | (with_reducible refine Kd.C_drew ?_))); (case side6 => exact HC1_4.out); (case side7 => repeat (first | exact (Kd.C_below HR1_5.out HB.out) | (with_reducible refine Kd.C_alloc ?_ _) | (with_reducible refine Kd.C_drewN ?_ _) | (with_reducible refine Kd.C_drew ?_))); (case side8 => exact HC1_5.out); (case side9 => repeat (first | exact (Kd.C_below HR1_6.out HB.out) | (with_reducible refine Kd.C_alloc ?_ _) | (with_reducible refine Kd.C_drewN ?_ _) | (with_reducible refine Kd.C_drew ?_))); (case side10 => exact HC1_6.out); rintro e w12 ⟨rfl, hb⟩; refine ⟨_, rfl, ?_⟩; have n0_ := Aside0.mk (blk_below (g := gb309) (o := .cells #[.slice A1_0 l1_0.length c1_0, .int .i64 a1_1, .int .i64 a1_2, .slice A1_3 l1_3.length c1_3, .slice A1_4 l1_4.length c1_4, .slice A1_5 l1_5.length c1_5, .slice A1_6 l1_6.length c1_6] 40 (0, 0)) (by (with_reducible repeat (first | refine blk_drewN ?_ _ | refine blk_drew ?_ | refine blk_alloc ?_ _)); exact BK309.out) hb); have n1_ := Aside0.mk (below_step (by repeat (first | (with_reducible first | exact HB.out | apply below_alloc | apply pw_below_drewN | apply below_drew1 | refine below_set ?_ GE309.out) | exact HB.out)) hb); clear BK309; clear HB; have BK309 := n0_; have HB := n1_; clear n0_ n1_; (try clear hb); (try clear hb2); (try clear hk); (try clear hi)) | ((with_reducible refine gate_callee (f := 40) rfl ?_); refine goesL_ (some 24) rfl rfl Try.func40 (by kernel_rfl) rfl #[.slice A0 l0.length c0, .int .i64 t310] rfl (by (try simp only [List.map_toArray, List.map_cons, List.map_nil]); first | done | rfl | (simp only [List.length_drop, List.length_take]; rfl)) ?_; (with_reducible refine (masterdiscref40_Readable.calls _ _ l0 t310 true _ ?side1 ?side2 A6.out).mono ?_); (case side1 => repeat (first | exact (Kd.C_below HR0.out HB.out) | (with_reducible refine Kd.C_alloc ?_ _) | (with_reducible refine Kd.C_drewN ?_ _) | (with_reducible refine Kd.C_drew ?_))); (case side2 => exact HC0.out); rintro e w' ⟨rfl, ⟨nd, rfl⟩⟩; refine ⟨_, rfl, ?_⟩; have p314 : 0 ≤ (t310 : Int) := of_decide_eq_true (by first | (with_reducible assumption) | assumption); have q314 : t310 < (l0.length : Int) := of_decide_eq_true (by first | (with_reducible assumption) | assumption); obtain ⟨ad314, e314, hx314_0⟩ := Kd.at_string HR0.out t310 p314 q314; cases e314; replace hx314_0 := (HB.out.cell (World.block_lt_of_cell? w _ hx314_0)).trans hx314_0; replace p314 := eq_true p314; replace q314 := eq_true q314))
          go_ret3
          exact ⟨by first | rfl | (simp [errW_none, errW_some] <;> rfl) | (simp [*, errW_none, errW_some] <;> rfl), by repeat (first | (with_reducible first | exact HB.out | apply below_alloc | apply pw_below_drewN | apply below_drew1 | refine below_set ?_ GE309.out) | exact HB.out)⟩
        · rw [if_neg c9] at H
          exact absurd H (by simp)
      · rw [if_neg c8] at H
        exact absurd H (by simp)
    · replace c7 := Bool.eq_false_iff.mpr c7
      subst c7
      have H1 : ((masterdiscref40_Readable.f l0 t311).bind fun t315 => (if t315 = true then (if 0 ≤ t311 then (if t311 < (l0.length : Int) then (some (rdOf ByteArray.empty l0 t311, t311, 0)) else (none)) else (none)) else (some ((⟨#[]⟩ : ByteArray), 0, 9)))) = some (r1, r2, r3) := by rw [if_neg (show ¬ (false = true) by decide)] at H; exact H
      clear H
      have H := H1
      clear H1
      replace H := Option.bind_eq_some_iff.mp H
      obtain ⟨t315, A130, H⟩ := H
      replace H : (if t315 = true then (if 0 ≤ t311 then (if t311 < (l0.length : Int) then (some (rdOf ByteArray.empty l0 t311, t311, 0)) else (none)) else (none)) else (some ((⟨#[]⟩ : ByteArray), 0, 9))) = some (r1, r2, r3) := H
      have A13 := Aside0.mk A130
      clear A130
      by_cases c14 : t315 = true
      · subst c14
        have H1 : (if 0 ≤ t311 then (if t311 < (l0.length : Int) then (some (rdOf ByteArray.empty l0 t311, t311, 0)) else (none)) else (none)) = some (r1, r2, r3) := by rw [if_pos rfl] at H; exact H
        clear H
        have H := H1
        clear H1
        by_cases c15 : 0 ≤ t311
        · rw [if_pos c15] at H
          have c15b0 : decide (0 ≤ t311) = true := decide_eq_true c15
          clear c15
          by_cases c16 : t311 < (l0.length : Int)
          · rw [if_pos c16] at H
            have c16b0 : decide (t311 < (l0.length : Int)) = true := decide_eq_true c16
            clear c16
            simp only [Option.some.injEq, Prod.mk.injEq] at H
            obtain ⟨rfl, rfl, rfl⟩ := H
            go_enter Try.func25, Try.ntmps25
            go_wp2_with (first | ((with_reducible refine gate_dst (N := 4) rfl ?_); refine box_event ?hg (N := 4) ?hd (cs := #[.slice A1_0 l1_0.length c1_0, .int .i64 a1_1, .int .i64 a1_2, .slice A1_3 l1_3.length c1_3, .slice A1_4 l1_4.length c1_4, .slice A1_5 l1_5.length c1_5, .slice A1_6 l1_6.length c1_6]) (t := 40) ?hr ?_; (case hd => rfl); (case hg => rfl); (case hr => first | (go_simp; done) | (go_simp; rfl)); intro gb309 hg w17 hbox hb; have n0_ := Aside0.mk (below_step (by repeat (first | (with_reducible first | exact HB.out | apply below_alloc | apply pw_below_drewN | apply below_drew1) | exact HB.out)) hb); have n1_ := Aside0.mk (hbox); have n2_ := Aside0.mk ((by rw [hg]; exact (below_size (by repeat (first | (with_reducible first | exact HB.out | apply below_alloc | apply pw_below_drewN | apply below_drew1) | exact HB.out))) : w.heap.size ≤ gb309)); have n3_ := Aside0.mk ((by rw [hg]; exact (below_size (by repeat (first | (with_reducible first | exact HB.out | apply below_alloc | apply pw_below_drewN | apply below_drew1) | exact HB.out))) : w.heap.size ≤ gb309)); clear HB; have HB := n0_; have BK309 := n1_; have GW309 := n2_; have GE309 := n3_; clear n0_ n1_ n2_ n3_; clear hb hbox hg; have hcz18_0 : w17.cell? ⟨gb309, 0, none⟩ = some (.slice A1_0 l1_0.length c1_0) := (blk_cell BK309.out 0).trans rfl; have hcz18_1 : w17.cell? ⟨gb309, 1, none⟩ = some (.int .i64 a1_1) := (blk_cell BK309.out 1).trans rfl; have hcz18_2 : w17.cell? ⟨gb309, 2, none⟩ = some (.int .i64 a1_2) := (blk_cell BK309.out 2).trans rfl; have hcz18_3 : w17.cell? ⟨gb309, 3, none⟩ = some (.slice A1_3 l1_3.length c1_3) := (blk_cell BK309.out 3).trans rfl; have hcz18_4 : w17.cell? ⟨gb309, 4, none⟩ = some (.slice A1_4 l1_4.length c1_4) := (blk_cell BK309.out 4).trans rfl; have hcz18_5 : w17.cell? ⟨gb309, 5, none⟩ = some (.slice A1_5 l1_5.length c1_5) := (blk_cell BK309.out 5).trans rfl; have hcz18_6 : w17.cell? ⟨gb309, 6, none⟩ = some (.slice A1_6 l1_6.length c1_6) := (blk_cell BK309.out 6).trans rfl; have hfz18_0 := blk_frozen BK309.out 0; have hfz18_1 := blk_frozen BK309.out 1; have hfz18_2 := blk_frozen BK309.out 2; have hfz18_3 := blk_frozen BK309.out 3; have hfz18_4 := blk_frozen BK309.out 4; have hfz18_5 := blk_frozen BK309.out 5; have hfz18_6 := blk_frozen BK309.out 6) | ((with_reducible refine gate_callee (f := 17) rfl ?_); refine goesL_ (some 15) rfl rfl Try.func17 (by kernel_rfl) rfl #[.agg #[.slice A1_0 l1_0.length c1_0, .int .i64 a1_1, .int .i64 a1_2, .slice A1_3 l1_3.length c1_3, .slice A1_4 l1_4.length c1_4, .slice A1_5 l1_5.length c1_5, .slice A1_6 l1_6.length c1_6], .int .i64 a2] rfl (by (try simp only [List.map_toArray, List.map_cons, List.map_nil]); first | done | rfl | (simp only [List.length_drop, List.length_take]; rfl)) ?_; (with_reducible refine (masterdiscref40_Locations.calls k _ _ l1_0 a1_1 a1_2 _ _ l1_3 _ _ l1_4 _ _ l1_5 _ _ l1_6 a2 t310 t311 t312 _ ?side1 ?side2 ?side3 ?side4 ?side5 ?side6 ?side7 ?side8 ?side9 ?side10 A4.out).mono ?_); (case side1 => repeat (first | exact (Kd.C_below HR1_0.out HB.out) | (with_reducible refine Kd.C_alloc ?_ _) | (with_reducible refine Kd.C_drewN ?_ _) | (with_reducible refine Kd.C_drew ?_))); (case side2 => exact HC1_0.out); (case side3 => repeat (first | exact (Kd.C_below HR1_3.out HB.out) | (with_reducible refine Kd.C_alloc ?_ _) | (with_reducible refine Kd.C_drewN ?_ _) | (with_reducible refine Kd.C_drew ?_))); (case side4 => exact HC1_3.out); (case side5 => repeat (first | exact (Kd.C_below HR1_4.out HB.out) | (with_reducible refine Kd.C_alloc ?_ _) | (with_reducible refine Kd.C_drewN ?_ _) | (with_reducible refine Kd.C_drew ?_))); (case side6 => exact HC1_4.out); (case side7 => repeat (first | exact (Kd.C_below HR1_5.out HB.out) | (with_reducible refine Kd.C_alloc ?_ _) | (with_reducible refine Kd.C_drewN ?_ _) | (with_reducible refine Kd.C_drew ?_))); (case side8 => exact HC1_5.out); (case side9 => repeat (first | exact (Kd.C_below HR1_6.out HB.out) | (with_reducible refine Kd.C_alloc ?_ _) | (with_reducible refine Kd.C_drewN ?_ _) | (with_reducible refine Kd.C_drew ?_))); (case side10 => exact HC1_6.out); rintro e w19 ⟨rfl, hb⟩; refine ⟨_, rfl, ?_⟩; have n0_ := Aside0.mk (blk_below (g := gb309) (o := .cells #[.slice A1_0 l1_0.length c1_0, .int .i64 a1_1, .int .i64 a1_2, .slice A1_3 l1_3.length c1_3, .slice A1_4 l1_4.length c1_4, .slice A1_5 l1_5.length c1_5, .slice A1_6 l1_6.length c1_6] 40 (0, 0)) (by (with_reducible repeat (first | refine blk_drewN ?_ _ | refine blk_drew ?_ | refine blk_alloc ?_ _)); exact BK309.out) hb); have n1_ := Aside0.mk (below_step (by repeat (first | (with_reducible first | exact HB.out | apply below_alloc | apply pw_below_drewN | apply below_drew1 | refine below_set ?_ GE309.out) | exact HB.out)) hb); clear BK309; clear HB; have BK309 := n0_; have HB := n1_; clear n0_ n1_; (try clear hb); (try clear hb2); (try clear hk); (try clear hi)) | ((with_reducible refine gate_callee (f := 40) rfl ?_); refine goesL_ (some 24) rfl rfl Try.func40 (by kernel_rfl) rfl #[.slice A0 l0.length c0, .int .i64 t310] rfl (by (try simp only [List.map_toArray, List.map_cons, List.map_nil]); first | done | rfl | (simp only [List.length_drop, List.length_take]; rfl)) ?_; (with_reducible refine (masterdiscref40_Readable.calls _ _ l0 t310 false _ ?side1 ?side2 A6.out).mono ?_); (case side1 => repeat (first | exact (Kd.C_below HR0.out HB.out) | (with_reducible refine Kd.C_alloc ?_ _) | (with_reducible refine Kd.C_drewN ?_ _) | (with_reducible refine Kd.C_drew ?_))); (case side2 => exact HC0.out); rintro e w' ⟨rfl, ⟨nd, rfl⟩⟩; refine ⟨_, rfl, ?_⟩) | ((with_reducible refine gate_callee (f := 40) rfl ?_); refine goesL_ (some 32) rfl rfl Try.func40 (by kernel_rfl) rfl #[.slice A0 l0.length c0, .int .i64 t311] rfl (by (try simp only [List.map_toArray, List.map_cons, List.map_nil]); first | done | rfl | (simp only [List.length_drop, List.length_take]; rfl)) ?_; (with_reducible refine (masterdiscref40_Readable.calls _ _ l0 t311 true _ ?side1 ?side2 A13.out).mono ?_); (case side1 => repeat (first | exact (Kd.C_below HR0.out (by repeat (first | (with_reducible first | exact HB.out | apply below_alloc | apply pw_below_drewN | apply below_drew1 | refine below_set ?_ GE309.out) | exact HB.out))) | (with_reducible refine Kd.C_alloc ?_ _) | (with_reducible refine Kd.C_drewN ?_ _) | (with_reducible refine Kd.C_drew ?_))); (case side2 => exact HC0.out); rintro e w' ⟨rfl, ⟨nd, rfl⟩⟩; refine ⟨_, rfl, ?_⟩; have p316 : 0 ≤ (t311 : Int) := of_decide_eq_true (by first | (with_reducible assumption) | assumption); have q316 : t311 < (l0.length : Int) := of_decide_eq_true (by first | (with_reducible assumption) | assumption); obtain ⟨ad316, e316, hx316_0⟩ := Kd.at_string HR0.out t311 p316 q316; cases e316; replace hx316_0 := (HB.out.cell (World.block_lt_of_cell? w _ hx316_0)).trans hx316_0; replace p316 := eq_true p316; replace q316 := eq_true q316))
            go_ret3
            exact ⟨by first | rfl | (simp [errW_none, errW_some] <;> rfl) | (simp [*, errW_none, errW_some] <;> rfl), by repeat (first | (with_reducible first | exact HB.out | apply below_alloc | apply pw_below_drewN | apply below_drew1 | refine below_set ?_ GE309.out) | exact HB.out)⟩
          · rw [if_neg c16] at H
            exact absurd H (by simp)
        · rw [if_neg c15] at H
          exact absurd H (by simp)
      · replace c14 := Bool.eq_false_iff.mpr c14
        subst c14
        have H1 : (some ((⟨#[]⟩ : ByteArray), 0, 9)) = some (r1, r2, r3) := by rw [if_neg (show ¬ (false = true) by decide)] at H; exact H
        clear H
        have H := H1
        clear H1
        simp only [Option.some.injEq, Prod.mk.injEq] at H
        obtain ⟨rfl, rfl, rfl⟩ := H
        go_enter Try.func25, Try.ntmps25
        go_wp2_with (first | ((with_reducible refine gate_dst (N := 4) rfl ?_); refine box_event ?hg (N := 4) ?hd (cs := #[.slice A1_0 l1_0.length c1_0, .int .i64 a1_1, .int .i64 a1_2, .slice A1_3 l1_3.length c1_3, .slice A1_4 l1_4.length c1_4, .slice A1_5 l1_5.length c1_5, .slice A1_6 l1_6.length c1_6]) (t := 40) ?hr ?_; (case hd => rfl); (case hg => rfl); (case hr => first | (go_simp; done) | (go_simp; rfl)); intro gb309 hg w20 hbox hb; have n0_ := Aside0.mk (below_step (by repeat (first | (with_reducible first | exact HB.out | apply below_alloc | apply pw_below_drewN | apply below_drew1) | exact HB.out)) hb); have n1_ := Aside0.mk (hbox); have n2_ := Aside0.mk ((by rw [hg]; exact (below_size (by repeat (first | (with_reducible first | exact HB.out | apply below_alloc | apply pw_below_drewN | apply below_drew1) | exact HB.out))) : w.heap.size ≤ gb309)); have n3_ := Aside0.mk ((by rw [hg]; exact (below_size (by repeat (first | (with_reducible first | exact HB.out | apply below_alloc | apply pw_below_drewN | apply below_drew1) | exact HB.out))) : w.heap.size ≤ gb309)); clear HB; have HB := n0_; have BK309 := n1_; have GW309 := n2_; have GE309 := n3_; clear n0_ n1_ n2_ n3_; clear hb hbox hg; have hcz21_0 : w20.cell? ⟨gb309, 0, none⟩ = some (.slice A1_0 l1_0.length c1_0) := (blk_cell BK309.out 0).trans rfl; have hcz21_1 : w20.cell? ⟨gb309, 1, none⟩ = some (.int .i64 a1_1) := (blk_cell BK309.out 1).trans rfl; have hcz21_2 : w20.cell? ⟨gb309, 2, none⟩ = some (.int .i64 a1_2) := (blk_cell BK309.out 2).trans rfl; have hcz21_3 : w20.cell? ⟨gb309, 3, none⟩ = some (.slice A1_3 l1_3.length c1_3) := (blk_cell BK309.out 3).trans rfl; have hcz21_4 : w20.cell? ⟨gb309, 4, none⟩ = some (.slice A1_4 l1_4.length c1_4) := (blk_cell BK309.out 4).trans rfl; have hcz21_5 : w20.cell? ⟨gb309, 5, none⟩ = some (.slice A1_5 l1_5.length c1_5) := (blk_cell BK309.out 5).trans rfl; have hcz21_6 : w20.cell? ⟨gb309, 6, none⟩ = some (.slice A1_6 l1_6.length c1_6) := (blk_cell BK309.out 6).trans rfl; have hfz21_0 := blk_frozen BK309.out 0; have hfz21_1 := blk_frozen BK309.out 1; have hfz21_2 := blk_frozen BK309.out 2; have hfz21_3 := blk_frozen BK309.out 3; have hfz21_4 := blk_frozen BK309.out 4; have hfz21_5 := blk_frozen BK309.out 5; have hfz21_6 := blk_frozen BK309.out 6) | ((with_reducible refine gate_callee (f := 17) rfl ?_); refine goesL_ (some 15) rfl rfl Try.func17 (by kernel_rfl) rfl #[.agg #[.slice A1_0 l1_0.length c1_0, .int .i64 a1_1, .int .i64 a1_2, .slice A1_3 l1_3.length c1_3, .slice A1_4 l1_4.length c1_4, .slice A1_5 l1_5.length c1_5, .slice A1_6 l1_6.length c1_6], .int .i64 a2] rfl (by (try simp only [List.map_toArray, List.map_cons, List.map_nil]); first | done | rfl | (simp only [List.length_drop, List.length_take]; rfl)) ?_; (with_reducible refine (masterdiscref40_Locations.calls k _ _ l1_0 a1_1 a1_2 _ _ l1_3 _ _ l1_4 _ _ l1_5 _ _ l1_6 a2 t310 t311 t312 _ ?side1 ?side2 ?side3 ?side4 ?side5 ?side6 ?side7 ?side8 ?side9 ?side10 A4.out).mono ?_); (case side1 => repeat (first | exact (Kd.C_below HR1_0.out HB.out) | (with_reducible refine Kd.C_alloc ?_ _) | (with_reducible refine Kd.C_drewN ?_ _) | (with_reducible refine Kd.C_drew ?_))); (case side2 => exact HC1_0.out); (case side3 => repeat (first | exact (Kd.C_below HR1_3.out HB.out) | (with_reducible refine Kd.C_alloc ?_ _) | (with_reducible refine Kd.C_drewN ?_ _) | (with_reducible refine Kd.C_drew ?_))); (case side4 => exact HC1_3.out); (case side5 => repeat (first | exact (Kd.C_below HR1_4.out HB.out) | (with_reducible refine Kd.C_alloc ?_ _) | (with_reducible refine Kd.C_drewN ?_ _) | (with_reducible refine Kd.C_drew ?_))); (case side6 => exact HC1_4.out); (case side7 => repeat (first | exact (Kd.C_below HR1_5.out HB.out) | (with_reducible refine Kd.C_alloc ?_ _) | (with_reducible refine Kd.C_drewN ?_ _) | (with_reducible refine Kd.C_drew ?_))); (case side8 => exact HC1_5.out); (case side9 => repeat (first | exact (Kd.C_below HR1_6.out HB.out) | (with_reducible refine Kd.C_alloc ?_ _) | (with_reducible refine Kd.C_drewN ?_ _) | (with_reducible refine Kd.C_drew ?_))); (case side10 => exact HC1_6.out); rintro e w22 ⟨rfl, hb⟩; refine ⟨_, rfl, ?_⟩; have n0_ := Aside0.mk (blk_below (g := gb309) (o := .cells #[.slice A1_0 l1_0.length c1_0, .int .i64 a1_1, .int .i64 a1_2, .slice A1_3 l1_3.length c1_3, .slice A1_4 l1_4.length c1_4, .slice A1_5 l1_5.length c1_5, .slice A1_6 l1_6.length c1_6] 40 (0, 0)) (by (with_reducible repeat (first | refine blk_drewN ?_ _ | refine blk_drew ?_ | refine blk_alloc ?_ _)); exact BK309.out) hb); have n1_ := Aside0.mk (below_step (by repeat (first | (with_reducible first | exact HB.out | apply below_alloc | apply pw_below_drewN | apply below_drew1 | refine below_set ?_ GE309.out) | exact HB.out)) hb); clear BK309; clear HB; have BK309 := n0_; have HB := n1_; clear n0_ n1_; (try clear hb); (try clear hb2); (try clear hk); (try clear hi)) | ((with_reducible refine gate_callee (f := 40) rfl ?_); refine goesL_ (some 24) rfl rfl Try.func40 (by kernel_rfl) rfl #[.slice A0 l0.length c0, .int .i64 t310] rfl (by (try simp only [List.map_toArray, List.map_cons, List.map_nil]); first | done | rfl | (simp only [List.length_drop, List.length_take]; rfl)) ?_; (with_reducible refine (masterdiscref40_Readable.calls _ _ l0 t310 false _ ?side1 ?side2 A6.out).mono ?_); (case side1 => repeat (first | exact (Kd.C_below HR0.out HB.out) | (with_reducible refine Kd.C_alloc ?_ _) | (with_reducible refine Kd.C_drewN ?_ _) | (with_reducible refine Kd.C_drew ?_))); (case side2 => exact HC0.out); rintro e w' ⟨rfl, ⟨nd, rfl⟩⟩; refine ⟨_, rfl, ?_⟩) | ((with_reducible refine gate_callee (f := 40) rfl ?_); refine goesL_ (some 32) rfl rfl Try.func40 (by kernel_rfl) rfl #[.slice A0 l0.length c0, .int .i64 t311] rfl (by (try simp only [List.map_toArray, List.map_cons, List.map_nil]); first | done | rfl | (simp only [List.length_drop, List.length_take]; rfl)) ?_; (with_reducible refine (masterdiscref40_Readable.calls _ _ l0 t311 false _ ?side1 ?side2 A13.out).mono ?_); (case side1 => repeat (first | exact (Kd.C_below HR0.out (by repeat (first | (with_reducible first | exact HB.out | apply below_alloc | apply pw_below_drewN | apply below_drew1 | refine below_set ?_ GE309.out) | exact HB.out))) | (with_reducible refine Kd.C_alloc ?_ _) | (with_reducible refine Kd.C_drewN ?_ _) | (with_reducible refine Kd.C_drew ?_))); (case side2 => exact HC0.out); rintro e w' ⟨rfl, ⟨nd, rfl⟩⟩; refine ⟨_, rfl, ?_⟩))
        go_ret3
        exact ⟨by first | rfl | (simp [errW_none, errW_some] <;> rfl) | (simp [*, errW_none, errW_some] <;> rfl), by repeat (first | (with_reducible first | exact HB.out | apply below_alloc | apply pw_below_drewN | apply below_drew1 | refine below_set ?_ GE309.out) | exact HB.out)⟩
  · rw [if_neg c5] at H
    have c5b0 : (t312 == 0) = false := beq_eq_false_iff_ne.mpr c5
    have c5b1 : (t312 != 0) = true := bne_iff_ne.mpr c5
    simp only [Option.some.injEq, Prod.mk.injEq] at H
    obtain ⟨rfl, rfl, rfl⟩ := H
    go_enter Try.func25, Try.ntmps25
    go_wp2_with (first | ((with_reducible refine gate_dst (N := 4) rfl ?_); refine box_event ?hg (N := 4) ?hd (cs := #[.slice A1_0 l1_0.length c1_0, .int .i64 a1_1, .int .i64 a1_2, .slice A1_3 l1_3.length c1_3, .slice A1_4 l1_4.length c1_4, .slice A1_5 l1_5.length c1_5, .slice A1_6 l1_6.length c1_6]) (t := 40) ?hr ?_; (case hd => rfl); (case hg => rfl); (case hr => first | (go_simp; done) | (go_simp; rfl)); intro gb309 hg w23 hbox hb; have n0_ := Aside0.mk (below_step (by repeat (first | (with_reducible first | exact HB.out | apply below_alloc | apply pw_below_drewN | apply below_drew1) | exact HB.out)) hb); have n1_ := Aside0.mk (hbox); have n2_ := Aside0.mk ((by rw [hg]; exact (below_size (by repeat (first | (with_reducible first | exact HB.out | apply below_alloc | apply pw_below_drewN | apply below_drew1) | exact HB.out))) : w.heap.size ≤ gb309)); have n3_ := Aside0.mk ((by rw [hg]; exact (below_size (by repeat (first | (with_reducible first | exact HB.out | apply below_alloc | apply pw_below_drewN | apply below_drew1) | exact HB.out))) : w.heap.size ≤ gb309)); clear HB; have HB := n0_; have BK309 := n1_; have GW309 := n2_; have GE309 := n3_; clear n0_ n1_ n2_ n3_; clear hb hbox hg; have hcz24_0 : w23.cell? ⟨gb309, 0, none⟩ = some (.slice A1_0 l1_0.length c1_0) := (blk_cell BK309.out 0).trans rfl; have hcz24_1 : w23.cell? ⟨gb309, 1, none⟩ = some (.int .i64 a1_1) := (blk_cell BK309.out 1).trans rfl; have hcz24_2 : w23.cell? ⟨gb309, 2, none⟩ = some (.int .i64 a1_2) := (blk_cell BK309.out 2).trans rfl; have hcz24_3 : w23.cell? ⟨gb309, 3, none⟩ = some (.slice A1_3 l1_3.length c1_3) := (blk_cell BK309.out 3).trans rfl; have hcz24_4 : w23.cell? ⟨gb309, 4, none⟩ = some (.slice A1_4 l1_4.length c1_4) := (blk_cell BK309.out 4).trans rfl; have hcz24_5 : w23.cell? ⟨gb309, 5, none⟩ = some (.slice A1_5 l1_5.length c1_5) := (blk_cell BK309.out 5).trans rfl; have hcz24_6 : w23.cell? ⟨gb309, 6, none⟩ = some (.slice A1_6 l1_6.length c1_6) := (blk_cell BK309.out 6).trans rfl; have hfz24_0 := blk_frozen BK309.out 0; have hfz24_1 := blk_frozen BK309.out 1; have hfz24_2 := blk_frozen BK309.out 2; have hfz24_3 := blk_frozen BK309.out 3; have hfz24_4 := blk_frozen BK309.out 4; have hfz24_5 := blk_frozen BK309.out 5; have hfz24_6 := blk_frozen BK309.out 6) | ((with_reducible refine gate_callee (f := 17) rfl ?_); refine goesL_ (some 15) rfl rfl Try.func17 (by kernel_rfl) rfl #[.agg #[.slice A1_0 l1_0.length c1_0, .int .i64 a1_1, .int .i64 a1_2, .slice A1_3 l1_3.length c1_3, .slice A1_4 l1_4.length c1_4, .slice A1_5 l1_5.length c1_5, .slice A1_6 l1_6.length c1_6], .int .i64 a2] rfl (by (try simp only [List.map_toArray, List.map_cons, List.map_nil]); first | done | rfl | (simp only [List.length_drop, List.length_take]; rfl)) ?_; (with_reducible refine (masterdiscref40_Locations.calls k _ _ l1_0 a1_1 a1_2 _ _ l1_3 _ _ l1_4 _ _ l1_5 _ _ l1_6 a2 t310 t311 t312 _ ?side1 ?side2 ?side3 ?side4 ?side5 ?side6 ?side7 ?side8 ?side9 ?side10 A4.out).mono ?_); (case side1 => repeat (first | exact (Kd.C_below HR1_0.out HB.out) | (with_reducible refine Kd.C_alloc ?_ _) | (with_reducible refine Kd.C_drewN ?_ _) | (with_reducible refine Kd.C_drew ?_))); (case side2 => exact HC1_0.out); (case side3 => repeat (first | exact (Kd.C_below HR1_3.out HB.out) | (with_reducible refine Kd.C_alloc ?_ _) | (with_reducible refine Kd.C_drewN ?_ _) | (with_reducible refine Kd.C_drew ?_))); (case side4 => exact HC1_3.out); (case side5 => repeat (first | exact (Kd.C_below HR1_4.out HB.out) | (with_reducible refine Kd.C_alloc ?_ _) | (with_reducible refine Kd.C_drewN ?_ _) | (with_reducible refine Kd.C_drew ?_))); (case side6 => exact HC1_4.out); (case side7 => repeat (first | exact (Kd.C_below HR1_5.out HB.out) | (with_reducible refine Kd.C_alloc ?_ _) | (with_reducible refine Kd.C_drewN ?_ _) | (with_reducible refine Kd.C_drew ?_))); (case side8 => exact HC1_5.out); (case side9 => repeat (first | exact (Kd.C_below HR1_6.out HB.out) | (with_reducible refine Kd.C_alloc ?_ _) | (with_reducible refine Kd.C_drewN ?_ _) | (with_reducible refine Kd.C_drew ?_))); (case side10 => exact HC1_6.out); rintro e w25 ⟨rfl, hb⟩; refine ⟨_, rfl, ?_⟩; have n0_ := Aside0.mk (blk_below (g := gb309) (o := .cells #[.slice A1_0 l1_0.length c1_0, .int .i64 a1_1, .int .i64 a1_2, .slice A1_3 l1_3.length c1_3, .slice A1_4 l1_4.length c1_4, .slice A1_5 l1_5.length c1_5, .slice A1_6 l1_6.length c1_6] 40 (0, 0)) (by (with_reducible repeat (first | refine blk_drewN ?_ _ | refine blk_drew ?_ | refine blk_alloc ?_ _)); exact BK309.out) hb); have n1_ := Aside0.mk (below_step (by repeat (first | (with_reducible first | exact HB.out | apply below_alloc | apply pw_below_drewN | apply below_drew1 | refine below_set ?_ GE309.out) | exact HB.out)) hb); clear BK309; clear HB; have BK309 := n0_; have HB := n1_; clear n0_ n1_; (try clear hb); (try clear hb2); (try clear hk); (try clear hi)))
    go_ret3
    exact ⟨by first | rfl | (simp [errW_none, errW_some] <;> rfl) | (simp [*, errW_none, errW_some] <;> rfl), by repeat (first | (with_reducible first | exact HB.out | apply below_alloc | apply pw_below_drewN | apply below_drew1 | refine below_set ?_ GE309.out) | exact HB.out)⟩

/-! ### slices_Equal_int: function 26 -/
def slices_Equal_int.l0 : Nat → List Int → List Int → Int → Int → Option (Bool)
  | 0, _, _, _, _ => none
  | k + 1, x0, x1, x12, x13 => if x13 < x12 then (if 0 ≤ x13 then (if x13 < (x0.length : Int) then (if x13 < (x1.length : Int) then (if (rd x0 x13) = (rd x1 x13) then (slices_Equal_int.l0 k x0 x1 x12 (wrap64 (x13 + 1))) else (some false)) else (none)) else (none)) else (none)) else (some true)
def slices_Equal_int.f (k : Nat) (l0 : List Int) (l1 : List Int) : Option (Bool) := if (l0.length : Int) = (l1.length : Int) then (slices_Equal_int.l0 k l0 l1 (l0.length : Int) 0) else (some false)
theorem slices_Equal_int.mono_l : ∀ k, (∀ y0 y1 y2 y3, LeO (slices_Equal_int.l0 k y0 y1 y2 y3) (slices_Equal_int.l0 (k + 1) y0 y1 y2 y3))
  | 0 => fun _ _ _ _ r h => by simp [slices_Equal_int.l0] at h
  | k + 1 => by
    have ih0 := slices_Equal_int.mono_l k
    · intro y0 y1 y2 y3
      unfold slices_Equal_int.l0
      repeat' first
      | (with_reducible exact ih0 _ _ _ _)
      | (with_reducible exact LeO.refl _)
      | (with_reducible exact LeO.none _)
      | (with_reducible refine LeO.ite ?_ ?_)
      | (with_reducible refine LeO.bind ?_ (fun _ => ?_))
      | exact ih0 _ _ _ _
      | exact LeO.none _
      | refine LeO.ite ?_ ?_
      | refine LeO.bind ?_ (fun _ => ?_)
theorem slices_Equal_int.mono : ∀ a0 a1 k, LeO (slices_Equal_int.f k a0 a1) (slices_Equal_int.f (k + 1) a0 a1) := by
  intro a0 a1 k
  have ih0 := slices_Equal_int.mono_l k
  unfold slices_Equal_int.f
  repeat' first
      | (with_reducible exact ih0 _ _ _ _)
      | (with_reducible exact LeO.refl _)
      | (with_reducible exact LeO.none _)
      | (with_reducible refine LeO.ite ?_ ?_)
      | (with_reducible refine LeO.bind ?_ (fun _ => ?_))
      | exact ih0 _ _ _ _
      | exact LeO.none _
      | refine LeO.ite ?_ ?_
      | refine LeO.bind ?_ (fun _ => ?_)
set_option maxHeartbeats 8000000 in
set_option maxRecDepth 100000 in
theorem slices_Equal_int.calls (k : Nat) (A0 : Option Addr) (c0 : Nat) (l0 : List Int) (A1 : Option Addr) (c1 : Nat) (l1 : List Int) (r : Bool) (w : World) (hr0 : Kd.C (Kd.int .i64) w A0 l0.length l0) (hc0 : l0.length ≤ c0) (hr1 : Kd.C (Kd.int .i64) w A1 l1.length l1) (hc1 : l1.length ≤ c1) (h : slices_Equal_int.f k l0 l1 = some r) :
    Calls Try.prog 26 #[.slice A0 l0.length c0, .slice A1 l1.length c1] w fun e w' => e = .returned (.bool r) ∧ Drawn0 w w' := by
  have HR0 := Aside0.mk hr0
  have HC0 := Aside0.mk hc0
  clear hr0 hc0
  have HR1 := Aside0.mk hr1
  have HC1 := Aside0.mk hc1
  clear hr1 hc1
  have H : (if (l0.length : Int) = (l1.length : Int) then (slices_Equal_int.l0 k l0 l1 (l0.length : Int) 0) else (some false)) = some r := h
  clear h
  by_cases c3 : (l0.length : Int) = (l1.length : Int)
  · rw [if_pos c3] at H
    have c3b0 : ((l0.length : Int) == (l1.length : Int)) = true := beq_iff_eq.mpr c3
    have c3b1 : ((l0.length : Int) != (l1.length : Int)) = false := bne_eq_false_iff_eq.mpr c3
    have c3b2 : (l0.length == l1.length) = true := by first | simpa using c3 | (simp at c3 ⊢; omega)
    clear c3
    have H' := Aside0.mk H
    clear H
    go_enter Try.func26, Try.ntmps26
    go_wp2
    repeat (go_quiet (fail); try go_wp2)
    go_loopg [13] k (fun kq v13 w' => ∃ (x13_1 : Int), v13 = .int .i64 x13_1 ∧ Aside0 (slices_Equal_int.l0 kq l0 l1 (l0.length : Int) x13_1 = some r) ∧ Aside0 (kq ≤ k) ∧ Drawn0 w w')
    case atStart => exact ⟨(0), (by first | rfl | (simp; done) | (simp [*]; done)), H', ⟨Nat.le_refl _⟩, by repeat (first | exact Drawn0.refl _ | apply Drawn0.step)⟩
    case round =>
      clear H'
      try clear c1
      try clear c2
      try clear p2
      try clear c3
      try clear c3b0
      try clear c3b1
      try clear c3b2
      obtain ⟨x13_1, rfl, HA, HK1, ⟨m1, rfl⟩⟩ := hrel
      cases gk with
      | zero => exact absurd HA.out (by simp [slices_Equal_int.l0])
      | succ k1 =>
        have H := HA.out
        clear HA
        simp only [slices_Equal_int.l0] at H
        by_cases c4 : x13_1 < (l0.length : Int)
        · rw [if_pos c4] at H
          have c4b0 : decide (x13_1 < (l0.length : Int)) = true := decide_eq_true c4
          clear c4
          by_cases c5 : 0 ≤ x13_1
          · rw [if_pos c5] at H
            have c5b0 : decide (0 ≤ x13_1) = true := decide_eq_true c5
            clear c5
            by_cases c6 : x13_1 < (l0.length : Int)
            · rw [if_pos c6] at H
              have c6b0 : decide (x13_1 < (l0.length : Int)) = true := decide_eq_true c6
              clear c6
              by_cases c7 : x13_1 < (l1.length : Int)
              · rw [if_pos c7] at H
                have c7b0 : decide (x13_1 < (l1.length : Int)) = true := decide_eq_true c7
                clear c7
                by_cases c8 : (rd l0 x13_1) = (rd l1 x13_1)
                · rw [if_pos c8] at H
                  have c8b0 : ((rd l0 x13_1) == (rd l1 x13_1)) = true := beq_iff_eq.mpr c8
                  have c8b1 : ((rd l0 x13_1) != (rd l1 x13_1)) = false := bne_eq_false_iff_eq.mpr c8
                  clear c8
                  have H' := Aside0.mk H
                  clear H
                  have p317 : 0 ≤ (x13_1 : Int) := of_decide_eq_true (by first | (with_reducible assumption) | assumption)
                  have q317 : x13_1 < (l0.length : Int) := of_decide_eq_true (by first | (with_reducible assumption) | assumption)
                  obtain ⟨ad317, e317, hx317_0⟩ := Kd.at_int HR0.out x13_1 p317 q317
                  cases e317
                  replace p317 := eq_true p317
                  replace q317 := eq_true q317
                  have p318 : 0 ≤ (x13_1 : Int) := of_decide_eq_true (by first | (with_reducible assumption) | assumption)
                  have q318 : x13_1 < (l1.length : Int) := of_decide_eq_true (by first | (with_reducible assumption) | assumption)
                  obtain ⟨ad318, e318, hx318_0⟩ := Kd.at_int HR1.out x13_1 p318 q318
                  cases e318
                  replace p318 := eq_true p318
                  replace q318 := eq_true q318
                  go_wp2
                  repeat (go_quiet (fail); try go_wp2)
                  go_roundg k1
                  case measure => have := HK1.out; omega
                  case rel => exact ⟨(wrap64 (x13_1 + 1)), (by first | rfl | (simp; done) | (simp [*]; done)), H', ⟨by have := HK1.out; omega⟩, by repeat (first | exact Drawn0.refl _ | apply Drawn0.step)⟩
                · rw [if_neg c8] at H
                  have c8b0 : ((rd l0 x13_1) == (rd l1 x13_1)) = false := beq_eq_false_iff_ne.mpr c8
                  have c8b1 : ((rd l0 x13_1) != (rd l1 x13_1)) = true := bne_iff_ne.mpr c8
                  obtain rfl := Option.some.inj H
                  have p317 : 0 ≤ (x13_1 : Int) := of_decide_eq_true (by first | (with_reducible assumption) | assumption)
                  have q317 : x13_1 < (l0.length : Int) := of_decide_eq_true (by first | (with_reducible assumption) | assumption)
                  obtain ⟨ad317, e317, hx317_0⟩ := Kd.at_int HR0.out x13_1 p317 q317
                  cases e317
                  replace p317 := eq_true p317
                  replace q317 := eq_true q317
                  have p318 : 0 ≤ (x13_1 : Int) := of_decide_eq_true (by first | (with_reducible assumption) | assumption)
                  have q318 : x13_1 < (l1.length : Int) := of_decide_eq_true (by first | (with_reducible assumption) | assumption)
                  obtain ⟨ad318, e318, hx318_0⟩ := Kd.at_int HR1.out x13_1 p318 q318
                  cases e318
                  replace p318 := eq_true p318
                  replace q318 := eq_true q318
                  go_wp2
                  repeat (go_quiet (fail); try go_wp2)
                  go_ret
                  exact ⟨by first | rfl | (simp; done) | (simp [*]; done), by repeat (first | exact Drawn0.refl _ | apply Drawn0.step)⟩
              · rw [if_neg c7] at H
                exact absurd H (by simp)
            · rw [if_neg c6] at H
              exact absurd H (by simp)
          · rw [if_neg c5] at H
            exact absurd H (by simp)
        · rw [if_neg c4] at H
          have c4b0 : decide (x13_1 < (l0.length : Int)) = false := decide_eq_false c4
          clear c4
          obtain rfl := Option.some.inj H
          go_wp2
          repeat (go_quiet (fail); try go_wp2)
          go_ret
          exact ⟨by first | rfl | (simp; done) | (simp [*]; done), by repeat (first | exact Drawn0.refl _ | apply Drawn0.step)⟩
  · rw [if_neg c3] at H
    have c3b0 : ((l0.length : Int) == (l1.length : Int)) = false := beq_eq_false_iff_ne.mpr c3
    have c3b1 : ((l0.length : Int) != (l1.length : Int)) = true := bne_iff_ne.mpr c3
    have c3b2 : (l0.length == l1.length) = false := by first | simpa using c3 | (simp at c3 ⊢; omega)
    obtain rfl := Option.some.inj H
    go_enter Try.func26, Try.ntmps26
    go_wp2
    repeat (go_quiet (fail); try go_wp2)
    go_ret
    exact ⟨by first | rfl | (simp; done) | (simp [*]; done), by repeat (first | exact Drawn0.refl _ | apply Drawn0.step)⟩

end Go.Proofs.Yticmghpnbjhhnaa.M
