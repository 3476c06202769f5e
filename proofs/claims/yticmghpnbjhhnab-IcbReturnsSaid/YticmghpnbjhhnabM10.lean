/- Lean functions with the answers of the Go functions that they are named after, and the walks that tie the Go functions to them (written by the program mp.py of this session). -/
import Derived.Test.YticmghpnbjhhnabM0
import Derived.Test.YticmghpnbjhhnabM7
import Derived.Test.YticmghpnbjhhnabM9
namespace Go.Proofs.Yticmghpnbjhhnab.M
open Go.RowKit Go.Proofs.YticmghpnbjhhnabW.PrintWords Go.Proofs.YticmghpnbjhhnabW.PrintLast Go.Proofs.YticmghpnbjhhnabW.PrintMore
attribute [local go_sem] fieldA50_0 fieldA102_0 max2_int min2_int max_two min_two max_three min_three max_four min_four   -- for this text's walks alone
set_option linter.unusedVariables false
set_option linter.unusedSimpArgs false

/-! ### udftag_seal: function 58 -/
def udftag_seal.j0 : Nat → Int → Int → Int → ByteArray → Int → Bool → Option (ByteArray × Int)
 | 0, _, _, _, _, _, _ => none
 | k + 1, x0, x1, x2, x3, x4, x13 => if x13 = true then (some ((⟨#[]⟩ : ByteArray), 2)) else (if (x3.size : Int) > x4 then (some ((⟨#[]⟩ : ByteArray), 7)) else ((udftag_little.f k x0 2).bind fun t222 => ((udftag_little.f k 3 2).bind fun t223 => (if t222.size + t223.size ≤ 9223372036854775807 then (if (t222 ++ t223).size + 2 ≤ 9223372036854775807 then ((udftag_little.f k x1 2).bind fun t224 => (if ((t222 ++ t223) ++ (⟨#[0, 0]⟩ : ByteArray)).size + t224.size ≤ 9223372036854775807 then ((checksum_CRC16.f x3).bind fun t225 => ((udftag_little.f k (wrap64 (t225)) 2).bind fun t226 => (if (((t222 ++ t223) ++ (⟨#[0, 0]⟩ : ByteArray)) ++ t224).size + t226.size ≤ 9223372036854775807 then ((udftag_little.f k (x3.size : Int) 2).bind fun t227 => (if ((((t222 ++ t223) ++ (⟨#[0, 0]⟩ : ByteArray)) ++ t224) ++ t226).size + t227.size ≤ 9223372036854775807 then ((udftag_little.f k x2 4).bind fun t228 => (if (((((t222 ++ t223) ++ (⟨#[0, 0]⟩ : ByteArray)) ++ t224) ++ t226) ++ t227).size + t228.size ≤ 9223372036854775807 then ((udftag_summed.f k ((((((t222 ++ t223) ++ (⟨#[0, 0]⟩ : ByteArray)) ++ t224) ++ t226) ++ t227) ++ t228)).bind fun t229 => (if t229.size + x3.size ≤ 9223372036854775807 then (some (t229 ++ x3, 0)) else (none))) else (none))) else (none))) else (none)))) else (none))) else (none)) else (none)))))
def udftag_seal.f (k : Nat) (a0 : Int) (a1 : Int) (a2 : Int) (a3 : ByteArray) (a4 : Int) : Option (ByteArray × Int) := (udftag_fits.f a0 2).bind fun t219 => (if t219 = true then ((udftag_fits.f a1 2).bind fun t220 => (if t220 = true then ((udftag_fits.f a2 4).bind fun t221 => (udftag_seal.j0 k a0 a1 a2 a3 a4 (!t221))) else (udftag_seal.j0 k a0 a1 a2 a3 a4 true))) else (udftag_seal.j0 k a0 a1 a2 a3 a4 true))
theorem udftag_seal.mono_l : ∀ k, (∀ y0 y1 y2 y3 y4 y5, LeO (udftag_seal.j0 k y0 y1 y2 y3 y4 y5) (udftag_seal.j0 (k + 1) y0 y1 y2 y3 y4 y5))
 | 0 => fun _ _ _ _ _ _ r h => by simp [udftag_seal.j0] at h
 | k + 1 => by
  have ih0 := udftag_seal.mono_l k
  ·intro y0 y1 y2 y3 y4 y5
   unfold udftag_seal.j0
   repeat' first
   | (with_reducible exact ih0 _ _ _ _ _ _)
   | (with_reducible exact udftag_little.mono _ _ _)
   | (with_reducible exact udftag_summed.mono _ _)
   | (with_reducible exact LeO.refl _)
   | (with_reducible exact LeO.none _)
   | (with_reducible refine LeO.ite ?_ ?_)
   | (with_reducible refine LeO.bind ?_ (fun _ => ?_))
   | exact ih0 _ _ _ _ _ _
   | exact udftag_little.mono _ _ _
   | exact udftag_summed.mono _ _
   | exact LeO.none _
   | refine LeO.ite ?_ ?_
   | refine LeO.bind ?_ (fun _ => ?_)
theorem udftag_seal.mono : ∀ a0 a1 a2 a3 a4 k, LeO (udftag_seal.f k a0 a1 a2 a3 a4) (udftag_seal.f (k + 1) a0 a1 a2 a3 a4) := by
 intro a0 a1 a2 a3 a4 k
 have ih0 := udftag_seal.mono_l k
 unfold udftag_seal.f
 repeat' first
   | (with_reducible exact ih0 _ _ _ _ _ _)
   | (with_reducible exact udftag_little.mono _ _ _)
   | (with_reducible exact udftag_summed.mono _ _)
   | (with_reducible exact LeO.refl _)
   | (with_reducible exact LeO.none _)
   | (with_reducible refine LeO.ite ?_ ?_)
   | (with_reducible refine LeO.bind ?_ (fun _ => ?_))
   | exact ih0 _ _ _ _ _ _
   | exact udftag_little.mono _ _ _
   | exact udftag_summed.mono _ _
   | exact LeO.none _
   | refine LeO.ite ?_ ?_
   | refine LeO.bind ?_ (fun _ => ?_)
set_option maxHeartbeats 8000000 in
set_option maxRecDepth 100000 in
theorem udftag_seal.calls (k : Nat) (a0 : Int) (a1 : Int) (a2 : Int) (a3 : ByteArray) (a4 : Int) (r1 : ByteArray) (r2 : Int) (w : World) (h : udftag_seal.f k a0 a1 a2 a3 a4 = some (r1, r2)) :
  Calls Try.prog 58 #[.int .i64 a0, .int .i64 a1, .int .i64 a2, .string a3, .int .i64 a4] w fun e w' => e = .returned (.tuple #[.string r1, .int .i64 r2]) ∧ Below w.heap.size w w' := by
 have HB := Aside0.mk (Below.refl w.heap.size w)
 have H : ((udftag_fits.f a0 2).bind fun t219 => (if t219 = true then ((udftag_fits.f a1 2).bind fun t220 => (if t220 = true then ((udftag_fits.f a2 4).bind fun t221 => (udftag_seal.j0 k a0 a1 a2 a3 a4 (!t221))) else (udftag_seal.j0 k a0 a1 a2 a3 a4 true))) else (udftag_seal.j0 k a0 a1 a2 a3 a4 true))) = some (r1, r2) := h
 clear h
 have HC6 := Aside0.mk H
 clear H
 go_enter Try.func58, Try.ntmps58
 go_upto_region 1 with (fail)
 go_cut [13] (fun v13 wc => ∃ (kq : Nat) (x13_5 : Bool), v13 = .bool x13_5 ∧ Aside0 (udftag_seal.j0 kq a0 a1 a2 a3 a4 x13_5 = some (r1, r2)) ∧ Aside0 (kq ≤ k) ∧ Aside0 (Below w.heap.size w wc))
 case first =>
  have H := HC6.out
  clear HC6
  replace H := Option.bind_eq_some_iff.mp H
  obtain ⟨t219, A70, H⟩ := H
  replace H : (if t219 = true then ((udftag_fits.f a1 2).bind fun t220 => (if t220 = true then ((udftag_fits.f a2 4).bind fun t221 => (udftag_seal.j0 k a0 a1 a2 a3 a4 (!t221))) else (udftag_seal.j0 k a0 a1 a2 a3 a4 true))) else (udftag_seal.j0 k a0 a1 a2 a3 a4 true)) = some (r1, r2) := H
  have A7 := Aside0.mk A70
  clear A70
  by_cases c8 : t219 = true
  ·subst c8
   have H1 : ((udftag_fits.f a1 2).bind fun t220 => (if t220 = true then ((udftag_fits.f a2 4).bind fun t221 => (udftag_seal.j0 k a0 a1 a2 a3 a4 (!t221))) else (udftag_seal.j0 k a0 a1 a2 a3 a4 true))) = some (r1, r2) := by rw [if_pos rfl] at H; exact H
   clear H
   have H := H1
   clear H1
   replace H := Option.bind_eq_some_iff.mp H
   obtain ⟨t220, A90, H⟩ := H
   replace H : (if t220 = true then ((udftag_fits.f a2 4).bind fun t221 => (udftag_seal.j0 k a0 a1 a2 a3 a4 (!t221))) else (udftag_seal.j0 k a0 a1 a2 a3 a4 true)) = some (r1, r2) := H
   have A9 := Aside0.mk A90
   clear A90
   by_cases c10 : t220 = true
   ·subst c10
    have H1 : ((udftag_fits.f a2 4).bind fun t221 => (udftag_seal.j0 k a0 a1 a2 a3 a4 (!t221))) = some (r1, r2) := by rw [if_pos rfl] at H; exact H
    clear H
    have H := H1
    clear H1
    replace H := Option.bind_eq_some_iff.mp H
    obtain ⟨t221, A110, H⟩ := H
    replace H : (udftag_seal.j0 k a0 a1 a2 a3 a4 (!t221)) = some (r1, r2) := H
    have A11 := Aside0.mk A110
    clear A110
    have H' := Aside0.mk H
    clear H
    go_wp2_with (first | ((with_reducible refine gate_callee (f := 83) rfl ?_); refine goesL_ (some 15) rfl rfl Try.func83 (by kernel_rfl) rfl #[.int .i64 a0, .int .i64 2] rfl (by (try simp only [List.map_toArray, List.map_cons, List.map_nil]); first | done | rfl | (simp only [List.length_drop, List.length_take]; rfl)) ?_; (with_reducible refine (udftag_fits.calls a0 2 true _ A7.out).mono ?_); rintro e w' ⟨rfl, ⟨nd, rfl⟩⟩; refine ⟨_, rfl, ?_⟩) | (go_at_call 83; (with_reducible refine (udftag_fits.calls a1 2 true _ A9.out).mono ?_); rintro e w' ⟨rfl, ⟨nd, rfl⟩⟩) | (go_at_call 83; (with_reducible refine (udftag_fits.calls a2 4 t221 _ A11.out).mono ?_); rintro e w' ⟨rfl, ⟨nd, rfl⟩⟩))
    go_meet
    case rel => exact ⟨_, (!t221), (by first | rfl | (simp; done) | (simp [*]; done)), H', ⟨by first | omega | exact Nat.le_refl _⟩, ⟨by repeat (first | (with_reducible first | exact HB.out | apply below_alloc | apply pw_below_drewN | apply below_drew1) | exact HB.out)⟩⟩
   ·replace c10 := Bool.eq_false_iff.mpr c10
    subst c10
    have H1 : (udftag_seal.j0 k a0 a1 a2 a3 a4 true) = some (r1, r2) := by rw [if_neg (show ¬ (false = true) by decide)] at H; exact H
    clear H
    have H := H1
    clear H1
    have H' := Aside0.mk H
    clear H
    go_wp2_with (first | ((with_reducible refine gate_callee (f := 83) rfl ?_); refine goesL_ (some 15) rfl rfl Try.func83 (by kernel_rfl) rfl #[.int .i64 a0, .int .i64 2] rfl (by (try simp only [List.map_toArray, List.map_cons, List.map_nil]); first | done | rfl | (simp only [List.length_drop, List.length_take]; rfl)) ?_; (with_reducible refine (udftag_fits.calls a0 2 true _ A7.out).mono ?_); rintro e w' ⟨rfl, ⟨nd, rfl⟩⟩; refine ⟨_, rfl, ?_⟩) | (go_at_call 83; (with_reducible refine (udftag_fits.calls a1 2 false _ A9.out).mono ?_); rintro e w' ⟨rfl, ⟨nd, rfl⟩⟩))
    go_meet
    case rel => exact ⟨_, (true), (by first | rfl | (simp; done) | (simp [*]; done)), H', ⟨by first | omega | exact Nat.le_refl _⟩, ⟨by repeat (first | (with_reducible first | exact HB.out | apply below_alloc | apply pw_below_drewN | apply below_drew1) | exact HB.out)⟩⟩
  ·replace c8 := Bool.eq_false_iff.mpr c8
   subst c8
   have H1 : (udftag_seal.j0 k a0 a1 a2 a3 a4 true) = some (r1, r2) := by rw [if_neg (show ¬ (false = true) by decide)] at H; exact H
   clear H
   have H := H1
   clear H1
   have H' := Aside0.mk H
   clear H
   go_wp2_with (first | ((with_reducible refine gate_callee (f := 83) rfl ?_); refine goesL_ (some 15) rfl rfl Try.func83 (by kernel_rfl) rfl #[.int .i64 a0, .int .i64 2] rfl (by (try simp only [List.map_toArray, List.map_cons, List.map_nil]); first | done | rfl | (simp only [List.length_drop, List.length_take]; rfl)) ?_; (with_reducible refine (udftag_fits.calls a0 2 false _ A7.out).mono ?_); rintro e w' ⟨rfl, ⟨nd, rfl⟩⟩; refine ⟨_, rfl, ?_⟩))
   go_meet
   case rel => exact ⟨_, (true), (by first | rfl | (simp; done) | (simp [*]; done)), H', ⟨by first | omega | exact Nat.le_refl _⟩, ⟨by repeat (first | (with_reducible first | exact HB.out | apply below_alloc | apply pw_below_drewN | apply below_drew1) | exact HB.out)⟩⟩
 case rest =>
  clear HC6
  try clear c1
  try clear p2
  try clear c5
  try clear c8
  try clear c10
  obtain ⟨kq, x13_5, rfl, HA, HJ5, HB⟩ := hcut
  cases kq with
  | zero => exact absurd HA.out (by simp [udftag_seal.j0])
  | succ kj5 =>
   have H := HA.out
   clear HA
   simp only [udftag_seal.j0] at H
   by_cases c12 : x13_5 = true
   ·subst c12
    have H1 : (some ((⟨#[]⟩ : ByteArray), 2)) = some (r1, r2) := by rw [if_pos rfl] at H; exact H
    clear H
    have H := H1
    clear H1
    simp only [Option.some.injEq, Prod.mk.injEq] at H
    obtain ⟨rfl, rfl⟩ := H
    go_wp2
    go_ret2
    exact ⟨by first | rfl | (simp [errW_none, errW_some] <;> rfl) | (simp [*, errW_none, errW_some] <;> rfl), by repeat (first | (with_reducible first | exact HB.out | apply below_alloc | apply pw_below_drewN | apply below_drew1) | exact HB.out)⟩
   ·replace c12 := Bool.eq_false_iff.mpr c12
    subst c12
    have H1 : (if (a3.size : Int) > a4 then (some ((⟨#[]⟩ : ByteArray), 7)) else ((udftag_little.f kj5 a0 2).bind fun t222 => ((udftag_little.f kj5 3 2).bind fun t223 => (if t222.size + t223.size ≤ 9223372036854775807 then (if (t222 ++ t223).size + 2 ≤ 9223372036854775807 then ((udftag_little.f kj5 a1 2).bind fun t224 => (if ((t222 ++ t223) ++ (⟨#[0, 0]⟩ : ByteArray)).size + t224.size ≤ 9223372036854775807 then ((checksum_CRC16.f a3).bind fun t225 => ((udftag_little.f kj5 (wrap64 (t225)) 2).bind fun t226 => (if (((t222 ++ t223) ++ (⟨#[0, 0]⟩ : ByteArray)) ++ t224).size + t226.size ≤ 9223372036854775807 then ((udftag_little.f kj5 (a3.size : Int) 2).bind fun t227 => (if ((((t222 ++ t223) ++ (⟨#[0, 0]⟩ : ByteArray)) ++ t224) ++ t226).size + t227.size ≤ 9223372036854775807 then ((udftag_little.f kj5 a2 4).bind fun t228 => (if (((((t222 ++ t223) ++ (⟨#[0, 0]⟩ : ByteArray)) ++ t224) ++ t226) ++ t227).size + t228.size ≤ 9223372036854775807 then ((udftag_summed.f kj5 ((((((t222 ++ t223) ++ (⟨#[0, 0]⟩ : ByteArray)) ++ t224) ++ t226) ++ t227) ++ t228)).bind fun t229 => (if t229.size + a3.size ≤ 9223372036854775807 then (some (t229 ++ a3, 0)) else (none))) else (none))) else (none))) else (none)))) else (none))) else (none)) else (none))))) = some (r1, r2) := by rw [if_neg (show ¬ (false = true) by decide)] at H; exact H
    clear H
    have H := H1
    clear H1
    by_cases c13 : (a3.size : Int) > a4
    ·rw [if_pos c13] at H
     have c13b0 : decide (a4 < (a3.size : Int)) = true := decide_eq_true c13
     clear c13
     simp only [Option.some.injEq, Prod.mk.injEq] at H
     obtain ⟨rfl, rfl⟩ := H
     go_wp2
     go_ret2
     exact ⟨by first | rfl | (simp [errW_none, errW_some] <;> rfl) | (simp [*, errW_none, errW_some] <;> rfl), by repeat (first | (with_reducible first | exact HB.out | apply below_alloc | apply pw_below_drewN | apply below_drew1) | exact HB.out)⟩
    ·rw [if_neg c13] at H
     have c13b0 : decide (a4 < (a3.size : Int)) = false := decide_eq_false c13
     clear c13
     replace H := Option.bind_eq_some_iff.mp H
     obtain ⟨t222, A140, H⟩ := H
     replace H : ((udftag_little.f kj5 3 2).bind fun t223 => (if t222.size + t223.size ≤ 9223372036854775807 then (if (t222 ++ t223).size + 2 ≤ 9223372036854775807 then ((udftag_little.f kj5 a1 2).bind fun t224 => (if ((t222 ++ t223) ++ (⟨#[0, 0]⟩ : ByteArray)).size + t224.size ≤ 9223372036854775807 then ((checksum_CRC16.f a3).bind fun t225 => ((udftag_little.f kj5 (wrap64 (t225)) 2).bind fun t226 => (if (((t222 ++ t223) ++ (⟨#[0, 0]⟩ : ByteArray)) ++ t224).size + t226.size ≤ 9223372036854775807 then ((udftag_little.f kj5 (a3.size : Int) 2).bind fun t227 => (if ((((t222 ++ t223) ++ (⟨#[0, 0]⟩ : ByteArray)) ++ t224) ++ t226).size + t227.size ≤ 9223372036854775807 then ((udftag_little.f kj5 a2 4).bind fun t228 => (if (((((t222 ++ t223) ++ (⟨#[0, 0]⟩ : ByteArray)) ++ t224) ++ t226) ++ t227).size + t228.size ≤ 9223372036854775807 then ((udftag_summed.f kj5 ((((((t222 ++ t223) ++ (⟨#[0, 0]⟩ : ByteArray)) ++ t224) ++ t226) ++ t227) ++ t228)).bind fun t229 => (if t229.size + a3.size ≤ 9223372036854775807 then (some (t229 ++ a3, 0)) else (none))) else (none))) else (none))) else (none)))) else (none))) else (none)) else (none))) = some (r1, r2) := H
     have A14 := Aside0.mk A140
     clear A140
     replace H := Option.bind_eq_some_iff.mp H
     obtain ⟨t223, A150, H⟩ := H
     replace H : (if t222.size + t223.size ≤ 9223372036854775807 then (if (t222 ++ t223).size + 2 ≤ 9223372036854775807 then ((udftag_little.f kj5 a1 2).bind fun t224 => (if ((t222 ++ t223) ++ (⟨#[0, 0]⟩ : ByteArray)).size + t224.size ≤ 9223372036854775807 then ((checksum_CRC16.f a3).bind fun t225 => ((udftag_little.f kj5 (wrap64 (t225)) 2).bind fun t226 => (if (((t222 ++ t223) ++ (⟨#[0, 0]⟩ : ByteArray)) ++ t224).size + t226.size ≤ 9223372036854775807 then ((udftag_little.f kj5 (a3.size : Int) 2).bind fun t227 => (if ((((t222 ++ t223) ++ (⟨#[0, 0]⟩ : ByteArray)) ++ t224) ++ t226).size + t227.size ≤ 9223372036854775807 then ((udftag_little.f kj5 a2 4).bind fun t228 => (if (((((t222 ++ t223) ++ (⟨#[0, 0]⟩ : ByteArray)) ++ t224) ++ t226) ++ t227).size + t228.size ≤ 9223372036854775807 then ((udftag_summed.f kj5 ((((((t222 ++ t223) ++ (⟨#[0, 0]⟩ : ByteArray)) ++ t224) ++ t226) ++ t227) ++ t228)).bind fun t229 => (if t229.size + a3.size ≤ 9223372036854775807 then (some (t229 ++ a3, 0)) else (none))) else (none))) else (none))) else (none)))) else (none))) else (none)) else (none)) = some (r1, r2) := H
     have A15 := Aside0.mk A150
     clear A150
     by_cases c16 : t222.size + t223.size ≤ 9223372036854775807
     ·rw [if_pos c16] at H
      have c16b0 := eq_true c16
      have c16b1 : decide (t222.size + t223.size ≤ 9223372036854775807) = true := decide_eq_true c16
      try have c16b2 : (9223372036854775807 < t222.size + t223.size) = False := eq_false (Nat.not_lt.2 c16)
      by_cases c17 : (t222 ++ t223).size + 2 ≤ 9223372036854775807
      ·rw [if_pos c17] at H
       have c17b0 := eq_true c17
       have c17b1 : decide ((t222 ++ t223).size + 2 ≤ 9223372036854775807) = true := decide_eq_true c17
       try have c17b2 : (9223372036854775807 < (t222 ++ t223).size + 2) = False := eq_false (Nat.not_lt.2 c17)
       try (have c17b2s := c17b2; simp only [ByteArray.size_append] at c17b2s)
       replace H := Option.bind_eq_some_iff.mp H
       obtain ⟨t224, A180, H⟩ := H
       replace H : (if ((t222 ++ t223) ++ (⟨#[0, 0]⟩ : ByteArray)).size + t224.size ≤ 9223372036854775807 then ((checksum_CRC16.f a3).bind fun t225 => ((udftag_little.f kj5 (wrap64 (t225)) 2).bind fun t226 => (if (((t222 ++ t223) ++ (⟨#[0, 0]⟩ : ByteArray)) ++ t224).size + t226.size ≤ 9223372036854775807 then ((udftag_little.f kj5 (a3.size : Int) 2).bind fun t227 => (if ((((t222 ++ t223) ++ (⟨#[0, 0]⟩ : ByteArray)) ++ t224) ++ t226).size + t227.size ≤ 9223372036854775807 then ((udftag_little.f kj5 a2 4).bind fun t228 => (if (((((t222 ++ t223) ++ (⟨#[0, 0]⟩ : ByteArray)) ++ t224) ++ t226) ++ t227).size + t228.size ≤ 9223372036854775807 then ((udftag_summed.f kj5 ((((((t222 ++ t223) ++ (⟨#[0, 0]⟩ : ByteArray)) ++ t224) ++ t226) ++ t227) ++ t228)).bind fun t229 => (if t229.size + a3.size ≤ 9223372036854775807 then (some (t229 ++ a3, 0)) else (none))) else (none))) else (none))) else (none)))) else (none)) = some (r1, r2) := H
       have A18 := Aside0.mk A180
       clear A180
       by_cases c19 : ((t222 ++ t223) ++ (⟨#[0, 0]⟩ : ByteArray)).size + t224.size ≤ 9223372036854775807
       ·rw [if_pos c19] at H
        have c19b0 := eq_true c19
        have c19b1 : decide (((t222 ++ t223) ++ (⟨#[0, 0]⟩ : ByteArray)).size + t224.size ≤ 9223372036854775807) = true := decide_eq_true c19
        try have c19b2 : (9223372036854775807 < ((t222 ++ t223) ++ (⟨#[0, 0]⟩ : ByteArray)).size + t224.size) = False := eq_false (Nat.not_lt.2 c19)
        try (have c19b2s := c19b2; simp only [ByteArray.size_append] at c19b2s)
        try (have c19b2t := c19b2; simp only [ByteArray.size_append, show (⟨#[0, 0]⟩ : ByteArray).size = 2 from rfl] at c19b2t)
        replace H := Option.bind_eq_some_iff.mp H
        obtain ⟨t225, A200, H⟩ := H
        replace H : ((udftag_little.f kj5 (wrap64 (t225)) 2).bind fun t226 => (if (((t222 ++ t223) ++ (⟨#[0, 0]⟩ : ByteArray)) ++ t224).size + t226.size ≤ 9223372036854775807 then ((udftag_little.f kj5 (a3.size : Int) 2).bind fun t227 => (if ((((t222 ++ t223) ++ (⟨#[0, 0]⟩ : ByteArray)) ++ t224) ++ t226).size + t227.size ≤ 9223372036854775807 then ((udftag_little.f kj5 a2 4).bind fun t228 => (if (((((t222 ++ t223) ++ (⟨#[0, 0]⟩ : ByteArray)) ++ t224) ++ t226) ++ t227).size + t228.size ≤ 9223372036854775807 then ((udftag_summed.f kj5 ((((((t222 ++ t223) ++ (⟨#[0, 0]⟩ : ByteArray)) ++ t224) ++ t226) ++ t227) ++ t228)).bind fun t229 => (if t229.size + a3.size ≤ 9223372036854775807 then (some (t229 ++ a3, 0)) else (none))) else (none))) else (none))) else (none))) = some (r1, r2) := H
        have A20 := Aside0.mk A200
        clear A200
        replace H := Option.bind_eq_some_iff.mp H
        obtain ⟨t226, A210, H⟩ := H
        replace H : (if (((t222 ++ t223) ++ (⟨#[0, 0]⟩ : ByteArray)) ++ t224).size + t226.size ≤ 9223372036854775807 then ((udftag_little.f kj5 (a3.size : Int) 2).bind fun t227 => (if ((((t222 ++ t223) ++ (⟨#[0, 0]⟩ : ByteArray)) ++ t224) ++ t226).size + t227.size ≤ 9223372036854775807 then ((udftag_little.f kj5 a2 4).bind fun t228 => (if (((((t222 ++ t223) ++ (⟨#[0, 0]⟩ : ByteArray)) ++ t224) ++ t226) ++ t227).size + t228.size ≤ 9223372036854775807 then ((udftag_summed.f kj5 ((((((t222 ++ t223) ++ (⟨#[0, 0]⟩ : ByteArray)) ++ t224) ++ t226) ++ t227) ++ t228)).bind fun t229 => (if t229.size + a3.size ≤ 9223372036854775807 then (some (t229 ++ a3, 0)) else (none))) else (none))) else (none))) else (none)) = some (r1, r2) := H
        have A21 := Aside0.mk A210
        clear A210
        by_cases c22 : (((t222 ++ t223) ++ (⟨#[0, 0]⟩ : ByteArray)) ++ t224).size + t226.size ≤ 9223372036854775807
        ·rw [if_pos c22] at H
         have c22b0 := eq_true c22
         have c22b1 : decide ((((t222 ++ t223) ++ (⟨#[0, 0]⟩ : ByteArray)) ++ t224).size + t226.size ≤ 9223372036854775807) = true := decide_eq_true c22
         try have c22b2 : (9223372036854775807 < (((t222 ++ t223) ++ (⟨#[0, 0]⟩ : ByteArray)) ++ t224).size + t226.size) = False := eq_false (Nat.not_lt.2 c22)
         try (have c22b2s := c22b2; simp only [ByteArray.size_append] at c22b2s)
         try (have c22b2t := c22b2; simp only [ByteArray.size_append, show (⟨#[0, 0]⟩ : ByteArray).size = 2 from rfl] at c22b2t)
         replace H := Option.bind_eq_some_iff.mp H
         obtain ⟨t227, A230, H⟩ := H
         replace H : (if ((((t222 ++ t223) ++ (⟨#[0, 0]⟩ : ByteArray)) ++ t224) ++ t226).size + t227.size ≤ 9223372036854775807 then ((udftag_little.f kj5 a2 4).bind fun t228 => (if (((((t222 ++ t223) ++ (⟨#[0, 0]⟩ : ByteArray)) ++ t224) ++ t226) ++ t227).size + t228.size ≤ 9223372036854775807 then ((udftag_summed.f kj5 ((((((t222 ++ t223) ++ (⟨#[0, 0]⟩ : ByteArray)) ++ t224) ++ t226) ++ t227) ++ t228)).bind fun t229 => (if t229.size + a3.size ≤ 9223372036854775807 then (some (t229 ++ a3, 0)) else (none))) else (none))) else (none)) = some (r1, r2) := H
         have A23 := Aside0.mk A230
         clear A230
         by_cases c24 : ((((t222 ++ t223) ++ (⟨#[0, 0]⟩ : ByteArray)) ++ t224) ++ t226).size + t227.size ≤ 9223372036854775807
         ·rw [if_pos c24] at H
          have c24b0 := eq_true c24
          have c24b1 : decide (((((t222 ++ t223) ++ (⟨#[0, 0]⟩ : ByteArray)) ++ t224) ++ t226).size + t227.size ≤ 9223372036854775807) = true := decide_eq_true c24
          try have c24b2 : (9223372036854775807 < ((((t222 ++ t223) ++ (⟨#[0, 0]⟩ : ByteArray)) ++ t224) ++ t226).size + t227.size) = False := eq_false (Nat.not_lt.2 c24)
          try (have c24b2s := c24b2; simp only [ByteArray.size_append] at c24b2s)
          try (have c24b2t := c24b2; simp only [ByteArray.size_append, show (⟨#[0, 0]⟩ : ByteArray).size = 2 from rfl] at c24b2t)
          replace H := Option.bind_eq_some_iff.mp H
          obtain ⟨t228, A250, H⟩ := H
          replace H : (if (((((t222 ++ t223) ++ (⟨#[0, 0]⟩ : ByteArray)) ++ t224) ++ t226) ++ t227).size + t228.size ≤ 9223372036854775807 then ((udftag_summed.f kj5 ((((((t222 ++ t223) ++ (⟨#[0, 0]⟩ : ByteArray)) ++ t224) ++ t226) ++ t227) ++ t228)).bind fun t229 => (if t229.size + a3.size ≤ 9223372036854775807 then (some (t229 ++ a3, 0)) else (none))) else (none)) = some (r1, r2) := H
          have A25 := Aside0.mk A250
          clear A250
          by_cases c26 : (((((t222 ++ t223) ++ (⟨#[0, 0]⟩ : ByteArray)) ++ t224) ++ t226) ++ t227).size + t228.size ≤ 9223372036854775807
          ·rw [if_pos c26] at H
           have c26b0 := eq_true c26
           have c26b1 : decide ((((((t222 ++ t223) ++ (⟨#[0, 0]⟩ : ByteArray)) ++ t224) ++ t226) ++ t227).size + t228.size ≤ 9223372036854775807) = true := decide_eq_true c26
           try have c26b2 : (9223372036854775807 < (((((t222 ++ t223) ++ (⟨#[0, 0]⟩ : ByteArray)) ++ t224) ++ t226) ++ t227).size + t228.size) = False := eq_false (Nat.not_lt.2 c26)
           try (have c26b2s := c26b2; simp only [ByteArray.size_append] at c26b2s)
           try (have c26b2t := c26b2; simp only [ByteArray.size_append, show (⟨#[0, 0]⟩ : ByteArray).size = 2 from rfl] at c26b2t)
           replace H := Option.bind_eq_some_iff.mp H
           obtain ⟨t229, A270, H⟩ := H
           replace H : (if t229.size + a3.size ≤ 9223372036854775807 then (some (t229 ++ a3, 0)) else (none)) = some (r1, r2) := H
           have A27 := Aside0.mk A270
           clear A270
           by_cases c28 : t229.size + a3.size ≤ 9223372036854775807
           ·rw [if_pos c28] at H
            have c28b0 := eq_true c28
            have c28b1 : decide (t229.size + a3.size ≤ 9223372036854775807) = true := decide_eq_true c28
            try have c28b2 : (9223372036854775807 < t229.size + a3.size) = False := eq_false (Nat.not_lt.2 c28)
            simp only [Option.some.injEq, Prod.mk.injEq] at H
            obtain ⟨rfl, rfl⟩ := H
            go_wp2_with (first | ((with_reducible refine gate_callee (f := 84) rfl ?_); refine goesL_ (some 33) rfl rfl Try.func84 (by kernel_rfl) rfl #[.int .i64 a0, .int .i64 2] rfl (by (try simp only [List.map_toArray, List.map_cons, List.map_nil]); first | done | rfl | (simp only [List.length_drop, List.length_take]; rfl)) ?_; (with_reducible refine (udftag_little.calls kj5 a0 2 t222 _ A14.out).mono ?_); rintro e w29 ⟨rfl, hb⟩; refine ⟨_, rfl, ?_⟩; have n0_ := Aside0.mk (below_step (by repeat (first | (with_reducible first | exact HB.out | apply below_alloc | apply pw_below_drewN | apply below_drew1) | exact HB.out)) hb); clear HB; have HB := n0_; clear n0_; (try clear hb); (try clear hb2); (try clear hk); (try clear hi)) | ((with_reducible refine gate_callee (f := 84) rfl ?_); refine goesL_ (some 34) rfl rfl Try.func84 (by kernel_rfl) rfl #[.int .i64 3, .int .i64 2] rfl (by (try simp only [List.map_toArray, List.map_cons, List.map_nil]); first | done | rfl | (simp only [List.length_drop, List.length_take]; rfl)) ?_; (with_reducible refine (udftag_little.calls kj5 3 2 t223 _ A15.out).mono ?_); rintro e w30 ⟨rfl, hb⟩; refine ⟨_, rfl, ?_⟩; have n0_ := Aside0.mk (below_step (by repeat (first | (with_reducible first | exact HB.out | apply below_alloc | apply pw_below_drewN | apply below_drew1) | exact HB.out)) hb); clear HB; have HB := n0_; clear n0_; (try clear hb); (try clear hb2); (try clear hk); (try clear hi)) | ((with_reducible refine gate_callee (f := 84) rfl ?_); refine goesL_ (some 38) rfl rfl Try.func84 (by kernel_rfl) rfl #[.int .i64 a1, .int .i64 2] rfl (by (try simp only [List.map_toArray, List.map_cons, List.map_nil]); first | done | rfl | (simp only [List.length_drop, List.length_take]; rfl)) ?_; (with_reducible refine (udftag_little.calls kj5 a1 2 t224 _ A18.out).mono ?_); rintro e w31 ⟨rfl, hb⟩; refine ⟨_, rfl, ?_⟩; have n0_ := Aside0.mk (below_step (by repeat (first | (with_reducible first | exact HB.out | apply below_alloc | apply pw_below_drewN | apply below_drew1) | exact HB.out)) hb); clear HB; have HB := n0_; clear n0_; (try clear hb); (try clear hb2); (try clear hk); (try clear hi)) | ((with_reducible refine gate_callee (f := 85) rfl ?_); refine goesL_ (some 41) rfl rfl Try.func85 (by kernel_rfl) rfl #[.string a3] rfl (by (try simp only [List.map_toArray, List.map_cons, List.map_nil]); first | done | rfl | (simp only [List.length_drop, List.length_take]; rfl)) ?_; (with_reducible refine (checksum_CRC16.calls a3 t225 _ A20.out).mono ?_); rintro e w32 ⟨rfl, hb⟩; refine ⟨_, rfl, ?_⟩; have n0_ := Aside0.mk (below_step (by repeat (first | (with_reducible first | exact HB.out | apply below_alloc | apply pw_below_drewN | apply below_drew1) | exact HB.out)) hb); clear HB; have HB := n0_; clear n0_; (try clear hb); (try clear hb2); (try clear hk); (try clear hi)) | ((with_reducible refine gate_callee (f := 84) rfl ?_); refine goesL_ (some 43) rfl rfl Try.func84 (by kernel_rfl) rfl #[.int .i64 (wrap64 (t225)), .int .i64 2] rfl (by (try simp only [List.map_toArray, List.map_cons, List.map_nil]); first | done | rfl | (simp only [List.length_drop, List.length_take]; rfl)) ?_; (with_reducible refine (udftag_little.calls kj5 (wrap64 (t225)) 2 t226 _ A21.out).mono ?_); rintro e w33 ⟨rfl, hb⟩; refine ⟨_, rfl, ?_⟩; have n0_ := Aside0.mk (below_step (by repeat (first | (with_reducible first | exact HB.out | apply below_alloc | apply pw_below_drewN | apply below_drew1) | exact HB.out)) hb); clear HB; have HB := n0_; clear n0_; (try clear hb); (try clear hb2); (try clear hk); (try clear hi)) | ((with_reducible refine gate_callee (f := 84) rfl ?_); refine goesL_ (some 47) rfl rfl Try.func84 (by kernel_rfl) rfl #[.int .i64 (a3.size : Int), .int .i64 2] rfl (by (try simp only [List.map_toArray, List.map_cons, List.map_nil]); first | done | rfl | (simp only [List.length_drop, List.length_take]; rfl)) ?_; (with_reducible refine (udftag_little.calls kj5 (a3.size : Int) 2 t227 _ A23.out).mono ?_); rintro e w34 ⟨rfl, hb⟩; refine ⟨_, rfl, ?_⟩; have n0_ := Aside0.mk (below_step (by repeat (first | (with_reducible first | exact HB.out | apply below_alloc | apply pw_below_drewN | apply below_drew1) | exact HB.out)) hb); clear HB; have HB := n0_; clear n0_; (try clear hb); (try clear hb2); (try clear hk); (try clear hi)) | ((with_reducible refine gate_callee (f := 84) rfl ?_); refine goesL_ (some 50) rfl rfl Try.func84 (by kernel_rfl) rfl #[.int .i64 a2, .int .i64 4] rfl (by (try simp only [List.map_toArray, List.map_cons, List.map_nil]); first | done | rfl | (simp only [List.length_drop, List.length_take]; rfl)) ?_; (with_reducible refine (udftag_little.calls kj5 a2 4 t228 _ A25.out).mono ?_); rintro e w35 ⟨rfl, hb⟩; refine ⟨_, rfl, ?_⟩; have n0_ := Aside0.mk (below_step (by repeat (first | (with_reducible first | exact HB.out | apply below_alloc | apply pw_below_drewN | apply below_drew1) | exact HB.out)) hb); clear HB; have HB := n0_; clear n0_; (try clear hb); (try clear hb2); (try clear hk); (try clear hi)) | ((with_reducible refine gate_callee (f := 86) rfl ?_); refine goesL_ (some 53) rfl rfl Try.func86 (by kernel_rfl) rfl #[.string ((((((t222 ++ t223) ++ (⟨#[0, 0]⟩ : ByteArray)) ++ t224) ++ t226) ++ t227) ++ t228)] rfl (by (try simp only [List.map_toArray, List.map_cons, List.map_nil]); first | done | rfl | (simp only [List.length_drop, List.length_take]; rfl)) ?_; (with_reducible refine (udftag_summed.calls kj5 ((((((t222 ++ t223) ++ (⟨#[0, 0]⟩ : ByteArray)) ++ t224) ++ t226) ++ t227) ++ t228) t229 _ A27.out).mono ?_); rintro e w36 ⟨rfl, hb⟩; refine ⟨_, rfl, ?_⟩; have n0_ := Aside0.mk (below_step (by repeat (first | (with_reducible first | exact HB.out | apply below_alloc | apply pw_below_drewN | apply below_drew1) | exact HB.out)) hb); clear HB; have HB := n0_; clear n0_; (try clear hb); (try clear hb2); (try clear hk); (try clear hi)))
            go_ret2
            exact ⟨by first | rfl | (simp [errW_none, errW_some] <;> rfl) | (simp [*, errW_none, errW_some] <;> rfl), by repeat (first | (with_reducible first | exact HB.out | apply below_alloc | apply pw_below_drewN | apply below_drew1) | exact HB.out)⟩
           ·rw [if_neg c28] at H
            exact absurd H (by simp)
          ·rw [if_neg c26] at H
           exact absurd H (by simp)
         ·rw [if_neg c24] at H
          exact absurd H (by simp)
        ·rw [if_neg c22] at H
         exact absurd H (by simp)
       ·rw [if_neg c19] at H
        exact absurd H (by simp)
      ·rw [if_neg c17] at H
       exact absurd H (by simp)
     ·rw [if_neg c16] at H
      exact absurd H (by simp)

/-! ### udftag_Block: function 33 -/
def udftag_Block.f (k : Nat) (a0 : Int) (a1 : Int) (a2 : Int) (a3 : ByteArray) : Option (ByteArray × Int) := (udftag_seal.f k a0 a1 a2 a3 2032).bind fun bt230 => (if bt230.2 = 0 then ((strings_Repeat.f (⟨#[0]⟩ : ByteArray) (wrap64 (2048 - (bt230.1.size : Int)))).bind fun t232 => (if bt230.1.size + t232.size ≤ 9223372036854775807 then (some (bt230.1 ++ t232, 0)) else (none))) else (some ((⟨#[]⟩ : ByteArray), bt230.2)))
theorem udftag_Block.mono : ∀ a0 a1 a2 a3 k, LeO (udftag_Block.f k a0 a1 a2 a3) (udftag_Block.f (k + 1) a0 a1 a2 a3) := by
 intro a0 a1 a2 a3 k
 unfold udftag_Block.f
 repeat' first
   | (with_reducible exact udftag_seal.mono _ _ _ _ _ _)
   | (with_reducible exact LeO.refl _)
   | (with_reducible exact LeO.none _)
   | (with_reducible refine LeO.ite ?_ ?_)
   | (with_reducible refine LeO.bind ?_ (fun _ => ?_))
   | exact udftag_seal.mono _ _ _ _ _ _
   | exact LeO.none _
   | refine LeO.ite ?_ ?_
   | refine LeO.bind ?_ (fun _ => ?_)
set_option maxHeartbeats 8000000 in
set_option maxRecDepth 100000 in
theorem udftag_Block.calls (k : Nat) (a0 : Int) (a1 : Int) (a2 : Int) (a3 : ByteArray) (r1 : ByteArray) (r2 : Int) (w : World) (h : udftag_Block.f k a0 a1 a2 a3 = some (r1, r2)) :
  Calls Try.prog 33 #[.int .i64 a0, .int .i64 a1, .int .i64 a2, .string a3] w fun e w' => e = .returned (.tuple #[.string r1, .int .i64 r2]) ∧ Below w.heap.size w w' := by
 have HB := Aside0.mk (Below.refl w.heap.size w)
 have H : ((udftag_seal.f k a0 a1 a2 a3 2032).bind fun bt230 => (if bt230.2 = 0 then ((strings_Repeat.f (⟨#[0]⟩ : ByteArray) (wrap64 (2048 - (bt230.1.size : Int)))).bind fun t232 => (if bt230.1.size + t232.size ≤ 9223372036854775807 then (some (bt230.1 ++ t232, 0)) else (none))) else (some ((⟨#[]⟩ : ByteArray), bt230.2)))) = some (r1, r2) := h
 clear h
 replace H := Option.bind_eq_some_iff.mp H
 obtain ⟨⟨t230, t231⟩, A50, H⟩ := H
 replace H : (if t231 = 0 then ((strings_Repeat.f (⟨#[0]⟩ : ByteArray) (wrap64 (2048 - (t230.size : Int)))).bind fun t232 => (if t230.size + t232.size ≤ 9223372036854775807 then (some (t230 ++ t232, 0)) else (none))) else (some ((⟨#[]⟩ : ByteArray), t231))) = some (r1, r2) := H
 have A5 := Aside0.mk A50
 clear A50
 by_cases c6 : t231 = 0
 ·rw [if_pos c6] at H
  have c6b0 : (t231 == 0) = true := beq_iff_eq.mpr c6
  have c6b1 : (t231 != 0) = false := bne_eq_false_iff_eq.mpr c6
  clear c6
  replace H := Option.bind_eq_some_iff.mp H
  obtain ⟨t232, A70, H⟩ := H
  replace H : (if t230.size + t232.size ≤ 9223372036854775807 then (some (t230 ++ t232, 0)) else (none)) = some (r1, r2) := H
  have A7 := Aside0.mk A70
  clear A70
  by_cases c8 : t230.size + t232.size ≤ 9223372036854775807
  ·rw [if_pos c8] at H
   have c8b0 := eq_true c8
   have c8b1 : decide (t230.size + t232.size ≤ 9223372036854775807) = true := decide_eq_true c8
   try have c8b2 : (9223372036854775807 < t230.size + t232.size) = False := eq_false (Nat.not_lt.2 c8)
   simp only [Option.some.injEq, Prod.mk.injEq] at H
   obtain ⟨rfl, rfl⟩ := H
   go_enter Try.func33, Try.ntmps33
   go_wp2_with (first | ((with_reducible refine gate_callee (f := 58) rfl ?_); refine goesL_ (some 17) rfl rfl Try.func58 (by kernel_rfl) rfl #[.int .i64 a0, .int .i64 a1, .int .i64 a2, .string a3, .int .i64 2032] rfl (by (try simp only [List.map_toArray, List.map_cons, List.map_nil]); first | done | rfl | (simp only [List.length_drop, List.length_take]; rfl)) ?_; (with_reducible refine (udftag_seal.calls k a0 a1 a2 a3 2032 t230 t231 _ A5.out).mono ?_); rintro e w9 ⟨rfl, hb⟩; refine ⟨_, rfl, ?_⟩; have n0_ := Aside0.mk (below_step (by repeat (first | (with_reducible first | exact HB.out | apply below_alloc | apply pw_below_drewN | apply below_drew1) | exact HB.out)) hb); clear HB; have HB := n0_; clear n0_; (try clear hb); (try clear hb2); (try clear hk); (try clear hi)) | ((with_reducible refine gate_callee (f := 29) rfl ?_); refine goesL_ (some 27) rfl rfl Try.func29 (by kernel_rfl) rfl #[.string (⟨#[0]⟩ : ByteArray), .int .i64 (wrap64 (2048 - (t230.size : Int)))] rfl (by (try simp only [List.map_toArray, List.map_cons, List.map_nil]); first | done | rfl | (rw [show wrap64 (2048 - (t230.size : Int)) = 2048 - (t230.size : Int) from by unfold wrap64; omega]; rfl) | (simp only [List.length_drop, List.length_take]; rfl)) ?_; (first | (with_reducible refine (strings_Repeat.calls (⟨#[0]⟩ : ByteArray) (wrap64 (2048 - (t230.size : Int))) t232 _ A7.out).mono ?_) | (with_reducible refine (strings_Repeat.calls (⟨#[0]⟩ : ByteArray) (2048 - (t230.size : Int)) t232 _ (by have hwr_ : wrap64 (2048 - (t230.size : Int)) = 2048 - (t230.size : Int) := (by unfold wrap64; omega); rw [← hwr_]; exact A7.out)).mono ?_)); rintro e w10 ⟨rfl, hb⟩; refine ⟨_, rfl, ?_⟩; have n0_ := Aside0.mk (below_step (by repeat (first | (with_reducible first | exact HB.out | apply below_alloc | apply pw_below_drewN | apply below_drew1) | exact HB.out)) hb); clear HB; have HB := n0_; clear n0_; (try clear hb); (try clear hb2); (try clear hk); (try clear hi)))
   go_ret2
   exact ⟨by first | rfl | (simp [errW_none, errW_some] <;> rfl) | (simp [*, errW_none, errW_some] <;> rfl), by repeat (first | (with_reducible first | exact HB.out | apply below_alloc | apply pw_below_drewN | apply below_drew1) | exact HB.out)⟩
  ·rw [if_neg c8] at H
   exact absurd H (by simp)
 ·rw [if_neg c6] at H
  have c6b0 : (t231 == 0) = false := beq_eq_false_iff_ne.mpr c6
  have c6b1 : (t231 != 0) = true := bne_iff_ne.mpr c6
  simp only [Option.some.injEq, Prod.mk.injEq] at H
  obtain ⟨rfl, rfl⟩ := H
  go_enter Try.func33, Try.ntmps33
  go_wp2_with (first | ((with_reducible refine gate_callee (f := 58) rfl ?_); refine goesL_ (some 17) rfl rfl Try.func58 (by kernel_rfl) rfl #[.int .i64 a0, .int .i64 a1, .int .i64 a2, .string a3, .int .i64 2032] rfl (by (try simp only [List.map_toArray, List.map_cons, List.map_nil]); first | done | rfl | (simp only [List.length_drop, List.length_take]; rfl)) ?_; (with_reducible refine (udftag_seal.calls k a0 a1 a2 a3 2032 t230 t231 _ A5.out).mono ?_); rintro e w11 ⟨rfl, hb⟩; refine ⟨_, rfl, ?_⟩; have n0_ := Aside0.mk (below_step (by repeat (first | (with_reducible first | exact HB.out | apply below_alloc | apply pw_below_drewN | apply below_drew1) | exact HB.out)) hb); clear HB; have HB := n0_; clear n0_; (try clear hb); (try clear hb2); (try clear hk); (try clear hi)))
  go_ret2
  exact ⟨by first | rfl | (simp [errW_none, errW_some] <;> rfl) | (simp [*, errW_none, errW_some] <;> rfl), by repeat (first | (with_reducible first | exact HB.out | apply below_alloc | apply pw_below_drewN | apply below_drew1) | exact HB.out)⟩

end Go.Proofs.Yticmghpnbjhhnab.M
