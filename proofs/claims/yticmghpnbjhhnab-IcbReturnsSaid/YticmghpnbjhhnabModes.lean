/-
  Permissions and modes: what the functions of package icb compute.
-/
import Derived.Test.YticmghpnbjhhnabM3
import Derived.Test.YticmghpnbjhhnabM3
import Derived.Test.YticmghpnbjhhnabNum
namespace Go.Proofs.Yticmghpnbjhhnab.Modes
open Go.RowKit Go.Proofs.Yticmghpnbjhhnab.M Go.Proofs.YticmghpnbjhhnabW.PrintWords Go.Proofs.YticmghpnbjhhnabW.PrintLast Go.Proofs.YticmghpnbjhhnabW.PrintMore Go.Proofs.Yticmghpnbjhhnab.Kit Go.Proofs.Yticmghpnbjhhnab.Num
set_option linter.unusedVariables false

theorem within_is (a b c : Int) : icb_within.f a b c = some (decide (b ≤ a ∧ a ≤ c)) := by
  unfold icb_within.f
  by_cases h : a ≥ b
  · rw [if_pos h]; congr 1; exact decide_eq_decide.mpr (by omega)
  · rw [if_neg h]; congr 1; exact (decide_eq_false (by omega)).symm
theorem or_add (x y : Int) (i : Nat) (hx : 0 ≤ x ∧ x < 2 ^ i) (hy : y % 2 ^ i = 0) (h0 : 0 ≤ y) (h1 : y < 2 ^ 63) (h2 : x < 2 ^ 63) : bits .or .i64 x y = x + y := by
  have e : bits .or .i64 x y = bits .or .i64 y x := by simp only [bits, BitVec.or_comm]
  rw [e, bits_join .i64 63 (by decide) i64_wraps i y x h0 hy h1 hx.1 hx.2 h2]
  omega
theorem and_7 (n : Int) (h0 : 0 ≤ n) (h1 : n < 2 ^ 63) : bits .and .i64 n 7 = n % 8 := bits_mask .i64 63 (by decide) i64_wraps 3 (by decide) n h0 h1
theorem and_1 (n : Int) (h0 : 0 ≤ n) (h1 : n < 2 ^ 63) : bits .and .i64 n 1 = n % 2 := bits_mask .i64 63 (by decide) i64_wraps 1 (by decide) n h0 h1
theorem nat_and_pow (a i : Nat) : a &&& 2 ^ i = 0 ↔ a / 2 ^ i % 2 = 0 := by
  have h := Nat.testBit_eq_decide_div_mod_eq (x := a) (i := i)
  constructor
  · intro e
    have e2 := congrArg (fun n => n.testBit i) e
    simp only [Nat.testBit_and, Nat.testBit_two_pow_self, Bool.and_true, Nat.zero_testBit, h, decide_eq_false_iff_not] at e2
    omega
  · intro e
    apply Nat.eq_of_testBit_eq
    intro j
    rw [Nat.testBit_and, Nat.zero_testBit, Nat.testBit_two_pow]
    by_cases hj : i = j
    · subst hj
      rw [h, decide_eq_false (by omega)]
      rfl
    · simp [hj]
theorem and_pow (n : Int) (i : Nat) (hi : i < 63) (h0 : 0 ≤ n) (h1 : n < 2 ^ 63) : bits .and .i64 n (2 ^ i) = 0 ↔ n / 2 ^ i % 2 = 0 := by
  obtain ⟨a, rfl⟩ := Int.eq_ofNat_of_zero_le h0
  have ha : a < 2 ^ 63 := by exact_mod_cast h1
  have hb : 2 ^ i < 2 ^ 63 := Nat.pow_lt_pow_right (by decide) hi
  have e := (bits_nat .i64 63 (by decide) i64_wraps a (2 ^ i) ha hb).1
  rw [show ((2 ^ i : Nat) : Int) = 2 ^ i from by simp] at e
  rw [e]
  have := nat_and_pow a i
  constructor
  · intro h
    have h2 := this.1 (by exact_mod_cast h)
    exact_mod_cast h2
  · intro h
    have h2 := this.2 (by exact_mod_cast h)
    exact_mod_cast h2

/-- The permissions of a class with some bits. -/
def clsP (v : Int) : Int := if v / 2 % 2 = 1 then v + 24 else v
def permsP (n : Int) : Int := clsP (n % 8) + 32 * clsP (n / 8 % 8) + 1024 * clsP (n / 64 % 8)
def flagsP (n : Int) : Int := 64 * (n / 2048 % 2) + 128 * (n / 1024 % 2) + 256 * (n / 512 % 2)
theorem clsP_range (v : Int) (h : 0 ≤ v ∧ v < 8) : 0 ≤ clsP v ∧ clsP v < 32 := by unfold clsP; split <;> omega
theorem cls_step {α : Type} (v : Int) (h : 0 ≤ v ∧ v < 8) (A : Int → α) : (if bits .and .i64 v 2 = 0 then A v else A (bits .or .i64 v 24)) = A (clsP v) := by
  have e1 := and_pow v 1 (by decide) h.1 (by omega)
  rw [show (2 : Int) ^ 1 = 2 from rfl] at e1
  unfold clsP
  by_cases c : v / 2 % 2 = 0
  · rw [if_pos (e1.2 c), if_neg (by omega)]
  · rw [if_neg (fun h => c (e1.1 h)), if_pos (by omega), or_add v 24 3 (by omega) (by decide) (by decide) (by decide) (by omega)]
theorem shr3 (n : Int) (c s : Nat) (h : c * s ≤ 60) : shr .i64 n (wrap64 ((s : Int) * (c : Int))) = n / 2 ^ (s * c) := by
  unfold shr
  have hh : s * c ≤ 60 := by rw [Nat.mul_comm]; exact h
  rw [show (s : Int) * (c : Int) = ((s * c : Nat) : Int) from by simp, wr (by omega)]
  have e : min (((s * c : Nat) : Int)).toNat IntKind.i64.bits = s * c := by simp only [IntKind.bits]; omega
  rw [e]
theorem shl3 (v : Int) (c s : Nat) (h : c * s ≤ 12) (hv : 0 ≤ v ∧ v < 64) : shl .i64 v (wrap64 ((s : Int) * (c : Int))) = v * 2 ^ (s * c) := by
  unfold shl
  have hh : s * c ≤ 12 := by rw [Nat.mul_comm]; exact h
  rw [show (s : Int) * (c : Int) = ((s * c : Nat) : Int) from by simp, wr (by omega)]
  have e : min (((s * c : Nat) : Int)).toNat IntKind.i64.bits = s * c := by simp only [IntKind.bits]; omega
  rw [e]
  have hp : (2 : Int) ^ (s * c) ≤ 2 ^ 12 := by exact_mod_cast Nat.pow_le_pow_right (by decide) hh
  have hp0 : (0 : Int) < 2 ^ (s * c) := Int.pow_pos (by omega)
  have h1 : 0 ≤ v * 2 ^ (s * c) := Int.mul_nonneg hv.1 (by omega)
  have h2 : v * 2 ^ (s * c) ≤ 64 * 2 ^ 12 := Int.mul_le_mul (by omega) hp (by omega) (by omega)
  exact i64_wraps _ h1 (by omega)
theorem perm_step (n : Int) (hn : 0 ≤ n ∧ n ≤ 4095) (x : Int) (c k : Nat) (hc : c < 3) (hx : 0 ≤ x ∧ x < 2 ^ (5 * c)) :
    icb_Permissions.l0 (k + 1) n x (c : Int) = icb_Permissions.l0 k n (x + clsP (n / 2 ^ (3 * c) % 8) * 2 ^ (5 * c)) ((c + 1 : Nat) : Int) := by
  have p3 : 0 ≤ wrap64 (3 * (c : Int)) := by rw [wr (by omega)]; omega
  have p5 : 0 ≤ wrap64 (5 * (c : Int)) := by rw [wr (by omega)]; omega
  have hc3 : (c : Int) < 3 := by omega
  have hw : wrap64 ((c : Int) + 1) = ((c + 1 : Nat) : Int) := by rw [wr (by omega)]; omega
  have hb : (2 : Int) ^ (5 * c) ≤ 1024 := by rcases (by omega : c = 0 ∨ c = 1 ∨ c = 2) with rfl | rfl | rfl <;> decide
  have hp0 : (0 : Int) < 2 ^ (5 * c) := Int.pow_pos (by omega)
  have hr : 0 ≤ n / 2 ^ (3 * c) % 8 ∧ n / 2 ^ (3 * c) % 8 < 8 := by omega
  have hq := clsP_range _ hr
  have m0 : 0 ≤ clsP (n / 2 ^ (3 * c) % 8) * 2 ^ (5 * c) := Int.mul_nonneg hq.1 (by omega)
  have m1 : clsP (n / 2 ^ (3 * c) % 8) * 2 ^ (5 * c) ≤ 32 * 1024 := Int.mul_le_mul (by omega) hb (by omega) (by omega)
  have o1 := or_add x (clsP (n / 2 ^ (3 * c) % 8) * 2 ^ (5 * c)) (5 * c) hx (Int.mul_emod_left _ _) m0 (by omega) (by omega)
  have g0 : (0 : Int) < 2 ^ (3 * c) := Int.pow_pos (by omega)
  have g1 : 0 ≤ n / 2 ^ (3 * c) := Int.ediv_nonneg (by omega) (by omega)
  have g2 : n / 2 ^ (3 * c) ≤ n := Int.ediv_le_self _ (by omega)
  have a7 := and_7 (n / 2 ^ (3 * c)) g1 (by omega)
  have hsh := shl3 (clsP (n / 2 ^ (3 * c) % 8)) c 5 (by omega) (by omega)
  have e3 := shr3 n c 3 (by omega)
  have hs := cls_step (n / 2 ^ (3 * c) % 8) hr (fun v => icb_Permissions.l0 k n (bits .or .i64 x (shl .i64 v (wrap64 (5 * (c : Int))))) (wrap64 ((c : Int) + 1)))
  rw [show ((3 : Nat) : Int) = 3 from rfl] at e3
  rw [show ((5 : Nat) : Int) = 5 from rfl] at hsh
  rw [icb_Permissions.l0, if_pos hc3, if_pos p3, e3, a7, if_pos p5, if_pos p5]
  rw [hs, hsh, o1, hw]
theorem permissions_is (n : Int) (hn : 0 ≤ n ∧ n ≤ 4095) (k : Nat) (hk : 4 < k) : icb_Permissions.f k n = some (permsP n, flagsP n) := by
  obtain ⟨k, rfl⟩ : ∃ j, k = j + 4 := ⟨k - 4, by omega⟩
  unfold icb_Permissions.f
  rw [within_is, decide_eq_true (by omega)]
  simp only [Option.bind_some, if_true]
  have q0 := clsP_range (n / 2 ^ (3 * 0) % 8) (by omega)
  have q1 := clsP_range (n / 2 ^ (3 * 1) % 8) (by omega)
  have s0 := perm_step n hn 0 0 (k + 3) (by omega) (by simp)
  have s1 := perm_step n hn (0 + clsP (n / 2 ^ (3 * 0) % 8) * 2 ^ (5 * 0)) 1 (k + 2) (by omega) (by omega)
  have s2 := perm_step n hn (0 + clsP (n / 2 ^ (3 * 0) % 8) * 2 ^ (5 * 0) + clsP (n / 2 ^ (3 * 1) % 8) * 2 ^ (5 * 1)) 2 (k + 1) (by omega) (by omega)
  rw [show ((0 : Nat) : Int) = 0 from rfl] at s0
  rw [s0, s1, s2, icb_Permissions.l0, if_neg (by decide)]
  have f0 := and_1 (n / 2048) (by omega) (by omega)
  have f1 := and_1 (n / 1024) (by omega) (by omega)
  have f2 := and_1 (n / 512) (by omega) (by omega)
  rw [f0, f1, f2, wr (n := n / 2048 % 2 * 64) (by omega), wr (n := n / 1024 % 2 * 128) (by omega), wr (n := n / 512 % 2 * 256) (by omega)]
  rw [or_add (n / 2048 % 2 * 64) (n / 1024 % 2 * 128) 7 (by omega) (by omega) (by omega) (by omega) (by omega), or_add (n / 2048 % 2 * 64 + n / 1024 % 2 * 128) (n / 512 % 2 * 256) 8 (by omega) (by omega) (by omega) (by omega) (by omega)]
  unfold permsP flagsP
  simp only [Nat.mul_zero, Nat.mul_one, Int.pow_zero, Int.ediv_one, Int.mul_one, Int.zero_add]
  rw [show (2 : Int) ^ 3 = 8 from rfl, show (2 : Int) ^ 5 = 32 from rfl, show (2 : Int) ^ (3 * 2) = 64 from rfl, show (2 : Int) ^ (5 * 2) = 1024 from rfl]
  congr 2 <;> omega
theorem permissions_out (n : Int) (hn : ¬ (0 ≤ n ∧ n ≤ 4095)) (k : Nat) : icb_Permissions.f k n = some (0, 0) := by
  unfold icb_Permissions.f
  rw [within_is, decide_eq_false hn]
  rfl
def modeP (p f : Int) : Int := p % 8 + 8 * (p / 32 % 8) + 64 * (p / 1024 % 8) + 2048 * (f / 64 % 2) + 1024 * (f / 128 % 2) + 512 * (f / 256 % 2)
def modeOk (p f : Int) : Bool := decide ((0 ≤ p ∧ p ≤ 4294967295) ∧ 0 ≤ f ∧ f ≤ 65535)
theorem mode_step (p f x : Int) (hp : 0 ≤ p ∧ p ≤ 4294967295) (c k : Nat) (hc : c < 3) (hx : 0 ≤ x ∧ x < 2 ^ (3 * c)) :
    icb_Mode.l0 (k + 1) p f x (c : Int) = icb_Mode.l0 k p f (x + p / 2 ^ (5 * c) % 8 * 2 ^ (3 * c)) ((c + 1 : Nat) : Int) := by
  have p3 : 0 ≤ wrap64 (3 * (c : Int)) := by rw [wr (by omega)]; omega
  have p5 : 0 ≤ wrap64 (5 * (c : Int)) := by rw [wr (by omega)]; omega
  have hc3 : (c : Int) < 3 := by omega
  have hw : wrap64 ((c : Int) + 1) = ((c + 1 : Nat) : Int) := by rw [wr (by omega)]; omega
  have hb : (2 : Int) ^ (3 * c) ≤ 64 := by rcases (by omega : c = 0 ∨ c = 1 ∨ c = 2) with rfl | rfl | rfl <;> decide
  have hp0 : (0 : Int) < 2 ^ (3 * c) := Int.pow_pos (by omega)
  have hr : 0 ≤ p / 2 ^ (5 * c) % 8 ∧ p / 2 ^ (5 * c) % 8 < 8 := by omega
  have m0 : 0 ≤ p / 2 ^ (5 * c) % 8 * 2 ^ (3 * c) := Int.mul_nonneg hr.1 (by omega)
  have m1 : p / 2 ^ (5 * c) % 8 * 2 ^ (3 * c) ≤ 8 * 64 := Int.mul_le_mul (by omega) hb (by omega) (by omega)
  have o1 := or_add x (p / 2 ^ (5 * c) % 8 * 2 ^ (3 * c)) (3 * c) hx (Int.mul_emod_left _ _) m0 (by omega) (by omega)
  have g0 : (0 : Int) < 2 ^ (5 * c) := Int.pow_pos (by omega)
  have g1 : 0 ≤ p / 2 ^ (5 * c) := Int.ediv_nonneg (by omega) (by omega)
  have g2 : p / 2 ^ (5 * c) ≤ p := Int.ediv_le_self _ (by omega)
  have a7 := and_7 (p / 2 ^ (5 * c)) g1 (by omega)
  have hsh := shl3 (p / 2 ^ (5 * c) % 8) c 3 (by omega) (by omega)
  have e3 := shr3 p c 5 (by omega)
  rw [show ((5 : Nat) : Int) = 5 from rfl] at e3
  rw [show ((3 : Nat) : Int) = 3 from rfl] at hsh
  rw [icb_Mode.l0, if_pos hc3, if_pos p5, if_pos p3, e3, a7, hsh, o1, hw]
theorem nat_or_pow (a j : Nat) (h : a / 2 ^ j % 2 = 0) : a ||| 2 ^ j = a + 2 ^ j := by
  have hp : 0 < 2 ^ j := Nat.two_pow_pos j
  have e1 := Nat.div_add_mod a (2 ^ j)
  have e2 := Nat.div_add_mod (a / 2 ^ j) 2
  have hr := Nat.mod_lt a hp
  have ea : a = 2 ^ (j + 1) * (a / 2 ^ j / 2) + a % 2 ^ j := by
    rw [Nat.pow_succ, Nat.mul_assoc]
    rw [h, Nat.add_zero] at e2
    rw [e2]
    exact e1.symm
  have hr2 : a % 2 ^ j < 2 ^ (j + 1) := by rw [Nat.pow_succ]; omega
  have k1 := Nat.two_pow_add_eq_or_of_lt hr2 (a / 2 ^ j / 2)
  have k2 := Nat.two_pow_add_eq_or_of_lt hr 1
  rw [Nat.mul_one] at k2
  have hs : 2 ^ j + a % 2 ^ j < 2 ^ (j + 1) := by rw [Nat.pow_succ]; omega
  have k3 := Nat.two_pow_add_eq_or_of_lt hs (a / 2 ^ j / 2)
  have g : a ||| 2 ^ j = 2 ^ (j + 1) * (a / 2 ^ j / 2) ||| (2 ^ j ||| a % 2 ^ j) := by
    rw [Nat.or_comm (2 ^ j), ← Nat.or_assoc, ← k1, ← ea]
  rw [g, ← k2, ← k3]
  omega
theorem or_pow (x : Int) (j : Nat) (hj : j < 62) (h0 : 0 ≤ x) (h1 : x < 2 ^ 62) (h : x / 2 ^ j % 2 = 0) : bits .or .i64 x (2 ^ j) = x + 2 ^ j := by
  obtain ⟨a, rfl⟩ := Int.eq_ofNat_of_zero_le h0
  have ha : a < 2 ^ 63 := by have : a < 2 ^ 62 := by exact_mod_cast h1
                             omega
  have hb : 2 ^ j < 2 ^ 63 := Nat.pow_lt_pow_right (by decide) (by omega)
  have e := (bits_nat .i64 63 (by decide) i64_wraps a (2 ^ j) ha hb).2
  rw [show ((2 ^ j : Nat) : Int) = 2 ^ j from by simp] at e
  rw [e, nat_or_pow a j (by exact_mod_cast h)]
  simp
def flag1 (f x : Int) (i : Nat) : Int := x + 2 ^ (11 - i) * (f / 2 ^ (6 + i) % 2)
theorem flag_step (f x : Int) (hf : 0 ≤ f ∧ f ≤ 65535) (i k : Nat) (hi : i < 3) (hx : 0 ≤ x ∧ x < 4096 ∧ x / 2 ^ (11 - i) % 2 = 0) :
    icb_Mode.l1 (k + 1) f x [64, 128, 256] 3 (i : Int) = icb_Mode.l1 k f (flag1 f x i) [64, 128, 256] 3 ((i + 1 : Nat) : Int) := by
  have hi3 : (i : Int) < 3 := by omega
  have hi0 : (0 : Int) ≤ (i : Int) := by omega
  have hl : (i : Int) < (([64, 128, 256] : List Int).length : Int) := by simp; omega
  have hrd : rd [64, 128, 256] (i : Int) = 2 ^ (6 + i) := by rcases (by omega : i = 0 ∨ i = 1 ∨ i = 2) with rfl | rfl | rfl <;> rfl
  have hand := and_pow f (6 + i) (by omega) hf.1 (by omega)
  have hsr : shr .i64 2048 (i : Int) = 2 ^ (11 - i) := by rcases (by omega : i = 0 ∨ i = 1 ∨ i = 2) with rfl | rfl | rfl <;> decide +kernel
  have hor := or_pow x (11 - i) (by omega) hx.1 (by omega) hx.2.2
  have hw : wrap64 ((i : Int) + 1) = ((i + 1 : Nat) : Int) := by rw [wr (by omega)]; omega
  rw [icb_Mode.l1, if_pos hi3, if_pos hi0, if_pos hl, hrd, hw]
  unfold flag1
  by_cases c : f / 2 ^ (6 + i) % 2 = 0
  · rw [if_pos (hand.2 c), c, Int.mul_zero, Int.add_zero]
  · rw [if_neg (fun h => c (hand.1 h)), hsr, hor]
    have h1 : f / 2 ^ (6 + i) % 2 = 1 := by clear hw; omega
    rw [h1, Int.mul_one]
theorem mode_is (p f : Int) (h : modeOk p f = true) (k : Nat) (hk : 10 < k) : icb_Mode.f k p f = some (modeP p f) := by
  obtain ⟨k, rfl⟩ : ∃ j, k = j + 9 := ⟨k - 9, by omega⟩
  unfold modeOk at h
  have hh := of_decide_eq_true h
  obtain ⟨hp, hf⟩ := hh
  unfold icb_Mode.f
  rw [within_is, decide_eq_true hp, Option.bind_some, if_pos rfl, within_is, decide_eq_true hf, Option.bind_some]
  rw [show (!true) = false from rfl, icb_Mode.j0, if_neg (by decide)]
  have s0 := mode_step p f 0 hp 0 (k + 7) (by omega) (by simp)
  have s1 := mode_step p f (0 + p / 2 ^ (5 * 0) % 8 * 2 ^ (3 * 0)) hp 1 (k + 6) (by omega) (by omega)
  have s2 := mode_step p f (0 + p / 2 ^ (5 * 0) % 8 * 2 ^ (3 * 0) + p / 2 ^ (5 * 1) % 8 * 2 ^ (3 * 1)) hp 2 (k + 5) (by omega) (by omega)
  rw [show ((0 : Nat) : Int) = 0 from rfl] at s0
  rw [s0, s1, s2, icb_Mode.l0, if_neg (by decide), Option.bind_some]
  rw [show (([64, 128, 256] : List Int).length : Int) = 3 from rfl]
  obtain ⟨x, hx⟩ : ∃ x, 0 + p / 2 ^ (5 * 0) % 8 * 2 ^ (3 * 0) + p / 2 ^ (5 * 1) % 8 * 2 ^ (3 * 1) + p / 2 ^ (5 * 2) % 8 * 2 ^ (3 * 2) = x := ⟨_, rfl⟩
  rw [hx]
  have x0 : 0 ≤ x ∧ x < 512 := by omega
  have f0 := flag_step f x hf 0 (k + 3) (by omega) (by omega)
  have g0 : flag1 f x 0 = x + 2048 * (f / 64 % 2) := rfl
  have f1 := flag_step f (flag1 f x 0) hf 1 (k + 2) (by omega) (by rw [g0]; omega)
  have g1 : flag1 f (flag1 f x 0) 1 = flag1 f x 0 + 1024 * (f / 128 % 2) := rfl
  have f2 := flag_step f (flag1 f (flag1 f x 0) 1) hf 2 (k + 1) (by omega) (by rw [g1, g0]; omega)
  have g2 : flag1 f (flag1 f (flag1 f x 0) 1) 2 = flag1 f (flag1 f x 0) 1 + 512 * (f / 256 % 2) := rfl
  rw [show ((0 : Nat) : Int) = 0 from rfl] at f0
  rw [f0, f1, f2, icb_Mode.l1, if_neg (by decide), g2, g1, g0]
  clear f0 f1 f2 g0 g1 g2 s0 s1 s2
  simp only [Nat.mul_zero, Nat.mul_one, Int.pow_zero, Int.ediv_one, Int.mul_one, Int.zero_add] at hx
  rw [show (2 : Int) ^ 3 = 8 from rfl, show (2 : Int) ^ 5 = 32 from rfl, show (2 : Int) ^ (3 * 2) = 64 from rfl, show (2 : Int) ^ (5 * 2) = 1024 from rfl] at hx
  unfold modeP
  congr 1
  omega
theorem mode_out (p f : Int) (h : modeOk p f = false) (k : Nat) (hk : 0 < k) : icb_Mode.f k p f = some 0 := by
  obtain ⟨k, rfl⟩ : ∃ j, k = j + 1 := ⟨k - 1, by omega⟩
  unfold modeOk at h
  have hh := of_decide_eq_false h
  unfold icb_Mode.f
  rw [within_is]
  by_cases c : 0 ≤ p ∧ p ≤ 4294967295
  · rw [decide_eq_true c, Option.bind_some, if_pos rfl, within_is, decide_eq_false (fun q => hh ⟨c, q⟩), Option.bind_some, show (!false) = true from rfl, icb_Mode.j0, if_pos rfl]
  · rw [decide_eq_false c, Option.bind_some, if_neg (by decide), icb_Mode.j0, if_pos rfl]
theorem modeP_back (n x : Int) (hn : 0 ≤ n ∧ n ≤ 4095) (hx : 0 ≤ x ∧ x < 64) : modeOk (permsP n) (flagsP n + x) = true ∧ modeP (permsP n) (flagsP n + x) = n := by
  have h0 : ∀ v : Int, 0 ≤ v ∧ v < 8 → clsP v % 8 = v ∧ 0 ≤ clsP v ∧ clsP v < 32 := by
    intro v hv
    unfold clsP
    split <;> omega
  have a := h0 (n % 8) (by omega)
  have b := h0 (n / 8 % 8) (by omega)
  have c := h0 (n / 64 % 8) (by omega)
  unfold modeOk modeP permsP flagsP
  clear h0
  generalize clsP (n % 8) = A at *
  generalize clsP (n / 8 % 8) = B at *
  generalize clsP (n / 64 % 8) = C at *
  refine ⟨decide_eq_true (by omega), ?_⟩
  have p1 : (A + 32 * B + 1024 * C) % 8 = n % 8 := by omega
  have p2 : (A + 32 * B + 1024 * C) / 32 % 8 = n / 8 % 8 := by
    rw [show (A + 32 * B + 1024 * C) / 32 = B + 32 * C from by omega]
    omega
  have p3 : (A + 32 * B + 1024 * C) / 1024 % 8 = n / 64 % 8 := by
    rw [show (A + 32 * B + 1024 * C) / 1024 = C from by omega]
    omega
  have h2 : 0 ≤ n / 2048 % 2 ∧ n / 2048 % 2 ≤ 1 := by omega
  have h1 : 0 ≤ n / 1024 % 2 ∧ n / 1024 % 2 ≤ 1 := by omega
  have h0 : 0 ≤ n / 512 % 2 ∧ n / 512 % 2 ≤ 1 := by omega
  have en : n = n % 8 + 8 * (n / 8 % 8) + 64 * (n / 64 % 8) + 2048 * (n / 2048 % 2) + 1024 * (n / 1024 % 2) + 512 * (n / 512 % 2) := by clear a b c p1 p2 p3 h2 h1 h0; omega
  rw [p1, p2, p3]
  clear p1 p2 p3 a b c
  generalize n / 2048 % 2 = s2 at *
  generalize n / 1024 % 2 = s1 at *
  generalize n / 512 % 2 = s0 at *
  have q1 : (64 * s2 + 128 * s1 + 256 * s0 + x) / 64 % 2 = s2 := by
    rw [show (64 * s2 + 128 * s1 + 256 * s0 + x) / 64 = s2 + 2 * s1 + 4 * s0 from by clear en; omega]
    clear en; omega
  have q2 : (64 * s2 + 128 * s1 + 256 * s0 + x) / 128 % 2 = s1 := by
    rw [show (64 * s2 + 128 * s1 + 256 * s0 + x) / 128 = s1 + 2 * s0 from by clear en; omega]
    clear en; omega
  have q3 : (64 * s2 + 128 * s1 + 256 * s0 + x) / 256 % 2 = s0 := by
    rw [show (64 * s2 + 128 * s1 + 256 * s0 + x) / 256 = s0 from by clear en; omega]
    clear en; omega
  rw [q1, q2, q3]
  exact en.symm
end Go.Proofs.Yticmghpnbjhhnab.Modes
