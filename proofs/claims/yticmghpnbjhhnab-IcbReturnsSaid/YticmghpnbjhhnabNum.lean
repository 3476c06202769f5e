/-
  Little-endian numbers: what the functions of package endian write and read.
-/
import Derived.Test.YticmghpnbjhhnabM4
import Derived.Test.YticmghpnbjhhnabM13
import Derived.Test.YticmghpnbjhhnabKit
namespace Go.Proofs.Yticmghpnbjhhnab.Num
open Go.RowKit Go.Proofs.Yticmghpnbjhhnab.M Go.Proofs.YticmghpnbjhhnabW.PrintWords Go.Proofs.YticmghpnbjhhnabW.PrintLast Go.Proofs.YticmghpnbjhhnabW.PrintMore Go.Proofs.Yticmghpnbjhhnab.Kit
set_option linter.unusedVariables false

/-- The bytes of a number, the least significant one first. -/
def le : Int → Nat → List UInt8
  | _, 0 => []
  | n, s + 1 => UInt8.ofNat (n % 256).toNat :: le (n / 256) s
/-- The number with some bytes. -/
def num : List UInt8 → Int
  | [] => 0
  | b :: l => (b.toNat : Int) + 256 * num l
theorem le_length (s : Nat) : ∀ n : Int, (le n s).length = s := by
  induction s with
  | zero => intro n; rfl
  | succ s ih => intro n; simp [le, ih]
theorem pow_succ256 (s : Nat) : (256 : Int) ^ (s + 1) = 256 * 256 ^ s := by rw [Int.pow_succ, Int.mul_comm]
theorem pow_pos256 (s : Nat) : (0 : Int) < 256 ^ s := Int.pow_pos (by omega)
theorem num_nonneg : ∀ l : List UInt8, 0 ≤ num l
  | [] => by simp [num]
  | b :: l => by have := num_nonneg l; simp only [num]; omega
theorem num_lt : ∀ l : List UInt8, num l < 256 ^ l.length
  | [] => by simp [num]
  | b :: l => by
    have := num_lt l
    have hb := b.toNat_lt
    simp only [num, List.length_cons, pow_succ256]
    omega
theorem byte_toNat (n : Int) : ((UInt8.ofNat (n % 256).toNat).toNat : Int) = n % 256 := by
  have : (n % 256).toNat < 256 := by omega
  rw [UInt8.toNat_ofNat']
  omega
theorem num_le (s : Nat) : ∀ n : Int, 0 ≤ n → n < 256 ^ s → num (le n s) = n := by
  induction s with
  | zero => intro n h0 h1; simp at h1; simp [le, num]; omega
  | succ s ih =>
    intro n h0 h1
    rw [pow_succ256] at h1
    simp only [le, num]
    rw [byte_toNat, ih (n / 256) (by omega) (by omega)]
    omega
theorem le_add (a b : Nat) : ∀ n : Int, le n (a + b) = le n a ++ le (n / 256 ^ a) b := by
  induction a with
  | zero => intro n; simp [le]
  | succ a ih =>
    intro n
    have e : a + 1 + b = (a + b) + 1 := by omega
    rw [e]
    simp only [le, List.cons_append]
    rw [ih, pow_succ256, Int.ediv_ediv_of_nonneg (by omega)]
theorem num_append (l m : List UInt8) : num (l ++ m) = num l + 256 ^ l.length * num m := by
  induction l with
  | nil => simp [num]
  | cons b l ih =>
    simp only [List.cons_append, num, ih, List.length_cons, pow_succ256, Int.mul_assoc, Int.mul_add]
    omega
theorem num_inj : ∀ (l m : List UInt8), l.length = m.length → num l = num m → l = m
  | [], [], _, _ => rfl
  | [], _ :: _, h, _ => by simp at h
  | _ :: _, [], h, _ => by simp at h
  | a :: l, b :: m, h, e => by
    simp only [num] at e
    have ha := a.toNat_lt
    have hb := b.toNat_lt
    have e1 : a.toNat = b.toNat := by omega
    have e2 : num l = num m := by omega
    rw [num_inj l m (by simpa using h) e2, UInt8.toNat_inj.1 e1]
theorem le_num (l : List UInt8) : le (num l) l.length = l :=
  num_inj _ _ (le_length _ _) (num_le _ _ (num_nonneg l) (num_lt l))
theorem le_zero (s : Nat) : le 0 s = List.replicate s 0 := by
  induction s with
  | zero => rfl
  | succ s ih => simp only [le, List.replicate_succ]; rw [show (0 : Int) / 256 = 0 from rfl, ih]; rfl

/-- A list of bytes as a string. -/
def bs (l : List UInt8) : ByteArray := ⟨l.toArray⟩
theorem bs_toList (l : List UInt8) : (bs l).data.toList = l := rfl
theorem bs_size (l : List UInt8) : (bs l).size = l.length := by simp [bs, ByteArray.size]
theorem bs_of (s : ByteArray) : bs s.data.toList = s := by cases s; simp [bs]
theorem bs_append (l m : List UInt8) : bs l ++ bs m = bs (l ++ m) := by
  apply ByteArray.ext
  simp [bs, ByteArray.data_append]
/-- Some bytes of a string from an offset on. -/
def sl (l : List UInt8) (at_ sz : Nat) : List UInt8 := (l.drop at_).take sz
theorem sl_length {l : List UInt8} {at_ sz : Nat} (h : at_ + sz ≤ l.length) : (sl l at_ sz).length = sz := by simp [sl]; omega
theorem sl_succ (l : List UInt8) (at_ i : Nat) (h : at_ + i < l.length) : sl l at_ (i + 1) = sl l at_ i ++ [l[at_ + i]] := by
  unfold sl
  rw [List.take_add_one]
  congr 1
  rw [List.getElem?_drop, List.getElem?_eq_getElem h]
  rfl

theorem wraps_u64 (n : Int) (h₀ : 0 ≤ n) (h₁ : n < 2 ^ 64) : IntKind.u64.wrap n = n := by
  simp [IntKind.wrap, IntKind.bits, IntKind.signed]; omega
theorem i64_wraps (n : Int) (h₀ : 0 ≤ n) (h₁ : n < 2 ^ 63) : IntKind.i64.wrap n = n := by rw [IntKind.wrap_i64]; omega
theorem shr_is (n : Int) (i : Nat) (h : i ≤ 7) : shr .i64 n (wrap64 (8 * (i : Int))) = n / 256 ^ i := by
  unfold shr
  rw [wr (n := 8 * (i : Int)) (by omega)]
  have e : min (8 * (i : Int)).toNat IntKind.i64.bits = 8 * i := by simp [IntKind.bits]; omega
  rw [e, Int.pow_mul]
  rfl
def bytesI (n : Int) (s : Nat) : List Int := (List.range s).map fun j => n / 256 ^ j % 256
theorem bytesI_le (s : Nat) : ∀ n : Int, (bytesI n s).map (fun n => UInt8.ofNat n.toNat) = le n s := by
  induction s with
  | zero => intro n; rfl
  | succ s ih =>
    intro n
    unfold bytesI at ih ⊢
    rw [List.range_succ_eq_map]
    simp only [List.map_cons, List.map_map, le]
    rw [← ih (n / 256)]
    congr 1
    · simp
    · simp only [List.map_map]
      apply List.map_congr_left
      intro j _
      simp only [Function.comp, Nat.succ_eq_add_one, pow_succ256]
      rw [Int.ediv_ediv_of_nonneg (by omega)]
theorem write_loop (n : Int) (sz : Nat) (hsz : sz ≤ 8) (d : Nat) : ∀ (i k : Nat), i + d = sz → d < k → endian_write_at_endian_up_1.l0 k n (bytesI n i ++ List.replicate d 0) (sz : Int) (i : Int) = some (bs (le n sz)) := by
  induction d with
  | zero =>
    intro i k hi hk
    obtain ⟨k, rfl⟩ : ∃ m, k = m + 1 := ⟨k - 1, by omega⟩
    simp only [endian_write_at_endian_up_1.l0]
    obtain rfl : i = sz := by omega
    rw [if_neg (by omega)]
    simp only [List.replicate_zero, List.append_nil, strOfNums, bytesI_le, bs]
  | succ d ih =>
    intro i k hi hk
    obtain ⟨k, rfl⟩ : ∃ m, k = m + 1 := ⟨k - 1, by omega⟩
    have hl : (bytesI n i).length = i := by simp [bytesI]
    have hlt : (i : Int) < ((bytesI n i ++ List.replicate (d + 1) 0).length : Int) := by simp [hl]; omega
    have e : (bytesI n i ++ List.replicate (d + 1) 0).set (i : Int).toNat (n / 256 ^ i % 256) = bytesI n (i + 1) ++ List.replicate d 0 := by
      rw [show (i : Int).toNat = i from rfl, List.set_append_right _ _ (by omega), hl, Nat.sub_self, List.replicate_succ, List.set_cons_zero]
      unfold bytesI
      rw [List.range_succ, List.map_append]
      simp
    have h8 : 0 ≤ wrap64 (8 * (i : Int)) := by rw [wr (by omega)]; omega
    rw [endian_write_at_endian_up_1.l0, if_pos (by omega), show endian_up_1.f (i : Int) = some (i : Int) from rfl, Option.bind_some, if_pos h8, if_pos (by omega), if_pos hlt, shr_is n i (by omega), wr (n := (i : Int) + 1) (by omega), e]
    exact ih (i + 1) k (by omega) (by omega)
theorem shl_one (sz : Nat) (h : sz ≤ 7) : shl .i64 1 (wrap64 (8 * (sz : Int))) = 256 ^ sz := by
  rcases (by omega : sz = 0 ∨ sz = 1 ∨ sz = 2 ∨ sz = 3 ∨ sz = 4 ∨ sz = 5 ∨ sz = 6 ∨ sz = 7) with rfl | rfl | rfl | rfl | rfl | rfl | rfl | rfl <;> decide +kernel
theorem check_is (n : Int) (sz : Nat) (h1 : 1 ≤ sz) (h8 : sz ≤ 8) (h0 : 0 ≤ n) (hn : n < 256 ^ sz ∨ sz = 8) (k : Nat) (hk : 0 < k) : endian_check.f k n (sz : Int) = some 0 := by
  obtain ⟨k, rfl⟩ : ∃ m, k = m + 1 := ⟨k - 1, by omega⟩
  unfold endian_check.f
  rw [if_neg (by omega), decide_eq_false (by omega)]
  simp only [endian_check.j0, Bool.false_eq_true, if_false]
  unfold endian_fits.f
  rw [if_pos h0]
  by_cases h : sz = 8
  · rw [if_pos (by omega)]
    rfl
  · rw [if_neg (by omega), if_pos (by rw [wr (by omega)]; omega), shl_one sz (by omega), decide_eq_true (by rcases hn with hn | hn; exact hn; omega)]
    rfl
theorem little_is (n : Int) (sz : Nat) (h1 : 1 ≤ sz) (h8 : sz ≤ 8) (h0 : 0 ≤ n) (hn : n < 256 ^ sz ∨ sz = 8) (k : Nat) (hk : 9 < k) : endian_Little.f k n (sz : Int) = some (bs (le n sz), 0) := by
  unfold endian_Little.f
  rw [check_is n sz h1 h8 h0 hn k (by omega)]
  simp only [Option.bind_some, if_true, endian_up.f]
  unfold endian_write_at_endian_up_1.f
  rw [if_pos (by omega), if_pos (by omega)]
  have := write_loop n sz h8 sz 0 k (by omega) (by omega)
  simp only [bytesI, List.range_zero, List.map_nil, List.nil_append] at this
  rw [show ((0 : Nat) : Int) = 0 from rfl] at this
  rw [show ((sz : Int)).toNat = sz from rfl, this]
  rfl

theorem bt_list (l : List UInt8) (i : Nat) (h : i < l.length) : bt (bs l) (i : Int) = (l[i].toNat : Int) := by
  have h' : (i : Int).toNat < (bs l).size := by rw [bs_size]; exact h
  rw [← bt_at (bs l) (i : Int) h']
  rfl
theorem or_high (x v : Int) (i : Nat) (hi : i ≤ 6) (hx : 0 ≤ x ∧ x < 256 ^ i) (hv : 0 ≤ v ∧ v < 256) : bits .or .u64 x (shl .u64 (IntKind.u64.wrap v) (wrap64 (8 * (i : Int)))) = x + 256 ^ i * v := by
  have e1 : IntKind.u64.wrap v = v := wraps_u64 v hv.1 (by omega)
  have e2 : shl .u64 v (wrap64 (8 * (i : Int))) = v * 256 ^ i := by
    unfold shl
    rw [wr (n := 8 * (i : Int)) (by omega)]
    have e : min (8 * (i : Int)).toNat IntKind.u64.bits = 8 * i := by simp [IntKind.bits]; omega
    rw [e, Int.pow_mul, show ((2 : Int) ^ 8) = 256 from rfl]
    rcases (by omega : i = 0 ∨ i = 1 ∨ i = 2 ∨ i = 3 ∨ i = 4 ∨ i = 5 ∨ i = 6) with rfl | rfl | rfl | rfl | rfl | rfl | rfl <;> exact wraps_u64 _ (by omega) (by omega)
  rw [e1, e2]
  have e : bits .or .u64 x (v * 256 ^ i) = bits .or .u64 (v * 256 ^ i) x := by simp only [bits, BitVec.or_comm]
  rw [e]
  have hp : (256 : Int) ^ i = 2 ^ (8 * i) := by rw [Int.pow_mul]; rfl
  rw [bits_join .u64 64 (by decide) wraps_u64 (8 * i) (v * 256 ^ i) x]
  · rw [Int.mul_comm, Int.add_comm]
  · rcases (by omega : i = 0 ∨ i = 1 ∨ i = 2 ∨ i = 3 ∨ i = 4 ∨ i = 5 ∨ i = 6) with rfl | rfl | rfl | rfl | rfl | rfl | rfl <;> omega
  · rw [hp]; exact Int.mul_emod_left _ _
  · rcases (by omega : i = 0 ∨ i = 1 ∨ i = 2 ∨ i = 3 ∨ i = 4 ∨ i = 5 ∨ i = 6) with rfl | rfl | rfl | rfl | rfl | rfl | rfl <;> omega
  · exact hx.1
  · rw [← hp]; exact hx.2
  · rcases (by omega : i = 0 ∨ i = 1 ∨ i = 2 ∨ i = 3 ∨ i = 4 ∨ i = 5 ∨ i = 6) with rfl | rfl | rfl | rfl | rfl | rfl | rfl <;> omega
theorem read_loop (l : List UInt8) (at_ sz : Nat) (hl : l.length ≤ 4611686018427387904) (hsz : sz ≤ 7) (hat : at_ + sz ≤ l.length) (d : Nat) : ∀ (i k : Nat), i + d = sz → d < k →
    endian_read_at_endian_up_1.l0 k (bs l) (at_ : Int) (num (sl l at_ i)) (sz : Int) (i : Int) = some (num (sl l at_ sz), 0) := by
  induction d with
  | zero =>
    intro i k hi hk
    obtain ⟨k, rfl⟩ : ∃ m, k = m + 1 := ⟨k - 1, by omega⟩
    obtain rfl : i = sz := by omega
    simp only [endian_read_at_endian_up_1.l0]
    have h0 := num_nonneg (sl l at_ i)
    have h1 := num_lt (sl l at_ i)
    rw [sl_length hat] at h1
    have h2 : (256 : Int) ^ i ≤ 72057594037927936 := by
      rcases (by omega : i = 0 ∨ i = 1 ∨ i = 2 ∨ i = 3 ∨ i = 4 ∨ i = 5 ∨ i = 6 ∨ i = 7) with rfl | rfl | rfl | rfl | rfl | rfl | rfl | rfl <;> decide
    rw [if_neg (by omega), if_neg (by omega), wr (by omega)]
  | succ d ih =>
    intro i k hi hk
    obtain ⟨k, rfl⟩ : ∃ m, k = m + 1 := ⟨k - 1, by omega⟩
    have hw : wrap64 ((at_ : Int) + (i : Int)) = ((at_ + i : Nat) : Int) := by rw [wr (by omega)]; omega
    have h0 := num_nonneg (sl l at_ i)
    have h1 := num_lt (sl l at_ i)
    rw [sl_length (by omega)] at h1
    have h8 : 0 ≤ wrap64 (8 * (i : Int)) := by rw [wr (by omega)]; omega
    have h9 : 0 ≤ wrap64 ((at_ : Int) + (i : Int)) := by rw [hw]; omega
    have h10 : wrap64 ((at_ : Int) + (i : Int)) < ((bs l).size : Int) := by rw [hw, bs_size]; omega
    have hb := (l[at_ + i]).toNat_lt
    have ho := or_high _ ((l[at_ + i]).toNat : Int) i (by omega) ⟨h0, h1⟩ ⟨Int.natCast_nonneg _, by omega⟩
    have e : num (sl l at_ i) + 256 ^ i * ((l[at_ + i]).toNat : Int) = num (sl l at_ (i + 1)) := by
      rw [sl_succ l at_ i (by omega), num_append, sl_length (by omega)]
      simp [num]
    have hwi : wrap64 ((i : Int) + 1) = (i : Int) + 1 := wr (by omega)
    have hii : (i : Int) < (sz : Int) := by omega
    have hr := ih (i + 1) k (by omega) (by omega)
    rw [endian_read_at_endian_up_1.l0, if_pos hii, show endian_up_1.f (i : Int) = some (i : Int) from rfl, Option.bind_some, if_pos h9, if_pos h10, if_pos h8, hw, bt_list l (at_ + i) (by omega), ho, hwi, e]
    exact hr
theorem readLittle_is (l : List UInt8) (at_ sz : Nat) (hl : l.length ≤ 4611686018427387904) (h1 : 1 ≤ sz) (hsz : sz ≤ 7) (hat : at_ + sz ≤ l.length) (k : Nat) (hk : 9 < k) :
    endian_ReadLittle.f k (bs l) (at_ : Int) (sz : Int) = some (num (sl l at_ sz), 0) := by
  obtain ⟨k, rfl⟩ : ∃ m, k = m + 1 := ⟨k - 1, by omega⟩
  unfold endian_ReadLittle.f endian_read_at_endian_up_1.f
  simp only [endian_up.f, Option.bind_some]
  rw [if_neg (by omega), decide_eq_false (by omega)]
  simp only [endian_read_at_endian_up_1.j0, Bool.false_eq_true, if_false]
  unfold endian_inside.f
  rw [if_pos (by omega), wr (by rw [bs_size]; omega), decide_eq_true (by rw [bs_size]; omega)]
  simp only [Option.bind_some, if_true]
  have := read_loop l at_ sz hl hsz hat sz 0 k (by omega) (by omega)
  simp only [sl, List.take_zero, num] at this
  rw [show ((0 : Nat) : Int) = 0 from rfl] at this
  rw [this]
  rfl
end Go.Proofs.Yticmghpnbjhhnab.Num
