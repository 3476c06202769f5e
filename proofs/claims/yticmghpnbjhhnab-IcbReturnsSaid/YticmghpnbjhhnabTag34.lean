/-
  Block of package udftag: the block of a body.
-/
import Derived.Test.YticmghpnbjhhnabM10
import Derived.Test.YticmghpnbjhhnabNum
namespace Go.Proofs.Yticmghpnbjhhnab.Tag
open Go.RowKit Go.Proofs.Yticmghpnbjhhnab.M Go.Proofs.YticmghpnbjhhnabW.PrintWords Go.Proofs.YticmghpnbjhhnabW.PrintLast Go.Proofs.YticmghpnbjhhnabW.PrintMore Go.Proofs.Yticmghpnbjhhnab.Kit Go.Proofs.Yticmghpnbjhhnab.Num
set_option linter.unusedVariables false

theorem bits16 (x y : Int) : 0 ≤ Go.bits .xor .u16 x y ∧ Go.bits .xor .u16 x y < 65536 := by
  have e : ∀ z : Int, IntKind.u16.wrap z = z % 65536 := fun z => rfl
  unfold Go.bits
  split <;> rw [e] <;> omega
theorem crcL_range (l : List UInt8) : ∀ c : Int, 0 ≤ c → c < 65536 → 0 ≤ crcL l c ∧ crcL l c < 65536 := by
  induction l with
  | nil => intro c h0 h1; exact ⟨h0, h1⟩
  | cons b l ih => intro c _ _; exact ih _ (bits16 _ _).1 (bits16 _ _).2
theorem crc_is (l : List UInt8) (h : l.length ≤ 4611686018427387904) : checksum_CRC16.f (bs l) = some (crcL l 0) := by
  unfold checksum_CRC16.f checksum_ExtendCRC16.f
  rw [if_pos (by rw [bs_size]; omega)]
  rfl
/-- The sum of some bytes. -/
def sumL : List UInt8 → Int → Int
  | [], s => s
  | b :: l, s => sumL l ((s + (b.toNat : Int)) % 256)
theorem sumL_range (l : List UInt8) : ∀ s : Int, 0 ≤ s → s < 256 → 0 ≤ sumL l s ∧ sumL l s < 256 := by
  induction l with
  | nil => intro s h0 h1; exact ⟨h0, h1⟩
  | cons b l ih => intro s _ _; exact ih _ (by omega) (by omega)
theorem bt_mid (pre : List UInt8) (b : UInt8) (rest : List UInt8) : bt (bs (pre ++ b :: rest)) (pre.length : Int) = (b.toNat : Int) := by
  rw [bt_list _ pre.length (by simp)]
  simp
theorem sum8_loop (rest : List UInt8) : ∀ (pre : List UInt8) (s : Int) (k : Nat), rest.length < k → (pre ++ rest).length ≤ 4611686018427387904 →
    checksum_Sum8.l0 k (bs (pre ++ rest)) s ((pre ++ rest).length : Int) (pre.length : Int) = some (sumL rest s) := by
  induction rest with
  | nil =>
    intro pre s k hk hb
    obtain ⟨k, rfl⟩ : ∃ m, k = m + 1 := ⟨k - 1, by omega⟩
    simp only [checksum_Sum8.l0]
    rw [if_neg (not_lt_end pre)]
    rfl
  | cons x rest ih =>
    intro pre s k hk hb
    obtain ⟨k, rfl⟩ : ∃ m, k = m + 1 := ⟨k - 1, by omega⟩
    have hp : (0 : Int) ≤ (pre.length : Int) := by omega
    have := ih (pre ++ [x]) ((s + (x.toNat : Int)) % 256) k (by simp at hk; omega) (by simpa using hb)
    rw [← push] at this
    rw [checksum_Sum8.l0, if_pos (lt_mid pre rest x), if_pos hp, if_pos (by rw [bs_size]; exact lt_mid pre rest x), bt_mid, next pre rest x (by omega), this]
    rfl
theorem sum8_is (l : List UInt8) (hb : l.length ≤ 4611686018427387904) (k : Nat) (hk : l.length < k) : checksum_Sum8.f k (bs l) = some (sumL l 0) := by
  unfold checksum_Sum8.f
  have := sum8_loop l [] 0 k (by omega) (by simpa using hb)
  rw [bs_size]
  exact this
theorem bs_extract (l : List UInt8) (a b : Nat) : (bs l).extract a b = bs ((l.take b).drop a) := by
  apply ByteArray.ext
  simp [bs, ByteArray.data_extract, List.extract_toArray, List.extract_eq_take_drop, List.drop_take]
/-- The first twelve bytes but the sum: in front of it, behind it. -/
def tagA (id : Int) : List UInt8 := le id 2 ++ le 3 2
def tagB (loc : Int) (s : List UInt8) : List UInt8 := [0] ++ le 1 2 ++ le (crcL s 0) 2 ++ le (s.length : Int) 2 ++ le loc 4
def tagL (id loc : Int) (s : List UInt8) : List UInt8 := tagA id ++ [UInt8.ofNat (sumL (tagA id ++ tagB loc s) 0).toNat] ++ tagB loc s
theorem tagA_length (id : Int) : (tagA id).length = 4 := by simp [tagA, le_length]
theorem tagB_length (loc : Int) (s : List UInt8) : (tagB loc s).length = 11 := by simp [tagB, le_length]
theorem tagL_length (id loc : Int) (s : List UInt8) : (tagL id loc s).length = 16 := by simp [tagL, tagA_length, tagB_length]
theorem tlittle_is (n : Int) (sz : Nat) (h1 : 1 ≤ sz) (h8 : sz ≤ 8) (h0 : 0 ≤ n) (hn : n < 256 ^ sz) (k : Nat) (hk : 9 < k) : udftag_little.f k n (sz : Int) = some (bs (le n sz)) := by
  unfold udftag_little.f
  rw [little_is n sz h1 h8 h0 (Or.inl hn) k hk]
  rfl
theorem tfits_is (n : Int) (sz : Nat) (h8 : sz ≤ 7) (h0 : 0 ≤ n) (hn : n < 256 ^ sz) : udftag_fits.f n (sz : Int) = some true := by
  unfold udftag_fits.f udftag_most.f
  have h2 : (256 : Int) ^ sz ≤ 72057594037927936 := by
    rcases (by omega : sz = 0 ∨ sz = 1 ∨ sz = 2 ∨ sz = 3 ∨ sz = 4 ∨ sz = 5 ∨ sz = 6 ∨ sz = 7) with rfl | rfl | rfl | rfl | rfl | rfl | rfl | rfl <;> decide
  rw [if_pos h0, if_pos (by rw [wr (by omega)]; omega), shl_one sz h8, wr (by omega)]
  simp only [Option.bind_some]
  rw [decide_eq_true (by omega)]
/-- A head of 16 bytes with its sum. -/
theorem sum_is (p q : List UInt8) (z : UInt8) (hp : p.length = 4) (hq : q.length = 11) (rest : List UInt8) (hr : rest.length ≤ 4294967296) (k : Nat) (hk : 20 < k) :
    udftag_sum.f k (bs (p ++ z :: q ++ rest)) = some (sumL (p ++ q) 0) := by
  have e1 : (bs (p ++ z :: q ++ rest)).extract 0 4 = bs p := by
    rw [bs_extract, List.drop_zero, List.append_assoc, List.take_append_of_le_length (by omega), List.take_of_length_le (by omega)]
  have e2 : (bs (p ++ z :: q ++ rest)).extract 5 16 = bs q := by
    rw [bs_extract, List.take_append_of_le_length (by simp; omega), List.take_of_length_le (by simp; omega), List.drop_append, List.drop_of_length_le (by omega), hp]
    rfl
  have hs : ((bs (p ++ z :: q ++ rest)).size : Int) = 16 + rest.length := by rw [bs_size]; simp; omega
  unfold udftag_sum.f
  rw [if_pos (by omega), if_pos (by omega), if_pos (by omega), if_pos (by omega), e1, e2, if_pos (by simp only [bs_size]; omega), bs_append, sum8_is (p ++ q) (by simp; omega) k (by simp; omega)]
  rfl
theorem summed_is (p q : List UInt8) (z : UInt8) (hp : p.length = 4) (hq : q.length = 11) (k : Nat) (hk : 20 < k) :
    udftag_summed.f k (bs (p ++ z :: q)) = some (bs (p ++ [UInt8.ofNat (sumL (p ++ q) 0).toNat] ++ q)) := by
  have e1 : (bs (p ++ z :: q)).extract 0 4 = bs p := by
    rw [bs_extract, List.drop_zero, List.take_append_of_le_length (by omega), List.take_of_length_le (by omega)]
  have e2 : (bs (p ++ z :: q)).extract 5 (bs (p ++ z :: q)).size = bs q := by
    rw [bs_extract, bs_size, List.take_of_length_le (by omega), List.drop_append, List.drop_of_length_le (by omega), hp]
    rfl
  have hs : ((bs (p ++ z :: q)).size : Int) = 16 := by rw [bs_size]; simp; omega
  have h := sum_is p q z hp hq [] (by simp) k hk
  rw [List.append_nil] at h
  unfold udftag_summed.f
  have e3 : strOfNums [sumL (p ++ q) 0] = bs [UInt8.ofNat (sumL (p ++ q) 0).toNat] := rfl
  rw [if_pos (by omega), if_pos (by omega), h]
  simp only [Option.bind_some]
  rw [e1, e2, e3, if_pos (by simp [bs_size]; omega), if_pos (by omega), bs_append, if_pos (by simp [bs_size]; omega), bs_append]
theorem seal_is (id loc : Int) (s : List UInt8) (hid : 0 ≤ id ∧ id < 65536) (hl : 0 ≤ loc ∧ loc < 4294967296) (hs : s.length ≤ 2032) (k : Nat) (hk : 30 < k) :
    udftag_seal.f k id 1 loc (bs s) 2032 = some (bs (tagL id loc s ++ s), 0) := by
  obtain ⟨k, rfl⟩ : ∃ m, k = m + 1 := ⟨k - 1, by omega⟩
  have hk' : 9 < k := by omega
  obtain ⟨c0, c1⟩ := crcL_range s 0 (by omega) (by omega)
  have f1 : udftag_fits.f id 2 = some true := tfits_is id 2 (by omega) hid.1 (by omega)
  have f2 : udftag_fits.f 1 2 = some true := tfits_is 1 2 (by omega) (by omega) (by omega)
  have f3 : udftag_fits.f loc 4 = some true := tfits_is loc 4 (by omega) hl.1 (by omega)
  have l1 : udftag_little.f k id 2 = some (bs (le id 2)) := tlittle_is id 2 (by omega) (by omega) hid.1 (by omega) k hk'
  have l2 : udftag_little.f k 3 2 = some (bs (le 3 2)) := tlittle_is 3 2 (by omega) (by omega) (by omega) (by omega) k hk'
  have l3 : udftag_little.f k 1 2 = some (bs (le 1 2)) := tlittle_is 1 2 (by omega) (by omega) (by omega) (by omega) k hk'
  have l4 : udftag_little.f k (crcL s 0) 2 = some (bs (le (crcL s 0) 2)) := tlittle_is _ 2 (by omega) (by omega) c0 (by omega) k hk'
  have l5 : udftag_little.f k (s.length : Int) 2 = some (bs (le (s.length : Int) 2)) := tlittle_is _ 2 (by omega) (by omega) (by omega) (by omega) k hk'
  have l6 : udftag_little.f k loc 4 = some (bs (le loc 4)) := tlittle_is loc 4 (by omega) (by omega) hl.1 (by omega) k hk'
  have hsum := summed_is (tagA id) (tagB loc s) 0 (tagA_length id) (tagB_length loc s) k (by omega)
  unfold udftag_seal.f
  rw [f1, f2, f3]
  simp only [Option.bind_some, if_true, Bool.not_true, udftag_seal.j0, Bool.false_eq_true, if_false]
  have e0 : (⟨#[0, 0]⟩ : ByteArray) = bs [0, 0] := rfl
  rw [if_neg (by rw [bs_size]; omega), l1, l2, l3, crc_is s (by omega)]
  simp only [Option.bind_some]
  rw [wr (n := crcL s 0) (by omega), bs_size s, l4, l5, l6, e0]
  simp only [Option.bind_some, bs_append, bs_size, List.length_append, le_length, List.length_cons, List.length_nil]
  have e : le id 2 ++ le 3 2 ++ [0, 0] ++ le 1 2 ++ le (crcL s 0) 2 ++ le (s.length : Int) 2 ++ le loc 4 = tagA id ++ 0 :: tagB loc s := by simp [tagA, tagB]
  rw [e, hsum]
  simp only [Option.bind_some, bs_append, bs_size, List.length_append, tagA_length, tagB_length, List.length_cons, List.length_nil]
  rw [if_pos (by decide), if_pos (by decide), if_pos (by decide), if_pos (by decide), if_pos (by decide), if_pos (by decide), if_pos (by omega)]
  rfl
theorem repeat_is (n : Nat) (h : n ≤ 4096) : strings_Repeat.f (⟨#[0]⟩ : ByteArray) (n : Int) = some (bs (List.replicate n 0)) := by
  unfold strings_Repeat.f
  have e1 : (⟨#[0]⟩ : ByteArray).size = 1 := rfl
  rw [if_pos ⟨by omega, by omega, by rw [e1]; simp; omega⟩]
  congr 1
  unfold bs
  congr 2
  show Lib.repeatL [0] n = _
  induction n with
  | zero => rfl
  | succ n ih => rw [List.replicate_succ, ← ih (by omega)]; rfl
/-- The block of a body. -/
def blockL (id loc : Int) (s : List UInt8) : List UInt8 := tagL id loc s ++ s ++ List.replicate (2032 - s.length) 0
theorem blockL_length (id loc : Int) (s : List UInt8) (hs : s.length ≤ 2032) : (blockL id loc s).length = 2048 := by simp [blockL, tagL_length]; omega
theorem block_is (id loc : Int) (s : List UInt8) (hid : 0 ≤ id ∧ id < 65536) (hl : 0 ≤ loc ∧ loc < 4294967296) (hs : s.length ≤ 2032) (k : Nat) (hk : 30 < k) :
    udftag_Block.f k id 1 loc (bs s) = some (bs (blockL id loc s), 0) := by
  unfold udftag_Block.f
  rw [seal_is id loc s hid hl hs k hk]
  have e : wrap64 (2048 - ((bs (tagL id loc s ++ s)).size : Int)) = ((2032 - s.length : Nat) : Int) := by
    rw [bs_size, List.length_append, tagL_length, wr (by omega)]; omega
  simp only [Option.bind_some, if_true]
  rw [e, repeat_is _ (by omega)]
  simp only [Option.bind_some, bs_append, bs_size, List.length_append, tagL_length, List.length_replicate]
  rw [if_pos (by omega)]
  rfl
end Go.Proofs.Yticmghpnbjhhnab.Tag
