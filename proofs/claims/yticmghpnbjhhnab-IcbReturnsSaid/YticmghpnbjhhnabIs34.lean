/-
  Is of package udftag on the block of a body; the pieces of a string.
-/
import Derived.Test.YticmghpnbjhhnabM12
import Derived.Test.YticmghpnbjhhnabTag34
namespace Go.Proofs.Yticmghpnbjhhnab.Tag
open Go.RowKit Go.Proofs.Yticmghpnbjhhnab.M Go.Proofs.YticmghpnbjhhnabW.PrintWords Go.Proofs.YticmghpnbjhhnabW.PrintLast Go.Proofs.YticmghpnbjhhnabW.PrintMore Go.Proofs.Yticmghpnbjhhnab.Kit Go.Proofs.Yticmghpnbjhhnab.Num
set_option linter.unusedVariables false

/-- A piece of a string that is put together of pieces. -/
theorem piece {ps : List (List UInt8)} {i : Nat} {p : List UInt8} (h : ps[i]? = some p) {n : Nat} (hn : (ps.take i).flatten.length = n) : sl ps.flatten n p.length = p ∧ n + p.length ≤ ps.flatten.length := by
  have hi : i < ps.length := by
    rcases Nat.lt_or_ge i ps.length with h' | h'
    · exact h'
    · rw [List.getElem?_eq_none h'] at h; cases h
  have e : ps = ps.take i ++ p :: ps.drop (i + 1) := by
    rw [List.getElem?_eq_getElem hi] at h
    rw [← Option.some.inj h, List.getElem_cons_drop, List.take_append_drop]
  have e2 : ps.flatten = (ps.take i).flatten ++ (p ++ (ps.drop (i + 1)).flatten) := by
    conv => lhs; rw [e]
    rw [List.flatten_append, List.flatten_cons]
  rw [e2]
  refine ⟨?_, by simp only [List.length_append]; omega⟩
  unfold sl
  rw [← hn, List.drop_left, List.take_left]
theorem sl_piece {ps : List (List UInt8)} (i : Nat) {p : List UInt8} {n sz : Nat} (h : ps[i]? = some p) (hn : (ps.take i).flatten.length = n) (hz : p.length = sz) : sl ps.flatten n sz = p := by
  rw [← hz]
  exact (piece h hn).1
theorem tread_is (l : List UInt8) (at_ sz : Nat) (hl : l.length ≤ 4611686018427387904) (h1 : 1 ≤ sz) (hsz : sz ≤ 7) (hat : at_ + sz ≤ l.length) (k : Nat) (hk : 9 < k) :
    udftag_read.f k (bs l) (at_ : Int) (sz : Int) = some (num (sl l at_ sz)) := by
  unfold udftag_read.f
  rw [readLittle_is l at_ sz hl h1 hsz hat k hk]
  rfl
def tagP (id loc : Int) (s : List UInt8) (rest : List (List UInt8)) : List (List UInt8) :=
  le id 2 :: le 3 2 :: [UInt8.ofNat (sumL (tagA id ++ tagB loc s) 0).toNat] :: [0] :: le 1 2 :: le (crcL s 0) 2 :: le (s.length : Int) 2 :: le loc 4 :: rest
theorem tagP_flat (id loc : Int) (s : List UInt8) (rest : List (List UInt8)) : (tagP id loc s rest).flatten = tagL id loc s ++ rest.flatten := by
  simp [tagP, tagL, tagA, tagB]
theorem blockL_flat (id loc : Int) (s : List UInt8) : blockL id loc s = (tagP id loc s [s, List.replicate (2032 - s.length) 0]).flatten := by
  rw [tagP_flat]
  simp [blockL]
theorem is_is (id loc : Int) (s : List UInt8) (hid : 0 ≤ id ∧ id < 65536) (hl : 0 ≤ loc ∧ loc < 4294967296) (hs : s.length ≤ 2032) (id2 a1 : Int) (k : Nat) (hk : 30 < k) :
    udftag_Is.f k (bs (blockL id loc s)) id2 a1 = some (decide (loc = a1) && (id == id2)) := by
  have hlen := blockL_length id loc s hs
  obtain ⟨c0, c1⟩ := crcL_range s 0 (by omega) (by omega)
  obtain ⟨s0, s1⟩ := sumL_range (tagA id ++ tagB loc s) 0 (by omega) (by omega)
  have hf := blockL_flat id loc s
  have g0 : sl (blockL id loc s) 0 2 = le id 2 := by rw [hf]; exact sl_piece 0 rfl rfl rfl
  have g2 : sl (blockL id loc s) 2 2 = le 3 2 := by rw [hf]; exact sl_piece 1 rfl rfl rfl
  have g6 : sl (blockL id loc s) 6 2 = le 1 2 := by rw [hf]; exact sl_piece 4 rfl rfl rfl
  have g8 : sl (blockL id loc s) 8 2 = le (crcL s 0) 2 := by rw [hf]; exact sl_piece 5 rfl rfl rfl
  have g10 : sl (blockL id loc s) 10 2 = le (s.length : Int) 2 := by rw [hf]; exact sl_piece 6 rfl rfl rfl
  have g12 : sl (blockL id loc s) 12 4 = le loc 4 := by rw [hf]; exact sl_piece 7 rfl rfl rfl
  have g16 : sl (blockL id loc s) 16 s.length = s := by rw [hf]; exact sl_piece 8 rfl rfl rfl
  have r : ∀ (at_ sz : Nat), 1 ≤ sz → sz ≤ 7 → at_ + sz ≤ 2048 → udftag_read.f k (bs (blockL id loc s)) (at_ : Int) (sz : Int) = some (num (sl (blockL id loc s) at_ sz)) :=
    fun at_ sz h1 h2 h3 => tread_is _ at_ sz (by omega) h1 h2 (by omega) k (by omega)
  have r0 : udftag_read.f k (bs (blockL id loc s)) 0 2 = some id := by rw [show (0 : Int) = ((0 : Nat) : Int) from rfl, show (2 : Int) = ((2 : Nat) : Int) from rfl, r 0 2 (by omega) (by omega) (by omega), g0, num_le 2 id hid.1 (by omega)]
  have r2 : udftag_read.f k (bs (blockL id loc s)) 2 2 = some 3 := by rw [show (2 : Int) = ((2 : Nat) : Int) from rfl, r 2 2 (by omega) (by omega) (by omega), g2, num_le 2 3 (by omega) (by omega)]
  have r6 : udftag_read.f k (bs (blockL id loc s)) 6 2 = some 1 := by rw [show (6 : Int) = ((6 : Nat) : Int) from rfl, show (2 : Int) = ((2 : Nat) : Int) from rfl, r 6 2 (by omega) (by omega) (by omega), g6, num_le 2 1 (by omega) (by omega)]
  have r8 : udftag_read.f k (bs (blockL id loc s)) 8 2 = some (crcL s 0) := by rw [show (8 : Int) = ((8 : Nat) : Int) from rfl, show (2 : Int) = ((2 : Nat) : Int) from rfl, r 8 2 (by omega) (by omega) (by omega), g8, num_le 2 _ c0 (by omega)]
  have r10 : udftag_read.f k (bs (blockL id loc s)) 10 2 = some (s.length : Int) := by rw [show (10 : Int) = ((10 : Nat) : Int) from rfl, show (2 : Int) = ((2 : Nat) : Int) from rfl, r 10 2 (by omega) (by omega) (by omega), g10, num_le 2 _ (by omega) (by omega)]
  have r12 : udftag_read.f k (bs (blockL id loc s)) 12 4 = some loc := by rw [show (12 : Int) = ((12 : Nat) : Int) from rfl, show (4 : Int) = ((4 : Nat) : Int) from rfl, r 12 4 (by omega) (by omega) (by omega), g12, num_le 4 _ hl.1 (by omega)]
  have hv : udftag_values.f k (bs (blockL id loc s)) = some (id, 1, (s.length : Int), loc) := by
    unfold udftag_values.f
    rw [r0, r6, r10, r12]
    rfl
  have hsum : udftag_sum.f k (bs (blockL id loc s)) = some (sumL (tagA id ++ tagB loc s) 0) := by
    have := sum_is (tagA id) (tagB loc s) (UInt8.ofNat (sumL (tagA id ++ tagB loc s) 0).toNat) (tagA_length id) (tagB_length loc s) (s ++ List.replicate (2032 - s.length) 0) (by simp; omega) k (by omega)
    rw [← this]
    simp [blockL, tagL]
  have hbt : bt (bs (blockL id loc s)) 4 = sumL (tagA id ++ tagB loc s) 0 := by
    have := bt_mid (tagA id) (UInt8.ofNat (sumL (tagA id ++ tagB loc s) 0).toNat) (tagB loc s ++ (s ++ List.replicate (2032 - s.length) 0))
    rw [tagA_length] at this
    have e : blockL id loc s = tagA id ++ UInt8.ofNat (sumL (tagA id ++ tagB loc s) 0).toNat :: (tagB loc s ++ (s ++ List.replicate (2032 - s.length) 0)) := by simp [blockL, tagL]
    rw [e]
    refine this.trans ?_
    rw [UInt8.toNat_ofNat']
    omega
  have hx : (bs (blockL id loc s)).extract 16 (16 + s.length) = bs s := by
    rw [bs_extract]
    congr 1
    have := g16
    unfold sl at this
    rw [List.drop_take, show 16 + s.length - 16 = s.length by omega]
    exact this
  have hF : udftag_Faults.f k (bs (blockL id loc s)) a1 = some (if loc = a1 then [] else [6]) := by
    unfold udftag_Faults.f
    rw [bs_size, hlen, if_neg (by omega), hv, Option.bind_some, r2, Option.bind_some, hsum, Option.bind_some]
    dsimp only
    rw [wr (n := ((2048 : Nat) : Int) - 16) (by omega), wr (n := 16 + (s.length : Int)) (by omega), if_neg (by omega), if_pos (by omega), r8, Option.bind_some]
    rw [show (16 + (s.length : Int)).toNat = 16 + s.length by omega, hx, crc_is s (by omega), Option.bind_some, wr (n := crcL s 0) (by omega), if_pos rfl, hbt, if_pos rfl, if_neg (by omega), if_pos rfl]
    rfl
  unfold udftag_Is.f
  rw [hF, Option.bind_some, hv]
  by_cases h : loc = a1
  · rw [if_pos h, if_pos (by rfl), decide_eq_true h]
    rfl
  · rw [if_neg h, if_neg (by decide), decide_eq_false h]
    rfl
end Go.Proofs.Yticmghpnbjhhnab.Tag
