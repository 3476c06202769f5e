/-
  What the functions of package allocation compute on lists: the length, the number of blocks, the encoded string; and that Valid answers.
-/
import Derived.Test.YticmghpnbjhhnabM4
import Derived.Test.YticmghpnbjhhnabM5
import Derived.Test.YticmghpnbjhhnabM8
import Derived.Test.YticmghpnbjhhnabAlloc0
import Derived.Test.YticmghpnbjhhnabNum
namespace Go.Proofs.Yticmghpnbjhhnab.Alloc
open Go.RowKit Go.Proofs.Yticmghpnbjhhnab.M Go.Proofs.YticmghpnbjhhnabW.PrintWords Go.Proofs.Yticmghpnbjhhnab.Kit Go.Proofs.Yticmghpnbjhhnab.Num
set_option linter.unusedVariables false

def sumX (l : List X) : Int := (l.map (·.f1)).sum
theorem sumX_cons (x : X) (l : List X) : sumX (x :: l) = x.f1 + sumX l := by simp [sumX]
theorem length_loop (rest : List X) : ∀ (pre : List X) (s : Int) (k : Nat), rest.length < k → (pre ++ rest).length ≤ 64 → (∀ x ∈ rest, okX x) → 0 ≤ s → s ≤ 1073741824 * pre.length →
    allocation_Length.l0 k s (pre ++ rest) ((pre ++ rest).length : Int) (pre.length : Int) = some (s + sumX rest) := by
  induction rest with
  | nil =>
    intro pre s k hk hb _ _ _
    obtain ⟨k, rfl⟩ : ∃ m, k = m + 1 := ⟨k - 1, by omega⟩
    simp only [allocation_Length.l0]
    rw [if_neg (not_lt_end pre)]
    simp [sumX]
  | cons x rest ih =>
    intro pre s k hk hb hok h0 h1
    obtain ⟨k, rfl⟩ : ∃ m, k = m + 1 := ⟨k - 1, by omega⟩
    simp only [allocation_Length.l0]
    have hb' : pre.length + (rest.length + 1) ≤ 64 := by simpa using hb
    have hx := hok x (by simp)
    obtain ⟨_, _, h3, h4, _⟩ := hx
    have hp : (0 : Int) ≤ (pre.length : Int) := by omega
    rw [if_pos (lt_mid pre rest x), if_pos hp, rd_mid, next pre rest x (by omega), if_pos (lt_mid pre rest x), wr (n := s + x.f1) (by omega)]
    have := ih (pre ++ [x]) (s + x.f1) k (by simp at hk; omega) (by simpa using hb) (fun y hy => hok y (by simp [hy])) (by omega) (by simp; omega)
    rw [← push] at this
    rw [this, sumX_cons, Int.add_assoc]
def lenS (l : List X) : Int := if formedB l then sumX l else 0
theorem length_is (l : List X) (hb : l.length ≤ 4611686018427387904) (k : Nat) (hk : l.length < k) : allocation_Length.f k l = some (lenS l) := by
  unfold allocation_Length.f
  rw [formed_is l hb k (by omega)]
  simp only [Option.bind_some, lenS]
  by_cases h : formedB l = true
  · rw [if_pos h, if_pos h]
    have h' := h
    simp only [formedB, decide_eq_true_eq] at h'
    have := length_loop l [] 0 k (by omega) (by simpa using h'.1) h'.2 (by omega) (by simp)
    simpa using this
  · rw [if_neg h, if_neg h]

/-- The number of blocks of some bytes. -/
def cnt (n : Int) : Int := (n + 2047) / 2048
theorem blocks_is {n : Int} (h : 0 ≤ n ∧ n ≤ 4611686018427387904) : allocation_blocks.f n = some (cnt n) := by
  unfold allocation_blocks.f cnt
  rw [wr (n := n + 2048) (by omega), wr (n := n + 2048 - 1) (by omega), Int.tdiv_eq_ediv_of_nonneg (by omega), wr (by omega)]
  have e : n + 2048 - 1 = n + 2047 := by omega
  rw [e]

/-- Valid answers. -/
theorem avalid_loop (rest : List X) : ∀ (pre : List X) (k : Nat), 2 * rest.length < k → (pre ++ rest).length ≤ 64 → (∀ x ∈ rest, okX x) →
    ∃ v, allocation_Valid.l0 k (pre ++ rest) (pre ++ rest) ((pre ++ rest).length : Int) (pre.length : Int) = some v := by
  induction rest with
  | nil =>
    intro pre k hk hb _
    obtain ⟨k, rfl⟩ : ∃ m, k = m + 1 := ⟨k - 1, by omega⟩
    simp only [allocation_Valid.l0]
    rw [if_neg (not_lt_end pre)]
    exact ⟨_, rfl⟩
  | cons x rest ih =>
    intro pre k hk hb hok
    obtain ⟨k, rfl⟩ : ∃ m, k = m + 2 := ⟨k - 2, by simp at hk; omega⟩
    have hb' : pre.length + (rest.length + 1) ≤ 64 := by simpa using hb
    obtain ⟨h1, h2, h3, h4, h5, h6, _⟩ := hok x (by simp)
    have hp : (0 : Int) ≤ (pre.length : Int) := by omega
    obtain ⟨v, hv⟩ := ih (pre ++ [x]) k (by simp at hk; omega) (by simpa using hb) (fun y hy => hok y (by simp [hy]))
    rw [← push] at hv
    have hj : ∀ b, ∃ v, allocation_Valid.j2 (k + 1) (pre ++ x :: rest) (pre ++ x :: rest) ((pre ++ x :: rest).length : Int) (pre.length : Int) b = some v := by
      intro b
      cases b
      · refine ⟨v, ?_⟩
        rw [← hv]
        simp only [allocation_Valid.j2, Bool.false_eq_true, if_false]
        rw [next pre rest x (by omega)]
      · exact ⟨false, rfl⟩
    rw [allocation_Valid.l0, if_pos (lt_mid pre rest x), if_pos hp, if_pos (lt_mid pre rest x), rd_mid, blocks_is (by omega)]
    simp only [Option.bind_some]
    split
    · exact hj _
    · split
      · split
        · exact hj _
        · exact hj _
      · exact hj _
theorem avalid_is (l : List X) (hb : l.length ≤ 4611686018427387904) (k : Nat) (hk : 2 * l.length + 1 < k) : ∃ v, allocation_Valid.f k l = some v ∧ (v = true → formedB l = true) := by
  obtain ⟨k, rfl⟩ : ∃ m, k = m + 1 := ⟨k - 1, by omega⟩
  unfold allocation_Valid.f
  rw [formed_is l hb _ (by omega), length_is l hb _ (by omega)]
  simp only [Option.bind_some, allocation_Valid.j0]
  by_cases h : formedB l = true
  · rw [if_pos h]
    have h' := h
    simp only [formedB, decide_eq_true_eq] at h'
    obtain ⟨v, hv⟩ := avalid_loop l [] k (by omega) (by simpa using h'.1) h'.2
    simp only [List.nil_append, List.length_nil] at hv
    rw [show ((0 : Nat) : Int) = 0 from rfl] at hv
    split
    · exact ⟨false, rfl, fun h => by cases h⟩
    · exact ⟨v, hv, fun _ => h⟩
  · rw [if_neg h]
    exact ⟨false, rfl, fun h => by cases h⟩

/-- The number of blocks is a number of 8 bytes. -/
theorem ablocks_loop (rest : List X) : ∀ (pre : List X) (s : Int) (k : Nat), rest.length < k → (pre ++ rest).length ≤ 64 → (∀ x ∈ rest, okX x) → 0 ≤ s → s ≤ 1073741824 * pre.length →
    ∃ b, allocation_Blocks.l0 k s (pre ++ rest) ((pre ++ rest).length : Int) (pre.length : Int) = some b ∧ 0 ≤ b := by
  induction rest with
  | nil =>
    intro pre s k hk hb _ h0 _
    obtain ⟨k, rfl⟩ : ∃ m, k = m + 1 := ⟨k - 1, by omega⟩
    simp only [allocation_Blocks.l0]
    rw [if_neg (not_lt_end pre)]
    exact ⟨s, rfl, h0⟩
  | cons x rest ih =>
    intro pre s k hk hb hok h0 h1
    obtain ⟨k, rfl⟩ : ∃ m, k = m + 1 := ⟨k - 1, by omega⟩
    have hb' : pre.length + (rest.length + 1) ≤ 64 := by simpa using hb
    obtain ⟨_, _, h3, h4, _⟩ := hok x (by simp)
    have hp : (0 : Int) ≤ (pre.length : Int) := by omega
    have hc : 0 ≤ cnt x.f1 ∧ cnt x.f1 ≤ 1073741824 := by unfold cnt; omega
    have H : ∀ s' : Int, 0 ≤ s' → s' ≤ 1073741824 * pre.length + 1073741824 → ∃ b, allocation_Blocks.l0 k s' (pre ++ x :: rest) ((pre ++ x :: rest).length : Int) ((pre ++ [x]).length : Int) = some b ∧ 0 ≤ b := by
      intro s' h0 h1
      have := ih (pre ++ [x]) s' k (by simp at hk; omega) (by simpa using hb) (fun y hy => hok y (by simp [hy])) h0 (by simp; omega)
      rw [← push] at this
      exact this
    rw [allocation_Blocks.l0, if_pos (lt_mid pre rest x), if_pos hp, if_pos (lt_mid pre rest x), rd_mid, next pre rest x (by omega), blocks_is (by omega)]
    simp only [Option.bind_some]
    split
    · rw [wr (n := s + cnt x.f1) (by omega)]
      exact H _ (by omega) (by omega)
    · exact H _ (by omega) (by omega)
theorem ablocks_is (l : List X) (hb : l.length ≤ 4611686018427387904) (k : Nat) (hk : l.length < k) : ∃ b, allocation_Blocks.f k l = some b ∧ 0 ≤ b := by
  unfold allocation_Blocks.f
  rw [formed_is l hb _ (by omega)]
  simp only [Option.bind_some]
  by_cases h : formedB l = true
  · rw [if_pos h]
    have h' := h
    simp only [formedB, decide_eq_true_eq] at h'
    have := ablocks_loop l [] 0 k (by omega) (by simpa using h'.1) h'.2 (by omega) (by simp)
    simpa using this
  · rw [if_neg h]
    exact ⟨0, rfl, by omega⟩

/-- The 16 bytes of an extent. -/
def ext16 (x : X) : List UInt8 := le (x.f1 + 1073741824 * x.f0) 4 ++ le x.f2.f0 4 ++ (le x.f2.f1 2 ++ le 0 6)
def extsL (l : List X) : List UInt8 := l.flatMap ext16
theorem ext16_length (x : X) : (ext16 x).length = 16 := by simp [ext16, le_length]
theorem extsL_length (l : List X) : (extsL l).length = 16 * l.length := by
  induction l with
  | nil => rfl
  | cons x l ih => simp only [extsL, List.flatMap_cons, List.length_append, ext16_length, List.length_cons] at ih ⊢; omega
theorem alittle_is (n : Int) (sz : Nat) (h1 : 1 ≤ sz) (h8 : sz ≤ 8) (h0 : 0 ≤ n) (hn : n < 256 ^ sz) (k : Nat) (hk : 9 < k) : allocation_little.f k n (sz : Int) = some (bs (le n sz)) := by
  unfold allocation_little.f
  rw [little_is n sz h1 h8 h0 (Or.inl hn) k hk]
  rfl
theorem enc_loop (rest : List X) : ∀ (pre : List X) (acc : List UInt8) (k : Nat), rest.length + 10 < k → (pre ++ rest).length ≤ 64 → (∀ x ∈ rest, okX x) → acc.length ≤ 16 * pre.length →
    allocation_encode_at_allocation_EncodeLong_1.l0 k (bs acc) (pre ++ rest) ((pre ++ rest).length : Int) (pre.length : Int) = some (bs (acc ++ extsL rest)) := by
  induction rest with
  | nil =>
    intro pre acc k hk hb _ _
    obtain ⟨k, rfl⟩ : ∃ m, k = m + 1 := ⟨k - 1, by omega⟩
    simp only [allocation_encode_at_allocation_EncodeLong_1.l0]
    rw [if_neg (not_lt_end pre)]
    simp [extsL]
  | cons x rest ih =>
    intro pre acc k hk hb hok ha
    obtain ⟨k, rfl⟩ : ∃ m, k = m + 1 := ⟨k - 1, by omega⟩
    have hb' : pre.length + (rest.length + 1) ≤ 64 := by simpa using hb
    obtain ⟨h1, h2, h3, h4, h5, h6, h7, h8⟩ := hok x (by simp)
    have hp : (0 : Int) ≤ (pre.length : Int) := by omega
    have hk' : 9 < k := by simp at hk; omega
    have l1 : allocation_little.f k (x.f1 + 1073741824 * x.f0) 4 = some (bs (le (x.f1 + 1073741824 * x.f0) 4)) := alittle_is _ 4 (by omega) (by omega) (by omega) (by omega) k hk'
    have l2 : allocation_little.f k x.f2.f0 4 = some (bs (le x.f2.f0 4)) := alittle_is _ 4 (by omega) (by omega) (by omega) (by omega) k hk'
    have l3 : allocation_little.f k x.f2.f1 2 = some (bs (le x.f2.f1 2)) := alittle_is _ 2 (by omega) (by omega) (by omega) (by omega) k hk'
    have l4 : allocation_little.f k 0 6 = some (bs (le 0 6)) := alittle_is _ 6 (by omega) (by omega) (by omega) (by omega) k hk'
    have l5 : allocation_EncodeLong_1.f k x.f0 x.f1 x.f2.f0 x.f2.f1 = some (bs (le x.f2.f1 2 ++ le 0 6)) := by
      unfold allocation_EncodeLong_1.f
      rw [l3, l4]
      simp only [Option.bind_some]
      rw [if_pos (by simp [bs_size, le_length]), bs_append]
    have hi := ih (pre ++ [x]) (acc ++ ext16 x) k (by simp at hk; omega) (by simpa using hb) (fun y hy => hok y (by simp [hy])) (by simp [ext16_length]; omega)
    rw [← push] at hi
    rw [allocation_encode_at_allocation_EncodeLong_1.l0, if_pos (lt_mid pre rest x), if_pos hp, if_pos (lt_mid pre rest x), rd_mid, next pre rest x (by omega), wr (n := 1073741824 * x.f0) (by omega), wr (n := x.f1 + 1073741824 * x.f0) (by omega), l1, l2, l5]
    simp only [Option.bind_some, bs_append]
    rw [if_pos (by simp [bs_size, le_length]), if_pos (by simp [bs_size, le_length]), if_pos (by simp [bs_size, le_length]; omega)]
    rw [show acc ++ (le (x.f1 + 1073741824 * x.f0) 4 ++ le x.f2.f0 4 ++ (le x.f2.f1 2 ++ le 0 6)) = acc ++ ext16 x from rfl, hi]
    simp [extsL]
theorem encodeLong_is (l : List X) (h : formedB l = true) (k : Nat) (hk : l.length + 10 < k) : allocation_EncodeLong.f k l = some (bs (extsL l), 0) := by
  have h' := h
  simp only [formedB, decide_eq_true_eq] at h'
  unfold allocation_EncodeLong.f
  rw [formed_is l (by omega) k (by omega), h]
  simp only [Option.bind_some, if_true]
  have := enc_loop l [] [] k (by omega) (by simpa using h'.1) h'.2 (by simp)
  simp only [List.nil_append, List.length_nil] at this
  unfold allocation_encode_at_allocation_EncodeLong_1.f
  rw [show (⟨#[]⟩ : ByteArray) = bs [] from rfl, show (0 : Int) = ((0 : Nat) : Int) from rfl, this]
  rfl
theorem encodeLong_not (l : List X) (hb : l.length ≤ 4611686018427387904) (h : formedB l = false) (k : Nat) (hk : l.length < k) : allocation_EncodeLong.f k l = some (bs [], 1) := by
  unfold allocation_EncodeLong.f
  rw [formed_is l hb k hk, h]
  rfl
end Go.Proofs.Yticmghpnbjhhnab.Alloc
