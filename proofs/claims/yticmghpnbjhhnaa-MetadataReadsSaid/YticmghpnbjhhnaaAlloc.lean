/-
  What the functions of package allocation and of its reference compute, on lists: their lengths, which are valid, where a block lies.
-/
import Derived.Test.YticmghpnbjhhnaaM7
import Derived.Test.YticmghpnbjhhnaaM14
import Derived.Test.YticmghpnbjhhnaaAlloc0
namespace Go.Proofs.Yticmghpnbjhhnaa.Alloc
open Go.RowKit Go.Proofs.Yticmghpnbjhhnaa.M Go.Proofs.YticmghpnbjhhnaaW.PrintWords Go.Proofs.Yticmghpnbjhhnaa.Kit
set_option linter.unusedVariables false

theorem refFormed_loop (rest : List X) : ∀ (pre : List X) (k : Nat), 2 * rest.length < k → (pre ++ rest).length ≤ 4611686018427387904 →
    masterdiscref33_Formed.l0 k (pre ++ rest) (pre.length : Int) = some (decide ((pre ++ rest).length ≤ 64 ∧ ∀ x ∈ rest, okX x)) := by
  induction rest with
  | nil =>
    intro pre k hk hb
    obtain ⟨k, rfl⟩ : ∃ m, k = m + 1 := ⟨k - 1, by omega⟩
    simp only [masterdiscref33_Formed.l0]
    rw [if_neg (not_lt_end pre)]
    congr 1
    rw [decide_eq_decide]
    simp
    omega
  | cons x rest ih =>
    intro pre k hk hb
    obtain ⟨k, rfl⟩ : ∃ m, k = m + 2 := ⟨k - 2, by simp at hk; omega⟩
    simp only [masterdiscref33_Formed.l0, masterdiscref33_Formed.j1, decide_eq_true_eq, if_true]
    rw [if_pos (lt_mid pre rest x), if_pos (by omega), rd_mid, next pre rest x hb]
    have hr := ih (pre ++ [x]) k (by simp at hk; omega) (by simpa using hb)
    rw [← push] at hr
    rw [hr]
    by_cases h : okX x
    · have h' := h
      obtain ⟨h1, h2, h3, h4, h5, h6, h7, h8⟩ := h
      rw [if_neg (by omega), if_neg (by omega), if_neg (by omega), if_neg (by omega), if_neg (by omega), if_neg (by omega), if_neg (by omega), if_neg (by omega)]
      simp [h']
    · have e : decide ((pre ++ x :: rest).length ≤ 64 ∧ ∀ y ∈ x :: rest, okX y) = false := by simp [h]
      rw [e]
      repeat' split
      all_goals first
        | rfl
        | (exfalso; apply h; unfold okX; omega)

theorem refFormed_is (l : List X) (hb : l.length ≤ 4611686018427387904) (k : Nat) (hk : 2 * l.length < k) : masterdiscref33_Formed.f k l = some (formedB l) := by
  unfold masterdiscref33_Formed.f
  have := refFormed_loop l [] k hk (by simpa using hb)
  simp only [List.nil_append, List.length_nil] at this
  exact this

def sumX (l : List X) : Int := (l.map (·.f1)).sum
theorem sumX_cons (x : X) (l : List X) : sumX (x :: l) = x.f1 + sumX l := by simp [sumX]
theorem sumX_append (l m : List X) : sumX (l ++ m) = sumX l + sumX m := by simp [sumX]
theorem sumX_bound (l : List X) (h : ∀ x ∈ l, okX x) : (l.length : Int) ≤ sumX l ∧ sumX l ≤ 1073741824 * l.length := by
  induction l with
  | nil => simp [sumX]
  | cons x l ih =>
    have h1 := h x (by simp)
    have h2 := ih (fun y hy => h y (by simp [hy]))
    obtain ⟨_, _, h3, h4, _⟩ := h1
    rw [sumX_cons]
    simp only [List.length_cons]
    omega

theorem length_loop (rest : List X) : ∀ (pre : List X) (s : Int) (k : Nat), rest.length < k → (pre ++ rest).length ≤ 64 → (∀ x ∈ rest, okX x) → 0 ≤ s → s ≤ 1073741824 * pre.length →
    allocation_Length.l0 k s (pre ++ rest) ((pre ++ rest).length : Int) (pre.length : Int) = some (s + sumX rest) ∧ masterdiscref33_Length.l0 k (pre ++ rest) s (pre.length : Int) = some (s + sumX rest) := by
  induction rest with
  | nil =>
    intro pre s k hk hb _ _ _
    obtain ⟨k, rfl⟩ : ∃ m, k = m + 1 := ⟨k - 1, by omega⟩
    simp only [allocation_Length.l0, masterdiscref33_Length.l0]
    rw [if_neg (not_lt_end pre)]
    simp [sumX]
  | cons x rest ih =>
    intro pre s k hk hb hok h0 h1
    obtain ⟨k, rfl⟩ : ∃ m, k = m + 1 := ⟨k - 1, by omega⟩
    simp only [allocation_Length.l0, masterdiscref33_Length.l0]
    have hb' : pre.length + (rest.length + 1) ≤ 64 := by simpa using hb
    have hx := hok x (by simp)
    obtain ⟨_, _, h3, h4, _⟩ := hx
    have hp : (0 : Int) ≤ (pre.length : Int) := by omega
    rw [if_pos (lt_mid pre rest x), if_pos hp, rd_mid, next pre rest x (by omega), if_pos (lt_mid pre rest x), if_pos (lt_mid pre rest x), if_pos hp, wr (n := s + x.f1) (by omega)]
    have := ih (pre ++ [x]) (s + x.f1) k (by simp at hk; omega) (by simpa using hb) (fun y hy => hok y (by simp [hy])) (by omega) (by simp; omega)
    rw [← push] at this
    rw [this.1, this.2, sumX_cons, Int.add_assoc]
    exact ⟨rfl, rfl⟩

def lenS (l : List X) : Int := if formedB l then sumX l else 0
theorem length_is (l : List X) (hb : l.length ≤ 4611686018427387904) (k : Nat) (hk : 2 * l.length < k) : allocation_Length.f k l = some (lenS l) ∧ masterdiscref33_Length.f k l = some (lenS l) := by
  unfold allocation_Length.f masterdiscref33_Length.f
  rw [formed_is l hb k (by omega), refFormed_is l hb k hk]
  simp only [Option.bind_some, lenS]
  by_cases h : formedB l = true
  · rw [if_pos h, if_pos h, if_pos h]
    have h' := h
    simp only [formedB, decide_eq_true_eq] at h'
    have := length_loop l [] 0 k (by omega) (by simpa using h'.1) h'.2 (by omega) (by simp)
    simpa using this
  · rw [if_neg h, if_neg h, if_neg h]
    exact ⟨rfl, rfl⟩

/-- The number of blocks of some bytes. -/
def cnt (n : Int) : Int := (n + 2047) / 2048
theorem blocks_is {n : Int} (h : 0 ≤ n ∧ n ≤ 4611686018427387904) : allocation_blocks.f n = some (cnt n) := by
  unfold allocation_blocks.f cnt
  rw [wr (n := n + 2048) (by omega), wr (n := n + 2048 - 1) (by omega), Int.tdiv_eq_ediv_of_nonneg (by omega), wr (by omega)]
  have e : n + 2048 - 1 = n + 2047 := by omega
  rw [e]
theorem refCount_is {n : Int} (h : 0 ≤ n ∧ n ≤ 4611686018427387904) : masterdiscref33_Count.f n = some (cnt n) := by
  unfold masterdiscref33_Count.f cnt
  rw [wr (n := n + 2048) (by omega), wr (n := n + 2048 - 1) (by omega), Int.tdiv_eq_ediv_of_nonneg (by omega), wr (by omega)]
  have e : n + 2048 - 1 = n + 2047 := by omega
  rw [e]

/-- What is asked of the extents of a valid list, beside their form and their sum. -/
def chainB : List X → Bool
  | [] => true
  | [x] => decide (x.f0 ≠ 3 ∧ x.f2.f0 + cnt x.f1 ≤ 4294967296)
  | x :: y :: r => decide (x.f0 ≠ 3 ∧ x.f1 % 2048 = 0 ∧ x.f2.f0 + cnt x.f1 ≤ 4294967296) && chainB (y :: r)
def validB (l : List X) : Bool := formedB l && decide (sumX l ≤ 1073739776) && chainB l

theorem valid_loop (rest : List X) : ∀ (pre : List X) (k : Nat), 2 * rest.length < k → (pre ++ rest).length ≤ 64 → (∀ x ∈ rest, okX x) →
    allocation_Valid.l0 k (pre ++ rest) (pre ++ rest) ((pre ++ rest).length : Int) (pre.length : Int) = some (chainB rest) ∧ masterdiscref33_Valid.l0 k (pre ++ rest) (pre.length : Int) = some (chainB rest) := by
  induction rest with
  | nil =>
    intro pre k hk hb _
    obtain ⟨k, rfl⟩ : ∃ m, k = m + 1 := ⟨k - 1, by omega⟩
    simp only [allocation_Valid.l0, masterdiscref33_Valid.l0]
    rw [if_neg (not_lt_end pre)]
    simp [chainB]
  | cons x rest ih =>
    intro pre k hk hb hok
    obtain ⟨k, rfl⟩ : ∃ m, k = m + 2 := ⟨k - 2, by simp at hk; omega⟩
    simp only [allocation_Valid.l0, masterdiscref33_Valid.l0, allocation_Valid.j2, masterdiscref33_Valid.j2, decide_eq_true_eq, if_true]
    have hb' : pre.length + (rest.length + 1) ≤ 64 := by simpa using hb
    obtain ⟨h1, h2, h3, h4, h5, h6, _⟩ := hok x (by simp)
    have hc : 0 ≤ cnt x.f1 ∧ cnt x.f1 ≤ 1073741824 := by unfold cnt; omega
    have hl : ((pre ++ x :: rest).length : Int) = pre.length + (rest.length + 1) := by simp
    have hp : (0 : Int) ≤ (pre.length : Int) := by omega
    rw [if_pos (lt_mid pre rest x), if_pos hp, rd_mid, next pre rest x (by omega), if_pos (lt_mid pre rest x), if_pos (lt_mid pre rest x), if_pos hp, blocks_is (by omega), refCount_is (by omega), wr (n := ((pre ++ x :: rest).length : Int) - 1) (by omega)]
    simp only [Option.bind_some]
    rw [wr (n := x.f2.f0 + cnt x.f1) (by omega)]
    have := ih (pre ++ [x]) k (by simp at hk; omega) (by simpa using hb) (fun y hy => hok y (by simp [hy]))
    rw [← push] at this
    rw [this.1, this.2]
    by_cases h3' : x.f0 = 3
    · rw [if_pos h3', if_pos h3']
      cases rest <;> simp [chainB, h3']
    · rw [if_neg h3', if_neg h3']
      cases rest with
      | nil =>
        have c1 : ¬ (pre.length : Int) < ((pre ++ [x]).length : Int) - 1 := by simp
        have c2 : ¬ ((pre ++ [x]).length : Int) < ((pre ++ [x]).length : Int) := by omega
        rw [if_neg c1, if_neg c2]
        by_cases hh : x.f2.f0 + cnt x.f1 > 4294967296
        · have hh2 : ¬ x.f2.f0 + cnt x.f1 ≤ 4294967296 := by omega
          simp only [if_pos hh]
          simp [chainB, h3', hh2]
        · have hh2 : x.f2.f0 + cnt x.f1 ≤ 4294967296 := by omega
          simp only [if_neg hh]
          simp [chainB, h3', hh2]
      | cons y r =>
        have c1 : (pre.length : Int) < ((pre ++ x :: y :: r).length : Int) - 1 := by simp; omega
        have c2 : ((pre ++ [x]).length : Int) < ((pre ++ x :: y :: r).length : Int) := by simp; omega
        rw [if_pos c1, if_pos c2, Int.tmod_eq_emod_of_nonneg (by omega)]
        by_cases hm : x.f1 % 2048 = 0
        · simp only [if_pos hm]
          by_cases hh : x.f2.f0 + cnt x.f1 > 4294967296
          · have hh2 : ¬ x.f2.f0 + cnt x.f1 ≤ 4294967296 := by omega
            simp only [if_pos hh]
            simp [chainB, h3', hm, hh2]
          · have hh2 : x.f2.f0 + cnt x.f1 ≤ 4294967296 := by omega
            simp only [if_neg hh]
            simp [chainB, h3', hm, hh2]
        · simp only [if_neg hm]
          simp [chainB, hm]

theorem valid_is (l : List X) (hb : l.length ≤ 4611686018427387904) (k : Nat) (hk : 2 * l.length + 1 < k) : allocation_Valid.f k l = some (validB l) ∧ masterdiscref33_Valid.f k l = some (validB l) := by
  obtain ⟨k, rfl⟩ : ∃ m, k = m + 1 := ⟨k - 1, by omega⟩
  unfold allocation_Valid.f masterdiscref33_Valid.f
  rw [formed_is l hb _ (by omega), refFormed_is l hb _ (by omega), (length_is l hb _ (by omega)).1, (length_is l hb _ (by omega)).2]
  simp only [Option.bind_some, validB, allocation_Valid.j0, masterdiscref33_Valid.j0]
  by_cases h : formedB l = true
  · rw [if_pos h, if_pos h]
    have h' := h
    simp only [formedB, decide_eq_true_eq] at h'
    have hv := valid_loop l [] k (by omega) (by simpa using h'.1) h'.2
    simp only [List.nil_append, List.length_nil] at hv
    have e : ((0 : Nat) : Int) = 0 := rfl
    rw [e] at hv
    rw [hv.1, hv.2]
    have hl : lenS l = sumX l := by simp [lenS, h]
    rw [hl]
    by_cases hs : sumX l > 1073739776
    · have e2 : decide (sumX l > 1073739776) = true := by simp [hs]
      simp only [e2, if_true]
      have : ¬ sumX l ≤ 1073739776 := by omega
      simp [this]
    · have e2 : decide (sumX l > 1073739776) = false := by simp [hs]
      simp only [e2, Bool.false_eq_true, if_false]
      have : sumX l ≤ 1073739776 := by omega
      simp [this, h]
  · simp [h]
/-- Where a block of a list lies: its address, partition and kind. -/
def locS : List X → Int → Option (Int × Int × Int)
  | [], _ => none
  | x :: r, b => if 0 ≤ b ∧ b < cnt x.f1 then some (x.f2.f0 + b, x.f2.f1, x.f0) else if b < cnt x.f1 then none else locS r (b - cnt x.f1)
def locR : Option (Int × Int × Int) → Int × Int × Int × Int
  | some (a, p, k) => (a, p, k, 0)
  | none => (0, 0, 0, 2)
theorem locS_neg (l : List X) (b : Int) (h : b < 0) (hok : ∀ x ∈ l, okX x) : locS l b = none := by
  cases l with
  | nil => rfl
  | cons x r =>
    obtain ⟨h1, h2, h3, h4, _⟩ := hok x (by simp)
    have hc : 0 ≤ cnt x.f1 := by unfold cnt; omega
    simp only [locS]
    rw [if_neg (by omega), if_pos (by omega)]

theorem cnt_bound {x : X} (h : okX x) : 1 ≤ cnt x.f1 ∧ cnt x.f1 ≤ 524288 := by
  obtain ⟨h1, h2, h3, h4, _⟩ := h
  unfold cnt; omega

theorem locate_huge (rest : List X) : ∀ (pre : List X) (b : Int) (k : Nat), 2 * rest.length < k → (pre ++ rest).length ≤ 64 → (∀ x ∈ rest, okX x) → 2305843009213693952 + 1048576 * rest.length ≤ b → b ≤ 9223372036854775807 →
    allocation_Locate.l0 k b (pre ++ rest) ((pre ++ rest).length : Int) (pre.length : Int) = some (0, 0, 0, 2) := by
  induction rest with
  | nil =>
    intro pre b k hk hb _ _ _
    obtain ⟨k, rfl⟩ : ∃ m, k = m + 1 := ⟨k - 1, by omega⟩
    simp only [allocation_Locate.l0]
    rw [if_neg (not_lt_end pre)]
  | cons x rest ih =>
    intro pre b k hk hb hok h0 h1
    obtain ⟨k, rfl⟩ : ∃ m, k = m + 2 := ⟨k - 2, by simp at hk; omega⟩
    have hb' : pre.length + (rest.length + 1) ≤ 64 := by simpa using hb
    obtain ⟨_, _, h3, h4, h5, h6, _⟩ := hok x (by simp)
    have hc := cnt_bound (hok x (by simp))
    simp only [List.length_cons] at h0 hk
    simp only [allocation_Locate.l0, allocation_Locate.j1]
    rw [if_pos (lt_mid pre rest x), if_pos (by omega), if_pos (lt_mid pre rest x), rd_mid, next pre rest x (by omega), blocks_is (by omega)]
    simp only [Option.bind_some]
    rw [wr (n := b - cnt x.f1) (by omega), if_pos (by omega), if_neg (by simp; omega), if_neg (by omega)]
    have := ih (pre ++ [x]) (b - cnt x.f1) k (by omega) (by simpa using hb) (fun y hy => hok y (by simp [hy])) (by omega) (by omega)
    rw [← push] at this
    exact this

theorem locate_loop (rest : List X) : ∀ (pre : List X) (b : Int) (k : Nat), 2 * rest.length < k → (pre ++ rest).length ≤ 64 → (∀ x ∈ rest, okX x) → -9223372036854775808 ≤ b → b ≤ 9223372036854775807 →
    allocation_Locate.l0 k b (pre ++ rest) ((pre ++ rest).length : Int) (pre.length : Int) = some (locR (locS rest b)) := by
  induction rest with
  | nil =>
    intro pre b k hk hb _ _ _
    obtain ⟨k, rfl⟩ : ∃ m, k = m + 1 := ⟨k - 1, by omega⟩
    simp only [allocation_Locate.l0]
    rw [if_neg (not_lt_end pre)]
    rfl
  | cons x rest ih =>
    intro pre b k hk hb hok h0 h1
    obtain ⟨k, rfl⟩ : ∃ m, k = m + 2 := ⟨k - 2, by simp at hk; omega⟩
    have hb' : pre.length + (rest.length + 1) ≤ 64 := by simpa using hb
    obtain ⟨_, _, h3, h4, h5, h6, _⟩ := hok x (by simp)
    have hc := cnt_bound (hok x (by simp))
    simp only [List.length_cons] at hk
    simp only [allocation_Locate.l0, allocation_Locate.j1]
    rw [if_pos (lt_mid pre rest x), if_pos (by omega), if_pos (lt_mid pre rest x), rd_mid, next pre rest x (by omega), blocks_is (by omega)]
    simp only [Option.bind_some]
    by_cases hn : 0 ≤ b
    · rw [if_pos (by omega)]
      by_cases hlt : b < cnt x.f1
      · have e : locS (x :: rest) b = some (x.f2.f0 + b, x.f2.f1, x.f0) := by simp only [locS]; rw [if_pos ⟨hn, hlt⟩]
        rw [e, if_pos (by simpa using hlt), wr (by omega)]
        rfl
      · have e : locS (x :: rest) b = locS rest (b - cnt x.f1) := by simp only [locS]; rw [if_neg (fun h => hlt h.2), if_neg hlt]
        rw [e, if_neg (by simpa using hlt), wr (n := b - cnt x.f1) (by omega), if_neg (by omega)]
        have := ih (pre ++ [x]) (b - cnt x.f1) k (by omega) (by simpa using hb) (fun y hy => hok y (by simp [hy])) (by omega) (by omega)
        rw [← push] at this
        exact this
    · rw [locS_neg _ b (by omega) hok, if_neg (by omega), if_neg (by simp)]
      by_cases hw : -9223372036854775808 ≤ b - cnt x.f1
      · rw [wr (n := b - cnt x.f1) (by omega), if_pos (by omega)]
        rfl
      · have e : wrap64 (b - cnt x.f1) = b - cnt x.f1 + 18446744073709551616 := by unfold wrap64; omega
        rw [e, if_neg (by omega)]
        have := locate_huge rest (pre ++ [x]) (b - cnt x.f1 + 18446744073709551616) k (by omega) (by simpa using hb) (fun y hy => hok y (by simp [hy])) (by omega) (by omega)
        rw [← push] at this
        exact this

theorem cnt_chain (l : List X) (hok : ∀ x ∈ l, okX x) (hc : chainB l = true) : ∀ b : Int, locS l b = none ↔ (b < 0 ∨ cnt (sumX l) ≤ b) := by
  induction l with
  | nil =>
    intro b
    have e : cnt (sumX []) = 0 := by simp [sumX, cnt]
    rw [e]
    have hz : b < 0 ∨ 0 ≤ b := by omega
    simp [locS, hz]
  | cons x r ih =>
    intro b
    have hx := hok x (by simp)
    have hb := cnt_bound hx
    cases r with
    | nil =>
      have e : sumX [x] = x.f1 := by simp [sumX]
      rw [e]
      simp only [locS]
      by_cases h1 : 0 ≤ b ∧ b < cnt x.f1
      · rw [if_pos h1]
        simp
        omega
      · rw [if_neg h1]
        by_cases h2 : b < cnt x.f1
        · rw [if_pos h2]; simp; omega
        · rw [if_neg h2]; simp; omega
    | cons y r =>
      simp only [chainB, Bool.and_eq_true, decide_eq_true_eq] at hc
      have hr := ih (fun z hz => hok z (by simp [hz])) hc.2
      have hs := (sumX_bound (y :: r) (fun z hz => hok z (by simp [hz]))).1
      have e : cnt (sumX (x :: y :: r)) = cnt x.f1 + cnt (sumX (y :: r)) := by
        rw [sumX_cons]
        have := hc.1.2.1
        unfold cnt
        omega
      have hp : 0 ≤ cnt (sumX (y :: r)) := by unfold cnt; omega
      rw [e]
      have hl : locS (x :: y :: r) b = if 0 ≤ b ∧ b < cnt x.f1 then some (x.f2.f0 + b, x.f2.f1, x.f0) else if b < cnt x.f1 then none else locS (y :: r) (b - cnt x.f1) := rfl
      rw [hl]
      by_cases h1 : 0 ≤ b ∧ b < cnt x.f1
      · rw [if_pos h1]
        simp
        omega
      · rw [if_neg h1]
        by_cases h2 : b < cnt x.f1
        · rw [if_pos h2]; simp; omega
        · rw [if_neg h2, hr]
          omega

theorem refLocate_loop (rest : List X) : ∀ (pre : List X) (b : Int) (k : Nat), rest.length < k → (pre ++ rest).length ≤ 64 → (∀ x ∈ rest, okX x) → 0 ≤ b → b ≤ 9223372036854775807 → locS rest b ≠ none →
    masterdiscref33_Locate.l0 k (pre ++ rest) b (pre.length : Int) = some (locR (locS rest b)) := by
  induction rest with
  | nil => intro pre b k _ _ _ _ _ h; exact absurd rfl h
  | cons x rest ih =>
    intro pre b k hk hb hok h0 h1 hne
    obtain ⟨k, rfl⟩ : ∃ m, k = m + 1 := ⟨k - 1, by omega⟩
    have hb' : pre.length + (rest.length + 1) ≤ 64 := by simpa using hb
    obtain ⟨_, _, h3, h4, h5, h6, _⟩ := hok x (by simp)
    have hc := cnt_bound (hok x (by simp))
    simp only [List.length_cons] at hk
    simp only [masterdiscref33_Locate.l0]
    rw [if_pos (by omega), if_pos (lt_mid pre rest x), rd_mid, next pre rest x (by omega), refCount_is (by omega)]
    simp only [Option.bind_some]
    by_cases hlt : b < cnt x.f1
    · have e : locS (x :: rest) b = some (x.f2.f0 + b, x.f2.f1, x.f0) := by simp only [locS]; rw [if_pos ⟨h0, hlt⟩]
      rw [e, if_neg (by omega), wr (by omega)]
      rfl
    · have e : locS (x :: rest) b = locS rest (b - cnt x.f1) := by simp only [locS]; rw [if_neg (fun h => hlt h.2), if_neg hlt]
      rw [e] at hne ⊢
      rw [if_pos (by omega), wr (n := b - cnt x.f1) (by omega)]
      have := ih (pre ++ [x]) (b - cnt x.f1) k (by omega) (by simpa using hb) (fun y hy => hok y (by simp [hy])) (by omega) (by omega) hne
      rw [← push] at this
      exact this

def locT (l : List X) (b : Int) : Int × Int × Int × Int := if validB l then locR (locS l b) else (0, 0, 0, 1)
theorem valid_parts {l : List X} (h : validB l = true) : l.length ≤ 64 ∧ (∀ x ∈ l, okX x) ∧ sumX l ≤ 1073739776 ∧ chainB l = true ∧ lenS l = sumX l := by
  simp only [validB, Bool.and_eq_true, decide_eq_true_eq] at h
  have h1 := h.1.1
  have h2 := h1
  simp only [formedB, decide_eq_true_eq] at h2
  exact ⟨h2.1, h2.2, h.1.2, h.2, by simp [lenS, h1]⟩
theorem locate_is (l : List X) (b : Int) (hb : l.length ≤ 4611686018427387904) (h0 : -9223372036854775808 ≤ b) (h1 : b ≤ 9223372036854775807) (k : Nat) (hk : 2 * l.length + 3 < k) :
    allocation_Locate.f k l b = some (locT l b) ∧ masterdiscref33_Locate.f k l b = some (locT l b) := by
  obtain ⟨k, rfl⟩ : ∃ m, k = m + 1 := ⟨k - 1, by omega⟩
  unfold allocation_Locate.f masterdiscref33_Locate.f
  rw [(valid_is l hb _ (by omega)).1, (valid_is l hb _ (by omega)).2, (length_is l hb _ (by omega)).2]
  simp only [Option.bind_some, locT]
  by_cases hv : validB l = true
  · obtain ⟨v1, v2, v3, v4, v5⟩ := valid_parts hv
    have hs := sumX_bound l v2
    rw [if_pos hv, if_pos hv, if_pos hv, v5, refCount_is (by omega)]
    refine ⟨?_, ?_⟩
    · have := locate_loop l [] b (k + 1) (by omega) (by simpa using v1) v2 h0 h1
      simpa using this
    · have hn := cnt_chain l v2 v4 b
      by_cases hneg : b < 0
      · rw [if_pos hneg, hn.2 (.inl hneg)]
        simp [masterdiscref33_Locate.j0, locR]
      · rw [if_neg hneg]
        simp only [Option.bind_some, masterdiscref33_Locate.j0]
        by_cases hge : b ≥ cnt (sumX l)
        · rw [if_pos (by simpa using hge), hn.2 (.inr hge)]
          rfl
        · rw [if_neg (by simpa using hge)]
          have := refLocate_loop l [] b k (by omega) (by simpa using v1) v2 (by omega) h1 (by rw [Ne, hn]; omega)
          simpa using this
  · rw [if_neg hv, if_neg hv, if_neg hv]
    exact ⟨rfl, rfl⟩
end Go.Proofs.Yticmghpnbjhhnaa.Alloc
