/-
  What the functions of package metadata and of its reference compute: sizes, locations, and the examples that each law checks first.
-/
import Derived.Test.YticmghpnbjhhnaaAlloc
import Derived.Test.YticmghpnbjhhnaaAwake
import Derived.Test.YticmghpnbjhhnaaM13
import Derived.Test.YticmghpnbjhhnaaM15
namespace Go.Proofs.Yticmghpnbjhhnaa.Meta
open Go.RowKit Go.Proofs.Yticmghpnbjhhnaa.M Go.Proofs.YticmghpnbjhhnaaW.PrintWords Go.Proofs.Yticmghpnbjhhnaa.Kit Go.Proofs.Yticmghpnbjhhnaa.Alloc
set_option linter.unusedVariables false

def sizeS (l : List X) : Int := if validB l then cnt (sumX l) else 0
theorem sizeS_bound (l : List X) : 0 ≤ sizeS l ∧ sizeS l ≤ 524288 := by
  unfold sizeS
  split
  · rename_i h
    obtain ⟨v1, v2, v3, v4, v5⟩ := valid_parts h
    have := sumX_bound l v2
    unfold cnt
    omega
  · omega
theorem refSize_is (l : List X) (hb : l.length ≤ 4611686018427387904) (k : Nat) (hk : 2 * l.length + 1 < k) : masterdiscref40_size.f k l = some (sizeS l) := by
  unfold masterdiscref40_size.f
  rw [(valid_is l hb _ hk).2, (length_is l hb _ (by omega)).2]
  simp only [Option.bind_some, sizeS]
  by_cases h : validB l = true
  · obtain ⟨v1, v2, v3, v4, v5⟩ := valid_parts h
    have := sumX_bound l v2
    rw [if_pos h, if_pos h, v5, refCount_is (by omega)]
    rfl
  · rw [if_neg h, if_neg h]

theorem sizes_step (acc : List Int) (ls : List (List X)) (i : Int) (h0 : 0 ≤ i) (h1 : i < ls.length) (ha : acc.length < 1000) (hn : ls.length < 1000) (hl : (rd_L6 ls i).length ≤ 4611686018427387904) (k : Nat) (hk : 2 * (rd_L6 ls i).length + 1 < k) :
    metadata_sizes.l0 (k + 1) acc ls (ls.length : Int) i = metadata_sizes.l0 k (acc ++ [sizeS (rd_L6 ls i)]) ls (ls.length : Int) (i + 1) := by
  simp only [metadata_sizes.l0]
  rw [if_pos h1, if_pos h0, if_pos h1, (valid_is _ hl _ hk).1, (length_is _ hl _ (by omega)).1, wr (n := i + 1) (by omega)]
  simp only [Option.bind_some]
  by_cases h : validB (rd_L6 ls i) = true
  · obtain ⟨v1, v2, v3, v4, v5⟩ := valid_parts h
    have := sumX_bound _ v2
    rw [if_pos h, if_pos (by omega), v5]
    congr 2
    simp only [sizeS, h, if_true, List.cons.injEq, and_true]
    have := blocks_is (n := sumX (rd_L6 ls i)) (by omega)
    unfold allocation_blocks.f at this
    exact Option.some.inj this
  · rw [if_neg h, if_pos (by omega)]
    congr 2
    simp [sizeS, h]

theorem size_is (l0 : List S96) (a1 a2 : Int) (l3 : List Int) (l4 : List S98) (a b : List X) (ha : a.length ≤ 70) (hb : b.length ≤ 70) (k : Nat) (hk : 160 < k) :
    metadata_Size.f k l0 a1 a2 l3 l4 a b = some (mx (sizeS a) (sizeS b)) ∧ masterdiscref40_Size.f k l0 a1 a2 l3 l4 a b = some (mx (sizeS a) (sizeS b)) := by
  constructor
  · obtain ⟨k, rfl⟩ : ∃ m, k = m + 3 := ⟨k - 3, by omega⟩
    unfold metadata_Size.f metadata_sizes.f
    have s1 := sizes_step [] [a, b] 0 (by omega) (by simp) (by simp) (by simp) (show a.length ≤ _ by omega) (k + 2) (show 2 * a.length + 1 < k + 2 by omega)
    have s2 := sizes_step ([] ++ [sizeS a]) [a, b] 1 (by omega) (by simp) (by simp) (by simp) (show b.length ≤ _ by omega) (k + 1) (show 2 * b.length + 1 < k + 1 by omega)
    have e : (k + 3) = (k + 2) + 1 := rfl
    rw [e, s1]
    show ((metadata_sizes.l0 (k + 1 + 1) ([] ++ [sizeS a]) [a, b] _ (0 + 1)).bind _) = _
    rw [Int.zero_add, s2]
    simp only [metadata_sizes.l0]
    rw [if_neg (by simp)]
    simp only [Option.bind_some, List.nil_append, List.cons_append]
    unfold slices_Max_int.f
    simp only [slices_Max_int.l0]
    rw [if_neg (by simp), if_pos (by simp), if_pos (by simp), if_pos (by omega), if_neg (by rw [wr (by omega)]; simp)]
    rfl
  · unfold masterdiscref40_Size.f
    rw [refSize_is a (by omega) k (by omega), refSize_is b (by omega) k (by omega)]
    rfl

theorem locS_range (l : List X) (hok : ∀ x ∈ l, okX x) : ∀ b a p q, locS l b = some (a, p, q) → 0 ≤ a ∧ a ≤ 8589934592 := by
  induction l with
  | nil => intro b a p q h; cases h
  | cons x r ih =>
    intro b a p q h
    have hx := hok x (by simp)
    have hc := cnt_bound hx
    obtain ⟨_, _, _, _, h5, h6, _⟩ := hx
    simp only [locS] at h
    by_cases h1 : 0 ≤ b ∧ b < cnt x.f1
    · rw [if_pos h1] at h
      simp only [Option.some.injEq, Prod.mk.injEq] at h
      omega
    · rw [if_neg h1] at h
      by_cases h2 : b < cnt x.f1
      · rw [if_pos h2] at h; cases h
      · rw [if_neg h2] at h
        exact ih (fun y hy => hok y (by simp [hy])) _ _ _ _ h
theorem locT_range (l : List X) (b : Int) : 0 ≤ (locT l b).1 ∧ (locT l b).1 ≤ 8589934592 := by
  unfold locT
  split
  · rename_i h
    obtain ⟨v1, v2, v3, v4, v5⟩ := valid_parts h
    cases e : locS l b with
    | none => simp [locR]
    | some t => obtain ⟨a, p, q⟩ := t; exact locS_range l v2 b a p q e
  · simp

def locn (start count : Int) (l : List X) (b : Int) : Int := if (locT l b).2.2.2 = 0 then if (locT l b).2.2.1 = 0 then if (locT l b).1 ≥ count then -1 else start + (locT l b).1 else -1 else -1
theorem location_is (l0 : List S96) (a1 a2 : Int) (l3 : List Int) (l4 : List S98) (l5 l6 l : List X) (b : Int) (hs : 0 ≤ a1 ∧ a1 ≤ 1099511627776) (hl : l.length ≤ 150) (h0 : -9223372036854775808 ≤ b) (h1 : b ≤ 9223372036854775807) (k : Nat) (hk : 310 < k) :
    metadata_location.f k l0 a1 a2 l3 l4 l5 l6 l b = some (locn a1 a2 l b) ∧ masterdiscref40_location.f k l0 a1 a2 l3 l4 l5 l6 l b = some (locn a1 a2 l b) := by
  have hr := locT_range l b
  obtain ⟨k, rfl⟩ : ∃ m, k = m + 1 := ⟨k - 1, by omega⟩
  unfold metadata_location.f masterdiscref40_location.f
  rw [(locate_is l b (by omega) h0 h1 (k + 1) (by omega)).1, (locate_is l b (by omega) h0 h1 (k + 1) (by omega)).2]
  simp only [Option.bind_some, locn, metadata_location.j0, masterdiscref40_location.j0, if_true, decide_eq_true_eq]
  rw [wr (n := a1 + (locT l b).1) (by omega)]
  by_cases c1 : (locT l b).2.2.2 = 0
  · by_cases c2 : (locT l b).2.2.1 = 0
    · have c0 : ¬ (locT l b).1 < 0 := by omega
      by_cases c3 : (locT l b).1 ≥ a2
      · exact ⟨by simp only [if_pos c1, if_pos c2, if_pos c3, if_neg c0], by simp only [if_pos c1, if_pos c2, if_pos c3]⟩
      · exact ⟨by simp only [if_pos c1, if_pos c2, if_neg c3, if_neg c0], by simp only [if_pos c1, if_pos c2, if_neg c3]⟩
    · exact ⟨by simp only [if_pos c1, if_neg c2], by simp only [if_pos c1, if_neg c2]⟩
  · exact ⟨by simp only [if_neg c1], by simp only [if_neg c1]⟩

def locsS (a1 a2 : Int) (l5 l6 : List X) (b : Int) : Int × Int × Int := if locn a1 a2 l5 b = -1 then if locn a1 a2 l6 b = -1 then (0, 0, 2) else (locn a1 a2 l5 b, locn a1 a2 l6 b, 0) else (locn a1 a2 l5 b, locn a1 a2 l6 b, 0)
theorem locations_is (l0 : List S96) (a1 a2 : Int) (l3 : List Int) (l4 : List S98) (l5 l6 : List X) (b : Int) (hs : 0 ≤ a1 ∧ a1 ≤ 1099511627776) (h5 : l5.length ≤ 150) (h6 : l6.length ≤ 150) (h0 : -9223372036854775808 ≤ b) (h1 : b ≤ 9223372036854775807) (k : Nat) (hk : 310 < k) :
    metadata_Locations.f k l0 a1 a2 l3 l4 l5 l6 b = some (locsS a1 a2 l5 l6 b) ∧ masterdiscref40_Locations.f k l0 a1 a2 l3 l4 l5 l6 b = some (locsS a1 a2 l5 l6 b) := by
  obtain ⟨k, rfl⟩ : ∃ m, k = m + 1 := ⟨k - 1, by omega⟩
  unfold metadata_Locations.f masterdiscref40_Locations.f
  rw [(location_is l0 a1 a2 l3 l4 l5 l6 l5 b hs h5 h0 h1 _ hk).1, (location_is l0 a1 a2 l3 l4 l5 l6 l5 b hs h5 h0 h1 _ hk).2, (location_is l0 a1 a2 l3 l4 l5 l6 l6 b hs h6 h0 h1 _ hk).1, (location_is l0 a1 a2 l3 l4 l5 l6 l6 b hs h6 h0 h1 _ hk).2]
  simp only [Option.bind_some, locsS, metadata_Locations.j0, masterdiscref40_Locations.j0]
  by_cases c1 : locn a1 a2 l5 b = -1
  · by_cases c2 : locn a1 a2 l6 b = -1
    · simp [c1, c2]
    · simp [c1, c2]
  · simp [c1]

/-- What Few says. -/
theorem few_is (l0 : List S96) (a1 a2 : Int) (l3 : List Int) (l4 : List S98) (l5 l6 : List X) (k : Nat) (hk : 160 < k) :
    masterdiscref40_Few.f k l0 a1 a2 l3 l4 l5 l6 = some false ∨ (masterdiscref40_Few.f k l0 a1 a2 l3 l4 l5 l6 = some true ∧ l5.length ≤ 70 ∧ l6.length ≤ 70 ∧ 0 ≤ a1 ∧ a1 ≤ 1099511627776 ∧ mx (sizeS l5) (sizeS l6) ≤ 300) := by
  unfold masterdiscref40_Few.f
  by_cases c1 : (l5.length : Int) ≤ 70
  · rw [if_pos c1]
    by_cases c2 : (l6.length : Int) ≤ 70
    · rw [if_pos c2]
      by_cases c3 : a1 ≥ 0
      · rw [if_pos c3]
        by_cases c4 : a1 ≤ 1099511627776
        · rw [if_pos c4]
          by_cases c5 : a2 ≤ 1099511627776
          · rw [if_pos c5, (size_is l0 a1 a2 l3 l4 l5 l6 (by omega) (by omega) k hk).2]
            simp only [Option.bind_some]
            by_cases c6 : mx (sizeS l5) (sizeS l6) ≤ 300
            · right; exact ⟨by simp [c6], by omega, by omega, by omega, by omega, c6⟩
            · left; simp [c6]
          · rw [if_neg c5]; exact .inl rfl
        · rw [if_neg c4]; exact .inl rfl
      · rw [if_neg c3]; exact .inl rfl
    · rw [if_neg c2]; exact .inl rfl
  · rw [if_neg c1]; exact .inl rfl
end Go.Proofs.Yticmghpnbjhhnaa.Meta
