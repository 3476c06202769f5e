/-
  Which lists of extents are well-formed.
-/
import Derived.Test.YticmghpnbjhhnabM3
import Derived.Test.YticmghpnbjhhnabKit
namespace Go.Proofs.Yticmghpnbjhhnab.Alloc
open Go.RowKit Go.Proofs.Yticmghpnbjhhnab.M Go.Proofs.YticmghpnbjhhnabW.PrintWords Go.Proofs.Yticmghpnbjhhnab.Kit
set_option linter.unusedVariables false

abbrev X := S69
theorem rd_mid (pre : List X) (x : X) (rest : List X) : rd_T69 (pre ++ x :: rest) (pre.length : Int) = x := getD_mid pre x _ rest

/-- An extent is well-formed. -/
def okX (x : X) : Prop := 0 ≤ x.f0 ∧ x.f0 ≤ 3 ∧ 1 ≤ x.f1 ∧ x.f1 < 1073741824 ∧ 0 ≤ x.f2.f0 ∧ x.f2.f0 < 4294967296 ∧ 0 ≤ x.f2.f1 ∧ x.f2.f1 ≤ 65535
instance (x : X) : Decidable (okX x) := by unfold okX; infer_instance
def formedB (l : List X) : Bool := decide (l.length ≤ 64 ∧ ∀ x ∈ l, okX x)

theorem formed_1_is (x : X) : allocation_formed_1.f x.f0 x.f1 x.f2.f0 x.f2.f1 = some (!decide (okX x)) := by
  unfold allocation_formed_1.f
  by_cases h : okX x
  · have h' := h
    obtain ⟨h1, h2, h3, h4, h5, h6, h7, h8⟩ := h
    rw [if_neg (by omega), if_neg (by omega), if_neg (by omega), if_neg (by omega), if_neg (by omega), if_neg (by omega), if_neg (by omega)]
    have : ¬ x.f2.f1 > 65535 := by omega
    simp [h', this]
  · have e : (!decide (okX x)) = true := by simp [h]
    rw [e]
    repeat' split
    all_goals first
      | rfl
      | (by_cases hz : x.f2.f1 > 65535
         · simp [hz]
         · exfalso; apply h; unfold okX; omega)

theorem index_is (rest : List X) : ∀ (pre : List X) (k : Nat), rest.length < k → (pre ++ rest).length ≤ 4611686018427387904 →
    ∃ r, slices_IndexFunc_api_Extent_at_allocation_formed_1.l0 k (pre ++ rest) ((pre ++ rest).length : Int) (pre.length : Int) = some r ∧ (decide (r ≥ 0)) = !decide (∀ x ∈ rest, okX x) := by
  induction rest with
  | nil =>
    intro pre k hk hb
    obtain ⟨k, rfl⟩ : ∃ m, k = m + 1 := ⟨k - 1, by omega⟩
    refine ⟨-1, ?_, by simp⟩
    simp only [slices_IndexFunc_api_Extent_at_allocation_formed_1.l0]
    rw [if_neg (not_lt_end pre)]
  | cons x rest ih =>
    intro pre k hk hb
    obtain ⟨k, rfl⟩ : ∃ m, k = m + 1 := ⟨k - 1, by omega⟩
    simp only [slices_IndexFunc_api_Extent_at_allocation_formed_1.l0]
    rw [if_pos (lt_mid pre rest x), if_pos (by omega), if_pos (lt_mid pre rest x), rd_mid, formed_1_is]
    simp only [Option.bind_some]
    by_cases h : okX x
    · rw [if_neg (by simp [h]), next pre rest x hb]
      obtain ⟨r, hr, hr2⟩ := ih (pre ++ [x]) k (by simp at hk; omega) (by simpa using hb)
      rw [← push] at hr
      exact ⟨r, hr, by rw [hr2]; simp [h]⟩
    · rw [if_pos (by simp [h])]
      exact ⟨_, rfl, by simp [h]⟩

theorem formed_is (l : List X) (hb : l.length ≤ 4611686018427387904) (k : Nat) (hk : l.length < k) : allocation_formed.f k l = some (formedB l) := by
  unfold allocation_formed.f slices_ContainsFunc_api_Extent_at_allocation_formed_1.f slices_IndexFunc_api_Extent_at_allocation_formed_1.f
  obtain ⟨r, hr, hr2⟩ := index_is l [] k hk (by simpa using hb)
  simp only [List.nil_append, List.length_nil] at hr
  by_cases h : l.length ≤ 64
  · rw [if_pos (by omega)]
    have e : ((0 : Nat) : Int) = 0 := rfl
    rw [e] at hr
    rw [hr]
    simp only [Option.bind_some, hr2, formedB]
    simp [h]
  · rw [if_neg (by omega)]
    simp [formedB, h]

end Go.Proofs.Yticmghpnbjhhnab.Alloc
