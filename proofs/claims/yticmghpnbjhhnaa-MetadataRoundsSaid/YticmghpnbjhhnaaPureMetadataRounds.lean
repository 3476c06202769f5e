/-
  Rounded returns the least multiple of 8 that is not less than a number: the pure statement.
-/
import Derived.Test.YticmghpnbjhhnaaMeta
import Derived.Test.YticmghpnbjhhnaaM18
namespace Go.Proofs.Yticmghpnbjhhnaa.Pure
open Go.RowKit Go.Proofs.Yticmghpnbjhhnaa.M Go.Proofs.YticmghpnbjhhnaaW.PrintWords Go.Proofs.Yticmghpnbjhhnaa.Kit Go.Proofs.Yticmghpnbjhhnaa.Alloc Go.Proofs.Yticmghpnbjhhnaa.Meta

theorem MetadataRounds : masterdisclaw40_MetadataRounds.Pure := by
  intro n hn
  have hn' : 0 ≤ n ∧ n ≤ 65535 := by simpa [Lit.wf, IntKind.min, IntKind.max, IntKind.signed, IntKind.bits] using hn
  refine ⟨20, ?_⟩
  unfold masterdisclaw40_MetadataRounds.f
  rw [awake_is 20 (by omega)]
  simp only [Option.bind_some, if_true]
  rw [wr (n := n) (by omega), wr (n := n + 8) (by omega)]
  unfold metadata_Rounded.f
  rw [if_neg (by omega)]
  by_cases h : n > 4096
  · rw [if_pos h]
    simp only [Option.bind_some]
    rw [if_pos h]
    rfl
  · rw [if_neg h, wr (n := n + 8) (by omega), wr (n := n + 8 - 1) (by omega), Int.tdiv_eq_ediv_of_nonneg (by omega), wr (n := (n + 8 - 1) / 8) (by omega), wr (n := (n + 8 - 1) / 8 * 8) (by omega)]
    simp only [Option.bind_some]
    rw [if_neg h, if_pos (by omega), if_pos (by omega), Int.tmod_eq_emod_of_nonneg (by omega)]
    have e : (n + 8 - 1) / 8 * 8 % 8 = 0 := by omega
    rw [e]
    rfl
end Go.Proofs.Yticmghpnbjhhnaa.Pure
