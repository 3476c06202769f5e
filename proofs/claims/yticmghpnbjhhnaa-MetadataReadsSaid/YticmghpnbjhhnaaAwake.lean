/-
  The examples of chapter 40, which each of its laws checks first, hold.
-/
import Derived.Test.YticmghpnbjhhnaaM8
namespace Go.Proofs.Yticmghpnbjhhnaa.Meta
open Go.RowKit Go.Proofs.Yticmghpnbjhhnaa.M Go.Proofs.YticmghpnbjhhnaaW.PrintWords
theorem awake_is (k : Nat) (hk : 20 ≤ k) : masterdisclaw40_awake.f k = some true := at_rounds masterdisclaw40_awake.mono hk (by decide +kernel)
end Go.Proofs.Yticmghpnbjhhnaa.Meta
