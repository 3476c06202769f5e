/-
  The examples of chapter 34, which each of its laws checks first, hold.
-/
import Derived.Test.YticmghpnbjhhnabM18
namespace Go.Proofs.Yticmghpnbjhhnab.Awake
open Go.RowKit Go.Proofs.Yticmghpnbjhhnab.M Go.Proofs.YticmghpnbjhhnabW.PrintWords
set_option maxRecDepth 100000 in
theorem awake_is (k : Nat) (hk : 40 ≤ k) : masterdisclaw34_awake.f k = some true := at_rounds masterdisclaw34_awake.mono hk (by decide +kernel)
end Go.Proofs.Yticmghpnbjhhnab.Awake
