/-
  Size and Locations return what the definitions specify: the pure statement.
-/
import Derived.Test.YticmghpnbjhhnaaMeta
import Derived.Test.YticmghpnbjhhnaaM16
namespace Go.Proofs.Yticmghpnbjhhnaa.Pure
open Go.RowKit Go.Proofs.Yticmghpnbjhhnaa.M Go.Proofs.YticmghpnbjhhnaaW.PrintWords Go.Proofs.Yticmghpnbjhhnaa.Kit Go.Proofs.Yticmghpnbjhhnaa.Alloc Go.Proofs.Yticmghpnbjhhnaa.Meta

theorem MetadataLocates : masterdisclaw40_MetadataLocates.Pure := by
  intro m b hm hb
  have hb' := wf64 hb
  refine ⟨400, ?_⟩
  unfold masterdisclaw40_MetadataLocates.f
  rw [awake_is 400 (by omega)]
  simp only [Option.bind_some, if_true]
  rcases few_is m.f0 m.f1.f0 m.f1.f1 m.f2 m.f3 m.f4 m.f5 400 (by omega) with h | ⟨h, h5, h6, hs0, hs1, _⟩
  · rw [h]
    rfl
  · rw [h]
    have hL := locations_is m.f0 m.f1.f0 m.f1.f1 m.f2 m.f3 m.f4 m.f5 b ⟨hs0, hs1⟩ (by omega) (by omega) hb'.1 hb'.2 400 (by omega)
    have hS := size_is m.f0 m.f1.f0 m.f1.f1 m.f2 m.f3 m.f4 m.f5 h5 h6 400 (by omega)
    rw [hL.1, hL.2, hS.1, hS.2]
    simp
end Go.Proofs.Yticmghpnbjhhnaa.Pure
