/-
  Decoding the block of an entry gives the entry, and an error for any other location: the pure statement.
-/
import Derived.Test.YticmghpnbjhhnabAwake34
import Derived.Test.YticmghpnbjhhnabDec34
import Derived.Test.YticmghpnbjhhnabRet34
import Derived.Test.YticmghpnbjhhnabM21
namespace Go.Proofs.Yticmghpnbjhhnab.Pure
open Go.RowKit Go.Proofs.Yticmghpnbjhhnab.M Go.Proofs.YticmghpnbjhhnabW.PrintWords Go.Proofs.Yticmghpnbjhhnab.Kit Go.Proofs.Yticmghpnbjhhnab.Num Go.Proofs.Yticmghpnbjhhnab.Alloc Go.Proofs.Yticmghpnbjhhnab.Icb Go.Proofs.Yticmghpnbjhhnab.Awake

theorem few_is (e : E) : ∃ b, masterdiscref34_Few.f e.f0 e.f1 e.f2 e.f3 e.f4 e.f5 e.f6 e.f7 e.f8 e.f9 e.f10 e.f11 e.f12 e.f13 e.f14 e.f15.f0 e.f15.f1 = some b ∧ (b = true → e.f11.size ≤ 2100 ∧ e.f12.length ≤ 120 ∧ e.f13.size ≤ 2100) := by
  unfold masterdiscref34_Few.f
  split
  · split
    · exact ⟨_, rfl, fun h => by have := of_decide_eq_true h; omega⟩
    · exact ⟨_, rfl, fun h => by cases h⟩
  · exact ⟨_, rfl, fun h => by cases h⟩
theorem IcbReturns : masterdisclaw34_IcbReturns.Pure := by
  intro e loc _ hl
  have hl := wf64 hl
  refine ⟨600, ?_⟩
  unfold masterdisclaw34_IcbReturns.f
  rw [awake_is 600 (by omega), Option.bind_some, if_pos rfl]
  obtain ⟨fb, hfb, hF⟩ := few_is e
  rw [hfb, Option.bind_some]
  cases fb
  · rfl
  obtain ⟨h1, h2, h3⟩ := hF rfl
  rw [if_pos rfl]
  rcases encode_any e (by omega) (by omega) (by omega) loc with ⟨c, hc, he⟩ | ⟨b, hC, he⟩
  · have h := he 600 (by omega)
    unfold encK at h
    rw [h, Option.bind_some, if_neg hc]
    exact if_pos (by show (bs []).toList = []; rw [ByteArray.toList_eq]; rfl)
  · have h := he 600 (by omega)
    unfold encK at h
    obtain ⟨Y, M, D, hh, mi, s, bl, hk, h0, rfl⟩ := hC.is
    have d1 := decode_is e hC.ok loc hC.lo hk bl hC.valid hC.fit 600 (by omega) loc
    have d2 := decode_is e hC.ok loc hC.lo hk bl hC.valid hC.fit 600 (by omega) (loc + 1)
    rw [if_pos rfl] at d1
    rw [if_neg (by omega)] at d2
    have hw : wrap64 (loc + 1) = loc + 1 := wr (by have := hC.lo; omega)
    have hs := same_refl e (by omega) 600 (by omega)
    rw [h, Option.bind_some, if_pos rfl, d1, Option.bind_some, hw, d2, Option.bind_some]
    unfold tupE
    dsimp only
    rw [hs, Option.bind_some]
    exact if_pos ⟨rfl, rfl, rfl⟩
end Go.Proofs.Yticmghpnbjhhnab.Pure
