/-
  Permissions and Mode return what the definitions specify, for any numbers, and the mode of the permissions and the flags of a mode is the mode: the pure statement.
-/
import Derived.Test.YticmghpnbjhhnabAwake34
import Derived.Test.YticmghpnbjhhnabModes
import Derived.Test.YticmghpnbjhhnabM20
namespace Go.Proofs.Yticmghpnbjhhnab.Pure
open Go.RowKit Go.Proofs.Yticmghpnbjhhnab.M Go.Proofs.YticmghpnbjhhnabW.PrintWords Go.Proofs.Yticmghpnbjhhnab.Kit Go.Proofs.Yticmghpnbjhhnab.Modes Go.Proofs.Yticmghpnbjhhnab.Awake

theorem IcbModes : masterdisclaw34_IcbModes.Pure := by
  intro n p f hn hp hf
  refine ⟨61, ?_⟩
  unfold masterdisclaw34_IcbModes.f
  rw [awake_is 61 (by omega), Option.bind_some, if_pos rfl]
  have hm : ∃ m, icb_Mode.f 61 p f = some m ∧ masterdiscref34_Mode.f p f = some m := by
    rw [refMode_is]
    cases h : modeOk p f
    · exact ⟨0, mode_out p f h 61 (by omega), rfl⟩
    · exact ⟨_, mode_is p f h 61 (by omega), rfl⟩
  obtain ⟨m, hm1, hm2⟩ := hm
  by_cases c : 0 ≤ n ∧ n ≤ 4095
  · have hb := modeP_back n 0 c (by omega)
    rw [Int.add_zero] at hb
    rw [permissions_is n c 61 (by omega), refPermissions_is n c 61 (by omega), hm1, hm2]
    simp only [Option.bind_some, if_true, bne_self_eq_false]
    rw [masterdisclaw34_IcbModes.j0, if_neg (by decide), if_neg (by omega), if_neg (by omega), mode_is _ _ hb.1 60 (by omega), hb.2]
    simp
  · rw [permissions_out n c 61, refPermissions_out n c 61 (by omega), hm1, hm2]
    simp only [Option.bind_some, if_true, bne_self_eq_false]
    rw [masterdisclaw34_IcbModes.j0, if_neg (by decide)]
    by_cases h : n < 0
    · rw [if_pos h]
    · rw [if_neg h, if_pos (by omega)]
end Go.Proofs.Yticmghpnbjhhnab.Pure
