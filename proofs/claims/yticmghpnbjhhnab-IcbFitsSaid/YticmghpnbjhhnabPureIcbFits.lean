/-
  A valid entry is encoded exactly if its contents, or 16 bytes for each extent, have room, and the extended attributes fit: the pure statement.
-/
import Derived.Test.YticmghpnbjhhnabAwake34
import Derived.Test.YticmghpnbjhhnabEnc34
import Derived.Test.YticmghpnbjhhnabM22
namespace Go.Proofs.Yticmghpnbjhhnab.Pure
open Go.RowKit Go.Proofs.Yticmghpnbjhhnab.M Go.Proofs.YticmghpnbjhhnabW.PrintWords Go.Proofs.Yticmghpnbjhhnab.Kit Go.Proofs.Yticmghpnbjhhnab.Num Go.Proofs.Yticmghpnbjhhnab.Alloc Go.Proofs.Yticmghpnbjhhnab.Icb Go.Proofs.Yticmghpnbjhhnab.Awake

theorem few_is (e : E) : ∃ b, masterdiscref34_Few.f e.f0 e.f1 e.f2 e.f3 e.f4 e.f5 e.f6 e.f7 e.f8 e.f9 e.f10 e.f11 e.f12 e.f13 e.f14 e.f15.f0 e.f15.f1 = some b ∧ (b = true → e.f11.size ≤ 2100 ∧ e.f12.length ≤ 120 ∧ e.f13.size ≤ 2100) := by
  unfold masterdiscref34_Few.f
  split
  · split
    · exact ⟨_, rfl, fun h => by have := of_decide_eq_true h; omega⟩
    · exact ⟨_, rfl, fun h => by cases h⟩
  · exact ⟨_, rfl, fun h => by cases h⟩
theorem wfu32 {n : Int} (h : (Lit.int .u32 n).wf = true) : 0 ≤ n ∧ n ≤ 4294967295 := by
  simp [Lit.wf, IntKind.min, IntKind.max, IntKind.signed, IntKind.bits] at h; omega
theorem mx_is (x : Int) : mx 0 x = max 0 x := by unfold mx; split <;> omega
theorem room_is (e : E) (h : e.f13.size ≤ 2100) : icb_Room.f e.f0 e.f1 e.f2 e.f3 e.f4 e.f5 e.f6 e.f7 e.f8 e.f9 e.f10 e.f11 e.f12 e.f13 e.f14 e.f15.f0 e.f15.f1 = some (max 0 (2048 - fixE e - (e.f13.size : Int))) := by
  unfold icb_Room.f icb_forms.f fixE
  cases e.f0
  · rw [if_neg (by decide), if_neg (by decide)]
    simp only [Option.bind_some]
    rw [wr (n := 2048 - 176) (by omega), wr (by omega), mx_is]
  · rw [if_pos rfl, if_pos rfl]
    simp only [Option.bind_some]
    rw [wr (n := 2048 - 216) (by omega), wr (by omega), mx_is]
theorem IcbFits : masterdisclaw34_IcbFits.Pure := by
  intro e loc _ hl
  have hl := wfu32 hl
  refine ⟨500, ?_⟩
  unfold masterdisclaw34_IcbFits.f
  rw [awake_is 500 (by omega), Option.bind_some, if_pos rfl]
  obtain ⟨fb, hfb, hF⟩ := few_is e
  rw [hfb, Option.bind_some]
  cases fb
  · rfl
  obtain ⟨h1, h2, h3⟩ := hF rfl
  obtain ⟨v, hv0, hO⟩ := valid_is e (by omega) 301 (by omega)
  have hv : ∀ k, 300 < k → validK k e = some v := fun k hk => at_rounds (icb_Valid.mono _ _ _ _ _ _ _ _ _ _ _ _ _ _ _ _ _) hk hv0
  have hv5 := hv 500 (by omega)
  unfold validK at hv5
  rw [if_pos rfl, hv5, Option.bind_some]
  cases v
  · rfl
  have hE := hO rfl
  obtain ⟨Y, M, D, hh, mi, s, bl, _, _, henc⟩ := encode_is e (by omega) hE hv (by omega) (by omega) loc hl
  have he5 := henc 500 (by omega)
  unfold encK at he5
  rw [if_pos rfl, room_is e h3, Option.bind_some, wr (n := loc) (by omega), he5, Option.bind_some]
  have fx : fixE e = 216 ∧ e.f0 = true ∨ fixE e = 176 ∧ e.f0 = false := by unfold fixE; cases e.f0 <;> simp
  have fi : (if e.f0 = true then (216 : Int) else 176) = fixE e := rfl
  have ha : (e.f13.data.toList.length : Int) = (e.f13.size : Int) := by rw [data_len]
  have ht : ((tailL e).length : Int) = (e.f11.size : Int) + 16 * (e.f12.length : Int) := by
    unfold tailL
    by_cases c : e.f10 = true
    · rw [if_pos c, data_len, (hE.emb c).1]; simp
    · have := (hE.ext (Bool.eq_false_iff.mpr c)).1
      have h0 : e.f11.size = 0 := by rw [← data_len, ← ByteArray.toList_eq, this]; rfl
      rw [if_neg c, extsL_length, h0]; omega
  have f2 : 176 ≤ fixE e ∧ fixE e ≤ 216 := by omega
  rw [ha, ht]
  unfold masterdisclaw34_IcbFits.ok
  rw [fi, wr (n := 16 * (e.f12.length : Int)) (by omega), wr (n := (e.f11.size : Int) + 16 * (e.f12.length : Int)) (by omega), wr (n := 2048 - fixE e) (by omega)]
  by_cases g : (e.f13.size : Int) + ((e.f11.size : Int) + 16 * (e.f12.length : Int)) > 2048 - fixE e
  · rw [if_pos g]
    have hc : ¬ (decide ((e.f11.size : Int) + 16 * (e.f12.length : Int) ≤ max 0 (2048 - fixE e - (e.f13.size : Int))) && decide ((e.f13.size : Int) ≤ 2048 - fixE e)) = true := by
      rw [Bool.and_eq_true, decide_eq_true_eq, decide_eq_true_eq]
      omega
    exact if_pos (by rw [if_neg hc])
  · rw [if_neg g]
    have hc : (decide ((e.f11.size : Int) + 16 * (e.f12.length : Int) ≤ max 0 (2048 - fixE e - (e.f13.size : Int))) && decide ((e.f13.size : Int) ≤ 2048 - fixE e)) = true := by
      rw [Bool.and_eq_true, decide_eq_true_eq, decide_eq_true_eq]
      omega
    exact if_pos (by rw [if_pos hc])
end Go.Proofs.Yticmghpnbjhhnab.Pure
