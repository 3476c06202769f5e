/-
  Encode of package icb for any entry: an error and no bytes, or the block of the entry; and an entry is the same as itself.
-/
import Derived.Test.YticmghpnbjhhnabM17
import Derived.Test.YticmghpnbjhhnabEnc34
namespace Go.Proofs.Yticmghpnbjhhnab.Icb
open Go.RowKit Go.Proofs.Yticmghpnbjhhnab.M Go.Proofs.YticmghpnbjhhnabW.PrintWords Go.Proofs.YticmghpnbjhhnabW.PrintLast Go.Proofs.YticmghpnbjhhnabW.PrintMore Go.Proofs.Yticmghpnbjhhnab.Kit Go.Proofs.Yticmghpnbjhhnab.Num Go.Proofs.Yticmghpnbjhhnab.Alloc Go.Proofs.Yticmghpnbjhhnab.Modes Go.Proofs.Yticmghpnbjhhnab.Tag Go.Proofs.Yticmghpnbjhhnab.Cal
set_option linter.unusedVariables false

/-- Valid answers the same for all rounds. -/
theorem valid_all (e : E) (hb : e.f12.length ≤ 4611686018427387904) : ∃ v, (∀ k, 300 < k → validK k e = some v) ∧ (v = true → OkE e) := by
  obtain ⟨v, hv, hO⟩ := valid_is e hb 301 (by omega)
  exact ⟨v, fun k hk => at_rounds (icb_Valid.mono _ _ _ _ _ _ _ _ _ _ _ _ _ _ _ _ _) hk hv, hO⟩
/-- An entry is encoded: its block. -/
structure Coded (e : E) (loc : Int) (b : List UInt8) : Prop where
  ok : OkE e
  lo : 0 ≤ loc ∧ loc ≤ 4294967295
  valid : ∀ k, 300 < k → validK k e = some true
  fit : ¬ (e.f13.data.toList.length : Int) + (tailL e).length > 2048 - fixE e
  is : ∃ Y M D hh mi s bl, ClockOf e.f5 Y M D hh mi s ∧ 0 ≤ bl ∧ b = blockL (idE e) loc (bodyL e (stampL Y M D hh mi s) bl)
theorem encode_any (e : E) (hb : e.f12.length ≤ 4611686018427387904) (hat : e.f13.size ≤ 140737488351232) (hd : e.f11.size ≤ 140737488351232) (loc : Int) :
    (∃ c, c ≠ 0 ∧ ∀ k, 400 < k → encK k e loc = some (bs [], c)) ∨ (∃ b, Coded e loc b ∧ ∀ k, 400 < k → encK k e loc = some (bs b, 0)) := by
  obtain ⟨v, hv, hO⟩ := valid_all e hb
  cases v
  · refine Or.inl ⟨1, by decide, fun k hk => ?_⟩
    have h := hv k (by omega)
    unfold validK at h
    unfold encK icb_Encode.f
    rw [h, Option.bind_some, if_neg (by decide)]
    rfl
  · have hE := hO rfl
    by_cases hl : 0 ≤ loc ∧ loc ≤ 4294967295
    · obtain ⟨Y, M, D, hh, mi, s, bl, hc, h0, henc⟩ := encode_is e hb hE hv hat hd loc hl
      by_cases g : (e.f13.data.toList.length : Int) + (tailL e).length > 2048 - fixE e
      · refine Or.inl ⟨12, by decide, fun k hk => ?_⟩
        rw [henc k hk, if_pos g]
      · refine Or.inr ⟨_, ⟨hE, hl, hv, g, Y, M, D, hh, mi, s, bl, hc, h0, rfl⟩, fun k hk => ?_⟩
        rw [henc k hk, if_neg g]
    · refine Or.inl ⟨2, by decide, fun k hk => ?_⟩
      have h := hv k (by omega)
      unfold validK at h
      unfold encK icb_Encode.f
      rw [h, Option.bind_some, if_pos rfl, within_is, Option.bind_some, decide_eq_false hl, if_neg (by decide)]
      rfl
theorem extents_refl (rest : List X) : ∀ (pre : List X) (k : Nat), rest.length < k → (pre ++ rest).length ≤ 4611686018427387904 →
    masterdiscref34_Extents.l0 k (pre ++ rest) (pre ++ rest) (pre.length : Int) = some true := by
  induction rest with
  | nil =>
    intro pre k hk hb
    obtain ⟨k, rfl⟩ : ∃ m, k = m + 1 := ⟨k - 1, by omega⟩
    simp only [masterdiscref34_Extents.l0]
    rw [if_neg (not_lt_end pre)]
  | cons x rest ih =>
    intro pre k hk hb
    obtain ⟨k, rfl⟩ : ∃ m, k = m + 1 := ⟨k - 1, by omega⟩
    have hp : (0 : Int) ≤ (pre.length : Int) := by omega
    have := ih (pre ++ [x]) k (by simp at hk; omega) (by simpa using hb)
    rw [← push] at this
    rw [masterdiscref34_Extents.l0, if_pos (lt_mid pre rest x), if_pos hp, if_pos (lt_mid pre rest x), if_neg (by simp), next pre rest x (by omega), this]
theorem same_refl (e : E) (hb : e.f12.length ≤ 4611686018427387904) (k : Nat) (hk : e.f12.length < k) :
    masterdiscref34_Same.f k e.f0 e.f1 e.f2 e.f3 e.f4 e.f5 e.f6 e.f7 e.f8 e.f9 e.f10 e.f11 e.f12 e.f13 e.f14 e.f15.f0 e.f15.f1 e.f0 e.f1 e.f2 e.f3 e.f4 e.f5 e.f6 e.f7 e.f8 e.f9 e.f10 e.f11 e.f12 e.f13 e.f14 e.f15.f0 e.f15.f1 = some true := by
  have h : masterdiscref34_Extents.f k e.f12 e.f12 = some true := by
    unfold masterdiscref34_Extents.f
    rw [if_pos rfl]
    exact extents_refl e.f12 [] k (by omega) (by simpa using hb)
  unfold masterdiscref34_Same.f
  rw [if_pos (beq_self_eq_true _), if_pos rfl, if_pos rfl, if_pos rfl, if_pos rfl, if_pos rfl, if_pos rfl, if_pos rfl, if_pos rfl, if_pos rfl, if_pos (beq_self_eq_true _), if_pos rfl, h, Option.bind_some, if_pos rfl, if_pos rfl, if_pos (beq_self_eq_true _), beq_self_eq_true, beq_self_eq_true]
  rfl
end Go.Proofs.Yticmghpnbjhhnab.Icb
