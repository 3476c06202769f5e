/-
  Rounded and Extents return what the definitions specify: the pure statement.
-/
import Derived.Test.YticmghpnbjhhnaaAwake
import Derived.Test.YticmghpnbjhhnaaExt
import Derived.Test.YticmghpnbjhhnaaM11
namespace Go.Proofs.Yticmghpnbjhhnaa.Pure
open Go.RowKit Go.Proofs.Yticmghpnbjhhnaa.M Go.Proofs.YticmghpnbjhhnaaW.PrintWords Go.Proofs.Yticmghpnbjhhnaa.Kit Go.Proofs.Yticmghpnbjhhnaa.Alloc Go.Proofs.Yticmghpnbjhhnaa.Meta Go.Proofs.Yticmghpnbjhhnaa.Ext

theorem refExt_loop (start count : Int) (hs : 0 ≤ start ∧ start ≤ 1099511627776) (hc : count ≤ 4294967296) (rest : List Int) : ∀ (pre : List Int) (acc : List X) (k : Nat), 3 * rest.length + 8 < k → (pre ++ rest).length ≤ 150 → Inv pre.length acc → (∀ v ∈ rest, -9223372036854775808 ≤ v ∧ v ≤ 9223372036854775807) →
    masterdiscref40_Extents.l0 k (pre ++ rest) acc (pre.length : Int) start count = some (extS start count acc rest) := by
  induction rest with
  | nil =>
    intro pre acc k hk hb _ _
    obtain ⟨k, rfl⟩ : ∃ m, k = m + 1 := ⟨k - 1, by omega⟩
    simp only [masterdiscref40_Extents.l0, extS]
    rw [if_neg (not_lt_end pre)]
    by_cases h : acc.length > 64
    · rw [if_pos (by omega), if_pos h]
    · rw [if_neg (by omega), if_neg h]
  | cons v rest ih =>
    intro pre acc k hk hb hinv hw
    obtain ⟨k, rfl⟩ : ∃ m, k = m + 3 := ⟨k - 3, by simp at hk; omega⟩
    have hb' : pre.length + (rest.length + 1) ≤ 150 := by simpa using hb
    have hv := hw v (by simp)
    simp only [List.length_cons] at hk
    have hp : (0 : Int) ≤ (pre.length : Int) := by omega
    simp only [masterdiscref40_Extents.l0, masterdiscref40_Extents.j1, masterdiscref40_Extents.j2, if_true, decide_eq_true_eq, Bool.false_eq_true, if_false]
    rw [if_pos (lt_mid pre rest v), if_pos hp, rd_int, next pre rest v (by omega), if_pos hp, if_pos (lt_mid pre rest v)]
    by_cases c1 : v < start
    · rw [if_pos c1]
      simp only [extS]
      rw [if_pos (.inl c1)]
    · rw [if_neg c1, wr (n := v - start) (by omega)]
      by_cases c2 : v - start ≥ count
      · rw [if_pos c2]
        simp only [extS]
        rw [if_pos (.inr c2)]
      · rw [if_neg c2]
        have hi := inv_add hinv (v - start) (by omega)
        have e : extS start count acc (v :: rest) = extS start count (joinAdd acc (mk (v - start))) rest := by simp only [extS]; rw [if_neg (by omega)]
        rw [e]
        have go := ih (pre ++ [v]) (joinAdd acc (mk (v - start))) k (by omega) (by simpa using hb) (by simpa using hi) (fun z hz => hw z (by simp [hz]))
        rw [← push] at go
        have em : (⟨0, 2048, ⟨v - start, 0⟩⟩ : X) = mk (v - start) := rfl
        have hal := hinv.1
        rcases List.eq_nil_or_concat acc with rfl | ⟨init, y, rfl⟩
        · rw [if_neg (by simp), if_pos (by simp)]
          exact go
        · rw [List.concat_eq_append] at *
          have hil : init.length + 1 ≤ pre.length := by simpa using hal
          obtain ⟨y1, y2, y3, y4, y5, y6, y7⟩ := hinv.2 y (by simp)
          have hll : (init.length : Int) < ((init ++ [y]).length : Int) := by simp; omega
          rw [em, len_last init y (by omega), if_pos (by simp), if_pos (by omega), if_pos hll, rd_last, Int.tdiv_eq_ediv_of_nonneg (by omega), wr (n := y.f1 / 2048) (by omega), wr (n := y.f2.f0 + y.f1 / 2048) (by omega), wr (n := y.f1 + 2048) (by omega)]
          have hjiff : joinsP y (mk (v - start)) ↔ (y.f2.f0 + y.f1 / 2048 = v - start ∧ y.f1 + 2048 ≤ 1073739776) := by
            unfold joinsP mk
            constructor
            · intro h; exact ⟨h.2.2.1, h.2.2.2.2⟩
            · intro h; exact ⟨y1, y3, h.1, y2, h.2⟩
          by_cases hj : joinsP y (mk (v - start))
          · rw [joinAdd_yes init y _ hj] at go ⊢
            have hj' := hjiff.1 hj
            rw [if_pos hj'.1, if_pos hj'.2, if_pos (by omega), if_pos hll, set_last]
            exact go
          · rw [joinAdd_no init y _ hj] at go ⊢
            have hlen : (init ++ [y]).length < 4398046511104 := by simp; omega
            simp only [if_pos hlen]
            by_cases h1 : y.f2.f0 + y.f1 / 2048 = v - start
            · rw [if_pos h1, if_neg (fun h2 => hj (hjiff.2 ⟨h1, h2⟩))]
              exact go
            · rw [if_neg h1]
              exact go

theorem refExtents_is (start count : Int) (hs : 0 ≤ start ∧ start ≤ 1099511627776) (hc : count ≤ 4294967296) (l : List Int) (hl : l.length ≤ 150) (hw : ∀ v ∈ l, -9223372036854775808 ≤ v ∧ v ≤ 9223372036854775807) (k : Nat) (hk : 460 < k) :
    masterdiscref40_Extents.f k start count l = some (extS start count [] l) := by
  unfold masterdiscref40_Extents.f
  have := refExt_loop start count hs hc l [] [] k (by omega) (by simpa using hl) ⟨by simp, by simp⟩ hw
  simpa using this

theorem rounded_same (n : Int) : ∃ r, metadata_Rounded.f n = some r ∧ masterdiscref40_Rounded.f n = some r := by
  unfold metadata_Rounded.f masterdiscref40_Rounded.f
  by_cases h1 : n < 0
  · exact ⟨0, by rw [if_pos h1], by rw [if_pos h1]⟩
  · by_cases h2 : n > 4096
    · exact ⟨0, by rw [if_neg h1, if_pos h2], by rw [if_neg h1, if_pos h2]⟩
    · exact ⟨_, by rw [if_neg h1, if_neg h2], by rw [if_neg h1, if_neg h2]⟩

theorem MetadataExtents : masterdisclaw40_MetadataExtents.Pure := by
  intro p l n hp hl hn
  refine ⟨600, ?_⟩
  unfold masterdisclaw40_MetadataExtents.f
  rw [awake_is 600 (by omega)]
  simp only [Option.bind_some, if_true, masterdisclaw40_MetadataExtents.j0, decide_eq_true_eq]
  by_cases c1 : (l.length : Int) > 150
  · rw [if_pos c1]
  · rw [if_neg c1]
    by_cases c2 : p.f0 < 0
    · rw [if_pos c2]
    · rw [if_neg c2]
      by_cases c3 : p.f0 > 1099511627776
      · rw [if_pos c3]
      · rw [if_neg c3]
        by_cases c4 : p.f1 > 4294967296
        · rw [if_pos c4]
        · rw [if_neg c4]
          have hw : ∀ v ∈ l, -9223372036854775808 ≤ v ∧ v ≤ 9223372036854775807 := fun v hv => wf64 (hl.2 v hv)
          rw [extents_is p.f0 p.f1 (by omega) (by omega) l (by omega) hw 599 (by omega), refExtents_is p.f0 p.f1 (by omega) (by omega) l (by omega) hw 599 (by omega)]
          obtain ⟨r, h1, h2⟩ := rounded_same n
          rw [h1, h2]
          simp only [Option.bind_some, if_true]
          have := extS_len p.f0 p.f1 l []
          rw [equal_same _ (by omega) 599 (by omega)]
          simp
end Go.Proofs.Yticmghpnbjhhnaa.Pure
