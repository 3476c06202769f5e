/-
  Valid of package icb: it answers, and what is known of a valid entry.
-/
import Derived.Test.YticmghpnbjhhnabM7
import Derived.Test.YticmghpnbjhhnabAl34
import Derived.Test.YticmghpnbjhhnabModes
namespace Go.Proofs.Yticmghpnbjhhnab.Icb
open Go.RowKit Go.Proofs.Yticmghpnbjhhnab.M Go.Proofs.YticmghpnbjhhnabW.PrintWords Go.Proofs.YticmghpnbjhhnabW.PrintLast Go.Proofs.YticmghpnbjhhnabW.PrintMore Go.Proofs.Yticmghpnbjhhnab.Kit Go.Proofs.Yticmghpnbjhhnab.Num Go.Proofs.Yticmghpnbjhhnab.Alloc Go.Proofs.Yticmghpnbjhhnab.Modes
set_option linter.unusedVariables false

abbrev E := S31
/-- What is known of a valid entry. -/
structure OkE (e : E) : Prop where
  ty : 0 ≤ e.f1 ∧ e.f1 ≤ 255
  mode : 0 ≤ e.f2 ∧ e.f2 ≤ 4095
  uid : 0 ≤ e.f3 ∧ e.f3 ≤ 4294967295
  gid : 0 ≤ e.f4 ∧ e.f4 ≤ 4294967295
  uq : 0 ≤ e.f7 ∧ e.f7 ≤ 4294967295
  links : 0 ≤ e.f6 ∧ e.f6 ≤ 65535
  time : 315532800 ≤ e.f5 ∧ e.f5 ≤ 4102444799
  len : 0 ≤ e.f8 ∧ e.f8 ≤ 1073739776
  obj : e.f0 = true → e.f8 ≤ e.f9 ∧ e.f9 ≤ 1099511627776
  noobj : e.f0 = false → e.f9 = 0 ∧ e.f14 = false
  sb : 0 ≤ e.f15.f0 ∧ e.f15.f0 ≤ 4294967295
  sp : 0 ≤ e.f15.f1 ∧ e.f15.f1 ≤ 65535
  nos : e.f14 = false → e.f15.f0 = 0 ∧ e.f15.f1 = 0
  emb : e.f10 = true → e.f12 = [] ∧ (e.f11.size : Int) = e.f8
  ext : e.f10 = false → e.f11.toList = [] ∧ formedB e.f12 = true

theorem formed_take {l : List X} {n : Nat} (h : l.length ≤ 64) (h1 : formedB (l.take n) = true) (h2 : formedB (l.drop n) = true) : formedB l = true := by
  simp only [formedB, decide_eq_true_eq] at *
  refine ⟨h, fun x hx => ?_⟩
  rw [← List.take_append_drop n l] at hx
  rcases List.mem_append.1 hx with hx | hx
  · exact h1.2 x hx
  · exact h2.2 x hx
def extK (k : Nat) (e : E) := icb_extents.f k e.f0 e.f1 e.f2 e.f3 e.f4 e.f5 e.f6 e.f7 e.f8 e.f9 e.f10 e.f11 e.f12 e.f13 e.f14 e.f15.f0 e.f15.f1
def validK (k : Nat) (e : E) := icb_Valid.f k e.f0 e.f1 e.f2 e.f3 e.f4 e.f5 e.f6 e.f7 e.f8 e.f9 e.f10 e.f11 e.f12 e.f13 e.f14 e.f15.f0 e.f15.f1
theorem encodeLong_any (l : List X) (hb : l.length ≤ 4611686018427387904) (k : Nat) (hk : l.length + 10 < k) : ∃ s c, allocation_EncodeLong.f k l = some (s, c) ∧ (c = 0 → formedB l = true) := by
  by_cases h : formedB l = true
  · exact ⟨_, _, encodeLong_is l h k hk, fun _ => h⟩
  · exact ⟨_, _, encodeLong_not l hb (Bool.eq_false_iff.mpr h) k (by omega), fun h => by cases h⟩
theorem extents_is (e : E) (hb : e.f12.length ≤ 4611686018427387904) (k : Nat) (hk : 200 < k) : ∃ v, extK k e = some v ∧ (v = true → formedB e.f12 = true) := by
  unfold extK icb_extents.f
  generalize e.f12 = l at hb ⊢
  by_cases h64 : (l.length : Int) > 64
  · rw [if_pos h64]
    exact ⟨false, rfl, fun h => by cases h⟩
  · rw [if_neg h64]
    obtain ⟨k, rfl⟩ : ∃ m, k = m + 1 := ⟨k - 1, by omega⟩
    have hl : l.length ≤ 64 := by omega
    obtain ⟨v1, hv1, hf1⟩ := avalid_is l hb k (by omega)
    have hF : ∀ n, ∃ v, icb_extents.j0 (k + 1) l n false e.f0 e.f1 e.f2 e.f3 e.f4 e.f5 e.f6 e.f7 e.f8 e.f9 e.f10 e.f11 l e.f13 e.f14 e.f15.f0 e.f15.f1 = some v ∧ (v = true → formedB l = true) := by
      intro n
      simp only [icb_extents.j0, Bool.false_eq_true, if_false]
      rw [hv1, length_is l hb k (by omega)]
      simp only [Option.bind_some]
      split
      · exact ⟨_, rfl, fun _ => hf1 (by assumption)⟩
      · exact ⟨false, rfl, fun h => by cases h⟩
    have hT : ∀ n : Nat, n ≤ l.length → ∃ v, icb_extents.j0 (k + 1) l (n : Int) true e.f0 e.f1 e.f2 e.f3 e.f4 e.f5 e.f6 e.f7 e.f8 e.f9 e.f10 e.f11 l e.f13 e.f14 e.f15.f0 e.f15.f1 = some v ∧ (v = true → formedB l = true) := by
      intro n hn
      obtain ⟨s, c, h1, h2⟩ := encodeLong_any (l.drop n) (by simp; omega) k (by simp; omega)
      obtain ⟨v3, hv3, hf3⟩ := avalid_is (l.take n) (by simp; omega) k (by simp; omega)
      simp only [icb_extents.j0, if_true]
      rw [if_pos (by omega), if_pos (by omega), show ((n : Int)).toNat = n from rfl, h1]
      simp only [Option.bind_some]
      by_cases hc : c = 0
      · rw [if_pos hc, hv3, length_is (l.take n) (by simp; omega) k (by simp; omega)]
        simp only [Option.bind_some]
        split
        · exact ⟨_, rfl, fun _ => formed_take hl (hf3 (by assumption)) (h2 hc)⟩
        · exact ⟨false, rfl, fun h => by cases h⟩
      · rw [if_neg hc]
        exact ⟨false, rfl, fun h => by cases h⟩
    rw [wr (n := (l.length : Int) - 1) (by omega)]
    by_cases h0 : (l.length : Int) - 1 ≥ 0
    · rw [if_pos h0, if_pos h0, if_pos (by omega)]
      generalize ((rd_T69 l ((l.length : Int) - 1)).f0 == 3) = b
      cases b
      · exact hF _
      · rw [show (l.length : Int) - 1 = ((l.length - 1 : Nat) : Int) by omega]
        exact hT _ (by omega)
    · rw [if_neg h0]
      exact hF _
theorem valid_is (e : E) (hb : e.f12.length ≤ 4611686018427387904) (k : Nat) (hk : 300 < k) : ∃ v, validK k e = some v ∧ (v = true → OkE e) := by
  have F : ∀ {p : Prop}, ((false : Bool) = true → p) := fun h => by cases h
  obtain ⟨k, rfl⟩ : ∃ m, k = m + 3 := ⟨k - 3, by omega⟩
  unfold validK icb_Valid.f
  simp only [within_is, Option.bind_some, decide_eq_true_eq]
  by_cases h1 : 0 ≤ e.f1 ∧ e.f1 ≤ 255
  rotate_left
  · rw [if_neg h1]; exact ⟨false, rfl, F⟩
  by_cases h2 : 0 ≤ e.f2 ∧ e.f2 ≤ 4095
  rotate_left
  · rw [if_pos h1, if_neg h2]; exact ⟨false, rfl, F⟩
  by_cases h3 : 0 ≤ e.f3 ∧ e.f3 ≤ 4294967295
  rotate_left
  · rw [if_pos h1, if_pos h2, if_neg h3]; exact ⟨false, rfl, F⟩
  by_cases h4 : 0 ≤ e.f4 ∧ e.f4 ≤ 4294967295
  rotate_left
  · rw [if_pos h1, if_pos h2, if_pos h3, if_neg h4]; exact ⟨false, rfl, F⟩
  by_cases h7 : 0 ≤ e.f7 ∧ e.f7 ≤ 4294967295
  rotate_left
  · rw [if_pos h1, if_pos h2, if_pos h3, if_pos h4, if_neg h7]; exact ⟨false, rfl, F⟩
  by_cases h6 : 0 ≤ e.f6 ∧ e.f6 ≤ 65535
  rotate_left
  · rw [if_pos h1, if_pos h2, if_pos h3, if_pos h4, if_pos h7, if_neg h6]; exact ⟨false, rfl, F⟩
  by_cases h5 : 315532800 ≤ e.f5 ∧ e.f5 ≤ 4102444799
  rotate_left
  · rw [if_pos h1, if_pos h2, if_pos h3, if_pos h4, if_pos h7, if_pos h6, if_neg h5]; exact ⟨false, rfl, F⟩
  rw [if_pos h1, if_pos h2, if_pos h3, if_pos h4, if_pos h7, if_pos h6, if_pos h5]
  by_cases h8 : 0 ≤ e.f8 ∧ e.f8 ≤ 1073739776
  rotate_left
  · rw [decide_eq_false h8]; exact ⟨false, rfl, F⟩
  rw [decide_eq_true h8]
  -- the last part: what the entry holds
  have H2 : ∀ b, ∃ v, icb_Valid.j2 (k + 1) b e.f0 e.f1 e.f2 e.f3 e.f4 e.f5 e.f6 e.f7 e.f8 e.f9 e.f10 e.f11 e.f12 e.f13 e.f14 e.f15.f0 e.f15.f1 = some v ∧ (v = true → b = false ∧ (e.f10 = true → e.f12 = [] ∧ (e.f11.size : Int) = e.f8) ∧ (e.f10 = false → e.f11.toList = [] ∧ formedB e.f12 = true)) := by
    intro b
    simp only [icb_Valid.j2]
    cases b
    rotate_left
    · exact ⟨false, rfl, F⟩
    simp only [Bool.false_eq_true, if_false]
    cases he : e.f10
    · simp only [Bool.false_eq_true, if_false]
      by_cases hd : e.f11.toList = ([] : List UInt8)
      · rw [if_pos hd]
        obtain ⟨v, hv, hf⟩ := extents_is e hb k (by omega)
        have hv' : extK k e = some v := hv
        unfold extK at hv'
        rw [he] at hv'
        rw [hv']
        exact ⟨v, rfl, fun h => ⟨trivial, fun h => h.elim, fun _ => ⟨hd, hf h⟩⟩⟩
      · rw [if_neg hd]
        exact ⟨false, rfl, F⟩
    · simp only [if_true]
      by_cases hl : (e.f12.length : Int) = 0
      · rw [if_pos hl]
        refine ⟨_, rfl, fun h => ⟨trivial, fun _ => ⟨List.length_eq_zero_iff.1 (by omega), by simpa using h⟩, fun h => by cases h⟩⟩
      · rw [if_neg hl]
        exact ⟨false, rfl, F⟩
  -- the streams
  have H1 : ∀ b, ∃ v, icb_Valid.j1 (k + 2) b e.f0 e.f1 e.f2 e.f3 e.f4 e.f5 e.f6 e.f7 e.f8 e.f9 e.f10 e.f11 e.f12 e.f13 e.f14 e.f15.f0 e.f15.f1 = some v ∧ (v = true → b = false ∧ (0 ≤ e.f15.f0 ∧ e.f15.f0 ≤ 4294967295) ∧ (0 ≤ e.f15.f1 ∧ e.f15.f1 ≤ 65535) ∧ (e.f14 = false → e.f15.f0 = 0 ∧ e.f15.f1 = 0) ∧ (e.f10 = true → e.f12 = [] ∧ (e.f11.size : Int) = e.f8) ∧ (e.f10 = false → e.f11.toList = [] ∧ formedB e.f12 = true)) := by
    intro b
    rw [icb_Valid.j1]
    cases b
    rotate_left
    · exact ⟨false, rfl, F⟩
    rw [if_neg F]
    simp only [within_is, Option.bind_some, decide_eq_true_eq]
    by_cases g0 : 0 ≤ e.f15.f0 ∧ e.f15.f0 ≤ 4294967295
    rotate_left
    · rw [if_neg g0]; exact ⟨false, rfl, F⟩
    rw [if_pos g0]
    by_cases g1 : 0 ≤ e.f15.f1 ∧ e.f15.f1 ≤ 65535
    rotate_left
    · rw [if_neg g1]; exact ⟨false, rfl, F⟩
    rw [if_pos g1]
    by_cases g2 : e.f14 = true
    · rw [if_pos g2]
      obtain ⟨v, hv, hf⟩ := H2 false
      exact ⟨v, hv, fun h => ⟨trivial, g0, g1, fun h => (by rw [g2] at h; cases h), (hf h).2⟩⟩
    · rw [if_neg g2]
      obtain ⟨v, hv, hf⟩ := H2 (!(e.f15.f0 == 0) || !(e.f15.f1 == 0))
      refine ⟨v, hv, fun h => ⟨trivial, g0, g1, fun _ => ?_, (hf h).2⟩⟩
      have := (hf h).1
      simpa using this
  rw [icb_Valid.j0, if_neg (by decide)]
  simp only [within_is, Option.bind_some, decide_eq_true_eq]
  cases he : e.f0
  · rw [if_neg F]
    rw [he] at H1
    by_cases g : e.f9 = 0
    · rw [if_pos g]
      obtain ⟨v, hv, hf⟩ := H1 e.f14
      exact ⟨v, hv, fun h => ⟨h1, h2, h3, h4, h7, h6, h5, h8, fun h => (by rw [he] at h; cases h), fun _ => ⟨g, (hf h).1⟩, (hf h).2.1, (hf h).2.2.1, (hf h).2.2.2.1, (hf h).2.2.2.2.1, (hf h).2.2.2.2.2⟩⟩
    · rw [if_neg g]
      exact ⟨false, rfl, F⟩
  · rw [if_pos rfl]
    rw [he] at H1
    by_cases g : e.f8 ≤ e.f9 ∧ e.f9 ≤ 1099511627776
    · rw [if_pos g]
      obtain ⟨v, hv, hf⟩ := H1 false
      exact ⟨v, hv, fun h => ⟨h1, h2, h3, h4, h7, h6, h5, h8, fun _ => g, fun h => (by rw [he] at h; cases h), (hf h).2.1, (hf h).2.2.1, (hf h).2.2.2.1, (hf h).2.2.2.2.1, (hf h).2.2.2.2.2⟩⟩
    · rw [if_neg g]
      exact ⟨false, rfl, F⟩
end Go.Proofs.Yticmghpnbjhhnab.Icb
