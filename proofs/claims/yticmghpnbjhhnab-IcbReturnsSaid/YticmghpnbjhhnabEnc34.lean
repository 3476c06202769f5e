/-
  Encode of package icb: what it answers for a valid entry.
-/
import Derived.Test.YticmghpnbjhhnabM11
import Derived.Test.YticmghpnbjhhnabVal34
import Derived.Test.YticmghpnbjhhnabTag34
import Derived.Test.YticmghpnbjhhnabCal
namespace Go.Proofs.Yticmghpnbjhhnab.Icb
open Go.RowKit Go.Proofs.Yticmghpnbjhhnab.M Go.Proofs.YticmghpnbjhhnabW.PrintWords Go.Proofs.YticmghpnbjhhnabW.PrintLast Go.Proofs.YticmghpnbjhhnabW.PrintMore Go.Proofs.Yticmghpnbjhhnab.Kit Go.Proofs.Yticmghpnbjhhnab.Num Go.Proofs.Yticmghpnbjhhnab.Alloc Go.Proofs.Yticmghpnbjhhnab.Modes Go.Proofs.Yticmghpnbjhhnab.Tag Go.Proofs.Yticmghpnbjhhnab.Cal
set_option linter.unusedVariables false

def encK (k : Nat) (e : E) (loc : Int) := icb_Encode.f k e.f0 e.f1 e.f2 e.f3 e.f4 e.f5 e.f6 e.f7 e.f8 e.f9 e.f10 e.f11 e.f12 e.f13 e.f14 e.f15.f0 e.f15.f1 loc
abbrev zs (n : Nat) : List UInt8 := List.replicate n 0
/-- The entity identifier of the implementation. -/
def entL : List UInt8 := [0, 42, 109, 97, 115, 116, 101, 114, 100, 105, 115, 99] ++ zs 20
def streamsL (e : E) : List UInt8 := if e.f14 = true then extsL [⟨0, 2048, ⟨e.f15.f0, e.f15.f1⟩⟩] else zs 16
def tailL (e : E) : List UInt8 := if e.f10 = true then e.f11.data.toList else extsL e.f12
def kindE (e : E) : Int := if e.f10 = true then 3 else 1
def fixE (e : E) : Int := if e.f0 = true then 216 else 176
/-- The body of the block of an entry. -/
def bodyL (e : E) (st : List UInt8) (bl : Int) : List UInt8 :=
  encode_all (le 0 4) (le 4 2) (le 0 2) (le 1 2) (le 0 1) (le e.f1 1) (zs 6) (le (flagsP e.f2 + kindE e) 2) (le e.f3 4) (le e.f4 4) (le (permsP e.f2) 4) (le e.f6 2) (zs 6) (le e.f8 8)
    (if e.f0 = true then le e.f9 8 else []) (le bl 8) (st ++ st) (if e.f0 = true then st else []) st (le 1 4) (if e.f0 = true then zs 4 else []) (zs 16) (if e.f0 = true then streamsL e else []) entL (le e.f7 8) (le (e.f13.data.toList.length : Int) 4) (le ((tailL e).length : Int) 4) (e.f13.data.toList ++ tailL e)
theorem enum_is (n : Int) (sz : Nat) (h1 : 1 ≤ sz) (h8 : sz ≤ 8) (h0 : 0 ≤ n) (hn : n < 256 ^ sz ∨ sz = 8) (k : Nat) (hk : 9 < k) : enc_num k n (sz : Int) = some (le n sz) := by
  unfold enc_num
  rw [little_is n sz h1 h8 h0 hn k hk]
  simp only [Option.bind_some, enc_raw]
  rw [if_pos (by rw [bs_size, le_length]; omega)]
  rfl
theorem ezero_is (n : Nat) (h : n ≤ 4096) : enc_zero (n : Int) = some (zs n) := by
  unfold enc_zero
  rw [repeat_is n h]
  simp only [Option.bind_some, enc_raw]
  rw [if_pos (by rw [bs_size, List.length_replicate]; omega)]
  rfl
theorem eraw_is (l : List UInt8) (h : l.length ≤ 4096) : enc_raw (bs l) = some l := by
  unfold enc_raw
  rw [if_pos (by rw [bs_size]; omega)]
  rfl
theorem entity_is (k : Nat) (hk : 0 < k) : udfstring_Entity.f k (⟨#[42, 109, 97, 115, 116, 101, 114, 100, 105, 115, 99]⟩ : ByteArray) (⟨#[]⟩ : ByteArray) = some (bs entL, 0) :=
  at_rounds (udfstring_Entity.mono _ _) hk (by decide +kernel)
theorem stampL_length (Y M D h mi s : Int) : (stampL Y M D h mi s).length = 12 := rfl
theorem streamsL_length (e : E) : (streamsL e).length = 16 := by
  unfold streamsL
  split
  · rw [extsL_length]; rfl
  · rfl
theorem entL_length : entL.length = 32 := rfl
theorem permsP_range (n : Int) (h : 0 ≤ n ∧ n ≤ 4095) : 0 ≤ permsP n ∧ permsP n < 32768 := by
  have a := clsP_range (n % 8) (by omega)
  have b := clsP_range (n / 8 % 8) (by omega)
  have c := clsP_range (n / 64 % 8) (by omega)
  unfold permsP
  omega
theorem flagsP_range (n : Int) : 0 ≤ flagsP n ∧ flagsP n ≤ 448 := by unfold flagsP; omega
theorem pieces_is (e : E) (h : OkE e) (st : List UInt8) (hst : st.length = 12) (bl : Int) (hb0 : 0 ≤ bl) (hat : e.f13.data.toList.length + (tailL e).length ≤ 4000)
    (k : Nat) (hk : 100 < k) (hbl : allocation_Blocks.f k e.f12 = some bl) :
    encode_pieces k e.f0 e.f1 e.f2 e.f3 e.f4 e.f5 e.f6 e.f7 e.f8 e.f9 e.f10 e.f11 e.f12 e.f13 e.f14 e.f15.f0 e.f15.f1 (bs (tailL e)) (kindE e) (permsP e.f2) (flagsP e.f2) (bs st) = some (bodyL e st bl) := by
  have pr := permsP_range e.f2 h.mode
  have fr := flagsP_range e.f2
  have kr : 1 ≤ kindE e ∧ kindE e ≤ 3 := by unfold kindE; split <;> omega
  have k9 : 9 < k := by omega
  have n1 : enc_num k 0 4 = some (le 0 4) := enum_is 0 4 (by omega) (by omega) (by omega) (by omega) k k9
  have n2 : enc_num k 4 2 = some (le 4 2) := enum_is 4 2 (by omega) (by omega) (by omega) (by omega) k k9
  have n3 : enc_num k 0 2 = some (le 0 2) := enum_is 0 2 (by omega) (by omega) (by omega) (by omega) k k9
  have n4 : enc_num k 1 2 = some (le 1 2) := enum_is 1 2 (by omega) (by omega) (by omega) (by omega) k k9
  have n5 : enc_num k 0 1 = some (le 0 1) := enum_is 0 1 (by omega) (by omega) (by omega) (by omega) k k9
  have n6 : enc_num k e.f1 1 = some (le e.f1 1) := enum_is _ 1 (by omega) (by omega) h.ty.1 (by have := h.ty; omega) k k9
  have z6 : enc_zero 6 = some (zs 6) := ezero_is 6 (by omega)
  have z4 : enc_zero 4 = some (zs 4) := ezero_is 4 (by omega)
  have z16 : enc_zero 16 = some (zs 16) := ezero_is 16 (by omega)
  have w8 : wrap64 (flagsP e.f2 + kindE e) = flagsP e.f2 + kindE e := wr (by omega)
  have n8 : enc_num k (flagsP e.f2 + kindE e) 2 = some (le (flagsP e.f2 + kindE e) 2) := enum_is _ 2 (by omega) (by omega) (by omega) (by omega) k k9
  have n9 : enc_num k e.f3 4 = some (le e.f3 4) := enum_is _ 4 (by omega) (by omega) h.uid.1 (by have := h.uid; omega) k k9
  have n10 : enc_num k e.f4 4 = some (le e.f4 4) := enum_is _ 4 (by omega) (by omega) h.gid.1 (by have := h.gid; omega) k k9
  have n11 : enc_num k (permsP e.f2) 4 = some (le (permsP e.f2) 4) := enum_is _ 4 (by omega) (by omega) pr.1 (by omega) k k9
  have n12 : enc_num k e.f6 2 = some (le e.f6 2) := enum_is _ 2 (by omega) (by omega) h.links.1 (by have := h.links; omega) k k9
  have n14 : enc_num k e.f8 8 = some (le e.f8 8) := enum_is _ 8 (by omega) (by omega) h.len.1 (by omega) k k9
  have n15 : (if e.f0 = true then enc_num k e.f9 8 else some []) = some (if e.f0 = true then le e.f9 8 else []) := by
    by_cases c : e.f0 = true
    · rw [if_pos c, if_pos c]
      exact enum_is _ 8 (by omega) (by omega) (by have := h.obj c; have := h.len; omega) (by omega) k k9
    · rw [if_neg c, if_neg c]
  have n16 : enc_num k bl 8 = some (le bl 8) := enum_is _ 8 (by omega) (by omega) hb0 (by omega) k k9
  have r17 : enc_raw (bs st ++ bs st) = some (st ++ st) := by rw [bs_append]; exact eraw_is _ (by simp; omega)
  have r19 : enc_raw (bs st) = some st := eraw_is _ (by omega)
  have r18 : (if e.f0 = true then some st else some []) = some (if e.f0 = true then st else []) := by split <;> rfl
  have n20 : enc_num k 1 4 = some (le 1 4) := enum_is 1 4 (by omega) (by omega) (by omega) (by omega) k k9
  have z21 : (if e.f0 = true then some (zs 4) else some []) = some (if e.f0 = true then zs 4 else []) := by split <;> rfl
  have hsx : formedB [⟨0, 2048, ⟨e.f15.f0, e.f15.f1⟩⟩] = true := by
    have h1 := h.sb
    have h2 := h.sp
    simp only [formedB, decide_eq_true_eq]
    refine ⟨by simp, fun x hx => ?_⟩
    obtain rfl := List.mem_singleton.1 hx
    refine ⟨?_, ?_, ?_, ?_, ?_, ?_, ?_, ?_⟩ <;> dsimp only <;> omega
  have n23 : (if e.f0 = true then (if e.f14 = true then (allocation_EncodeLong.f k [(⟨0, 2048, (⟨e.f15.f0, e.f15.f1⟩ : S29)⟩ : X)]).bind fun t => enc_raw t.1 else some (zs 16)) else some []) = some (if e.f0 = true then streamsL e else []) := by
    by_cases c : e.f0 = true
    · rw [if_pos c, if_pos c]
      unfold streamsL
      by_cases d : e.f14 = true
      · rw [if_pos d, if_pos d, encodeLong_is _ hsx k (by simp; omega)]
        exact eraw_is _ (by rw [extsL_length]; simp)
      · rw [if_neg d, if_neg d]
    · rw [if_neg c, if_neg c]
  have r24 : enc_raw (bs entL) = some entL := eraw_is _ (by decide)
  have n25 : enc_num k e.f7 8 = some (le e.f7 8) := enum_is _ 8 (by omega) (by omega) h.uq.1 (by omega) k k9
  have ha : (e.f13.size : Int) = (e.f13.data.toList.length : Int) := by rw [data_len]
  have n26 : enc_num k (e.f13.data.toList.length : Int) 4 = some (le (e.f13.data.toList.length : Int) 4) := enum_is _ 4 (by omega) (by omega) (by omega) (by omega) k k9
  have n27 : enc_num k ((tailL e).length : Int) 4 = some (le ((tailL e).length : Int) 4) := enum_is _ 4 (by omega) (by omega) (by omega) (by omega) k k9
  have r28 : enc_raw (e.f13 ++ bs (tailL e)) = some (e.f13.data.toList ++ tailL e) := by
    have := eraw_is (e.f13.data.toList ++ tailL e) (by rw [List.length_append]; omega)
    rwa [← bs_append, bs_of] at this
  unfold encode_pieces
  simp only [w8, ha, bs_size, hbl, entity_is k (by omega), Option.bind_some, n1, n2, n3, n4, n5, n6, z6, z4, z16, n8, n9, n10, n11, n12, n14, n15, n16, r17, r19, r18, n20, z21, n23, r24, n25, n26, n27, r28]
  rfl
theorem bodyL_length (e : E) (st : List UInt8) (hst : st.length = 12) (bl : Int) : ((bodyL e st bl).length : Int) = fixE e - 16 + e.f13.data.toList.length + (tailL e).length := by
  unfold bodyL encode_all fixE
  simp only [List.length_append, le_length, List.length_replicate, List.length_nil, entL_length, hst]
  by_cases c : e.f0 = true
  · simp only [if_pos c, le_length, streamsL_length, hst, List.length_replicate]
    omega
  · simp only [if_neg c, List.length_nil]
    omega
theorem tail_is (e : E) (h : OkE e) (k : Nat) (hk : 100 < k) : encode_tail k e.f10 e.f11 e.f12 = some (bs (tailL e), kindE e) := by
  unfold encode_tail tailL kindE
  by_cases c : e.f10 = true
  · rw [if_pos c, if_pos c, if_pos c, bs_of]
  · have hf := (h.ext (Bool.eq_false_iff.mpr c)).2
    have hf' := hf
    simp only [formedB, decide_eq_true_eq] at hf'
    rw [if_neg c, if_neg c, if_neg c, encodeLong_is _ hf k (by omega)]
    rfl
def idE (e : E) : Int := if e.f0 = true then 266 else 261
theorem encode_is (e : E) (hb : e.f12.length ≤ 4611686018427387904) (h : OkE e) (hv : ∀ k, 300 < k → validK k e = some true) (hat : e.f13.size ≤ 140737488351232) (hd : e.f11.size ≤ 140737488351232) (loc : Int) (hl : 0 ≤ loc ∧ loc ≤ 4294967295) :
    ∃ Y M D hh mi s bl, ClockOf e.f5 Y M D hh mi s ∧ 0 ≤ bl ∧ ∀ k, 400 < k →
      encK k e loc = some (if (e.f13.data.toList.length : Int) + (tailL e).length > 2048 - fixE e then (bs [], 12) else (bs (blockL (idE e) loc (bodyL e (stampL Y M D hh mi s) bl)), 0)) := by
  obtain ⟨Y, M, D, hh, mi, s, hc, hs⟩ := stamp_is e.f5 h.time 201 (by omega)
  obtain ⟨bl, hbl, hb0⟩ : ∃ b, allocation_Blocks.f 300 e.f12 = some b ∧ 0 ≤ b := by
    by_cases c : e.f10 = true
    · rw [(h.emb c).1]; exact ablocks_is [] (by simp) 300 (by simp)
    · have hf := (h.ext (Bool.eq_false_iff.mpr c)).2
      simp only [formedB, decide_eq_true_eq] at hf
      exact ablocks_is _ hb 300 (by omega)
  refine ⟨Y, M, D, hh, mi, s, bl, hc, hb0, fun k hk => ?_⟩
  have hs' := at_rounds (datetime_Stamp.mono _ _) (show 201 ≤ k by omega) hs
  have hbl' := at_rounds (allocation_Blocks.mono _) (show 300 ≤ k by omega) hbl
  have hvk := hv k (by omega)
  unfold validK at hvk
  have fx : 176 ≤ fixE e ∧ fixE e ≤ 216 := by unfold fixE; split <;> omega
  have hf1 : icb_forms.f e.f0 = some (fixE e, if e.f0 = true then 92 else 84) := by
    unfold icb_forms.f fixE
    cases e.f0 <;> rfl
  have htl : ((tailL e).length : Int) ≤ 140737488351232 := by
    unfold tailL
    by_cases c : e.f10 = true
    · rw [if_pos c, data_len]; omega
    · have hf := (h.ext (Bool.eq_false_iff.mpr c)).2
      simp only [formedB, decide_eq_true_eq] at hf
      rw [if_neg c, extsL_length]; omega
  have ha : (e.f13.size : Int) = (e.f13.data.toList.length : Int) := by rw [data_len]
  unfold encK icb_Encode.f
  rw [hvk, within_is, tail_is e h k (by omega)]
  simp only [Option.bind_some, if_true]
  rw [decide_eq_true hl, if_pos rfl, hf1, Option.bind_some]
  unfold encode_rest
  rw [bs_size, ha, wr (n := (e.f13.data.toList.length : Int) + ((tailL e).length : Int)) (by omega), wr (n := 2048 - fixE e) (by omega)]
  by_cases g : (e.f13.data.toList.length : Int) + (tailL e).length > 2048 - fixE e
  · rw [if_pos g, if_pos g]
    rfl
  · rw [if_neg g, if_neg g, permissions_is e.f2 h.mode k (by omega), hs']
    simp only [Option.bind_some]
    rw [pieces_is e h _ (stampL_length ..) bl hb0 (by omega) k (by omega) hbl']
    have hn := bodyL_length e (stampL Y M D hh mi s) (stampL_length ..) bl
    simp only [Option.bind_some]
    have hne : bodyL e (stampL Y M D hh mi s) bl ≠ [] := fun hx => by rw [hx] at hn; simp at hn; omega
    rw [if_neg hne]
    have hid : 0 ≤ idE e ∧ idE e < 65536 := by unfold idE; split <;> omega
    exact block_is (idE e) loc _ hid (by omega) (by omega) k (by omega)
end Go.Proofs.Yticmghpnbjhhnab.Icb
