/-
  Decode of package icb on the block of an entry: it gives the entry again, and an error for any other location.
-/
import Derived.Test.YticmghpnbjhhnabM16
import Derived.Test.YticmghpnbjhhnabEnc34
import Derived.Test.YticmghpnbjhhnabIs34
namespace Go.Proofs.Yticmghpnbjhhnab.Icb
open Go.RowKit Go.Proofs.Yticmghpnbjhhnab.M Go.Proofs.YticmghpnbjhhnabW.PrintWords Go.Proofs.YticmghpnbjhhnabW.PrintLast Go.Proofs.YticmghpnbjhhnabW.PrintMore Go.Proofs.Yticmghpnbjhhnab.Kit Go.Proofs.Yticmghpnbjhhnab.Num Go.Proofs.Yticmghpnbjhhnab.Alloc Go.Proofs.Yticmghpnbjhhnab.Modes Go.Proofs.Yticmghpnbjhhnab.Tag Go.Proofs.Yticmghpnbjhhnab.Cal
set_option linter.unusedVariables false

theorem extract_sl (l : List UInt8) (a n : Nat) : (bs l).extract a (a + n) = bs (sl l a n) := by
  rw [bs_extract, List.drop_take, show a + n - a = n by omega]
  rfl
theorem sl_sl (l : List UInt8) (a n b m : Nat) (h : b + m ≤ n) : sl (sl l a n) b m = sl l (a + b) m := by
  unfold sl
  rw [List.drop_take, List.drop_drop, List.take_take, Nat.min_eq_left (by omega)]

/-- The extents of encoded extents. -/
theorem aread_is (l : List UInt8) (at_ sz : Nat) (hl : l.length ≤ 4611686018427387904) (h1 : 1 ≤ sz) (hsz : sz ≤ 7) (hat : at_ + sz ≤ l.length) (k : Nat) (hk : 9 < k) :
    allocation_read.f k (bs l) (at_ : Int) (sz : Int) = some (num (sl l at_ sz)) := by
  unfold allocation_read.f
  rw [readLittle_is l at_ sz hl h1 hsz hat k hk]
  rfl
theorem decode_loop (rest : List X) : ∀ (pre : List X) (k : Nat), rest.length + 10 < k → (pre ++ rest).length ≤ 64 → (∀ x ∈ rest, okX x) →
    allocation_decode_at_allocation_DecodeLong_1.l0 k (bs (extsL (pre ++ rest))) 16 pre ((pre ++ rest).length : Int) (pre.length : Int) = some (pre ++ rest, 0) := by
  induction rest with
  | nil =>
    intro pre k hk hb _
    obtain ⟨k, rfl⟩ : ∃ m, k = m + 1 := ⟨k - 1, by omega⟩
    simp only [allocation_decode_at_allocation_DecodeLong_1.l0]
    rw [if_neg (not_lt_end pre), List.append_nil]
  | cons x rest ih =>
    intro pre k hk hb hok
    obtain ⟨k, rfl⟩ : ∃ m, k = m + 1 := ⟨k - 1, by omega⟩
    have hb' : pre.length + (rest.length + 1) ≤ 64 := by simpa using hb
    obtain ⟨h1, h2, h3, h4, h5, h6, h7, h8⟩ := hok x (by simp)
    have hk' : 9 < k := by simp at hk; omega
    have hp : (0 : Int) ≤ (pre.length : Int) := by omega
    have e1 : wrap64 (16 * (pre.length : Int)) = ((16 * pre.length : Nat) : Int) := by rw [wr (by omega)]; omega
    have e2 : wrap64 (16 * wrap64 ((pre.length : Int) + 1)) = ((16 * pre.length + 16 : Nat) : Int) := by rw [wr (n := (pre.length : Int) + 1) (by omega), wr (by omega)]; omega
    have hs : ((bs (extsL (pre ++ x :: rest))).size : Int) = 16 * ((pre.length : Int) + rest.length + 1) := by rw [bs_size, extsL_length]; simp; omega
    have hx : (bs (extsL (pre ++ x :: rest))).extract (16 * pre.length) (16 * pre.length + 16) = bs (ext16 x) := by
      rw [extract_sl]
      have e : extsL (pre ++ x :: rest) = extsL pre ++ (ext16 x ++ extsL rest) := by simp [extsL]
      rw [e]
      unfold sl
      rw [← extsL_length, List.drop_left, ← ext16_length x, List.take_left]
    have hf : ext16 x = [le (x.f1 + 1073741824 * x.f0) 4, le x.f2.f0 4, le x.f2.f1 2, le 0 6].flatten := by simp [ext16]
    have hl16 := ext16_length x
    have g0 : sl (ext16 x) 0 4 = le (x.f1 + 1073741824 * x.f0) 4 := by rw [hf]; exact sl_piece 0 rfl rfl rfl
    have g4 : sl (ext16 x) 4 4 = le x.f2.f0 4 := by rw [hf]; exact sl_piece 1 rfl rfl rfl
    have g8 : sl (ext16 x) 8 2 = le x.f2.f1 2 := by rw [hf]; exact sl_piece 2 rfl rfl rfl
    have r0 : allocation_read.f k (bs (ext16 x)) 0 4 = some (x.f1 + 1073741824 * x.f0) := by
      have := aread_is (ext16 x) 0 4 (by omega) (by omega) (by omega) (by omega) k hk'
      rw [g0, num_le 4 _ (by omega) (by omega)] at this
      exact this
    have r4 : allocation_read.f k (bs (ext16 x)) 4 4 = some x.f2.f0 := by
      have := aread_is (ext16 x) 4 4 (by omega) (by omega) (by omega) (by omega) k hk'
      rw [g4, num_le 4 _ (by omega) (by omega)] at this
      exact this
    have r8 : allocation_DecodeLong_1.f k (bs (ext16 x)) = some x.f2.f1 := by
      have := aread_is (ext16 x) 8 2 (by omega) (by omega) (by omega) (by omega) k hk'
      rw [g8, num_le 2 _ (by omega) (by omega)] at this
      have h : allocation_read.f k (bs (ext16 x)) 8 2 = some x.f2.f1 := this
      unfold allocation_DecodeLong_1.f
      rw [h]
      rfl
    have hm : Int.tmod (x.f1 + 1073741824 * x.f0) 1073741824 = x.f1 := by rw [Int.tmod_eq_emod_of_nonneg (by omega)]; omega
    have hd : wrap64 (Int.tdiv (x.f1 + 1073741824 * x.f0) 1073741824) = x.f0 := by rw [Int.tdiv_eq_ediv_of_nonneg (by omega), wr (by omega)]; omega
    have hi := ih (pre ++ [x]) k (by simp at hk; omega) (by simpa using hb) (fun y hy => hok y (by simp [hy]))
    rw [← push] at hi
    have hn := next pre rest x (by omega)
    have hlt : pre.length < 4398046511104 := by omega
    have hne : ¬ (pre.length : Int) = 64 := by omega
    rw [allocation_decode_at_allocation_DecodeLong_1.l0, if_pos (lt_mid pre rest x), e1, e2, if_pos (by omega), if_pos (by omega), if_pos (by rw [hs]; omega), Int.toNat_natCast, Int.toNat_natCast, hx, r0, Option.bind_some, hm, if_neg (by omega), if_neg hne, r4, Option.bind_some, r8, Option.bind_some, if_pos hlt, hd, hn]
    exact hi
theorem decodeLong_is (l : List X) (h : formedB l = true) (k : Nat) (hk : 100 < k) : allocation_DecodeLong.f k (bs (extsL l)) = some (l, 0) := by
  simp only [formedB, decide_eq_true_eq] at h
  unfold allocation_DecodeLong.f allocation_decode_at_allocation_DecodeLong_1.f
  have hs : ((bs (extsL l)).size : Int) = 16 * (l.length : Int) := by rw [bs_size, extsL_length]; omega
  have e : wrap64 (16 * (l.length : Int) / 16) = (l.length : Int) := by rw [wr (by omega)]; omega
  have := decode_loop l [] k (by omega) (by simpa using h.1) h.2
  rw [if_neg (by decide), hs, if_pos (by omega), e]
  rw [show (0 : Int) = (([] : List X).length : Int) from rfl]
  rw [show allocation_decode_at_allocation_DecodeLong_1.l0 k (bs (extsL l)) 16 [] (l.length : Int) (([] : List X).length : Int) = some (l, 0) from this]
  rfl

/-- The fields of the block of an entry. -/
theorem rdn_is {ps : List (List UInt8)} (hl : ps.flatten.length = 2048) {i : Nat} {v : Int} {sz n : Nat} (h : ps[i]? = some (le v sz)) (hn : (ps.take i).flatten.length = n) (h0 : 0 ≤ v) (hv : v < 256 ^ sz) (h1 : 1 ≤ sz) (h6 : sz ≤ 6) (k : Nat) (hk : 9 < k) :
    rdn k (bs ps.flatten) (n : Int) (sz : Int) = some v := by
  obtain ⟨a, b⟩ := piece h hn
  rw [le_length] at a b
  have hp : (256 : Int) ^ sz ≤ 281474976710656 := by
    rcases (by omega : sz = 1 ∨ sz = 2 ∨ sz = 3 ∨ sz = 4 ∨ sz = 5 ∨ sz = 6) with rfl | rfl | rfl | rfl | rfl | rfl <;> decide
  unfold rdn
  rw [readLittle_is ps.flatten n sz (by omega) h1 (by omega) (by omega) k hk, Option.bind_some, a, num_le sz v h0 hv]
  exact if_pos ⟨h0, by omega⟩
theorem le8 (v : Int) (h0 : 0 ≤ v) (h : v < 4294967296) : le v 8 = le v 4 ++ le 0 4 := by
  rw [show (8 : Nat) = 4 + 4 from rfl, le_add, Int.ediv_eq_zero_of_lt h0 (by omega)]
theorem le86 (v : Int) (h0 : 0 ≤ v) (h : v < 281474976710656) : le v 8 = le v 6 ++ le 0 2 := by
  rw [show (8 : Nat) = 6 + 2 from rfl, le_add, Int.ediv_eq_zero_of_lt h0 (by omega)]
def headP (e : E) : List (List UInt8) := [le 0 4, le 4 2, le 0 2, le 1 2, le 0 1, le e.f1 1, zs 6, le (flagsP e.f2 + kindE e) 2, le e.f3 4, le e.f4 4, le (permsP e.f2) 4, le e.f6 2, zs 6, le e.f8 4, le 0 4]
def lastP (e : E) (z : List UInt8) : List (List UInt8) := [entL, le e.f7 4, le 0 4, le (e.f13.data.toList.length : Int) 4, le ((tailL e).length : Int) 4, e.f13.data.toList, tailL e, z]
def midP0 (bl : Int) (st : List UInt8) : List (List UInt8) := [le bl 8, st, st, st, le 1 4, zs 16]
def midP1 (e : E) (bl : Int) (st : List UInt8) : List (List UInt8) :=
  [le e.f9 6, le 0 2, le bl 8, st, st, st, st, le 1 4, zs 4, zs 16, le (if e.f14 = true then 2048 else 0) 4, le e.f15.f0 4, le e.f15.f1 2, le 0 6]
theorem body0 (e : E) (h : OkE e) (st : List UInt8) (bl : Int) (c : e.f0 = false) (z : List UInt8) : bodyL e st bl ++ z = (headP e ++ (midP0 bl st ++ lastP e z)).flatten := by
  unfold bodyL encode_all headP midP0 lastP
  rw [c, le8 e.f8 h.len.1 (by have := h.len; omega), le8 e.f7 h.uq.1 (by have := h.uq; omega)]
  simp
theorem body1 (e : E) (h : OkE e) (st : List UInt8) (bl : Int) (c : e.f0 = true) (z : List UInt8) : bodyL e st bl ++ z = (headP e ++ (midP1 e bl st ++ lastP e z)).flatten := by
  have hs : streamsL e = le (if e.f14 = true then 2048 else 0) 4 ++ le e.f15.f0 4 ++ (le e.f15.f1 2 ++ le 0 6) := by
    unfold streamsL
    cases d : e.f14
    · rw [(h.nos d).1, (h.nos d).2]
      rfl
    · simp [extsL, ext16]
  unfold bodyL encode_all headP midP1 lastP
  rw [c, le8 e.f8 h.len.1 (by have := h.len; omega), le8 e.f7 h.uq.1 (by have := h.uq; omega), le86 e.f9 (by have := h.obj c; have := h.len; omega) (by have := h.obj c; omega), hs]
  simp
  rfl
def blkP (e : E) (loc : Int) (st : List UInt8) (bl : Int) (mid : List (List UInt8)) : List (List UInt8) :=
  tagP (idE e) loc (bodyL e st bl) (headP e ++ (mid ++ lastP e (List.replicate (2032 - (bodyL e st bl).length) 0)))
theorem blk0 (e : E) (h : OkE e) (loc : Int) (st : List UInt8) (bl : Int) (c : e.f0 = false) : blockL (idE e) loc (bodyL e st bl) = (blkP e loc st bl (midP0 bl st)).flatten := by
  unfold blkP blockL
  rw [tagP_flat, ← body0 e h st bl c, List.append_assoc]
theorem blk1 (e : E) (h : OkE e) (loc : Int) (st : List UInt8) (bl : Int) (c : e.f0 = true) : blockL (idE e) loc (bodyL e st bl) = (blkP e loc st bl (midP1 e bl st)).flatten := by
  unfold blkP blockL
  rw [tagP_flat, ← body1 e h st bl c, List.append_assoc]
/-- What the block of an entry holds, as Decode reads it. -/
structure Flds (k : Nat) (B : ByteArray) (e : E) (m1 m2 : Int) : Prop where
  r20 : rdn k B 20 2 = some 4
  r34 : rdn k B 34 2 = some (flagsP e.f2 + kindE e)
  r60 : rdn k B 60 4 = some 0
  rhi : rdn k B (m1 - 12) 4 = some 0
  r27 : rdn k B 27 1 = some e.f1
  r44 : rdn k B 44 4 = some (permsP e.f2)
  r36 : rdn k B 36 4 = some e.f3
  r40 : rdn k B 40 4 = some e.f4
  r48 : rdn k B 48 2 = some e.f6
  ruq : rdn k B (m1 - 16) 4 = some e.f7
  r56 : rdn k B 56 4 = some e.f8
  rat : rdn k B (m1 - 8) 4 = some (e.f13.data.toList.length : Int)
  rtl : rdn k B (m1 - 4) 4 = some ((tailL e).length : Int)
  rst : datetime_ReadStamp.f k (B.extract m2.toNat (m2 + 12).toNat) = some (e.f5, 0, 0)
  xat : B.extract m1.toNat (m1 + (e.f13.data.toList.length : Int)).toNat = e.f13
  xtl : B.extract (m1 + (e.f13.data.toList.length : Int)).toNat (m1 + (e.f13.data.toList.length : Int) + ((tailL e).length : Int)).toNat = bs (tailL e)
  xext : dec_ext k e.f0 B 0 = some (e.f9, 0, e.f14, e.f15.f0, e.f15.f1)
def tupE (e : E) : DecT := (e.f0, e.f1, e.f2, e.f3, e.f4, e.f5, e.f6, e.f7, e.f8, e.f9, e.f10, e.f11, e.f12, e.f13, e.f14, e.f15.f0, e.f15.f1, 0)
theorem bytes_nil {s : ByteArray} (h : s.toList = []) : s = (⟨#[]⟩ : ByteArray) := by
  rw [ByteArray.toList_eq] at h
  rw [← bs_of s, h]
  rfl
theorem dec_of (e : E) (h : OkE e) {k : Nat} (hk : 300 < k) {B : ByteArray} {m1 m2 : Int} (F : Flds k B e m1 m2) (hm : icb_forms.f e.f0 = some (m1, m2)) (hv : validK k e = some true)
    (h1 : (e.f13.data.toList.length : Int) ≤ 2048 - m1) (h2 : ((tailL e).length : Int) ≤ 2048 - m1 - e.f13.data.toList.length) : dec_flags k B e.f0 = some (tupE e) := by
  have fr := flagsP_range e.f2
  have kr : kindE e = 1 ∨ kindE e = 3 := by unfold kindE; split <;> simp
  have f8 : flagsP e.f2 % 8 = 0 := by unfold flagsP; omega
  have e7 : bits .and .i64 (flagsP e.f2 + kindE e) 7 = kindE e := by rw [and_7 _ (by omega) (by omega)]; omega
  have fb : flagsBad 4 (kindE e) = false := by rcases kr with c | c <;> rw [c] <;> decide
  have sb : sizesBad m1 (e.f13.data.toList.length : Int) ((tailL e).length : Int) = false := by
    unfold sizesBad
    rw [decide_eq_false (by omega), decide_eq_false (by omega)]
    rfl
  obtain ⟨mo, mp⟩ := modeP_back e.f2 (kindE e) h.mode (by omega)
  have hmode := mode_is (permsP e.f2) (flagsP e.f2 + kindE e) mo k (by omega)
  rw [mp] at hmode
  have hemb : (kindE e == 3) = e.f10 := by unfold kindE; cases e.f10 <;> rfl
  have htail : dec_tail k e.f10 (bs (tailL e)) = some (e.f11, e.f12, 0) := by
    unfold dec_tail tailL
    cases c : e.f10
    · rw [if_neg (by decide), if_neg (by decide), decodeLong_is _ (h.ext c).2 k (by omega), bytes_nil (h.ext c).1]
      rfl
    · rw [if_pos rfl, if_pos rfl, bs_of, (h.emb c).1]
  have hval : dec_valid k e.f0 e.f1 e.f2 e.f3 e.f4 e.f5 e.f6 e.f7 e.f8 e.f9 e.f10 e.f11 e.f12 e.f13 e.f14 e.f15.f0 e.f15.f1 0 = some (tupE e) := by
    unfold validK at hv
    unfold dec_valid
    rw [if_pos rfl, hv, Option.bind_some, if_pos rfl]
    rfl
  have hfld : dec_fields k B e.f0 m1 (flagsP e.f2 + kindE e) e.f5 (e.f13.data.toList.length : Int) ((tailL e).length : Int) = some (tupE e) := by
    unfold dec_fields
    rw [F.r60, Option.bind_some, F.rhi, Option.bind_some, F.r27, Option.bind_some, F.r44, Option.bind_some, hmode, Option.bind_some, F.r36, Option.bind_some, F.r40, Option.bind_some, F.r48, Option.bind_some, F.ruq, Option.bind_some, F.r56, Option.bind_some]
    rw [show (0 : Int) + 0 = 0 from rfl, F.xext, Option.bind_some, e7, hemb, F.xtl, htail, Option.bind_some, if_pos rfl, F.xat]
    exact hval
  have hsz : dec_sizes k B e.f0 m1 (flagsP e.f2 + kindE e) e.f5 = some (tupE e) := by
    unfold dec_sizes
    rw [F.rat, Option.bind_some, F.rtl, Option.bind_some, sb, if_neg (by decide)]
    exact hfld
  have hst : dec_stamp k B e.f0 m1 m2 (flagsP e.f2 + kindE e) = some (tupE e) := by
    unfold dec_stamp
    rw [F.rst, Option.bind_some, if_pos rfl]
    exact hsz
  unfold dec_flags
  rw [hm, Option.bind_some, F.r34, Option.bind_some, F.r20, Option.bind_some, e7, fb, if_neg (by decide)]
  exact hst
theorem num_zs (n : Nat) : num (zs n) = 0 := by
  induction n with
  | zero => rfl
  | succ n ih => simp only [zs, List.replicate_succ, num] at ih ⊢; rw [ih]; rfl
theorem flds0 (e : E) (h : OkE e) (loc : Int) {Y M D hh mi s : Int} (hc : ClockOf e.f5 Y M D hh mi s) (bl : Int) (c : e.f0 = false) (hn : (blockL (idE e) loc (bodyL e (stampL Y M D hh mi s) bl)).length = 2048)
    (ha : e.f13.data.toList.length + (tailL e).length ≤ 2048 - 176) (k : Nat) (hk : 300 < k) : Flds k (bs (blockL (idE e) loc (bodyL e (stampL Y M D hh mi s) bl))) e 176 84 := by
  rw [blk0 e h loc _ bl c] at hn ⊢
  have fr := flagsP_range e.f2
  have pr := permsP_range e.f2 h.mode
  have kr : 1 ≤ kindE e ∧ kindE e ≤ 3 := by unfold kindE; split <;> omega
  have k9 : 9 < k := by omega
  have T := @rdn_is _ hn
  have at_ : sl (blkP e loc (stampL Y M D hh mi s) bl (midP0 bl (stampL Y M D hh mi s))).flatten 84 12 = stampL Y M D hh mi s := sl_piece 25 rfl (by simp [blkP, tagP, headP, midP0, le_length, stampL_length]) rfl
  have aa : sl (blkP e loc (stampL Y M D hh mi s) bl (midP0 bl (stampL Y M D hh mi s))).flatten 176 e.f13.data.toList.length = e.f13.data.toList := sl_piece 34 rfl (by simp [blkP, tagP, headP, midP0, lastP, le_length, stampL_length, entL_length]) rfl
  have al : sl (blkP e loc (stampL Y M D hh mi s) bl (midP0 bl (stampL Y M D hh mi s))).flatten (176 + e.f13.data.toList.length) (tailL e).length = tailL e := sl_piece 35 rfl (by simp [blkP, tagP, headP, midP0, lastP, le_length, stampL_length, entL_length]; omega) rfl
  exact {
    r20 := T (i := 9) (n := 20) (sz := 2) rfl (by simp [blkP, tagP, headP, le_length]) (by omega) (by omega) (by omega) (by omega) k k9
    r34 := T (i := 15) (n := 34) (sz := 2) rfl (by simp [blkP, tagP, headP, le_length]) (by omega) (by omega) (by omega) (by omega) k k9
    r60 := T (i := 22) (n := 60) (sz := 4) rfl (by simp [blkP, tagP, headP, le_length]) (by omega) (by omega) (by omega) (by omega) k k9
    rhi := T (i := 31) (n := 164) (sz := 4) rfl (by simp [blkP, tagP, headP, midP0, lastP, le_length, stampL_length, entL_length]) (by omega) (by omega) (by omega) (by omega) k k9
    r27 := T (i := 13) (n := 27) (sz := 1) rfl (by simp [blkP, tagP, headP, le_length]) h.ty.1 (by have := h.ty; omega) (by omega) (by omega) k k9
    r44 := T (i := 18) (n := 44) (sz := 4) rfl (by simp [blkP, tagP, headP, le_length]) pr.1 (by omega) (by omega) (by omega) k k9
    r36 := T (i := 16) (n := 36) (sz := 4) rfl (by simp [blkP, tagP, headP, le_length]) h.uid.1 (by have := h.uid; omega) (by omega) (by omega) k k9
    r40 := T (i := 17) (n := 40) (sz := 4) rfl (by simp [blkP, tagP, headP, le_length]) h.gid.1 (by have := h.gid; omega) (by omega) (by omega) k k9
    r48 := T (i := 19) (n := 48) (sz := 2) rfl (by simp [blkP, tagP, headP, le_length]) h.links.1 (by have := h.links; omega) (by omega) (by omega) k k9
    ruq := T (i := 30) (n := 160) (sz := 4) rfl (by simp [blkP, tagP, headP, midP0, lastP, le_length, stampL_length, entL_length]) h.uq.1 (by have := h.uq; omega) (by omega) (by omega) k k9
    r56 := T (i := 21) (n := 56) (sz := 4) rfl (by simp [blkP, tagP, headP, le_length]) h.len.1 (by have := h.len; omega) (by omega) (by omega) k k9
    rat := T (i := 32) (n := 168) (sz := 4) rfl (by simp [blkP, tagP, headP, midP0, lastP, le_length, stampL_length, entL_length]) (by omega) (by omega) (by omega) (by omega) k k9
    rtl := T (i := 33) (n := 172) (sz := 4) rfl (by simp [blkP, tagP, headP, midP0, lastP, le_length, stampL_length, entL_length]) (by omega) (by omega) (by omega) (by omega) k k9
    rst := by
      rw [show (84 : Int).toNat = 84 from rfl, show ((84 : Int) + 12).toNat = 84 + 12 from rfl, extract_sl, at_]
      exact readStamp_back e.f5 h.time hc k (by omega)
    xat := by
      rw [show (176 : Int).toNat = 176 from rfl, show ((176 : Int) + (e.f13.data.toList.length : Int)).toNat = 176 + e.f13.data.toList.length by omega, extract_sl, aa, bs_of]
    xtl := by
      rw [show ((176 : Int) + (e.f13.data.toList.length : Int)).toNat = 176 + e.f13.data.toList.length by omega, show ((176 : Int) + (e.f13.data.toList.length : Int) + ((tailL e).length : Int)).toNat = 176 + e.f13.data.toList.length + (tailL e).length by omega, extract_sl, al]
    xext := by
      unfold dec_ext
      rw [c, if_neg (by decide), (h.noobj c).1, (h.noobj c).2, (h.nos (h.noobj c).2).1, (h.nos (h.noobj c).2).2] }
theorem flds1 (e : E) (h : OkE e) (loc : Int) {Y M D hh mi s : Int} (hc : ClockOf e.f5 Y M D hh mi s) (bl : Int) (c : e.f0 = true) (hn : (blockL (idE e) loc (bodyL e (stampL Y M D hh mi s) bl)).length = 2048)
    (ha : e.f13.data.toList.length + (tailL e).length ≤ 2048 - 216) (k : Nat) (hk : 300 < k) : Flds k (bs (blockL (idE e) loc (bodyL e (stampL Y M D hh mi s) bl))) e 216 92 := by
  rw [blk1 e h loc _ bl c] at hn ⊢
  have fr := flagsP_range e.f2
  have pr := permsP_range e.f2 h.mode
  have kr : 1 ≤ kindE e ∧ kindE e ≤ 3 := by unfold kindE; split <;> omega
  have k9 : 9 < k := by omega
  have T := @rdn_is _ hn
  have at_ : sl (blkP e loc (stampL Y M D hh mi s) bl (midP1 e bl (stampL Y M D hh mi s))).flatten 92 12 = stampL Y M D hh mi s := sl_piece 27 rfl (by simp [blkP, tagP, headP, midP1, le_length, stampL_length]) rfl
  have aa : sl (blkP e loc (stampL Y M D hh mi s) bl (midP1 e bl (stampL Y M D hh mi s))).flatten 216 e.f13.data.toList.length = e.f13.data.toList := sl_piece 42 rfl (by simp [blkP, tagP, headP, midP1, lastP, le_length, stampL_length, entL_length]) rfl
  have al : sl (blkP e loc (stampL Y M D hh mi s) bl (midP1 e bl (stampL Y M D hh mi s))).flatten (216 + e.f13.data.toList.length) (tailL e).length = tailL e := sl_piece 43 rfl (by simp [blkP, tagP, headP, midP1, lastP, le_length, stampL_length, entL_length]; omega) rfl
  exact {
    r20 := T (i := 9) (n := 20) (sz := 2) rfl (by simp [blkP, tagP, headP, le_length]) (by omega) (by omega) (by omega) (by omega) k k9
    r34 := T (i := 15) (n := 34) (sz := 2) rfl (by simp [blkP, tagP, headP, le_length]) (by omega) (by omega) (by omega) (by omega) k k9
    r60 := T (i := 22) (n := 60) (sz := 4) rfl (by simp [blkP, tagP, headP, le_length]) (by omega) (by omega) (by omega) (by omega) k k9
    rhi := T (i := 39) (n := 204) (sz := 4) rfl (by simp [blkP, tagP, headP, midP1, lastP, le_length, stampL_length, entL_length]) (by omega) (by omega) (by omega) (by omega) k k9
    r27 := T (i := 13) (n := 27) (sz := 1) rfl (by simp [blkP, tagP, headP, le_length]) h.ty.1 (by have := h.ty; omega) (by omega) (by omega) k k9
    r44 := T (i := 18) (n := 44) (sz := 4) rfl (by simp [blkP, tagP, headP, le_length]) pr.1 (by omega) (by omega) (by omega) k k9
    r36 := T (i := 16) (n := 36) (sz := 4) rfl (by simp [blkP, tagP, headP, le_length]) h.uid.1 (by have := h.uid; omega) (by omega) (by omega) k k9
    r40 := T (i := 17) (n := 40) (sz := 4) rfl (by simp [blkP, tagP, headP, le_length]) h.gid.1 (by have := h.gid; omega) (by omega) (by omega) k k9
    r48 := T (i := 19) (n := 48) (sz := 2) rfl (by simp [blkP, tagP, headP, le_length]) h.links.1 (by have := h.links; omega) (by omega) (by omega) k k9
    ruq := T (i := 38) (n := 200) (sz := 4) rfl (by simp [blkP, tagP, headP, midP1, lastP, le_length, stampL_length, entL_length]) h.uq.1 (by have := h.uq; omega) (by omega) (by omega) k k9
    r56 := T (i := 21) (n := 56) (sz := 4) rfl (by simp [blkP, tagP, headP, le_length]) h.len.1 (by have := h.len; omega) (by omega) (by omega) k k9
    rat := T (i := 40) (n := 208) (sz := 4) rfl (by simp [blkP, tagP, headP, midP1, lastP, le_length, stampL_length, entL_length]) (by omega) (by omega) (by omega) (by omega) k k9
    rtl := T (i := 41) (n := 212) (sz := 4) rfl (by simp [blkP, tagP, headP, midP1, lastP, le_length, stampL_length, entL_length]) (by omega) (by omega) (by omega) (by omega) k k9
    rst := by
      rw [show (92 : Int).toNat = 92 from rfl, show ((92 : Int) + 12).toNat = 92 + 12 from rfl, extract_sl, at_]
      exact readStamp_back e.f5 h.time hc k (by omega)
    xat := by
      rw [show (216 : Int).toNat = 216 from rfl, show ((216 : Int) + (e.f13.data.toList.length : Int)).toNat = 216 + e.f13.data.toList.length by omega, extract_sl, aa, bs_of]
    xtl := by
      rw [show ((216 : Int) + (e.f13.data.toList.length : Int)).toNat = 216 + e.f13.data.toList.length by omega, show ((216 : Int) + (e.f13.data.toList.length : Int) + ((tailL e).length : Int)).toNat = 216 + e.f13.data.toList.length + (tailL e).length by omega, extract_sl, al]
    xext := by
      have o := h.obj c
      have hsb := h.sb
      have hsp := h.sp
      have hl := h.len
      have r64 : rdn k (bs (blkP e loc (stampL Y M D hh mi s) bl (midP1 e bl (stampL Y M D hh mi s))).flatten) 64 6 = some e.f9 := T (i := 23) (n := 64) (sz := 6) rfl (by simp [blkP, tagP, headP, le_length]) (by omega) (by omega) (by omega) (by omega) k k9
      have r70 : rdn k (bs (blkP e loc (stampL Y M D hh mi s) bl (midP1 e bl (stampL Y M D hh mi s))).flatten) 70 2 = some 0 := T (i := 24) (n := 70) (sz := 2) rfl (by simp [blkP, tagP, headP, midP1, le_length]) (by omega) (by omega) (by omega) (by omega) k k9
      have r152 : rdn k (bs (blkP e loc (stampL Y M D hh mi s) bl (midP1 e bl (stampL Y M D hh mi s))).flatten) 152 4 = some (if e.f14 = true then 2048 else 0) := T (i := 33) (n := 152) (sz := 4) rfl (by simp [blkP, tagP, headP, midP1, le_length, stampL_length]) (by split <;> omega) (by split <;> omega) (by omega) (by omega) k k9
      have r156 : rdn k (bs (blkP e loc (stampL Y M D hh mi s) bl (midP1 e bl (stampL Y M D hh mi s))).flatten) 156 4 = some e.f15.f0 := T (i := 34) (n := 156) (sz := 4) rfl (by simp [blkP, tagP, headP, midP1, le_length, stampL_length]) (by omega) (by omega) (by omega) (by omega) k k9
      have r160 : rdn k (bs (blkP e loc (stampL Y M D hh mi s) bl (midP1 e bl (stampL Y M D hh mi s))).flatten) 160 2 = some e.f15.f1 := T (i := 35) (n := 160) (sz := 2) rfl (by simp [blkP, tagP, headP, midP1, le_length, stampL_length]) (by omega) (by omega) (by omega) (by omega) k k9
      unfold dec_ext
      rw [c, if_pos rfl, r64, Option.bind_some, r70, Option.bind_some, r152, Option.bind_some]
      cases d : e.f14
      · rw [if_pos (by decide), (h.nos d).1, (h.nos d).2]
        rfl
      · rw [if_neg (by decide), r156, Option.bind_some, r160, Option.bind_some]
        rfl }
theorem decode_is (e : E) (h : OkE e) (loc : Int) (hl : 0 ≤ loc ∧ loc ≤ 4294967295) {Y M D hh mi s : Int} (hc : ClockOf e.f5 Y M D hh mi s) (bl : Int) (hv : ∀ k, 300 < k → validK k e = some true)
    (hf : ¬ (e.f13.data.toList.length : Int) + (tailL e).length > 2048 - fixE e) (k : Nat) (hk : 400 < k) (a1 : Int) :
    icb_Decode.f k (bs (blockL (idE e) loc (bodyL e (stampL Y M D hh mi s) bl))) a1 = some (if loc = a1 then tupE e else dec_err 10) := by
  have hbody := bodyL_length e (stampL Y M D hh mi s) (stampL_length ..) bl
  have hs : (bodyL e (stampL Y M D hh mi s) bl).length ≤ 2032 := by omega
  have hid : 0 ≤ idE e ∧ idE e < 65536 := by unfold idE; split <;> omega
  have hlen := blockL_length (idE e) loc _ hs
  have his : ∀ id2, udftag_Is.f k (bs (blockL (idE e) loc (bodyL e (stampL Y M D hh mi s) bl))) id2 a1 = some (decide (loc = a1) && (idE e == id2)) := fun id2 => is_is (idE e) loc _ hid (by omega) hs id2 a1 k (by omega)
  unfold icb_Decode.f
  rw [his, Option.bind_some]
  by_cases ha : loc = a1
  · rw [decide_eq_true ha, if_pos ha, Bool.true_and]
    have hx : (idE e == 266) = e.f0 := by unfold idE; cases e.f0 <;> rfl
    have hok : dec_ok k (bs (blockL (idE e) loc (bodyL e (stampL Y M D hh mi s) bl))) e.f0 a1 = some true := by
      unfold dec_ok
      rw [bs_size, hlen, if_pos (by rfl), his, decide_eq_true ha]
      cases c : e.f0
      · rw [if_neg (by decide)]
        unfold idE
        rw [c]
        rfl
      · rw [if_pos rfl]
    rw [hx, hok, Option.bind_some, if_pos rfl]
    cases c : e.f0
    · have hfx : fixE e = 176 := by unfold fixE; rw [c]; rfl
      rw [← c]
      exact dec_of e h (by omega) (flds0 e h loc hc bl c hlen (by omega) k (by omega)) (by rw [c]; rfl) (hv k (by omega)) (by omega) (by omega)
    · have hfx : fixE e = 216 := by unfold fixE; rw [c]; rfl
      rw [← c]
      exact dec_of e h (by omega) (flds1 e h loc hc bl c hlen (by omega) k (by omega)) (by rw [c]; rfl) (hv k (by omega)) (by omega) (by omega)
  · rw [decide_eq_false ha, if_neg ha, Bool.false_and]
    have hok : dec_ok k (bs (blockL (idE e) loc (bodyL e (stampL Y M D hh mi s) bl))) false a1 = some false := by
      unfold dec_ok
      rw [bs_size, hlen, if_pos (by rfl), his, decide_eq_false ha, if_neg (by decide)]
      rfl
    rw [hok, Option.bind_some, if_neg (by decide)]
end Go.Proofs.Yticmghpnbjhhnab.Icb
