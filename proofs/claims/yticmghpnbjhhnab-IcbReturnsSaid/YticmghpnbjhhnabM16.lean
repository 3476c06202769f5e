/- Lean functions with the answers of the Go functions that they are named after, and the walks that tie the Go functions to them (written by the program mp.py of this session). -/
import Derived.Test.YticmghpnbjhhnabM0
import Derived.Test.YticmghpnbjhhnabM3
import Derived.Test.YticmghpnbjhhnabM7
import Derived.Test.YticmghpnbjhhnabM9
import Derived.Test.YticmghpnbjhhnabM11
import Derived.Test.YticmghpnbjhhnabM12
import Derived.Test.YticmghpnbjhhnabM14
import Derived.Test.YticmghpnbjhhnabM15
namespace Go.Proofs.Yticmghpnbjhhnab.M
open Go.RowKit Go.Proofs.YticmghpnbjhhnabW.PrintWords Go.Proofs.YticmghpnbjhhnabW.PrintLast Go.Proofs.YticmghpnbjhhnabW.PrintMore
attribute [local go_sem] fieldA50_0 fieldA102_0 max2_int min2_int max_two min_two max_three min_three max_four min_four   -- for this text's walks alone
set_option linter.unusedVariables false
set_option linter.unusedSimpArgs false

/-! ### icb_Decode: function 15 -/
set_option maxHeartbeats 4000000 in
set_option maxRecDepth 100000 in
theorem decode_num (k g : Nat) (s : ByteArray) (at_ sz n z : Int) (w : World) (hg : w.heap[g]? = some (.cells #[.string s] 9 (0, 0))) (h : endian_ReadLittle.f k s at_ sz = some (n, z)) :
  Calls Try.prog 36 #[.int .i64 at_, .int .i64 sz, .pointer (some ⟨g, 0, none⟩)] w fun e w' => e = .returned (.int .i64 n) ∧ Below w.heap.size w w' := by
 have c0 : w.cell? ⟨g, 0, none⟩ = some (.string s) := (blk_cell hg 0).trans rfl
 have H := Aside0.mk h
 clear h
 go_enter Try.func36, Try.ntmps36
 go_wp2_with (go_at_call 37; (with_reducible refine (endian_ReadLittle.calls k s at_ sz n z _ H.out).mono ?_); rintro e w1 ⟨rfl, hb⟩; have HB := Aside0.mk hb; clear hb)
 go_ret
 exact ⟨rfl, HB.out⟩

/-- A number of a field: what the closure number of icb.Decode returns. -/
def rdn (k : Nat) (s : ByteArray) (at_ sz : Int) : Option Int := (endian_ReadLittle.f k s at_ sz).bind fun t => if 0 ≤ t.1 ∧ t.1 < 281474976710656 then some t.1 else none
theorem rdn.mono (s : ByteArray) (at_ sz : Int) (k : Nat) : LeO (rdn k s at_ sz) (rdn (k + 1) s at_ sz) := LeO.bind (endian_ReadLittle.mono _ _ _ _) (fun _ => LeO.refl _)
theorem rdn_some {k : Nat} {s : ByteArray} {at_ sz n : Int} (h : rdn k s at_ sz = some n) : (∃ z, endian_ReadLittle.f k s at_ sz = some (n, z)) ∧ 0 ≤ n ∧ n < 281474976710656 := by
 obtain ⟨⟨m, z⟩, h1, h2⟩ := Option.bind_eq_some_iff.1 h
 replace h2 : (if 0 ≤ m ∧ m < 281474976710656 then some m else none) = some n := h2
 split at h2
 ·rename_i hh
  obtain rfl := Option.some.inj h2
  exact ⟨⟨z, h1⟩, hh⟩
 ·cases h2
abbrev DecT := Bool × Int × Int × Int × Int × Int × Int × Int × Int × Int × Bool × ByteArray × List (S69) × ByteArray × Bool × Int × Int × Int
def dec_err (c : Int) : DecT := (false, 0, 0, 0, 0, 0, 0, 0, 0, 0, false, (⟨#[]⟩ : ByteArray), [], (⟨#[]⟩ : ByteArray), false, 0, 0, c)
def decC (ext : Bool) (ty mode uid gid tm links uq len obj : Int) (emb : Bool) (data : ByteArray) (sv : Value) (attrs : ByteArray) (hs : Bool) (sb sp : Int) : Array Value := #[.bool ext, .int .i64 ty, .int .i64 mode, .int .i64 uid, .int .i64 gid, .int .i64 tm, .int .i64 links, .int .i64 uq, .int .i64 len, .int .i64 obj, .bool emb, .string data, sv, .string attrs, .bool hs, .int .i64 sb, .int .i64 sp]
def decZ : Array Value := decC false 0 0 0 0 0 0 0 0 0 false (⟨#[]⟩ : ByteArray) (.slice none 0 0) (⟨#[]⟩ : ByteArray) false 0 0
def flagsBad (st f7 : Int) : Bool := st != 4 || (f7 != 1 && f7 != 3)
def sizesBad (m1 at_ tl : Int) : Bool := decide (at_ > 2048 - m1) || decide (tl > 2048 - m1 - at_)
def dec_valid (k : Nat) (ext : Bool) (ty mode uid gid tm links uq len obj : Int) (emb : Bool) (data : ByteArray) (l : List (S69)) (attrs : ByteArray) (hs : Bool) (sb sp hi : Int) : Option DecT :=
 if hi = 0 then (icb_Valid.f k ext ty mode uid gid tm links uq len obj emb data l attrs hs sb sp).bind fun v => if v = true then some (ext, ty, mode, uid, gid, tm, links, uq, len, obj, emb, data, l, attrs, hs, sb, sp, 0) else some (dec_err 10) else some (dec_err 10)
def dec_tail (k : Nat) (emb : Bool) (rest : ByteArray) : Option (ByteArray × List (S69) × Int) := if emb = true then some (rest, [], 0) else (allocation_DecodeLong.f k rest).bind fun t => some ((⟨#[]⟩ : ByteArray), t.1, t.2)
def dec_ext (k : Nat) (ext : Bool) (s : ByteArray) (hi : Int) : Option (Int × Int × Bool × Int × Int) := if ext = true then (rdn k s 64 6).bind fun obj => (rdn k s 70 2).bind fun h3 => (rdn k s 152 4).bind fun sl => if sl % 1073741824 = 0 then some (obj, hi + h3, false, 0, 0) else (rdn k s 156 4).bind fun sb => (rdn k s 160 2).bind fun sp => some (obj, hi + h3, true, sb, sp) else some (0, hi, false, 0, 0)
def dec_fields (k : Nat) (s : ByteArray) (ext : Bool) (m1 fl tm at_ tl : Int) : Option DecT :=
 (rdn k s 60 4).bind fun h1 => (rdn k s (m1 - 12) 4).bind fun h2 => (rdn k s 27 1).bind fun ty => (rdn k s 44 4).bind fun pm => (icb_Mode.f k pm fl).bind fun mode => (rdn k s 36 4).bind fun uid => (rdn k s 40 4).bind fun gid => (rdn k s 48 2).bind fun links => (rdn k s (m1 - 16) 4).bind fun uq => (rdn k s 56 4).bind fun len =>
 (dec_ext k ext s (h1 + h2)).bind fun x => (dec_tail k (bits .and .i64 fl 7 == 3) (s.extract (m1 + at_).toNat (m1 + at_ + tl).toNat)).bind fun d =>
 if d.2.2 = 0 then dec_valid k ext ty mode uid gid tm links uq len x.1 (bits .and .i64 fl 7 == 3) d.1 d.2.1 (s.extract m1.toNat (m1 + at_).toNat) x.2.2.1 x.2.2.2.1 x.2.2.2.2 x.2.1 else some (dec_err 10)
def dec_sizes (k : Nat) (s : ByteArray) (ext : Bool) (m1 fl tm : Int) : Option DecT :=
 (rdn k s (m1 - 8) 4).bind fun at_ => (rdn k s (m1 - 4) 4).bind fun tl => if sizesBad m1 at_ tl = true then some (dec_err 10) else dec_fields k s ext m1 fl tm at_ tl
def dec_stamp (k : Nat) (s : ByteArray) (ext : Bool) (m1 m2 fl : Int) : Option DecT :=
 (datetime_ReadStamp.f k (s.extract m2.toNat (m2 + 12).toNat)).bind fun t => if t.2.2 = 0 then dec_sizes k s ext m1 fl t.1 else some (dec_err t.2.2)
def dec_flags (k : Nat) (s : ByteArray) (ext : Bool) : Option DecT :=
 (icb_forms.f ext).bind fun m => (rdn k s 34 2).bind fun fl => (rdn k s 20 2).bind fun st => if flagsBad st (bits .and .i64 fl 7) = true then some (dec_err 14) else dec_stamp k s ext m.1 m.2 fl
def dec_ok (k : Nat) (s : ByteArray) (ext : Bool) (loc : Int) : Option Bool := if (s.size : Int) = 2048 then (if ext = true then some true else udftag_Is.f k s 261 loc) else some false
def icb_Decode.f (k : Nat) (a0 : ByteArray) (a1 : Int) : Option (Bool × Int × Int × Int × Int × Int × Int × Int × Int × Int × Bool × ByteArray × List (S69) × ByteArray × Bool × Int × Int × Int) :=
 (udftag_Is.f k a0 266 a1).bind fun ext => (dec_ok k a0 ext a1).bind fun ok => if ok = true then dec_flags k a0 ext else some (dec_err 10)
theorem dec_valid.mono : ∀ a0 a1 a2 a3 a4 a5 a6 a7 a8 a9 a10 a11 a12 a13 a14 a15 a16 a17 k, LeO (dec_valid k a0 a1 a2 a3 a4 a5 a6 a7 a8 a9 a10 a11 a12 a13 a14 a15 a16 a17) (dec_valid (k + 1) a0 a1 a2 a3 a4 a5 a6 a7 a8 a9 a10 a11 a12 a13 a14 a15 a16 a17) := by
 intro a0 a1 a2 a3 a4 a5 a6 a7 a8 a9 a10 a11 a12 a13 a14 a15 a16 a17 k
 unfold dec_valid
 repeat' first
  | (with_reducible exact rdn.mono _ _ _ _)
  | (with_reducible exact icb_Valid.mono _ _ _ _ _ _ _ _ _ _ _ _ _ _ _ _ _ _)
  | (with_reducible exact allocation_DecodeLong.mono _ _)
  | (with_reducible exact icb_Mode.mono _ _ _)
  | (with_reducible exact datetime_ReadStamp.mono _ _)
  | (with_reducible exact udftag_Is.mono _ _ _ _)
  | (with_reducible exact LeO.refl _)
  | (with_reducible exact LeO.none _)
  | (with_reducible refine LeO.ite ?_ ?_)
  | (with_reducible refine LeO.bind ?_ (fun _ => ?_))
theorem dec_tail.mono : ∀ a0 a1 k, LeO (dec_tail k a0 a1) (dec_tail (k + 1) a0 a1) := by
 intro a0 a1 k
 unfold dec_tail
 repeat' first
  | (with_reducible exact rdn.mono _ _ _ _)
  | (with_reducible exact icb_Valid.mono _ _ _ _ _ _ _ _ _ _ _ _ _ _ _ _ _ _)
  | (with_reducible exact allocation_DecodeLong.mono _ _)
  | (with_reducible exact icb_Mode.mono _ _ _)
  | (with_reducible exact datetime_ReadStamp.mono _ _)
  | (with_reducible exact udftag_Is.mono _ _ _ _)
  | (with_reducible exact LeO.refl _)
  | (with_reducible exact LeO.none _)
  | (with_reducible refine LeO.ite ?_ ?_)
  | (with_reducible refine LeO.bind ?_ (fun _ => ?_))
  | (with_reducible exact dec_valid.mono _ _ _ _ _ _ _ _ _ _ _ _ _ _ _ _ _ _ _)
theorem dec_ext.mono : ∀ a0 a1 a2 k, LeO (dec_ext k a0 a1 a2) (dec_ext (k + 1) a0 a1 a2) := by
 intro a0 a1 a2 k
 unfold dec_ext
 repeat' first
  | (with_reducible exact rdn.mono _ _ _ _)
  | (with_reducible exact icb_Valid.mono _ _ _ _ _ _ _ _ _ _ _ _ _ _ _ _ _ _)
  | (with_reducible exact allocation_DecodeLong.mono _ _)
  | (with_reducible exact icb_Mode.mono _ _ _)
  | (with_reducible exact datetime_ReadStamp.mono _ _)
  | (with_reducible exact udftag_Is.mono _ _ _ _)
  | (with_reducible exact LeO.refl _)
  | (with_reducible exact LeO.none _)
  | (with_reducible refine LeO.ite ?_ ?_)
  | (with_reducible refine LeO.bind ?_ (fun _ => ?_))
  | (with_reducible exact dec_valid.mono _ _ _ _ _ _ _ _ _ _ _ _ _ _ _ _ _ _ _)
  | (with_reducible exact dec_tail.mono _ _ _)
theorem dec_fields.mono : ∀ a0 a1 a2 a3 a4 a5 a6 k, LeO (dec_fields k a0 a1 a2 a3 a4 a5 a6) (dec_fields (k + 1) a0 a1 a2 a3 a4 a5 a6) := by
 intro a0 a1 a2 a3 a4 a5 a6 k
 unfold dec_fields
 repeat' first
  | (with_reducible exact rdn.mono _ _ _ _)
  | (with_reducible exact icb_Valid.mono _ _ _ _ _ _ _ _ _ _ _ _ _ _ _ _ _ _)
  | (with_reducible exact allocation_DecodeLong.mono _ _)
  | (with_reducible exact icb_Mode.mono _ _ _)
  | (with_reducible exact datetime_ReadStamp.mono _ _)
  | (with_reducible exact udftag_Is.mono _ _ _ _)
  | (with_reducible exact LeO.refl _)
  | (with_reducible exact LeO.none _)
  | (with_reducible refine LeO.ite ?_ ?_)
  | (with_reducible refine LeO.bind ?_ (fun _ => ?_))
  | (with_reducible exact dec_valid.mono _ _ _ _ _ _ _ _ _ _ _ _ _ _ _ _ _ _ _)
  | (with_reducible exact dec_tail.mono _ _ _)
  | (with_reducible exact dec_ext.mono _ _ _ _)
theorem dec_sizes.mono : ∀ a0 a1 a2 a3 a4 k, LeO (dec_sizes k a0 a1 a2 a3 a4) (dec_sizes (k + 1) a0 a1 a2 a3 a4) := by
 intro a0 a1 a2 a3 a4 k
 unfold dec_sizes
 repeat' first
  | (with_reducible exact rdn.mono _ _ _ _)
  | (with_reducible exact icb_Valid.mono _ _ _ _ _ _ _ _ _ _ _ _ _ _ _ _ _ _)
  | (with_reducible exact allocation_DecodeLong.mono _ _)
  | (with_reducible exact icb_Mode.mono _ _ _)
  | (with_reducible exact datetime_ReadStamp.mono _ _)
  | (with_reducible exact udftag_Is.mono _ _ _ _)
  | (with_reducible exact LeO.refl _)
  | (with_reducible exact LeO.none _)
  | (with_reducible refine LeO.ite ?_ ?_)
  | (with_reducible refine LeO.bind ?_ (fun _ => ?_))
  | (with_reducible exact dec_valid.mono _ _ _ _ _ _ _ _ _ _ _ _ _ _ _ _ _ _ _)
  | (with_reducible exact dec_tail.mono _ _ _)
  | (with_reducible exact dec_ext.mono _ _ _ _)
  | (with_reducible exact dec_fields.mono _ _ _ _ _ _ _ _)
theorem dec_stamp.mono : ∀ a0 a1 a2 a3 a4 k, LeO (dec_stamp k a0 a1 a2 a3 a4) (dec_stamp (k + 1) a0 a1 a2 a3 a4) := by
 intro a0 a1 a2 a3 a4 k
 unfold dec_stamp
 repeat' first
  | (with_reducible exact rdn.mono _ _ _ _)
  | (with_reducible exact icb_Valid.mono _ _ _ _ _ _ _ _ _ _ _ _ _ _ _ _ _ _)
  | (with_reducible exact allocation_DecodeLong.mono _ _)
  | (with_reducible exact icb_Mode.mono _ _ _)
  | (with_reducible exact datetime_ReadStamp.mono _ _)
  | (with_reducible exact udftag_Is.mono _ _ _ _)
  | (with_reducible exact LeO.refl _)
  | (with_reducible exact LeO.none _)
  | (with_reducible refine LeO.ite ?_ ?_)
  | (with_reducible refine LeO.bind ?_ (fun _ => ?_))
  | (with_reducible exact dec_valid.mono _ _ _ _ _ _ _ _ _ _ _ _ _ _ _ _ _ _ _)
  | (with_reducible exact dec_tail.mono _ _ _)
  | (with_reducible exact dec_ext.mono _ _ _ _)
  | (with_reducible exact dec_fields.mono _ _ _ _ _ _ _ _)
  | (with_reducible exact dec_sizes.mono _ _ _ _ _ _)
theorem dec_flags.mono : ∀ a0 a1 k, LeO (dec_flags k a0 a1) (dec_flags (k + 1) a0 a1) := by
 intro a0 a1 k
 unfold dec_flags
 repeat' first
  | (with_reducible exact rdn.mono _ _ _ _)
  | (with_reducible exact icb_Valid.mono _ _ _ _ _ _ _ _ _ _ _ _ _ _ _ _ _ _)
  | (with_reducible exact allocation_DecodeLong.mono _ _)
  | (with_reducible exact icb_Mode.mono _ _ _)
  | (with_reducible exact datetime_ReadStamp.mono _ _)
  | (with_reducible exact udftag_Is.mono _ _ _ _)
  | (with_reducible exact LeO.refl _)
  | (with_reducible exact LeO.none _)
  | (with_reducible refine LeO.ite ?_ ?_)
  | (with_reducible refine LeO.bind ?_ (fun _ => ?_))
  | (with_reducible exact dec_valid.mono _ _ _ _ _ _ _ _ _ _ _ _ _ _ _ _ _ _ _)
  | (with_reducible exact dec_tail.mono _ _ _)
  | (with_reducible exact dec_ext.mono _ _ _ _)
  | (with_reducible exact dec_fields.mono _ _ _ _ _ _ _ _)
  | (with_reducible exact dec_sizes.mono _ _ _ _ _ _)
  | (with_reducible exact dec_stamp.mono _ _ _ _ _ _)
theorem dec_ok.mono : ∀ a0 a1 a2 k, LeO (dec_ok k a0 a1 a2) (dec_ok (k + 1) a0 a1 a2) := by
 intro a0 a1 a2 k
 unfold dec_ok
 repeat' first
  | (with_reducible exact rdn.mono _ _ _ _)
  | (with_reducible exact icb_Valid.mono _ _ _ _ _ _ _ _ _ _ _ _ _ _ _ _ _ _)
  | (with_reducible exact allocation_DecodeLong.mono _ _)
  | (with_reducible exact icb_Mode.mono _ _ _)
  | (with_reducible exact datetime_ReadStamp.mono _ _)
  | (with_reducible exact udftag_Is.mono _ _ _ _)
  | (with_reducible exact LeO.refl _)
  | (with_reducible exact LeO.none _)
  | (with_reducible refine LeO.ite ?_ ?_)
  | (with_reducible refine LeO.bind ?_ (fun _ => ?_))
  | (with_reducible exact dec_valid.mono _ _ _ _ _ _ _ _ _ _ _ _ _ _ _ _ _ _ _)
  | (with_reducible exact dec_tail.mono _ _ _)
  | (with_reducible exact dec_ext.mono _ _ _ _)
  | (with_reducible exact dec_fields.mono _ _ _ _ _ _ _ _)
  | (with_reducible exact dec_sizes.mono _ _ _ _ _ _)
  | (with_reducible exact dec_stamp.mono _ _ _ _ _ _)
  | (with_reducible exact dec_flags.mono _ _ _)
theorem icb_Decode.mono : ∀ a0 a1 k, LeO (icb_Decode.f k a0 a1) (icb_Decode.f (k + 1) a0 a1) := by
 intro a0 a1 k
 unfold icb_Decode.f
 repeat' first
  | (with_reducible exact rdn.mono _ _ _ _)
  | (with_reducible exact icb_Valid.mono _ _ _ _ _ _ _ _ _ _ _ _ _ _ _ _ _ _)
  | (with_reducible exact allocation_DecodeLong.mono _ _)
  | (with_reducible exact icb_Mode.mono _ _ _)
  | (with_reducible exact datetime_ReadStamp.mono _ _)
  | (with_reducible exact udftag_Is.mono _ _ _ _)
  | (with_reducible exact LeO.refl _)
  | (with_reducible exact LeO.none _)
  | (with_reducible refine LeO.ite ?_ ?_)
  | (with_reducible refine LeO.bind ?_ (fun _ => ?_))
  | (with_reducible exact dec_valid.mono _ _ _ _ _ _ _ _ _ _ _ _ _ _ _ _ _ _ _)
  | (with_reducible exact dec_tail.mono _ _ _)
  | (with_reducible exact dec_ext.mono _ _ _ _)
  | (with_reducible exact dec_fields.mono _ _ _ _ _ _ _ _)
  | (with_reducible exact dec_sizes.mono _ _ _ _ _ _)
  | (with_reducible exact dec_stamp.mono _ _ _ _ _ _)
  | (with_reducible exact dec_flags.mono _ _ _)
  | (with_reducible exact dec_ok.mono _ _ _ _)
structure DC (w0 w : World) (gs gr : Nat) (s : ByteArray) : Prop where
 blw : Below w0.heap.size w0 w
 los : w0.heap.size ≤ gs
 lor : w0.heap.size ≤ gr
 src : w.heap[gs]? = some (.cells #[.string s] 9 (0, 0))
 res : w.heap[gr]? = some (.cells decZ 31 (0, 0))
theorem DC.below {w0 w w1 : World} {gs gr : Nat} {s : ByteArray} (h : DC w0 w gs gr s) (hb : Below w.heap.size w w1) : DC w0 w1 gs gr s := ⟨below_step h.blw hb, h.los, h.lor, blk_below h.src hb, blk_below h.res hb⟩
theorem DC.cell {w0 w : World} {gs gr : Nat} {s : ByteArray} (h : DC w0 w gs gr s) : w.cell? ⟨gs, 0, none⟩ = some (.string s) := (blk_cell h.src 0).trans rfl
theorem dc_fresh {w0 w1 w2 : World} {gs gr : Nat} {s : ByteArray} (hb1 : Below w0.heap.size w0 w1) (lo : w0.heap.size ≤ gs) (hs : w1.heap[gs]? = some (.cells #[.string s] 9 (0, 0))) (hg : gr = w1.heap.size) (hr : w2.heap[gr]? = some (.cells decZ 31 (0, 0))) (hb : Below w1.heap.size w1 w2) : DC w0 w2 gs gr s :=
 ⟨below_step hb1 hb, lo, by rw [hg]; exact hb1.size, blk_below hs hb, hr⟩
structure DG (w0 w : World) (gs gr gf : Nat) (s : ByteArray) (m1 m2 : Int) : Prop where
 dc : DC w0 w gs gr s
 frm : w.heap[gf]? = some (.cells #[.int .i64 m1, .int .i64 m2] 50 (0, 0))
theorem DG.below {w0 w w1 : World} {gs gr gf : Nat} {s : ByteArray} {m1 m2 : Int} (h : DG w0 w gs gr gf s m1 m2) (hb : Below w.heap.size w w1) : DG w0 w1 gs gr gf s m1 m2 := ⟨h.dc.below hb, blk_below h.frm hb⟩
theorem DG.drew {w0 w : World} {gs gr gf : Nat} {s : ByteArray} {m1 m2 : Int} (h : DG w0 w gs gr gf s m1 m2) : DG w0 w.drew gs gr gf s m1 m2 := h.below (Below.drew (Below.refl _ _))
theorem DG.c1 {w0 w : World} {gs gr gf : Nat} {s : ByteArray} {m1 m2 : Int} (h : DG w0 w gs gr gf s m1 m2) : w.cell? ⟨gf, 0, none⟩ = some (.int .i64 m1) := (blk_cell h.frm 0).trans rfl
theorem DG.c2 {w0 w : World} {gs gr gf : Nat} {s : ByteArray} {m1 m2 : Int} (h : DG w0 w gs gr gf s m1 m2) : w.cell? ⟨gf, 1, none⟩ = some (.int .i64 m2) := (blk_cell h.frm 1).trans rfl
theorem dg_fresh {w0 w5 w6 : World} {gs gr gf : Nat} {s : ByteArray} {cs : Array Value} {m1 m2 : Int} (hd : DC w0 w5 gs gr s) (hg : gf = w5.heap.size) (hbox : w6.heap[gf]? = some (.cells cs 50 (0, 0))) (hb : Below w5.heap.size w5 w6) : DG w0 (w6.setRow gf #[.int .i64 m1, .int .i64 m2]) gs gr gf s m1 m2 := by
 have h6 := hd.below hb
 have l1 := blk_lt hd.src
 have l2 := blk_lt hd.res
 exact ⟨⟨below_setRow h6.blw (by rw [hg]; exact hd.blw.size) _, hd.los, hd.lor, (setRow_other w6 gf gs _ (by omega)).trans h6.src, (setRow_other w6 gf gr _ (by omega)).trans h6.res⟩, setRow_heap w6 gf _ _ _ _ hbox⟩
theorem forms_range {b : Bool} {m1 m2 : Int} (h : icb_forms.f b = some (m1, m2)) : 176 ≤ m1 ∧ m1 ≤ 216 ∧ 84 ≤ m2 ∧ m2 ≤ 92 := by
 unfold icb_forms.f at h
 cases b <;> simp at h <;> omega
theorem dg_num {k : Nat} {w0 w : World} {gs gr gf : Nat} {s : ByteArray} {m1 m2 at_ sz n : Int} (h : DG w0 w gs gr gf s m1 m2) (hf : rdn k s at_ sz = some n) :
  Calls Try.prog 36 #[.int .i64 at_, .int .i64 sz, .pointer (some ⟨gs, 0, none⟩)] w fun e w' => e = .returned (.int .i64 n) ∧ DG w0 w' gs gr gf s m1 m2 := by
 obtain ⟨⟨z, h1⟩, _⟩ := rdn_some hf
 refine (decode_num k gs s at_ sz n z w h.dc.src h1).mono ?_
 rintro e w' ⟨rfl, hb⟩
 exact ⟨rfl, h.below hb⟩
structure DE (w0 w : World) (gs gr gf ge : Nat) (s : ByteArray) (m1 m2 : Int) (cs : Array Value) : Prop where
 dg : DG w0 w gs gr gf s m1 m2
 box : w.heap[ge]? = some (.cells cs 31 (0, 0))
 lo : w0.heap.size ≤ ge
 ns : gs ≠ ge
 nr : gr ≠ ge
 nf : gf ≠ ge
theorem DE.below {w0 w w1 : World} {gs gr gf ge : Nat} {s : ByteArray} {m1 m2 : Int} {cs : Array Value} (h : DE w0 w gs gr gf ge s m1 m2 cs) (hb : Below w.heap.size w w1) : DE w0 w1 gs gr gf ge s m1 m2 cs := ⟨h.dg.below hb, blk_below h.box hb, h.lo, h.ns, h.nr, h.nf⟩
theorem DE.set {w0 w : World} {gs gr gf ge : Nat} {s : ByteArray} {m1 m2 : Int} {cs cs' : Array Value} (h : DE w0 w gs gr gf ge s m1 m2 cs) (i : Nat) (v : Value) (e : cs.setIfInBounds i v = cs') : DE w0 (w.setCell ⟨ge, i, none⟩ v) gs gr gf ge s m1 m2 cs' :=
 ⟨⟨⟨below_set h.dg.dc.blw h.lo, h.dg.dc.los, h.dg.dc.lor, blk_far h.dg.dc.src h.ns v, blk_far h.dg.dc.res h.nr v⟩, blk_far h.dg.frm h.nf v⟩, blk_put h.box i v e, h.lo, h.ns, h.nr, h.nf⟩
theorem DE.cell {w0 w : World} {gs gr gf ge : Nat} {s : ByteArray} {m1 m2 : Int} {cs : Array Value} (h : DE w0 w gs gr gf ge s m1 m2 cs) (i : Nat) : w.cell? ⟨ge, i, none⟩ = cs[i]? := blk_cell h.box i
theorem DE.frz {w0 w : World} {gs gr gf ge : Nat} {s : ByteArray} {m1 m2 : Int} {cs : Array Value} (h : DE w0 w gs gr gf ge s m1 m2 cs) (i : Nat) : w.frozen? ⟨ge, i, none⟩ = false := blk_frozen h.box i
theorem de_num {k : Nat} {w0 w : World} {gs gr gf ge : Nat} {s : ByteArray} {m1 m2 at_ sz n : Int} {cs : Array Value} (h : DE w0 w gs gr gf ge s m1 m2 cs) (hf : rdn k s at_ sz = some n) :
  Calls Try.prog 36 #[.int .i64 at_, .int .i64 sz, .pointer (some ⟨gs, 0, none⟩)] w fun e w' => e = .returned (.int .i64 n) ∧ DE w0 w' gs gr gf ge s m1 m2 cs := by
 obtain ⟨⟨z, h1⟩, _⟩ := rdn_some hf
 refine (decode_num k gs s at_ sz n z w h.dg.dc.src h1).mono ?_
 rintro e w' ⟨rfl, hb⟩
 exact ⟨rfl, h.below hb⟩
theorem gate_store {P : Program} {ops : Array Oper} {rest : List Oper} {o : Oper} {a : Act} {Q : Exit → Act → World → Prop} {W : World} {ty : TypeId} {x y : Operand} (_h : o.op = .store ty x y) (h : wpList P ops Q (o :: rest) a W) : wpList P ops Q (o :: rest) a W := h
theorem de_zero {w0 w w1 : World} {gs gr gf ge : Nat} {s : ByteArray} {m1 m2 : Int} (hd : DG w0 w gs gr gf s m1 m2) (hg : ge = w.heap.size) (hbox : w1.heap[ge]? = some (.cells decZ 31 (0, 0))) (hb : Below w.heap.size w w1) : DE w0 w1 gs gr gf ge s m1 m2 decZ := by
 have l1 := blk_lt hd.dc.src
 have l2 := blk_lt hd.dc.res
 have l3 := blk_lt hd.frm
 exact ⟨hd.below hb, hbox, by rw [hg]; exact hd.dc.blw.size, by omega, by omega, by omega⟩
theorem DE.row {w0 w : World} {gs gr gf ge : Nat} {s : ByteArray} {m1 m2 : Int} {cs : Array Value} (h : DE w0 w gs gr gf ge s m1 m2 cs) (cs' : Array Value) : DE w0 (w.setRow ge cs') gs gr gf ge s m1 m2 cs' :=
 ⟨⟨⟨below_setRow h.dg.dc.blw h.lo _, h.dg.dc.los, h.dg.dc.lor, (setRow_other w ge gs _ h.ns).trans h.dg.dc.src, (setRow_other w ge gr _ h.nr).trans h.dg.dc.res⟩, (setRow_other w ge gf _ h.nf).trans h.dg.frm⟩, setRow_heap w ge _ _ _ _ h.box, h.lo, h.ns, h.nr, h.nf⟩
theorem alloc_event {P : Program} {ops : Array Oper} {o : Oper} {a : Act} {Q : Exit → Act → World → Prop} {Kc : Act → World → Prop} {W : World} {cs : Array Value} {t : TypeId} (hw : Region.wanted o (yielded ops a.tmps) = true)
  (hrun : (execOp a.eval o).run P W = .ok (.value (.pointer (some ⟨W.heap.size, 0, none⟩))) (W.alloc (.cells cs t (0, 0))))
  (h : ∀ g w1, g = W.heap.size → w1.heap[g]? = some (.cells cs t (0, 0)) → Below W.heap.size W w1 → Kc (a.put o.dst (.pointer (some ⟨g, 0, none⟩))) w1) : if Region.wanted o (yielded ops a.tmps) = true then Oper.wp P o a W Kc Q else Kc (a.put o.dst undef) W :=
 event_step hw hrun (h _ _ rfl (blk_new W _) (below_alloc (Below.refl _ _) _))
theorem one_2 (a b : Int) : (#[Value.int .i64 a, .int .i64 b] : Array Value).all (·.oneCell') = true := by simp [Value.oneCell']
theorem one_C (ext : Bool) (ty mode uid gid tm links uq len obj : Int) (emb : Bool) (data : ByteArray) (sv : Value) (attrs : ByteArray) (hs : Bool) (sb sp : Int) (h : sv.oneCell' = true) : (decC ext ty mode uid gid tm links uq len obj emb data sv attrs hs sb sp).all (·.oneCell') = true := by simp [decC, Value.oneCell']; simpa [Value.oneCell'] using h
theorem one_Z : decZ.all (·.oneCell') = true := one_C _ _ _ _ _ _ _ _ _ _ _ _ _ _ _ _ _ rfl
theorem store_step {P : Program} {ops : Array Oper} {o : Oper} {a : Act} {Q : Exit → Act → World → Prop} {Kc : Act → World → Prop} {W : World} (hw : Region.wanted o (yielded ops a.tmps) = true) (h : Oper.wp P o a W Kc Q) : if Region.wanted o (yielded ops a.tmps) = true then Oper.wp P o a W Kc Q else Kc (a.put o.dst undef) W := by
 rw [if_pos hw]
 exact h
set_option maxHeartbeats 16000000 in
set_option maxRecDepth 100000 in
theorem icb_Decode.calls (k : Nat) (a0 : ByteArray) (a1 : Int) (r1 : Bool) (r2 : Int) (r3 : Int) (r4 : Int) (r5 : Int) (r6 : Int) (r7 : Int) (r8 : Int) (r9 : Int) (r10 : Int) (r11 : Bool) (r12 : ByteArray) (r13 : List (S69)) (r14 : ByteArray) (r15 : Bool) (r16 : Int) (r17 : Int) (r18 : Int) (w : World) (h : icb_Decode.f k a0 a1 = some (r1, r2, r3, r4, r5, r6, r7, r8, r9, r10, r11, r12, r13, r14, r15, r16, r17, r18)) :
  Calls Try.prog 15 #[.string a0, .int .i64 a1] w fun e w' => ∃ v12_ : Value, e = .returned (.tuple #[.agg #[.bool r1, .int .i64 r2, .int .i64 r3, .int .i64 r4, .int .i64 r5, .int .i64 r6, .int .i64 r7, .int .i64 r8, .int .i64 r9, .int .i64 r10, .bool r11, .string r12, v12_, .string r14, .bool r15, .int .i64 r16, .int .i64 r17], .int .i64 r18]) ∧ Kd.R k69 69 w' w.heap.size (fun _ => True) v12_ r13 ∧ Below w.heap.size w w' := by
 have hu31 := Try.underlying31
 have hu29 := Try.underlying29
 have hu50 := Try.underlying50
 have HB := Aside0.mk (Below.refl w.heap.size w)
 unfold icb_Decode.f at h
 obtain ⟨ext, x_, h⟩ := Option.bind_eq_some_iff.1 h
 have HX := Aside0.mk x_
 clear x_
 obtain ⟨ok, x_, h⟩ := Option.bind_eq_some_iff.1 h
 have HO := Aside0.mk x_
 clear x_
 have HH := Aside0.mk h
 clear h
 go_enter Try.func15, Try.ntmps15
 go_upto_region 1 with (first | ((with_reducible refine gate_dst (N := 2) rfl ?_); refine box_event ?hg (N := 2) ?hd (cs := #[.string a0]) (t := 9) ?hr ?_; (case hd => rfl); (case hg => rfl); (case hr => first | (go_simp; done) | (go_simp; rfl)); intro gs hg w1 hbox hb; have GS := Aside0.mk (show w.heap.size ≤ gs by rw [hg]; exact Nat.le_refl _); have HB1 := Aside0.mk (below_step HB.out hb); have BS1 := Aside0.mk hbox; clear HB hb hbox hg) | ((with_reducible refine gate_dst (N := 4) rfl ?_); refine box_event ?hg (N := 4) ?hd (cs := #[.bool false, .int .i64 0, .int .i64 0, .int .i64 0, .int .i64 0, .int .i64 0, .int .i64 0, .int .i64 0, .int .i64 0, .int .i64 0, .bool false, .string (⟨#[]⟩ : ByteArray), .slice none 0 0, .string (⟨#[]⟩ : ByteArray), .bool false, .int .i64 0, .int .i64 0]) (t := 31) ?hr ?_; (case hd => rfl); (case hg => rfl); (case hr => first | (go_simp; done) | (go_simp; rfl)); intro gr hg w2 hbox hb; have HD := Aside0.mk (dc_fresh HB1.out GS.out BS1.out hg hbox hb); clear HB1 BS1 GS hb hbox hg))
 have qs : w2.cell? ⟨gs, 0, none⟩ = some (.string a0) := HD.out.cell
 go_wp2_with fail
 with_reducible refine (udftag_Is.calls k a0 266 a1 ext _ HX.out).mono ?_
 rintro e w3 ⟨rfl, hb⟩
 replace HD := Aside0.mk (HD.out.below hb)
 clear hb qs
 go_upto_region 2 with fail
 go_cut [35] from 23 to 34 (fun v35 wc => v35 = .bool (!ok) ∧ Aside0 (DC w wc gs gr a0))
 case first =>
  clear HH
  have qs : w3.cell? ⟨gs, 0, none⟩ = some (.string a0) := HD.out.cell
  have ho := HO.out
  unfold dec_ok at ho
  by_cases c1 : (a0.size : Int) = 2048
  ·rw [if_pos c1] at ho
   have d1 : ((a0.size : Int) != 2048) = false := by rw [c1]; rfl
   cases ext
   ·have HI := Aside0.mk (if_ff.symm.trans ho)
    clear ho c1
    go_wp2_with fail
    with_reducible refine (udftag_Is.calls k a0 261 a1 ok _ HI.out).mono ?_
    rintro e wx ⟨rfl, hb⟩
    have HD2 := Aside0.mk (HD.out.below hb)
    clear hb qs
    go_wp2
    go_meet
    case rel => exact ⟨rfl, HD2⟩
   ·obtain rfl := Option.some.inj (if_tt.symm.trans ho)
    clear ho c1
    go_wp2
    go_meet
    case rel => exact ⟨rfl, HD⟩
  ·rw [if_neg c1] at ho
   obtain rfl := Option.some.inj ho
   have d1 : ((a0.size : Int) != 2048) = true := bne_iff_ne.mpr c1
   clear ho c1
   go_wp2
   go_meet
   case rel => exact ⟨rfl, HD⟩
 obtain ⟨rfl, HD2⟩ := hcut
 clear HD
 have HD := HD2
 clear HD2
 generalize wc = w4 at HD ⊢
 cases ok
 ·have HE := Aside0.mk (if_ff.symm.trans HH.out)
  clear HH
  have h := HE.out
  simp only [dec_err, Option.some.injEq, Prod.mk.injEq] at h
  obtain ⟨rfl, rfl, rfl, rfl, rfl, rfl, rfl, rfl, rfl, rfl, rfl, rfl, rfl, rfl, rfl, rfl, rfl, rfl⟩ := h
  clear HE
  go_wp2_with (first | ((with_reducible refine gate_store rfl ?_); (refine wpList_store_row (by rfl) _ _ _ (by rfl) gr decZ (by rfl) (by rfl) _ decZ HD.out.res (by kernel_rfl) (by rfl) (one_Z) ?_)))
  refine bodyPost_ret (results_ct rfl _ _ gr 31 decZ (0, 0) _ rfl (setRow_heap _ _ _ _ _ _ HD.out.res) Try.underlying31 rfl (by kernel_rfl)) rfl ?_
  exact ⟨.slice none 0 0, rfl, Kd.R_nil _ _ _ _ _, below_setRow HD.out.blw HD.out.lor decZ⟩
 have hsz : a0.size = 2048 := by
  have ho := HO.out
  unfold dec_ok at ho
  by_cases c1 : (a0.size : Int) = 2048
  ·omega
  ·rw [if_neg c1] at ho; cases ho
 have HSZ := Aside0.mk hsz
 have h := if_tt.symm.trans HH.out
 clear HH HO hsz
 unfold dec_flags at h
 obtain ⟨⟨m1, m2⟩, x_, h⟩ := Option.bind_eq_some_iff.1 h
 have HF := Aside0.mk x_
 clear x_
 obtain ⟨fm1, fm2, fm3, fm4⟩ := forms_range HF.out
 replace h : ((rdn k a0 34 2).bind fun fl => (rdn k a0 20 2).bind fun st => if flagsBad st (bits .and .i64 fl 7) = true then some (dec_err 14) else dec_stamp k a0 ext m1 m2 fl) = some (r1, r2, r3, r4, r5, r6, r7, r8, r9, r10, r11, r12, r13, r14, r15, r16, r17, r18) := h
 obtain ⟨fl, x_, h⟩ := Option.bind_eq_some_iff.1 h
 have XFL := Aside0.mk x_
 clear x_
 obtain ⟨st, x_, h⟩ := Option.bind_eq_some_iff.1 h
 have XST := Aside0.mk x_
 clear x_
 obtain ⟨XFL0, XFL1⟩ := (rdn_some XFL.out).2
 obtain ⟨XST0, XST1⟩ := (rdn_some XST.out).2
 obtain ⟨f7, hf7⟩ : ∃ n, bits .and .i64 fl 7 = n := ⟨_, rfl⟩
 rw [hf7] at h
 have HH := Aside0.mk h
 clear h
 go_wp2_with fail
 with_reducible refine (icb_forms.calls ext m1 m2 _ HF.out).mono ?_
 rintro e w5 ⟨rfl, hb⟩
 replace HD := Aside0.mk (HD.out.below hb)
 clear hb
 go_upto_region 6 with (first | ((with_reducible refine gate_dst (N := 8) rfl ?_); refine box_event ?hg (N := 8) ?hd (cs := #[.int .i64 0, .int .i64 0]) (t := 50) ?hr ?_; (case hd => rfl); (case hg => rfl); (case hr => first | (go_simp; done) | (go_simp; rfl)); intro gf hg w6 hbox hb; have HG := Aside0.mk (dg_fresh (m1 := m1) (m2 := m2) HD.out hg hbox hb); have BF := Aside0.mk hbox; clear HD hb hbox hg) | (refine wpList_store_row (by rfl) _ _ _ (by rfl) gf #[.int .i64 m1, .int .i64 m2] (by rfl) (by rfl) _ _ BF.out (by kernel_rfl) (by rfl) (one_2 _ _) ?_))
 (try simp only [put4_])
 clear BF
 generalize w6.setRow gf #[.int .i64 m1, .int .i64 m2] = w7 at HG ⊢
 go_upto_region 7 with (first | ((with_reducible refine gate_dst (N := 41) rfl ?_); refine goesCL_ (some 41) rfl rfl #[.pointer (some ⟨gs, 0, none⟩)] Try.func36 (by kernel_rfl) rfl #[.int .i64 34, .int .i64 2, .pointer (some ⟨gs, 0, none⟩)] ⟨_, rfl, rfl⟩ (by first | rfl | (simp only [List.map_toArray, List.map_cons, List.map_nil]; rfl)) ?_; (with_reducible refine (dg_num HG.out XFL.out).mono ?_); rintro e w8 ⟨rfl, he⟩; refine ⟨_, rfl, ?_⟩; replace HG := Aside0.mk he; clear he))
 go_cut [54] from 42 to 53 (fun v54 wc => v54 = .bool (flagsBad st f7) ∧ Aside0 (DG w wc gs gr gf a0 m1 m2))
 case first =>
  clear HH
  by_cases c1 : st = 4
  ·by_cases c2 : f7 = 1
   ·skip
    have e1 : (st != 4) = false := bne_eq_false_iff_eq.mpr c1
    have e2 : (f7 != 1) = false := bne_eq_false_iff_eq.mpr c2
    have ev : flagsBad st f7 = false := by unfold flagsBad; simp only [e1, e2]; rfl
    have EV := Aside0.mk ev
    clear ev
    go_wp2_with (first | ((with_reducible refine gate_dst (N := 43) rfl ?_); refine goesCL_ (some 43) rfl rfl #[.pointer (some ⟨gs, 0, none⟩)] Try.func36 (by kernel_rfl) rfl #[.int .i64 20, .int .i64 2, .pointer (some ⟨gs, 0, none⟩)] ⟨_, rfl, rfl⟩ (by first | rfl | (simp only [List.map_toArray, List.map_cons, List.map_nil]; rfl)) ?_; (with_reducible refine (dg_num HG.out XST.out).mono ?_); rintro e w9 ⟨rfl, he⟩; refine ⟨_, rfl, ?_⟩; replace HG := Aside0.mk he; clear he))
    go_meet
    case rel => exact ⟨by rw [EV.out], HG⟩
   ·by_cases c3 : f7 = 3
    ·skip
     have e1 : (st != 4) = false := bne_eq_false_iff_eq.mpr c1
     have e2 : (f7 != 1) = true := bne_iff_ne.mpr c2
     have e3 : (f7 != 3) = false := bne_eq_false_iff_eq.mpr c3
     have ev : flagsBad st f7 = false := by unfold flagsBad; simp only [e1, e2, e3]; rfl
     have EV := Aside0.mk ev
     clear ev
     go_wp2_with (first | ((with_reducible refine gate_dst (N := 43) rfl ?_); refine goesCL_ (some 43) rfl rfl #[.pointer (some ⟨gs, 0, none⟩)] Try.func36 (by kernel_rfl) rfl #[.int .i64 20, .int .i64 2, .pointer (some ⟨gs, 0, none⟩)] ⟨_, rfl, rfl⟩ (by first | rfl | (simp only [List.map_toArray, List.map_cons, List.map_nil]; rfl)) ?_; (with_reducible refine (dg_num HG.out XST.out).mono ?_); rintro e w9 ⟨rfl, he⟩; refine ⟨_, rfl, ?_⟩; replace HG := Aside0.mk he; clear he))
     go_meet
     case rel => exact ⟨by rw [EV.out], HG⟩
    ·skip
     have e1 : (st != 4) = false := bne_eq_false_iff_eq.mpr c1
     have e2 : (f7 != 1) = true := bne_iff_ne.mpr c2
     have e3 : (f7 != 3) = true := bne_iff_ne.mpr c3
     have ev : flagsBad st f7 = true := by unfold flagsBad; simp only [e1, e2, e3]; rfl
     have EV := Aside0.mk ev
     clear ev
     go_wp2_with (first | ((with_reducible refine gate_dst (N := 43) rfl ?_); refine goesCL_ (some 43) rfl rfl #[.pointer (some ⟨gs, 0, none⟩)] Try.func36 (by kernel_rfl) rfl #[.int .i64 20, .int .i64 2, .pointer (some ⟨gs, 0, none⟩)] ⟨_, rfl, rfl⟩ (by first | rfl | (simp only [List.map_toArray, List.map_cons, List.map_nil]; rfl)) ?_; (with_reducible refine (dg_num HG.out XST.out).mono ?_); rintro e w9 ⟨rfl, he⟩; refine ⟨_, rfl, ?_⟩; replace HG := Aside0.mk he; clear he))
     go_meet
     case rel => exact ⟨by rw [EV.out], HG⟩
  ·skip
   have e1 : (st != 4) = true := bne_iff_ne.mpr c1
   have ev : flagsBad st f7 = true := by unfold flagsBad; simp only [e1]; rfl
   have EV := Aside0.mk ev
   clear ev
   go_wp2_with (first | ((with_reducible refine gate_dst (N := 43) rfl ?_); refine goesCL_ (some 43) rfl rfl #[.pointer (some ⟨gs, 0, none⟩)] Try.func36 (by kernel_rfl) rfl #[.int .i64 20, .int .i64 2, .pointer (some ⟨gs, 0, none⟩)] ⟨_, rfl, rfl⟩ (by first | rfl | (simp only [List.map_toArray, List.map_cons, List.map_nil]; rfl)) ?_; (with_reducible refine (dg_num HG.out XST.out).mono ?_); rintro e w9 ⟨rfl, he⟩; refine ⟨_, rfl, ?_⟩; replace HG := Aside0.mk he; clear he))
   go_meet
   case rel => exact ⟨by rw [EV.out], HG⟩
 obtain ⟨rfl, HG2⟩ := hcut
 clear HG
 have HG := HG2
 clear HG2
 generalize wc = w10 at HG ⊢
 obtain ⟨fb, hfb⟩ : ∃ b, flagsBad st f7 = b := ⟨_, rfl⟩
 rw [hfb]
 have h := HH.out
 rw [hfb] at h
 clear HH hfb XST0 XST1 XST
 cases fb
 rotate_left
 ·have HE := Aside0.mk (if_tt.symm.trans h)
  clear h
  have h := HE.out
  simp only [dec_err, Option.some.injEq, Prod.mk.injEq] at h
  obtain ⟨rfl, rfl, rfl, rfl, rfl, rfl, rfl, rfl, rfl, rfl, rfl, rfl, rfl, rfl, rfl, rfl, rfl, rfl⟩ := h
  clear HE
  go_wp2_with (first | ((with_reducible refine gate_store rfl ?_); (refine wpList_store_row (by rfl) _ _ _ (by rfl) gr decZ (by rfl) (by rfl) _ decZ HG.out.dc.res (by kernel_rfl) (by rfl) (one_Z) ?_)))
  refine bodyPost_ret (results_ct rfl _ _ gr 31 decZ (0, 0) _ rfl (setRow_heap _ _ _ _ _ _ HG.out.dc.res) Try.underlying31 rfl (by kernel_rfl)) rfl ?_
  exact ⟨.slice none 0 0, rfl, Kd.R_nil _ _ _ _ _, below_setRow HG.out.dc.blw HG.out.dc.lor decZ⟩
 replace h := if_ff.symm.trans h
 unfold dec_stamp at h
 obtain ⟨⟨tm, tz, tc⟩, x_, h⟩ := Option.bind_eq_some_iff.1 h
 have XT := Aside0.mk x_
 clear x_
 replace h : (if tc = 0 then dec_sizes k a0 ext m1 fl tm else some (dec_err tc)) = some (r1, r2, r3, r4, r5, r6, r7, r8, r9, r10, r11, r12, r13, r14, r15, r16, r17, r18) := h
 have HH := Aside0.mk h
 clear h
 have z1 : ((0 : Int) ≤ m2) = True := eq_true (by omega)
 have z2 : (m2 ≤ m2 + 12) = True := eq_true (by omega)
 have z3 : (m2 + 12 ≤ (a0.size : Int)) = True := eq_true (by have := HSZ.out; omega)
 have qs : w10.cell? ⟨gs, 0, none⟩ = some (.string a0) := HG.out.dc.cell
 have q2 : w10.cell? ⟨gf, 1, none⟩ = some (.int .i64 m2) := HG.out.c2
 go_wp2_with fail
 with_reducible refine (datetime_ReadStamp.calls k (a0.extract m2.toNat (m2 + 12).toNat) tm tz tc _ XT.out).mono ?_
 rintro e w11 ⟨rfl, hb⟩
 replace HG := Aside0.mk (HG.out.below hb)
 clear hb qs q2 XT z1 z2 z3
 by_cases c4 : tc = 0
 rotate_left
 ·have HE := Aside0.mk ((if_neg c4).symm.trans HH.out)
  have d4 : (tc != 0) = true := bne_iff_ne.mpr c4
  clear HH
  have h := HE.out
  simp only [dec_err, Option.some.injEq, Prod.mk.injEq] at h
  obtain ⟨rfl, rfl, rfl, rfl, rfl, rfl, rfl, rfl, rfl, rfl, rfl, rfl, rfl, rfl, rfl, rfl, rfl, rfl⟩ := h
  clear HE
  go_wp2_with (first | ((with_reducible refine gate_store rfl ?_); (refine wpList_store_row (by rfl) _ _ _ (by rfl) gr decZ (by rfl) (by rfl) _ decZ HG.out.dc.res (by kernel_rfl) (by rfl) (one_Z) ?_)))
  refine bodyPost_ret (results_ct rfl _ _ gr 31 decZ (0, 0) _ rfl (setRow_heap _ _ _ _ _ _ HG.out.dc.res) Try.underlying31 rfl (by kernel_rfl)) rfl ?_
  exact ⟨.slice none 0 0, rfl, Kd.R_nil _ _ _ _ _, below_setRow HG.out.dc.blw HG.out.dc.lor decZ⟩
 have d4 : (tc != 0) = false := bne_eq_false_iff_eq.mpr c4
 have h := (if_pos c4).symm.trans HH.out
 clear HH c4
 unfold dec_sizes at h
 obtain ⟨at_, x_, h⟩ := Option.bind_eq_some_iff.1 h
 have XA := Aside0.mk x_
 clear x_
 obtain ⟨tl, x_, h⟩ := Option.bind_eq_some_iff.1 h
 have XL := Aside0.mk x_
 clear x_
 obtain ⟨XA0, XA1⟩ := (rdn_some XA.out).2
 obtain ⟨XL0, XL1⟩ := (rdn_some XL.out).2
 have HH := Aside0.mk h
 clear h
 go_upto_region 12 with fail
 have y0 : IntKind.i64.wrap (m1 - 8) = m1 - 8 := (i64_w _).trans (by unfold wrap64; omega)
 have y1 : IntKind.i64.wrap (m1 - 4) = m1 - 4 := (i64_w _).trans (by unfold wrap64; omega)
 refine start_ (n := 12) (S := fun w' => w'.cell? ⟨gf, 0, none⟩ = some (.int .i64 m1)) (ds := []) #[false, false, false, false, false, false, false, false, false, false, false, false] (by kernel_rfl) rfl rfl (HG.out.drew.c1) (fun hHeld => ?_)
 refine pure_ (i := 0) (N := some 72) (v := ?_) (a' := ?_) #[true, false, false, false, false, false, false, false, false, false, false, false] rfl rfl (by kernel_rfl) (fun _ _ _ h => h) (Or.inl ⟨by rfl, ?_⟩) ?_ ?_
 rotate_left
 ·intro w'
  go_simp
  with_reducible rfl
 rotate_left
 ·simp only [puts_]
  rfl
 refine pure_ (i := 1) (N := some 73) (v := ?_) (a' := ?_) #[true, true, false, false, false, false, false, false, false, false, false, false] rfl rfl (by kernel_rfl) (fun _ _ _ h => h) (Or.inl ⟨by rfl, ?_⟩) ?_ ?_
 rotate_left
 ·intro w'
  go_simp
  with_reducible rfl
 rotate_left
 ·simp only [puts_]
  rfl
 refine pure_ (i := 5) (N := some 77) (v := ?_) (a' := ?_) #[true, true, false, false, false, true, false, false, false, false, false, false] rfl rfl (by kernel_rfl) (fun _ _ _ h => h) (Or.inl ⟨by rfl, ?_⟩) ?_ ?_
 rotate_left
 ·intro w'
  go_simp
  with_reducible rfl
 rotate_left
 ·simp only [puts_]
  rfl
 refine pure_ (i := 6) (N := some 78) (v := ?_) (a' := ?_) #[true, true, false, false, false, true, true, false, false, false, false, false] rfl rfl (by kernel_rfl) (fun _ _ _ h => h) (Or.inl ⟨by rfl, ?_⟩) ?_ ?_
 rotate_left
 ·intro w'
  go_simp
  with_reducible rfl
 rotate_left
 ·simp only [puts_]
  rfl
 refine take_ (i := 2) (N := some 74) (v := ?_) (a' := ?_) #[true, true, true, false, false, true, true, false, false, false, false, false] rfl rfl (by kernel_rfl) (fun _ _ _ h => h) (Or.inl ⟨by rfl, ?_⟩) hHeld ?_ ?_
 rotate_left
 ·intro w' s0
  go_simp
  with_reducible rfl
 rotate_left
 ·simp only [puts_]
  rfl
 refine pure_ (i := 3) (N := some 75) (v := ?_) (a' := ?_) #[true, true, true, true, false, true, true, false, false, false, false, false] rfl rfl (by kernel_rfl) (fun _ _ _ h => h) (Or.inl ⟨by rfl, ?_⟩) ?_ ?_
 rotate_left
 ·intro w'
  go_simp
  with_reducible rfl
 rotate_left
 ·simp only [puts_]
  rfl
 refine take_ (i := 7) (N := some 79) (v := ?_) (a' := ?_) #[true, true, true, true, false, true, true, true, false, false, false, false] rfl rfl (by kernel_rfl) (fun _ _ _ h => h) (Or.inl ⟨by rfl, ?_⟩) hHeld ?_ ?_
 rotate_left
 ·intro w' s0
  go_simp
  with_reducible rfl
 rotate_left
 ·simp only [puts_]
  rfl
 refine pure_ (i := 8) (N := some 80) (v := ?_) (a' := ?_) #[true, true, true, true, false, true, true, true, true, false, false, false] rfl rfl (by kernel_rfl) (fun _ _ _ h => h) (Or.inl ⟨by rfl, ?_⟩) ?_ ?_
 rotate_left
 ·intro w'
  go_simp
  with_reducible rfl
 rotate_left
 ·simp only [puts_]
  rfl
 refine one_ (i := 4) (N := some 76) #[true, true, true, true, true, true, true, true, true, false, false, false] rfl rfl (by kernel_rfl) (by decide) (fun K hK => ?_)
 refine goesC_ Try.func36 (by kernel_rfl) rfl #[.int .i64 (m1 - 8), .int .i64 4, .pointer (some ⟨gs, 0, none⟩)] (by rfl) rfl ⟨_, rfl, rfl⟩ (by simp only [List.map_toArray, List.map_cons, List.map_nil, List.append_toArray, List.cons_append, List.nil_append]; rfl) ?_
 with_reducible refine (dg_num HG.out.drew XA.out).mono ?_
 rintro e w12 ⟨rfl, he⟩
 refine ⟨_, rfl, ?_⟩
 replace HG := Aside0.mk he
 clear he
 refine hK.out _ _ (HG.out.c1) (fun hHeld => ?_)
 clear hK K
 refine norm_ (a' := ?_) ?_ ?_
 rotate_left
 ·show Act.put _ (some 76) _ = _
  simp only [puts_]
  rfl
 refine one_ (i := 9) (N := some 81) #[true, true, true, true, true, true, true, true, true, true, false, false] rfl rfl (by kernel_rfl) (by decide) (fun K hK => ?_)
 refine goesC_ Try.func36 (by kernel_rfl) rfl #[.int .i64 (m1 - 4), .int .i64 4, .pointer (some ⟨gs, 0, none⟩)] (by rfl) rfl ⟨_, rfl, rfl⟩ (by simp only [List.map_toArray, List.map_cons, List.map_nil, List.append_toArray, List.cons_append, List.nil_append]; rfl) ?_
 with_reducible refine (dg_num HG.out XL.out).mono ?_
 rintro e w13 ⟨rfl, he⟩
 refine ⟨_, rfl, ?_⟩
 replace HG := Aside0.mk he
 clear he
 refine hK.out _ _ (HG.out.c1) (fun hHeld => ?_)
 clear hK K
 refine norm_ (a' := ?_) ?_ ?_
 rotate_left
 ·show Act.put _ (some 81) _ = _
  simp only [puts_]
  rfl
 refine pure_ (i := 10) (N := some 13) (v := ?_) (a' := ?_) #[true, true, true, true, true, true, true, true, true, true, true, false] rfl rfl (by kernel_rfl) (fun _ _ _ h => h) (Or.inl ⟨by rfl, ?_⟩) ?_ ?_
 rotate_left
 ·intro w'
  go_simp
  with_reducible rfl
 rotate_left
 ·simp only [puts_]
  rfl
 refine pure_ (i := 11) (N := some 14) (v := ?_) (a' := ?_) #[true, true, true, true, true, true, true, true, true, true, true, true] rfl rfl (by kernel_rfl) (fun _ _ _ h => h) (Or.inl ⟨by rfl, ?_⟩) ?_ ?_
 rotate_left
 ·intro w'
  go_simp
  with_reducible rfl
 rotate_left
 ·simp only [puts_]
  rfl
 refine done_ (by kernel_rfl) ?_
 clear y0 y1
 go_upto_region 13 with fail
 go_cut [95] from 82 to 94 (fun v95 wc => v95 = .bool (sizesBad m1 at_ tl) ∧ Aside0 (DG w wc gs gr gf a0 m1 m2))
 case first =>
  clear HH
  have q1 : w13.cell? ⟨gf, 0, none⟩ = some (.int .i64 m1) := HG.out.c1
  by_cases c1 : at_ > 2048 - m1
  ·skip
   have e1 : decide (at_ > 2048 - m1) = true := decide_eq_true c1
   have ev : sizesBad m1 at_ tl = true := by unfold sizesBad; simp only [e1]; rfl
   have EV := Aside0.mk ev
   clear ev
   go_wp2
   go_meet
   case rel => exact ⟨by rw [EV.out], HG⟩
  ·by_cases c2 : tl > 2048 - m1 - at_
   ·skip
    have e1 : decide (at_ > 2048 - m1) = false := decide_eq_false c1
    have e2 : decide (tl > 2048 - m1 - at_) = true := decide_eq_true c2
    have ev : sizesBad m1 at_ tl = true := by unfold sizesBad; simp only [e1, e2]; rfl
    have EV := Aside0.mk ev
    clear ev
    go_wp2
    go_meet
    case rel => exact ⟨by rw [EV.out], HG⟩
   ·skip
    have e1 : decide (at_ > 2048 - m1) = false := decide_eq_false c1
    have e2 : decide (tl > 2048 - m1 - at_) = false := decide_eq_false c2
    have ev : sizesBad m1 at_ tl = false := by unfold sizesBad; simp only [e1, e2]; rfl
    have EV := Aside0.mk ev
    clear ev
    go_wp2
    go_meet
    case rel => exact ⟨by rw [EV.out], HG⟩
 obtain ⟨rfl, HG2⟩ := hcut
 clear HG
 have HG := HG2
 clear HG2
 generalize wc = w14 at HG ⊢
 obtain ⟨sb_, hsb⟩ : ∃ b, sizesBad m1 at_ tl = b := ⟨_, rfl⟩
 rw [hsb]
 have h := HH.out
 rw [hsb] at h
 clear HH
 cases sb_
 rotate_left
 ·have HE := Aside0.mk (if_tt.symm.trans h)
  clear h
  have h := HE.out
  simp only [dec_err, Option.some.injEq, Prod.mk.injEq] at h
  obtain ⟨rfl, rfl, rfl, rfl, rfl, rfl, rfl, rfl, rfl, rfl, rfl, rfl, rfl, rfl, rfl, rfl, rfl, rfl⟩ := h
  clear HE
  go_wp2_with (first | ((with_reducible refine gate_store rfl ?_); (refine wpList_store_row (by rfl) _ _ _ (by rfl) gr decZ (by rfl) (by rfl) _ decZ HG.out.dc.res (by kernel_rfl) (by rfl) (one_Z) ?_)))
  refine bodyPost_ret (results_ct rfl _ _ gr 31 decZ (0, 0) _ rfl (setRow_heap _ _ _ _ _ _ HG.out.dc.res) Try.underlying31 rfl (by kernel_rfl)) rfl ?_
  exact ⟨.slice none 0 0, rfl, Kd.R_nil _ _ _ _ _, below_setRow HG.out.dc.blw HG.out.dc.lor decZ⟩
 replace h := if_ff.symm.trans h
 have s1 : at_ ≤ 2048 - m1 := by
  unfold sizesBad at hsb
  rw [Bool.or_eq_false_iff] at hsb
  have := of_decide_eq_false hsb.1
  omega
 have s2 : tl ≤ 2048 - m1 - at_ := by
  unfold sizesBad at hsb
  rw [Bool.or_eq_false_iff] at hsb
  have := of_decide_eq_false hsb.2
  omega
 clear hsb
 unfold dec_fields at h
 rw [hf7] at h
 obtain ⟨emb, hemb⟩ : ∃ b, (f7 == 3) = b := ⟨_, rfl⟩
 rw [hemb] at h
 obtain ⟨h1, x_, h⟩ := Option.bind_eq_some_iff.1 h
 have XH1 := Aside0.mk x_
 clear x_
 obtain ⟨h2, x_, h⟩ := Option.bind_eq_some_iff.1 h
 have XH2 := Aside0.mk x_
 clear x_
 obtain ⟨ty, x_, h⟩ := Option.bind_eq_some_iff.1 h
 have XTY := Aside0.mk x_
 clear x_
 obtain ⟨pm, x_, h⟩ := Option.bind_eq_some_iff.1 h
 have XPM := Aside0.mk x_
 clear x_
 obtain ⟨mode, x_, h⟩ := Option.bind_eq_some_iff.1 h
 have XMO := Aside0.mk x_
 clear x_
 obtain ⟨uid, x_, h⟩ := Option.bind_eq_some_iff.1 h
 have XUI := Aside0.mk x_
 clear x_
 obtain ⟨gid, x_, h⟩ := Option.bind_eq_some_iff.1 h
 have XGI := Aside0.mk x_
 clear x_
 obtain ⟨links, x_, h⟩ := Option.bind_eq_some_iff.1 h
 have XLI := Aside0.mk x_
 clear x_
 obtain ⟨uq, x_, h⟩ := Option.bind_eq_some_iff.1 h
 have XUQ := Aside0.mk x_
 clear x_
 obtain ⟨len, x_, h⟩ := Option.bind_eq_some_iff.1 h
 have XLE := Aside0.mk x_
 clear x_
 obtain ⟨⟨obj, hi, hs, sb, sp⟩, x_, h⟩ := Option.bind_eq_some_iff.1 h
 have XEX := Aside0.mk x_
 clear x_
 obtain ⟨⟨data, l, dc⟩, x_, h⟩ := Option.bind_eq_some_iff.1 h
 have XDT := Aside0.mk x_
 clear x_
 obtain ⟨XH10, XH11⟩ := (rdn_some XH1.out).2
 obtain ⟨XH20, XH21⟩ := (rdn_some XH2.out).2
 replace h : (if dc = 0 then dec_valid k ext ty mode uid gid tm links uq len obj emb data l (a0.extract m1.toNat (m1 + at_).toNat) hs sb sp hi else some (dec_err 10)) = some (r1, r2, r3, r4, r5, r6, r7, r8, r9, r10, r11, r12, r13, r14, r15, r16, r17, r18) := h
 have HH := Aside0.mk h
 clear h
 replace XDT : Aside0 (dec_tail k emb (a0.extract (m1 + at_).toNat (m1 + at_ + tl).toNat) = some (data, l, dc)) := XDT
 replace XEX : Aside0 (dec_ext k ext a0 (h1 + h2) = some (obj, hi, hs, sb, sp)) := XEX
 go_upto_region 15 with fail
 have y0 : IntKind.i64.wrap (m1 - 12) = m1 - 12 := (i64_w _).trans (by unfold wrap64; omega)
 have y1 : IntKind.i64.wrap (h1 + h2) = h1 + h2 := (i64_w _).trans (by unfold wrap64; omega)
 refine start_ (n := 9) (S := fun w' => w'.cell? ⟨gf, 0, none⟩ = some (.int .i64 m1)) (ds := []) #[false, false, false, false, false, false, false, false, false] (by kernel_rfl) rfl rfl (HG.out.drew.c1) (fun hHeld => ?_)
 refine pure_ (i := 0) (N := some 97) (v := ?_) (a' := ?_) #[true, false, false, false, false, false, false, false, false] rfl rfl (by kernel_rfl) (fun _ _ _ h => h) (Or.inl ⟨by rfl, ?_⟩) ?_ ?_
 rotate_left
 ·intro w'
  go_simp
  with_reducible rfl
 rotate_left
 ·simp only [puts_]
  rfl
 refine pure_ (i := 2) (N := some 99) (v := ?_) (a' := ?_) #[true, false, true, false, false, false, false, false, false] rfl rfl (by kernel_rfl) (fun _ _ _ h => h) (Or.inl ⟨by rfl, ?_⟩) ?_ ?_
 rotate_left
 ·intro w'
  go_simp
  with_reducible rfl
 rotate_left
 ·simp only [puts_]
  rfl
 refine pure_ (i := 3) (N := some 100) (v := ?_) (a' := ?_) #[true, false, true, true, false, false, false, false, false] rfl rfl (by kernel_rfl) (fun _ _ _ h => h) (Or.inl ⟨by rfl, ?_⟩) ?_ ?_
 rotate_left
 ·intro w'
  go_simp
  with_reducible rfl
 rotate_left
 ·simp only [puts_]
  rfl
 refine take_ (i := 4) (N := some 101) (v := ?_) (a' := ?_) #[true, false, true, true, true, false, false, false, false] rfl rfl (by kernel_rfl) (fun _ _ _ h => h) (Or.inl ⟨by rfl, ?_⟩) hHeld ?_ ?_
 rotate_left
 ·intro w' s0
  go_simp
  with_reducible rfl
 rotate_left
 ·simp only [puts_]
  rfl
 refine pure_ (i := 5) (N := some 102) (v := ?_) (a' := ?_) #[true, false, true, true, true, true, false, false, false] rfl rfl (by kernel_rfl) (fun _ _ _ h => h) (Or.inl ⟨by rfl, ?_⟩) ?_ ?_
 rotate_left
 ·intro w'
  go_simp
  with_reducible rfl
 rotate_left
 ·simp only [puts_]
  rfl
 refine one_ (i := 1) (N := some 98) #[true, true, true, true, true, true, false, false, false] rfl rfl (by kernel_rfl) (by decide) (fun K hK => ?_)
 refine goesC_ Try.func36 (by kernel_rfl) rfl #[.int .i64 60, .int .i64 4, .pointer (some ⟨gs, 0, none⟩)] (by rfl) rfl ⟨_, rfl, rfl⟩ (by simp only [List.map_toArray, List.map_cons, List.map_nil, List.append_toArray, List.cons_append, List.nil_append]; rfl) ?_
 with_reducible refine (dg_num HG.out.drew XH1.out).mono ?_
 rintro e w15 ⟨rfl, he⟩
 refine ⟨_, rfl, ?_⟩
 replace HG := Aside0.mk he
 clear he
 refine hK.out _ _ (HG.out.c1) (fun hHeld => ?_)
 clear hK K
 refine norm_ (a' := ?_) ?_ ?_
 rotate_left
 ·show Act.put _ (some 98) _ = _
  simp only [puts_]
  rfl
 refine one_ (i := 6) (N := some 103) #[true, true, true, true, true, true, true, false, false] rfl rfl (by kernel_rfl) (by decide) (fun K hK => ?_)
 refine goesC_ Try.func36 (by kernel_rfl) rfl #[.int .i64 (m1 - 12), .int .i64 4, .pointer (some ⟨gs, 0, none⟩)] (by rfl) rfl ⟨_, rfl, rfl⟩ (by simp only [List.map_toArray, List.map_cons, List.map_nil, List.append_toArray, List.cons_append, List.nil_append]; rfl) ?_
 with_reducible refine (dg_num HG.out XH2.out).mono ?_
 rintro e w16 ⟨rfl, he⟩
 refine ⟨_, rfl, ?_⟩
 replace HG := Aside0.mk he
 clear he
 refine hK.out _ _ (HG.out.c1) (fun hHeld => ?_)
 clear hK K
 refine norm_ (a' := ?_) ?_ ?_
 rotate_left
 ·show Act.put _ (some 103) _ = _
  simp only [puts_]
  rfl
 refine pure_ (i := 7) (N := some 104) (v := ?_) (a' := ?_) #[true, true, true, true, true, true, true, true, false] rfl rfl (by kernel_rfl) (fun _ _ _ h => h) (Or.inl ⟨by rfl, ?_⟩) ?_ ?_
 rotate_left
 ·intro w'
  go_simp
  with_reducible rfl
 rotate_left
 ·simp only [puts_]
  rfl
 refine pure_ (i := 8) (N := some 15) (v := ?_) (a' := ?_) #[true, true, true, true, true, true, true, true, true] rfl rfl (by kernel_rfl) (fun _ _ _ h => h) (Or.inl ⟨by rfl, ?_⟩) ?_ ?_
 rotate_left
 ·intro w'
  go_simp
  with_reducible rfl
 rotate_left
 ·simp only [puts_]
  rfl
 refine done_ (by kernel_rfl) ?_
 clear y0 y1
 go_upto_region 16 with fail
 have y0 : IntKind.i64.wrap (m1 - 16) = m1 - 16 := (i64_w _).trans (by unfold wrap64; omega)
 have y1 : IntKind.i64.wrap (m1 + at_) = m1 + at_ := (i64_w _).trans (by unfold wrap64; omega)
 have z1 : ((0 : Int) ≤ m1) = True := eq_true (by omega)
 have z2 : (m1 ≤ m1 + at_) = True := eq_true (by omega)
 have z3 : (m1 + at_ ≤ (a0.size : Int)) = True := eq_true (by have := HSZ.out; omega)
 have z4 : ((0 : Int) ≤ m1 + at_) = True := eq_true (by omega)
 refine start_ (n := 35) (S := fun w' => w'.cell? ⟨gf, 0, none⟩ = some (.int .i64 m1) ∧ w'.cell? ⟨gs, 0, none⟩ = some (.string a0)) (ds := []) #[false, false, false, false, false, false, false, false, false, false, false, false, false, false, false, false, false, false, false, false, false, false, false, false, false, false, false, false, false, false, false, false, false, false, false] (by kernel_rfl) rfl rfl ⟨HG.out.drew.c1, HG.out.drew.dc.cell⟩ (fun hHeld => ?_)
 refine pure_ (i := 0) (N := some 105) (v := ?_) (a' := ?_) #[true, false, false, false, false, false, false, false, false, false, false, false, false, false, false, false, false, false, false, false, false, false, false, false, false, false, false, false, false, false, false, false, false, false, false] rfl rfl (by kernel_rfl) (fun _ _ _ h => h) (Or.inl ⟨by rfl, ?_⟩) ?_ ?_
 rotate_left
 ·intro w'
  go_simp
  with_reducible rfl
 rotate_left
 ·simp only [puts_]
  rfl
 refine pure_ (i := 1) (N := some 106) (v := ?_) (a' := ?_) #[true, true, false, false, false, false, false, false, false, false, false, false, false, false, false, false, false, false, false, false, false, false, false, false, false, false, false, false, false, false, false, false, false, false, false] rfl rfl (by kernel_rfl) (fun _ _ _ h => h) (Or.inl ⟨by rfl, ?_⟩) ?_ ?_
 rotate_left
 ·intro w'
  go_simp
  with_reducible rfl
 rotate_left
 ·simp only [puts_]
  rfl
 refine pure_ (i := 3) (N := some 108) (v := ?_) (a' := ?_) #[true, true, false, true, false, false, false, false, false, false, false, false, false, false, false, false, false, false, false, false, false, false, false, false, false, false, false, false, false, false, false, false, false, false, false] rfl rfl (by kernel_rfl) (fun _ _ _ h => h) (Or.inl ⟨by rfl, ?_⟩) ?_ ?_
 rotate_left
 ·intro w'
  go_simp
  with_reducible rfl
 rotate_left
 ·simp only [puts_]
  rfl
 refine pure_ (i := 5) (N := some 110) (v := ?_) (a' := ?_) #[true, true, false, true, false, true, false, false, false, false, false, false, false, false, false, false, false, false, false, false, false, false, false, false, false, false, false, false, false, false, false, false, false, false, false] rfl rfl (by kernel_rfl) (fun _ _ _ h => h) (Or.inl ⟨by rfl, ?_⟩) ?_ ?_
 rotate_left
 ·intro w'
  go_simp
  with_reducible rfl
 rotate_left
 ·simp only [puts_]
  rfl
 refine pure_ (i := 7) (N := some 112) (v := ?_) (a' := ?_) #[true, true, false, true, false, true, false, true, false, false, false, false, false, false, false, false, false, false, false, false, false, false, false, false, false, false, false, false, false, false, false, false, false, false, false] rfl rfl (by kernel_rfl) (fun _ _ _ h => h) (Or.inl ⟨by rfl, ?_⟩) ?_ ?_
 rotate_left
 ·intro w'
  go_simp
  with_reducible rfl
 rotate_left
 ·simp only [puts_]
  rfl
 refine pure_ (i := 9) (N := some 114) (v := ?_) (a' := ?_) #[true, true, false, true, false, true, false, true, false, true, false, false, false, false, false, false, false, false, false, false, false, false, false, false, false, false, false, false, false, false, false, false, false, false, false] rfl rfl (by kernel_rfl) (fun _ _ _ h => h) (Or.inl ⟨by rfl, ?_⟩) ?_ ?_
 rotate_left
 ·intro w'
  go_simp
  with_reducible rfl
 rotate_left
 ·simp only [puts_]
  rfl
 refine pure_ (i := 11) (N := some 116) (v := ?_) (a' := ?_) #[true, true, false, true, false, true, false, true, false, true, false, true, false, false, false, false, false, false, false, false, false, false, false, false, false, false, false, false, false, false, false, false, false, false, false] rfl rfl (by kernel_rfl) (fun _ _ _ h => h) (Or.inl ⟨by rfl, ?_⟩) ?_ ?_
 rotate_left
 ·intro w'
  go_simp
  with_reducible rfl
 rotate_left
 ·simp only [puts_]
  rfl
 refine pure_ (i := 12) (N := some 117) (v := ?_) (a' := ?_) #[true, true, false, true, false, true, false, true, false, true, false, true, true, false, false, false, false, false, false, false, false, false, false, false, false, false, false, false, false, false, false, false, false, false, false] rfl rfl (by kernel_rfl) (fun _ _ _ h => h) (Or.inl ⟨by rfl, ?_⟩) ?_ ?_
 rotate_left
 ·intro w'
  go_simp
  with_reducible rfl
 rotate_left
 ·simp only [puts_]
  rfl
 refine pure_ (i := 14) (N := some 119) (v := ?_) (a' := ?_) #[true, true, false, true, false, true, false, true, false, true, false, true, true, false, true, false, false, false, false, false, false, false, false, false, false, false, false, false, false, false, false, false, false, false, false] rfl rfl (by kernel_rfl) (fun _ _ _ h => h) (Or.inl ⟨by rfl, ?_⟩) ?_ ?_
 rotate_left
 ·intro w'
  go_simp
  with_reducible rfl
 rotate_left
 ·simp only [puts_]
  rfl
 refine pure_ (i := 15) (N := some 120) (v := ?_) (a' := ?_) #[true, true, false, true, false, true, false, true, false, true, false, true, true, false, true, true, false, false, false, false, false, false, false, false, false, false, false, false, false, false, false, false, false, false, false] rfl rfl (by kernel_rfl) (fun _ _ _ h => h) (Or.inl ⟨by rfl, ?_⟩) ?_ ?_
 rotate_left
 ·intro w'
  go_simp
  with_reducible rfl
 rotate_left
 ·simp only [puts_]
  rfl
 refine pure_ (i := 19) (N := some 124) (v := ?_) (a' := ?_) #[true, true, false, true, false, true, false, true, false, true, false, true, true, false, true, true, false, false, false, true, false, false, false, false, false, false, false, false, false, false, false, false, false, false, false] rfl rfl (by kernel_rfl) (fun _ _ _ h => h) (Or.inl ⟨by rfl, ?_⟩) ?_ ?_
 rotate_left
 ·intro w'
  go_simp
  with_reducible rfl
 rotate_left
 ·simp only [puts_]
  rfl
 refine pure_ (i := 21) (N := some 126) (v := ?_) (a' := ?_) #[true, true, false, true, false, true, false, true, false, true, false, true, true, false, true, true, false, false, false, true, false, true, false, false, false, false, false, false, false, false, false, false, false, false, false] rfl rfl (by kernel_rfl) (fun _ _ _ h => h) (Or.inl ⟨by rfl, ?_⟩) ?_ ?_
 rotate_left
 ·intro w'
  go_simp
  with_reducible rfl
 rotate_left
 ·simp only [puts_]
  rfl
 refine pure_ (i := 22) (N := some 127) (v := ?_) (a' := ?_) #[true, true, false, true, false, true, false, true, false, true, false, true, true, false, true, true, false, false, false, true, false, true, true, false, false, false, false, false, false, false, false, false, false, false, false] rfl rfl (by kernel_rfl) (fun _ _ _ h => h) (Or.inl ⟨by rfl, ?_⟩) ?_ ?_
 rotate_left
 ·intro w'
  go_simp
  with_reducible rfl
 rotate_left
 ·simp only [puts_]
  rfl
 refine pure_ (i := 23) (N := some 128) (v := ?_) (a' := ?_) #[true, true, false, true, false, true, false, true, false, true, false, true, true, false, true, true, false, false, false, true, false, true, true, true, false, false, false, false, false, false, false, false, false, false, false] rfl rfl (by kernel_rfl) (fun _ _ _ h => h) (Or.inl ⟨by rfl, ?_⟩) ?_ ?_
 rotate_left
 ·intro w'
  go_simp
  with_reducible rfl
 rotate_left
 ·simp only [puts_]
  rfl
 refine pure_ (i := 25) (N := some 130) (v := ?_) (a' := ?_) #[true, true, false, true, false, true, false, true, false, true, false, true, true, false, true, true, false, false, false, true, false, true, true, true, false, true, false, false, false, false, false, false, false, false, false] rfl rfl (by kernel_rfl) (fun _ _ _ h => h) (Or.inl ⟨by rfl, ?_⟩) ?_ ?_
 rotate_left
 ·intro w'
  go_simp
  with_reducible rfl
 rotate_left
 ·simp only [puts_]
  rfl
 refine pure_ (i := 27) (N := some 132) (v := ?_) (a' := ?_) #[true, true, false, true, false, true, false, true, false, true, false, true, true, false, true, true, false, false, false, true, false, true, true, true, false, true, false, true, false, false, false, false, false, false, false] rfl rfl (by kernel_rfl) (fun _ _ _ h => h) (Or.inl ⟨by rfl, ?_⟩) ?_ ?_
 rotate_left
 ·intro w'
  go_simp
  with_reducible rfl
 rotate_left
 ·simp only [puts_]
  rfl
 refine pure_ (i := 29) (N := some 134) (v := ?_) (a' := ?_) #[true, true, false, true, false, true, false, true, false, true, false, true, true, false, true, true, false, false, false, true, false, true, true, true, false, true, false, true, false, true, false, false, false, false, false] rfl rfl (by kernel_rfl) (fun _ _ _ h => h) (Or.inl ⟨by rfl, ?_⟩) ?_ ?_
 rotate_left
 ·intro w'
  go_simp
  with_reducible rfl
 rotate_left
 ·simp only [puts_]
  rfl
 refine take_ (i := 16) (N := some 121) (v := ?_) (a' := ?_) #[true, true, false, true, false, true, false, true, false, true, false, true, true, false, true, true, true, false, false, true, false, true, true, true, false, true, false, true, false, true, false, false, false, false, false] rfl rfl (by kernel_rfl) (fun _ _ _ h => h) (Or.inl ⟨by rfl, ?_⟩) hHeld ?_ ?_
 rotate_left
 ·rintro w' ⟨s0, s1⟩
  go_simp
  with_reducible rfl
 rotate_left
 ·simp only [puts_]
  rfl
 refine pure_ (i := 17) (N := some 122) (v := ?_) (a' := ?_) #[true, true, false, true, false, true, false, true, false, true, false, true, true, false, true, true, true, true, false, true, false, true, true, true, false, true, false, true, false, true, false, false, false, false, false] rfl rfl (by kernel_rfl) (fun _ _ _ h => h) (Or.inl ⟨by rfl, ?_⟩) ?_ ?_
 rotate_left
 ·intro w'
  go_simp
  with_reducible rfl
 rotate_left
 ·simp only [puts_]
  rfl
 refine take_ (i := 24) (N := some 129) (v := ?_) (a' := ?_) #[true, true, false, true, false, true, false, true, false, true, false, true, true, false, true, true, true, true, false, true, false, true, true, true, true, true, false, true, false, true, false, false, false, false, false] rfl rfl (by kernel_rfl) (fun _ _ _ h => h) (Or.inl ⟨by rfl, ?_⟩) hHeld ?_ ?_
 rotate_left
 ·rintro w' ⟨s0, s1⟩
  go_simp
  with_reducible rfl
 rotate_left
 ·simp only [puts_]
  rfl
 refine take_ (i := 26) (N := some 131) (v := ?_) (a' := ?_) #[true, true, false, true, false, true, false, true, false, true, false, true, true, false, true, true, true, true, false, true, false, true, true, true, true, true, true, true, false, true, false, false, false, false, false] rfl rfl (by kernel_rfl) (fun _ _ _ h => h) (Or.inl ⟨by rfl, ?_⟩) hHeld ?_ ?_
 rotate_left
 ·rintro w' ⟨s0, s1⟩
  go_simp
  with_reducible rfl
 rotate_left
 ·simp only [puts_]
  rfl
 refine take_ (i := 28) (N := some 133) (v := ?_) (a' := ?_) #[true, true, false, true, false, true, false, true, false, true, false, true, true, false, true, true, true, true, false, true, false, true, true, true, true, true, true, true, true, true, false, false, false, false, false] rfl rfl (by kernel_rfl) (fun _ _ _ h => h) (Or.inl ⟨by rfl, ?_⟩) hHeld ?_ ?_
 rotate_left
 ·rintro w' ⟨s0, s1⟩
  go_simp
  with_reducible rfl
 rotate_left
 ·simp only [puts_]
  rfl
 refine pure_ (i := 30) (N := some 135) (v := ?_) (a' := ?_) #[true, true, false, true, false, true, false, true, false, true, false, true, true, false, true, true, true, true, false, true, false, true, true, true, true, true, true, true, true, true, true, false, false, false, false] rfl rfl (by kernel_rfl) (fun _ _ _ h => h) (Or.inl ⟨by rfl, ?_⟩) ?_ ?_
 rotate_left
 ·intro w'
  go_simp
  with_reducible rfl
 rotate_left
 ·simp only [puts_]
  rfl
 refine pure_ (i := 31) (N := some 136) (v := ?_) (a' := ?_) #[true, true, false, true, false, true, false, true, false, true, false, true, true, false, true, true, true, true, false, true, false, true, true, true, true, true, true, true, true, true, true, true, false, false, false] rfl rfl (by kernel_rfl) (fun _ _ _ h => h) (Or.inl ⟨by rfl, ?_⟩) ?_ ?_
 rotate_left
 ·intro w'
  go_simp
  with_reducible rfl
 rotate_left
 ·simp only [puts_]
  rfl
 refine join_ (σ := Nat) 1 #[true, true, true, true, true, true, true, true, true, true, true, true, true, true, true, true, true, true, true, true, true, true, true, true, true, true, true, true, true, true, true, true, true, true, false] (fun ge => [(107, .int .i64 ty), (109, .int .i64 pm), (111, .int .i64 mode), (113, .int .i64 uid), (115, .int .i64 gid), (118, .int .i64 links), (123, .int .i64 uq), (125, .int .i64 len), (137, .agg #[.bool ext, .int .i64 ty, .int .i64 mode, .int .i64 uid, .int .i64 gid, .int .i64 tm, .int .i64 links, .int .i64 uq, .int .i64 len, .int .i64 0, .bool emb, .string (⟨#[]⟩ : ByteArray), .slice none 0 0, .string (a0.extract m1.toNat (m1 + at_).toNat), .bool false, .int .i64 0, .int .i64 0]), (16, .pointer (some ⟨ge, 0, none⟩))]) (fun ge w' => DE w w' gs gr gf ge a0 m1 m2 decZ) ?_ ?_
 rotate_left
 ·intro hJ2_4_6_8_10_13_18_20_33
  refine join_ (σ := Unit) 2 #[true, true, true, true, true, true, true, true, true, true, true, true, true, true, true, true, true, true, true, true, true, true, true, true, true, true, true, true, true, true, true, true, true, false, false] (fun _ => [(107, .int .i64 ty), (109, .int .i64 pm), (111, .int .i64 mode), (113, .int .i64 uid), (115, .int .i64 gid), (118, .int .i64 links), (123, .int .i64 uq), (125, .int .i64 len), (137, .agg #[.bool ext, .int .i64 ty, .int .i64 mode, .int .i64 uid, .int .i64 gid, .int .i64 tm, .int .i64 links, .int .i64 uq, .int .i64 len, .int .i64 0, .bool emb, .string (⟨#[]⟩ : ByteArray), .slice none 0 0, .string (a0.extract m1.toNat (m1 + at_).toNat), .bool false, .int .i64 0, .int .i64 0])]) (fun _ w' => DG w w' gs gr gf a0 m1 m2) ?_ ?_
  rotate_left
  ·intro hJ2_4_6_8_10_13_18_20
   refine join_ (σ := Nat) 3 #[true, true, true, true, true, true, true, true, true, true, true, true, true, true, true, true, true, true, true, true, false, true, true, true, true, true, true, true, true, true, true, true, false, true, false] (fun ge => [(107, .int .i64 ty), (109, .int .i64 pm), (111, .int .i64 mode), (113, .int .i64 uid), (115, .int .i64 gid), (118, .int .i64 links), (123, .int .i64 uq), (16, .pointer (some ⟨ge, 0, none⟩))]) (fun ge w' => DE w w' gs gr gf ge a0 m1 m2 decZ) ?_ ?_
   rotate_left
   ·intro hJ2_4_6_8_10_13_18_33
    refine join_ (σ := Unit) 4 #[true, true, true, true, true, true, true, true, true, true, true, true, true, true, true, true, true, true, true, true, false, true, true, true, true, true, true, true, true, true, true, true, false, false, false] (fun _ => [(107, .int .i64 ty), (109, .int .i64 pm), (111, .int .i64 mode), (113, .int .i64 uid), (115, .int .i64 gid), (118, .int .i64 links), (123, .int .i64 uq)]) (fun _ w' => DG w w' gs gr gf a0 m1 m2) ?_ ?_
    rotate_left
    ·intro hJ2_4_6_8_10_13_18
     refine join_ (σ := Nat) 4 #[true, true, true, true, true, true, true, true, true, true, true, true, true, true, true, true, true, true, false, true, false, true, true, true, true, true, true, true, true, true, true, true, false, true, false] (fun ge => [(107, .int .i64 ty), (109, .int .i64 pm), (111, .int .i64 mode), (113, .int .i64 uid), (115, .int .i64 gid), (118, .int .i64 links), (16, .pointer (some ⟨ge, 0, none⟩))]) (fun ge w' => DE w w' gs gr gf ge a0 m1 m2 decZ) ?_ ?_
     rotate_left
     ·intro hJ2_4_6_8_10_13_33
      refine join_ (σ := Unit) 5 #[true, true, true, true, true, true, true, true, true, true, true, true, true, true, true, true, true, true, false, true, false, true, true, true, true, true, true, true, true, true, true, true, false, false, false] (fun _ => [(107, .int .i64 ty), (109, .int .i64 pm), (111, .int .i64 mode), (113, .int .i64 uid), (115, .int .i64 gid), (118, .int .i64 links)]) (fun _ w' => DG w w' gs gr gf a0 m1 m2) ?_ ?_
      rotate_left
      ·intro hJ2_4_6_8_10_13
       refine join_ (σ := Nat) 5 #[true, true, true, true, true, true, true, true, true, true, true, true, true, false, true, true, true, true, false, true, false, true, true, true, true, true, true, true, true, true, true, true, false, true, false] (fun ge => [(107, .int .i64 ty), (109, .int .i64 pm), (111, .int .i64 mode), (113, .int .i64 uid), (115, .int .i64 gid), (16, .pointer (some ⟨ge, 0, none⟩))]) (fun ge w' => DE w w' gs gr gf ge a0 m1 m2 decZ) ?_ ?_
       rotate_left
       ·intro hJ2_4_6_8_10_33
        refine join_ (σ := Unit) 6 #[true, true, true, true, true, true, true, true, true, true, true, true, true, false, true, true, true, true, false, true, false, true, true, true, true, true, true, true, true, true, true, true, false, false, false] (fun _ => [(107, .int .i64 ty), (109, .int .i64 pm), (111, .int .i64 mode), (113, .int .i64 uid), (115, .int .i64 gid)]) (fun _ w' => DG w w' gs gr gf a0 m1 m2) ?_ ?_
        rotate_left
        ·intro hJ2_4_6_8_10
         refine join_ (σ := Nat) 6 #[true, true, true, true, true, true, true, true, true, true, false, true, true, false, true, true, true, true, false, true, false, true, true, true, true, true, true, true, true, true, true, true, false, true, false] (fun ge => [(107, .int .i64 ty), (109, .int .i64 pm), (111, .int .i64 mode), (113, .int .i64 uid), (16, .pointer (some ⟨ge, 0, none⟩))]) (fun ge w' => DE w w' gs gr gf ge a0 m1 m2 decZ) ?_ ?_
         rotate_left
         ·intro hJ2_4_6_8_33
          refine join_ (σ := Unit) 7 #[true, true, true, true, true, true, true, true, true, true, false, true, true, false, true, true, true, true, false, true, false, true, true, true, true, true, true, true, true, true, true, true, false, false, false] (fun _ => [(107, .int .i64 ty), (109, .int .i64 pm), (111, .int .i64 mode), (113, .int .i64 uid)]) (fun _ w' => DG w w' gs gr gf a0 m1 m2) ?_ ?_
          rotate_left
          ·intro hJ2_4_6_8
           refine join_ (σ := Nat) 7 #[true, true, true, true, true, true, true, true, false, true, false, true, true, false, true, true, true, true, false, true, false, true, true, true, true, true, true, true, true, true, true, true, false, true, false] (fun ge => [(107, .int .i64 ty), (109, .int .i64 pm), (111, .int .i64 mode), (16, .pointer (some ⟨ge, 0, none⟩))]) (fun ge w' => DE w w' gs gr gf ge a0 m1 m2 decZ) ?_ ?_
           rotate_left
           ·intro hJ2_4_6_33
            refine join_ (σ := Unit) 8 #[true, true, true, true, true, true, true, true, false, true, false, true, true, false, true, true, true, true, false, true, false, true, true, true, true, true, true, true, true, true, true, true, false, false, false] (fun _ => [(107, .int .i64 ty), (109, .int .i64 pm), (111, .int .i64 mode)]) (fun _ w' => DG w w' gs gr gf a0 m1 m2) ?_ ?_
            rotate_left
            ·intro hJ2_4_6
             refine join_ (σ := Nat) 8 #[true, true, true, true, true, true, false, true, false, true, false, true, true, false, true, true, true, true, false, true, false, true, true, true, true, true, true, true, true, true, true, true, false, true, false] (fun ge => [(107, .int .i64 ty), (109, .int .i64 pm), (16, .pointer (some ⟨ge, 0, none⟩))]) (fun ge w' => DE w w' gs gr gf ge a0 m1 m2 decZ) ?_ ?_
             rotate_left
             ·intro hJ2_4_33
              refine join_ (σ := Unit) 9 #[true, true, true, true, true, true, false, true, false, true, false, true, true, false, true, true, true, true, false, true, false, true, true, true, true, true, true, true, true, true, true, true, false, false, false] (fun _ => [(107, .int .i64 ty), (109, .int .i64 pm)]) (fun _ w' => DG w w' gs gr gf a0 m1 m2) ?_ ?_
              rotate_left
              ·intro hJ2_4
               refine join_ (σ := Nat) 9 #[true, true, true, true, false, true, false, true, false, true, false, true, true, false, true, true, true, true, false, true, false, true, true, true, true, true, true, true, true, true, true, true, false, true, false] (fun ge => [(107, .int .i64 ty), (16, .pointer (some ⟨ge, 0, none⟩))]) (fun ge w' => DE w w' gs gr gf ge a0 m1 m2 decZ) ?_ ?_
               rotate_left
               ·intro hJ2_33
                refine join_ (σ := Unit) 10 #[true, true, true, true, false, true, false, true, false, true, false, true, true, false, true, true, true, true, false, true, false, true, true, true, true, true, true, true, true, true, true, true, false, false, false] (fun _ => [(107, .int .i64 ty)]) (fun _ w' => DG w w' gs gr gf a0 m1 m2) ?_ ?_
                rotate_left
                ·intro hJ2
                 refine join_ (σ := Nat) 10 #[true, true, false, true, false, true, false, true, false, true, false, true, true, false, true, true, true, true, false, true, false, true, true, true, true, true, true, true, true, true, true, true, false, true, false] (fun ge => [(16, .pointer (some ⟨ge, 0, none⟩))]) (fun ge w' => DE w w' gs gr gf ge a0 m1 m2 decZ) ?_ ?_
                 rotate_left
                 ·intro hJ33
                  refine two_ (i := 2) (j := 33) (Ni := some 107) (Nj := some 16) #[true, true, true, true, false, true, false, true, false, true, false, true, true, false, true, true, true, true, false, true, false, true, true, true, true, true, true, true, true, true, true, true, false, false, false] #[true, true, false, true, false, true, false, true, false, true, false, true, true, false, true, true, true, true, false, true, false, true, true, true, true, true, true, true, true, true, true, true, false, true, false] rfl rfl rfl rfl (by kernel_rfl) (by decide) (by decide) (fun K hK => ?_) (fun K hK => ?_)
                  ·skip
                   refine goesC_ Try.func36 (by kernel_rfl) rfl #[.int .i64 27, .int .i64 1, .pointer (some ⟨gs, 0, none⟩)] (by rfl) rfl ⟨_, rfl, rfl⟩ (by simp only [List.map_toArray, List.map_cons, List.map_nil, List.append_toArray, List.cons_append, List.nil_append]; rfl) ?_
                   with_reducible refine (dg_num HG.out.drew XTY.out).mono ?_
                   rintro e wz ⟨rfl, he⟩
                   refine ⟨_, rfl, ?_⟩
                   have HN := Aside0.mk he
                   clear he
                   refine hK.out _ _ ⟨HN.out.c1, HN.out.dc.cell⟩ (fun hHeld => ?_)
                   clear hK K
                   refine norm_ (a' := ?_) ?_ ?_
                   rotate_left
                   ·show Act.put _ (some 107) _ = _
                    simp only [puts_]
                    rfl
                   exact norm_ (by first | (simp only [putAll, Act.put, List.setIfInBounds_toArray, List.set_cons_zero, List.set_cons_succ]; done) | (simp only [putAll, Act.put, List.setIfInBounds_toArray, List.set_cons_zero, List.set_cons_succ]; rfl)) (hJ2 () _ HN.out)
                  ·skip
                   refine alloc_event (cs := #[.bool false, .int .i64 0, .int .i64 0, .int .i64 0, .int .i64 0, .int .i64 0, .int .i64 0, .int .i64 0, .int .i64 0, .int .i64 0, .bool false, .string (⟨#[]⟩ : ByteArray), .slice none 0 0, .string (⟨#[]⟩ : ByteArray), .bool false, .int .i64 0, .int .i64 0]) (t := 31) (by rfl) ?hrun ?_
                   (case hrun => first | (go_simp; done) | (go_simp; rfl))
                   intro ge wz hge hbox hbb
                   have HN := Aside0.mk (de_zero HG.out.drew hge hbox hbb)
                   clear hge hbox hbb
                   refine hK.out _ _ ⟨HN.out.dg.c1, HN.out.dg.dc.cell⟩ (fun hHeld => ?_)
                   clear hK K
                   refine norm_ (a' := ?_) ?_ ?_
                   rotate_left
                   ·show Act.put _ (some 16) _ = _
                    simp only [puts_]
                    rfl
                   exact norm_ (by first | (simp only [putAll, Act.put, List.setIfInBounds_toArray, List.set_cons_zero, List.set_cons_succ]; done) | (simp only [putAll, Act.put, List.setIfInBounds_toArray, List.set_cons_zero, List.set_cons_succ]; rfl)) (hJ33 ge _ HN.out)
                 ·skip
                  intro ge w' hF
                  have HE := Aside0.mk hF
                  have hHeld : w'.cell? ⟨gf, 0, none⟩ = some (.int .i64 m1) ∧ w'.cell? ⟨gs, 0, none⟩ = some (.string a0) := ⟨hF.dg.c1, hF.dg.dc.cell⟩
                  clear hF
                  refine norm_ (a' := ?_) ?_ ?_
                  rotate_left
                  ·simp only [putAll, Act.put, List.setIfInBounds_toArray, List.set_cons_zero, List.set_cons_succ]
                   rfl
                  refine one_ (i := 2) (N := some 107) #[true, true, true, true, false, true, false, true, false, true, false, true, true, false, true, true, true, true, false, true, false, true, true, true, true, true, true, true, true, true, true, true, false, true, false] rfl rfl (by kernel_rfl) (by decide) (fun K hK => ?_)
                  refine goesC_ Try.func36 (by kernel_rfl) rfl #[.int .i64 27, .int .i64 1, .pointer (some ⟨gs, 0, none⟩)] (by rfl) rfl ⟨_, rfl, rfl⟩ (by simp only [List.map_toArray, List.map_cons, List.map_nil, List.append_toArray, List.cons_append, List.nil_append]; rfl) ?_
                  with_reducible refine (de_num HE.out XTY.out).mono ?_
                  rintro e wz ⟨rfl, he⟩
                  refine ⟨_, rfl, ?_⟩
                  have HN := Aside0.mk he
                  clear he
                  refine hK.out _ _ ⟨HN.out.dg.c1, HN.out.dg.dc.cell⟩ (fun hHeld => ?_)
                  clear hK K
                  refine norm_ (a' := ?_) ?_ ?_
                  rotate_left
                  ·show Act.put _ (some 107) _ = _
                   simp only [puts_]
                   rfl
                  exact norm_ (by first | (simp only [putAll, Act.put, List.setIfInBounds_toArray, List.set_cons_zero, List.set_cons_succ]; done) | (simp only [putAll, Act.put, List.setIfInBounds_toArray, List.set_cons_zero, List.set_cons_succ]; rfl)) (hJ2_33 ge _ HN.out)
                ·skip
                 intro _ w' hF
                 have HG := Aside0.mk hF
                 have hHeld : w'.cell? ⟨gf, 0, none⟩ = some (.int .i64 m1) ∧ w'.cell? ⟨gs, 0, none⟩ = some (.string a0) := ⟨hF.c1, hF.dc.cell⟩
                 clear hF
                 refine norm_ (a' := ?_) ?_ ?_
                 rotate_left
                 ·simp only [putAll, Act.put, List.setIfInBounds_toArray, List.set_cons_zero, List.set_cons_succ]
                  rfl
                 refine two_ (i := 4) (j := 33) (Ni := some 109) (Nj := some 16) #[true, true, true, true, true, true, false, true, false, true, false, true, true, false, true, true, true, true, false, true, false, true, true, true, true, true, true, true, true, true, true, true, false, false, false] #[true, true, true, true, false, true, false, true, false, true, false, true, true, false, true, true, true, true, false, true, false, true, true, true, true, true, true, true, true, true, true, true, false, true, false] rfl rfl rfl rfl (by kernel_rfl) (by decide) (by decide) (fun K hK => ?_) (fun K hK => ?_)
                 ·skip
                  refine goesC_ Try.func36 (by kernel_rfl) rfl #[.int .i64 44, .int .i64 4, .pointer (some ⟨gs, 0, none⟩)] (by rfl) rfl ⟨_, rfl, rfl⟩ (by simp only [List.map_toArray, List.map_cons, List.map_nil, List.append_toArray, List.cons_append, List.nil_append]; rfl) ?_
                  with_reducible refine (dg_num HG.out XPM.out).mono ?_
                  rintro e wz ⟨rfl, he⟩
                  refine ⟨_, rfl, ?_⟩
                  have HN := Aside0.mk he
                  clear he
                  refine hK.out _ _ ⟨HN.out.c1, HN.out.dc.cell⟩ (fun hHeld => ?_)
                  clear hK K
                  refine norm_ (a' := ?_) ?_ ?_
                  rotate_left
                  ·show Act.put _ (some 109) _ = _
                   simp only [puts_]
                   rfl
                  exact norm_ (by first | (simp only [putAll, Act.put, List.setIfInBounds_toArray, List.set_cons_zero, List.set_cons_succ]; done) | (simp only [putAll, Act.put, List.setIfInBounds_toArray, List.set_cons_zero, List.set_cons_succ]; rfl)) (hJ2_4 () _ HN.out)
                 ·skip
                  refine alloc_event (cs := #[.bool false, .int .i64 0, .int .i64 0, .int .i64 0, .int .i64 0, .int .i64 0, .int .i64 0, .int .i64 0, .int .i64 0, .int .i64 0, .bool false, .string (⟨#[]⟩ : ByteArray), .slice none 0 0, .string (⟨#[]⟩ : ByteArray), .bool false, .int .i64 0, .int .i64 0]) (t := 31) (by rfl) ?hrun ?_
                  (case hrun => first | (go_simp; done) | (go_simp; rfl))
                  intro ge wz hge hbox hbb
                  have HN := Aside0.mk (de_zero HG.out hge hbox hbb)
                  clear hge hbox hbb
                  refine hK.out _ _ ⟨HN.out.dg.c1, HN.out.dg.dc.cell⟩ (fun hHeld => ?_)
                  clear hK K
                  refine norm_ (a' := ?_) ?_ ?_
                  rotate_left
                  ·show Act.put _ (some 16) _ = _
                   simp only [puts_]
                   rfl
                  exact norm_ (by first | (simp only [putAll, Act.put, List.setIfInBounds_toArray, List.set_cons_zero, List.set_cons_succ]; done) | (simp only [putAll, Act.put, List.setIfInBounds_toArray, List.set_cons_zero, List.set_cons_succ]; rfl)) (hJ2_33 ge _ HN.out)
               ·skip
                intro ge w' hF
                have HE := Aside0.mk hF
                have hHeld : w'.cell? ⟨gf, 0, none⟩ = some (.int .i64 m1) ∧ w'.cell? ⟨gs, 0, none⟩ = some (.string a0) := ⟨hF.dg.c1, hF.dg.dc.cell⟩
                clear hF
                refine norm_ (a' := ?_) ?_ ?_
                rotate_left
                ·simp only [putAll, Act.put, List.setIfInBounds_toArray, List.set_cons_zero, List.set_cons_succ]
                 rfl
                refine one_ (i := 4) (N := some 109) #[true, true, true, true, true, true, false, true, false, true, false, true, true, false, true, true, true, true, false, true, false, true, true, true, true, true, true, true, true, true, true, true, false, true, false] rfl rfl (by kernel_rfl) (by decide) (fun K hK => ?_)
                refine goesC_ Try.func36 (by kernel_rfl) rfl #[.int .i64 44, .int .i64 4, .pointer (some ⟨gs, 0, none⟩)] (by rfl) rfl ⟨_, rfl, rfl⟩ (by simp only [List.map_toArray, List.map_cons, List.map_nil, List.append_toArray, List.cons_append, List.nil_append]; rfl) ?_
                with_reducible refine (de_num HE.out XPM.out).mono ?_
                rintro e wz ⟨rfl, he⟩
                refine ⟨_, rfl, ?_⟩
                have HN := Aside0.mk he
                clear he
                refine hK.out _ _ ⟨HN.out.dg.c1, HN.out.dg.dc.cell⟩ (fun hHeld => ?_)
                clear hK K
                refine norm_ (a' := ?_) ?_ ?_
                rotate_left
                ·show Act.put _ (some 109) _ = _
                 simp only [puts_]
                 rfl
                exact norm_ (by first | (simp only [putAll, Act.put, List.setIfInBounds_toArray, List.set_cons_zero, List.set_cons_succ]; done) | (simp only [putAll, Act.put, List.setIfInBounds_toArray, List.set_cons_zero, List.set_cons_succ]; rfl)) (hJ2_4_33 ge _ HN.out)
              ·skip
               intro _ w' hF
               have HG := Aside0.mk hF
               have hHeld : w'.cell? ⟨gf, 0, none⟩ = some (.int .i64 m1) ∧ w'.cell? ⟨gs, 0, none⟩ = some (.string a0) := ⟨hF.c1, hF.dc.cell⟩
               clear hF
               refine norm_ (a' := ?_) ?_ ?_
               rotate_left
               ·simp only [putAll, Act.put, List.setIfInBounds_toArray, List.set_cons_zero, List.set_cons_succ]
                rfl
               refine two_ (i := 6) (j := 33) (Ni := some 111) (Nj := some 16) #[true, true, true, true, true, true, true, true, false, true, false, true, true, false, true, true, true, true, false, true, false, true, true, true, true, true, true, true, true, true, true, true, false, false, false] #[true, true, true, true, true, true, false, true, false, true, false, true, true, false, true, true, true, true, false, true, false, true, true, true, true, true, true, true, true, true, true, true, false, true, false] rfl rfl rfl rfl (by kernel_rfl) (by decide) (by decide) (fun K hK => ?_) (fun K hK => ?_)
               ·skip
                refine goes_ Try.func11 (by kernel_rfl) rfl #[.int .i64 pm, .int .i64 fl] (by rfl) rfl rfl (by simp only [List.map_toArray, List.map_cons, List.map_nil]; rfl) ?_
                with_reducible refine (icb_Mode.calls k pm fl mode _ XMO.out).mono ?_
                rintro e wz ⟨rfl, hb⟩
                refine ⟨_, rfl, ?_⟩
                have HN := Aside0.mk (HG.out.below hb)
                clear hb
                refine hK.out _ _ ⟨HN.out.c1, HN.out.dc.cell⟩ (fun hHeld => ?_)
                clear hK K
                refine norm_ (a' := ?_) ?_ ?_
                rotate_left
                ·show Act.put _ (some 111) _ = _
                 simp only [puts_]
                 rfl
                exact norm_ (by first | (simp only [putAll, Act.put, List.setIfInBounds_toArray, List.set_cons_zero, List.set_cons_succ]; done) | (simp only [putAll, Act.put, List.setIfInBounds_toArray, List.set_cons_zero, List.set_cons_succ]; rfl)) (hJ2_4_6 () _ HN.out)
               ·skip
                refine alloc_event (cs := #[.bool false, .int .i64 0, .int .i64 0, .int .i64 0, .int .i64 0, .int .i64 0, .int .i64 0, .int .i64 0, .int .i64 0, .int .i64 0, .bool false, .string (⟨#[]⟩ : ByteArray), .slice none 0 0, .string (⟨#[]⟩ : ByteArray), .bool false, .int .i64 0, .int .i64 0]) (t := 31) (by rfl) ?hrun ?_
                (case hrun => first | (go_simp; done) | (go_simp; rfl))
                intro ge wz hge hbox hbb
                have HN := Aside0.mk (de_zero HG.out hge hbox hbb)
                clear hge hbox hbb
                refine hK.out _ _ ⟨HN.out.dg.c1, HN.out.dg.dc.cell⟩ (fun hHeld => ?_)
                clear hK K
                refine norm_ (a' := ?_) ?_ ?_
                rotate_left
                ·show Act.put _ (some 16) _ = _
                 simp only [puts_]
                 rfl
                exact norm_ (by first | (simp only [putAll, Act.put, List.setIfInBounds_toArray, List.set_cons_zero, List.set_cons_succ]; done) | (simp only [putAll, Act.put, List.setIfInBounds_toArray, List.set_cons_zero, List.set_cons_succ]; rfl)) (hJ2_4_33 ge _ HN.out)
             ·skip
              intro ge w' hF
              have HE := Aside0.mk hF
              have hHeld : w'.cell? ⟨gf, 0, none⟩ = some (.int .i64 m1) ∧ w'.cell? ⟨gs, 0, none⟩ = some (.string a0) := ⟨hF.dg.c1, hF.dg.dc.cell⟩
              clear hF
              refine norm_ (a' := ?_) ?_ ?_
              rotate_left
              ·simp only [putAll, Act.put, List.setIfInBounds_toArray, List.set_cons_zero, List.set_cons_succ]
               rfl
              refine one_ (i := 6) (N := some 111) #[true, true, true, true, true, true, true, true, false, true, false, true, true, false, true, true, true, true, false, true, false, true, true, true, true, true, true, true, true, true, true, true, false, true, false] rfl rfl (by kernel_rfl) (by decide) (fun K hK => ?_)
              refine goes_ Try.func11 (by kernel_rfl) rfl #[.int .i64 pm, .int .i64 fl] (by rfl) rfl rfl (by simp only [List.map_toArray, List.map_cons, List.map_nil]; rfl) ?_
              with_reducible refine (icb_Mode.calls k pm fl mode _ XMO.out).mono ?_
              rintro e wz ⟨rfl, hb⟩
              refine ⟨_, rfl, ?_⟩
              have HN := Aside0.mk (HE.out.below hb)
              clear hb
              refine hK.out _ _ ⟨HN.out.dg.c1, HN.out.dg.dc.cell⟩ (fun hHeld => ?_)
              clear hK K
              refine norm_ (a' := ?_) ?_ ?_
              rotate_left
              ·show Act.put _ (some 111) _ = _
               simp only [puts_]
               rfl
              exact norm_ (by first | (simp only [putAll, Act.put, List.setIfInBounds_toArray, List.set_cons_zero, List.set_cons_succ]; done) | (simp only [putAll, Act.put, List.setIfInBounds_toArray, List.set_cons_zero, List.set_cons_succ]; rfl)) (hJ2_4_6_33 ge _ HN.out)
            ·skip
             intro _ w' hF
             have HG := Aside0.mk hF
             have hHeld : w'.cell? ⟨gf, 0, none⟩ = some (.int .i64 m1) ∧ w'.cell? ⟨gs, 0, none⟩ = some (.string a0) := ⟨hF.c1, hF.dc.cell⟩
             clear hF
             refine norm_ (a' := ?_) ?_ ?_
             rotate_left
             ·simp only [putAll, Act.put, List.setIfInBounds_toArray, List.set_cons_zero, List.set_cons_succ]
              rfl
             refine two_ (i := 8) (j := 33) (Ni := some 113) (Nj := some 16) #[true, true, true, true, true, true, true, true, true, true, false, true, true, false, true, true, true, true, false, true, false, true, true, true, true, true, true, true, true, true, true, true, false, false, false] #[true, true, true, true, true, true, true, true, false, true, false, true, true, false, true, true, true, true, false, true, false, true, true, true, true, true, true, true, true, true, true, true, false, true, false] rfl rfl rfl rfl (by kernel_rfl) (by decide) (by decide) (fun K hK => ?_) (fun K hK => ?_)
             ·skip
              refine goesC_ Try.func36 (by kernel_rfl) rfl #[.int .i64 36, .int .i64 4, .pointer (some ⟨gs, 0, none⟩)] (by rfl) rfl ⟨_, rfl, rfl⟩ (by simp only [List.map_toArray, List.map_cons, List.map_nil, List.append_toArray, List.cons_append, List.nil_append]; rfl) ?_
              with_reducible refine (dg_num HG.out XUI.out).mono ?_
              rintro e wz ⟨rfl, he⟩
              refine ⟨_, rfl, ?_⟩
              have HN := Aside0.mk he
              clear he
              refine hK.out _ _ ⟨HN.out.c1, HN.out.dc.cell⟩ (fun hHeld => ?_)
              clear hK K
              refine norm_ (a' := ?_) ?_ ?_
              rotate_left
              ·show Act.put _ (some 113) _ = _
               simp only [puts_]
               rfl
              exact norm_ (by first | (simp only [putAll, Act.put, List.setIfInBounds_toArray, List.set_cons_zero, List.set_cons_succ]; done) | (simp only [putAll, Act.put, List.setIfInBounds_toArray, List.set_cons_zero, List.set_cons_succ]; rfl)) (hJ2_4_6_8 () _ HN.out)
             ·skip
              refine alloc_event (cs := #[.bool false, .int .i64 0, .int .i64 0, .int .i64 0, .int .i64 0, .int .i64 0, .int .i64 0, .int .i64 0, .int .i64 0, .int .i64 0, .bool false, .string (⟨#[]⟩ : ByteArray), .slice none 0 0, .string (⟨#[]⟩ : ByteArray), .bool false, .int .i64 0, .int .i64 0]) (t := 31) (by rfl) ?hrun ?_
              (case hrun => first | (go_simp; done) | (go_simp; rfl))
              intro ge wz hge hbox hbb
              have HN := Aside0.mk (de_zero HG.out hge hbox hbb)
              clear hge hbox hbb
              refine hK.out _ _ ⟨HN.out.dg.c1, HN.out.dg.dc.cell⟩ (fun hHeld => ?_)
              clear hK K
              refine norm_ (a' := ?_) ?_ ?_
              rotate_left
              ·show Act.put _ (some 16) _ = _
               simp only [puts_]
               rfl
              exact norm_ (by first | (simp only [putAll, Act.put, List.setIfInBounds_toArray, List.set_cons_zero, List.set_cons_succ]; done) | (simp only [putAll, Act.put, List.setIfInBounds_toArray, List.set_cons_zero, List.set_cons_succ]; rfl)) (hJ2_4_6_33 ge _ HN.out)
           ·skip
            intro ge w' hF
            have HE := Aside0.mk hF
            have hHeld : w'.cell? ⟨gf, 0, none⟩ = some (.int .i64 m1) ∧ w'.cell? ⟨gs, 0, none⟩ = some (.string a0) := ⟨hF.dg.c1, hF.dg.dc.cell⟩
            clear hF
            refine norm_ (a' := ?_) ?_ ?_
            rotate_left
            ·simp only [putAll, Act.put, List.setIfInBounds_toArray, List.set_cons_zero, List.set_cons_succ]
             rfl
            refine one_ (i := 8) (N := some 113) #[true, true, true, true, true, true, true, true, true, true, false, true, true, false, true, true, true, true, false, true, false, true, true, true, true, true, true, true, true, true, true, true, false, true, false] rfl rfl (by kernel_rfl) (by decide) (fun K hK => ?_)
            refine goesC_ Try.func36 (by kernel_rfl) rfl #[.int .i64 36, .int .i64 4, .pointer (some ⟨gs, 0, none⟩)] (by rfl) rfl ⟨_, rfl, rfl⟩ (by simp only [List.map_toArray, List.map_cons, List.map_nil, List.append_toArray, List.cons_append, List.nil_append]; rfl) ?_
            with_reducible refine (de_num HE.out XUI.out).mono ?_
            rintro e wz ⟨rfl, he⟩
            refine ⟨_, rfl, ?_⟩
            have HN := Aside0.mk he
            clear he
            refine hK.out _ _ ⟨HN.out.dg.c1, HN.out.dg.dc.cell⟩ (fun hHeld => ?_)
            clear hK K
            refine norm_ (a' := ?_) ?_ ?_
            rotate_left
            ·show Act.put _ (some 113) _ = _
             simp only [puts_]
             rfl
            exact norm_ (by first | (simp only [putAll, Act.put, List.setIfInBounds_toArray, List.set_cons_zero, List.set_cons_succ]; done) | (simp only [putAll, Act.put, List.setIfInBounds_toArray, List.set_cons_zero, List.set_cons_succ]; rfl)) (hJ2_4_6_8_33 ge _ HN.out)
          ·skip
           intro _ w' hF
           have HG := Aside0.mk hF
           have hHeld : w'.cell? ⟨gf, 0, none⟩ = some (.int .i64 m1) ∧ w'.cell? ⟨gs, 0, none⟩ = some (.string a0) := ⟨hF.c1, hF.dc.cell⟩
           clear hF
           refine norm_ (a' := ?_) ?_ ?_
           rotate_left
           ·simp only [putAll, Act.put, List.setIfInBounds_toArray, List.set_cons_zero, List.set_cons_succ]
            rfl
           refine two_ (i := 10) (j := 33) (Ni := some 115) (Nj := some 16) #[true, true, true, true, true, true, true, true, true, true, true, true, true, false, true, true, true, true, false, true, false, true, true, true, true, true, true, true, true, true, true, true, false, false, false] #[true, true, true, true, true, true, true, true, true, true, false, true, true, false, true, true, true, true, false, true, false, true, true, true, true, true, true, true, true, true, true, true, false, true, false] rfl rfl rfl rfl (by kernel_rfl) (by decide) (by decide) (fun K hK => ?_) (fun K hK => ?_)
           ·skip
            refine goesC_ Try.func36 (by kernel_rfl) rfl #[.int .i64 40, .int .i64 4, .pointer (some ⟨gs, 0, none⟩)] (by rfl) rfl ⟨_, rfl, rfl⟩ (by simp only [List.map_toArray, List.map_cons, List.map_nil, List.append_toArray, List.cons_append, List.nil_append]; rfl) ?_
            with_reducible refine (dg_num HG.out XGI.out).mono ?_
            rintro e wz ⟨rfl, he⟩
            refine ⟨_, rfl, ?_⟩
            have HN := Aside0.mk he
            clear he
            refine hK.out _ _ ⟨HN.out.c1, HN.out.dc.cell⟩ (fun hHeld => ?_)
            clear hK K
            refine norm_ (a' := ?_) ?_ ?_
            rotate_left
            ·show Act.put _ (some 115) _ = _
             simp only [puts_]
             rfl
            exact norm_ (by first | (simp only [putAll, Act.put, List.setIfInBounds_toArray, List.set_cons_zero, List.set_cons_succ]; done) | (simp only [putAll, Act.put, List.setIfInBounds_toArray, List.set_cons_zero, List.set_cons_succ]; rfl)) (hJ2_4_6_8_10 () _ HN.out)
           ·skip
            refine alloc_event (cs := #[.bool false, .int .i64 0, .int .i64 0, .int .i64 0, .int .i64 0, .int .i64 0, .int .i64 0, .int .i64 0, .int .i64 0, .int .i64 0, .bool false, .string (⟨#[]⟩ : ByteArray), .slice none 0 0, .string (⟨#[]⟩ : ByteArray), .bool false, .int .i64 0, .int .i64 0]) (t := 31) (by rfl) ?hrun ?_
            (case hrun => first | (go_simp; done) | (go_simp; rfl))
            intro ge wz hge hbox hbb
            have HN := Aside0.mk (de_zero HG.out hge hbox hbb)
            clear hge hbox hbb
            refine hK.out _ _ ⟨HN.out.dg.c1, HN.out.dg.dc.cell⟩ (fun hHeld => ?_)
            clear hK K
            refine norm_ (a' := ?_) ?_ ?_
            rotate_left
            ·show Act.put _ (some 16) _ = _
             simp only [puts_]
             rfl
            exact norm_ (by first | (simp only [putAll, Act.put, List.setIfInBounds_toArray, List.set_cons_zero, List.set_cons_succ]; done) | (simp only [putAll, Act.put, List.setIfInBounds_toArray, List.set_cons_zero, List.set_cons_succ]; rfl)) (hJ2_4_6_8_33 ge _ HN.out)
         ·skip
          intro ge w' hF
          have HE := Aside0.mk hF
          have hHeld : w'.cell? ⟨gf, 0, none⟩ = some (.int .i64 m1) ∧ w'.cell? ⟨gs, 0, none⟩ = some (.string a0) := ⟨hF.dg.c1, hF.dg.dc.cell⟩
          clear hF
          refine norm_ (a' := ?_) ?_ ?_
          rotate_left
          ·simp only [putAll, Act.put, List.setIfInBounds_toArray, List.set_cons_zero, List.set_cons_succ]
           rfl
          refine one_ (i := 10) (N := some 115) #[true, true, true, true, true, true, true, true, true, true, true, true, true, false, true, true, true, true, false, true, false, true, true, true, true, true, true, true, true, true, true, true, false, true, false] rfl rfl (by kernel_rfl) (by decide) (fun K hK => ?_)
          refine goesC_ Try.func36 (by kernel_rfl) rfl #[.int .i64 40, .int .i64 4, .pointer (some ⟨gs, 0, none⟩)] (by rfl) rfl ⟨_, rfl, rfl⟩ (by simp only [List.map_toArray, List.map_cons, List.map_nil, List.append_toArray, List.cons_append, List.nil_append]; rfl) ?_
          with_reducible refine (de_num HE.out XGI.out).mono ?_
          rintro e wz ⟨rfl, he⟩
          refine ⟨_, rfl, ?_⟩
          have HN := Aside0.mk he
          clear he
          refine hK.out _ _ ⟨HN.out.dg.c1, HN.out.dg.dc.cell⟩ (fun hHeld => ?_)
          clear hK K
          refine norm_ (a' := ?_) ?_ ?_
          rotate_left
          ·show Act.put _ (some 115) _ = _
           simp only [puts_]
           rfl
          exact norm_ (by first | (simp only [putAll, Act.put, List.setIfInBounds_toArray, List.set_cons_zero, List.set_cons_succ]; done) | (simp only [putAll, Act.put, List.setIfInBounds_toArray, List.set_cons_zero, List.set_cons_succ]; rfl)) (hJ2_4_6_8_10_33 ge _ HN.out)
        ·skip
         intro _ w' hF
         have HG := Aside0.mk hF
         have hHeld : w'.cell? ⟨gf, 0, none⟩ = some (.int .i64 m1) ∧ w'.cell? ⟨gs, 0, none⟩ = some (.string a0) := ⟨hF.c1, hF.dc.cell⟩
         clear hF
         refine norm_ (a' := ?_) ?_ ?_
         rotate_left
         ·simp only [putAll, Act.put, List.setIfInBounds_toArray, List.set_cons_zero, List.set_cons_succ]
          rfl
         refine two_ (i := 13) (j := 33) (Ni := some 118) (Nj := some 16) #[true, true, true, true, true, true, true, true, true, true, true, true, true, true, true, true, true, true, false, true, false, true, true, true, true, true, true, true, true, true, true, true, false, false, false] #[true, true, true, true, true, true, true, true, true, true, true, true, true, false, true, true, true, true, false, true, false, true, true, true, true, true, true, true, true, true, true, true, false, true, false] rfl rfl rfl rfl (by kernel_rfl) (by decide) (by decide) (fun K hK => ?_) (fun K hK => ?_)
         ·skip
          refine goesC_ Try.func36 (by kernel_rfl) rfl #[.int .i64 48, .int .i64 2, .pointer (some ⟨gs, 0, none⟩)] (by rfl) rfl ⟨_, rfl, rfl⟩ (by simp only [List.map_toArray, List.map_cons, List.map_nil, List.append_toArray, List.cons_append, List.nil_append]; rfl) ?_
          with_reducible refine (dg_num HG.out XLI.out).mono ?_
          rintro e wz ⟨rfl, he⟩
          refine ⟨_, rfl, ?_⟩
          have HN := Aside0.mk he
          clear he
          refine hK.out _ _ ⟨HN.out.c1, HN.out.dc.cell⟩ (fun hHeld => ?_)
          clear hK K
          refine norm_ (a' := ?_) ?_ ?_
          rotate_left
          ·show Act.put _ (some 118) _ = _
           simp only [puts_]
           rfl
          exact norm_ (by first | (simp only [putAll, Act.put, List.setIfInBounds_toArray, List.set_cons_zero, List.set_cons_succ]; done) | (simp only [putAll, Act.put, List.setIfInBounds_toArray, List.set_cons_zero, List.set_cons_succ]; rfl)) (hJ2_4_6_8_10_13 () _ HN.out)
         ·skip
          refine alloc_event (cs := #[.bool false, .int .i64 0, .int .i64 0, .int .i64 0, .int .i64 0, .int .i64 0, .int .i64 0, .int .i64 0, .int .i64 0, .int .i64 0, .bool false, .string (⟨#[]⟩ : ByteArray), .slice none 0 0, .string (⟨#[]⟩ : ByteArray), .bool false, .int .i64 0, .int .i64 0]) (t := 31) (by rfl) ?hrun ?_
          (case hrun => first | (go_simp; done) | (go_simp; rfl))
          intro ge wz hge hbox hbb
          have HN := Aside0.mk (de_zero HG.out hge hbox hbb)
          clear hge hbox hbb
          refine hK.out _ _ ⟨HN.out.dg.c1, HN.out.dg.dc.cell⟩ (fun hHeld => ?_)
          clear hK K
          refine norm_ (a' := ?_) ?_ ?_
          rotate_left
          ·show Act.put _ (some 16) _ = _
           simp only [puts_]
           rfl
          exact norm_ (by first | (simp only [putAll, Act.put, List.setIfInBounds_toArray, List.set_cons_zero, List.set_cons_succ]; done) | (simp only [putAll, Act.put, List.setIfInBounds_toArray, List.set_cons_zero, List.set_cons_succ]; rfl)) (hJ2_4_6_8_10_33 ge _ HN.out)
       ·skip
        intro ge w' hF
        have HE := Aside0.mk hF
        have hHeld : w'.cell? ⟨gf, 0, none⟩ = some (.int .i64 m1) ∧ w'.cell? ⟨gs, 0, none⟩ = some (.string a0) := ⟨hF.dg.c1, hF.dg.dc.cell⟩
        clear hF
        refine norm_ (a' := ?_) ?_ ?_
        rotate_left
        ·simp only [putAll, Act.put, List.setIfInBounds_toArray, List.set_cons_zero, List.set_cons_succ]
         rfl
        refine one_ (i := 13) (N := some 118) #[true, true, true, true, true, true, true, true, true, true, true, true, true, true, true, true, true, true, false, true, false, true, true, true, true, true, true, true, true, true, true, true, false, true, false] rfl rfl (by kernel_rfl) (by decide) (fun K hK => ?_)
        refine goesC_ Try.func36 (by kernel_rfl) rfl #[.int .i64 48, .int .i64 2, .pointer (some ⟨gs, 0, none⟩)] (by rfl) rfl ⟨_, rfl, rfl⟩ (by simp only [List.map_toArray, List.map_cons, List.map_nil, List.append_toArray, List.cons_append, List.nil_append]; rfl) ?_
        with_reducible refine (de_num HE.out XLI.out).mono ?_
        rintro e wz ⟨rfl, he⟩
        refine ⟨_, rfl, ?_⟩
        have HN := Aside0.mk he
        clear he
        refine hK.out _ _ ⟨HN.out.dg.c1, HN.out.dg.dc.cell⟩ (fun hHeld => ?_)
        clear hK K
        refine norm_ (a' := ?_) ?_ ?_
        rotate_left
        ·show Act.put _ (some 118) _ = _
         simp only [puts_]
         rfl
        exact norm_ (by first | (simp only [putAll, Act.put, List.setIfInBounds_toArray, List.set_cons_zero, List.set_cons_succ]; done) | (simp only [putAll, Act.put, List.setIfInBounds_toArray, List.set_cons_zero, List.set_cons_succ]; rfl)) (hJ2_4_6_8_10_13_33 ge _ HN.out)
      ·skip
       intro _ w' hF
       have HG := Aside0.mk hF
       have hHeld : w'.cell? ⟨gf, 0, none⟩ = some (.int .i64 m1) ∧ w'.cell? ⟨gs, 0, none⟩ = some (.string a0) := ⟨hF.c1, hF.dc.cell⟩
       clear hF
       refine norm_ (a' := ?_) ?_ ?_
       rotate_left
       ·simp only [putAll, Act.put, List.setIfInBounds_toArray, List.set_cons_zero, List.set_cons_succ]
        rfl
       refine two_ (i := 18) (j := 33) (Ni := some 123) (Nj := some 16) #[true, true, true, true, true, true, true, true, true, true, true, true, true, true, true, true, true, true, true, true, false, true, true, true, true, true, true, true, true, true, true, true, false, false, false] #[true, true, true, true, true, true, true, true, true, true, true, true, true, true, true, true, true, true, false, true, false, true, true, true, true, true, true, true, true, true, true, true, false, true, false] rfl rfl rfl rfl (by kernel_rfl) (by decide) (by decide) (fun K hK => ?_) (fun K hK => ?_)
       ·skip
        refine goesC_ Try.func36 (by kernel_rfl) rfl #[.int .i64 (m1 - 16), .int .i64 4, .pointer (some ⟨gs, 0, none⟩)] (by rfl) rfl ⟨_, rfl, rfl⟩ (by simp only [List.map_toArray, List.map_cons, List.map_nil, List.append_toArray, List.cons_append, List.nil_append]; rfl) ?_
        with_reducible refine (dg_num HG.out XUQ.out).mono ?_
        rintro e wz ⟨rfl, he⟩
        refine ⟨_, rfl, ?_⟩
        have HN := Aside0.mk he
        clear he
        refine hK.out _ _ ⟨HN.out.c1, HN.out.dc.cell⟩ (fun hHeld => ?_)
        clear hK K
        refine norm_ (a' := ?_) ?_ ?_
        rotate_left
        ·show Act.put _ (some 123) _ = _
         simp only [puts_]
         rfl
        exact norm_ (by first | (simp only [putAll, Act.put, List.setIfInBounds_toArray, List.set_cons_zero, List.set_cons_succ]; done) | (simp only [putAll, Act.put, List.setIfInBounds_toArray, List.set_cons_zero, List.set_cons_succ]; rfl)) (hJ2_4_6_8_10_13_18 () _ HN.out)
       ·skip
        refine alloc_event (cs := #[.bool false, .int .i64 0, .int .i64 0, .int .i64 0, .int .i64 0, .int .i64 0, .int .i64 0, .int .i64 0, .int .i64 0, .int .i64 0, .bool false, .string (⟨#[]⟩ : ByteArray), .slice none 0 0, .string (⟨#[]⟩ : ByteArray), .bool false, .int .i64 0, .int .i64 0]) (t := 31) (by rfl) ?hrun ?_
        (case hrun => first | (go_simp; done) | (go_simp; rfl))
        intro ge wz hge hbox hbb
        have HN := Aside0.mk (de_zero HG.out hge hbox hbb)
        clear hge hbox hbb
        refine hK.out _ _ ⟨HN.out.dg.c1, HN.out.dg.dc.cell⟩ (fun hHeld => ?_)
        clear hK K
        refine norm_ (a' := ?_) ?_ ?_
        rotate_left
        ·show Act.put _ (some 16) _ = _
         simp only [puts_]
         rfl
        exact norm_ (by first | (simp only [putAll, Act.put, List.setIfInBounds_toArray, List.set_cons_zero, List.set_cons_succ]; done) | (simp only [putAll, Act.put, List.setIfInBounds_toArray, List.set_cons_zero, List.set_cons_succ]; rfl)) (hJ2_4_6_8_10_13_33 ge _ HN.out)
     ·skip
      intro ge w' hF
      have HE := Aside0.mk hF
      have hHeld : w'.cell? ⟨gf, 0, none⟩ = some (.int .i64 m1) ∧ w'.cell? ⟨gs, 0, none⟩ = some (.string a0) := ⟨hF.dg.c1, hF.dg.dc.cell⟩
      clear hF
      refine norm_ (a' := ?_) ?_ ?_
      rotate_left
      ·simp only [putAll, Act.put, List.setIfInBounds_toArray, List.set_cons_zero, List.set_cons_succ]
       rfl
      refine one_ (i := 18) (N := some 123) #[true, true, true, true, true, true, true, true, true, true, true, true, true, true, true, true, true, true, true, true, false, true, true, true, true, true, true, true, true, true, true, true, false, true, false] rfl rfl (by kernel_rfl) (by decide) (fun K hK => ?_)
      refine goesC_ Try.func36 (by kernel_rfl) rfl #[.int .i64 (m1 - 16), .int .i64 4, .pointer (some ⟨gs, 0, none⟩)] (by rfl) rfl ⟨_, rfl, rfl⟩ (by simp only [List.map_toArray, List.map_cons, List.map_nil, List.append_toArray, List.cons_append, List.nil_append]; rfl) ?_
      with_reducible refine (de_num HE.out XUQ.out).mono ?_
      rintro e wz ⟨rfl, he⟩
      refine ⟨_, rfl, ?_⟩
      have HN := Aside0.mk he
      clear he
      refine hK.out _ _ ⟨HN.out.dg.c1, HN.out.dg.dc.cell⟩ (fun hHeld => ?_)
      clear hK K
      refine norm_ (a' := ?_) ?_ ?_
      rotate_left
      ·show Act.put _ (some 123) _ = _
       simp only [puts_]
       rfl
      exact norm_ (by first | (simp only [putAll, Act.put, List.setIfInBounds_toArray, List.set_cons_zero, List.set_cons_succ]; done) | (simp only [putAll, Act.put, List.setIfInBounds_toArray, List.set_cons_zero, List.set_cons_succ]; rfl)) (hJ2_4_6_8_10_13_18_33 ge _ HN.out)
    ·skip
     intro _ w' hF
     have HG := Aside0.mk hF
     have hHeld : w'.cell? ⟨gf, 0, none⟩ = some (.int .i64 m1) ∧ w'.cell? ⟨gs, 0, none⟩ = some (.string a0) := ⟨hF.c1, hF.dc.cell⟩
     clear hF
     refine norm_ (a' := ?_) ?_ ?_
     rotate_left
     ·simp only [putAll, Act.put, List.setIfInBounds_toArray, List.set_cons_zero, List.set_cons_succ]
      rfl
     refine two_ (i := 20) (j := 33) (Ni := some 125) (Nj := some 16) #[true, true, true, true, true, true, true, true, true, true, true, true, true, true, true, true, true, true, true, true, true, true, true, true, true, true, true, true, true, true, true, true, false, false, false] #[true, true, true, true, true, true, true, true, true, true, true, true, true, true, true, true, true, true, true, true, false, true, true, true, true, true, true, true, true, true, true, true, false, true, false] rfl rfl rfl rfl (by kernel_rfl) (by decide) (by decide) (fun K hK => ?_) (fun K hK => ?_)
     ·skip
      refine goesC_ Try.func36 (by kernel_rfl) rfl #[.int .i64 56, .int .i64 4, .pointer (some ⟨gs, 0, none⟩)] (by rfl) rfl ⟨_, rfl, rfl⟩ (by simp only [List.map_toArray, List.map_cons, List.map_nil, List.append_toArray, List.cons_append, List.nil_append]; rfl) ?_
      with_reducible refine (dg_num HG.out XLE.out).mono ?_
      rintro e wz ⟨rfl, he⟩
      refine ⟨_, rfl, ?_⟩
      have HN := Aside0.mk he
      clear he
      refine hK.out _ _ ⟨HN.out.c1, HN.out.dc.cell⟩ (fun hHeld => ?_)
      clear hK K
      refine norm_ (a' := ?_) ?_ ?_
      rotate_left
      ·show Act.put _ (some 125) _ = _
       simp only [puts_]
       rfl
      refine pure_ (i := 32) (N := some 137) (v := ?_) (a' := ?_) #[true, true, true, true, true, true, true, true, true, true, true, true, true, true, true, true, true, true, true, true, true, true, true, true, true, true, true, true, true, true, true, true, true, false, false] rfl rfl (by kernel_rfl) (fun _ _ _ h => h) (Or.inl ⟨by rfl, ?_⟩) ?_ ?_
      rotate_left
      ·intro w'
       go_simp
       with_reducible rfl
      rotate_left
      ·simp only [puts_]
       rfl
      exact norm_ (by first | (simp only [putAll, Act.put, List.setIfInBounds_toArray, List.set_cons_zero, List.set_cons_succ]; done) | (simp only [putAll, Act.put, List.setIfInBounds_toArray, List.set_cons_zero, List.set_cons_succ]; rfl)) (hJ2_4_6_8_10_13_18_20 () _ HN.out)
     ·skip
      refine alloc_event (cs := #[.bool false, .int .i64 0, .int .i64 0, .int .i64 0, .int .i64 0, .int .i64 0, .int .i64 0, .int .i64 0, .int .i64 0, .int .i64 0, .bool false, .string (⟨#[]⟩ : ByteArray), .slice none 0 0, .string (⟨#[]⟩ : ByteArray), .bool false, .int .i64 0, .int .i64 0]) (t := 31) (by rfl) ?hrun ?_
      (case hrun => first | (go_simp; done) | (go_simp; rfl))
      intro ge wz hge hbox hbb
      have HN := Aside0.mk (de_zero HG.out hge hbox hbb)
      clear hge hbox hbb
      refine hK.out _ _ ⟨HN.out.dg.c1, HN.out.dg.dc.cell⟩ (fun hHeld => ?_)
      clear hK K
      refine norm_ (a' := ?_) ?_ ?_
      rotate_left
      ·show Act.put _ (some 16) _ = _
       simp only [puts_]
       rfl
      exact norm_ (by first | (simp only [putAll, Act.put, List.setIfInBounds_toArray, List.set_cons_zero, List.set_cons_succ]; done) | (simp only [putAll, Act.put, List.setIfInBounds_toArray, List.set_cons_zero, List.set_cons_succ]; rfl)) (hJ2_4_6_8_10_13_18_33 ge _ HN.out)
   ·skip
    intro ge w' hF
    have HE := Aside0.mk hF
    have hHeld : w'.cell? ⟨gf, 0, none⟩ = some (.int .i64 m1) ∧ w'.cell? ⟨gs, 0, none⟩ = some (.string a0) := ⟨hF.dg.c1, hF.dg.dc.cell⟩
    clear hF
    refine norm_ (a' := ?_) ?_ ?_
    rotate_left
    ·simp only [putAll, Act.put, List.setIfInBounds_toArray, List.set_cons_zero, List.set_cons_succ]
     rfl
    refine one_ (i := 20) (N := some 125) #[true, true, true, true, true, true, true, true, true, true, true, true, true, true, true, true, true, true, true, true, true, true, true, true, true, true, true, true, true, true, true, true, false, true, false] rfl rfl (by kernel_rfl) (by decide) (fun K hK => ?_)
    refine goesC_ Try.func36 (by kernel_rfl) rfl #[.int .i64 56, .int .i64 4, .pointer (some ⟨gs, 0, none⟩)] (by rfl) rfl ⟨_, rfl, rfl⟩ (by simp only [List.map_toArray, List.map_cons, List.map_nil, List.append_toArray, List.cons_append, List.nil_append]; rfl) ?_
    with_reducible refine (de_num HE.out XLE.out).mono ?_
    rintro e wz ⟨rfl, he⟩
    refine ⟨_, rfl, ?_⟩
    have HN := Aside0.mk he
    clear he
    refine hK.out _ _ ⟨HN.out.dg.c1, HN.out.dg.dc.cell⟩ (fun hHeld => ?_)
    clear hK K
    refine norm_ (a' := ?_) ?_ ?_
    rotate_left
    ·show Act.put _ (some 125) _ = _
     simp only [puts_]
     rfl
    refine pure_ (i := 32) (N := some 137) (v := ?_) (a' := ?_) #[true, true, true, true, true, true, true, true, true, true, true, true, true, true, true, true, true, true, true, true, true, true, true, true, true, true, true, true, true, true, true, true, true, true, false] rfl rfl (by kernel_rfl) (fun _ _ _ h => h) (Or.inl ⟨by rfl, ?_⟩) ?_ ?_
    rotate_left
    ·intro w'
     go_simp
     with_reducible rfl
    rotate_left
    ·simp only [puts_]
     rfl
    exact norm_ (by first | (simp only [putAll, Act.put, List.setIfInBounds_toArray, List.set_cons_zero, List.set_cons_succ]; done) | (simp only [putAll, Act.put, List.setIfInBounds_toArray, List.set_cons_zero, List.set_cons_succ]; rfl)) (hJ2_4_6_8_10_13_18_20_33 ge _ HN.out)
  ·skip
   intro _ w' hF
   have HG := Aside0.mk hF
   have hHeld : w'.cell? ⟨gf, 0, none⟩ = some (.int .i64 m1) ∧ w'.cell? ⟨gs, 0, none⟩ = some (.string a0) := ⟨hF.c1, hF.dc.cell⟩
   clear hF
   refine norm_ (a' := ?_) ?_ ?_
   rotate_left
   ·simp only [putAll, Act.put, List.setIfInBounds_toArray, List.set_cons_zero, List.set_cons_succ]
    rfl
   refine one_ (i := 33) (N := some 16) #[true, true, true, true, true, true, true, true, true, true, true, true, true, true, true, true, true, true, true, true, true, true, true, true, true, true, true, true, true, true, true, true, true, true, false] rfl rfl (by kernel_rfl) (by decide) (fun K hK => ?_)
   refine alloc_event (cs := #[.bool false, .int .i64 0, .int .i64 0, .int .i64 0, .int .i64 0, .int .i64 0, .int .i64 0, .int .i64 0, .int .i64 0, .int .i64 0, .bool false, .string (⟨#[]⟩ : ByteArray), .slice none 0 0, .string (⟨#[]⟩ : ByteArray), .bool false, .int .i64 0, .int .i64 0]) (t := 31) (by rfl) ?hrun ?_
   (case hrun => first | (go_simp; done) | (go_simp; rfl))
   intro ge wz hge hbox hbb
   have HN := Aside0.mk (de_zero HG.out hge hbox hbb)
   clear hge hbox hbb
   refine hK.out _ _ ⟨HN.out.dg.c1, HN.out.dg.dc.cell⟩ (fun hHeld => ?_)
   clear hK K
   refine norm_ (a' := ?_) ?_ ?_
   rotate_left
   ·show Act.put _ (some 16) _ = _
    simp only [puts_]
    rfl
   exact norm_ (by first | (simp only [putAll, Act.put, List.setIfInBounds_toArray, List.set_cons_zero, List.set_cons_succ]; done) | (simp only [putAll, Act.put, List.setIfInBounds_toArray, List.set_cons_zero, List.set_cons_succ]; rfl)) (hJ2_4_6_8_10_13_18_20_33 ge _ HN.out)
 intro ge w' hF
 have HE := Aside0.mk hF
 have hHeld : w'.cell? ⟨gf, 0, none⟩ = some (.int .i64 m1) ∧ w'.cell? ⟨gs, 0, none⟩ = some (.string a0) := ⟨hF.dg.c1, hF.dg.dc.cell⟩
 clear hF
 refine norm_ (a' := ?_) ?_ ?_
 rotate_left
 ·simp only [putAll, Act.put, List.setIfInBounds_toArray, List.set_cons_zero, List.set_cons_succ]
  rfl
 refine one_ (i := 34) (N := none) #[true, true, true, true, true, true, true, true, true, true, true, true, true, true, true, true, true, true, true, true, true, true, true, true, true, true, true, true, true, true, true, true, true, true, true] rfl rfl (by kernel_rfl) (by decide) (fun K hK => ?_)
 refine store_step (by rfl) ?_
 refine wp_store_row _ _ _ (by rfl) ge (decC ext ty mode uid gid tm links uq len 0 emb (⟨#[]⟩ : ByteArray) (.slice none 0 0) (a0.extract m1.toNat (m1 + at_).toNat) false 0 0) (by rfl) (by rfl) _ _ HE.out.box (by kernel_rfl) (by rfl) (one_C _ _ _ _ _ _ _ _ _ _ _ _ _ _ _ _ _ rfl) ?_
 have HEE := Aside0.mk (HE.out.row (decC ext ty mode uid gid tm links uq len 0 emb (⟨#[]⟩ : ByteArray) (.slice none 0 0) (a0.extract m1.toNat (m1 + at_).toNat) false 0 0))
 refine hK.out _ _ ⟨HEE.out.dg.c1, HEE.out.dg.dc.cell⟩ (fun hHeld => ?_)
 clear hK K
 refine done_ (by kernel_rfl) ?_
 generalize w'.setRow ge (decC ext ty mode uid gid tm links uq len 0 emb (⟨#[]⟩ : ByteArray) (.slice none 0 0) (a0.extract m1.toNat (m1 + at_).toNat) false 0 0) = w17 at HEE ⊢
 clear y0 y1 z1 z2 z3 z4 HE HG hHeld
 have HE := HEE
 clear HEE
 go_upto_if 138 with fail
 go_cut [15] from 139 to 156 (fun v15 wc => v15 = .int .i64 hi ∧ Aside0 (DE w wc gs gr gf ge a0 m1 m2 (decC ext ty mode uid gid tm links uq len obj emb (⟨#[]⟩ : ByteArray) (.slice none 0 0) (a0.extract m1.toNat (m1 + at_).toNat) hs sb sp)))
 case first =>
  clear HH XDT
  have hx := XEX.out
  clear XEX
  unfold dec_ext at hx
  cases ext
  ·replace hx := if_ff.symm.trans hx
   simp only [Option.some.injEq, Prod.mk.injEq] at hx
   obtain ⟨rfl, rfl, rfl, rfl, rfl⟩ := hx
   go_wp2
   go_meet
   case rel => exact ⟨rfl, HE⟩
  ·replace hx := if_tt.symm.trans hx
   obtain ⟨obj1, x_, hx⟩ := Option.bind_eq_some_iff.1 hx
   have XO := Aside0.mk x_
   clear x_
   obtain ⟨h3, x_, hx⟩ := Option.bind_eq_some_iff.1 hx
   have XH3 := Aside0.mk x_
   clear x_
   obtain ⟨sl, x_, hx⟩ := Option.bind_eq_some_iff.1 hx
   have XSL := Aside0.mk x_
   clear x_
   obtain ⟨XH30, XH31⟩ := (rdn_some XH3.out).2
   obtain ⟨XSL0, XSL1⟩ := (rdn_some XSL.out).2
   go_upto_region 19 with (first | ((with_reducible refine gate_dst (N := 140) rfl ?_); refine goesCL_ (some 140) rfl rfl #[.pointer (some ⟨gs, 0, none⟩)] Try.func36 (by kernel_rfl) rfl #[.int .i64 64, .int .i64 6, .pointer (some ⟨gs, 0, none⟩)] ⟨_, rfl, rfl⟩ (by first | rfl | (simp only [List.map_toArray, List.map_cons, List.map_nil]; rfl)) ?_; (with_reducible refine (de_num HE.out XO.out).mono ?_); rintro e w18 ⟨rfl, he⟩; refine ⟨_, rfl, ?_⟩; replace HE := Aside0.mk he; clear he; have q9 : w18.cell? ⟨ge, 9, none⟩ = some (.int .i64 0) := (HE.out.cell 9).trans rfl; have f9 := HE.out.frz 9))
   clear q9 f9
   have HE2 : Aside0 (DE w (w18.setCell ⟨ge, 9, none⟩ (.int .i64 obj1)) gs gr gf ge a0 m1 m2 (decC true ty mode uid gid tm links uq len obj1 emb (⟨#[]⟩ : ByteArray) (.slice none 0 0) (a0.extract m1.toNat (m1 + at_).toNat) false 0 0)) := ⟨HE.out.set 9 _ rfl⟩
   generalize w18.setCell ⟨ge, 9, none⟩ (.int .i64 obj1) = w19 at HE2 ⊢
   clear HE
   have HE := HE2
   clear HE2
   go_upto_region 20 with (first | ((with_reducible refine gate_dst (N := 144) rfl ?_); refine goesCL_ (some 144) rfl rfl #[.pointer (some ⟨gs, 0, none⟩)] Try.func36 (by kernel_rfl) rfl #[.int .i64 70, .int .i64 2, .pointer (some ⟨gs, 0, none⟩)] ⟨_, rfl, rfl⟩ (by first | rfl | (simp only [List.map_toArray, List.map_cons, List.map_nil]; rfl)) ?_; (with_reducible refine (de_num HE.out XH3.out).mono ?_); rintro e w20 ⟨rfl, he⟩; refine ⟨_, rfl, ?_⟩; replace HE := Aside0.mk he; clear he))
   obtain ⟨rm, hrm⟩ : ∃ n, sl % 1073741824 = n := ⟨_, rfl⟩
   rw [hrm] at hx
   go_upto_if 149 with (first | ((with_reducible refine gate_dst (N := 147) rfl ?_); refine goesCL_ (some 147) rfl rfl #[.pointer (some ⟨gs, 0, none⟩)] Try.func36 (by kernel_rfl) rfl #[.int .i64 152, .int .i64 4, .pointer (some ⟨gs, 0, none⟩)] ⟨_, rfl, rfl⟩ (by first | rfl | (simp only [List.map_toArray, List.map_cons, List.map_nil]; rfl)) ?_; (with_reducible refine (de_num HE.out XSL.out).mono ?_); rintro e w21 ⟨rfl, he⟩; refine ⟨_, rfl, ?_⟩; replace HE := Aside0.mk he; clear he))
   by_cases c5 : rm = 0
   ·rw [if_pos c5] at hx
    simp only [Option.some.injEq, Prod.mk.injEq] at hx
    obtain ⟨rfl, rfl, rfl, rfl, rfl⟩ := hx
    have d5 : (rm != 0) = false := bne_eq_false_iff_eq.mpr c5
    clear c5
    go_wp2
    go_meet
    case rel => exact ⟨rfl, HE⟩
   ·rw [if_neg c5] at hx
    have d5 : (rm != 0) = true := bne_iff_ne.mpr c5
    clear c5
    obtain ⟨sb1, x_, hx⟩ := Option.bind_eq_some_iff.1 hx
    have XSB := Aside0.mk x_
    clear x_
    obtain ⟨sp1, x_, hx⟩ := Option.bind_eq_some_iff.1 hx
    have XSP := Aside0.mk x_
    clear x_
    simp only [Option.some.injEq, Prod.mk.injEq] at hx
    obtain ⟨rfl, rfl, rfl, rfl, rfl⟩ := hx
    go_wp2_with (first | ((with_reducible refine gate_dst (N := 151) rfl ?_); refine goesCL_ (some 151) rfl rfl #[.pointer (some ⟨gs, 0, none⟩)] Try.func36 (by kernel_rfl) rfl #[.int .i64 156, .int .i64 4, .pointer (some ⟨gs, 0, none⟩)] ⟨_, rfl, rfl⟩ (by first | rfl | (simp only [List.map_toArray, List.map_cons, List.map_nil]; rfl)) ?_; (with_reducible refine (de_num HE.out XSB.out).mono ?_); rintro e w22 ⟨rfl, he⟩; refine ⟨_, rfl, ?_⟩; replace HE := Aside0.mk he; clear he) | ((with_reducible refine gate_dst (N := 153) rfl ?_); refine goesCL_ (some 153) rfl rfl #[.pointer (some ⟨gs, 0, none⟩)] Try.func36 (by kernel_rfl) rfl #[.int .i64 160, .int .i64 2, .pointer (some ⟨gs, 0, none⟩)] ⟨_, rfl, rfl⟩ (by first | rfl | (simp only [List.map_toArray, List.map_cons, List.map_nil]; rfl)) ?_; (with_reducible refine (de_num HE.out XSP.out).mono ?_); rintro e w23 ⟨rfl, he⟩; refine ⟨_, rfl, ?_⟩; replace HE := Aside0.mk he; clear he; have q14 : w23.cell? ⟨ge, 14, none⟩ = some (.bool false) := (HE.out.cell 14).trans rfl; have f14 := HE.out.frz 14; have q15 : w23.cell? ⟨ge, 15, none⟩ = some (.int .i64 0) := (HE.out.cell 15).trans rfl; have f15 := HE.out.frz 15; have q16 : w23.cell? ⟨ge, 16, none⟩ = some (.int .i64 0) := (HE.out.cell 16).trans rfl; have f16 := HE.out.frz 16))
    go_meet
    case rel => exact ⟨rfl, ⟨((HE.out.set 14 _ rfl).set 15 _ rfl).set 16 _ rfl⟩⟩
 obtain ⟨rfl, HE2⟩ := hcut
 clear HE XEX
 have HE := HE2
 clear HE2
 generalize wc = w24 at HE ⊢
 have z1 : ((0 : Int) ≤ m1 + at_) = True := eq_true (by omega)
 have z2 : (m1 + at_ ≤ m1 + at_ + tl) = True := eq_true (by omega)
 have z3 : (m1 + at_ + tl ≤ (a0.size : Int)) = True := eq_true (by have := HSZ.out; omega)
 have z4 : ((0 : Int) ≤ m1 + at_ + tl) = True := eq_true (by omega)
 have qs : w24.cell? ⟨gs, 0, none⟩ = some (.string a0) := HE.out.dg.dc.cell
 have q1 : w24.cell? ⟨gf, 0, none⟩ = some (.int .i64 m1) := HE.out.dg.c1
 have q10 : w24.cell? ⟨ge, 10, none⟩ = some (.bool emb) := (HE.out.cell 10).trans rfl
 go_upto_if 170 with fail
 clear z1 z2 z3 z4 qs q1 q10
 go_cut [18, 19] from 171 to 182 (fun v18 v19 wc => ∃ (u18 u19 slv : Value), v18 = u18 ∧ v19 = u19 ∧ Aside0 (dc = 0) ∧ Aside0 (DE w wc gs gr gf ge a0 m1 m2 (decC ext ty mode uid gid tm links uq len obj emb data slv (a0.extract m1.toNat (m1 + at_).toNat) hs sb sp)) ∧ Aside0 (Kd.R k69 69 wc w.heap.size (fun _ => True) slv l))
 case first =>
  have hd := XDT.out
  clear XDT
  unfold dec_tail at hd
  cases emb
  ·replace hd := if_ff.symm.trans hd
   obtain ⟨⟨t1, t2⟩, XD, hd⟩ := Option.bind_eq_some_iff.1 hd
   have XDD := Aside0.mk XD
   simp only [Option.some.injEq, Prod.mk.injEq] at hd
   obtain ⟨rfl, rfl, rfl⟩ := hd
   clear XD
   go_wp2_with fail
   with_reducible refine (allocation_DecodeLong.calls k (a0.extract (m1 + at_).toNat (m1 + at_ + tl).toNat) t1 t2 _ XDD.out).mono ?_
   rintro e w25 ⟨v0, rfl, ho, hb⟩
   have HR := Aside0.mk (Kd.R_lower ho HE.out.dg.dc.blw.size)
   replace HE := Aside0.mk (HE.out.below hb)
   clear ho hb XDD
   by_cases c6 : t2 = 0
   rotate_left
   ·have HEE := Aside0.mk ((if_neg c6).symm.trans HH.out)
    have d6 : (t2 != 0) = true := bne_iff_ne.mpr c6
    clear HH c6
    have h := HEE.out
    simp only [dec_err, Option.some.injEq, Prod.mk.injEq] at h
    obtain ⟨rfl, rfl, rfl, rfl, rfl, rfl, rfl, rfl, rfl, rfl, rfl, rfl, rfl, rfl, rfl, rfl, rfl, rfl⟩ := h
    clear HEE
    go_wp2_with (first | ((with_reducible refine gate_store rfl ?_); (refine wpList_store_row (by rfl) _ _ _ (by rfl) gr decZ (by rfl) (by rfl) _ decZ HE.out.dg.dc.res (by kernel_rfl) (by rfl) (one_Z) ?_)))
    refine bodyPost_ret (results_ct rfl _ _ gr 31 decZ (0, 0) _ rfl (setRow_heap _ _ _ _ _ _ HE.out.dg.dc.res) Try.underlying31 rfl (by kernel_rfl)) rfl ?_
    exact ⟨.slice none 0 0, rfl, Kd.R_nil _ _ _ _ _, below_setRow HE.out.dg.dc.blw HE.out.dg.dc.lor decZ⟩
   have d6 : (t2 != 0) = false := bne_eq_false_iff_eq.mpr c6
   have C6 := Aside0.mk c6
   clear c6 HH
   obtain ⟨A, c, rfl⟩ := Kd.R_slice HR.out
   have q12 : w25.cell? ⟨ge, 12, none⟩ = some (.slice none 0 0) := (HE.out.cell 12).trans rfl
   have f12 := HE.out.frz 12
   go_wp2
   go_meet
   case rel => exact ⟨_, _, _, rfl, rfl, C6, ⟨HE.out.set 12 _ rfl⟩, ⟨Kd.R_mono (Kd.R_far (p := ⟨ge, 12, none⟩) (Kd.R_types HR.out HE.out.box (by decide)) (fun _ hk => hk.2) _) (fun _ _ => trivial)⟩⟩
  ·replace hd := if_tt.symm.trans hd
   simp only [Option.some.injEq, Prod.mk.injEq] at hd
   obtain ⟨rfl, rfl, rfl⟩ := hd
   clear HH
   have q11 : w24.cell? ⟨ge, 11, none⟩ = some (.string (⟨#[]⟩ : ByteArray)) := (HE.out.cell 11).trans rfl
   have f11 := HE.out.frz 11
   go_wp2
   go_meet
   case rel => exact ⟨_, _, .slice none 0 0, rfl, rfl, ⟨by first | rfl | trivial⟩, ⟨HE.out.set 11 _ rfl⟩, ⟨Kd.R_nil _ _ _ _ _⟩⟩
 obtain ⟨u18, u19, slv, rfl, rfl, ⟨hdc⟩, HE2, HR⟩ := hcut
 clear HE XDT
 have HE := HE2
 clear HE2
 generalize wc = w26 at HE HR ⊢
 have h := (if_pos hdc).symm.trans HH.out
 clear HH hdc
 unfold dec_valid at h
 by_cases c7 : hi = 0
 rotate_left
 ·have HEE := Aside0.mk ((if_neg c7).symm.trans h)
  have d7 : (hi != 0) = true := bne_iff_ne.mpr c7
  clear h c7
  have h := HEE.out
  simp only [dec_err, Option.some.injEq, Prod.mk.injEq] at h
  obtain ⟨rfl, rfl, rfl, rfl, rfl, rfl, rfl, rfl, rfl, rfl, rfl, rfl, rfl, rfl, rfl, rfl, rfl, rfl⟩ := h
  clear HEE
  go_wp2_with (first | ((with_reducible refine gate_store rfl ?_); (refine wpList_store_row (by rfl) _ _ _ (by rfl) gr decZ (by rfl) (by rfl) _ decZ HE.out.dg.dc.res (by kernel_rfl) (by rfl) (one_Z) ?_)))
  refine bodyPost_ret (results_ct rfl _ _ gr 31 decZ (0, 0) _ rfl (setRow_heap _ _ _ _ _ _ HE.out.dg.dc.res) Try.underlying31 rfl (by kernel_rfl)) rfl ?_
  exact ⟨.slice none 0 0, rfl, Kd.R_nil _ _ _ _ _, below_setRow HE.out.dg.dc.blw HE.out.dg.dc.lor decZ⟩
 have d7 : (hi != 0) = false := bne_eq_false_iff_eq.mpr c7
 replace h := (if_pos c7).symm.trans h
 clear c7
 obtain ⟨vv, x_, h⟩ := Option.bind_eq_some_iff.1 h
 have XV := Aside0.mk x_
 clear x_
 have HH := Aside0.mk h
 clear h
 obtain ⟨A, c, rfl, hc, hC⟩ := Kd.R_reads HR.out
 have HC := Aside0.mk hc
 have HCC := Aside0.mk hC
 clear hc hC
 go_wp2_with (first | ((with_reducible refine gate_dst (N := 186) rfl ?_); (try (refine gate_guard (by rfl) ?_; dsimp only)); refine load_box rfl 31 _ rfl ge rfl #[.bool ext, .int .i64 ty, .int .i64 mode, .int .i64 uid, .int .i64 gid, .int .i64 tm, .int .i64 links, .int .i64 uq, .int .i64 len, .int .i64 obj, .bool emb, .string data, .slice A l.length c, .string (a0.extract m1.toNat (m1 + at_).toNat), .bool hs, .int .i64 sb, .int .i64 sp] _ HE.out.box Try.underlying31 rfl (by kernel_rfl) ?_))
 with_reducible refine (icb_Valid.calls k ext ty mode uid gid tm links uq len obj emb data A c l (a0.extract m1.toNat (m1 + at_).toNat) hs sb sp vv _ HCC.out HC.out XV.out).mono ?_
 rintro e w27 ⟨rfl, hb⟩
 replace HE := Aside0.mk (HE.out.below hb)
 replace HR := Aside0.mk (Kd.R_below HR.out hb)
 clear hb HCC HC XV
 cases vv
 ·have HEE := Aside0.mk (if_ff.symm.trans HH.out)
  clear HH
  have h := HEE.out
  simp only [dec_err, Option.some.injEq, Prod.mk.injEq] at h
  obtain ⟨rfl, rfl, rfl, rfl, rfl, rfl, rfl, rfl, rfl, rfl, rfl, rfl, rfl, rfl, rfl, rfl, rfl, rfl⟩ := h
  clear HEE
  go_wp2_with (first | ((with_reducible refine gate_store rfl ?_); (refine wpList_store_row (by rfl) _ _ _ (by rfl) gr decZ (by rfl) (by rfl) _ decZ HE.out.dg.dc.res (by kernel_rfl) (by rfl) (one_Z) ?_)))
  refine bodyPost_ret (results_ct rfl _ _ gr 31 decZ (0, 0) _ rfl (setRow_heap _ _ _ _ _ _ HE.out.dg.dc.res) Try.underlying31 rfl (by kernel_rfl)) rfl ?_
  exact ⟨.slice none 0 0, rfl, Kd.R_nil _ _ _ _ _, below_setRow HE.out.dg.dc.blw HE.out.dg.dc.lor decZ⟩
 have h := if_tt.symm.trans HH.out
 clear HH
 simp only [Option.some.injEq, Prod.mk.injEq] at h
 obtain ⟨rfl, rfl, rfl, rfl, rfl, rfl, rfl, rfl, rfl, rfl, rfl, rfl, rfl, rfl, rfl, rfl, rfl, rfl⟩ := h
 go_wp2_with (first | ((with_reducible refine gate_dst (N := 191) rfl ?_); (try (refine gate_guard (by rfl) ?_; dsimp only)); refine load_box rfl 31 _ rfl ge rfl #[.bool ext, .int .i64 ty, .int .i64 mode, .int .i64 uid, .int .i64 gid, .int .i64 tm, .int .i64 links, .int .i64 uq, .int .i64 len, .int .i64 obj, .bool emb, .string data, .slice A l.length c, .string (a0.extract m1.toNat (m1 + at_).toNat), .bool hs, .int .i64 sb, .int .i64 sp] _ HE.out.box Try.underlying31 rfl (by kernel_rfl) ?_) | ((with_reducible refine gate_store rfl ?_); refine wpList_store_row (by rfl) _ _ _ (by rfl) gr #[.bool ext, .int .i64 ty, .int .i64 mode, .int .i64 uid, .int .i64 gid, .int .i64 tm, .int .i64 links, .int .i64 uq, .int .i64 len, .int .i64 obj, .bool emb, .string data, .slice A l.length c, .string (a0.extract m1.toNat (m1 + at_).toNat), .bool hs, .int .i64 sb, .int .i64 sp] (by rfl) (by rfl) _ decZ HE.out.dg.dc.res (by kernel_rfl) (by rfl) (one_C _ _ _ _ _ _ _ _ _ _ _ _ _ _ _ _ _ rfl) ?_))
 refine bodyPost_ret (results_ct rfl _ _ gr 31 #[.bool ext, .int .i64 ty, .int .i64 mode, .int .i64 uid, .int .i64 gid, .int .i64 tm, .int .i64 links, .int .i64 uq, .int .i64 len, .int .i64 obj, .bool emb, .string data, .slice A l.length c, .string (a0.extract m1.toNat (m1 + at_).toNat), .bool hs, .int .i64 sb, .int .i64 sp] (0, 0) _ rfl (setRow_heap _ _ _ _ _ _ HE.out.dg.dc.res) Try.underlying31 rfl (by kernel_rfl)) rfl ?_
 exact ⟨.slice A l.length c, rfl, Kd.R_mono (Kd.R_step (Kd.R_types HR.out HE.out.dg.dc.res (by decide)) (fun k hk _ => setRow_other _ _ _ _ hk.2)) (fun _ _ => trivial), below_setRow HE.out.dg.dc.blw HE.out.dg.dc.lor _⟩

end Go.Proofs.Yticmghpnbjhhnab.M
