/- Lean functions with the answers of the Go functions that they are named after, and the walks that tie the Go functions to them (written by the program mp.py of this session). -/
import Derived.Test.YticmghpnbjhhnabVMore
import Derived.Test.YticmghpnbjhhnabProg
import Derived.Below
import Derived.Deep.Draws
import Derived.Deep.AppendLies
import Derived.Maps.AppendAt
import Derived.OwnWalk
import Derived.Laws.BytesArg
import Derived.Laws.MakeOwn
import Derived.Laws.OwnMore
import Derived.Deep.OwnRows
import Derived.Tactics
import Derived.Lib.ConvBytes
import Derived.Laws.Slices
import Derived.WalkKit
import Derived.KernelRfl
import Derived.RowKit3
import Derived.Deep.LoopGhost
import Derived.Deep.QuietTactic
import Derived.BigQuiet
import Derived.WideLaws
import Derived.Deep.DeepCutAuto
import Derived.Deep.CutBlock
import Derived.Deep.RegionHeld3
import Derived.Laws.Rows
import Derived.Lib.AppendStr
import Derived.ArgAppend
import Derived.Laws.IdiomCopy
import Derived.OrdersHeld
import Derived.Laws.BitsLemmas
import Derived.RowKit
import Derived.Test.YticmghpnbjhhnabSh
namespace Go.Proofs.Yticmghpnbjhhnab.M
open Go.RowKit Go.Proofs.YticmghpnbjhhnabW.PrintWords Go.Proofs.YticmghpnbjhhnabW.PrintLast Go.Proofs.YticmghpnbjhhnabW.PrintMore
attribute [local go_sem] max2_int min2_int max_two min_two max_three min_three max_four min_four   -- for this text's walks alone
set_option linter.unusedVariables false
set_option linter.unusedSimpArgs false



def errW : Option Int → Value
 | none => .nilIface
 | some c => .iface 0 (.int .i64 c)
theorem errW_none : errW none = .nilIface := rfl
theorem errW_some (c : Int) : errW (some c) = .iface 0 (.int .i64 c) := rfl

theorem info3 : (Try.prog.info? 3).map (fun i => (i.zero, i.size, i.bytes)) = some (some (.int .i64 0), 1, 8) := by kernel_rfl
theorem info5 : (Try.prog.info? 5).map (fun i => (i.zero, i.size, i.bytes)) = some (some (.int .u8 0), 1, 1) := by kernel_rfl
theorem info69 : (Try.prog.info? 69).map (fun i => (i.zero, i.size, i.bytes)) = some (some (.agg #[(.int .i64 0), (.int .i64 0), (.int .i64 0), (.int .i64 0)]), 4, 32) := by kernel_rfl
set_option maxRecDepth 100000 in
theorem fieldA50_0 (w' : World) (x0 x1 : Value) : (Instr.field 50 (.agg #[x0, x1]) 0).run Try.prog w' = .ok x0 w' := rfl
set_option maxRecDepth 100000 in
theorem fieldA102_0 (w' : World) (x0 x1 x2 x3 : Value) : (Instr.field 102 (.agg #[x0, x1, x2, x3]) 0).run Try.prog w' = .ok x0 w' := rfl
-- the values' own types
/-! #### struct type 29 -/
structure S29 where
 f0 : Int
 f1 : Int
def z29 : S29 := ⟨(0 : Int), (0 : Int)⟩
def k29 : Kd S29 := Kd.iso (Kd.pair (Kd.int .i64) (Kd.int .i64)) (fun x : S29 => (x.f0, x.f1))
theorem k29_open {w : World} {x : S29} {cs : List Value} (h : k29.K w x cs) : cs = [.int .i64 x.f0, .int .i64 x.f1] := by
 obtain ⟨_, _, rfl, rfl, rfl⟩ := h
 exact rfl
theorem k29_openM {w : World} {base : Nat} {ok : Nat → Prop} {x : S29} {cs : List Value} (h : k29.M w base ok x cs) : cs = [.int .i64 x.f0, .int .i64 x.f1] := by
 obtain ⟨_, _, rfl, rfl, rfl⟩ := h
 exact rfl
theorem k29_mk (w : World) (x : S29)  : k29.K w x [.int .i64 x.f0, .int .i64 x.f1] := ⟨[.int .i64 x.f0], [.int .i64 x.f1], rfl, rfl, rfl⟩
theorem k29_mkM (w : World) (base : Nat) (ok : Nat → Prop) (x : S29)  : k29.M w base ok x [.int .i64 x.f0, .int .i64 x.f1] := ⟨[.int .i64 x.f0], [.int .i64 x.f1], rfl, rfl, rfl⟩
def rd_T29 (xs : List S29) (i : Int) : S29 := xs.getD i.toNat z29
theorem at_T29 {w : World} {A : Option Addr} {n : Nat} {xs : List S29} (h : Kd.C k29 w A n xs) (i : Int) (h0 : 0 ≤ i) (h1 : i < n) : ∃ ad , A = some ad ∧ w.cell? (ad.add (i.toNat * 2)) = some (.int .i64 (rd_T29 xs i).f0) ∧ w.cell? ⟨(ad.add (i.toNat * 2)).block, (ad.add (i.toNat * 2)).off + 1, none⟩ = some (.int .i64 (rd_T29 xs i).f1) := by
 obtain ⟨ad, c, e, _, hK, hc0⟩ := Kd.C_get h z29 i h0 h1
 have hc : ∀ j u, c[j]? = some u → w.cell? (ad.add (i.toNat * 2 + j)) = some u := hc0
 obtain rfl := k29_open hK
 exact ⟨ad, e, hc 0 _ rfl, by rw [← add_field _ _ 1 (by omega)]; exact hc 1 _ rfl⟩

/-! #### struct type 69 -/
structure S69 where
 f0 : Int
 f1 : Int
 f2 : S29
def z69 : S69 := ⟨(0 : Int), (0 : Int), z29⟩
def k69 : Kd S69 := Kd.iso (Kd.pair (Kd.int .i64) (Kd.pair (Kd.int .i64) k29)) (fun x : S69 => (x.f0, x.f1, x.f2))
theorem k69_open {w : World} {x : S69} {cs : List Value} (h : k69.K w x cs) : cs = [.int .i64 x.f0, .int .i64 x.f1, .int .i64 x.f2.f0, .int .i64 x.f2.f1] := by
 obtain ⟨_, _, rfl, rfl, ⟨_, _, rfl, rfl, s2⟩⟩ := h
 obtain rfl := k29_open s2
 exact rfl
theorem k69_openM {w : World} {base : Nat} {ok : Nat → Prop} {x : S69} {cs : List Value} (h : k69.M w base ok x cs) : cs = [.int .i64 x.f0, .int .i64 x.f1, .int .i64 x.f2.f0, .int .i64 x.f2.f1] := by
 obtain ⟨_, _, rfl, rfl, ⟨_, _, rfl, rfl, s2⟩⟩ := h
 obtain rfl := k29_openM s2
 exact rfl
theorem k69_mk (w : World) (x : S69)  : k69.K w x [.int .i64 x.f0, .int .i64 x.f1, .int .i64 x.f2.f0, .int .i64 x.f2.f1] := ⟨[.int .i64 x.f0], [.int .i64 x.f1, .int .i64 x.f2.f0, .int .i64 x.f2.f1], rfl, rfl, ⟨[.int .i64 x.f1], [.int .i64 x.f2.f0, .int .i64 x.f2.f1], rfl, rfl, (k29_mk w x.f2 )⟩⟩
theorem k69_mkM (w : World) (base : Nat) (ok : Nat → Prop) (x : S69)  : k69.M w base ok x [.int .i64 x.f0, .int .i64 x.f1, .int .i64 x.f2.f0, .int .i64 x.f2.f1] := ⟨[.int .i64 x.f0], [.int .i64 x.f1, .int .i64 x.f2.f0, .int .i64 x.f2.f1], rfl, rfl, ⟨[.int .i64 x.f1], [.int .i64 x.f2.f0, .int .i64 x.f2.f1], rfl, rfl, (k29_mkM w base ok x.f2 )⟩⟩
def rd_T69 (xs : List S69) (i : Int) : S69 := xs.getD i.toNat z69
theorem at_T69 {w : World} {A : Option Addr} {n : Nat} {xs : List S69} (h : Kd.C k69 w A n xs) (i : Int) (h0 : 0 ≤ i) (h1 : i < n) : ∃ ad , A = some ad ∧ w.cell? (ad.add (i.toNat * 4)) = some (.int .i64 (rd_T69 xs i).f0) ∧ w.cell? ⟨(ad.add (i.toNat * 4)).block, (ad.add (i.toNat * 4)).off + 1, none⟩ = some (.int .i64 (rd_T69 xs i).f1) ∧ w.cell? ⟨(ad.add (i.toNat * 4)).block, (ad.add (i.toNat * 4)).off + 2, none⟩ = some (.int .i64 (rd_T69 xs i).f2.f0) ∧ w.cell? ⟨(ad.add (i.toNat * 4)).block, (ad.add (i.toNat * 4)).off + 3, none⟩ = some (.int .i64 (rd_T69 xs i).f2.f1) := by
 obtain ⟨ad, c, e, _, hK, hc0⟩ := Kd.C_get h z69 i h0 h1
 have hc : ∀ j u, c[j]? = some u → w.cell? (ad.add (i.toNat * 4 + j)) = some u := hc0
 obtain rfl := k69_open hK
 exact ⟨ad, e, hc 0 _ rfl, by rw [← add_field _ _ 1 (by omega)]; exact hc 1 _ rfl, by rw [← add_field _ _ 2 (by omega)]; exact hc 2 _ rfl, by rw [← add_field _ _ 3 (by omega)]; exact hc 3 _ rfl⟩

def rd_L6 (xs : List (List S69)) (i : Int) : (List S69) := xs.getD i.toNat ([] : List S69)
theorem at_L6 {w : World} {A : Option Addr} {n : Nat} {xs : List (List S69)} (h : Kd.C (Kd.slice 69 k69) w A n xs) (i : Int) (h0 : 0 ≤ i) (h1 : i < n) : ∃ ad A0 c0, A = some ad ∧ w.cell? (ad.add i.toNat) = some (.slice A0 (rd_L6 xs i).length c0) ∧ (rd_L6 xs i).length ≤ c0 ∧ k69.C w A0 (rd_L6 xs i).length (rd_L6 xs i) := by
 obtain ⟨ad, c, e, _, hK, hc0⟩ := Kd.C_get h ([] : List S69) i h0 h1
 have hc : ∀ j u, c[j]? = some u → w.cell? (ad.add (i.toNat * 1 + j)) = some u := hc0
 obtain ⟨A0, c0, rfl, l0, g0⟩ := hK
 exact ⟨ad, A0, c0, e, by have hq := hc 0 _ rfl; rwa [Nat.mul_one, Nat.add_zero] at hq, l0, g0⟩

/-! #### struct type 31 -/
structure S31 where
 f0 : Bool
 f1 : Int
 f2 : Int
 f3 : Int
 f4 : Int
 f5 : Int
 f6 : Int
 f7 : Int
 f8 : Int
 f9 : Int
 f10 : Bool
 f11 : ByteArray
 f12 : (List S69)
 f13 : ByteArray
 f14 : Bool
 f15 : S29
def z31 : S31 := ⟨false, (0 : Int), (0 : Int), (0 : Int), (0 : Int), (0 : Int), (0 : Int), (0 : Int), (0 : Int), (0 : Int), false, (⟨#[]⟩ : ByteArray), ([] : List S69), (⟨#[]⟩ : ByteArray), false, z29⟩
def k31 : Kd S31 := Kd.iso (Kd.pair Kd.bool (Kd.pair (Kd.int .i64) (Kd.pair (Kd.int .i64) (Kd.pair (Kd.int .i64) (Kd.pair (Kd.int .i64) (Kd.pair (Kd.int .i64) (Kd.pair (Kd.int .i64) (Kd.pair (Kd.int .i64) (Kd.pair (Kd.int .i64) (Kd.pair (Kd.int .i64) (Kd.pair Kd.bool (Kd.pair Kd.string (Kd.pair (Kd.slice 69 k69) (Kd.pair Kd.string (Kd.pair Kd.bool k29))))))))))))))) (fun x : S31 => (x.f0, x.f1, x.f2, x.f3, x.f4, x.f5, x.f6, x.f7, x.f8, x.f9, x.f10, x.f11, x.f12, x.f13, x.f14, x.f15))
theorem k31_open {w : World} {x : S31} {cs : List Value} (h : k31.K w x cs) : ∃ A12 c12, cs = [.bool x.f0, .int .i64 x.f1, .int .i64 x.f2, .int .i64 x.f3, .int .i64 x.f4, .int .i64 x.f5, .int .i64 x.f6, .int .i64 x.f7, .int .i64 x.f8, .int .i64 x.f9, .bool x.f10, .string x.f11, .slice A12 x.f12.length c12, .string x.f13, .bool x.f14, .int .i64 x.f15.f0, .int .i64 x.f15.f1] ∧ x.f12.length ≤ c12 ∧ k69.C w A12 x.f12.length x.f12 := by
 obtain ⟨_, _, rfl, rfl, ⟨_, _, rfl, rfl, ⟨_, _, rfl, rfl, ⟨_, _, rfl, rfl, ⟨_, _, rfl, rfl, ⟨_, _, rfl, rfl, ⟨_, _, rfl, rfl, ⟨_, _, rfl, rfl, ⟨_, _, rfl, rfl, ⟨_, _, rfl, rfl, ⟨_, _, rfl, rfl, ⟨_, _, rfl, rfl, ⟨_, _, rfl, ⟨A12, c12, rfl, l12, g12⟩, ⟨_, _, rfl, rfl, ⟨_, _, rfl, rfl, s15⟩⟩⟩⟩⟩⟩⟩⟩⟩⟩⟩⟩⟩⟩⟩ := h
 obtain rfl := k29_open s15
 exact ⟨A12, c12, rfl, l12, g12⟩
theorem k31_openM {w : World} {base : Nat} {ok : Nat → Prop} {x : S31} {cs : List Value} (h : k31.M w base ok x cs) : ∃ v12, cs = [.bool x.f0, .int .i64 x.f1, .int .i64 x.f2, .int .i64 x.f3, .int .i64 x.f4, .int .i64 x.f5, .int .i64 x.f6, .int .i64 x.f7, .int .i64 x.f8, .int .i64 x.f9, .bool x.f10, .string x.f11, v12, .string x.f13, .bool x.f14, .int .i64 x.f15.f0, .int .i64 x.f15.f1] ∧ k69.R 69 w base ok v12 x.f12 := by
 obtain ⟨_, _, rfl, rfl, ⟨_, _, rfl, rfl, ⟨_, _, rfl, rfl, ⟨_, _, rfl, rfl, ⟨_, _, rfl, rfl, ⟨_, _, rfl, rfl, ⟨_, _, rfl, rfl, ⟨_, _, rfl, rfl, ⟨_, _, rfl, rfl, ⟨_, _, rfl, rfl, ⟨_, _, rfl, rfl, ⟨_, _, rfl, rfl, ⟨_, _, rfl, ⟨v12, rfl, g12⟩, ⟨_, _, rfl, rfl, ⟨_, _, rfl, rfl, s15⟩⟩⟩⟩⟩⟩⟩⟩⟩⟩⟩⟩⟩⟩⟩ := h
 obtain rfl := k29_openM s15
 exact ⟨v12, rfl, g12⟩
theorem k31_mk (w : World) (x : S31) {A12 : Option Addr} {c12 : Nat} (l12 : x.f12.length ≤ c12) (g12 : k69.C w A12 x.f12.length x.f12) : k31.K w x [.bool x.f0, .int .i64 x.f1, .int .i64 x.f2, .int .i64 x.f3, .int .i64 x.f4, .int .i64 x.f5, .int .i64 x.f6, .int .i64 x.f7, .int .i64 x.f8, .int .i64 x.f9, .bool x.f10, .string x.f11, .slice A12 x.f12.length c12, .string x.f13, .bool x.f14, .int .i64 x.f15.f0, .int .i64 x.f15.f1] := ⟨[.bool x.f0], [.int .i64 x.f1, .int .i64 x.f2, .int .i64 x.f3, .int .i64 x.f4, .int .i64 x.f5, .int .i64 x.f6, .int .i64 x.f7, .int .i64 x.f8, .int .i64 x.f9, .bool x.f10, .string x.f11, .slice A12 x.f12.length c12, .string x.f13, .bool x.f14, .int .i64 x.f15.f0, .int .i64 x.f15.f1], rfl, rfl, ⟨[.int .i64 x.f1], [.int .i64 x.f2, .int .i64 x.f3, .int .i64 x.f4, .int .i64 x.f5, .int .i64 x.f6, .int .i64 x.f7, .int .i64 x.f8, .int .i64 x.f9, .bool x.f10, .string x.f11, .slice A12 x.f12.length c12, .string x.f13, .bool x.f14, .int .i64 x.f15.f0, .int .i64 x.f15.f1], rfl, rfl, ⟨[.int .i64 x.f2], [.int .i64 x.f3, .int .i64 x.f4, .int .i64 x.f5, .int .i64 x.f6, .int .i64 x.f7, .int .i64 x.f8, .int .i64 x.f9, .bool x.f10, .string x.f11, .slice A12 x.f12.length c12, .string x.f13, .bool x.f14, .int .i64 x.f15.f0, .int .i64 x.f15.f1], rfl, rfl, ⟨[.int .i64 x.f3], [.int .i64 x.f4, .int .i64 x.f5, .int .i64 x.f6, .int .i64 x.f7, .int .i64 x.f8, .int .i64 x.f9, .bool x.f10, .string x.f11, .slice A12 x.f12.length c12, .string x.f13, .bool x.f14, .int .i64 x.f15.f0, .int .i64 x.f15.f1], rfl, rfl, ⟨[.int .i64 x.f4], [.int .i64 x.f5, .int .i64 x.f6, .int .i64 x.f7, .int .i64 x.f8, .int .i64 x.f9, .bool x.f10, .string x.f11, .slice A12 x.f12.length c12, .string x.f13, .bool x.f14, .int .i64 x.f15.f0, .int .i64 x.f15.f1], rfl, rfl, ⟨[.int .i64 x.f5], [.int .i64 x.f6, .int .i64 x.f7, .int .i64 x.f8, .int .i64 x.f9, .bool x.f10, .string x.f11, .slice A12 x.f12.length c12, .string x.f13, .bool x.f14, .int .i64 x.f15.f0, .int .i64 x.f15.f1], rfl, rfl, ⟨[.int .i64 x.f6], [.int .i64 x.f7, .int .i64 x.f8, .int .i64 x.f9, .bool x.f10, .string x.f11, .slice A12 x.f12.length c12, .string x.f13, .bool x.f14, .int .i64 x.f15.f0, .int .i64 x.f15.f1], rfl, rfl, ⟨[.int .i64 x.f7], [.int .i64 x.f8, .int .i64 x.f9, .bool x.f10, .string x.f11, .slice A12 x.f12.length c12, .string x.f13, .bool x.f14, .int .i64 x.f15.f0, .int .i64 x.f15.f1], rfl, rfl, ⟨[.int .i64 x.f8], [.int .i64 x.f9, .bool x.f10, .string x.f11, .slice A12 x.f12.length c12, .string x.f13, .bool x.f14, .int .i64 x.f15.f0, .int .i64 x.f15.f1], rfl, rfl, ⟨[.int .i64 x.f9], [.bool x.f10, .string x.f11, .slice A12 x.f12.length c12, .string x.f13, .bool x.f14, .int .i64 x.f15.f0, .int .i64 x.f15.f1], rfl, rfl, ⟨[.bool x.f10], [.string x.f11, .slice A12 x.f12.length c12, .string x.f13, .bool x.f14, .int .i64 x.f15.f0, .int .i64 x.f15.f1], rfl, rfl, ⟨[.string x.f11], [.slice A12 x.f12.length c12, .string x.f13, .bool x.f14, .int .i64 x.f15.f0, .int .i64 x.f15.f1], rfl, rfl, ⟨[.slice A12 x.f12.length c12], [.string x.f13, .bool x.f14, .int .i64 x.f15.f0, .int .i64 x.f15.f1], rfl, ⟨A12, c12, rfl, l12, g12⟩, ⟨[.string x.f13], [.bool x.f14, .int .i64 x.f15.f0, .int .i64 x.f15.f1], rfl, rfl, ⟨[.bool x.f14], [.int .i64 x.f15.f0, .int .i64 x.f15.f1], rfl, rfl, (k29_mk w x.f15 )⟩⟩⟩⟩⟩⟩⟩⟩⟩⟩⟩⟩⟩⟩⟩
theorem k31_mkM (w : World) (base : Nat) (ok : Nat → Prop) (x : S31) {v12 : Value} (g12 : k69.R 69 w base ok v12 x.f12) : k31.M w base ok x [.bool x.f0, .int .i64 x.f1, .int .i64 x.f2, .int .i64 x.f3, .int .i64 x.f4, .int .i64 x.f5, .int .i64 x.f6, .int .i64 x.f7, .int .i64 x.f8, .int .i64 x.f9, .bool x.f10, .string x.f11, v12, .string x.f13, .bool x.f14, .int .i64 x.f15.f0, .int .i64 x.f15.f1] := ⟨[.bool x.f0], [.int .i64 x.f1, .int .i64 x.f2, .int .i64 x.f3, .int .i64 x.f4, .int .i64 x.f5, .int .i64 x.f6, .int .i64 x.f7, .int .i64 x.f8, .int .i64 x.f9, .bool x.f10, .string x.f11, v12, .string x.f13, .bool x.f14, .int .i64 x.f15.f0, .int .i64 x.f15.f1], rfl, rfl, ⟨[.int .i64 x.f1], [.int .i64 x.f2, .int .i64 x.f3, .int .i64 x.f4, .int .i64 x.f5, .int .i64 x.f6, .int .i64 x.f7, .int .i64 x.f8, .int .i64 x.f9, .bool x.f10, .string x.f11, v12, .string x.f13, .bool x.f14, .int .i64 x.f15.f0, .int .i64 x.f15.f1], rfl, rfl, ⟨[.int .i64 x.f2], [.int .i64 x.f3, .int .i64 x.f4, .int .i64 x.f5, .int .i64 x.f6, .int .i64 x.f7, .int .i64 x.f8, .int .i64 x.f9, .bool x.f10, .string x.f11, v12, .string x.f13, .bool x.f14, .int .i64 x.f15.f0, .int .i64 x.f15.f1], rfl, rfl, ⟨[.int .i64 x.f3], [.int .i64 x.f4, .int .i64 x.f5, .int .i64 x.f6, .int .i64 x.f7, .int .i64 x.f8, .int .i64 x.f9, .bool x.f10, .string x.f11, v12, .string x.f13, .bool x.f14, .int .i64 x.f15.f0, .int .i64 x.f15.f1], rfl, rfl, ⟨[.int .i64 x.f4], [.int .i64 x.f5, .int .i64 x.f6, .int .i64 x.f7, .int .i64 x.f8, .int .i64 x.f9, .bool x.f10, .string x.f11, v12, .string x.f13, .bool x.f14, .int .i64 x.f15.f0, .int .i64 x.f15.f1], rfl, rfl, ⟨[.int .i64 x.f5], [.int .i64 x.f6, .int .i64 x.f7, .int .i64 x.f8, .int .i64 x.f9, .bool x.f10, .string x.f11, v12, .string x.f13, .bool x.f14, .int .i64 x.f15.f0, .int .i64 x.f15.f1], rfl, rfl, ⟨[.int .i64 x.f6], [.int .i64 x.f7, .int .i64 x.f8, .int .i64 x.f9, .bool x.f10, .string x.f11, v12, .string x.f13, .bool x.f14, .int .i64 x.f15.f0, .int .i64 x.f15.f1], rfl, rfl, ⟨[.int .i64 x.f7], [.int .i64 x.f8, .int .i64 x.f9, .bool x.f10, .string x.f11, v12, .string x.f13, .bool x.f14, .int .i64 x.f15.f0, .int .i64 x.f15.f1], rfl, rfl, ⟨[.int .i64 x.f8], [.int .i64 x.f9, .bool x.f10, .string x.f11, v12, .string x.f13, .bool x.f14, .int .i64 x.f15.f0, .int .i64 x.f15.f1], rfl, rfl, ⟨[.int .i64 x.f9], [.bool x.f10, .string x.f11, v12, .string x.f13, .bool x.f14, .int .i64 x.f15.f0, .int .i64 x.f15.f1], rfl, rfl, ⟨[.bool x.f10], [.string x.f11, v12, .string x.f13, .bool x.f14, .int .i64 x.f15.f0, .int .i64 x.f15.f1], rfl, rfl, ⟨[.string x.f11], [v12, .string x.f13, .bool x.f14, .int .i64 x.f15.f0, .int .i64 x.f15.f1], rfl, rfl, ⟨[v12], [.string x.f13, .bool x.f14, .int .i64 x.f15.f0, .int .i64 x.f15.f1], rfl, ⟨v12, rfl, g12⟩, ⟨[.string x.f13], [.bool x.f14, .int .i64 x.f15.f0, .int .i64 x.f15.f1], rfl, rfl, ⟨[.bool x.f14], [.int .i64 x.f15.f0, .int .i64 x.f15.f1], rfl, rfl, (k29_mkM w base ok x.f15 )⟩⟩⟩⟩⟩⟩⟩⟩⟩⟩⟩⟩⟩⟩⟩
def rd_T31 (xs : List S31) (i : Int) : S31 := xs.getD i.toNat z31
theorem at_T31 {w : World} {A : Option Addr} {n : Nat} {xs : List S31} (h : Kd.C k31 w A n xs) (i : Int) (h0 : 0 ≤ i) (h1 : i < n) : ∃ ad A12 c12, A = some ad ∧ w.cell? (ad.add (i.toNat * 17)) = some (.bool (rd_T31 xs i).f0) ∧ w.cell? ⟨(ad.add (i.toNat * 17)).block, (ad.add (i.toNat * 17)).off + 1, none⟩ = some (.int .i64 (rd_T31 xs i).f1) ∧ w.cell? ⟨(ad.add (i.toNat * 17)).block, (ad.add (i.toNat * 17)).off + 2, none⟩ = some (.int .i64 (rd_T31 xs i).f2) ∧ w.cell? ⟨(ad.add (i.toNat * 17)).block, (ad.add (i.toNat * 17)).off + 3, none⟩ = some (.int .i64 (rd_T31 xs i).f3) ∧ w.cell? ⟨(ad.add (i.toNat * 17)).block, (ad.add (i.toNat * 17)).off + 4, none⟩ = some (.int .i64 (rd_T31 xs i).f4) ∧ w.cell? ⟨(ad.add (i.toNat * 17)).block, (ad.add (i.toNat * 17)).off + 5, none⟩ = some (.int .i64 (rd_T31 xs i).f5) ∧ w.cell? ⟨(ad.add (i.toNat * 17)).block, (ad.add (i.toNat * 17)).off + 6, none⟩ = some (.int .i64 (rd_T31 xs i).f6) ∧ w.cell? ⟨(ad.add (i.toNat * 17)).block, (ad.add (i.toNat * 17)).off + 7, none⟩ = some (.int .i64 (rd_T31 xs i).f7) ∧ w.cell? ⟨(ad.add (i.toNat * 17)).block, (ad.add (i.toNat * 17)).off + 8, none⟩ = some (.int .i64 (rd_T31 xs i).f8) ∧ w.cell? ⟨(ad.add (i.toNat * 17)).block, (ad.add (i.toNat * 17)).off + 9, none⟩ = some (.int .i64 (rd_T31 xs i).f9) ∧ w.cell? ⟨(ad.add (i.toNat * 17)).block, (ad.add (i.toNat * 17)).off + 10, none⟩ = some (.bool (rd_T31 xs i).f10) ∧ w.cell? ⟨(ad.add (i.toNat * 17)).block, (ad.add (i.toNat * 17)).off + 11, none⟩ = some (.string (rd_T31 xs i).f11) ∧ w.cell? ⟨(ad.add (i.toNat * 17)).block, (ad.add (i.toNat * 17)).off + 12, none⟩ = some (.slice A12 (rd_T31 xs i).f12.length c12) ∧ w.cell? ⟨(ad.add (i.toNat * 17)).block, (ad.add (i.toNat * 17)).off + 13, none⟩ = some (.string (rd_T31 xs i).f13) ∧ w.cell? ⟨(ad.add (i.toNat * 17)).block, (ad.add (i.toNat * 17)).off + 14, none⟩ = some (.bool (rd_T31 xs i).f14) ∧ w.cell? ⟨(ad.add (i.toNat * 17)).block, (ad.add (i.toNat * 17)).off + 15, none⟩ = some (.int .i64 (rd_T31 xs i).f15.f0) ∧ w.cell? ⟨(ad.add (i.toNat * 17)).block, (ad.add (i.toNat * 17)).off + 16, none⟩ = some (.int .i64 (rd_T31 xs i).f15.f1) ∧ (rd_T31 xs i).f12.length ≤ c12 ∧ k69.C w A12 (rd_T31 xs i).f12.length (rd_T31 xs i).f12 := by
 obtain ⟨ad, c, e, _, hK, hc0⟩ := Kd.C_get h z31 i h0 h1
 have hc : ∀ j u, c[j]? = some u → w.cell? (ad.add (i.toNat * 17 + j)) = some u := hc0
 obtain ⟨A12, c12, rfl, l12, g12⟩ := k31_open hK
 exact ⟨ad, A12, c12, e, hc 0 _ rfl, by rw [← add_field _ _ 1 (by omega)]; exact hc 1 _ rfl, by rw [← add_field _ _ 2 (by omega)]; exact hc 2 _ rfl, by rw [← add_field _ _ 3 (by omega)]; exact hc 3 _ rfl, by rw [← add_field _ _ 4 (by omega)]; exact hc 4 _ rfl, by rw [← add_field _ _ 5 (by omega)]; exact hc 5 _ rfl, by rw [← add_field _ _ 6 (by omega)]; exact hc 6 _ rfl, by rw [← add_field _ _ 7 (by omega)]; exact hc 7 _ rfl, by rw [← add_field _ _ 8 (by omega)]; exact hc 8 _ rfl, by rw [← add_field _ _ 9 (by omega)]; exact hc 9 _ rfl, by rw [← add_field _ _ 10 (by omega)]; exact hc 10 _ rfl, by rw [← add_field _ _ 11 (by omega)]; exact hc 11 _ rfl, by rw [← add_field _ _ 12 (by omega)]; exact hc 12 _ rfl, by rw [← add_field _ _ 13 (by omega)]; exact hc 13 _ rfl, by rw [← add_field _ _ 14 (by omega)]; exact hc 14 _ rfl, by rw [← add_field _ _ 15 (by omega)]; exact hc 15 _ rfl, by rw [← add_field _ _ 16 (by omega)]; exact hc 16 _ rfl, l12, g12⟩

end Go.Proofs.Yticmghpnbjhhnab.M
