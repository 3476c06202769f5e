/- The shelf's contract of strings.Repeat at this dump (by the kit's lay-shelf.mjs and lay-plain.mjs). -/
import Derived.Shelf.Strings.Repeat
import Derived.Test.YticmghpnbjhhnabProg
namespace Go.Proofs
open Go.Shelf
def Try.lays105_ren : Go.Shelf.Ren := ⟨fun | 105 => 29 | 212 => 50 | 99 => 51 | 165 => 52 | 166 => 27 | 170 => 53 | 169 => 34 | 263 => 74 | 264 => 75 | 206 => 76 | 240 => 49 | 241 => 77 | 276 => 73 | 277 => 94 | n => n, fun | 9 => 9 | 3 => 3 | 4 => 4 | 20 => 20 | 0 => 0 | 46 => 44 | 109 => 88 | 5 => 5 | 72 => 56 | 76 => 62 | 51 => 40 | 146 => 114 | 53 => 116 | 148 => 117 | 70 => 53 | 37 => 54 | 75 => 61 | 127 => 99 | 164 => 112 | 80 => 72 | n => n, fun | n => n⟩
theorem Try.lays105 : Go.Proofs.Lays.n105 Try.prog Try.lays105_ren := {
  mixed := by kernel_rfl
  f99 := Try.func51.trans (congrArg some (by kernel_rfl))
  f105 := Try.func29.trans (congrArg some (by kernel_rfl))
  f165 := Try.func52.trans (congrArg some (by kernel_rfl))
  f166 := Try.func27.trans (congrArg some (by kernel_rfl))
  f169 := Try.func34.trans (congrArg some (by kernel_rfl))
  f170 := Try.func53.trans (congrArg some (by kernel_rfl))
  f206 := Try.func76.trans (congrArg some (by kernel_rfl))
  f212 := Try.func50.trans (congrArg some (by kernel_rfl))
  f240 := Try.func49.trans (congrArg some (by kernel_rfl))
  f241 := Try.func77.trans (congrArg some (by kernel_rfl))
  f263 := Try.func74.trans (congrArg some (by kernel_rfl))
  f264 := Try.func75.trans (congrArg some (by kernel_rfl))
  f276 := Try.func73.trans (congrArg some (by kernel_rfl))
  f277 := Try.func94.trans (congrArg some (by kernel_rfl))
  t0 := Try.underlying0
  a0 := Try.isAgg0
  z0 := Try.sizeOf0
  v0 := Try.zeroValue0
  t3 := Try.underlying3
  a3 := Try.isAgg3
  z3 := Try.sizeOf3
  v3 := Try.zeroValue3
  t4 := Try.underlying4
  a4 := Try.isAgg4
  z4 := Try.sizeOf4
  v4 := Try.zeroValue4
  t5 := Try.underlying5
  a5 := Try.isAgg5
  z5 := Try.sizeOf5
  v5 := Try.zeroValue5
  t9 := Try.underlying9
  a9 := Try.isAgg9
  z9 := Try.sizeOf9
  v9 := Try.zeroValue9
  t20 := Try.underlying20
  a20 := Try.isAgg20
  z20 := Try.sizeOf20
  v20 := Try.zeroValue20
  t37 := Try.underlying54
  a37 := Try.isAgg54
  z37 := Try.sizeOf54
  v37 := Try.zeroValue54
  t46 := Try.underlying44
  a46 := Try.isAgg44
  z46 := Try.sizeOf44
  v46 := Try.zeroValue44
  t51 := Try.underlying40
  a51 := Try.isAgg40
  z51 := Try.sizeOf40
  v51 := Try.zeroValue40
  t53 := Try.underlying116
  a53 := Try.isAgg116
  z53 := Try.sizeOf116
  v53 := Try.zeroValue116
  t70 := Try.underlying53
  a70 := Try.isAgg53
  z70 := Try.sizeOf53
  v70 := Try.zeroValue53
  t72 := Try.underlying56
  a72 := Try.isAgg56
  z72 := Try.sizeOf56
  v72 := Try.zeroValue56
  t75 := Try.underlying61
  a75 := Try.isAgg61
  z75 := Try.sizeOf61
  v75 := Try.zeroValue61
  t76 := Try.underlying62
  a76 := Try.isAgg62
  z76 := Try.sizeOf62
  v76 := Try.zeroValue62
  t109 := Try.underlying88
  a109 := Try.isAgg88
  z109 := Try.sizeOf88
  v109 := Try.zeroValue88
  t127 := Try.underlying99
  a127 := Try.isAgg99
  z127 := Try.sizeOf99
  v127 := Try.zeroValue99
  t146 := Try.underlying114
  a146 := Try.isAgg114
  z146 := Try.sizeOf114
  v146 := Try.zeroValue114
  t148 := Try.underlying117
  a148 := Try.isAgg117
  z148 := Try.sizeOf117
  v148 := Try.zeroValue117
  t164 := Try.underlying112
  a164 := Try.isAgg112
  z164 := Try.sizeOf112
  v164 := Try.zeroValue112 }
theorem Try.Builder_Extra_105 : Builder.Extra Try.prog Try.lays105_ren := {
  sizeBuilder := by kernel_rfl
  liesBuilder := by kernel_rfl
  t5 := Try.underlying5
  a5 := Try.isAgg5
  z5 := Try.sizeOf5
  v5 := Try.zeroValue5
  infoByte := by kernel_rfl
  cellsByte := by kernel_rfl
  sizeByte := by kernel_rfl
  neB5 := by decide }
open Go.RowKit Go.Lib in
/-- **strings.Repeat: count ≥ 0, the result within one allocation: count copies of s.** (LAID: no walk: one application.) -/
theorem Try.strings_Repeat (s : ByteArray) (c : Nat) (w : World) (hc : c ≤ 9223372036854775807) (hlen : s.size * c ≤ 140737488355328) :
    Calls Try.prog 29 #[.string s, .int .i64 c] w fun e w' => e = .returned (.string ⟨(Lib.repeatL s.data.toList c).toArray⟩) ∧ Below w.heap.size w w' := Any.strings_Repeat Try.lays105 Try.Builder_Extra_105 s c w hc hlen
end Go.Proofs
