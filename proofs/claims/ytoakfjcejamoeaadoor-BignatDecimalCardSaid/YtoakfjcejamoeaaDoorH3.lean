/- Contracts of Go's library at this program, laid out of the kit's shelf by its tool (the plain mode). -/
import Derived.Shelf.Strings.Repeat
import Derived.Shelf.LaysM
import Derived.Ground.Names2Prog
import Derived.Test.YtoakfjcejamoeaaDoorProg
namespace Go.Proofs
open Go.Shelf
def Tryd.lays105_ren : Go.Shelf.Ren := ⟨fun | 105 => 107 | 212 => 117 | 99 => 118 | 165 => 119 | 166 => 120 | 170 => 121 | 169 => 122 | 263 => 134 | 264 => 135 | 206 => 136 | 240 => 137 | 241 => 138 | 276 => 147 | 277 => 148 | n => n, fun | 9 => 9 | 3 => 3 | 4 => 4 | 20 => 20 | 0 => 0 | 46 => 69 | 109 => 114 | 5 => 5 | 72 => 119 | 76 => 121 | 51 => 63 | 146 => 73 | 53 => 34 | 148 => 140 | 70 => 117 | 37 => 109 | 75 => 103 | 127 => 142 | 164 => 152 | 80 => 124 | n => n, fun | n => n⟩
theorem Tryd.lays105 : Go.Proofs.Lays.n105 Tryd.prog Tryd.lays105_ren := {
  mixed := by kernel_rfl
  f99 := Tryd.func118.trans (congrArg some (by kernel_rfl))
  f105 := Tryd.func107.trans (congrArg some (by kernel_rfl))
  f165 := Tryd.func119.trans (congrArg some (by kernel_rfl))
  f166 := Tryd.func120.trans (congrArg some (by kernel_rfl))
  f169 := Tryd.func122.trans (congrArg some (by kernel_rfl))
  f170 := Tryd.func121.trans (congrArg some (by kernel_rfl))
  f206 := Tryd.func136.trans (congrArg some (by kernel_rfl))
  f212 := Tryd.func117.trans (congrArg some (by kernel_rfl))
  f240 := Tryd.func137.trans (congrArg some (by kernel_rfl))
  f241 := Tryd.func138.trans (congrArg some (by kernel_rfl))
  f263 := Tryd.func134.trans (congrArg some (by kernel_rfl))
  f264 := Tryd.func135.trans (congrArg some (by kernel_rfl))
  f276 := Tryd.func147.trans (congrArg some (by kernel_rfl))
  f277 := Tryd.func148.trans (congrArg some (by kernel_rfl))
  t0 := Tryd.underlying0
  a0 := Tryd.isAgg0
  z0 := Tryd.sizeOf0
  v0 := Tryd.zeroValue0
  t3 := Tryd.underlying3
  a3 := Tryd.isAgg3
  z3 := Tryd.sizeOf3
  v3 := Tryd.zeroValue3
  t4 := Tryd.underlying4
  a4 := Tryd.isAgg4
  z4 := Tryd.sizeOf4
  v4 := Tryd.zeroValue4
  t5 := Tryd.underlying5
  a5 := Tryd.isAgg5
  z5 := Tryd.sizeOf5
  v5 := Tryd.zeroValue5
  t9 := Tryd.underlying9
  a9 := Tryd.isAgg9
  z9 := Tryd.sizeOf9
  v9 := Tryd.zeroValue9
  t20 := Tryd.underlying20
  a20 := Tryd.isAgg20
  z20 := Tryd.sizeOf20
  v20 := Tryd.zeroValue20
  t37 := Tryd.underlying109
  a37 := Tryd.isAgg109
  z37 := Tryd.sizeOf109
  v37 := Tryd.zeroValue109
  t46 := Tryd.underlying69
  a46 := Tryd.isAgg69
  z46 := Tryd.sizeOf69
  v46 := Tryd.zeroValue69
  t51 := Tryd.underlying63
  a51 := Tryd.isAgg63
  z51 := Tryd.sizeOf63
  v51 := Tryd.zeroValue63
  t53 := Tryd.underlying34
  a53 := Tryd.isAgg34
  z53 := Tryd.sizeOf34
  v53 := Tryd.zeroValue34
  t70 := Tryd.underlying117
  a70 := Tryd.isAgg117
  z70 := Tryd.sizeOf117
  v70 := Tryd.zeroValue117
  t72 := Tryd.underlying119
  a72 := Tryd.isAgg119
  z72 := Tryd.sizeOf119
  v72 := Tryd.zeroValue119
  t75 := Tryd.underlying103
  a75 := Tryd.isAgg103
  z75 := Tryd.sizeOf103
  v75 := Tryd.zeroValue103
  t76 := Tryd.underlying121
  a76 := Tryd.isAgg121
  z76 := Tryd.sizeOf121
  v76 := Tryd.zeroValue121
  t109 := Tryd.underlying114
  a109 := Tryd.isAgg114
  z109 := Tryd.sizeOf114
  v109 := Tryd.zeroValue114
  t127 := Tryd.underlying142
  a127 := Tryd.isAgg142
  z127 := Tryd.sizeOf142
  v127 := Tryd.zeroValue142
  t146 := Tryd.underlying73
  a146 := Tryd.isAgg73
  z146 := Tryd.sizeOf73
  v146 := Tryd.zeroValue73
  t148 := Tryd.underlying140
  a148 := Tryd.isAgg140
  z148 := Tryd.sizeOf140
  v148 := Tryd.zeroValue140
  t164 := Tryd.underlying152
  a164 := Tryd.isAgg152
  z164 := Tryd.sizeOf152
  v164 := Tryd.zeroValue152 }
theorem Tryd.Builder_Extra_105 : Builder.Extra Tryd.prog Tryd.lays105_ren := {
  sizeBuilder := by kernel_rfl
  liesBuilder := by kernel_rfl
  t5 := Tryd.underlying5
  a5 := Tryd.isAgg5
  z5 := Tryd.sizeOf5
  v5 := Tryd.zeroValue5
  infoByte := by kernel_rfl
  cellsByte := by kernel_rfl
  sizeByte := by kernel_rfl
  neB5 := by decide }
open Go.RowKit Go.Lib in
/-- **strings.Repeat: count ≥ 0, the result within one allocation: count copies of s.** (LAID: no walk: one application.) -/
theorem Tryd.strings_Repeat (s : ByteArray) (c : Nat) (w : World) (hc : c ≤ 9223372036854775807) (hlen : s.size * c ≤ 140737488355328) :
    Calls Tryd.prog 107 #[.string s, .int .i64 c] w fun e w' => e = .returned (.string ⟨(Lib.repeatL s.data.toList c).toArray⟩) ∧ Below w.heap.size w w' := Any.strings_Repeat Tryd.lays105 Tryd.Builder_Extra_105 s c w hc hlen
end Go.Proofs
