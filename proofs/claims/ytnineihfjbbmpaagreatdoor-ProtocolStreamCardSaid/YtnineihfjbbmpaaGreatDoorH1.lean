/- Contracts of Go's library at this program, laid out of the kit's shelf by its tool (the plain mode). -/
import Derived.Shelf.Strconv.Itoa0
import Derived.Shelf.Strconv.Itoa1
import Derived.Shelf.Strconv.Itoa2
import Derived.Shelf.Strconv.Itoa3
import Derived.Shelf.LaysM
import Derived.Ground.Names2Prog
import Derived.Test.YtnineihfjbbmpaaGreatDoorProg
namespace Go.Proofs
open Go.Shelf
def Tryz.laysM171_ren : Go.Shelf.Ren := ⟨fun | 171 => 19 | 243 => 27 | 246 => 38 | 283 => 53 | 284 => 54 | 285 => 55 | 286 => 56 | 129 => 74 | 317 => 73 | 318 => 75 | 319 => 76 | 320 => 77 | 337 => 112 | 338 => 113 | n => n, fun | 3 => 3 | 9 => 9 | 2 => 2 | 4 => 4 | 171 => 104 | 0 => 0 | 53 => 51 | 37 => 24 | 5 => 5 | 173 => 107 | 212 => 136 | 51 => 137 | 20 => 20 | 213 => 138 | 46 => 140 | 232 => 181 | 233 => 182 | n => n, fun | 17 => 0 | 18 => 4 | 19 => 5 | n => n⟩
theorem Tryz.laysM171 : Go.Proofs.LaysM.n171 Tryz.prog Tryz.laysM171_ren := {
  mixed := by kernel_rfl
  f129 := Tryz.func74.trans (congrArg some (by kernel_rfl))
  f171 := Tryz.func19.trans (congrArg some (by kernel_rfl))
  f243 := Tryz.func27.trans (congrArg some (by kernel_rfl))
  f246 := Tryz.func38.trans (congrArg some (by kernel_rfl))
  f283 := Tryz.func53.trans (congrArg some (by kernel_rfl))
  f284 := Tryz.func54.trans (congrArg some (by kernel_rfl))
  f285 := Tryz.func55.trans (congrArg some (by kernel_rfl))
  f286 := Tryz.func56.trans (congrArg some (by kernel_rfl))
  f317 := Tryz.func73.trans (congrArg some (by kernel_rfl))
  f318 := Tryz.func75.trans (congrArg some (by kernel_rfl))
  f319 := Tryz.func76.trans (congrArg some (by kernel_rfl))
  f320 := Tryz.func77.trans (congrArg some (by kernel_rfl))
  f337 := Tryz.func112.trans (congrArg some (by kernel_rfl))
  f338 := Tryz.func113.trans (congrArg some (by kernel_rfl))
  t0 := Tryz.underlying0
  a0 := Tryz.isAgg0
  z0 := Tryz.sizeOf0
  v0 := Tryz.zeroValue0
  t2 := Tryz.underlying2
  a2 := Tryz.isAgg2
  z2 := Tryz.sizeOf2
  v2 := Tryz.zeroValue2
  t3 := Tryz.underlying3
  a3 := Tryz.isAgg3
  z3 := Tryz.sizeOf3
  v3 := Tryz.zeroValue3
  t4 := Tryz.underlying4
  a4 := Tryz.isAgg4
  z4 := Tryz.sizeOf4
  v4 := Tryz.zeroValue4
  t5 := Tryz.underlying5
  a5 := Tryz.isAgg5
  z5 := Tryz.sizeOf5
  v5 := Tryz.zeroValue5
  t9 := Tryz.underlying9
  a9 := Tryz.isAgg9
  z9 := Tryz.sizeOf9
  v9 := Tryz.zeroValue9
  t20 := Tryz.underlying20
  a20 := Tryz.isAgg20
  z20 := Tryz.sizeOf20
  v20 := Tryz.zeroValue20
  t37 := Tryz.underlying24
  a37 := Tryz.isAgg24
  z37 := Tryz.sizeOf24
  v37 := Tryz.zeroValue24
  t46 := Tryz.underlying140
  a46 := Tryz.isAgg140
  z46 := Tryz.sizeOf140
  v46 := Tryz.zeroValue140
  t51 := Tryz.underlying137
  a51 := Tryz.isAgg137
  z51 := Tryz.sizeOf137
  v51 := Tryz.zeroValue137
  t53 := Tryz.underlying51
  a53 := Tryz.isAgg51
  z53 := Tryz.sizeOf51
  v53 := Tryz.zeroValue51
  t171 := Tryz.underlying104
  a171 := Tryz.isAgg104
  z171 := Tryz.sizeOf104
  v171 := Tryz.zeroValue104
  t173 := Tryz.underlying107
  a173 := Tryz.isAgg107
  z173 := Tryz.sizeOf107
  v173 := Tryz.zeroValue107
  t212 := Tryz.underlying136
  a212 := Tryz.isAgg136
  z212 := Tryz.sizeOf136
  v212 := Tryz.zeroValue136
  t213 := Tryz.underlying138
  a213 := Tryz.isAgg138
  z213 := Tryz.sizeOf138
  t232 := Tryz.underlying181
  a232 := Tryz.isAgg181
  z232 := Tryz.sizeOf181
  v232 := Tryz.zeroValue181
  t233 := Tryz.underlying182
  a233 := Tryz.isAgg182
  z233 := Tryz.sizeOf182
  v233 := Tryz.zeroValue182
  g17 := by kernel_rfl
  g18 := by kernel_rfl
  g19 := by kernel_rfl
  i0 := by kernel_rfl
  i2 := by kernel_rfl
  i3 := by kernel_rfl
  i4 := by kernel_rfl
  i5 := by kernel_rfl
  i9 := by kernel_rfl
  i20 := by kernel_rfl
  i37 := by kernel_rfl
  i46 := by kernel_rfl
  i51 := by kernel_rfl
  i53 := by kernel_rfl
  i171 := by kernel_rfl
  i173 := by kernel_rfl
  i212 := by kernel_rfl
  i232 := by kernel_rfl
  i233 := by kernel_rfl
  m17 := by kernel_rfl
  m18 := by kernel_rfl
  m19 := by kernel_rfl }
open Go.RowKit Go.Sort Go.Lib in
/-- strconv.Itoa: "Itoa is equivalent to FormatInt(int64(i), 10).": i's DECIMAL NUMERAL ('Lib.itoa': a '-' where i is negative, then the digits), FOR EVERY int. The world behind the call: the world before it, new blocks behind the heap (the library's 'var a [24]byte'), draws. (LAID: no walk: one application.) -/
theorem Tryz.strconv_Itoa (n : Int) (h0 : -9223372036854775808 ≤ n) (h1 : n ≤ 9223372036854775807) (w : World) (htab : Lib.TabIs Tryz.prog w "internal/strconv.uint64pow10" .u64 Lib.pow10Tab) :
    Calls Tryz.prog 19 #[.int .i64 n] w fun e w' => e = .returned (.string ⟨(Lib.itoa n).toArray⟩) ∧ ∃ k os, w' = grow (w.drewN k) os := Any.strconv_Itoa Tryz.laysM171 n h0 h1 w htab
end Go.Proofs
