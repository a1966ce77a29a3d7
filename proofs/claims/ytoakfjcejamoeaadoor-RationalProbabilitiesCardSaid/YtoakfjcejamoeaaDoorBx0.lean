-- PRINTED by print.py (a twelfth state) out of the translation. Not trusted: Lean checks it.
import Derived.Test.YtoakfjcejamoeaaDoorProg
import Derived.Below
import Derived.Deep.Draws
import Derived.Deep.AppendLies
import Derived.Maps.AppendAt
import Derived.OwnWalk
import Derived.Laws.BytesArg
import Derived.Laws.MakeOwn
import Derived.Laws.OwnMore
import Derived.Deep.OwnRows
import Derived.Tactics
import Derived.Lib.ConvBytes
import Derived.Laws.Slices
import Derived.WalkKit
import Derived.KernelRfl
import Derived.RowKit3
import Derived.Deep.LoopGhost
import Derived.Deep.QuietTactic
import Derived.BigQuiet
import Derived.WideLaws
import Derived.Deep.DeepCutAuto
import Derived.Deep.CutBlock
import Derived.Deep.RegionHeld3
import Derived.Laws.Rows
import Derived.Lib.AppendStr
import Derived.ArgAppend
import Derived.Laws.IdiomCopy
import Derived.OrdersHeld
import Derived.Laws.BitsLemmas
import Derived.RowKit
import Derived.Test.YtoakfjcejamoeaaDoorN1
import Derived.Test.YtoakfjcejamoeaaDoorH1
import Derived.Test.YtoakfjcejamoeaaDoorH2
import Derived.Test.YtoakfjcejamoeaaDoorH3
import Derived.WalkSpells
import Derived.Lib.AppendIntMem
import Derived.Test.YtoakfjcejamoeaaDoorWWords
import Derived.Test.YtoakfjcejamoeaaDoorWLast
import Derived.Test.YtoakfjcejamoeaaDoorWTab
import Derived.Test.YtoakfjcejamoeaaDoorWFour
import Derived.Test.YtoakfjcejamoeaaDoorWQPut
import Derived.Test.YtoakfjcejamoeaaDoorWApart
import Derived.Test.YtoakfjcejamoeaaDoorWArr
import Derived.Test.YtoakfjcejamoeaaDoorWZeros
import Derived.Test.YtoakfjcejamoeaaDoorWFoot
import Derived.Test.YtoakfjcejamoeaaDoorWKept
import Derived.Test.YtoakfjcejamoeaaDoorWShare
import Derived.Test.YtoakfjcejamoeaaDoorWN
import Derived.Test.YtoakfjcejamoeaaDoorWFootNe
import Derived.Test.YtoakfjcejamoeaaDoorWAt
import Derived.Test.YtoakfjcejamoeaaDoorWEqStruct
import Derived.Test.YtoakfjcejamoeaaDoorWRepsOne
import Derived.Test.YtoakfjcejamoeaaDoorWInv
import Derived.Test.YtoakfjcejamoeaaDoorWInvWords
import Derived.Test.YtoakfjcejamoeaaDoorWGuard
import Derived.Test.YtoakfjcejamoeaaDoorWNEv
import Derived.Test.YtoakfjcejamoeaaDoorWMore
namespace Go.Proofs.YtoakfjcejamoeaaDoor.B
open Go.RowKit Go.Proofs.YtoakfjcejamoeaaDoorW.PrintWords Go.Proofs.YtoakfjcejamoeaaDoorW.PrintLast Go.Proofs.YtoakfjcejamoeaaDoorW.PrintMore
attribute [local go_sem] max2_int min2_int max_two min_two max_three min_three max_four min_four   -- for this text's walks alone
set_option linter.unusedVariables false
set_option linter.unusedSimpArgs false



def errW : Option Int → Value
 | none => .nilIface
 | some c => .iface 0 (.int .i64 c)
theorem errW_none : errW none = .nilIface := rfl
theorem errW_some (c : Int) : errW (some c) = .iface 0 (.int .i64 c) := rfl

theorem info23 : (Tryd.prog.info? 23).map (fun i => (i.zero, i.size, i.bytes)) = some (some (.slice none 0 0), 1, 24) := by kernel_rfl
theorem info63 : (Tryd.prog.info? 63).map (fun i => (i.zero, i.size, i.bytes)) = some (some (.int .u32 0), 1, 4) := by kernel_rfl
-- the values' own types
def rd_L1 (xs : List (List Int)) (i : Int) : (List Int) := xs.getD i.toNat ([] : List Int)
end Go.Proofs.YtoakfjcejamoeaaDoor.B
