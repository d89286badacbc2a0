-- Text of this seat, by a program, out of the translation.
import Derived.Test.YtonbphiaideleaaProg
import Derived.Below
import Derived.Deep.Draws
import Derived.Deep.AppendLies
import Derived.Maps.AppendAt
import Derived.OwnWalk
import Derived.Laws.BytesArg
import Derived.Laws.MakeOwn
import Derived.Laws.OwnMore
import Derived.Deep.OwnRows
import Derived.Tactics
import Derived.Lib.ConvBytes
import Derived.Laws.Slices
import Derived.WalkKit
import Derived.KernelRfl
import Derived.RowKit3
import Derived.Deep.LoopGhost
import Derived.Deep.QuietTactic
import Derived.BigQuiet
import Derived.WideLaws
import Derived.Deep.DeepCutAuto
import Derived.Deep.CutBlock
import Derived.Deep.RegionHeld3
import Derived.Laws.Rows
import Derived.Lib.AppendStr
import Derived.ArgAppend
import Derived.Laws.IdiomCopy
import Derived.OrdersHeld
import Derived.Laws.BitsLemmas
import Derived.RowKit
import Derived.Test.YtonbphiaideleaaMmake
import Derived.Test.YtonbphiaideleaaWWords
import Derived.Test.YtonbphiaideleaaWLast
import Derived.Test.YtonbphiaideleaaWTab
import Derived.Test.YtonbphiaideleaaWFour
import Derived.Test.YtonbphiaideleaaWQPut
import Derived.Test.YtonbphiaideleaaWApart
import Derived.Test.YtonbphiaideleaaWArr
import Derived.Test.YtonbphiaideleaaWZeros
import Derived.Test.YtonbphiaideleaaWFoot
import Derived.Test.YtonbphiaideleaaWKept
import Derived.Test.YtonbphiaideleaaWShare
import Derived.Test.YtonbphiaideleaaWN
import Derived.Test.YtonbphiaideleaaWFootNe
import Derived.Test.YtonbphiaideleaaWAt
import Derived.Test.YtonbphiaideleaaWEqStruct
import Derived.Test.YtonbphiaideleaaWRepsOne
import Derived.Test.YtonbphiaideleaaWInv
import Derived.Test.YtonbphiaideleaaWInvWords
import Derived.Test.YtonbphiaideleaaWGuard
import Derived.Test.YtonbphiaideleaaWNEv
import Derived.Test.YtonbphiaideleaaWMore
namespace Go.Proofs.Ytonbphiaideleaa.PC
open Go.RowKit Go.Proofs.YtonbphiaideleaaW.PrintWords Go.Proofs.YtonbphiaideleaaW.PrintLast Go.Proofs.YtonbphiaideleaaW.PrintMore
attribute [local go_sem] max2_int min2_int max_two min_two max_three min_three max_four min_four   -- for this text's walks alone
set_option linter.unusedVariables false
set_option linter.unusedSimpArgs false



def errW : Option Int → Value
  | none => .nilIface
  | some c => .iface 0 (.int .i64 c)
theorem errW_none : errW none = .nilIface := rfl
theorem errW_some (c : Int) : errW (some c) = .iface 0 (.int .i64 c) := rfl

theorem info5 : (Try.prog.info? 5).map (fun i => (i.zero, i.size, i.bytes)) = some (some (.int .u8 0), 1, 1) := by kernel_rfl
-- the values' own types

end Go.Proofs.Ytonbphiaideleaa.PC
