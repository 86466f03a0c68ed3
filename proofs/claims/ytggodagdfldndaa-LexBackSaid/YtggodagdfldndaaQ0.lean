/- Walks of Go functions of this seat against plain Lean functions, written by a program of this session (the kit's print, with hand-proved contracts for what it does not take). Lean checks them. -/
import Derived.Test.YtggodagdfldndaaProg
import Derived.Below
import Derived.Deep.Draws
import Derived.Deep.AppendLies
import Derived.Maps.AppendAt
import Derived.OwnWalk
import Derived.Laws.BytesArg
import Derived.Laws.MakeOwn
import Derived.Laws.OwnMore
import Derived.Deep.OwnRows
import Derived.Tactics
import Derived.Lib.ConvBytes
import Derived.Laws.Slices
import Derived.WalkKit
import Derived.KernelRfl
import Derived.RowKit3
import Derived.Deep.LoopGhost
import Derived.Deep.QuietTactic
import Derived.BigQuiet
import Derived.WideLaws
import Derived.Deep.DeepCutAuto
import Derived.Deep.CutBlock
import Derived.Deep.RegionHeld3
import Derived.Laws.Rows
import Derived.Lib.AppendStr
import Derived.ArgAppend
import Derived.Laws.IdiomCopy
import Derived.OrdersHeld
import Derived.Laws.BitsLemmas
import Derived.RowKit
import Derived.Test.YtggodagdfldndaaX1
import Derived.Test.YtggodagdfldndaaWWords
import Derived.Test.YtggodagdfldndaaWLast
import Derived.Test.YtggodagdfldndaaWTab
import Derived.Test.YtggodagdfldndaaWFour
import Derived.Test.YtggodagdfldndaaWQPut
import Derived.Test.YtggodagdfldndaaWApart
import Derived.Test.YtggodagdfldndaaWArr
import Derived.Test.YtggodagdfldndaaWZeros
import Derived.Test.YtggodagdfldndaaWFoot
import Derived.Test.YtggodagdfldndaaWKept
import Derived.Test.YtggodagdfldndaaWShare
import Derived.Test.YtggodagdfldndaaWN
import Derived.Test.YtggodagdfldndaaWFootNe
import Derived.Test.YtggodagdfldndaaWAt
import Derived.Test.YtggodagdfldndaaWEqStruct
import Derived.Test.YtggodagdfldndaaWRepsOne
import Derived.Test.YtggodagdfldndaaWInv
import Derived.Test.YtggodagdfldndaaWInvWords
import Derived.Test.YtggodagdfldndaaWGuard
import Derived.Test.YtggodagdfldndaaWNEv
import Derived.Test.YtggodagdfldndaaWMore
namespace Go.Proofs.Ytggodagdfldndaa.Q
open Go.RowKit Go.Proofs.YtggodagdfldndaaW.PrintWords Go.Proofs.YtggodagdfldndaaW.PrintLast Go.Proofs.YtggodagdfldndaaW.PrintMore
attribute [local go_sem] max2_int min2_int max_two min_two max_three min_three max_four min_four   -- for this text's walks alone
set_option linter.unusedVariables false
set_option linter.unusedSimpArgs false



def errW : Option Int → Value
  | none => .nilIface
  | some c => .iface 0 (.int .i64 c)
theorem errW_none : errW none = .nilIface := rfl
theorem errW_some (c : Int) : errW (some c) = .iface 0 (.int .i64 c) := rfl

theorem info5 : (Try.prog.info? 5).map (fun i => (i.zero, i.size, i.bytes)) = some (some (.int .u8 0), 1, 1) := by kernel_rfl
-- the values' own types

end Go.Proofs.Ytggodagdfldndaa.Q
