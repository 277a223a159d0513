/- Contracts of the Go functions of this seat, each over a Lean function of the same answers; written by a program of this session's. -/
import Derived.Test.YtpnpepimcnidoaaProg
import Derived.Below
import Derived.Deep.Draws
import Derived.Deep.AppendLies
import Derived.Maps.AppendAt
import Derived.OwnWalk
import Derived.Laws.BytesArg
import Derived.Laws.MakeOwn
import Derived.Laws.OwnMore
import Derived.Deep.OwnRows
import Derived.Tactics
import Derived.Lib.ConvBytes
import Derived.Laws.Slices
import Derived.WalkKit
import Derived.KernelRfl
import Derived.RowKit3
import Derived.Deep.LoopGhost
import Derived.Deep.QuietTactic
import Derived.BigQuiet
import Derived.WideLaws
import Derived.Deep.DeepCutAuto
import Derived.Deep.CutBlock
import Derived.Deep.RegionHeld3
import Derived.Laws.Rows
import Derived.Lib.AppendStr
import Derived.ArgAppend
import Derived.Laws.IdiomCopy
import Derived.OrdersHeld
import Derived.Laws.BitsLemmas
import Derived.RowKit
import Derived.Test.YtpnpepimcnidoaaWWords
import Derived.Test.YtpnpepimcnidoaaWLast
import Derived.Test.YtpnpepimcnidoaaWTab
import Derived.Test.YtpnpepimcnidoaaWFour
import Derived.Test.YtpnpepimcnidoaaWQPut
import Derived.Test.YtpnpepimcnidoaaWApart
import Derived.Test.YtpnpepimcnidoaaWArr
import Derived.Test.YtpnpepimcnidoaaWZeros
import Derived.Test.YtpnpepimcnidoaaWFoot
import Derived.Test.YtpnpepimcnidoaaWKept
import Derived.Test.YtpnpepimcnidoaaWShare
import Derived.Test.YtpnpepimcnidoaaWN
import Derived.Test.YtpnpepimcnidoaaWFootNe
import Derived.Test.YtpnpepimcnidoaaWAt
import Derived.Test.YtpnpepimcnidoaaWEqStruct
import Derived.Test.YtpnpepimcnidoaaWRepsOne
import Derived.Test.YtpnpepimcnidoaaWInv
import Derived.Test.YtpnpepimcnidoaaWInvWords
import Derived.Test.YtpnpepimcnidoaaWGuard
import Derived.Test.YtpnpepimcnidoaaWNEv
import Derived.Test.YtpnpepimcnidoaaWMore
namespace Go.Proofs.Ytpnpepimcnidoaa.PI
open Go.RowKit Go.Proofs.YtpnpepimcnidoaaW.PrintWords Go.Proofs.YtpnpepimcnidoaaW.PrintLast Go.Proofs.YtpnpepimcnidoaaW.PrintMore
attribute [local go_sem] max2_int min2_int max_two min_two max_three min_three max_four min_four   -- for this text's walks alone
set_option linter.unusedVariables false
set_option linter.unusedSimpArgs false



def errW : Option Int → Value
  | none => .nilIface
  | some c => .iface 0 (.int .i64 c)
theorem errW_none : errW none = .nilIface := rfl
theorem errW_some (c : Int) : errW (some c) = .iface 0 (.int .i64 c) := rfl

theorem info5 : (Try.prog.info? 5).map (fun i => (i.zero, i.size, i.bytes)) = some (some (.int .u8 0), 1, 1) := by kernel_rfl
theorem info36 : (Try.prog.info? 36).map (fun i => (i.zero, i.size, i.bytes)) = some (some (.int .u32 0), 1, 4) := by kernel_rfl
-- the values' own types

end Go.Proofs.Ytpnpepimcnidoaa.PI
