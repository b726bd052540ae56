/- Made for this claim by a program of this session (wip/mp.py). -/
import Derived.Test.YthkagdbabkkomaaProg
import Derived.Below
import Derived.Deep.Draws
import Derived.Deep.AppendLies
import Derived.Maps.AppendAt
import Derived.OwnWalk
import Derived.Laws.BytesArg
import Derived.Laws.MakeOwn
import Derived.Laws.OwnMore
import Derived.Deep.OwnRows
import Derived.Tactics
import Derived.Lib.ConvBytes
import Derived.Laws.Slices
import Derived.WalkKit
import Derived.KernelRfl
import Derived.RowKit3
import Derived.Deep.LoopGhost
import Derived.Deep.QuietTactic
import Derived.BigQuiet
import Derived.WideLaws
import Derived.Deep.DeepCutAuto
import Derived.Deep.CutBlock
import Derived.Deep.RegionHeld3
import Derived.Laws.Rows
import Derived.Lib.AppendStr
import Derived.ArgAppend
import Derived.Laws.IdiomCopy
import Derived.OrdersHeld
import Derived.Laws.BitsLemmas
import Derived.RowKit
import Derived.Test.YthkagdbabkkomaaWWords
import Derived.Test.YthkagdbabkkomaaWLast
import Derived.Test.YthkagdbabkkomaaWTab
import Derived.Test.YthkagdbabkkomaaWFour
import Derived.Test.YthkagdbabkkomaaWQPut
import Derived.Test.YthkagdbabkkomaaWApart
import Derived.Test.YthkagdbabkkomaaWArr
import Derived.Test.YthkagdbabkkomaaWZeros
import Derived.Test.YthkagdbabkkomaaWFoot
import Derived.Test.YthkagdbabkkomaaWKept
import Derived.Test.YthkagdbabkkomaaWShare
import Derived.Test.YthkagdbabkkomaaWN
import Derived.Test.YthkagdbabkkomaaWFootNe
import Derived.Test.YthkagdbabkkomaaWAt
import Derived.Test.YthkagdbabkkomaaWEqStruct
import Derived.Test.YthkagdbabkkomaaWRepsOne
import Derived.Test.YthkagdbabkkomaaWInv
import Derived.Test.YthkagdbabkkomaaWInvWords
import Derived.Test.YthkagdbabkkomaaWGuard
import Derived.Test.YthkagdbabkkomaaWNEv
import Derived.Test.YthkagdbabkkomaaWMore
namespace Go.Proofs.Ythkagdbabkkomaa.MWi
open Go.RowKit Go.Proofs.YthkagdbabkkomaaW.PrintWords Go.Proofs.YthkagdbabkkomaaW.PrintLast Go.Proofs.YthkagdbabkkomaaW.PrintMore
theorem mp_u32s : IntKind.u32.signed = false := rfl
theorem mp_u32m : IntKind.u32.max = 4294967295 := rfl
theorem mp_u8s : IntKind.u8.signed = false := rfl
theorem mp_u8m : IntKind.u8.max = 255 := rfl
theorem mp_len {α : Type} {R : α → List Value → Prop} {sz n : Nat} {w : World} {A : Option Addr} {xs : List α} (h : xs.length = n) (H : ReadsRow R sz w A xs.length xs) : ReadsRow R sz w A n xs := h ▸ H
attribute [local go_sem] mp_u32s mp_u32m mp_u8s mp_u8m max2_int min2_int max_two min_two max_three min_three max_four min_four   -- for this text's walks alone
set_option linter.unusedVariables false
set_option linter.unusedSimpArgs false



def errW : Option Int → Value
  | none => .nilIface
  | some c => .iface 0 (.int .i64 c)
theorem errW_none : errW none = .nilIface := rfl
theorem errW_some (c : Int) : errW (some c) = .iface 0 (.int .i64 c) := rfl

theorem info5 : (Try.prog.info? 5).map (fun i => (i.zero, i.size, i.bytes)) = some (some (.int .u8 0), 1, 1) := by kernel_rfl
-- the values' own types

end Go.Proofs.Ythkagdbabkkomaa.MWi
