/- A part of the claim EmbedPolicies: P11. -/
import Derived.Test.YtgmacggbhcodjaaGreatDoorZEmbedPoliciesA0
import Derived.Test.YtgmacggbhcodjaaGreatDoorZEmbedPoliciesA1
import Derived.Test.YtgmacggbhcodjaaGreatDoorZEmbedPoliciesA2
import Derived.Test.YtgmacggbhcodjaaGreatDoorZEmbedPoliciesA3
import Derived.Test.YtgmacggbhcodjaaGreatDoorZEmbedPoliciesA5
import Derived.Test.YtgmacggbhcodjaaGreatDoorZEmbedPoliciesA6
import Derived.Test.YtgmacggbhcodjaaGreatDoorZEmbedPoliciesA8
import Derived.Test.YtgmacggbhcodjaaGreatDoorZEmbedPoliciesA9
import Derived.Test.YtgmacggbhcodjaaGreatDoorZEmbedPoliciesB2
import Derived.Test.YtgmacggbhcodjaaGreatDoorZEmbedPoliciesB3
import Derived.Test.YtgmacggbhcodjaaGreatDoorZEmbedPoliciesB6
import Derived.Test.YtgmacggbhcodjaaGreatDoorZEmbedPoliciesB7
import Derived.Test.YtgmacggbhcodjaaGreatDoorZEmbedPoliciesB8
import Derived.Test.YtgmacggbhcodjaaGreatDoorZEmbedPoliciesB9
import Derived.Test.YtgmacggbhcodjaaGreatDoorZEmbedPoliciesBF
import Derived.Test.YtgmacggbhcodjaaGreatDoorZEmbedPoliciesC1
import Derived.Test.YtgmacggbhcodjaaGreatDoorZEmbedPoliciesWWords
import Derived.Test.YtgmacggbhcodjaaGreatDoorZEmbedPoliciesWLast
import Derived.Test.YtgmacggbhcodjaaGreatDoorZEmbedPoliciesWTab
import Derived.Test.YtgmacggbhcodjaaGreatDoorZEmbedPoliciesWApart
import Derived.Test.YtgmacggbhcodjaaGreatDoorZEmbedPoliciesWShare
import Derived.Test.YtgmacggbhcodjaaGreatDoorZEmbedPoliciesWN
import Derived.Test.YtgmacggbhcodjaaGreatDoorZEmbedPoliciesWAt
import Derived.Test.YtgmacggbhcodjaaGreatDoorZEmbedPoliciesWEqStruct
import Derived.Test.YtgmacggbhcodjaaGreatDoorZEmbedPoliciesWGuard
import Derived.Test.YtgmacggbhcodjaaGreatDoorZEmbedPoliciesWMore
import Derived.Test.YtgmacggbhcodjaaGreatDoorZEmbedPoliciesK
import Derived.Test.YtgmacggbhcodjaaGreatDoorProg
import Derived.Below
import Derived.Deep.Draws
import Derived.Deep.AppendLies
import Derived.Maps.AppendAt
import Derived.OwnWalk
import Derived.Laws.BytesArg
import Derived.Laws.MakeOwn
import Derived.Laws.OwnMore
import Derived.Deep.OwnRows
import Derived.Tactics
import Derived.Lib.ConvBytes
import Derived.Laws.Slices
import Derived.WalkKit
import Derived.KernelRfl
import Derived.RowKit3
import Derived.Deep.LoopGhost
import Derived.Deep.QuietTactic
import Derived.BigQuiet
import Derived.WideLaws
import Derived.Deep.DeepCutAuto
import Derived.Deep.CutBlock
import Derived.Deep.RegionHeld3
import Derived.Laws.Rows
import Derived.Lib.AppendStr
import Derived.ArgAppend
import Derived.Laws.IdiomCopy
import Derived.OrdersHeld
import Derived.Laws.BitsLemmas
import Derived.RowKit
namespace Go.Proofs.YtgmacggbhcodjaaGreatDoor.P1
open Go.RowKit Go.Proofs.YtgmacggbhcodjaaGreatDoor.Q Go.Proofs.YtgmacggbhcodjaaGreatDoorW.PrintWords Go.Proofs.YtgmacggbhcodjaaGreatDoorW.PrintLast Go.Proofs.YtgmacggbhcodjaaGreatDoorW.PrintMore
attribute [local go_sem] max2_int max_two
set_option linter.unusedVariables false
set_option linter.unusedSimpArgs false

theorem eqA40 (d : Nat) (w : World) (x0 y0 : Bool) (x1 y1 : Bool) (x2 y2 : Bool) :
    (Op.equalIn (d + 2) 40 (.agg #[.bool x0, .bool x1, .bool x2]) (.agg #[.bool y0, .bool y1, .bool y2])).run Tryz.prog w = .ok (x0 == y0 && (x1 == y1 && (x2 == y2))) w := by
  refine eqA_of Tryz.underlying40 (by kernel_rfl) ?_
  refine eqf_cons (by rfl) (by go_simp; rfl) (by go_simp; rfl) (by go_simp) ?_
  refine eqf_cons (by rfl) (by go_simp; rfl) (by go_simp; rfl) (by go_simp) ?_
  exact eqf_last (by rfl) (by go_simp; rfl) (by go_simp; rfl) (by go_simp)
end Go.Proofs.YtgmacggbhcodjaaGreatDoor.P1

