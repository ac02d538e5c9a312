/- A part of the claim EmbedChain: R1. -/
import Derived.Test.YtgmacggbhcodjaaDoorZEmbedChainR0
import Derived.Test.YtgmacggbhcodjaaDoorZEmbedChainK
namespace Go.Proofs.YtgmacggbhcodjaaDoor.Q
set_option linter.unusedVariables false
set_option linter.unusedSimpArgs false
open Go.RowKit Go.ChangeShapes Go.WideShapes Go.ChangeAt Go.Proofs.YtgmacggbhcodjaaDoorW.PrintWords
section
variable {H : Type} {enc : TypeId × Value → H} {w : World}
theorem opens_i : Opens enc Tryd.prog w 3 (Kd.int .i64) (fun n => (Lit.int .i64 n).wf = true) := opens_int Tryd.underlying3 (by kernel_rfl)
theorem slice_of {a A : Option Addr} {n m c C : Nat} (h : (Value.slice a n c).cells.toList = [.slice A m C]) : a = A ∧ n = m ∧ c = C := by
  have h' : [Value.slice a n c] = [Value.slice A m C] := h
  injection h' with h1 _
  injection h1 with x y z
  exact ⟨x, y, z⟩
end
end Go.Proofs.YtgmacggbhcodjaaDoor.Q

