/- A part of the claim EmbedChain: WMore. -/
import Derived.Test.YtgmacggbhcodjaaDoorZEmbedChainWWords
import Derived.Test.YtgmacggbhcodjaaDoorZEmbedChainWLast
import Derived.Test.YtgmacggbhcodjaaDoorZEmbedChainWApart
import Derived.Test.YtgmacggbhcodjaaDoorZEmbedChainWN
namespace Go.Proofs.YtgmacggbhcodjaaDoorW.PrintMore
open Go.RowKit Go.Proofs.YtgmacggbhcodjaaDoorW.PrintWords
theorem max2_int (k k' : IntKind) (x y : Int) : Builtin.max2 (.int k x) (.int k' y) = pure (.int k (if x < y then y else x)) := by simp only [Builtin.max2, gt_iff_lt]
theorem max_two (ats : Array TypeId) (ty : TypeId) (a b : Value) : Builtin.max_ ats ty #[a, b] = (Builtin.max2 a b >>= fun s => pure s) := by simp only [Builtin.max_, List.foldlM_cons, List.foldlM_nil]
end Go.Proofs.YtgmacggbhcodjaaDoorW.PrintMore
namespace Go.Proofs.YtgmacggbhcodjaaDoorW.PrintWords
open Go.RowKit
section
variable {P : Program} {ops : Array Oper} {rest : List Oper} {o : Oper} {a : Act} {Q : Exit → Act → World → Prop} {W : World}
theorem gate_callee {f : FuncId} {as : Array Operand} {ts : Array TypeId} (_ho : o.op = .call { callee := .value (.func f), args := as, argTypes := ts }) (h : wpList P ops Q (o :: rest) a W) : wpList P ops Q (o :: rest) a W := h
end
end Go.Proofs.YtgmacggbhcodjaaDoorW.PrintWords
