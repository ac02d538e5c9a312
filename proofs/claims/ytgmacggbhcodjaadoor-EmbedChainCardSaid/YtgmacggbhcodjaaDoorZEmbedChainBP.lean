/- A part of the claim EmbedChain: BP. -/
import Derived.Test.YtgmacggbhcodjaaDoorZEmbedChainQ1
namespace Go.Proofs.YtgmacggbhcodjaaDoor.Q
set_option linter.unusedVariables false
open Go.RowKit Go.Proofs.YtgmacggbhcodjaaDoorW.PrintWords
def cspmatch_Parse.f (a0 : ByteArray) : Option (Int × ByteArray × ByteArray × Int) := Q1.cspmatch_Parse.f (a0.size + 20) a0
theorem cspmatch_Parse.calls (a0 : ByteArray) (r1 : Int) (r2 r3 : ByteArray) (r4 : Int) (w : World) (h : cspmatch_Parse.f a0 = some (r1, r2, r3, r4)) :
    Calls Tryd.prog 41 #[.string a0] w fun e w' => e = .returned (.agg #[.int .i64 r1, .string r2, .string r3, .int .i64 r4]) ∧ Below w.heap.size w w' :=
  Q1.cspmatch_Parse.calls (a0.size + 20) a0 r1 r2 r3 r4 w h
end Go.Proofs.YtgmacggbhcodjaaDoor.Q

