/- A part of the claim EmbedPolicies: R1. -/
import Derived.Test.YtgmacggbhcodjaaGreatDoorZEmbedPoliciesR0
import Derived.Test.YtgmacggbhcodjaaGreatDoorZEmbedPoliciesK
/- The program's own kinds of parameters, opened. -/
namespace Go.Proofs.YtgmacggbhcodjaaGreatDoor.Q
set_option linter.unusedVariables false
set_option linter.unusedSimpArgs false
open Go.RowKit Go.ChangeShapes Go.WideShapes Go.ChangeAt Go.Proofs.YtgmacggbhcodjaaGreatDoorW.PrintWords
section
variable {H : Type} {enc : TypeId × Value → H} {w : World}
theorem Opens.mono {t : TypeId} {P : Program} {α : Type} {d : Kd α} {q q' : α → Prop} (h : Opens enc P w t d q) (hq : ∀ x, q x → q' x) : Opens enc P w t d q' :=
  ⟨h.1, fun fuel cs x hx => let ⟨v, hv, hv'⟩ := h.2 fuel cs x hx; ⟨v, hv, hq v hv'⟩⟩
theorem opens_str : Opens enc Tryz.prog w 9 Kd.string (fun s => s.size ≤ maxLen) := opens_string Tryz.underlying9 (by kernel_rfl)
theorem opens_i : Opens enc Tryz.prog w 3 (Kd.int .i64) (fun n => (Lit.int .i64 n).wf = true) := opens_int Tryz.underlying3 (by kernel_rfl)
theorem arr_of {cs : Array Value} {l : List Value} (h : (Value.agg cs).cells.toList = l) : cs = l.toArray := by
  have h' : cs.toList = l := h
  rw [← h']
end
end Go.Proofs.YtgmacggbhcodjaaGreatDoor.Q

