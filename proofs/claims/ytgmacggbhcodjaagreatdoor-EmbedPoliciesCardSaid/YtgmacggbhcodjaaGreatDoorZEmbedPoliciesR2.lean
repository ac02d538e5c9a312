/- A part of the claim EmbedPolicies: R2. -/
import Derived.Test.YtgmacggbhcodjaaGreatDoorZEmbedPoliciesR1
/- An embedder policy as a parameter, opened. -/
namespace Go.Proofs.YtgmacggbhcodjaaGreatDoor.Q
set_option linter.unusedVariables false
set_option linter.unusedSimpArgs false
open Go.RowKit Go.ChangeShapes Go.WideShapes Go.ChangeAt Go.Proofs.YtgmacggbhcodjaaGreatDoorW.PrintWords
section
variable {H : Type} {enc : TypeId × Value → H} {w : World}
def kEmb : Kd (Int × ByteArray × Int × ByteArray) := Kd.pair (Kd.int .i64) (Kd.pair Kd.string (Kd.pair (Kd.int .i64) Kd.string))
theorem kEmb_open {y : Int × ByteArray × Int × ByteArray} {cs : List Value} (h : kEmb.K w y cs) : cs = [.int .i64 y.1, .string y.2.1, .int .i64 y.2.2.1, .string y.2.2.2] := by
  obtain ⟨_, _, rfl, rfl, ⟨_, _, rfl, rfl, ⟨_, _, rfl, rfl, rfl⟩⟩⟩ := h
  rfl
theorem opens_emb : Opens enc Tryz.prog w 24 kEmb (fun y => (Lit.int .i64 y.1).wf = true ∧ y.2.1.size ≤ maxLen ∧ (Lit.int .i64 y.2.2.1).wf = true ∧ y.2.2.2.size ≤ maxLen) :=
  (opens_struct Tryz.underlying24 (by kernel_rfl) (show FOpens enc Tryz.prog w [(3, 0), (9, 1), (3, 2), (9, 3)] 0 kEmb _ from
      fopens_cons opens_i (fopens_cons opens_str (fopens_cons opens_i (fopens_one opens_str))))).mono fun x h => ⟨h.1, h.2.1, h.2.2.1, h.2.2.2⟩
end
end Go.Proofs.YtgmacggbhcodjaaGreatDoor.Q

