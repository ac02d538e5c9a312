/- A part of the claim EmbedPolicies: PEmbedPolicies. -/
import Derived.Test.YtgmacggbhcodjaaGreatDoorZEmbedPoliciesP12
/- The pure law of EmbedPolicies. -/
namespace Go.Proofs.YtgmacggbhcodjaaGreatDoor.Pure
open Go.RowKit Go.Proofs.YtgmacggbhcodjaaGreatDoor.Q
theorem EmbedPolicies (a b : Int × ByteArray × Int × ByteArray) (ha : (Lit.int .i64 a.1).wf = true ∧ a.2.1.size ≤ maxLen ∧ (Lit.int .i64 a.2.2.1).wf = true ∧ a.2.2.2.size ≤ maxLen) (hb : (Lit.int .i64 b.1).wf = true ∧ b.2.1.size ≤ maxLen ∧ (Lit.int .i64 b.2.2.1).wf = true ∧ b.2.2.2.size ≤ maxLen) :
    P1.glacislaw18_EmbedPolicies.f a.1 a.2.1 a.2.2.1 a.2.2.2 b.1 b.2.1 b.2.2.1 b.2.2.2 = some true := by
  unfold P1.glacislaw18_EmbedPolicies.f glacislaw18_awake.f embed_Coep.f glacisref18_Coep.f
  simp
end Go.Proofs.YtgmacggbhcodjaaGreatDoor.Pure

