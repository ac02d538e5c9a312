/- A part of the claim EmbedNames: PEmbedNames. -/
import Derived.Test.YtgmacggbhcodjaaDoorZEmbedNamesF
/- The pure law of EmbedNames. -/
namespace Go.Proofs.YtgmacggbhcodjaaDoor.Pure
theorem EmbedNames : F.glacislaw18_EmbedNames.f = some true := rfl
end Go.Proofs.YtgmacggbhcodjaaDoor.Pure

