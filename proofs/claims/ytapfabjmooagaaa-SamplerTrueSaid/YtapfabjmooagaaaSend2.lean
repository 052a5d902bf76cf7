/- nothing of Send2 is wanted here. -/
import Derived.Test.YtapfabjmooagaaaSend1
namespace Go.Proofs.Ytapfabjmooagaaa.Send
set_option linter.unusedSimpArgs false
set_option linter.unusedVariables false
end Go.Proofs.Ytapfabjmooagaaa.Send
