/- The document's layer 5: Sound. Conditions: none. -/
import Derived.Test.YtokibghllpfeaaaRule
import Derived.Test.YtokibghllpfeaaaRef3
import Derived.Test.YtokibghllpfeaaaRef2
set_option linter.unusedSimpArgs false
set_option linter.unusedVariables false
namespace Go.Proofs.Ytokibghllpfeaaa
open Go.Proofs.Ytokibghllpfeaaa.AL
end Go.Proofs.Ytokibghllpfeaaa
