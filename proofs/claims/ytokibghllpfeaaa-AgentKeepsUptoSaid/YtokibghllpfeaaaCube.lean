/- Package cube: what its functions do. Conditions: none, but for the numbers of a field. -/
import Derived.Test.YtokibghllpfeaaaHead
import Derived.Test.YtokibghllpfeaaaAm
set_option linter.unusedSimpArgs false
set_option linter.unusedVariables false
namespace Go.Proofs.Ytokibghllpfeaaa
open Go.Proofs.Ytokibghllpfeaaa.AL

end Go.Proofs.Ytokibghllpfeaaa
