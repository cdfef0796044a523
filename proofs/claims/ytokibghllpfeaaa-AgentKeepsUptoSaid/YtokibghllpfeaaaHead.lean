/- Package head: what its functions do to words of 128 bits. Conditions: none, but for the numbers of a field. -/
import Derived.Test.YtokibghllpfeaaaTy
import Derived.Test.YtokibghllpfeaaaSpec
import Derived.Test.YtokibghllpfeaaaGen
set_option linter.unusedSimpArgs false
set_option linter.unusedVariables false
namespace Go.Proofs.Ytokibghllpfeaaa
open Go.Proofs.Ytokibghllpfeaaa.AL

def subE : Array Value → Sem Value := fun args => do
  let (x, y, b) ← Extern.MathBitsCarry.three "Sub64" args
  pure (Extern.MathBitsCarry.pair ((x + Extern.MathBitsCarry.m64 - y - b) % Extern.MathBitsCarry.m64) (if x < y + b then 1 else 0))
end Go.Proofs.Ytokibghllpfeaaa
