/- The document's packages of layers 1: what their functions do. Conditions: none. -/
import Derived.Test.YtokibghllpfeaaaCube
set_option linter.unusedSimpArgs false
set_option linter.unusedVariables false
namespace Go.Proofs.Ytokibghllpfeaaa
open Go.Proofs.Ytokibghllpfeaaa.AL

def headI (b : Nat → Bool) (k : Fin 129) : ASt := ⟨[(4, .p (.d (.v (.int .i64 ((k.val : Int) - 1))))), (3, .loc 3 0), (2, .loc 2 0), (1, .p (.d (.bf 128 fun j => .v (.bool (b j)))))],
  [(3, .cells 75 [.p (.d (.v (.int .u64 (num b (max k.val 64) (128 - max k.val 64) : Nat)))), .p (.d (.v (.int .u64 (num b k.val (64 - k.val) : Nat))))]), (2, .cells 75 [.p (.d (.v (.int .u64 0))), .p (.d (.v (.int .u64 0)))])]⟩
end Go.Proofs.Ytokibghllpfeaaa
