/- What the statement of a row asks of the program as a whole: how it is made. No condition. -/
import Derived.Test.YtgfimeagodcdjaaRows
import Derived.ProofKit
namespace Go.Proofs.Ytgfimeagodcdjaa
open Go Go.Proofs
theorem pMake : Try.prog.make = some .cut := by kernel_rfl
end Go.Proofs.Ytgfimeagodcdjaa
