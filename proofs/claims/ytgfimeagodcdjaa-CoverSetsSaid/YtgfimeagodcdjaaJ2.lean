/- What the statement of a row asks of the program as a whole: no last word of a package is lifted. No condition. -/
import Derived.Test.YtgfimeagodcdjaaRows
import Derived.ProofKit
namespace Go.Proofs.Ytgfimeagodcdjaa
open Go Go.Proofs
theorem pLift : Try.prog.liftsFinal = false := by kernel_rfl
end Go.Proofs.Ytgfimeagodcdjaa
