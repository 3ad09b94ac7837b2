/- What the statement of a row asks of the program as a whole: its packages may be entered. No condition. -/
import Derived.Test.YtgfimeagodcdjaaRows
import Derived.ProofKit
namespace Go.Proofs.Ytgfimeagodcdjaa
open Go Go.Proofs
theorem pEnter : Try.prog.mayEnter = true := by kernel_rfl
end Go.Proofs.Ytgfimeagodcdjaa
