/- What the statement of a row asks of the program as a whole: the rest of it. No condition. -/
import Derived.Test.YtgfimeagodcdjaaJ1
import Derived.Test.YtgfimeagodcdjaaJ2
import Derived.Test.YtgfimeagodcdjaaJ3
namespace Go.Proofs.Ytgfimeagodcdjaa
open Go Go.Proofs
theorem b2 {a b : Bool} (ha : a = true) (hb : b = true) : (a && b) = true := by rw [ha, hb]; rfl
theorem own : ownKnob Try.prog.godebug = none := by kernel_rfl
theorem laidOut : laidOutB Try.prog = true := by kernel_rfl
theorem pMaps : mapsRowed Try.prog = true := by kernel_rfl
theorem pPlain : Try.prog.plainKeys = false := by kernel_rfl
theorem pHeard : Try.prog.stopsHeard = true := by kernel_rfl
end Go.Proofs.Ytgfimeagodcdjaa
