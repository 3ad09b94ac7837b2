/- The statement CoverSets over data as a caller hands it: whatever the spans, the classes, the class: it is true. -/
import Derived.Test.YtgfimeagodcdjaaAmF
import Derived.Test.YtgfimeagodcdjaaQ5
import Derived.OpenShut
set_option linter.unusedSimpArgs false
set_option linter.unusedVariables false
set_option linter.unusedSectionVars false
namespace Go.Proofs.Ytgfimeagodcdjaa
open Go Go.AM

theorem CoverSets_pure (x0 : Ty.den (.list (.pair (.int .i64) (.int .i64)))) (x1 : Ty.den (.list (.pair (.int .i64) (.pair (.int .i64) (.int .i64))))) (x2 : Ty.den (.int .i64))
    (g0 : AM.Good (.list (.pair (.int .i64) (.int .i64))) x0) (g1 : AM.Good (.list (.pair (.int .i64) (.pair (.int .i64) (.int .i64)))) x1) (_ : AM.Good (.int .i64) x2) :
    ∃ fuel, reedpenlaw10_CoverSets_3 fuel (x0, x1, x2, ()) = some (true, ()) :=
  CoverSets_plain x0 x1 x2 g0.1 (fun x hx => ⟨bounds_i64 (g0.2 x hx).1, bounds_i64 (g0.2 x hx).2⟩) g1.1 (fun x hx => ⟨bounds_i64 (g1.2 x hx).1, bounds_i64 (g1.2 x hx).2.1, bounds_i64 (g1.2 x hx).2.2⟩)
end Go.Proofs.Ytgfimeagodcdjaa
