/- The types of the program's operations, as tables. -/
import Derived.Test.YtgfimeagodcdjaaProg
import Derived.Test.YtgfimeagodcdjaaAmF
set_option linter.unusedSimpArgs false
set_option linter.unusedVariables false
set_option linter.unusedSectionVars false
namespace Go.Proofs.Ytgfimeagodcdjaa
open Go Go.Proofs Go.AM
set_option maxRecDepth 100000
noncomputable def ti3 : TI := ⟨.int .i64, 1, 8, [.int .i64 0], .int .i64⟩
noncomputable def ti4 : TI := ⟨.bool, 1, 1, [.bool false], .bool⟩
noncomputable def ti5 : TI := ⟨.int .u8, 1, 1, [.int .u8 0], .int .u8⟩
noncomputable def ti22 : TI := ⟨.slice 35, 1, 24, [.slice none 0 0], .list (.pair (.int .i64) (.int .i64))⟩
noncomputable def ti23 : TI := ⟨.slice 33, 1, 24, [.slice none 0 0], .list (.pair (.int .i64) (.pair (.int .i64) (.int .i64)))⟩
noncomputable def ti28 : TI := ⟨.struct [(0, 22), (1, 4)], 2, 32, [.slice none 0 0, .bool false], .pair (.list (.pair (.int .i64) (.int .i64))) (.bool)⟩
noncomputable def ti31 : TI := ⟨.slice 4, 1, 24, [.slice none 0 0], .list (.bool)⟩
noncomputable def ti33 : TI := ⟨.struct [(0, 3), (1, 3), (2, 3)], 3, 24, [.int .i64 0, .int .i64 0, .int .i64 0], .pair (.int .i64) (.pair (.int .i64) (.int .i64))⟩
noncomputable def ti35 : TI := ⟨.struct [(0, 3), (1, 3)], 2, 16, [.int .i64 0, .int .i64 0], .pair (.int .i64) (.int .i64)⟩
noncomputable def ti39 : TI := ⟨.slice 5, 1, 24, [.slice none 0 0], .list (.int .u8)⟩
noncomputable def ti56 : TI := ⟨.slice 3, 1, 24, [.slice none 0 0], .list (.int .i64)⟩
noncomputable def ti215 : TI := ⟨.slice 218, 1, 24, [.slice none 0 0], .list (.arr 3 (.int .i64))⟩
noncomputable def ti218 : TI := ⟨.array 3 3, 3, 24, [.int .i64 0, .int .i64 0, .int .i64 0], .arr 3 (.int .i64)⟩
noncomputable def ti230 : TI := ⟨.other, 1, 8, [.nilFunc], .fn (.pair (.int .i64) (.unit)) (.int .i64)⟩
noncomputable def tiT : Tr TI := (.node (.node (.node (.node .nil 3 ti3 .nil) 4 ti4 (.node .nil 5 ti5 .nil)) 22 ti22 (.node (.node .nil 23 ti23 .nil) 28 ti28 (.node .nil 31 ti31 .nil))) 33 ti33 (.node (.node (.node .nil 35 ti35 .nil) 39 ti39 (.node .nil 56 ti56 .nil)) 215 ti215 (.node (.node .nil 218 ti218 .nil) 230 ti230 .nil)))
def isBT : Tr Unit := (.node .nil 4 () .nil)
def eq35 : EqT := ⟨.pair (.int .i64) (.int .i64), fun x y => decide (x = y)⟩
noncomputable def eqT : Tr EqT := (.node .nil 35 eq35 .nil)
noncomputable def E : TEnv := ⟨tiT.get, isBT.has, eqT.get⟩
theorem tiok3 : ti3.Ok Try.prog 3 := TI.ok_of Try.underlying3 rfl (by kernel_rfl)
theorem tiok4 : ti4.Ok Try.prog 4 := TI.ok_of Try.underlying4 rfl (by kernel_rfl)
theorem tiok5 : ti5.Ok Try.prog 5 := TI.ok_of Try.underlying5 rfl (by kernel_rfl)
theorem tiok22 : ti22.Ok Try.prog 22 := TI.ok_of Try.underlying22 rfl (by kernel_rfl)
theorem tiok23 : ti23.Ok Try.prog 23 := TI.ok_of Try.underlying23 rfl (by kernel_rfl)
theorem tiok28 : ti28.Ok Try.prog 28 := TI.ok_of Try.underlying28 ⟨_, rfl, rfl⟩ (by kernel_rfl)
theorem tiok31 : ti31.Ok Try.prog 31 := TI.ok_of Try.underlying31 rfl (by kernel_rfl)
theorem tiok33 : ti33.Ok Try.prog 33 := TI.ok_of Try.underlying33 ⟨_, rfl, rfl⟩ (by kernel_rfl)
theorem tiok35 : ti35.Ok Try.prog 35 := TI.ok_of Try.underlying35 ⟨_, rfl, rfl⟩ (by kernel_rfl)
theorem tiok39 : ti39.Ok Try.prog 39 := TI.ok_of Try.underlying39 rfl (by kernel_rfl)
theorem tiok56 : ti56.Ok Try.prog 56 := TI.ok_of Try.underlying56 rfl (by kernel_rfl)
theorem tiok215 : ti215.Ok Try.prog 215 := TI.ok_of Try.underlying215 rfl (by kernel_rfl)
theorem tiok218 : ti218.Ok Try.prog 218 := TI.ok_of Try.underlying218 rfl (by kernel_rfl)
theorem tiok230 : ti230.Ok Try.prog 230 := TI.ok_of Try.underlying230 rfl (by kernel_rfl)
theorem eqok35 : EqT.Ok Try.prog 35 eq35 := EqT.ok_of (n := 2) (by decide) rfl (EqI.struct tiok35 Try.underlying35 (by kernel_rfl) rfl rfl (.cons (EqI.int tiok3 rfl rfl .i64 rfl) rfl (by decide) (.one (EqI.int tiok3 rfl rfl .i64 rfl) rfl (by decide)))) (by kernel_rfl) _ (fun x y => by rw [Bool.eq_iff_iff]; simp [Prod.ext_iff])
theorem tiT_ok : tiT.All (fun n i => i.Ok Try.prog n) := ⟨⟨⟨⟨trivial, tiok3, trivial⟩, tiok4, ⟨trivial, tiok5, trivial⟩⟩, tiok22, ⟨⟨trivial, tiok23, trivial⟩, tiok28, ⟨trivial, tiok31, trivial⟩⟩⟩, tiok33, ⟨⟨⟨trivial, tiok35, trivial⟩, tiok39, ⟨trivial, tiok56, trivial⟩⟩, tiok215, ⟨⟨trivial, tiok218, trivial⟩, tiok230, trivial⟩⟩⟩
theorem isBT_ok : isBT.All (fun n _ => Try.prog.underlying n = some .bool) := ⟨trivial, Try.underlying4, trivial⟩
theorem eqT_ok : eqT.All (fun n e => EqT.Ok Try.prog n e) := ⟨trivial, eqok35, trivial⟩
theorem E_ok : E.Ok Try.prog := ⟨tis_tree tiT_ok, fun _ h => Tr.has_spec isBT_ok h, fun _ _ h => Tr.All.get eqT_ok h⟩
theorem mixed : Try.prog.follows .mixedOrders = true := by kernel_rfl
end Go.Proofs.Ytgfimeagodcdjaa
