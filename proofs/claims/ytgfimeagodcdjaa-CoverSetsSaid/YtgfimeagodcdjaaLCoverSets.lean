/- The row of the statement CoverSets, out of its plain law and the walk of its functions. No condition. -/
import Derived.Test.YtgfimeagodcdjaaQ6
import Derived.Test.YtgfimeagodcdjaaJ4
import Derived.Test.YtgfimeagodcdjaaAmF
import Derived.WalkKit
import Derived.ProofKit
import Derived.ChangeOld
import Derived.Below
import Derived.SizedLaws
set_option linter.unusedSimpArgs false
set_option linter.unusedVariables false
set_option linter.unusedSectionVars false
namespace Go.Proofs.Ytgfimeagodcdjaa.coverSets
open Go Go.Proofs Go.AM Go.ChangeShapes Go.WideShapes Go.ChangeAt Go.RowKit
theorem op3 : Opens Try.prog 3 (.int .i64) := Opens.int Try.underlying3 (by kernel_rfl)
theorem op35 : Opens Try.prog 35 (.pair (.int .i64) (.int .i64)) := Opens.struct Try.underlying35 (by kernel_rfl) (.cons op3 rfl (.one op3 rfl))
theorem op22 : Opens Try.prog 22 (.list (.pair (.int .i64) (.int .i64))) := Opens.slice Try.underlying22 (by kernel_rfl) (of_decide_eq_true (by kernel_rfl)) op35
theorem op33 : Opens Try.prog 33 (.pair (.int .i64) (.pair (.int .i64) (.int .i64))) := Opens.struct Try.underlying33 (by kernel_rfl) (.cons op3 rfl (.cons op3 rfl (.one op3 rfl)))
theorem op23 : Opens Try.prog 23 (.list (.pair (.int .i64) (.pair (.int .i64) (.int .i64)))) := Opens.slice Try.underlying23 (by kernel_rfl) (of_decide_eq_true (by kernel_rfl)) op33
theorem asData : (fun (fuel : Nat) (x : Ty.den (.pair (.list (.pair (.int .i64) (.int .i64))) (.pair (.list (.pair (.int .i64) (.pair (.int .i64) (.int .i64)))) (.pair (.int .i64) (.unit))))) => fnData (Summ.ofFnN (Tr.get .nil) sg3 none (reedpenlaw10_CoverSets_3 fuel)) (.pair (.list (.pair (.int .i64) (.int .i64))) (.pair (.list (.pair (.int .i64) (.pair (.int .i64) (.int .i64)))) (.pair (.int .i64) (.unit)))) .bool [] x) = fun fuel x => bindO (reedpenlaw10_CoverSets_3 fuel x) fun y => some y.1 := by kernel_rfl
set_option maxRecDepth 100000 in
theorem lifted (os : Os) (started : os.Started) (H : Type) (enc : TypeId × Value → H) :
    ReturnsInHanded {} Try.checked os 3 .any (Rows.coverSetsSpec.pre6 enc Try.prog Try.f3 Rows.coverSetsRow.domain false) (Rows.coverSetsSpec.post enc Try.prog Try.f3 false true false false) := by
  refine returnsInHanded_of_change_sized (C := Try.checked) own started (by kernel_rfl) Try.func3
    (ChangeSpec.witness6 (enc := enc) (C := Try.checked) false ⟨#[], #[.slice none 0 0, .slice none 0 0, .int .i64 0], []⟩ 8 (by kernel_rfl) (by kernel_rfl) (by kernel_rfl) (by kernel_rfl)) ?_
  intro W base args ds gs before hval0 hW hcnd hsz0 _
  have hsz : (DataW.weightsEach Try.prog (Try.f3.params.toList ++ Rows.coverSetsSpec.plain.varTypes Try.prog) (ds ++ gs)).all (· ≤ reachBytes) = true := hsz0
  have hval : ∀ (j : Nat) t v, Try.f3.params[j]? = some t → args[j]? = some v → Value.okWide Try.prog W .any base t v := hval0
  have hW' := hW
  obtain ⟨p, q, hA0, hV, rfl, hfz, hnd⟩ := hW
  have hA : DataW.TrodAll enc Try.prog W 0 (fun _ => true) true Try.f3.params.toList args.toList ds p := hA0
  rw [Try.params3] at hA hval hsz
  obtain ⟨v0, vs0, d0, ds0, p0, q0, hargs, rfl, rfl, h0, r0⟩ := trodAll_cons hA
  obtain ⟨v1, vs1, d1, ds1, p1, q1, rfl, rfl, rfl, h1, r1⟩ := trodAll_cons r0
  obtain ⟨v2, vs2, d2, ds2, p2, q2, rfl, rfl, rfl, h2, r2⟩ := trodAll_cons r1
  obtain ⟨rfl, rfl, rfl⟩ := trodAll_nil r2
  obtain rfl : args = #[v0, v1, v2] := by cases args; simp_all
  obtain ⟨rfl, rfl⟩ := trodVars_none hV
  have k0 := h0
  have lt0 : ∀ x ∈ p0, x.block < W.heap.size := by obtain ⟨m, hm⟩ := k0; exact DataW.trod_lt m _ _ _ hm
  have w0 := weights_at (j := 0) (t := 22) (d := d0) hsz rfl rfl
  obtain ⟨a0, l0, c0, rfl⟩ := okWide_slice Try.underlying22 (hval 0 22 v0 rfl rfl)
  obtain ⟨x0, y0, g0⟩ := arg_one op22 k0 w0 rfl (fun x cs h e => by obtain ⟨u, e2, h2⟩ := h; rw [e] at e2; cases e2; exact h2)
  have k1 := h1
  have lt1 : ∀ x ∈ p1, x.block < W.heap.size := by obtain ⟨m, hm⟩ := k1; exact DataW.trod_lt m _ _ _ hm
  have w1 := weights_at (j := 1) (t := 23) (d := d1) hsz rfl rfl
  obtain ⟨a1, l1, c1, rfl⟩ := okWide_slice Try.underlying23 (hval 1 23 v1 rfl rfl)
  obtain ⟨x1, y1, g1⟩ := arg_one op23 k1 w1 rfl (fun x cs h e => by obtain ⟨u, e2, h2⟩ := h; rw [e] at e2; cases e2; exact h2)
  have k2 := h2
  have lt2 : ∀ x ∈ p2, x.block < W.heap.size := by obtain ⟨m, hm⟩ := k2; exact DataW.trod_lt m _ _ _ hm
  have w2 := weights_at (j := 2) (t := 3) (d := d2) hsz rfl rfl
  obtain ⟨x2, y2, g2⟩ := arg_int op3 Try.underlying3 k2 w2 (hval 2 3 v2 rfl rfl)
  obtain ⟨fuel, hp⟩ := CoverSets_pure x0 x1 x2 g0 g1 g2
  have hp' : fnData (Summ.ofFnN (Tr.get .nil) sg3 none (reedpenlaw10_CoverSets_3 fuel)) (.pair (.list (.pair (.int .i64) (.int .i64))) (.pair (.list (.pair (.int .i64) (.pair (.int .i64) (.int .i64)))) (.pair (.int .i64) (.unit)))) .bool [] (x0, x1, x2, ()) = some true := by
    have := congrFun (congrFun asData fuel) (x0, x1, x2, ())
    refine this.trans ?_
    show bindO (reedpenlaw10_CoverSets_3 fuel (x0, x1, x2, ())) _ = _
    rw [hp]; rfl
  refine (law_calls (m := (Summ.ofFnN (Tr.get .nil) sg3 none (reedpenlaw10_CoverSets_3 fuel))) (Summ.ofFnN_ok sums_nil (ok3 fuel)) rfl (a := .pair (.list (.pair (.int .i64) (.int .i64))) (.pair (.list (.pair (.int .i64) (.pair (.int .i64) (.int .i64)))) (.pair (.int .i64) (.unit)))) rfl (x := (x0, x1, x2, ())) (us := [_, _, _]) ⟨_, _, rfl, y0, ⟨_, _, rfl, y1, ⟨_, _, rfl, y2, rfl⟩⟩⟩ hp').mono fun e W' ⟨he, bel⟩ => ?_
  subst he
  exact ⟨_, rfl, _, _, _, [], _, [], hW', trodAll_mk1 (shut_bool Try.underlying4 _), (trodAll_cons_mk (Below.trod laidOut (by kernel_rfl) (of_decide_eq_true (by kernel_rfl)) k0 bel lt0) (trodAll_cons_mk (Below.trod laidOut (by kernel_rfl) (of_decide_eq_true (by kernel_rfl)) k1 bel lt1) (trodAll_cons_mk (Below.trod laidOut (by kernel_rfl) (of_decide_eq_true (by kernel_rfl)) k2 bel lt2) trodAll_mk0))), rfl, bel.frame _, fun h => by cases h⟩
set_option maxHeartbeats 4000000 in
theorem closed : joinedFacts Try.prog 3 Try.f3 Rows.coverSetsSpec Rows.coverSetsRow = true := by
  unfold joinedFacts
  rw [pLift, pMake, pPlain]
  repeat' with_reducible refine b2 ?_ ?_
  all_goals first | with_reducible exact laidOut | with_reducible exact pMaps | with_reducible exact pHeard | with_reducible exact pEnter | as_aux_lemma => kernel_rfl
set_option maxHeartbeats 4000000 in
theorem over : Rows.coverSetsRow.holds Try.pinned (OpenSpec.ofChange Rows.coverSetsSpec) :=
  OpenClaim.holds_of_wide 3 Try.f3 rfl rfl rfl rfl rfl rfl rfl ⟨rfl, rfl, rfl, rfl, rfl⟩ rfl rfl rfl rfl rfl (by as_aux_lemma => kernel_rfl) Try.func3 closed
    (of_decide_eq_true (by as_aux_lemma => kernel_rfl)) (by unfold Func.isWrapper; first | (rw [if_pos (by decide +kernel)]; kernel_rfl) | (rw [if_neg (by decide +kernel)]; exact ⟨rfl, rfl⟩))
    (fun os started H enc _ => lifted os started H enc)
end Go.Proofs.Ytgfimeagodcdjaa.coverSets
namespace Go.Proofs.Ytgfimeagodcdjaa
theorem coverSets_holds : Rows.CoverSetsSaid := coverSets.over
#print axioms coverSets_holds
end Go.Proofs.Ytgfimeagodcdjaa
