/- The statement CoverSets and its reference. -/
import Derived.Test.YtgfimeagodcdjaaC1
set_option linter.unusedSimpArgs false
set_option linter.unusedVariables false
set_option linter.unusedSectionVars false
namespace Go.Proofs.Ytgfimeagodcdjaa
open Go Go.Proofs Go.AM
set_option maxRecDepth 100000

/-! reedpen/reedpenlaw10.alive -/
def sg23 : Sig := ⟨⟨[], []⟩, 0, ⟨[(0, .one (.pure (.bool)))], []⟩, 1, 0⟩
noncomputable def CL23 (_fuel : Nat) : Sums := Tr.get .nil
noncomputable def S23 (fuel : Nat) : Sums := Tr.get (.node (.node (.node (.node .nil 26 (Summ.ofFnN (CL23 fuel) sg26 (some (.pair (.list (.pair (.int .i64) (.pair (.int .i64) (.int .i64)))) (.pair (.int .i64) (.unit)), .agg (.pair (.list (.pair (.int .i64) (.int .i64))) (.bool)))) (cover_With_26 fuel)) .nil) 27 (Summ.ofFnN (CL23 fuel) sg27 (some (.pair (.list (.pair (.int .i64) (.int .i64))) (.pair (.agg (.pair (.list (.pair (.int .i64) (.int .i64))) (.bool))) (.unit)), .list (.pair (.int .i64) (.int .i64)))) (cover_Both_27 fuel)) .nil) 83 (Summ.ofFnN (CL23 fuel) sg83 (some (.pair (.list (.int .u8)) (.pair (.int .i64) (.unit)), .pair (.list (.pair (.int .i64) (.int .i64))) (.pair (.bool) (.unit)))) (cover_Cover_83 fuel)) (.node .nil 84 (Summ.ofFnN (CL23 fuel) sg84 (some (.pair (.list (.int .u8)) (.pair (.int .i64) (.unit)), .pair (.list (.pair (.int .i64) (.pair (.int .i64) (.int .i64)))) (.pair (.bool) (.unit)))) (cover_Classes_84 fuel)) .nil)) 85 (Summ.ofFnN (CL23 fuel) sg85 (some (.pair (.list (.pair (.int .i64) (.int .i64))) (.pair (.int .i64) (.unit)), .int .i64)) (cover_Index_85 fuel)) (.node (.node .nil 86 (Summ.ofFnN (CL23 fuel) sg86 (some (.pair (.list (.pair (.int .i64) (.int .i64))) (.unit), .int .i64)) (cover_Count_86 fuel)) .nil) 87 (Summ.ofFnN (CL23 fuel) sg87 (some (.pair (.list (.pair (.int .i64) (.pair (.int .i64) (.int .i64)))) (.pair (.int .i64) (.unit)), .int .i64)) (cover_Of_87 fuel)) (.node .nil 88 (Summ.ofFnN (CL23 fuel) sg88 (some (.pair (.agg (.pair (.list (.pair (.int .i64) (.int .i64))) (.bool))) (.pair (.int .i64) (.unit)), .bool)) (cover_Has_88 fuel)) .nil)))
noncomputable def cd23 : Code := Try.f23.body.getD .skip
noncomputable def an23 : Ann := .leaf
noncomputable def F23 (fuel : Nat) (d : DL sg23.ins.leafs) : Option (DL sg23.outs.leafs) := funN E (S23 fuel) (runDraw E (S23 fuel)) an23 cd23 52 [.tmp 0] sg23 fuel d
noncomputable def reedpenlaw10_alive_23 : Nat → Unit → Option (Bool × Unit) :=
  fun (fuel : Nat) =>
    U0
      (bindO (cover_Cover_83 fuel ([(0 : Int), (1 : Int), (0 : Int), (2 : Int), (0 : Int), (5 : Int), (0 : Int), (6 : Int)], (0 : Int), ()))
        (U2 fun (y_1_0 : List (Int × Int)) (y_1_1 : Bool) =>
          bindO (cover_Classes_84 fuel ([(0 : Int), (1 : Int), (0 : Int), (5 : Int), (0 : Int), (2 : Int), (0 : Int), (0 : Int), (0 : Int), (3 : Int)], (0 : Int), ()))
            (U2 fun (y_3_0 : List (Int × Int × Int)) (y_3_1 : Bool) =>
              bif y_1_1 == true then
                bif y_3_1 == true then
                  bif ((↑(List.length y_1_0) : Int) == (1 : Int)) == true then
                    bindO (cover_Index_85 fuel (y_1_0, (6 : Int), ()))
                      (U1 fun (y_5_0 : Int) =>
                        bif (y_5_0 == (1 : Int)) == true then
                          bindO (cover_Count_86 fuel (y_1_0, ()))
                            (U1 fun (y_6_0 : Int) =>
                              bif (y_6_0 == (2 : Int)) == true then
                                bindO (cover_Of_87 fuel (y_3_0, (6 : Int), ()))
                                  (U1 fun (y_7_0 : Int) =>
                                    bif (y_7_0 == (3 : Int)) == true then
                                      bindO (cover_With_26 fuel (y_3_0, (0 : Int), ()))
                                        (U1 fun (y_8_0 : List (Int × Int) × Bool) =>
                                          bindO (cover_Has_88 fuel ((Prod.fst y_8_0, Prod.snd y_8_0), (5 : Int), ()))
                                            (U1 fun (y_9_0 : Bool) =>
                                              bif y_9_0 == true then
                                                bindO (cover_With_26 fuel (y_3_0, (3 : Int), ()))
                                                  (U1 fun (y_10_0 : List (Int × Int) × Bool) =>
                                                    bindO (cover_Both_27 fuel (y_1_0, (Prod.fst y_10_0, Prod.snd y_10_0), ()))
                                                      (U1 fun (y_11_0 : List (Int × Int)) => some ((↑(List.length y_11_0) : Int) == (1 : Int), ())))
                                              else some (false, ())))
                                    else some (false, ()))
                              else some (false, ()))
                        else some (false, ()))
                  else some (false, ())
                else some (false, ())
              else some (false, ()))))
theorem CL23_ok (fuel : Nat) : Sums.Ok Try.prog (CL23 fuel) := sums_of trivial
theorem S23_ok (fuel : Nat) : Sums.Ok Try.prog (S23 fuel) := sums_of ⟨⟨⟨⟨trivial, Summ.ofFnN_ok (CL23_ok fuel) (ok26 fuel), trivial⟩, Summ.ofFnN_ok (CL23_ok fuel) (ok27 fuel), trivial⟩, Summ.ofFnN_ok (CL23_ok fuel) (ok83 fuel), ⟨trivial, Summ.ofFnN_ok (CL23_ok fuel) (ok84 fuel), trivial⟩⟩, Summ.ofFnN_ok (CL23_ok fuel) (ok85 fuel), ⟨⟨trivial, Summ.ofFnN_ok (CL23_ok fuel) (ok86 fuel), trivial⟩, Summ.ofFnN_ok (CL23_ok fuel) (ok87 fuel), ⟨trivial, Summ.ofFnN_ok (CL23_ok fuel) (ok88 fuel), trivial⟩⟩⟩
theorem eq23_ : F23 = reedpenlaw10_alive_23 := by kernel_rfl
theorem ok23 (fuel : Nat) : FnOkN Try.prog 23 sg23 (reedpenlaw10_alive_23 fuel) := by
  have h := funN_ok (s := sg23) (an := an23) (fuel := fuel) (fn := Try.f23) (c := cd23) E_ok (S23_ok fuel) (runDraw_ok mixed E_ok (S23_ok fuel)) (enters_of Try.func23 rfl rfl) Try.func23 rfl (by decide)
  exact (congrFun eq23_ fuel) ▸ h

/-! reedpen/reedpenref10.Right -/
def sg24 : Sig := ⟨⟨[(0, .one (.pure (.list (.pair (.int .i64) (.int .i64)))))], []⟩, 1, ⟨[(0, .one (.pure (.bool)))], []⟩, 1, 0⟩
noncomputable def CL24 (_fuel : Nat) : Sums := Tr.get .nil
noncomputable def S24 (_fuel : Nat) : Sums := Tr.get .nil
noncomputable def cd24 : Code := Try.f24.body.getD .skip
noncomputable def an24 : Ann := (.seq .leaf (.seq (.seq .leaf (.join ⟨[(0, .one (.pure (.list (.pair (.int .i64) (.int .i64)))))], []⟩ (.block (.loop ⟨[(0, .one (.pure (.list (.pair (.int .i64) (.int .i64))))), (3, .one (.pure (.int .i64)))], []⟩ .leaf)))) .leaf))
noncomputable def F24 (fuel : Nat) (d : DL sg24.ins.leafs) : Option (DL sg24.outs.leafs) := funN E (S24 fuel) (runDraw E (S24 fuel)) an24 cd24 59 [.tmp 2] sg24 fuel d
noncomputable def reedpenref10_Right_24_L1 : (List (Int × Int) × Int × Unit → Option (List (Int × Int) × Unit ⊕ Bool × Unit)) → List (Int × Int) × Int × Unit → Option (List (Int × Int) × Unit ⊕ Bool × Unit) :=
  fun (rec_2 : List (Int × Int) × Int × Unit → Option (List (Int × Int) × Unit ⊕ Bool × Unit)) =>
    U2 fun (d_3_0 : List (Int × Int)) (d_3_1 : Int) =>
      bif decide (d_3_1 < (↑(List.length d_3_0) : Int)) then
        bif decide ((0 : Int) ≤ d_3_1 ∧ d_3_1 < (↑(List.length d_3_0) : Int)) then
          bif decide (Prod.fst (List.getD d_3_0 (Int.toNat d_3_1) ((0 : Int), (0 : Int))) < (0 : Int)) == false then
            bif decide ((0 : Int) ≤ d_3_1 ∧ d_3_1 < (↑(List.length d_3_0) : Int)) then
              bif decide (Prod.snd (List.getD d_3_0 (Int.toNat d_3_1) ((0 : Int), (0 : Int))) > (65535 : Int)) == false then
                bif decide ((0 : Int) ≤ d_3_1 ∧ d_3_1 < (↑(List.length d_3_0) : Int)) then
                  bif decide ((0 : Int) ≤ d_3_1 ∧ d_3_1 < (↑(List.length d_3_0) : Int)) then
                    bif
                        decide (Prod.fst (List.getD d_3_0 (Int.toNat d_3_1) ((0 : Int), (0 : Int))) > Prod.snd (List.getD d_3_0 (Int.toNat d_3_1) ((0 : Int), (0 : Int)))) ==
                          false then
                      bif decide (d_3_1 > (0 : Int)) == true then
                        bif decide ((0 : Int) ≤ d_3_1 ∧ d_3_1 < (↑(List.length d_3_0) : Int)) then
                          bif decide ((0 : Int) ≤ IntKind.wrap IntKind.i64 (d_3_1 - (1 : Int)) ∧ IntKind.wrap IntKind.i64 (d_3_1 - (1 : Int)) < (↑(List.length d_3_0) : Int)) then
                            bif
                                decide
                                  (IntKind.wrap IntKind.i64 (Prod.fst (List.getD d_3_0 (Int.toNat d_3_1) ((0 : Int), (0 : Int))) - (1 : Int)) ≤
                                    Prod.snd (List.getD d_3_0 (Int.toNat (IntKind.wrap IntKind.i64 (d_3_1 - (1 : Int)))) ((0 : Int), (0 : Int)))) then
                              some (Sum.inr (false, ()))
                            else rec_2 (d_3_0, IntKind.wrap IntKind.i64 (d_3_1 + (1 : Int)), ())
                          else none
                        else none
                      else rec_2 (d_3_0, IntKind.wrap IntKind.i64 (d_3_1 + (1 : Int)), ())
                    else some (Sum.inr (false, ()))
                  else none
                else none
              else some (Sum.inr (false, ()))
            else none
          else some (Sum.inr (false, ()))
        else none
      else some (Sum.inl (d_3_0, ()))
noncomputable def reedpenref10_Right_24 : Nat → List (Int × Int) × Unit → Option (Bool × Unit) :=
  fun (fuel : Nat) =>
    U1 fun (a_1_0 : List (Int × Int)) =>
      afterJoin (iter reedpenref10_Right_24_L1 fuel (a_1_0, (0 : Int), ()))
        (U1 fun (d_2_0 : List (Int × Int)) => some (decide ((↑(List.length d_2_0) : Int) ≤ (5000 : Int)), ()))
theorem CL24_ok (fuel : Nat) : Sums.Ok Try.prog (CL24 fuel) := sums_of trivial
theorem S24_ok (fuel : Nat) : Sums.Ok Try.prog (S24 fuel) := sums_of trivial
theorem eq24_ : F24 = reedpenref10_Right_24 := by kernel_rfl
theorem ok24 (fuel : Nat) : FnOkN Try.prog 24 sg24 (reedpenref10_Right_24 fuel) := by
  have h := funN_ok (s := sg24) (an := an24) (fuel := fuel) (fn := Try.f24) (c := cd24) E_ok (S24_ok fuel) (runDraw_ok mixed E_ok (S24_ok fuel)) (enters_of Try.func24 rfl rfl) Try.func24 rfl (by decide)
  exact (congrFun eq24_ fuel) ▸ h

/-! reedpen/reedpenref10.RightClasses -/
def sg25 : Sig := ⟨⟨[(0, .one (.pure (.list (.pair (.int .i64) (.pair (.int .i64) (.int .i64))))))], []⟩, 1, ⟨[(0, .one (.pure (.bool)))], []⟩, 1, 0⟩
noncomputable def CL25 (_fuel : Nat) : Sums := Tr.get .nil
noncomputable def S25 (_fuel : Nat) : Sums := Tr.get .nil
noncomputable def cd25 : Code := Try.f25.body.getD .skip
noncomputable def an25 : Ann := (.seq .leaf (.seq (.seq .leaf (.join ⟨[(0, .one (.pure (.list (.pair (.int .i64) (.pair (.int .i64) (.int .i64))))))], []⟩ (.block (.loop ⟨[(0, .one (.pure (.list (.pair (.int .i64) (.pair (.int .i64) (.int .i64)))))), (3, .one (.pure (.int .i64)))], []⟩ .leaf)))) .leaf))
noncomputable def F25 (fuel : Nat) (d : DL sg25.ins.leafs) : Option (DL sg25.outs.leafs) := funN E (S25 fuel) (runDraw E (S25 fuel)) an25 cd25 81 [.tmp 2] sg25 fuel d
noncomputable def reedpenref10_RightClasses_25_L1 : (List (Int × Int × Int) × Int × Unit → Option (List (Int × Int × Int) × Unit ⊕ Bool × Unit)) →
  List (Int × Int × Int) × Int × Unit → Option (List (Int × Int × Int) × Unit ⊕ Bool × Unit) :=
  fun (rec_2 : List (Int × Int × Int) × Int × Unit → Option (List (Int × Int × Int) × Unit ⊕ Bool × Unit)) =>
    U2 fun (d_3_0 : List (Int × Int × Int)) (d_3_1 : Int) =>
      bif decide (d_3_1 < (↑(List.length d_3_0) : Int)) then
        bif decide ((0 : Int) ≤ d_3_1 ∧ d_3_1 < (↑(List.length d_3_0) : Int)) then
          bif decide (Prod.fst (List.getD d_3_0 (Int.toNat d_3_1) ((0 : Int), (0 : Int), (0 : Int))) < (0 : Int)) == false then
            bif decide (Prod.fst (Prod.snd (List.getD d_3_0 (Int.toNat d_3_1) ((0 : Int), (0 : Int), (0 : Int)))) > (65535 : Int)) == false then
              bif
                  decide
                      (Prod.fst (List.getD d_3_0 (Int.toNat d_3_1) ((0 : Int), (0 : Int), (0 : Int))) >
                        Prod.fst (Prod.snd (List.getD d_3_0 (Int.toNat d_3_1) ((0 : Int), (0 : Int), (0 : Int))))) ==
                    false then
                bif decide (Prod.snd (Prod.snd (List.getD d_3_0 (Int.toNat d_3_1) ((0 : Int), (0 : Int), (0 : Int)))) < (1 : Int)) == false then
                  bif decide (Prod.snd (Prod.snd (List.getD d_3_0 (Int.toNat d_3_1) ((0 : Int), (0 : Int), (0 : Int)))) > (65535 : Int)) == false then
                    bif decide (d_3_1 > (0 : Int)) == true then
                      bif decide ((0 : Int) ≤ IntKind.wrap IntKind.i64 (d_3_1 - (1 : Int)) ∧ IntKind.wrap IntKind.i64 (d_3_1 - (1 : Int)) < (↑(List.length d_3_0) : Int)) then
                        bif
                            decide
                                (Prod.fst (List.getD d_3_0 (Int.toNat d_3_1) ((0 : Int), (0 : Int), (0 : Int))) ≤
                                  Prod.fst (Prod.snd (List.getD d_3_0 (Int.toNat (IntKind.wrap IntKind.i64 (d_3_1 - (1 : Int)))) ((0 : Int), (0 : Int), (0 : Int))))) ==
                              false then
                          bif decide ((0 : Int) ≤ IntKind.wrap IntKind.i64 (d_3_1 - (1 : Int)) ∧ IntKind.wrap IntKind.i64 (d_3_1 - (1 : Int)) < (↑(List.length d_3_0) : Int)) then
                            bif
                                (Prod.fst (List.getD d_3_0 (Int.toNat d_3_1) ((0 : Int), (0 : Int), (0 : Int))) ==
                                    IntKind.wrap IntKind.i64
                                      (Prod.fst (Prod.snd (List.getD d_3_0 (Int.toNat (IntKind.wrap IntKind.i64 (d_3_1 - (1 : Int)))) ((0 : Int), (0 : Int), (0 : Int)))) +
                                        (1 : Int))) ==
                                  true then
                              bif decide ((0 : Int) ≤ IntKind.wrap IntKind.i64 (d_3_1 - (1 : Int)) ∧ IntKind.wrap IntKind.i64 (d_3_1 - (1 : Int)) < (↑(List.length d_3_0) : Int)) then
                                bif
                                    Prod.snd (Prod.snd (List.getD d_3_0 (Int.toNat d_3_1) ((0 : Int), (0 : Int), (0 : Int)))) ==
                                      Prod.snd (Prod.snd (List.getD d_3_0 (Int.toNat (IntKind.wrap IntKind.i64 (d_3_1 - (1 : Int)))) ((0 : Int), (0 : Int), (0 : Int)))) then
                                  some (Sum.inr (false, ()))
                                else rec_2 (d_3_0, IntKind.wrap IntKind.i64 (d_3_1 + (1 : Int)), ())
                              else none
                            else rec_2 (d_3_0, IntKind.wrap IntKind.i64 (d_3_1 + (1 : Int)), ())
                          else none
                        else some (Sum.inr (false, ()))
                      else none
                    else rec_2 (d_3_0, IntKind.wrap IntKind.i64 (d_3_1 + (1 : Int)), ())
                  else some (Sum.inr (false, ()))
                else some (Sum.inr (false, ()))
              else some (Sum.inr (false, ()))
            else some (Sum.inr (false, ()))
          else some (Sum.inr (false, ()))
        else none
      else some (Sum.inl (d_3_0, ()))
noncomputable def reedpenref10_RightClasses_25 : Nat → List (Int × Int × Int) × Unit → Option (Bool × Unit) :=
  fun (fuel : Nat) =>
    U1 fun (a_1_0 : List (Int × Int × Int)) =>
      afterJoin (iter reedpenref10_RightClasses_25_L1 fuel (a_1_0, (0 : Int), ()))
        (U1 fun (d_2_0 : List (Int × Int × Int)) => some (decide ((↑(List.length d_2_0) : Int) ≤ (5000 : Int)), ()))
theorem CL25_ok (fuel : Nat) : Sums.Ok Try.prog (CL25 fuel) := sums_of trivial
theorem S25_ok (fuel : Nat) : Sums.Ok Try.prog (S25 fuel) := sums_of trivial
theorem eq25_ : F25 = reedpenref10_RightClasses_25 := by kernel_rfl
theorem ok25 (fuel : Nat) : FnOkN Try.prog 25 sg25 (reedpenref10_RightClasses_25 fuel) := by
  have h := funN_ok (s := sg25) (an := an25) (fuel := fuel) (fn := Try.f25) (c := cd25) E_ok (S25_ok fuel) (runDraw_ok mixed E_ok (S25_ok fuel)) (enters_of Try.func25 rfl rfl) Try.func25 rfl (by decide)
  exact (congrFun eq25_ fuel) ▸ h

/-! reedpen/reedpenref10.Same -/
def sg28 : Sig := ⟨⟨[(0, .one (.pure (.list (.pair (.int .i64) (.int .i64))))), (1, .one (.pure (.list (.pair (.int .i64) (.int .i64)))))], []⟩, 2, ⟨[(0, .one (.pure (.bool)))], []⟩, 1, 0⟩
noncomputable def CL28 (_fuel : Nat) : Sums := Tr.get .nil
noncomputable def S28 (_fuel : Nat) : Sums := Tr.get .nil
noncomputable def cd28 : Code := Try.f28.body.getD .skip
noncomputable def an28 : Ann := (.seq .leaf (.seq .leaf (.seq (.seq .leaf (.join ⟨[], []⟩ (.block (.loop ⟨[(0, .one (.pure (.list (.pair (.int .i64) (.int .i64))))), (1, .one (.pure (.list (.pair (.int .i64) (.int .i64))))), (5, .one (.pure (.int .i64)))], []⟩ .leaf)))) .leaf)))
noncomputable def F28 (fuel : Nat) (d : DL sg28.ins.leafs) : Option (DL sg28.outs.leafs) := funN E (S28 fuel) (runDraw E (S28 fuel)) an28 cd28 26 [.tmp 4] sg28 fuel d
noncomputable def reedpenref10_Same_28_L1 : (List (Int × Int) × List (Int × Int) × Int × Unit → Option (Unit ⊕ Bool × Unit)) → List (Int × Int) × List (Int × Int) × Int × Unit → Option (Unit ⊕ Bool × Unit) :=
  fun (rec_3 : List (Int × Int) × List (Int × Int) × Int × Unit → Option (Unit ⊕ Bool × Unit)) =>
    U3 fun (d_4_0 d_4_1 : List (Int × Int)) (d_4_2 : Int) =>
      bif decide (d_4_2 < (↑(List.length d_4_0) : Int)) then
        bif decide ((0 : Int) ≤ d_4_2 ∧ d_4_2 < (↑(List.length d_4_0) : Int)) then
          bif decide ((0 : Int) ≤ d_4_2 ∧ d_4_2 < (↑(List.length d_4_1) : Int)) then
            bif
                !decide
                    ((Prod.fst (List.getD d_4_0 (Int.toNat d_4_2) ((0 : Int), (0 : Int))), Prod.snd (List.getD d_4_0 (Int.toNat d_4_2) ((0 : Int), (0 : Int)))) =
                      (Prod.fst (List.getD d_4_1 (Int.toNat d_4_2) ((0 : Int), (0 : Int))), Prod.snd (List.getD d_4_1 (Int.toNat d_4_2) ((0 : Int), (0 : Int))))) then
              some (Sum.inr (false, ()))
            else rec_3 (d_4_0, d_4_1, IntKind.wrap IntKind.i64 (d_4_2 + (1 : Int)), ())
          else none
        else none
      else some (Sum.inl ())
noncomputable def reedpenref10_Same_28 : Nat → List (Int × Int) × List (Int × Int) × Unit → Option (Bool × Unit) :=
  fun (fuel : Nat) =>
    U2 fun (a_1_0 a_1_1 : List (Int × Int)) =>
      bif (↑(List.length a_1_0) : Int) != (↑(List.length a_1_1) : Int) then some (false, ())
      else afterJoin (iter reedpenref10_Same_28_L1 fuel (a_1_0, a_1_1, (0 : Int), ())) (U0 (some (true, ())))
theorem CL28_ok (fuel : Nat) : Sums.Ok Try.prog (CL28 fuel) := sums_of trivial
theorem S28_ok (fuel : Nat) : Sums.Ok Try.prog (S28 fuel) := sums_of trivial
theorem eq28_ : F28 = reedpenref10_Same_28 := by kernel_rfl
theorem ok28 (fuel : Nat) : FnOkN Try.prog 28 sg28 (reedpenref10_Same_28 fuel) := by
  have h := funN_ok (s := sg28) (an := an28) (fuel := fuel) (fn := Try.f28) (c := cd28) E_ok (S28_ok fuel) (runDraw_ok mixed E_ok (S28_ok fuel)) (enters_of Try.func28 rfl rfl) Try.func28 rfl (by decide)
  exact (congrFun eq28_ fuel) ▸ h

/-! reedpen/reedpenref10.Spans -/
def sg29 : Sig := ⟨⟨[(0, .one (.pure (.list (.bool))))], []⟩, 1, ⟨[(0, .one (.pure (.list (.pair (.int .i64) (.int .i64)))))], []⟩, 1, 0⟩
noncomputable def CL29 (_fuel : Nat) : Sums := Tr.get .nil
noncomputable def S29 (_fuel : Nat) : Sums := Tr.get .nil
noncomputable def cd29 : Code := Try.f29.body.getD .skip
noncomputable def an29 : Ann := (.seq .leaf (.seq .leaf (.seq (.seq .leaf (.join ⟨[(3, .one (.own (.h 3 0)))], [((.h 3 0), .row 35 (.pair (.int .i64) (.int .i64)))]⟩ (.block (.loop ⟨[(0, .one (.pure (.list (.bool)))), (3, .one (.own (.h 3 0))), (4, .one (.pure (.int .i64)))], [((.h 3 0), .row 35 (.pair (.int .i64) (.int .i64)))]⟩ (.seq .leaf (.seq (.join ⟨[(0, .one (.pure (.list (.bool)))), (3, .one (.own (.h 3 0))), (4, .one (.pure (.int .i64)))], [((.h 3 0), .row 35 (.pair (.int .i64) (.int .i64)))]⟩ (.block (.seq .leaf (.seq .leaf (.seq (.join ⟨[(0, .one (.pure (.list (.bool)))), (3, .one (.own (.h 3 0))), (4, .one (.pure (.int .i64))), (5, .one (.pure (.int .i64)))], [((.h 3 0), .row 35 (.pair (.int .i64) (.int .i64)))]⟩ (.block (.loop ⟨[(0, .one (.pure (.list (.bool)))), (3, .one (.own (.h 3 0))), (4, .one (.pure (.int .i64))), (5, .one (.pure (.int .i64)))], [((.h 3 0), .row 35 (.pair (.int .i64) (.int .i64)))]⟩ .leaf))) .leaf))))) .leaf)))))) .leaf)))
noncomputable def F29 (fuel : Nat) (d : DL sg29.ins.leafs) : Option (DL sg29.outs.leafs) := funN E (S29 fuel) (runDraw E (S29 fuel)) an29 cd29 40 [.tmp 2] sg29 fuel d
noncomputable def reedpenref10_Spans_29_L1 : (List Bool × Int × Int × List (Int × Int) × Unit →
    Option (List Bool × Int × Int × List (Int × Int) × Unit ⊕ List Bool × Int × List (Int × Int) × Unit ⊕ List (Int × Int) × Unit ⊕ List (Int × Int) × Unit)) →
  List Bool × Int × Int × List (Int × Int) × Unit →
    Option (List Bool × Int × Int × List (Int × Int) × Unit ⊕ List Bool × Int × List (Int × Int) × Unit ⊕ List (Int × Int) × Unit ⊕ List (Int × Int) × Unit) :=
  fun
      (rec_6 :
        List Bool × Int × Int × List (Int × Int) × Unit →
          Option (List Bool × Int × Int × List (Int × Int) × Unit ⊕ List Bool × Int × List (Int × Int) × Unit ⊕ List (Int × Int) × Unit ⊕ List (Int × Int) × Unit)) =>
    U4 fun (d_7_0 : List Bool) (d_7_1 d_7_2 : Int) (d_7_3 : List (Int × Int)) =>
      bif decide (IntKind.wrap IntKind.i64 (d_7_2 + (1 : Int)) < (↑(List.length d_7_0) : Int)) == true then
        bif decide ((0 : Int) ≤ IntKind.wrap IntKind.i64 (d_7_2 + (1 : Int)) ∧ IntKind.wrap IntKind.i64 (d_7_2 + (1 : Int)) < (↑(List.length d_7_0) : Int)) then
          bif List.getD d_7_0 (Int.toNat (IntKind.wrap IntKind.i64 (d_7_2 + (1 : Int)))) false then
            rec_6 (d_7_0, d_7_1, IntKind.wrap IntKind.i64 (d_7_2 + (1 : Int)), d_7_3, ())
          else some (Sum.inl (d_7_0, d_7_1, d_7_2, d_7_3, ()))
        else none
      else some (Sum.inl (d_7_0, d_7_1, d_7_2, d_7_3, ()))
noncomputable def reedpenref10_Spans_29_L2 : Nat →
  (List Bool × Int × List (Int × Int) × Unit → Option (List (Int × Int) × Unit ⊕ List (Int × Int) × Unit)) →
    List Bool × Int × List (Int × Int) × Unit → Option (List (Int × Int) × Unit ⊕ List (Int × Int) × Unit) :=
  fun (fuel : Nat) (rec_2 : List Bool × Int × List (Int × Int) × Unit → Option (List (Int × Int) × Unit ⊕ List (Int × Int) × Unit)) =>
    U3 fun (d_3_0 : List Bool) (d_3_1 : Int) (d_3_2 : List (Int × Int)) =>
      bif decide (d_3_1 < (↑(List.length d_3_0) : Int)) then
        afterJoin
          (bif decide ((0 : Int) ≤ d_3_1 ∧ d_3_1 < (↑(List.length d_3_0) : Int)) then
            bif !List.getD d_3_0 (Int.toNat d_3_1) false then some (Sum.inl (d_3_0, d_3_1, d_3_2, ()))
            else
              afterJoin (iter reedpenref10_Spans_29_L1 fuel (d_3_0, d_3_1, d_3_1, d_3_2, ()))
                (U4 fun (d_6_0 : List Bool) (d_6_1 d_6_2 : Int) (d_6_3 : List (Int × Int)) =>
                  bif decide (List.length d_6_3 + List.length [(d_6_1, d_6_2)] < (8796093022208 : Nat)) then some (Sum.inl (d_6_0, d_6_2, d_6_3 ++ [(d_6_1, d_6_2)], ()))
                  else none)
          else none)
          (U3 fun (d_6_0 : List Bool) (d_6_1 : Int) (d_6_2 : List (Int × Int)) => rec_2 (d_6_0, IntKind.wrap IntKind.i64 (d_6_1 + (1 : Int)), d_6_2, ()))
      else some (Sum.inl (d_3_2, ()))
noncomputable def reedpenref10_Spans_29 : Nat → List Bool × Unit → Option (List (Int × Int) × Unit) :=
  fun (fuel : Nat) =>
    U1 fun (a_1_0 : List Bool) =>
      afterJoin (iter (reedpenref10_Spans_29_L2 fuel) fuel (a_1_0, (0 : Int), [], ())) (U1 fun (d_2_0 : List (Int × Int)) => some (d_2_0, ()))
theorem CL29_ok (fuel : Nat) : Sums.Ok Try.prog (CL29 fuel) := sums_of trivial
theorem S29_ok (fuel : Nat) : Sums.Ok Try.prog (S29 fuel) := sums_of trivial
theorem eq29_ : F29 = reedpenref10_Spans_29 := by kernel_rfl
theorem ok29 (fuel : Nat) : FnOkN Try.prog 29 sg29 (reedpenref10_Spans_29 fuel) := by
  have h := funN_ok (s := sg29) (an := an29) (fuel := fuel) (fn := Try.f29) (c := cd29) E_ok (S29_ok fuel) (runDraw_ok mixed E_ok (S29_ok fuel)) (enters_of Try.func29 rfl rfl) Try.func29 rfl (by decide)
  exact (congrFun eq29_ fuel) ▸ h

/-! reedpen/reedpenlaw10.CoverSets -/
def sg3 : Sig := ⟨⟨[(0, .one (.pure (.list (.pair (.int .i64) (.int .i64))))), (1, .one (.pure (.list (.pair (.int .i64) (.pair (.int .i64) (.int .i64)))))), (2, .one (.pure (.int .i64)))], []⟩, 3, ⟨[(0, .one (.pure (.bool)))], []⟩, 1, 0⟩
noncomputable def CL3 (_fuel : Nat) : Sums := Tr.get .nil
noncomputable def S3 (fuel : Nat) : Sums := Tr.get (.node (.node (.node .nil 23 (Summ.ofFnN (CL3 fuel) sg23 (some (.unit, .bool)) (reedpenlaw10_alive_23 fuel)) .nil) 24 (Summ.ofFnN (CL3 fuel) sg24 (some (.pair (.list (.pair (.int .i64) (.int .i64))) (.unit), .bool)) (reedpenref10_Right_24 fuel)) (.node .nil 25 (Summ.ofFnN (CL3 fuel) sg25 (some (.pair (.list (.pair (.int .i64) (.pair (.int .i64) (.int .i64)))) (.unit), .bool)) (reedpenref10_RightClasses_25 fuel)) .nil)) 26 (Summ.ofFnN (CL3 fuel) sg26 (some (.pair (.list (.pair (.int .i64) (.pair (.int .i64) (.int .i64)))) (.pair (.int .i64) (.unit)), .agg (.pair (.list (.pair (.int .i64) (.int .i64))) (.bool)))) (cover_With_26 fuel)) (.node (.node .nil 27 (Summ.ofFnN (CL3 fuel) sg27 (some (.pair (.list (.pair (.int .i64) (.int .i64))) (.pair (.agg (.pair (.list (.pair (.int .i64) (.int .i64))) (.bool))) (.unit)), .list (.pair (.int .i64) (.int .i64)))) (cover_Both_27 fuel)) .nil) 28 (Summ.ofFnN (CL3 fuel) sg28 (some (.pair (.list (.pair (.int .i64) (.int .i64))) (.pair (.list (.pair (.int .i64) (.int .i64))) (.unit)), .bool)) (reedpenref10_Same_28 fuel)) (.node .nil 29 (Summ.ofFnN (CL3 fuel) sg29 (some (.pair (.list (.bool)) (.unit), .list (.pair (.int .i64) (.int .i64)))) (reedpenref10_Spans_29 fuel)) .nil)))
noncomputable def cd3 : Code := Try.f3.body.getD .skip
noncomputable def an3 : Ann := (.seq .leaf (.seq .leaf (.seq .leaf (.seq .leaf (.seq .leaf (.seq .leaf (.seq (.join ⟨[(0, .one (.pure (.list (.pair (.int .i64) (.int .i64))))), (1, .one (.pure (.list (.pair (.int .i64) (.pair (.int .i64) (.int .i64)))))), (2, .one (.pure (.int .i64))), (7, .one (.ptr (.h 7 0) 0)), (8, .one (.pure (.list (.pair (.int .i64) (.int .i64))))), (9, .one (.own (.h 9 0))), (10, .one (.own (.h 10 0)))], [((.h 7 0), .dvar (.pair (.list (.pair (.int .i64) (.int .i64))) (.bool))), ((.h 9 0), .row 4 (.bool)), ((.h 10 0), .row 4 (.bool))]⟩ .leaf) (.seq (.seq .leaf (.join ⟨[(0, .one (.pure (.list (.pair (.int .i64) (.int .i64))))), (2, .one (.pure (.int .i64))), (7, .one (.ptr (.h 7 0) 0)), (8, .one (.pure (.list (.pair (.int .i64) (.int .i64))))), (9, .one (.own (.h 9 0))), (10, .one (.own (.h 10 0)))], [((.h 7 0), .dvar (.pair (.list (.pair (.int .i64) (.int .i64))) (.bool))), ((.h 9 0), .row 4 (.bool)), ((.h 10 0), .row 4 (.bool))]⟩ (.block (.loop ⟨[(0, .one (.pure (.list (.pair (.int .i64) (.int .i64))))), (1, .one (.pure (.list (.pair (.int .i64) (.pair (.int .i64) (.int .i64)))))), (2, .one (.pure (.int .i64))), (7, .one (.ptr (.h 7 0) 0)), (8, .one (.pure (.list (.pair (.int .i64) (.int .i64))))), (9, .one (.own (.h 9 0))), (10, .one (.own (.h 10 0))), (11, .one (.pure (.int .i64)))], [((.h 7 0), .dvar (.pair (.list (.pair (.int .i64) (.int .i64))) (.bool))), ((.h 9 0), .row 4 (.bool)), ((.h 10 0), .row 4 (.bool))]⟩ (.seq .leaf (.seq (.block (.seq .leaf (.join ⟨[(0, .one (.pure (.list (.pair (.int .i64) (.int .i64))))), (1, .one (.pure (.list (.pair (.int .i64) (.pair (.int .i64) (.int .i64)))))), (2, .one (.pure (.int .i64))), (7, .one (.ptr (.h 7 0) 0)), (8, .one (.pure (.list (.pair (.int .i64) (.int .i64))))), (9, .one (.own (.h 9 0))), (10, .one (.own (.h 10 0))), (11, .one (.pure (.int .i64)))], [((.h 7 0), .dvar (.pair (.list (.pair (.int .i64) (.int .i64))) (.bool))), ((.h 9 0), .row 4 (.bool)), ((.h 10 0), .row 4 (.bool))]⟩ (.block (.loop ⟨[(0, .one (.pure (.list (.pair (.int .i64) (.int .i64))))), (1, .one (.pure (.list (.pair (.int .i64) (.pair (.int .i64) (.int .i64)))))), (2, .one (.pure (.int .i64))), (7, .one (.ptr (.h 7 0) 0)), (8, .one (.pure (.list (.pair (.int .i64) (.int .i64))))), (9, .one (.own (.h 9 0))), (10, .one (.own (.h 10 0))), (11, .one (.pure (.int .i64))), (12, .one (.pure (.int .i64)))], [((.h 7 0), .dvar (.pair (.list (.pair (.int .i64) (.int .i64))) (.bool))), ((.h 9 0), .row 4 (.bool)), ((.h 10 0), .row 4 (.bool))]⟩ .leaf))))) .leaf)))))) (.seq (.seq .leaf (.join ⟨[(7, .one (.ptr (.h 7 0) 0)), (8, .one (.pure (.list (.pair (.int .i64) (.int .i64))))), (9, .one (.own (.h 9 0))), (10, .one (.own (.h 10 0)))], [((.h 7 0), .dvar (.pair (.list (.pair (.int .i64) (.int .i64))) (.bool))), ((.h 9 0), .row 4 (.bool)), ((.h 10 0), .row 4 (.bool))]⟩ (.block (.loop ⟨[(0, .one (.pure (.list (.pair (.int .i64) (.int .i64))))), (2, .one (.pure (.int .i64))), (7, .one (.ptr (.h 7 0) 0)), (8, .one (.pure (.list (.pair (.int .i64) (.int .i64))))), (9, .one (.own (.h 9 0))), (10, .one (.own (.h 10 0))), (13, .one (.pure (.int .i64)))], [((.h 7 0), .dvar (.pair (.list (.pair (.int .i64) (.int .i64))) (.bool))), ((.h 9 0), .row 4 (.bool)), ((.h 10 0), .row 4 (.bool))]⟩ (.seq .leaf (.seq (.block (.seq .leaf (.join ⟨[(0, .one (.pure (.list (.pair (.int .i64) (.int .i64))))), (2, .one (.pure (.int .i64))), (7, .one (.ptr (.h 7 0) 0)), (8, .one (.pure (.list (.pair (.int .i64) (.int .i64))))), (9, .one (.own (.h 9 0))), (10, .one (.own (.h 10 0))), (13, .one (.pure (.int .i64)))], [((.h 7 0), .dvar (.pair (.list (.pair (.int .i64) (.int .i64))) (.bool))), ((.h 9 0), .row 4 (.bool)), ((.h 10 0), .row 4 (.bool))]⟩ (.block (.loop ⟨[(0, .one (.pure (.list (.pair (.int .i64) (.int .i64))))), (2, .one (.pure (.int .i64))), (7, .one (.ptr (.h 7 0) 0)), (8, .one (.pure (.list (.pair (.int .i64) (.int .i64))))), (9, .one (.own (.h 9 0))), (10, .one (.own (.h 10 0))), (13, .one (.pure (.int .i64))), (14, .one (.pure (.int .i64)))], [((.h 7 0), .dvar (.pair (.list (.pair (.int .i64) (.int .i64))) (.bool))), ((.h 9 0), .row 4 (.bool)), ((.h 10 0), .row 4 (.bool))]⟩ .leaf))))) .leaf)))))) .leaf)))))))))
noncomputable def F3 (fuel : Nat) (d : DL sg3.ins.leafs) : Option (DL sg3.outs.leafs) := funN E (S3 fuel) (runDraw E (S3 fuel)) an3 cd3 134 [.tmp 6] sg3 fuel d
noncomputable def reedpenlaw10_CoverSets_3_L1 : (List (Int × Int) × List (Int × Int × Int) × Int × List (Int × Int) × Int × Int × (List (Int × Int) × Bool) × List Bool × List Bool × Unit →
    Option
      (List (Int × Int) × List (Int × Int × Int) × Int × List (Int × Int) × Int × (List (Int × Int) × Bool) × List Bool × List Bool × Unit ⊕
        List (Int × Int) × Int × List (Int × Int) × (List (Int × Int) × Bool) × List Bool × List Bool × Unit ⊕ Bool × Unit)) →
  List (Int × Int) × List (Int × Int × Int) × Int × List (Int × Int) × Int × Int × (List (Int × Int) × Bool) × List Bool × List Bool × Unit →
    Option
      (List (Int × Int) × List (Int × Int × Int) × Int × List (Int × Int) × Int × (List (Int × Int) × Bool) × List Bool × List Bool × Unit ⊕
        List (Int × Int) × Int × List (Int × Int) × (List (Int × Int) × Bool) × List Bool × List Bool × Unit ⊕ Bool × Unit) :=
  fun
      (rec_27 :
        List (Int × Int) × List (Int × Int × Int) × Int × List (Int × Int) × Int × Int × (List (Int × Int) × Bool) × List Bool × List Bool × Unit →
          Option
            (List (Int × Int) × List (Int × Int × Int) × Int × List (Int × Int) × Int × (List (Int × Int) × Bool) × List Bool × List Bool × Unit ⊕
              List (Int × Int) × Int × List (Int × Int) × (List (Int × Int) × Bool) × List Bool × List Bool × Unit ⊕ Bool × Unit)) =>
    U9
      fun (d_28_0 : List (Int × Int)) (d_28_1 : List (Int × Int × Int)) (d_28_2 : Int) (d_28_3 : List (Int × Int)) (d_28_4 d_28_5 : Int) (d_28_6 : List (Int × Int) × Bool)
        (d_28_7 d_28_8 : List Bool) =>
      bif decide ((0 : Int) ≤ d_28_4 ∧ d_28_4 < (↑(List.length d_28_1) : Int)) then
        bif decide (d_28_5 ≤ Prod.fst (Prod.snd (List.getD d_28_1 (Int.toNat d_28_4) ((0 : Int), (0 : Int), (0 : Int))))) then
          bif (d_28_2 == (0 : Int)) == false then
            bif decide ((0 : Int) ≤ d_28_4 ∧ d_28_4 < (↑(List.length d_28_1) : Int)) then
              bif decide ((0 : Int) ≤ d_28_5 ∧ d_28_5 < (↑(List.length d_28_7) : Int)) then
                rec_27
                  (d_28_0, d_28_1, d_28_2, d_28_3, d_28_4, IntKind.wrap IntKind.i64 (d_28_5 + (1 : Int)), (Prod.fst d_28_6, Prod.snd d_28_6),
                    List.set d_28_7 (Int.toNat d_28_5) (Prod.snd (Prod.snd (List.getD d_28_1 (Int.toNat d_28_4) ((0 : Int), (0 : Int), (0 : Int)))) == d_28_2), d_28_8, ())
              else none
            else none
          else
            bif decide ((0 : Int) ≤ d_28_5 ∧ d_28_5 < (↑(List.length d_28_7) : Int)) then
              rec_27
                (d_28_0, d_28_1, d_28_2, d_28_3, d_28_4, IntKind.wrap IntKind.i64 (d_28_5 + (1 : Int)), (Prod.fst d_28_6, Prod.snd d_28_6), List.set d_28_7 (Int.toNat d_28_5) true,
                  d_28_8, ())
            else none
        else some (Sum.inl (d_28_0, d_28_1, d_28_2, d_28_3, d_28_4, (Prod.fst d_28_6, Prod.snd d_28_6), d_28_7, d_28_8, ()))
      else none
noncomputable def reedpenlaw10_CoverSets_3_L2 : Nat →
  (List (Int × Int) × List (Int × Int × Int) × Int × List (Int × Int) × Int × (List (Int × Int) × Bool) × List Bool × List Bool × Unit →
      Option (List (Int × Int) × Int × List (Int × Int) × (List (Int × Int) × Bool) × List Bool × List Bool × Unit ⊕ Bool × Unit)) →
    List (Int × Int) × List (Int × Int × Int) × Int × List (Int × Int) × Int × (List (Int × Int) × Bool) × List Bool × List Bool × Unit →
      Option (List (Int × Int) × Int × List (Int × Int) × (List (Int × Int) × Bool) × List Bool × List Bool × Unit ⊕ Bool × Unit) :=
  fun (fuel : Nat)
      (rec_18 :
        List (Int × Int) × List (Int × Int × Int) × Int × List (Int × Int) × Int × (List (Int × Int) × Bool) × List Bool × List Bool × Unit →
          Option (List (Int × Int) × Int × List (Int × Int) × (List (Int × Int) × Bool) × List Bool × List Bool × Unit ⊕ Bool × Unit)) =>
    U8
      fun (d_19_0 : List (Int × Int)) (d_19_1 : List (Int × Int × Int)) (d_19_2 : Int) (d_19_3 : List (Int × Int)) (d_19_4 : Int) (d_19_5 : List (Int × Int) × Bool)
        (d_19_6 d_19_7 : List Bool) =>
      bif decide (d_19_4 < (↑(List.length d_19_1) : Int)) then
        bif decide ((0 : Int) ≤ d_19_4 ∧ d_19_4 < (↑(List.length d_19_1) : Int)) then
          afterJoin
            (iter reedpenlaw10_CoverSets_3_L1 fuel
              (d_19_0, d_19_1, d_19_2, d_19_3, d_19_4, Prod.fst (List.getD d_19_1 (Int.toNat d_19_4) ((0 : Int), (0 : Int), (0 : Int))), (Prod.fst d_19_5, Prod.snd d_19_5), d_19_6,
                d_19_7, ()))
            (U8
              fun (d_27_0 : List (Int × Int)) (d_27_1 : List (Int × Int × Int)) (d_27_2 : Int) (d_27_3 : List (Int × Int)) (d_27_4 : Int) (d_27_5 : List (Int × Int) × Bool)
                (d_27_6 d_27_7 : List Bool) =>
              rec_18 (d_27_0, d_27_1, d_27_2, d_27_3, IntKind.wrap IntKind.i64 (d_27_4 + (1 : Int)), (Prod.fst d_27_5, Prod.snd d_27_5), d_27_6, d_27_7, ()))
        else none
      else some (Sum.inl (d_19_0, d_19_2, d_19_3, (Prod.fst d_19_5, Prod.snd d_19_5), d_19_6, d_19_7, ()))
noncomputable def reedpenlaw10_CoverSets_3_L3 : (List (Int × Int) × Int × List (Int × Int) × Int × Int × (List (Int × Int) × Bool) × List Bool × List Bool × Unit →
    Option
      (List (Int × Int) × Int × List (Int × Int) × Int × (List (Int × Int) × Bool) × List Bool × List Bool × Unit ⊕
        List (Int × Int) × (List (Int × Int) × Bool) × List Bool × List Bool × Unit ⊕ Bool × Unit)) →
  List (Int × Int) × Int × List (Int × Int) × Int × Int × (List (Int × Int) × Bool) × List Bool × List Bool × Unit →
    Option
      (List (Int × Int) × Int × List (Int × Int) × Int × (List (Int × Int) × Bool) × List Bool × List Bool × Unit ⊕
        List (Int × Int) × (List (Int × Int) × Bool) × List Bool × List Bool × Unit ⊕ Bool × Unit) :=
  fun
      (rec_32 :
        List (Int × Int) × Int × List (Int × Int) × Int × Int × (List (Int × Int) × Bool) × List Bool × List Bool × Unit →
          Option
            (List (Int × Int) × Int × List (Int × Int) × Int × (List (Int × Int) × Bool) × List Bool × List Bool × Unit ⊕
              List (Int × Int) × (List (Int × Int) × Bool) × List Bool × List Bool × Unit ⊕ Bool × Unit)) =>
    U8 fun (d_33_0 : List (Int × Int)) (d_33_1 : Int) (d_33_2 : List (Int × Int)) (d_33_3 d_33_4 : Int) (d_33_5 : List (Int × Int) × Bool) (d_33_6 d_33_7 : List Bool) =>
      bif decide ((0 : Int) ≤ d_33_3 ∧ d_33_3 < (↑(List.length d_33_0) : Int)) then
        bif decide (d_33_4 ≤ Prod.snd (List.getD d_33_0 (Int.toNat d_33_3) ((0 : Int), (0 : Int)))) then
          bif decide ((0 : Int) ≤ d_33_4 ∧ d_33_4 < (↑(List.length d_33_6) : Int)) then
            bif decide ((0 : Int) ≤ d_33_4 ∧ d_33_4 < (↑(List.length d_33_7) : Int)) then
              rec_32
                (d_33_0, d_33_1, d_33_2, d_33_3, IntKind.wrap IntKind.i64 (d_33_4 + (1 : Int)), (Prod.fst d_33_5, Prod.snd d_33_5), d_33_6,
                  List.set d_33_7 (Int.toNat d_33_4) !List.getD d_33_6 (Int.toNat d_33_4) false == (d_33_1 == (0 : Int)), ())
            else none
          else none
        else some (Sum.inl (d_33_0, d_33_1, d_33_2, d_33_3, (Prod.fst d_33_5, Prod.snd d_33_5), d_33_6, d_33_7, ()))
      else none
noncomputable def reedpenlaw10_CoverSets_3_L4 : Nat →
  (List (Int × Int) × Int × List (Int × Int) × Int × (List (Int × Int) × Bool) × List Bool × List Bool × Unit →
      Option (List (Int × Int) × (List (Int × Int) × Bool) × List Bool × List Bool × Unit ⊕ Bool × Unit)) →
    List (Int × Int) × Int × List (Int × Int) × Int × (List (Int × Int) × Bool) × List Bool × List Bool × Unit →
      Option (List (Int × Int) × (List (Int × Int) × Bool) × List Bool × List Bool × Unit ⊕ Bool × Unit) :=
  fun (fuel : Nat)
      (rec_24 :
        List (Int × Int) × Int × List (Int × Int) × Int × (List (Int × Int) × Bool) × List Bool × List Bool × Unit →
          Option (List (Int × Int) × (List (Int × Int) × Bool) × List Bool × List Bool × Unit ⊕ Bool × Unit)) =>
    U7 fun (d_25_0 : List (Int × Int)) (d_25_1 : Int) (d_25_2 : List (Int × Int)) (d_25_3 : Int) (d_25_4 : List (Int × Int) × Bool) (d_25_5 d_25_6 : List Bool) =>
      bif decide (d_25_3 < (↑(List.length d_25_0) : Int)) then
        bif decide ((0 : Int) ≤ d_25_3 ∧ d_25_3 < (↑(List.length d_25_0) : Int)) then
          afterJoin
            (iter reedpenlaw10_CoverSets_3_L3 fuel
              (d_25_0, d_25_1, d_25_2, d_25_3, Prod.fst (List.getD d_25_0 (Int.toNat d_25_3) ((0 : Int), (0 : Int))), (Prod.fst d_25_4, Prod.snd d_25_4), d_25_5, d_25_6,
                ()))
            (U7 fun (d_32_0 : List (Int × Int)) (d_32_1 : Int) (d_32_2 : List (Int × Int)) (d_32_3 : Int) (d_32_4 : List (Int × Int) × Bool) (d_32_5 d_32_6 : List Bool) =>
              rec_24 (d_32_0, d_32_1, d_32_2, IntKind.wrap IntKind.i64 (d_32_3 + (1 : Int)), (Prod.fst d_32_4, Prod.snd d_32_4), d_32_5, d_32_6, ()))
        else none
      else some (Sum.inl (d_25_2, (Prod.fst d_25_4, Prod.snd d_25_4), d_25_5, d_25_6, ()))
noncomputable def reedpenlaw10_CoverSets_3 : Nat → List (Int × Int) × List (Int × Int × Int) × Int × Unit → Option (Bool × Unit) :=
  fun (fuel : Nat) =>
    U3 fun (a_1_0 : List (Int × Int)) (a_1_1 : List (Int × Int × Int)) (a_1_2 : Int) =>
      bindO (reedpenlaw10_alive_23 fuel ())
        (U1 fun (y_4_0 : Bool) =>
          bif !y_4_0 then some (false, ())
          else
            bindO (reedpenref10_Right_24 fuel (a_1_0, ()))
              (U1 fun (y_5_0 : Bool) =>
                bif (!y_5_0) == false then
                  bindO (reedpenref10_RightClasses_25 fuel (a_1_1, ()))
                    (U1 fun (y_6_0 : Bool) =>
                      bif (!y_6_0) == false then
                        bif decide ((↑(List.length a_1_0) : Int) > (100 : Int)) == false then
                          bif decide ((↑(List.length a_1_1) : Int) > (100 : Int)) then some (true, ())
                          else
                            bindO (cover_With_26 fuel (a_1_1, a_1_2, ()))
                              (U1 fun (y_7_0 : List (Int × Int) × Bool) =>
                                bindO (cover_Both_27 fuel (a_1_0, (Prod.fst y_7_0, Prod.snd y_7_0), ()))
                                  (U1 fun (y_8_0 : List (Int × Int)) =>
                                    bindO (reedpenref10_Right_24 fuel (Prod.fst y_7_0, ()))
                                      (U1 fun (y_9_0 : Bool) =>
                                        bif (!y_9_0) == false then
                                          bindO (reedpenref10_Right_24 fuel (y_8_0, ()))
                                            (U1 fun (y_10_0 : Bool) =>
                                              bif (!y_10_0) == false then
                                                bif !Prod.snd y_7_0 == (a_1_2 == (0 : Int)) then some (false, ())
                                                else
                                                  afterJoin
                                                    (both
                                                      (some
                                                        (Sum.inl
                                                          (a_1_0, a_1_1, a_1_2, y_8_0, (Prod.fst y_7_0, Prod.snd y_7_0), List.replicate (Int.toNat (65536 : Int)) false,
                                                            List.replicate (Int.toNat (65536 : Int)) false, ())))
                                                      (some
                                                        (Sum.inl
                                                          (a_1_0, a_1_1, a_1_2, y_8_0, (Prod.fst y_7_0, Prod.snd y_7_0), List.replicate (Int.toNat (65536 : Int)) false,
                                                            List.replicate (Int.toNat (65536 : Int)) false, ()))))
                                                    (U7
                                                      fun (d_11_0 : List (Int × Int)) (d_11_1 : List (Int × Int × Int)) (d_11_2 : Int) (d_11_3 : List (Int × Int))
                                                        (d_11_4 : List (Int × Int) × Bool) (d_11_5 d_11_6 : List Bool) =>
                                                      afterJoin
                                                        (iter (reedpenlaw10_CoverSets_3_L2 fuel) fuel
                                                          (d_11_0, d_11_1, d_11_2, d_11_3, (0 : Int), (Prod.fst d_11_4, Prod.snd d_11_4), d_11_5, d_11_6, ()))
                                                        (U6
                                                          fun (d_18_0 : List (Int × Int)) (d_18_1 : Int) (d_18_2 : List (Int × Int)) (d_18_3 : List (Int × Int) × Bool)
                                                            (d_18_4 d_18_5 : List Bool) =>
                                                          afterJoin
                                                            (iter (reedpenlaw10_CoverSets_3_L4 fuel) fuel
                                                              (d_18_0, d_18_1, d_18_2, (0 : Int), (Prod.fst d_18_3, Prod.snd d_18_3), d_18_4, d_18_5, ()))
                                                            (U4 fun (d_24_0 : List (Int × Int)) (d_24_1 : List (Int × Int) × Bool) (d_24_2 d_24_3 : List Bool) =>
                                                              bindO (reedpenref10_Spans_29 fuel (d_24_2, ()))
                                                                (U1 fun (y_28_0 : List (Int × Int)) =>
                                                                  bindO (reedpenref10_Same_28 fuel (Prod.fst d_24_1, y_28_0, ()))
                                                                    (U1 fun (y_29_0 : Bool) =>
                                                                      bif y_29_0 == true then
                                                                        bindO (reedpenref10_Spans_29 fuel (d_24_3, ()))
                                                                          (U1 fun (y_30_0 : List (Int × Int)) =>
                                                                            bindO (reedpenref10_Same_28 fuel (d_24_0, y_30_0, ()))
                                                                              (U1 fun (y_31_0 : Bool) => some (y_31_0, ())))
                                                                      else some (false, ()))))))
                                              else some (false, ()))
                                        else some (false, ()))))
                        else some (true, ())
                      else some (true, ()))
                else some (true, ())))
theorem CL3_ok (fuel : Nat) : Sums.Ok Try.prog (CL3 fuel) := sums_of trivial
theorem S3_ok (fuel : Nat) : Sums.Ok Try.prog (S3 fuel) := sums_of ⟨⟨⟨trivial, Summ.ofFnN_ok (CL3_ok fuel) (ok23 fuel), trivial⟩, Summ.ofFnN_ok (CL3_ok fuel) (ok24 fuel), ⟨trivial, Summ.ofFnN_ok (CL3_ok fuel) (ok25 fuel), trivial⟩⟩, Summ.ofFnN_ok (CL3_ok fuel) (ok26 fuel), ⟨⟨trivial, Summ.ofFnN_ok (CL3_ok fuel) (ok27 fuel), trivial⟩, Summ.ofFnN_ok (CL3_ok fuel) (ok28 fuel), ⟨trivial, Summ.ofFnN_ok (CL3_ok fuel) (ok29 fuel), trivial⟩⟩⟩
theorem eq3_ : F3 = reedpenlaw10_CoverSets_3 := by kernel_rfl
theorem ok3 (fuel : Nat) : FnOkN Try.prog 3 sg3 (reedpenlaw10_CoverSets_3 fuel) := by
  have h := funN_ok (s := sg3) (an := an3) (fuel := fuel) (fn := Try.f3) (c := cd3) E_ok (S3_ok fuel) (runDraw_ok mixed E_ok (S3_ok fuel)) (enters_of Try.func3 rfl rfl) Try.func3 rfl (by decide)
  exact (congrFun eq3_ fuel) ▸ h
end Go.Proofs.Ytgfimeagodcdjaa
