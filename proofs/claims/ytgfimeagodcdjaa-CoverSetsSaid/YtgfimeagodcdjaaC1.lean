/- Functions of the octet and cover layers. -/
import Derived.Test.YtgfimeagodcdjaaT1
set_option linter.unusedSimpArgs false
set_option linter.unusedVariables false
set_option linter.unusedSectionVars false
namespace Go.Proofs.Ytgfimeagodcdjaa
open Go Go.Proofs Go.AM
set_option maxRecDepth 100000

/-! reedpen/octet.Within -/
def sg187 : Sig := ⟨⟨[(0, .one (.pure (.list (.int .u8)))), (1, .one (.pure (.int .i64))), (2, .one (.pure (.int .i64)))], []⟩, 3, ⟨[(0, .one (.pure (.bool)))], []⟩, 1, 0⟩
noncomputable def CL187 (_fuel : Nat) : Sums := Tr.get .nil
noncomputable def S187 (_fuel : Nat) : Sums := Tr.get .nil
noncomputable def cd187 : Code := Try.f187.body.getD .skip
noncomputable def an187 : Ann := .leaf
noncomputable def F187 (fuel : Nat) (d : DL sg187.ins.leafs) : Option (DL sg187.outs.leafs) := funN E (S187 fuel) (runDraw E (S187 fuel)) an187 cd187 27 [.tmp 6] sg187 fuel d
noncomputable def octet_Within_187 : Nat → List Int × Int × Int × Unit → Option (Bool × Unit) :=
  fun (fuel : Nat) =>
    U3 fun (a_1_0 : List Int) (a_1_1 a_1_2 : Int) =>
      bif decide (a_1_1 ≥ (0 : Int)) == true then
        bif decide (a_1_2 ≥ (0 : Int)) == true then
          bif decide (a_1_2 ≤ (↑(List.length a_1_0) : Int)) == true then some (decide (a_1_1 ≤ IntKind.wrap IntKind.i64 ((↑(List.length a_1_0) : Int) - a_1_2)), ())
          else some (false, ())
        else some (false, ())
      else some (false, ())
theorem CL187_ok (fuel : Nat) : Sums.Ok Try.prog (CL187 fuel) := sums_of trivial
theorem S187_ok (fuel : Nat) : Sums.Ok Try.prog (S187 fuel) := sums_of trivial
theorem eq187_ : F187 = octet_Within_187 := by kernel_rfl
theorem ok187 (fuel : Nat) : FnOkN Try.prog 187 sg187 (octet_Within_187 fuel) := by
  have h := funN_ok (s := sg187) (an := an187) (fuel := fuel) (fn := Try.f187) (c := cd187) E_ok (S187_ok fuel) (runDraw_ok mixed E_ok (S187_ok fuel)) (enters_of Try.func187 rfl rfl) Try.func187 rfl (by decide)
  exact (congrFun eq187_ fuel) ▸ h

/-! reedpen/octet.number -/
def sg190 : Sig := ⟨⟨[(0, .one (.pure (.list (.int .u8))))], []⟩, 1, ⟨[(0, .one (.pure (.int .i64)))], []⟩, 1, 0⟩
noncomputable def CL190 (_fuel : Nat) : Sums := Tr.get .nil
noncomputable def S190 (_fuel : Nat) : Sums := Tr.get .nil
noncomputable def cd190 : Code := Try.f190.body.getD .skip
noncomputable def an190 : Ann := (.seq .leaf (.seq .leaf (.seq (.seq .leaf (.join ⟨[(3, .one (.pure (.int .i64)))], []⟩ (.block (.loop ⟨[(3, .one (.pure (.int .i64))), (6, .one (.pure (.list (.int .u8)))), (7, .one (.pure (.int .i64))), (8, .one (.pure (.int .i64)))], []⟩ .leaf)))) .leaf)))
noncomputable def F190 (fuel : Nat) (d : DL sg190.ins.leafs) : Option (DL sg190.outs.leafs) := funN E (S190 fuel) (runDraw E (S190 fuel)) an190 cd190 19 [.tmp 2] sg190 fuel d
noncomputable def octet_number_190_L1 : (Int × List Int × Int × Int × Unit → Option (Int × Unit ⊕ Int × Unit)) → Int × List Int × Int × Int × Unit → Option (Int × Unit ⊕ Int × Unit) :=
  fun (rec_2 : Int × List Int × Int × Int × Unit → Option (Int × Unit ⊕ Int × Unit)) =>
    U4 fun (d_3_0 : Int) (d_3_1 : List Int) (d_3_2 d_3_3 : Int) =>
      bif decide (d_3_3 < d_3_2) then
        bif decide ((0 : Int) ≤ d_3_3 ∧ d_3_3 < (↑(List.length d_3_1) : Int)) then
          rec_2
            (bits BinOp.or IntKind.i64 (IntKind.wrap IntKind.i64 (d_3_0 * (2 : Int) ^ min (Int.toNat (8 : Int)) (64 : Nat)))
                (IntKind.wrap IntKind.i64 (List.getD d_3_1 (Int.toNat d_3_3) (0 : Int))),
              d_3_1, d_3_2, IntKind.wrap IntKind.i64 (d_3_3 + (1 : Int)), ())
        else none
      else some (Sum.inl (d_3_0, ()))
noncomputable def octet_number_190 : Nat → List Int × Unit → Option (Int × Unit) :=
  fun (fuel : Nat) =>
    U1 fun (a_1_0 : List Int) =>
      afterJoin (iter octet_number_190_L1 fuel ((0 : Int), a_1_0, (↑(List.length a_1_0) : Int), (0 : Int), ())) (U1 fun (d_2_0 : Int) => some (d_2_0, ()))
theorem CL190_ok (fuel : Nat) : Sums.Ok Try.prog (CL190 fuel) := sums_of trivial
theorem S190_ok (fuel : Nat) : Sums.Ok Try.prog (S190 fuel) := sums_of trivial
theorem eq190_ : F190 = octet_number_190 := by kernel_rfl
theorem ok190 (fuel : Nat) : FnOkN Try.prog 190 sg190 (octet_number_190 fuel) := by
  have h := funN_ok (s := sg190) (an := an190) (fuel := fuel) (fn := Try.f190) (c := cd190) E_ok (S190_ok fuel) (runDraw_ok mixed E_ok (S190_ok fuel)) (enters_of Try.func190 rfl rfl) Try.func190 rfl (by decide)
  exact (congrFun eq190_ fuel) ▸ h

/-! reedpen/octet.read -/
def sg186 : Sig := ⟨⟨[(0, .one (.pure (.list (.int .u8)))), (1, .one (.pure (.int .i64))), (2, .one (.pure (.int .i64)))], []⟩, 3, ⟨[(0, .one (.pure (.int .i64))), (1, .one (.pure (.bool)))], []⟩, 2, 0⟩
noncomputable def CL186 (_fuel : Nat) : Sums := Tr.get .nil
noncomputable def S186 (fuel : Nat) : Sums := Tr.get (.node (.node .nil 187 (Summ.ofFnN (CL186 fuel) sg187 (some (.pair (.list (.int .u8)) (.pair (.int .i64) (.pair (.int .i64) (.unit))), .bool)) (octet_Within_187 fuel)) .nil) 190 (Summ.ofFnN (CL186 fuel) sg190 (some (.pair (.list (.int .u8)) (.unit), .int .i64)) (octet_number_190 fuel)) .nil)
noncomputable def cd186 : Code := Try.f186.body.getD .skip
noncomputable def an186 : Ann := .leaf
noncomputable def F186 (fuel : Nat) (d : DL sg186.ins.leafs) : Option (DL sg186.outs.leafs) := funN E (S186 fuel) (runDraw E (S186 fuel)) an186 cd186 20 [.tmp 6, .tmp 7] sg186 fuel d
noncomputable def octet_read_186 : Nat → List Int × Int × Int × Unit → Option (Int × Bool × Unit) :=
  fun (fuel : Nat) =>
    U3 fun (a_1_0 : List Int) (a_1_1 a_1_2 : Int) =>
      bindO (octet_Within_187 fuel (a_1_0, a_1_1, a_1_2, ()))
        (U1 fun (y_4_0 : Bool) =>
          bif !y_4_0 then some ((0 : Int), false, ())
          else
            bif decide ((0 : Int) ≤ a_1_1 ∧ a_1_1 ≤ IntKind.wrap IntKind.i64 (a_1_1 + a_1_2) ∧ IntKind.wrap IntKind.i64 (a_1_1 + a_1_2) ≤ (↑(List.length a_1_0) : Int)) then
              bindO (octet_number_190 fuel (cutL a_1_0 (some a_1_1) (some (IntKind.wrap IntKind.i64 (a_1_1 + a_1_2))), ()))
                (U1 fun (y_5_0 : Int) => some (y_5_0, true, ()))
            else none)
theorem CL186_ok (fuel : Nat) : Sums.Ok Try.prog (CL186 fuel) := sums_of trivial
theorem S186_ok (fuel : Nat) : Sums.Ok Try.prog (S186 fuel) := sums_of ⟨⟨trivial, Summ.ofFnN_ok (CL186_ok fuel) (ok187 fuel), trivial⟩, Summ.ofFnN_ok (CL186_ok fuel) (ok190 fuel), trivial⟩
theorem eq186_ : F186 = octet_read_186 := by kernel_rfl
theorem ok186 (fuel : Nat) : FnOkN Try.prog 186 sg186 (octet_read_186 fuel) := by
  have h := funN_ok (s := sg186) (an := an186) (fuel := fuel) (fn := Try.f186) (c := cd186) E_ok (S186_ok fuel) (runDraw_ok mixed E_ok (S186_ok fuel)) (enters_of Try.func186 rfl rfl) Try.func186 rfl (by decide)
  exact (congrFun eq186_ fuel) ▸ h

/-! reedpen/octet.U16 -/
def sg143 : Sig := ⟨⟨[(0, .one (.pure (.list (.int .u8)))), (1, .one (.pure (.int .i64)))], []⟩, 2, ⟨[(0, .one (.pure (.int .i64))), (1, .one (.pure (.bool)))], []⟩, 2, 0⟩
noncomputable def CL143 (_fuel : Nat) : Sums := Tr.get .nil
noncomputable def S143 (fuel : Nat) : Sums := Tr.get (.node .nil 186 (Summ.ofFnN (CL143 fuel) sg186 (some (.pair (.list (.int .u8)) (.pair (.int .i64) (.pair (.int .i64) (.unit))), .pair (.int .i64) (.pair (.bool) (.unit)))) (octet_read_186 fuel)) .nil)
noncomputable def cd143 : Code := Try.f143.body.getD .skip
noncomputable def an143 : Ann := .leaf
noncomputable def F143 (fuel : Nat) (d : DL sg143.ins.leafs) : Option (DL sg143.outs.leafs) := funN E (S143 fuel) (runDraw E (S143 fuel)) an143 cd143 11 [.tmp 4, .tmp 5] sg143 fuel d
noncomputable def octet_U16_143 : Nat → List Int × Int × Unit → Option (Int × Bool × Unit) :=
  fun (fuel : Nat) =>
    U2 fun (a_1_0 : List Int) (a_1_1 : Int) =>
      bindO (octet_read_186 fuel (a_1_0, a_1_1, (2 : Int), ())) (U2 fun (y_3_0 : Int) (y_3_1 : Bool) => some (y_3_0, y_3_1, ()))
theorem CL143_ok (fuel : Nat) : Sums.Ok Try.prog (CL143 fuel) := sums_of trivial
theorem S143_ok (fuel : Nat) : Sums.Ok Try.prog (S143 fuel) := sums_of ⟨trivial, Summ.ofFnN_ok (CL143_ok fuel) (ok186 fuel), trivial⟩
theorem eq143_ : F143 = octet_U16_143 := by kernel_rfl
theorem ok143 (fuel : Nat) : FnOkN Try.prog 143 sg143 (octet_U16_143 fuel) := by
  have h := funN_ok (s := sg143) (an := an143) (fuel := fuel) (fn := Try.f143) (c := cd143) E_ok (S143_ok fuel) (runDraw_ok mixed E_ok (S143_ok fuel)) (enters_of Try.func143 rfl rfl) Try.func143 rfl (by decide)
  exact (congrFun eq143_ fuel) ▸ h

/-! reedpen/octet.many[int] -/
def sg188 : Sig := ⟨⟨[(0, .one (.pure (.int .i64))), (1, .one (.pure (.fn (.pair (.int .i64) (.unit)) (.int .i64))))], []⟩, 2, ⟨[(0, .one (.pure (.list (.int .i64))))], []⟩, 1, 0⟩
noncomputable def CL188 (_fuel : Nat) : Sums := Tr.get .nil
noncomputable def S188 (_fuel : Nat) : Sums := Tr.get .nil
noncomputable def cd188 : Code := Try.f188.body.getD .skip
noncomputable def an188 : Ann := (.seq .leaf (.seq .leaf (.seq (.seq .leaf (.join ⟨[(5, .one (.own (.h 5 0)))], [((.h 5 0), .row 3 (.int .i64))]⟩ (.block (.loop ⟨[(1, .one (.pure (.fn (.pair (.int .i64) (.unit)) (.int .i64)))), (5, .one (.own (.h 5 0))), (7, .one (.pure (.int .i64))), (8, .one (.pure (.int .i64)))], [((.h 5 0), .row 3 (.int .i64))]⟩ .leaf)))) .leaf)))
noncomputable def F188 (fuel : Nat) (d : DL sg188.ins.leafs) : Option (DL sg188.outs.leafs) := funN E (S188 fuel) (runDraw E (S188 fuel)) an188 cd188 19 [.tmp 4] sg188 fuel d
noncomputable def octet_many_188_L1 : ((Ty.den (Ty.pair (Ty.int IntKind.i64) Ty.unit) → Option Int) × Int × Int × List Int × Unit → Option (List Int × Unit ⊕ List Int × Unit)) →
  (Ty.den (Ty.pair (Ty.int IntKind.i64) Ty.unit) → Option Int) × Int × Int × List Int × Unit → Option (List Int × Unit ⊕ List Int × Unit) :=
  fun (rec_3 : (Ty.den (Ty.pair (Ty.int IntKind.i64) Ty.unit) → Option Int) × Int × Int × List Int × Unit → Option (List Int × Unit ⊕ List Int × Unit)) =>
    U4 fun (d_4_0 : Ty.den (Ty.pair (Ty.int IntKind.i64) Ty.unit) → Option Int) (d_4_1 d_4_2 : Int) (d_4_3 : List Int) =>
      bif decide (d_4_2 < d_4_1) then
        bindO (d_4_0 (d_4_2, ())) fun (y_8 : Int) =>
          bif decide (List.length d_4_3 + List.length [y_8] < (17592186044416 : Nat)) then
            rec_3 (d_4_0, d_4_1, IntKind.wrap IntKind.i64 (d_4_2 + (1 : Int)), d_4_3 ++ [y_8], ())
          else none
      else some (Sum.inl (d_4_3, ()))
noncomputable def octet_many_188 : Nat → Int × (Ty.den (Ty.pair (Ty.int IntKind.i64) Ty.unit) → Option Int) × Unit → Option (List Int × Unit) :=
  fun (fuel : Nat) =>
    U2 fun (a_1_0 : Int) (a_1_1 : Ty.den (Ty.pair (Ty.int IntKind.i64) Ty.unit) → Option Int) =>
      afterJoin (iter octet_many_188_L1 fuel (a_1_1, a_1_0, (0 : Int), [], ())) (U1 fun (d_3_0 : List Int) => some (d_3_0, ()))
theorem CL188_ok (fuel : Nat) : Sums.Ok Try.prog (CL188 fuel) := sums_of trivial
theorem S188_ok (fuel : Nat) : Sums.Ok Try.prog (S188 fuel) := sums_of trivial
theorem eq188_ : F188 = octet_many_188 := by kernel_rfl
theorem ok188 (fuel : Nat) : FnOkN Try.prog 188 sg188 (octet_many_188 fuel) := by
  have h := funN_ok (s := sg188) (an := an188) (fuel := fuel) (fn := Try.f188) (c := cd188) E_ok (S188_ok fuel) (runDraw_ok mixed E_ok (S188_ok fuel)) (enters_of Try.func188 rfl rfl) Try.func188 rfl (by decide)
  exact (congrFun eq188_ fuel) ▸ h

/-! reedpen/octet.Row$1 -/
def sg189 : Sig := ⟨⟨[(0, .one (.pure (.int .i64))), (1, .one (.cptr [.list (.int .u8)])), (2, .one (.cptr [.int .i64])), (3, .one (.cptr [.int .i64]))], []⟩, 4, ⟨[(0, .one (.pure (.int .i64)))], []⟩, 1, 0⟩
noncomputable def CL189 (_fuel : Nat) : Sums := Tr.get .nil
noncomputable def S189 (fuel : Nat) : Sums := Tr.get (.node .nil 190 (Summ.ofFnN (CL189 fuel) sg190 (some (.pair (.list (.int .u8)) (.unit), .int .i64)) (octet_number_190 fuel)) .nil)
noncomputable def cd189 : Code := Try.f189.body.getD .skip
noncomputable def an189 : Ann := .leaf
noncomputable def F189 (fuel : Nat) (d : DL sg189.ins.leafs) : Option (DL sg189.outs.leafs) := funN E (S189 fuel) (runDraw E (S189 fuel)) an189 cd189 20 [.tmp 5] sg189 fuel d
noncomputable def octet_Row_1_189 : Nat → Int × List Int × Int × Int × Unit → Option (Int × Unit) :=
  fun (fuel : Nat) =>
    U4 fun (a_1_0 : Int) (a_1_1 : List Int) (a_1_2 a_1_3 : Int) =>
      bif
          decide
            ((0 : Int) ≤ IntKind.wrap IntKind.i64 (a_1_2 + IntKind.wrap IntKind.i64 (a_1_0 * a_1_3)) ∧
              IntKind.wrap IntKind.i64 (a_1_2 + IntKind.wrap IntKind.i64 (a_1_0 * a_1_3)) ≤
                  IntKind.wrap IntKind.i64 (a_1_2 + IntKind.wrap IntKind.i64 (IntKind.wrap IntKind.i64 (a_1_0 + (1 : Int)) * a_1_3)) ∧
                IntKind.wrap IntKind.i64 (a_1_2 + IntKind.wrap IntKind.i64 (IntKind.wrap IntKind.i64 (a_1_0 + (1 : Int)) * a_1_3)) ≤ (↑(List.length a_1_1) : Int)) then
        bindO
          (octet_number_190 fuel
            (cutL a_1_1 (some (IntKind.wrap IntKind.i64 (a_1_2 + IntKind.wrap IntKind.i64 (a_1_0 * a_1_3))))
                (some (IntKind.wrap IntKind.i64 (a_1_2 + IntKind.wrap IntKind.i64 (IntKind.wrap IntKind.i64 (a_1_0 + (1 : Int)) * a_1_3)))),
              ()))
          (U1 fun (y_5_0 : Int) => some (y_5_0, ()))
      else none
theorem CL189_ok (fuel : Nat) : Sums.Ok Try.prog (CL189 fuel) := sums_of trivial
theorem S189_ok (fuel : Nat) : Sums.Ok Try.prog (S189 fuel) := sums_of ⟨trivial, Summ.ofFnN_ok (CL189_ok fuel) (ok190 fuel), trivial⟩
theorem eq189_ : F189 = octet_Row_1_189 := by kernel_rfl
theorem ok189 (fuel : Nat) : FnOkN Try.prog 189 sg189 (octet_Row_1_189 fuel) := by
  have h := funN_ok (s := sg189) (an := an189) (fuel := fuel) (fn := Try.f189) (c := cd189) E_ok (S189_ok fuel) (runDraw_ok mixed E_ok (S189_ok fuel)) (enters_of Try.func189 rfl rfl) Try.func189 rfl (by decide)
  exact (congrFun eq189_ fuel) ▸ h

/-! reedpen/octet.Row -/
def sg144 : Sig := ⟨⟨[(0, .one (.pure (.list (.int .u8)))), (1, .one (.pure (.int .i64))), (2, .one (.pure (.int .i64))), (3, .one (.pure (.int .i64)))], []⟩, 4, ⟨[(0, .one (.pure (.list (.int .i64)))), (1, .one (.pure (.bool)))], []⟩, 2, 0⟩
noncomputable def CL144 (fuel : Nat) : Sums := Tr.get (.node .nil 189 (Summ.ofFnN (Tr.get .nil) sg189 (some (.pair (.int .i64) (.unit), .int .i64)) (octet_Row_1_189 fuel)) .nil)
noncomputable def S144 (fuel : Nat) : Sums := Tr.get (.node (.node .nil 187 (Summ.ofFnN (CL144 fuel) sg187 (some (.pair (.list (.int .u8)) (.pair (.int .i64) (.pair (.int .i64) (.unit))), .bool)) (octet_Within_187 fuel)) .nil) 188 (Summ.ofFnN (CL144 fuel) sg188 (some (.pair (.int .i64) (.pair (.fn (.pair (.int .i64) (.unit)) (.int .i64)) (.unit)), .list (.int .i64))) (octet_many_188 fuel)) (.node .nil 189 (Summ.ofFnN (CL144 fuel) sg189 (some (.pair (.int .i64) (.unit), .int .i64)) (octet_Row_1_189 fuel)) .nil))
noncomputable def cd144 : Code := Try.f144.body.getD .skip
noncomputable def an144 : Ann := (.seq .leaf (.seq (.seq .leaf (.block (.seq (.seq .leaf (.join ⟨[(2, .one (.pure (.int .i64))), (4, .one (.ptr (.h 4 0) 0)), (5, .one (.ptr (.h 5 0) 0)), (7, .one (.ptr (.h 7 0) 0)), (11, .one (.pure (.bool)))], [((.h 4 0), .dvar (.list (.int .u8))), ((.h 5 0), .dvar (.int .i64)), ((.h 7 0), .dvar (.int .i64))]⟩ (.cond .leaf (.seq .leaf (.join ⟨[(2, .one (.pure (.int .i64))), (4, .one (.ptr (.h 4 0) 0)), (5, .one (.ptr (.h 5 0) 0)), (7, .one (.ptr (.h 7 0) 0)), (11, .one (.pure (.bool)))], [((.h 4 0), .dvar (.list (.int .u8))), ((.h 5 0), .dvar (.int .i64)), ((.h 7 0), .dvar (.int .i64))]⟩ .leaf))))) .leaf))) .leaf))
noncomputable def F144 (fuel : Nat) (d : DL sg144.ins.leafs) : Option (DL sg144.outs.leafs) := funN E (S144 fuel) (runDraw E (S144 fuel)) an144 cd144 35 [.tmp 8, .tmp 9] sg144 fuel d
noncomputable def octet_Row_144 : Nat → List Int × Int × Int × Int × Unit → Option (List Int × Bool × Unit) :=
  fun (fuel : Nat) =>
    U4 fun (a_1_0 : List Int) (a_1_1 a_1_2 a_1_3 : Int) =>
      afterJoin
        (bif a_1_3 == (1 : Int) then some (Sum.inl (a_1_2, a_1_3 == (1 : Int), a_1_0, a_1_1, a_1_3, ()))
        else
          afterJoin
            (bif a_1_3 == (2 : Int) then some (Sum.inl (a_1_2, a_1_3 == (2 : Int), a_1_0, a_1_1, a_1_3, ()))
            else some (Sum.inl (a_1_2, a_1_3 == (4 : Int), a_1_0, a_1_1, a_1_3, ())))
            (U5 fun (d_5_0 : Int) (d_5_1 : Bool) (d_5_2 : List Int) (d_5_3 d_5_4 : Int) => some (Sum.inl (d_5_0, d_5_1, d_5_2, d_5_3, d_5_4, ()))))
        (U5 fun (d_5_0 : Int) (d_5_1 : Bool) (d_5_2 : List Int) (d_5_3 d_5_4 : Int) =>
          bif d_5_1 then
            bif decide (d_5_0 < (0 : Int)) == false then
              bif decide (d_5_0 > (↑(List.length d_5_2) : Int)) == false then
                bindO (octet_Within_187 fuel (d_5_2, d_5_3, IntKind.wrap IntKind.i64 (d_5_0 * d_5_4), ()))
                  (U1 fun (y_10_0 : Bool) =>
                    bif !y_10_0 then some ([], false, ())
                    else
                      bindO
                        (octet_many_188 fuel
                          (d_5_0, fun (x : Ty.den (Ty.pair (Ty.int IntKind.i64) Ty.unit)) =>
                            bindO (octet_Row_1_189 fuel (Prod.fst x, d_5_2, d_5_3, d_5_4, ())) (U1 fun (y_12_0 : Int) => some y_12_0), ()))
                        (U1 fun (y_11_0 : List Int) => some (y_11_0, true, ())))
              else some ([], false, ())
            else some ([], false, ())
          else some ([], false, ()))
theorem CL144_ok (fuel : Nat) : Sums.Ok Try.prog (CL144 fuel) := sums_of ⟨trivial, Summ.ofFnN_ok sums_nil (ok189 fuel), trivial⟩
theorem S144_ok (fuel : Nat) : Sums.Ok Try.prog (S144 fuel) := sums_of ⟨⟨trivial, Summ.ofFnN_ok (CL144_ok fuel) (ok187 fuel), trivial⟩, Summ.ofFnN_ok (CL144_ok fuel) (ok188 fuel), ⟨trivial, Summ.ofFnN_ok (CL144_ok fuel) (ok189 fuel), trivial⟩⟩
theorem eq144_ : F144 = octet_Row_144 := by kernel_rfl
theorem ok144 (fuel : Nat) : FnOkN Try.prog 144 sg144 (octet_Row_144 fuel) := by
  have h := funN_ok (s := sg144) (an := an144) (fuel := fuel) (fn := Try.f144) (c := cd144) E_ok (S144_ok fuel) (runDraw_ok mixed E_ok (S144_ok fuel)) (enters_of Try.func144 rfl rfl) Try.func144 rfl (by decide)
  exact (congrFun eq144_ fuel) ▸ h

/-! reedpen/cover.format -/
def sg140 : Sig := ⟨⟨[(0, .one (.pure (.list (.int .u8)))), (1, .one (.pure (.int .i64)))], []⟩, 2, ⟨[(0, .one (.pure (.int .i64)))], []⟩, 1, 0⟩
noncomputable def CL140 (_fuel : Nat) : Sums := Tr.get .nil
noncomputable def S140 (fuel : Nat) : Sums := Tr.get (.node .nil 143 (Summ.ofFnN (CL140 fuel) sg143 (some (.pair (.list (.int .u8)) (.pair (.int .i64) (.unit)), .pair (.int .i64) (.pair (.bool) (.unit)))) (octet_U16_143 fuel)) .nil)
noncomputable def cd140 : Code := Try.f140.body.getD .skip
noncomputable def an140 : Ann := .leaf
noncomputable def F140 (fuel : Nat) (d : DL sg140.ins.leafs) : Option (DL sg140.outs.leafs) := funN E (S140 fuel) (runDraw E (S140 fuel)) an140 cd140 16 [.tmp 4] sg140 fuel d
noncomputable def cover_format_140 : Nat → List Int × Int × Unit → Option (Int × Unit) :=
  fun (fuel : Nat) =>
    U2 fun (a_1_0 : List Int) (a_1_1 : Int) =>
      bindO (octet_U16_143 fuel (a_1_0, a_1_1, ())) (U2 fun (y_3_0 : Int) (y_3_1 : Bool) => bif !y_3_1 then some ((0 : Int), ()) else some (y_3_0, ()))
theorem CL140_ok (fuel : Nat) : Sums.Ok Try.prog (CL140 fuel) := sums_of trivial
theorem S140_ok (fuel : Nat) : Sums.Ok Try.prog (S140 fuel) := sums_of ⟨trivial, Summ.ofFnN_ok (CL140_ok fuel) (ok143 fuel), trivial⟩
theorem eq140_ : F140 = cover_format_140 := by kernel_rfl
theorem ok140 (fuel : Nat) : FnOkN Try.prog 140 sg140 (cover_format_140 fuel) := by
  have h := funN_ok (s := sg140) (an := an140) (fuel := fuel) (fn := Try.f140) (c := cd140) E_ok (S140_ok fuel) (runDraw_ok mixed E_ok (S140_ok fuel)) (enters_of Try.func140 rfl rfl) Try.func140 rfl (by decide)
  exact (congrFun eq140_ fuel) ▸ h

/-! reedpen/cover.joined -/
def sg89 : Sig := ⟨⟨[(0, .one (.own (.c (.s 0 0) 0))), (1, .data (.pair (.int .i64) (.int .i64)))], [((.c (.s 0 0) 0), .row 35 (.pair (.int .i64) (.int .i64)))]⟩, 2, ⟨[(0, .one (.own (.h 0 0)))], [((.h 0 0), .row 35 (.pair (.int .i64) (.int .i64)))]⟩, 1, 0⟩
noncomputable def CL89 (_fuel : Nat) : Sums := Tr.get .nil
noncomputable def S89 (_fuel : Nat) : Sums := Tr.get .nil
noncomputable def cd89 : Code := Try.f89.body.getD .skip
noncomputable def an89 : Ann := .leaf
noncomputable def F89 (fuel : Nat) (d : DL sg89.ins.leafs) : Option (DL sg89.outs.leafs) := funN E (S89 fuel) (runDraw E (S89 fuel)) an89 cd89 34 [.tmp 4] sg89 fuel d
noncomputable def cover_joined_89 : Nat → (Int × Int) × List (Int × Int) × Unit → Option (List (Int × Int) × Unit) :=
  fun (fuel : Nat) =>
    U2 fun (a_1_0 : Int × Int) (a_1_1 : List (Int × Int)) =>
      bif decide ((↑(List.length a_1_1) : Int) > (0 : Int)) == true then
        bif
            decide
              ((0 : Int) ≤ IntKind.wrap IntKind.i64 ((↑(List.length a_1_1) : Int) - (1 : Int)) ∧ IntKind.wrap IntKind.i64 ((↑(List.length a_1_1) : Int) - (1 : Int)) < (↑(List.length a_1_1) : Int)) then
          bif
              IntKind.wrap IntKind.i64 (Prod.snd (List.getD a_1_1 (Int.toNat (IntKind.wrap IntKind.i64 ((↑(List.length a_1_1) : Int) - (1 : Int)))) ((0 : Int), (0 : Int))) + (1 : Int)) ==
                Prod.fst a_1_0 then
            bif
                decide
                  ((0 : Int) ≤ IntKind.wrap IntKind.i64 ((↑(List.length a_1_1) : Int) - (1 : Int)) ∧
                    IntKind.wrap IntKind.i64 ((↑(List.length a_1_1) : Int) - (1 : Int)) < (↑(List.length a_1_1) : Int)) then
              some
                (List.set a_1_1 (Int.toNat (IntKind.wrap IntKind.i64 ((↑(List.length a_1_1) : Int) - (1 : Int))))
                    (Prod.fst (List.getD a_1_1 (Int.toNat (IntKind.wrap IntKind.i64 ((↑(List.length a_1_1) : Int) - (1 : Int)))) ((0 : Int), (0 : Int))), Prod.snd a_1_0),
                  ())
            else none
          else
            bif decide (List.length a_1_1 + List.length [(Prod.fst a_1_0, Prod.snd a_1_0)] < (8796093022208 : Nat)) then
              some (a_1_1 ++ [(Prod.fst a_1_0, Prod.snd a_1_0)], ())
            else none
        else none
      else
        bif decide (List.length a_1_1 + List.length [(Prod.fst a_1_0, Prod.snd a_1_0)] < (8796093022208 : Nat)) then some (a_1_1 ++ [(Prod.fst a_1_0, Prod.snd a_1_0)], ())
        else none
theorem CL89_ok (fuel : Nat) : Sums.Ok Try.prog (CL89 fuel) := sums_of trivial
theorem S89_ok (fuel : Nat) : Sums.Ok Try.prog (S89 fuel) := sums_of trivial
theorem eq89_ : F89 = cover_joined_89 := by kernel_rfl
theorem ok89 (fuel : Nat) : FnOkN Try.prog 89 sg89 (cover_joined_89 fuel) := by
  have h := funN_ok (s := sg89) (an := an89) (fuel := fuel) (fn := Try.f89) (c := cd89) E_ok (S89_ok fuel) (runDraw_ok mixed E_ok (S89_ok fuel)) (enters_of Try.func89 rfl rfl) Try.func89 rfl (by decide)
  exact (congrFun eq89_ fuel) ▸ h

/-! reedpen/cover.Both$1 -/
def sg90 : Sig := ⟨⟨[(0, .one (.pure (.int .i64))), (1, .one (.pure (.int .i64))), (2, .one (.ptr (.c (.s 2 0) 0) 0))], [((.c (.s 2 0) 0), .var [.own (.c (.s 2 0) 1)]), ((.c (.s 2 0) 1), .row 35 (.pair (.int .i64) (.int .i64)))]⟩, 3, ⟨[], [((.c (.s 2 0) 0), .var [.own (.h 102 0)]), ((.h 102 0), .row 35 (.pair (.int .i64) (.int .i64)))]⟩, 0, 0⟩
noncomputable def CL90 (_fuel : Nat) : Sums := Tr.get .nil
noncomputable def S90 (fuel : Nat) : Sums := Tr.get (.node .nil 89 (Summ.ofFnN (CL90 fuel) sg89 none (cover_joined_89 fuel)) .nil)
noncomputable def cd90 : Code := Try.f90.body.getD .skip
noncomputable def an90 : Ann := .leaf
noncomputable def F90 (fuel : Nat) (d : DL sg90.ins.leafs) : Option (DL sg90.outs.leafs) := funN E (S90 fuel) (runDraw E (S90 fuel)) an90 cd90 13 [] sg90 fuel d
noncomputable def cover_Both_1_90 : Nat → Int × Int × List (Int × Int) × Unit → Option (List (Int × Int) × Unit) :=
  fun (fuel : Nat) =>
    U3 fun (a_1_0 a_1_1 : Int) (a_1_2 : List (Int × Int)) =>
      bif decide (a_1_0 ≤ a_1_1) then bindO (cover_joined_89 fuel ((a_1_0, a_1_1), a_1_2, ())) (U1 fun (y_4_0 : List (Int × Int)) => some (y_4_0, ()))
      else some (a_1_2, ())
theorem CL90_ok (fuel : Nat) : Sums.Ok Try.prog (CL90 fuel) := sums_of trivial
theorem S90_ok (fuel : Nat) : Sums.Ok Try.prog (S90 fuel) := sums_of ⟨trivial, Summ.ofFnN_ok (CL90_ok fuel) (ok89 fuel), trivial⟩
theorem eq90_ : F90 = cover_Both_1_90 := by kernel_rfl
theorem ok90 (fuel : Nat) : FnOkN Try.prog 90 sg90 (cover_Both_1_90 fuel) := by
  have h := funN_ok (s := sg90) (an := an90) (fuel := fuel) (fn := Try.f90) (c := cd90) E_ok (S90_ok fuel) (runDraw_ok mixed E_ok (S90_ok fuel)) (enters_of Try.func90 rfl rfl) Try.func90 rfl (by decide)
  exact (congrFun eq90_ fuel) ▸ h

/-! reedpen/cover.classed -/
def sg145 : Sig := ⟨⟨[(0, .one (.own (.c (.s 0 0) 0))), (1, .data (.pair (.int .i64) (.pair (.int .i64) (.int .i64))))], [((.c (.s 0 0) 0), .row 33 (.pair (.int .i64) (.pair (.int .i64) (.int .i64))))]⟩, 2, ⟨[(0, .one (.own (.h 0 0)))], [((.h 0 0), .row 33 (.pair (.int .i64) (.pair (.int .i64) (.int .i64))))]⟩, 1, 0⟩
noncomputable def CL145 (_fuel : Nat) : Sums := Tr.get .nil
noncomputable def S145 (_fuel : Nat) : Sums := Tr.get .nil
noncomputable def cd145 : Code := Try.f145.body.getD .skip
noncomputable def an145 : Ann := .leaf
noncomputable def F145 (fuel : Nat) (d : DL sg145.ins.leafs) : Option (DL sg145.outs.leafs) := funN E (S145 fuel) (runDraw E (S145 fuel)) an145 cd145 49 [.tmp 4] sg145 fuel d
noncomputable def cover_classed_145 : Nat → (Int × Int × Int) × List (Int × Int × Int) × Unit → Option (List (Int × Int × Int) × Unit) :=
  fun (fuel : Nat) =>
    U2 fun (a_1_0 : Int × Int × Int) (a_1_1 : List (Int × Int × Int)) =>
      bif Prod.snd (Prod.snd a_1_0) == (0 : Int) then some (a_1_1, ())
      else
        bif decide ((↑(List.length a_1_1) : Int) > (0 : Int)) == true then
          bif
              decide
                ((0 : Int) ≤ IntKind.wrap IntKind.i64 ((↑(List.length a_1_1) : Int) - (1 : Int)) ∧ IntKind.wrap IntKind.i64 ((↑(List.length a_1_1) : Int) - (1 : Int)) < (↑(List.length a_1_1) : Int)) then
            bif
                (IntKind.wrap IntKind.i64
                      (Prod.fst (Prod.snd (List.getD a_1_1 (Int.toNat (IntKind.wrap IntKind.i64 ((↑(List.length a_1_1) : Int) - (1 : Int)))) ((0 : Int), (0 : Int), (0 : Int)))) +
                        (1 : Int)) ==
                    Prod.fst a_1_0) ==
                  true then
              bif
                  decide
                    ((0 : Int) ≤ IntKind.wrap IntKind.i64 ((↑(List.length a_1_1) : Int) - (1 : Int)) ∧
                      IntKind.wrap IntKind.i64 ((↑(List.length a_1_1) : Int) - (1 : Int)) < (↑(List.length a_1_1) : Int)) then
                bif
                    Prod.snd (Prod.snd (List.getD a_1_1 (Int.toNat (IntKind.wrap IntKind.i64 ((↑(List.length a_1_1) : Int) - (1 : Int)))) ((0 : Int), (0 : Int), (0 : Int)))) ==
                      Prod.snd (Prod.snd a_1_0) then
                  bif
                      decide
                        ((0 : Int) ≤ IntKind.wrap IntKind.i64 ((↑(List.length a_1_1) : Int) - (1 : Int)) ∧
                          IntKind.wrap IntKind.i64 ((↑(List.length a_1_1) : Int) - (1 : Int)) < (↑(List.length a_1_1) : Int)) then
                    some
                      (List.set a_1_1 (Int.toNat (IntKind.wrap IntKind.i64 ((↑(List.length a_1_1) : Int) - (1 : Int))))
                          (Prod.fst (List.getD a_1_1 (Int.toNat (IntKind.wrap IntKind.i64 ((↑(List.length a_1_1) : Int) - (1 : Int)))) ((0 : Int), (0 : Int), (0 : Int))),
                            Prod.fst (Prod.snd a_1_0),
                            Prod.snd (Prod.snd (List.getD a_1_1 (Int.toNat (IntKind.wrap IntKind.i64 ((↑(List.length a_1_1) : Int) - (1 : Int)))) ((0 : Int), (0 : Int), (0 : Int))))),
                        ())
                  else none
                else
                  bif decide (List.length a_1_1 + List.length [(Prod.fst a_1_0, Prod.fst (Prod.snd a_1_0), Prod.snd (Prod.snd a_1_0))] < (5864062014805 : Nat)) then
                    some (a_1_1 ++ [(Prod.fst a_1_0, Prod.fst (Prod.snd a_1_0), Prod.snd (Prod.snd a_1_0))], ())
                  else none
              else none
            else
              bif decide (List.length a_1_1 + List.length [(Prod.fst a_1_0, Prod.fst (Prod.snd a_1_0), Prod.snd (Prod.snd a_1_0))] < (5864062014805 : Nat)) then
                some (a_1_1 ++ [(Prod.fst a_1_0, Prod.fst (Prod.snd a_1_0), Prod.snd (Prod.snd a_1_0))], ())
              else none
          else none
        else
          bif decide (List.length a_1_1 + List.length [(Prod.fst a_1_0, Prod.fst (Prod.snd a_1_0), Prod.snd (Prod.snd a_1_0))] < (5864062014805 : Nat)) then
            some (a_1_1 ++ [(Prod.fst a_1_0, Prod.fst (Prod.snd a_1_0), Prod.snd (Prod.snd a_1_0))], ())
          else none
theorem CL145_ok (fuel : Nat) : Sums.Ok Try.prog (CL145 fuel) := sums_of trivial
theorem S145_ok (fuel : Nat) : Sums.Ok Try.prog (S145 fuel) := sums_of trivial
theorem eq145_ : F145 = cover_classed_145 := by kernel_rfl
theorem ok145 (fuel : Nat) : FnOkN Try.prog 145 sg145 (cover_classed_145 fuel) := by
  have h := funN_ok (s := sg145) (an := an145) (fuel := fuel) (fn := Try.f145) (c := cd145) E_ok (S145_ok fuel) (runDraw_ok mixed E_ok (S145_ok fuel)) (enters_of Try.func145 rfl rfl) Try.func145 rfl (by decide)
  exact (congrFun eq145_ fuel) ▸ h

/-! reedpen/cover.triples -/
def sg146 : Sig := ⟨⟨[(0, .one (.pure (.list (.int .u8)))), (1, .one (.pure (.int .i64)))], []⟩, 2, ⟨[(0, .one (.pure (.list (.arr 3 (.int .i64))))), (1, .one (.pure (.bool)))], []⟩, 2, 0⟩
noncomputable def CL146 (_fuel : Nat) : Sums := Tr.get .nil
noncomputable def S146 (fuel : Nat) : Sums := Tr.get (.node (.node .nil 143 (Summ.ofFnN (CL146 fuel) sg143 (some (.pair (.list (.int .u8)) (.pair (.int .i64) (.unit)), .pair (.int .i64) (.pair (.bool) (.unit)))) (octet_U16_143 fuel)) .nil) 144 (Summ.ofFnN (CL146 fuel) sg144 (some (.pair (.list (.int .u8)) (.pair (.int .i64) (.pair (.int .i64) (.pair (.int .i64) (.unit)))), .pair (.list (.int .i64)) (.pair (.bool) (.unit)))) (octet_Row_144 fuel)) .nil)
noncomputable def cd146 : Code := Try.f146.body.getD .skip
noncomputable def an146 : Ann := (.seq .leaf (.seq .leaf (.seq .leaf (.seq .leaf (.seq .leaf (.seq .leaf (.seq (.seq .leaf (.join ⟨[(10, .one (.own (.h 10 0)))], [((.h 10 0), .row 218 (.arr 3 (.int .i64)))]⟩ (.block (.loop ⟨[(8, .one (.pure (.list (.int .i64)))), (10, .one (.own (.h 10 0))), (11, .one (.pure (.int .i64))), (12, .one (.pure (.int .i64)))], [((.h 10 0), .row 218 (.arr 3 (.int .i64)))]⟩ .leaf)))) .leaf)))))))
noncomputable def F146 (fuel : Nat) (d : DL sg146.ins.leafs) : Option (DL sg146.outs.leafs) := funN E (S146 fuel) (runDraw E (S146 fuel)) an146 cd146 75 [.tmp 4, .tmp 5] sg146 fuel d
noncomputable def cover_triples_146_L1 : (List Int × Int × Int × List (List Int) × Unit → Option (List (List Int) × Unit ⊕ List (List Int) × Bool × Unit)) →
  List Int × Int × Int × List (List Int) × Unit → Option (List (List Int) × Unit ⊕ List (List Int) × Bool × Unit) :=
  fun (rec_7 : List Int × Int × Int × List (List Int) × Unit → Option (List (List Int) × Unit ⊕ List (List Int) × Bool × Unit)) =>
    U4 fun (d_8_0 : List Int) (d_8_1 d_8_2 : Int) (d_8_3 : List (List Int)) =>
      bif decide (d_8_2 < (↑(List.length d_8_0) : Int)) then
        bif decide ((0 : Int) ≤ d_8_2 ∧ d_8_2 < (↑(List.length d_8_0) : Int)) then
          bif decide ((0 : Int) ≤ IntKind.wrap IntKind.i64 (d_8_2 + (1 : Int)) ∧ IntKind.wrap IntKind.i64 (d_8_2 + (1 : Int)) < (↑(List.length d_8_0) : Int)) then
            bif decide ((0 : Int) ≤ IntKind.wrap IntKind.i64 (d_8_2 + (2 : Int)) ∧ IntKind.wrap IntKind.i64 (d_8_2 + (2 : Int)) < (↑(List.length d_8_0) : Int)) then none else none
          else none
        else none
      else some (Sum.inl (d_8_3, ()))
noncomputable def cover_triples_146 : Nat → List Int × Int × Unit → Option (List (List Int) × Bool × Unit) :=
  fun (fuel : Nat) =>
    U2 fun (a_1_0 : List Int) (a_1_1 : Int) =>
      bindO (octet_U16_143 fuel (a_1_0, IntKind.wrap IntKind.i64 (a_1_1 + (2 : Int)), ()))
        (U2 fun (y_3_0 : Int) (y_3_1 : Bool) =>
          bindO (octet_Row_144 fuel (a_1_0, IntKind.wrap IntKind.i64 (a_1_1 + (4 : Int)), IntKind.wrap IntKind.i64 ((3 : Int) * y_3_0), (2 : Int), ()))
            (U2 fun (y_5_0 : List Int) (y_5_1 : Bool) =>
              bif (!y_3_1) == false then
                bif !y_5_1 then some ([], false, ())
                else afterJoin (iter cover_triples_146_L1 fuel (y_5_0, (-1 : Int), (0 : Int), [], ())) (U1 fun (d_7_0 : List (List Int)) => some (d_7_0, true, ()))
              else some ([], false, ())))
theorem CL146_ok (fuel : Nat) : Sums.Ok Try.prog (CL146 fuel) := sums_of trivial
theorem S146_ok (fuel : Nat) : Sums.Ok Try.prog (S146 fuel) := sums_of ⟨⟨trivial, Summ.ofFnN_ok (CL146_ok fuel) (ok143 fuel), trivial⟩, Summ.ofFnN_ok (CL146_ok fuel) (ok144 fuel), trivial⟩
theorem eq146_ : F146 = cover_triples_146 := by kernel_rfl
theorem ok146 (fuel : Nat) : FnOkN Try.prog 146 sg146 (cover_triples_146 fuel) := by
  have h := funN_ok (s := sg146) (an := an146) (fuel := fuel) (fn := Try.f146) (c := cd146) E_ok (S146_ok fuel) (runDraw_ok mixed E_ok (S146_ok fuel)) (enters_of Try.func146 rfl rfl) Try.func146 rfl (by decide)
  exact (congrFun eq146_ fuel) ▸ h

/-! reedpen/cover.glyphs -/
def sg141 : Sig := ⟨⟨[(0, .one (.pure (.list (.int .u8)))), (1, .one (.pure (.int .i64)))], []⟩, 2, ⟨[(0, .one (.pure (.list (.pair (.int .i64) (.int .i64))))), (1, .one (.pure (.bool)))], []⟩, 2, 0⟩
noncomputable def CL141 (_fuel : Nat) : Sums := Tr.get .nil
noncomputable def S141 (fuel : Nat) : Sums := Tr.get (.node (.node .nil 89 (Summ.ofFnN (CL141 fuel) sg89 none (cover_joined_89 fuel)) .nil) 143 (Summ.ofFnN (CL141 fuel) sg143 (some (.pair (.list (.int .u8)) (.pair (.int .i64) (.unit)), .pair (.int .i64) (.pair (.bool) (.unit)))) (octet_U16_143 fuel)) (.node .nil 144 (Summ.ofFnN (CL141 fuel) sg144 (some (.pair (.list (.int .u8)) (.pair (.int .i64) (.pair (.int .i64) (.pair (.int .i64) (.unit)))), .pair (.list (.int .i64)) (.pair (.bool) (.unit)))) (octet_Row_144 fuel)) .nil))
noncomputable def cd141 : Code := Try.f141.body.getD .skip
noncomputable def an141 : Ann := (.seq .leaf (.seq .leaf (.seq .leaf (.seq .leaf (.seq .leaf (.seq .leaf (.seq (.seq .leaf (.join ⟨[(10, .one (.own (.h 10 0)))], [((.h 10 0), .row 35 (.pair (.int .i64) (.int .i64)))]⟩ (.block (.loop ⟨[(10, .one (.own (.h 10 0))), (11, .one (.pure (.int .i64))), (35, .one (.pure (.list (.int .i64)))), (36, .one (.pure (.int .i64))), (37, .one (.pure (.int .i64)))], [((.h 10 0), .row 35 (.pair (.int .i64) (.int .i64)))]⟩ .leaf)))) .leaf)))))))
noncomputable def F141 (fuel : Nat) (d : DL sg141.ins.leafs) : Option (DL sg141.outs.leafs) := funN E (S141 fuel) (runDraw E (S141 fuel)) an141 cd141 52 [.tmp 4, .tmp 5] sg141 fuel d
noncomputable def cover_glyphs_141_L1 : Nat →
  (Int × List Int × Int × Int × List (Int × Int) × Unit → Option (List (Int × Int) × Unit ⊕ List (Int × Int) × Bool × Unit)) →
    Int × List Int × Int × Int × List (Int × Int) × Unit → Option (List (Int × Int) × Unit ⊕ List (Int × Int) × Bool × Unit) :=
  fun (fuel : Nat) (rec_7 : Int × List Int × Int × Int × List (Int × Int) × Unit → Option (List (Int × Int) × Unit ⊕ List (Int × Int) × Bool × Unit)) =>
    U5 fun (d_8_0 : Int) (d_8_1 : List Int) (d_8_2 d_8_3 : Int) (d_8_4 : List (Int × Int)) =>
      bif decide (d_8_3 < d_8_2) then
        bif decide ((0 : Int) ≤ d_8_3 ∧ d_8_3 < (↑(List.length d_8_1) : Int)) then
          bif decide (List.getD d_8_1 (Int.toNat d_8_3) (0 : Int) ≤ d_8_0) then some (Sum.inr ([], false, ()))
          else
            bindO (cover_joined_89 fuel ((List.getD d_8_1 (Int.toNat d_8_3) (0 : Int), List.getD d_8_1 (Int.toNat d_8_3) (0 : Int)), d_8_4, ()))
              (U1 fun (y_13_0 : List (Int × Int)) =>
                rec_7 (List.getD d_8_1 (Int.toNat d_8_3) (0 : Int), d_8_1, d_8_2, IntKind.wrap IntKind.i64 (d_8_3 + (1 : Int)), y_13_0, ()))
        else none
      else some (Sum.inl (d_8_4, ()))
noncomputable def cover_glyphs_141 : Nat → List Int × Int × Unit → Option (List (Int × Int) × Bool × Unit) :=
  fun (fuel : Nat) =>
    U2 fun (a_1_0 : List Int) (a_1_1 : Int) =>
      bindO (octet_U16_143 fuel (a_1_0, IntKind.wrap IntKind.i64 (a_1_1 + (2 : Int)), ()))
        (U2 fun (y_3_0 : Int) (y_3_1 : Bool) =>
          bindO (octet_Row_144 fuel (a_1_0, IntKind.wrap IntKind.i64 (a_1_1 + (4 : Int)), y_3_0, (2 : Int), ()))
            (U2 fun (y_5_0 : List Int) (y_5_1 : Bool) =>
              bif (!y_3_1) == false then
                bif !y_5_1 then some ([], false, ())
                else
                  afterJoin (iter (cover_glyphs_141_L1 fuel) fuel ((-1 : Int), y_5_0, (↑(List.length y_5_0) : Int), (0 : Int), [], ()))
                    (U1 fun (d_7_0 : List (Int × Int)) => some (d_7_0, true, ()))
              else some ([], false, ())))
theorem CL141_ok (fuel : Nat) : Sums.Ok Try.prog (CL141 fuel) := sums_of trivial
theorem S141_ok (fuel : Nat) : Sums.Ok Try.prog (S141 fuel) := sums_of ⟨⟨trivial, Summ.ofFnN_ok (CL141_ok fuel) (ok89 fuel), trivial⟩, Summ.ofFnN_ok (CL141_ok fuel) (ok143 fuel), ⟨trivial, Summ.ofFnN_ok (CL141_ok fuel) (ok144 fuel), trivial⟩⟩
theorem eq141_ : F141 = cover_glyphs_141 := by kernel_rfl
theorem ok141 (fuel : Nat) : FnOkN Try.prog 141 sg141 (cover_glyphs_141 fuel) := by
  have h := funN_ok (s := sg141) (an := an141) (fuel := fuel) (fn := Try.f141) (c := cd141) E_ok (S141_ok fuel) (runDraw_ok mixed E_ok (S141_ok fuel)) (enters_of Try.func141 rfl rfl) Try.func141 rfl (by decide)
  exact (congrFun eq141_ fuel) ▸ h

/-! reedpen/cover.ranges -/
def sg142 : Sig := ⟨⟨[(0, .one (.pure (.list (.int .u8)))), (1, .one (.pure (.int .i64)))], []⟩, 2, ⟨[(0, .one (.pure (.list (.pair (.int .i64) (.int .i64))))), (1, .one (.pure (.bool)))], []⟩, 2, 0⟩
noncomputable def CL142 (_fuel : Nat) : Sums := Tr.get .nil
noncomputable def S142 (fuel : Nat) : Sums := Tr.get (.node (.node .nil 89 (Summ.ofFnN (CL142 fuel) sg89 none (cover_joined_89 fuel)) .nil) 146 (Summ.ofFnN (CL142 fuel) sg146 (some (.pair (.list (.int .u8)) (.pair (.int .i64) (.unit)), .pair (.list (.arr 3 (.int .i64))) (.pair (.bool) (.unit)))) (cover_triples_146 fuel)) .nil)
noncomputable def cd142 : Code := Try.f142.body.getD .skip
noncomputable def an142 : Ann := (.seq .leaf (.seq .leaf (.seq .leaf (.seq .leaf (.seq .leaf (.seq (.seq .leaf (.join ⟨[(8, .one (.own (.h 8 0)))], [((.h 8 0), .row 35 (.pair (.int .i64) (.int .i64)))]⟩ (.block (.loop ⟨[(8, .one (.own (.h 8 0))), (9, .one (.pure (.int .i64))), (20, .one (.pure (.list (.arr 3 (.int .i64))))), (21, .one (.pure (.int .i64))), (22, .one (.pure (.int .i64)))], [((.h 8 0), .row 35 (.pair (.int .i64) (.int .i64)))]⟩ .leaf)))) .leaf))))))
noncomputable def F142 (fuel : Nat) (d : DL sg142.ins.leafs) : Option (DL sg142.outs.leafs) := funN E (S142 fuel) (runDraw E (S142 fuel)) an142 cd142 47 [.tmp 4, .tmp 5] sg142 fuel d
noncomputable def cover_ranges_142_L1 : (Int × List (List Int) × Int × Int × List (Int × Int) × Unit → Option (List (Int × Int) × Unit ⊕ List (Int × Int) × Bool × Unit)) →
  Int × List (List Int) × Int × Int × List (Int × Int) × Unit → Option (List (Int × Int) × Unit ⊕ List (Int × Int) × Bool × Unit) :=
  fun (rec_5 : Int × List (List Int) × Int × Int × List (Int × Int) × Unit → Option (List (Int × Int) × Unit ⊕ List (Int × Int) × Bool × Unit)) =>
    U5 fun (d_6_0 : Int) (d_6_1 : List (List Int)) (d_6_2 d_6_3 : Int) (d_6_4 : List (Int × Int)) =>
      bif decide (d_6_3 < d_6_2) then bif decide ((0 : Int) ≤ d_6_3 ∧ d_6_3 < (↑(List.length d_6_1) : Int)) then none else none else some (Sum.inl (d_6_4, ()))
noncomputable def cover_ranges_142 : Nat → List Int × Int × Unit → Option (List (Int × Int) × Bool × Unit) :=
  fun (fuel : Nat) =>
    U2 fun (a_1_0 : List Int) (a_1_1 : Int) =>
      bindO (cover_triples_146 fuel (a_1_0, a_1_1, ()))
        (U2 fun (y_3_0 : List (List Int)) (y_3_1 : Bool) =>
          bif !y_3_1 then some ([], false, ())
          else
            afterJoin (iter cover_ranges_142_L1 fuel ((0 : Int), y_3_0, (↑(List.length y_3_0) : Int), (0 : Int), [], ()))
              (U1 fun (d_5_0 : List (Int × Int)) => some (d_5_0, true, ())))
theorem CL142_ok (fuel : Nat) : Sums.Ok Try.prog (CL142 fuel) := sums_of trivial
theorem S142_ok (fuel : Nat) : Sums.Ok Try.prog (S142 fuel) := sums_of ⟨⟨trivial, Summ.ofFnN_ok (CL142_ok fuel) (ok89 fuel), trivial⟩, Summ.ofFnN_ok (CL142_ok fuel) (ok146 fuel), trivial⟩
theorem eq142_ : F142 = cover_ranges_142 := by kernel_rfl
theorem ok142 (fuel : Nat) : FnOkN Try.prog 142 sg142 (cover_ranges_142 fuel) := by
  have h := funN_ok (s := sg142) (an := an142) (fuel := fuel) (fn := Try.f142) (c := cd142) E_ok (S142_ok fuel) (runDraw_ok mixed E_ok (S142_ok fuel)) (enters_of Try.func142 rfl rfl) Try.func142 rfl (by decide)
  exact (congrFun eq142_ fuel) ▸ h

/-! reedpen/cover.Cover -/
def sg83 : Sig := ⟨⟨[(0, .one (.pure (.list (.int .u8)))), (1, .one (.pure (.int .i64)))], []⟩, 2, ⟨[(0, .one (.pure (.list (.pair (.int .i64) (.int .i64))))), (1, .one (.pure (.bool)))], []⟩, 2, 0⟩
noncomputable def CL83 (_fuel : Nat) : Sums := Tr.get .nil
noncomputable def S83 (fuel : Nat) : Sums := Tr.get (.node (.node .nil 140 (Summ.ofFnN (CL83 fuel) sg140 (some (.pair (.list (.int .u8)) (.pair (.int .i64) (.unit)), .int .i64)) (cover_format_140 fuel)) .nil) 141 (Summ.ofFnN (CL83 fuel) sg141 (some (.pair (.list (.int .u8)) (.pair (.int .i64) (.unit)), .pair (.list (.pair (.int .i64) (.int .i64))) (.pair (.bool) (.unit)))) (cover_glyphs_141 fuel)) (.node .nil 142 (Summ.ofFnN (CL83 fuel) sg142 (some (.pair (.list (.int .u8)) (.pair (.int .i64) (.unit)), .pair (.list (.pair (.int .i64) (.int .i64))) (.pair (.bool) (.unit)))) (cover_ranges_142 fuel)) .nil))
noncomputable def cd83 : Code := Try.f83.body.getD .skip
noncomputable def an83 : Ann := .leaf
noncomputable def F83 (fuel : Nat) (d : DL sg83.ins.leafs) : Option (DL sg83.outs.leafs) := funN E (S83 fuel) (runDraw E (S83 fuel)) an83 cd83 23 [.tmp 4, .tmp 5] sg83 fuel d
noncomputable def cover_Cover_83 : Nat → List Int × Int × Unit → Option (List (Int × Int) × Bool × Unit) :=
  fun (fuel : Nat) =>
    U2 fun (a_1_0 : List Int) (a_1_1 : Int) =>
      bindO (cover_format_140 fuel (a_1_0, a_1_1, ()))
        (U1 fun (y_3_0 : Int) =>
          bif y_3_0 == (1 : Int) then bindO (cover_glyphs_141 fuel (a_1_0, a_1_1, ())) (U2 fun (y_4_0 : List (Int × Int)) (y_4_1 : Bool) => some (y_4_0, y_4_1, ()))
          else
            bif y_3_0 == (2 : Int) then
              bindO (cover_ranges_142 fuel (a_1_0, a_1_1, ())) (U2 fun (y_4_0 : List (Int × Int)) (y_4_1 : Bool) => some (y_4_0, y_4_1, ()))
            else some ([], false, ()))
theorem CL83_ok (fuel : Nat) : Sums.Ok Try.prog (CL83 fuel) := sums_of trivial
theorem S83_ok (fuel : Nat) : Sums.Ok Try.prog (S83 fuel) := sums_of ⟨⟨trivial, Summ.ofFnN_ok (CL83_ok fuel) (ok140 fuel), trivial⟩, Summ.ofFnN_ok (CL83_ok fuel) (ok141 fuel), ⟨trivial, Summ.ofFnN_ok (CL83_ok fuel) (ok142 fuel), trivial⟩⟩
theorem eq83_ : F83 = cover_Cover_83 := by kernel_rfl
theorem ok83 (fuel : Nat) : FnOkN Try.prog 83 sg83 (cover_Cover_83 fuel) := by
  have h := funN_ok (s := sg83) (an := an83) (fuel := fuel) (fn := Try.f83) (c := cd83) E_ok (S83_ok fuel) (runDraw_ok mixed E_ok (S83_ok fuel)) (enters_of Try.func83 rfl rfl) Try.func83 rfl (by decide)
  exact (congrFun eq83_ fuel) ▸ h

/-! reedpen/cover.Classes -/
def sg84 : Sig := ⟨⟨[(0, .one (.pure (.list (.int .u8)))), (1, .one (.pure (.int .i64)))], []⟩, 2, ⟨[(0, .one (.pure (.list (.pair (.int .i64) (.pair (.int .i64) (.int .i64)))))), (1, .one (.pure (.bool)))], []⟩, 2, 0⟩
noncomputable def CL84 (_fuel : Nat) : Sums := Tr.get .nil
noncomputable def S84 (fuel : Nat) : Sums := Tr.get (.node (.node (.node .nil 140 (Summ.ofFnN (CL84 fuel) sg140 (some (.pair (.list (.int .u8)) (.pair (.int .i64) (.unit)), .int .i64)) (cover_format_140 fuel)) .nil) 143 (Summ.ofFnN (CL84 fuel) sg143 (some (.pair (.list (.int .u8)) (.pair (.int .i64) (.unit)), .pair (.int .i64) (.pair (.bool) (.unit)))) (octet_U16_143 fuel)) .nil) 144 (Summ.ofFnN (CL84 fuel) sg144 (some (.pair (.list (.int .u8)) (.pair (.int .i64) (.pair (.int .i64) (.pair (.int .i64) (.unit)))), .pair (.list (.int .i64)) (.pair (.bool) (.unit)))) (octet_Row_144 fuel)) (.node (.node .nil 145 (Summ.ofFnN (CL84 fuel) sg145 none (cover_classed_145 fuel)) .nil) 146 (Summ.ofFnN (CL84 fuel) sg146 (some (.pair (.list (.int .u8)) (.pair (.int .i64) (.unit)), .pair (.list (.arr 3 (.int .i64))) (.pair (.bool) (.unit)))) (cover_triples_146 fuel)) .nil))
noncomputable def cd84 : Code := Try.f84.body.getD .skip
noncomputable def an84 : Ann := (.seq .leaf (.block (.seq .leaf (.seq .leaf (.seq .leaf (.seq (.seq .leaf (.join ⟨[(6, .one (.own (.h 6 0))), (7, .one (.pure (.bool)))], [((.h 6 0), .row 33 (.pair (.int .i64) (.pair (.int .i64) (.int .i64))))]⟩ (.block (.seq .leaf (.join ⟨[(6, .one (.own (.h 6 0))), (7, .one (.pure (.bool)))], [((.h 6 0), .row 33 (.pair (.int .i64) (.pair (.int .i64) (.int .i64))))]⟩ (.cond (.seq .leaf (.seq .leaf (.seq .leaf (.seq .leaf (.seq (.seq .leaf (.join ⟨[(6, .one (.own (.h 6 0)))], [((.h 6 0), .row 33 (.pair (.int .i64) (.pair (.int .i64) (.int .i64))))]⟩ (.block (.loop ⟨[(6, .one (.own (.h 6 0))), (8, .one (.pure (.int .i64))), (60, .one (.pure (.list (.int .i64)))), (61, .one (.pure (.int .i64))), (62, .one (.pure (.int .i64)))], [((.h 6 0), .row 33 (.pair (.int .i64) (.pair (.int .i64) (.int .i64))))]⟩ .leaf)))) .leaf))))) (.seq .leaf (.join ⟨[(6, .one (.own (.h 6 0))), (7, .one (.pure (.bool)))], [((.h 6 0), .row 33 (.pair (.int .i64) (.pair (.int .i64) (.int .i64))))]⟩ (.cond (.seq .leaf (.seq (.seq .leaf (.join ⟨[(6, .one (.own (.h 6 0))), (17, .one (.pure (.bool)))], [((.h 6 0), .row 33 (.pair (.int .i64) (.pair (.int .i64) (.int .i64))))]⟩ (.block (.loop ⟨[(6, .one (.own (.h 6 0))), (17, .one (.pure (.bool))), (86, .one (.pure (.list (.arr 3 (.int .i64))))), (87, .one (.pure (.int .i64))), (88, .one (.pure (.int .i64)))], [((.h 6 0), .row 33 (.pair (.int .i64) (.pair (.int .i64) (.int .i64))))]⟩ .leaf)))) .leaf)) .leaf))))))))) .leaf))))))
noncomputable def F84 (fuel : Nat) (d : DL sg84.ins.leafs) : Option (DL sg84.outs.leafs) := funN E (S84 fuel) (runDraw E (S84 fuel)) an84 cd84 105 [.tmp 4, .tmp 5] sg84 fuel d
noncomputable def cover_Classes_84_L1 : Nat →
  (Int × List Int × Int × Int × List (Int × Int × Int) × Unit →
      Option (List (Int × Int × Int) × Unit ⊕ Bool × List (Int × Int × Int) × Unit ⊕ Bool × List (Int × Int × Int) × Unit ⊕ List (Int × Int × Int) × Bool × Unit)) →
    Int × List Int × Int × Int × List (Int × Int × Int) × Unit →
      Option (List (Int × Int × Int) × Unit ⊕ Bool × List (Int × Int × Int) × Unit ⊕ Bool × List (Int × Int × Int) × Unit ⊕ List (Int × Int × Int) × Bool × Unit) :=
  fun (fuel : Nat)
      (rec_10 :
        Int × List Int × Int × Int × List (Int × Int × Int) × Unit →
          Option (List (Int × Int × Int) × Unit ⊕ Bool × List (Int × Int × Int) × Unit ⊕ Bool × List (Int × Int × Int) × Unit ⊕ List (Int × Int × Int) × Bool × Unit)) =>
    U5 fun (d_11_0 : Int) (d_11_1 : List Int) (d_11_2 d_11_3 : Int) (d_11_4 : List (Int × Int × Int)) =>
      bif decide (d_11_3 < d_11_2) then
        bif decide ((0 : Int) ≤ d_11_3 ∧ d_11_3 < (↑(List.length d_11_1) : Int)) then
          bindO
            (cover_classed_145 fuel
              ((IntKind.wrap IntKind.i64 (d_11_0 + d_11_3), IntKind.wrap IntKind.i64 (d_11_0 + d_11_3), List.getD d_11_1 (Int.toNat d_11_3) (0 : Int)), d_11_4, ()))
            (U1 fun (y_16_0 : List (Int × Int × Int)) => rec_10 (d_11_0, d_11_1, d_11_2, IntKind.wrap IntKind.i64 (d_11_3 + (1 : Int)), y_16_0, ()))
        else none
      else some (Sum.inl (d_11_4, ()))
noncomputable def cover_Classes_84_L2 : (Bool × List (List Int) × Int × Int × List (Int × Int × Int) × Unit →
    Option
      (Bool × List (Int × Int × Int) × Unit ⊕
        Bool × List (Int × Int × Int) × Unit ⊕ Bool × List (Int × Int × Int) × Unit ⊕ Bool × List (Int × Int × Int) × Unit ⊕ List (Int × Int × Int) × Bool × Unit)) →
  Bool × List (List Int) × Int × Int × List (Int × Int × Int) × Unit →
    Option
      (Bool × List (Int × Int × Int) × Unit ⊕
        Bool × List (Int × Int × Int) × Unit ⊕ Bool × List (Int × Int × Int) × Unit ⊕ Bool × List (Int × Int × Int) × Unit ⊕ List (Int × Int × Int) × Bool × Unit) :=
  fun
      (rec_6 :
        Bool × List (List Int) × Int × Int × List (Int × Int × Int) × Unit →
          Option
            (Bool × List (Int × Int × Int) × Unit ⊕
              Bool × List (Int × Int × Int) × Unit ⊕ Bool × List (Int × Int × Int) × Unit ⊕ Bool × List (Int × Int × Int) × Unit ⊕ List (Int × Int × Int) × Bool × Unit)) =>
    U5 fun (d_7_0 : Bool) (d_7_1 : List (List Int)) (d_7_2 d_7_3 : Int) (d_7_4 : List (Int × Int × Int)) =>
      bif decide (d_7_3 < d_7_2) then bif decide ((0 : Int) ≤ d_7_3 ∧ d_7_3 < (↑(List.length d_7_1) : Int)) then none else none else some (Sum.inl (d_7_0, d_7_4, ()))
noncomputable def cover_Classes_84 : Nat → List Int × Int × Unit → Option (List (Int × Int × Int) × Bool × Unit) :=
  fun (fuel : Nat) =>
    U2 fun (a_1_0 : List Int) (a_1_1 : Int) =>
      bindO (cover_format_140 fuel (a_1_0, a_1_1, ()))
        (U1 fun (y_3_0 : Int) =>
          afterJoin
            (afterJoin
              (bif y_3_0 == (1 : Int) then
                bindO (octet_U16_143 fuel (a_1_0, IntKind.wrap IntKind.i64 (a_1_1 + (2 : Int)), ()))
                  (U2 fun (y_4_0 : Int) (y_4_1 : Bool) =>
                    bindO (octet_U16_143 fuel (a_1_0, IntKind.wrap IntKind.i64 (a_1_1 + (4 : Int)), ()))
                      (U2 fun (y_6_0 : Int) (y_6_1 : Bool) =>
                        bindO (octet_Row_144 fuel (a_1_0, IntKind.wrap IntKind.i64 (IntKind.wrap IntKind.i64 (a_1_1 + (4 : Int)) + (2 : Int)), y_6_0, (2 : Int), ()))
                          (U2 fun (y_8_0 : List Int) (y_8_1 : Bool) =>
                            bif (!y_6_1) == false then
                              bif (!y_8_1) == false then
                                bif decide (IntKind.wrap IntKind.i64 (y_4_0 + y_6_0) > (65536 : Int)) then some (Sum.inr (Sum.inl (false, [], ())))
                                else
                                  afterJoin (iter (cover_Classes_84_L1 fuel) fuel (y_4_0, y_8_0, (↑(List.length y_8_0) : Int), (0 : Int), [], ()))
                                    (U1 fun (d_10_0 : List (Int × Int × Int)) => some (Sum.inl (true, d_10_0, ())))
                              else some (Sum.inr (Sum.inl (false, [], ())))
                            else some (Sum.inr (Sum.inl (false, [], ()))))))
              else
                afterJoin
                  (bif y_3_0 == (2 : Int) then
                    bindO (cover_triples_146 fuel (a_1_0, a_1_1, ()))
                      (U2 fun (y_4_0 : List (List Int)) (y_4_1 : Bool) =>
                        afterJoin (iter cover_Classes_84_L2 fuel (y_4_1, y_4_0, (↑(List.length y_4_0) : Int), (0 : Int), [], ()))
                          (U2 fun (d_6_0 : Bool) (d_6_1 : List (Int × Int × Int)) => some (Sum.inl (d_6_0, d_6_1, ()))))
                  else some (Sum.inl (false, [], ())))
                  (U2 fun (d_4_0 : Bool) (d_4_1 : List (Int × Int × Int)) => some (Sum.inl (d_4_0, d_4_1, ()))))
              (U2 fun (d_4_0 : Bool) (d_4_1 : List (Int × Int × Int)) => some (Sum.inl (d_4_0, d_4_1, ()))))
            (U2 fun (d_4_0 : Bool) (d_4_1 : List (Int × Int × Int)) => some (d_4_1, d_4_0, ())))
theorem CL84_ok (fuel : Nat) : Sums.Ok Try.prog (CL84 fuel) := sums_of trivial
theorem S84_ok (fuel : Nat) : Sums.Ok Try.prog (S84 fuel) := sums_of ⟨⟨⟨trivial, Summ.ofFnN_ok (CL84_ok fuel) (ok140 fuel), trivial⟩, Summ.ofFnN_ok (CL84_ok fuel) (ok143 fuel), trivial⟩, Summ.ofFnN_ok (CL84_ok fuel) (ok144 fuel), ⟨⟨trivial, Summ.ofFnN_ok (CL84_ok fuel) (ok145 fuel), trivial⟩, Summ.ofFnN_ok (CL84_ok fuel) (ok146 fuel), trivial⟩⟩
theorem eq84_ : F84 = cover_Classes_84 := by kernel_rfl
theorem ok84 (fuel : Nat) : FnOkN Try.prog 84 sg84 (cover_Classes_84 fuel) := by
  have h := funN_ok (s := sg84) (an := an84) (fuel := fuel) (fn := Try.f84) (c := cd84) E_ok (S84_ok fuel) (runDraw_ok mixed E_ok (S84_ok fuel)) (enters_of Try.func84 rfl rfl) Try.func84 rfl (by decide)
  exact (congrFun eq84_ fuel) ▸ h

/-! reedpen/cover.Index -/
def sg85 : Sig := ⟨⟨[(0, .one (.pure (.list (.pair (.int .i64) (.int .i64))))), (1, .one (.pure (.int .i64)))], []⟩, 2, ⟨[(0, .one (.pure (.int .i64)))], []⟩, 1, 0⟩
noncomputable def CL85 (_fuel : Nat) : Sums := Tr.get .nil
noncomputable def S85 (_fuel : Nat) : Sums := Tr.get .nil
noncomputable def cd85 : Code := Try.f85.body.getD .skip
noncomputable def an85 : Ann := (.seq .leaf (.seq .leaf (.seq (.seq .leaf (.join ⟨[], []⟩ (.block (.loop ⟨[(1, .one (.pure (.int .i64))), (5, .one (.pure (.int .i64))), (8, .one (.pure (.list (.pair (.int .i64) (.int .i64))))), (9, .one (.pure (.int .i64))), (10, .one (.pure (.int .i64)))], []⟩ .leaf)))) .leaf)))
noncomputable def F85 (fuel : Nat) (d : DL sg85.ins.leafs) : Option (DL sg85.outs.leafs) := funN E (S85 fuel) (runDraw E (S85 fuel)) an85 cd85 37 [.tmp 4] sg85 fuel d
noncomputable def cover_Index_85_L1 : (Int × Int × List (Int × Int) × Int × Int × Unit → Option (Unit ⊕ Int × Unit)) → Int × Int × List (Int × Int) × Int × Int × Unit → Option (Unit ⊕ Int × Unit) :=
  fun (rec_3 : Int × Int × List (Int × Int) × Int × Int × Unit → Option (Unit ⊕ Int × Unit)) =>
    U5 fun (d_4_0 d_4_1 : Int) (d_4_2 : List (Int × Int)) (d_4_3 d_4_4 : Int) =>
      bif decide (d_4_4 < d_4_3) then
        bif decide ((0 : Int) ≤ d_4_4 ∧ d_4_4 < (↑(List.length d_4_2) : Int)) then
          bif decide (d_4_0 < Prod.fst (List.getD d_4_2 (Int.toNat d_4_4) ((0 : Int), (0 : Int)))) then some (Sum.inl ())
          else
            bif decide (d_4_0 ≤ Prod.snd (List.getD d_4_2 (Int.toNat d_4_4) ((0 : Int), (0 : Int)))) then
              some (Sum.inr (IntKind.wrap IntKind.i64 (IntKind.wrap IntKind.i64 (d_4_1 + d_4_0) - Prod.fst (List.getD d_4_2 (Int.toNat d_4_4) ((0 : Int), (0 : Int)))), ()))
            else
              rec_3
                (d_4_0,
                  IntKind.wrap IntKind.i64
                    (d_4_1 +
                      IntKind.wrap IntKind.i64
                        (IntKind.wrap IntKind.i64
                            (Prod.snd (List.getD d_4_2 (Int.toNat d_4_4) ((0 : Int), (0 : Int))) - Prod.fst (List.getD d_4_2 (Int.toNat d_4_4) ((0 : Int), (0 : Int)))) +
                          (1 : Int))),
                  d_4_2, d_4_3, IntKind.wrap IntKind.i64 (d_4_4 + (1 : Int)), ())
        else none
      else some (Sum.inl ())
noncomputable def cover_Index_85 : Nat → List (Int × Int) × Int × Unit → Option (Int × Unit) :=
  fun (fuel : Nat) =>
    U2 fun (a_1_0 : List (Int × Int)) (a_1_1 : Int) =>
      afterJoin (iter cover_Index_85_L1 fuel (a_1_1, (0 : Int), a_1_0, (↑(List.length a_1_0) : Int), (0 : Int), ())) (U0 (some ((-1 : Int), ())))
theorem CL85_ok (fuel : Nat) : Sums.Ok Try.prog (CL85 fuel) := sums_of trivial
theorem S85_ok (fuel : Nat) : Sums.Ok Try.prog (S85 fuel) := sums_of trivial
theorem eq85_ : F85 = cover_Index_85 := by kernel_rfl
theorem ok85 (fuel : Nat) : FnOkN Try.prog 85 sg85 (cover_Index_85 fuel) := by
  have h := funN_ok (s := sg85) (an := an85) (fuel := fuel) (fn := Try.f85) (c := cd85) E_ok (S85_ok fuel) (runDraw_ok mixed E_ok (S85_ok fuel)) (enters_of Try.func85 rfl rfl) Try.func85 rfl (by decide)
  exact (congrFun eq85_ fuel) ▸ h

/-! reedpen/cover.Count -/
def sg86 : Sig := ⟨⟨[(0, .one (.pure (.list (.pair (.int .i64) (.int .i64)))))], []⟩, 1, ⟨[(0, .one (.pure (.int .i64)))], []⟩, 1, 0⟩
noncomputable def CL86 (_fuel : Nat) : Sums := Tr.get .nil
noncomputable def S86 (_fuel : Nat) : Sums := Tr.get .nil
noncomputable def cd86 : Code := Try.f86.body.getD .skip
noncomputable def an86 : Ann := (.seq .leaf (.seq .leaf (.seq (.seq .leaf (.join ⟨[(3, .one (.pure (.int .i64)))], []⟩ (.block (.loop ⟨[(3, .one (.pure (.int .i64))), (6, .one (.pure (.list (.pair (.int .i64) (.int .i64))))), (7, .one (.pure (.int .i64))), (8, .one (.pure (.int .i64)))], []⟩ .leaf)))) .leaf)))
noncomputable def F86 (fuel : Nat) (d : DL sg86.ins.leafs) : Option (DL sg86.outs.leafs) := funN E (S86 fuel) (runDraw E (S86 fuel)) an86 cd86 22 [.tmp 2] sg86 fuel d
noncomputable def cover_Count_86_L1 : (Int × List (Int × Int) × Int × Int × Unit → Option (Int × Unit ⊕ Int × Unit)) → Int × List (Int × Int) × Int × Int × Unit → Option (Int × Unit ⊕ Int × Unit) :=
  fun (rec_2 : Int × List (Int × Int) × Int × Int × Unit → Option (Int × Unit ⊕ Int × Unit)) =>
    U4 fun (d_3_0 : Int) (d_3_1 : List (Int × Int)) (d_3_2 d_3_3 : Int) =>
      bif decide (d_3_3 < d_3_2) then
        bif decide ((0 : Int) ≤ d_3_3 ∧ d_3_3 < (↑(List.length d_3_1) : Int)) then
          rec_2
            (IntKind.wrap IntKind.i64
                (d_3_0 +
                  IntKind.wrap IntKind.i64
                    (IntKind.wrap IntKind.i64
                        (Prod.snd (List.getD d_3_1 (Int.toNat d_3_3) ((0 : Int), (0 : Int))) - Prod.fst (List.getD d_3_1 (Int.toNat d_3_3) ((0 : Int), (0 : Int)))) +
                      (1 : Int))),
              d_3_1, d_3_2, IntKind.wrap IntKind.i64 (d_3_3 + (1 : Int)), ())
        else none
      else some (Sum.inl (d_3_0, ()))
noncomputable def cover_Count_86 : Nat → List (Int × Int) × Unit → Option (Int × Unit) :=
  fun (fuel : Nat) =>
    U1 fun (a_1_0 : List (Int × Int)) =>
      afterJoin (iter cover_Count_86_L1 fuel ((0 : Int), a_1_0, (↑(List.length a_1_0) : Int), (0 : Int), ())) (U1 fun (d_2_0 : Int) => some (d_2_0, ()))
theorem CL86_ok (fuel : Nat) : Sums.Ok Try.prog (CL86 fuel) := sums_of trivial
theorem S86_ok (fuel : Nat) : Sums.Ok Try.prog (S86 fuel) := sums_of trivial
theorem eq86_ : F86 = cover_Count_86 := by kernel_rfl
theorem ok86 (fuel : Nat) : FnOkN Try.prog 86 sg86 (cover_Count_86 fuel) := by
  have h := funN_ok (s := sg86) (an := an86) (fuel := fuel) (fn := Try.f86) (c := cd86) E_ok (S86_ok fuel) (runDraw_ok mixed E_ok (S86_ok fuel)) (enters_of Try.func86 rfl rfl) Try.func86 rfl (by decide)
  exact (congrFun eq86_ fuel) ▸ h

/-! reedpen/cover.Of -/
def sg87 : Sig := ⟨⟨[(0, .one (.pure (.list (.pair (.int .i64) (.pair (.int .i64) (.int .i64)))))), (1, .one (.pure (.int .i64)))], []⟩, 2, ⟨[(0, .one (.pure (.int .i64)))], []⟩, 1, 0⟩
noncomputable def CL87 (_fuel : Nat) : Sums := Tr.get .nil
noncomputable def S87 (_fuel : Nat) : Sums := Tr.get .nil
noncomputable def cd87 : Code := Try.f87.body.getD .skip
noncomputable def an87 : Ann := (.seq .leaf (.seq (.seq .leaf (.join ⟨[], []⟩ (.block (.loop ⟨[(1, .one (.pure (.int .i64))), (7, .one (.pure (.list (.pair (.int .i64) (.pair (.int .i64) (.int .i64)))))), (8, .one (.pure (.int .i64))), (9, .one (.pure (.int .i64)))], []⟩ .leaf)))) .leaf))
noncomputable def F87 (fuel : Nat) (d : DL sg87.ins.leafs) : Option (DL sg87.outs.leafs) := funN E (S87 fuel) (runDraw E (S87 fuel)) an87 cd87 26 [.tmp 4] sg87 fuel d
noncomputable def cover_Of_87_L1 : (Int × List (Int × Int × Int) × Int × Int × Unit → Option (Unit ⊕ Int × Unit)) → Int × List (Int × Int × Int) × Int × Int × Unit → Option (Unit ⊕ Int × Unit) :=
  fun (rec_3 : Int × List (Int × Int × Int) × Int × Int × Unit → Option (Unit ⊕ Int × Unit)) =>
    U4 fun (d_4_0 : Int) (d_4_1 : List (Int × Int × Int)) (d_4_2 d_4_3 : Int) =>
      bif decide (d_4_3 < d_4_2) then
        bif decide ((0 : Int) ≤ d_4_3 ∧ d_4_3 < (↑(List.length d_4_1) : Int)) then
          bif decide (d_4_0 ≥ Prod.fst (List.getD d_4_1 (Int.toNat d_4_3) ((0 : Int), (0 : Int), (0 : Int)))) == true then
            bif decide (d_4_0 ≤ Prod.fst (Prod.snd (List.getD d_4_1 (Int.toNat d_4_3) ((0 : Int), (0 : Int), (0 : Int))))) then
              some (Sum.inr (Prod.snd (Prod.snd (List.getD d_4_1 (Int.toNat d_4_3) ((0 : Int), (0 : Int), (0 : Int)))), ()))
            else rec_3 (d_4_0, d_4_1, d_4_2, IntKind.wrap IntKind.i64 (d_4_3 + (1 : Int)), ())
          else rec_3 (d_4_0, d_4_1, d_4_2, IntKind.wrap IntKind.i64 (d_4_3 + (1 : Int)), ())
        else none
      else some (Sum.inl ())
noncomputable def cover_Of_87 : Nat → List (Int × Int × Int) × Int × Unit → Option (Int × Unit) :=
  fun (fuel : Nat) =>
    U2 fun (a_1_0 : List (Int × Int × Int)) (a_1_1 : Int) =>
      afterJoin (iter cover_Of_87_L1 fuel (a_1_1, a_1_0, (↑(List.length a_1_0) : Int), (0 : Int), ())) (U0 (some ((0 : Int), ())))
theorem CL87_ok (fuel : Nat) : Sums.Ok Try.prog (CL87 fuel) := sums_of trivial
theorem S87_ok (fuel : Nat) : Sums.Ok Try.prog (S87 fuel) := sums_of trivial
theorem eq87_ : F87 = cover_Of_87 := by kernel_rfl
theorem ok87 (fuel : Nat) : FnOkN Try.prog 87 sg87 (cover_Of_87 fuel) := by
  have h := funN_ok (s := sg87) (an := an87) (fuel := fuel) (fn := Try.f87) (c := cd87) E_ok (S87_ok fuel) (runDraw_ok mixed E_ok (S87_ok fuel)) (enters_of Try.func87 rfl rfl) Try.func87 rfl (by decide)
  exact (congrFun eq87_ fuel) ▸ h

/-! reedpen/cover.Has -/
def sg88 : Sig := ⟨⟨[(0, .data (.pair (.list (.pair (.int .i64) (.int .i64))) (.bool))), (1, .one (.pure (.int .i64)))], []⟩, 2, ⟨[(0, .one (.pure (.bool)))], []⟩, 1, 0⟩
noncomputable def CL88 (_fuel : Nat) : Sums := Tr.get .nil
noncomputable def S88 (fuel : Nat) : Sums := Tr.get (.node .nil 85 (Summ.ofFnN (CL88 fuel) sg85 (some (.pair (.list (.pair (.int .i64) (.int .i64))) (.pair (.int .i64) (.unit)), .int .i64)) (cover_Index_85 fuel)) .nil)
noncomputable def cd88 : Code := Try.f88.body.getD .skip
noncomputable def an88 : Ann := .leaf
noncomputable def F88 (fuel : Nat) (d : DL sg88.ins.leafs) : Option (DL sg88.outs.leafs) := funN E (S88 fuel) (runDraw E (S88 fuel)) an88 cd88 13 [.tmp 4] sg88 fuel d
noncomputable def cover_Has_88 : Nat → (List (Int × Int) × Bool) × Int × Unit → Option (Bool × Unit) :=
  fun (fuel : Nat) =>
    U2 fun (a_1_0 : List (Int × Int) × Bool) (a_1_1 : Int) =>
      bindO (cover_Index_85 fuel (Prod.fst a_1_0, a_1_1, ())) (U1 fun (y_3_0 : Int) => some (!decide (y_3_0 ≥ (0 : Int)) == Prod.snd a_1_0, ()))
theorem CL88_ok (fuel : Nat) : Sums.Ok Try.prog (CL88 fuel) := sums_of trivial
theorem S88_ok (fuel : Nat) : Sums.Ok Try.prog (S88 fuel) := sums_of ⟨trivial, Summ.ofFnN_ok (CL88_ok fuel) (ok85 fuel), trivial⟩
theorem eq88_ : F88 = cover_Has_88 := by kernel_rfl
theorem ok88 (fuel : Nat) : FnOkN Try.prog 88 sg88 (cover_Has_88 fuel) := by
  have h := funN_ok (s := sg88) (an := an88) (fuel := fuel) (fn := Try.f88) (c := cd88) E_ok (S88_ok fuel) (runDraw_ok mixed E_ok (S88_ok fuel)) (enters_of Try.func88 rfl rfl) Try.func88 rfl (by decide)
  exact (congrFun eq88_ fuel) ▸ h

/-! reedpen/cover.With -/
def sg26 : Sig := ⟨⟨[(0, .one (.pure (.list (.pair (.int .i64) (.pair (.int .i64) (.int .i64)))))), (1, .one (.pure (.int .i64)))], []⟩, 2, ⟨[(0, .data (.pair (.list (.pair (.int .i64) (.int .i64))) (.bool)))], []⟩, 1, 0⟩
noncomputable def CL26 (_fuel : Nat) : Sums := Tr.get .nil
noncomputable def S26 (fuel : Nat) : Sums := Tr.get (.node .nil 89 (Summ.ofFnN (CL26 fuel) sg89 none (cover_joined_89 fuel)) .nil)
noncomputable def cd26 : Code := Try.f26.body.getD .skip
noncomputable def an26 : Ann := (.seq .leaf (.seq .leaf (.seq (.seq .leaf (.join ⟨[(4, .one (.ptr (.h 4 0) 0)), (5, .one (.ptr (.h 5 0) 0))], [((.h 4 0), .var [.nil .slice, .pure (.bool)]), ((.h 5 0), .var [.own (.h 5 1), .pure (.bool)]), ((.h 5 1), .row 35 (.pair (.int .i64) (.int .i64)))]⟩ (.block (.loop ⟨[(1, .one (.pure (.int .i64))), (4, .one (.ptr (.h 4 0) 0)), (5, .one (.ptr (.h 5 0) 0)), (11, .one (.pure (.list (.pair (.int .i64) (.pair (.int .i64) (.int .i64)))))), (12, .one (.pure (.int .i64))), (13, .one (.pure (.int .i64)))], [((.h 4 0), .var [.nil .slice, .pure (.bool)]), ((.h 5 0), .var [.own (.h 5 1), .pure (.bool)]), ((.h 5 1), .row 35 (.pair (.int .i64) (.int .i64)))]⟩ (.seq .leaf (.seq .leaf (.seq (.block (.seq .leaf (.seq .leaf (.join ⟨[(1, .one (.pure (.int .i64))), (4, .one (.ptr (.h 4 0) 0)), (5, .one (.ptr (.h 5 0) 0)), (11, .one (.pure (.list (.pair (.int .i64) (.pair (.int .i64) (.int .i64)))))), (12, .one (.pure (.int .i64))), (13, .one (.pure (.int .i64)))], [((.h 4 0), .var [.nil .slice, .pure (.bool)]), ((.h 5 0), .var [.own (.h 5 1), .pure (.bool)]), ((.h 5 1), .row 35 (.pair (.int .i64) (.int .i64)))]⟩ .leaf)))) .leaf))))))) .leaf)))
noncomputable def F26 (fuel : Nat) (d : DL sg26.ins.leafs) : Option (DL sg26.outs.leafs) := funN E (S26 fuel) (runDraw E (S26 fuel)) an26 cd26 36 [.cell 4 28] sg26 fuel d
noncomputable def cover_With_26_L1 : Nat →
  (Int × List (Int × Int × Int) × Int × Int × Bool × Bool × List (Int × Int) × Unit → Option (Bool × Bool × List (Int × Int) × Unit ⊕ (List (Int × Int) × Bool) × Unit)) →
    Int × List (Int × Int × Int) × Int × Int × Bool × Bool × List (Int × Int) × Unit → Option (Bool × Bool × List (Int × Int) × Unit ⊕ (List (Int × Int) × Bool) × Unit) :=
  fun (fuel : Nat)
      (rec_3 :
        Int × List (Int × Int × Int) × Int × Int × Bool × Bool × List (Int × Int) × Unit → Option (Bool × Bool × List (Int × Int) × Unit ⊕ (List (Int × Int) × Bool) × Unit)) =>
    U7 fun (d_4_0 : Int) (d_4_1 : List (Int × Int × Int)) (d_4_2 d_4_3 : Int) (d_4_4 d_4_5 : Bool) (d_4_6 : List (Int × Int)) =>
      bif decide (d_4_3 < d_4_2) then
        bif decide ((0 : Int) ≤ d_4_3 ∧ d_4_3 < (↑(List.length d_4_1) : Int)) then
          bif (d_4_0 == (0 : Int)) == false then
            afterJoin
              (bif Prod.snd (Prod.snd (List.getD d_4_1 (Int.toNat d_4_3) ((0 : Int), (0 : Int), (0 : Int)))) == d_4_0 then
                bindO
                  (cover_joined_89 fuel
                    ((Prod.fst (List.getD d_4_1 (Int.toNat d_4_3) ((0 : Int), (0 : Int), (0 : Int))),
                        Prod.fst (Prod.snd (List.getD d_4_1 (Int.toNat d_4_3) ((0 : Int), (0 : Int), (0 : Int))))),
                      d_4_6, ()))
                  (U1 fun (y_11_0 : List (Int × Int)) => some (Sum.inl (d_4_0, d_4_1, d_4_2, d_4_3, d_4_4, d_4_5, y_11_0, ())))
              else some (Sum.inl (d_4_0, d_4_1, d_4_2, d_4_3, d_4_4, d_4_5, d_4_6, ())))
              (U7 fun (d_11_0 : Int) (d_11_1 : List (Int × Int × Int)) (d_11_2 d_11_3 : Int) (d_11_4 d_11_5 : Bool) (d_11_6 : List (Int × Int)) =>
                rec_3 (d_11_0, d_11_1, d_11_2, IntKind.wrap IntKind.i64 (d_11_3 + (1 : Int)), d_11_4, d_11_5, d_11_6, ()))
          else
            afterJoin
              (bindO
                (cover_joined_89 fuel
                  ((Prod.fst (List.getD d_4_1 (Int.toNat d_4_3) ((0 : Int), (0 : Int), (0 : Int))),
                      Prod.fst (Prod.snd (List.getD d_4_1 (Int.toNat d_4_3) ((0 : Int), (0 : Int), (0 : Int))))),
                    d_4_6, ()))
                (U1 fun (y_11_0 : List (Int × Int)) => some (Sum.inl (d_4_0, d_4_1, d_4_2, d_4_3, d_4_4, d_4_5, y_11_0, ()))))
              (U7 fun (d_11_0 : Int) (d_11_1 : List (Int × Int × Int)) (d_11_2 d_11_3 : Int) (d_11_4 d_11_5 : Bool) (d_11_6 : List (Int × Int)) =>
                rec_3 (d_11_0, d_11_1, d_11_2, IntKind.wrap IntKind.i64 (d_11_3 + (1 : Int)), d_11_4, d_11_5, d_11_6, ()))
        else none
      else some (Sum.inl (d_4_4, d_4_5, d_4_6, ()))
noncomputable def cover_With_26 : Nat → List (Int × Int × Int) × Int × Unit → Option ((List (Int × Int) × Bool) × Unit) :=
  fun (fuel : Nat) =>
    U2 fun (a_1_0 : List (Int × Int × Int)) (a_1_1 : Int) =>
      afterJoin (iter (cover_With_26_L1 fuel) fuel (a_1_1, a_1_0, (↑(List.length a_1_0) : Int), (0 : Int), false, a_1_1 == (0 : Int), [], ()))
        (U3 fun (d_3_0 d_3_1 : Bool) (d_3_2 : List (Int × Int)) => some ((d_3_2, d_3_1), ()))
theorem CL26_ok (fuel : Nat) : Sums.Ok Try.prog (CL26 fuel) := sums_of trivial
theorem S26_ok (fuel : Nat) : Sums.Ok Try.prog (S26 fuel) := sums_of ⟨trivial, Summ.ofFnN_ok (CL26_ok fuel) (ok89 fuel), trivial⟩
theorem eq26_ : F26 = cover_With_26 := by kernel_rfl
theorem ok26 (fuel : Nat) : FnOkN Try.prog 26 sg26 (cover_With_26 fuel) := by
  have h := funN_ok (s := sg26) (an := an26) (fuel := fuel) (fn := Try.f26) (c := cd26) E_ok (S26_ok fuel) (runDraw_ok mixed E_ok (S26_ok fuel)) (enters_of Try.func26 rfl rfl) Try.func26 rfl (by decide)
  exact (congrFun eq26_ fuel) ▸ h

/-! reedpen/cover.Both -/
def sg27 : Sig := ⟨⟨[(0, .one (.pure (.list (.pair (.int .i64) (.int .i64))))), (1, .data (.pair (.list (.pair (.int .i64) (.int .i64))) (.bool)))], []⟩, 2, ⟨[(0, .one (.pure (.list (.pair (.int .i64) (.int .i64)))))], []⟩, 1, 0⟩
noncomputable def CL27 (fuel : Nat) : Sums := Tr.get (.node .nil 90 (Summ.ofFnN (Tr.get .nil) sg90 none (cover_Both_1_90 fuel)) .nil)
noncomputable def S27 (fuel : Nat) : Sums := Tr.get (.node .nil 90 (Summ.ofFnN (CL27 fuel) sg90 none (cover_Both_1_90 fuel)) .nil)
noncomputable def cd27 : Code := Try.f27.body.getD .skip
noncomputable def an27 : Ann := (.seq .leaf (.seq .leaf (.seq .leaf (.seq (.seq .leaf (.join ⟨[(5, .one (.ptr (.h 5 0) 0))], [((.h 5 0), .var [.own (.h 5 1)]), ((.h 5 1), .row 35 (.pair (.int .i64) (.int .i64)))]⟩ (.block (.loop ⟨[(3, .one (.ptr (.h 3 0) 0)), (5, .one (.ptr (.h 5 0) 0)), (6, .one (.func 90 [.tok (.h 5 0)])), (13, .one (.pure (.list (.pair (.int .i64) (.int .i64))))), (14, .one (.pure (.int .i64))), (15, .one (.pure (.int .i64)))], [((.h 3 0), .dvar (.pair (.list (.pair (.int .i64) (.int .i64))) (.bool))), ((.h 5 0), .var [.own (.h 5 1)]), ((.h 5 1), .row 35 (.pair (.int .i64) (.int .i64)))]⟩ (.seq .leaf (.seq .leaf (.seq (.block (.seq .leaf (.seq .leaf (.seq (.seq .leaf (.join ⟨[(3, .one (.ptr (.h 3 0) 0)), (5, .one (.ptr (.h 5 0) 0)), (6, .one (.func 90 [.tok (.h 5 0)])), (8, .one (.ptr (.h 8 0) 0)), (9, .one (.pure (.int .i64))), (13, .one (.pure (.list (.pair (.int .i64) (.int .i64))))), (14, .one (.pure (.int .i64))), (15, .one (.pure (.int .i64)))], [((.h 3 0), .dvar (.pair (.list (.pair (.int .i64) (.int .i64))) (.bool))), ((.h 5 0), .var [.own (.h 5 1)]), ((.h 8 0), .dvar (.pair (.int .i64) (.int .i64))), ((.h 5 1), .row 35 (.pair (.int .i64) (.int .i64)))]⟩ (.block (.loop ⟨[(3, .one (.ptr (.h 3 0) 0)), (5, .one (.ptr (.h 5 0) 0)), (6, .one (.func 90 [.tok (.h 5 0)])), (8, .one (.ptr (.h 8 0) 0)), (9, .one (.pure (.int .i64))), (13, .one (.pure (.list (.pair (.int .i64) (.int .i64))))), (14, .one (.pure (.int .i64))), (15, .one (.pure (.int .i64))), (22, .one (.pure (.list (.pair (.int .i64) (.int .i64))))), (23, .one (.pure (.int .i64))), (24, .one (.pure (.int .i64)))], [((.h 3 0), .dvar (.pair (.list (.pair (.int .i64) (.int .i64))) (.bool))), ((.h 5 0), .var [.own (.h 5 1)]), ((.h 8 0), .dvar (.pair (.int .i64) (.int .i64))), ((.h 5 1), .row 35 (.pair (.int .i64) (.int .i64)))]⟩ (.seq .leaf (.seq .leaf (.seq (.join ⟨[(3, .one (.ptr (.h 3 0) 0)), (5, .one (.ptr (.h 5 0) 0)), (6, .one (.func 90 [.tok (.h 5 0)])), (8, .one (.ptr (.h 8 0) 0)), (9, .one (.pure (.int .i64))), (13, .one (.pure (.list (.pair (.int .i64) (.int .i64))))), (14, .one (.pure (.int .i64))), (15, .one (.pure (.int .i64))), (22, .one (.pure (.list (.pair (.int .i64) (.int .i64))))), (23, .one (.pure (.int .i64))), (24, .one (.pure (.int .i64)))], [((.h 3 0), .dvar (.pair (.list (.pair (.int .i64) (.int .i64))) (.bool))), ((.h 5 0), .var [.own (.h 5 1)]), ((.h 8 0), .dvar (.pair (.int .i64) (.int .i64))), ((.h 5 1), .row 35 (.pair (.int .i64) (.int .i64)))]⟩ (.block (.seq .leaf (.seq .leaf (.seq (.seq .leaf (.join ⟨[(3, .one (.ptr (.h 3 0) 0)), (5, .one (.ptr (.h 5 0) 0)), (6, .one (.func 90 [.tok (.h 5 0)])), (8, .one (.ptr (.h 8 0) 0)), (11, .one (.ptr (.h 11 0) 0)), (13, .one (.pure (.list (.pair (.int .i64) (.int .i64))))), (14, .one (.pure (.int .i64))), (15, .one (.pure (.int .i64))), (22, .one (.pure (.list (.pair (.int .i64) (.int .i64))))), (23, .one (.pure (.int .i64))), (24, .one (.pure (.int .i64)))], [((.h 3 0), .dvar (.pair (.list (.pair (.int .i64) (.int .i64))) (.bool))), ((.h 5 0), .var [.own (.h 5 1)]), ((.h 8 0), .dvar (.pair (.int .i64) (.int .i64))), ((.h 11 0), .dvar (.pair (.int .i64) (.int .i64))), ((.h 5 1), .row 35 (.pair (.int .i64) (.int .i64)))]⟩ .leaf)) .leaf))))) .leaf))))))) (.seq .leaf (.join ⟨[(3, .one (.ptr (.h 3 0) 0)), (5, .one (.ptr (.h 5 0) 0)), (6, .one (.func 90 [.tok (.h 5 0)])), (13, .one (.pure (.list (.pair (.int .i64) (.int .i64))))), (14, .one (.pure (.int .i64))), (15, .one (.pure (.int .i64)))], [((.h 3 0), .dvar (.pair (.list (.pair (.int .i64) (.int .i64))) (.bool))), ((.h 5 0), .var [.own (.h 5 1)]), ((.h 5 1), .row 35 (.pair (.int .i64) (.int .i64)))]⟩ .leaf)))))) .leaf))))))) .leaf))))
noncomputable def F27 (fuel : Nat) (d : DL sg27.ins.leafs) : Option (DL sg27.outs.leafs) := funN E (S27 fuel) (runDraw E (S27 fuel)) an27 cd27 72 [.tmp 4] sg27 fuel d
noncomputable def cover_Both_27_L1 : Nat →
  (Int × List (Int × Int) × Int × Int × List (Int × Int) × Int × Int × (List (Int × Int) × Bool) × (Int × Int) × List (Int × Int) × Unit →
      Option (Int × List (Int × Int) × Int × Int × (List (Int × Int) × Bool) × (Int × Int) × List (Int × Int) × Unit ⊕ List (Int × Int) × Unit ⊕ List (Int × Int) × Unit)) →
    Int × List (Int × Int) × Int × Int × List (Int × Int) × Int × Int × (List (Int × Int) × Bool) × (Int × Int) × List (Int × Int) × Unit →
      Option (Int × List (Int × Int) × Int × Int × (List (Int × Int) × Bool) × (Int × Int) × List (Int × Int) × Unit ⊕ List (Int × Int) × Unit ⊕ List (Int × Int) × Unit) :=
  fun (fuel : Nat)
      (rec_9 :
        Int × List (Int × Int) × Int × Int × List (Int × Int) × Int × Int × (List (Int × Int) × Bool) × (Int × Int) × List (Int × Int) × Unit →
          Option (Int × List (Int × Int) × Int × Int × (List (Int × Int) × Bool) × (Int × Int) × List (Int × Int) × Unit ⊕ List (Int × Int) × Unit ⊕ List (Int × Int) × Unit)) =>
    U10
      fun (d_10_0 : Int) (d_10_1 : List (Int × Int)) (d_10_2 d_10_3 : Int) (d_10_4 : List (Int × Int)) (d_10_5 d_10_6 : Int) (d_10_7 : List (Int × Int) × Bool) (d_10_8 : Int × Int)
        (d_10_9 : List (Int × Int)) =>
      bif decide (d_10_6 < d_10_5) then
        afterJoin
          (bif decide ((0 : Int) ≤ d_10_6 ∧ d_10_6 < (↑(List.length d_10_4) : Int)) then
            bif decide (Prod.snd (List.getD d_10_4 (Int.toNat d_10_6) ((0 : Int), (0 : Int))) < Prod.fst d_10_8) == false then
              bif decide (Prod.fst (List.getD d_10_4 (Int.toNat d_10_6) ((0 : Int), (0 : Int))) > Prod.snd d_10_8) then
                some (Sum.inl (d_10_0, d_10_1, d_10_2, d_10_3, d_10_4, d_10_5, d_10_6, (Prod.fst d_10_7, Prod.snd d_10_7), (Prod.fst d_10_8, Prod.snd d_10_8), d_10_9, ()))
              else
                afterJoin
                  (bif Prod.snd d_10_7 then
                    bindO
                      (cover_Both_1_90 fuel
                        (d_10_0, IntKind.wrap IntKind.i64 (Prod.fst (List.getD d_10_4 (Int.toNat d_10_6) ((0 : Int), (0 : Int))) - (1 : Int)), d_10_9, ()))
                      (U1 fun (y_20_0 : List (Int × Int)) =>
                        some
                          (Sum.inl
                            (d_10_1, d_10_2, d_10_3, d_10_4, d_10_5, d_10_6, (Prod.fst d_10_7, Prod.snd d_10_7), (Prod.fst d_10_8, Prod.snd d_10_8),
                              (Prod.fst (List.getD d_10_4 (Int.toNat d_10_6) ((0 : Int), (0 : Int))), Prod.snd (List.getD d_10_4 (Int.toNat d_10_6) ((0 : Int), (0 : Int)))),
                              y_20_0, ())))
                  else
                    bindO
                      (cover_Both_1_90 fuel
                        (bif decide (Prod.fst (List.getD d_10_4 (Int.toNat d_10_6) ((0 : Int), (0 : Int))) > d_10_0) then
                            Prod.fst (List.getD d_10_4 (Int.toNat d_10_6) ((0 : Int), (0 : Int)))
                          else d_10_0,
                          bif decide (Prod.snd (List.getD d_10_4 (Int.toNat d_10_6) ((0 : Int), (0 : Int))) < Prod.snd d_10_8) then
                            Prod.snd (List.getD d_10_4 (Int.toNat d_10_6) ((0 : Int), (0 : Int)))
                          else Prod.snd d_10_8,
                          d_10_9, ()))
                      (U1 fun (y_20_0 : List (Int × Int)) =>
                        some
                          (Sum.inl
                            (d_10_1, d_10_2, d_10_3, d_10_4, d_10_5, d_10_6, (Prod.fst d_10_7, Prod.snd d_10_7), (Prod.fst d_10_8, Prod.snd d_10_8),
                              (Prod.fst (List.getD d_10_4 (Int.toNat d_10_6) ((0 : Int), (0 : Int))), Prod.snd (List.getD d_10_4 (Int.toNat d_10_6) ((0 : Int), (0 : Int)))),
                              y_20_0, ()))))
                  (U10
                    fun (d_20_0 : List (Int × Int)) (d_20_1 d_20_2 : Int) (d_20_3 : List (Int × Int)) (d_20_4 d_20_5 : Int) (d_20_6 : List (Int × Int) × Bool)
                      (d_20_7 d_20_8 : Int × Int) (d_20_9 : List (Int × Int)) =>
                    some
                      (Sum.inl
                        (IntKind.wrap IntKind.i64 (Prod.snd d_20_8 + (1 : Int)), d_20_0, d_20_1, d_20_2, d_20_3, d_20_4, d_20_5, (Prod.fst d_20_6, Prod.snd d_20_6),
                          (Prod.fst d_20_7, Prod.snd d_20_7), d_20_9, ())))
            else some (Sum.inl (d_10_0, d_10_1, d_10_2, d_10_3, d_10_4, d_10_5, d_10_6, (Prod.fst d_10_7, Prod.snd d_10_7), (Prod.fst d_10_8, Prod.snd d_10_8), d_10_9, ()))
          else none)
          (U10
            fun (d_20_0 : Int) (d_20_1 : List (Int × Int)) (d_20_2 d_20_3 : Int) (d_20_4 : List (Int × Int)) (d_20_5 d_20_6 : Int) (d_20_7 : List (Int × Int) × Bool)
              (d_20_8 : Int × Int) (d_20_9 : List (Int × Int)) =>
            rec_9
              (d_20_0, d_20_1, d_20_2, d_20_3, d_20_4, d_20_5, IntKind.wrap IntKind.i64 (d_20_6 + (1 : Int)), (Prod.fst d_20_7, Prod.snd d_20_7),
                (Prod.fst d_20_8, Prod.snd d_20_8), d_20_9, ()))
      else some (Sum.inl (d_10_0, d_10_1, d_10_2, d_10_3, (Prod.fst d_10_7, Prod.snd d_10_7), (Prod.fst d_10_8, Prod.snd d_10_8), d_10_9, ()))
noncomputable def cover_Both_27_L2 : Nat →
  (List (Int × Int) × Int × Int × (List (Int × Int) × Bool) × List (Int × Int) × Unit → Option (List (Int × Int) × Unit ⊕ List (Int × Int) × Unit)) →
    List (Int × Int) × Int × Int × (List (Int × Int) × Bool) × List (Int × Int) × Unit → Option (List (Int × Int) × Unit ⊕ List (Int × Int) × Unit) :=
  fun (fuel : Nat) (rec_3 : List (Int × Int) × Int × Int × (List (Int × Int) × Bool) × List (Int × Int) × Unit → Option (List (Int × Int) × Unit ⊕ List (Int × Int) × Unit)) =>
    U5 fun (d_4_0 : List (Int × Int)) (d_4_1 d_4_2 : Int) (d_4_3 : List (Int × Int) × Bool) (d_4_4 : List (Int × Int)) =>
      bif decide (d_4_2 < d_4_1) then
        bif decide ((0 : Int) ≤ d_4_2 ∧ d_4_2 < (↑(List.length d_4_0) : Int)) then
          afterJoin
            (iter (cover_Both_27_L1 fuel) fuel
              (Prod.fst (List.getD d_4_0 (Int.toNat d_4_2) ((0 : Int), (0 : Int))), d_4_0, d_4_1, d_4_2, Prod.fst d_4_3, (↑(List.length (Prod.fst d_4_3)) : Int), (0 : Int),
                (Prod.fst d_4_3, Prod.snd d_4_3),
                (Prod.fst (List.getD d_4_0 (Int.toNat d_4_2) ((0 : Int), (0 : Int))), Prod.snd (List.getD d_4_0 (Int.toNat d_4_2) ((0 : Int), (0 : Int)))), d_4_4, ()))
            (U7 fun (d_9_0 : Int) (d_9_1 : List (Int × Int)) (d_9_2 d_9_3 : Int) (d_9_4 : List (Int × Int) × Bool) (d_9_5 : Int × Int) (d_9_6 : List (Int × Int)) =>
              afterJoin
                (bif Prod.snd d_9_4 then
                  bindO (cover_Both_1_90 fuel (d_9_0, Prod.snd d_9_5, d_9_6, ()))
                    (U1 fun (y_16_0 : List (Int × Int)) => some (Sum.inl (d_9_1, d_9_2, d_9_3, (Prod.fst d_9_4, Prod.snd d_9_4), y_16_0, ())))
                else some (Sum.inl (d_9_1, d_9_2, d_9_3, (Prod.fst d_9_4, Prod.snd d_9_4), d_9_6, ())))
                (U5 fun (d_16_0 : List (Int × Int)) (d_16_1 d_16_2 : Int) (d_16_3 : List (Int × Int) × Bool) (d_16_4 : List (Int × Int)) =>
                  rec_3 (d_16_0, d_16_1, IntKind.wrap IntKind.i64 (d_16_2 + (1 : Int)), (Prod.fst d_16_3, Prod.snd d_16_3), d_16_4, ())))
        else none
      else some (Sum.inl (d_4_4, ()))
noncomputable def cover_Both_27 : Nat → List (Int × Int) × (List (Int × Int) × Bool) × Unit → Option (List (Int × Int) × Unit) :=
  fun (fuel : Nat) =>
    U2 fun (a_1_0 : List (Int × Int)) (a_1_1 : List (Int × Int) × Bool) =>
      afterJoin (iter (cover_Both_27_L2 fuel) fuel (a_1_0, (↑(List.length a_1_0) : Int), (0 : Int), (Prod.fst a_1_1, Prod.snd a_1_1), [], ()))
        (U1 fun (d_3_0 : List (Int × Int)) => some (d_3_0, ()))
theorem CL27_ok (fuel : Nat) : Sums.Ok Try.prog (CL27 fuel) := sums_of ⟨trivial, Summ.ofFnN_ok sums_nil (ok90 fuel), trivial⟩
theorem S27_ok (fuel : Nat) : Sums.Ok Try.prog (S27 fuel) := sums_of ⟨trivial, Summ.ofFnN_ok (CL27_ok fuel) (ok90 fuel), trivial⟩
theorem eq27_ : F27 = cover_Both_27 := by kernel_rfl
theorem ok27 (fuel : Nat) : FnOkN Try.prog 27 sg27 (cover_Both_27 fuel) := by
  have h := funN_ok (s := sg27) (an := an27) (fuel := fuel) (fn := Try.f27) (c := cd27) E_ok (S27_ok fuel) (runDraw_ok mixed E_ok (S27_ok fuel)) (enters_of Try.func27 rfl rfl) Try.func27 rfl (by decide)
  exact (congrFun eq27_ fuel) ▸ h
end Go.Proofs.Ytgfimeagodcdjaa
