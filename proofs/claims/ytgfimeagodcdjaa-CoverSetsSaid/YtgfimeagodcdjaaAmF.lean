/- Tables of contracts, equality of structs, and a law's arguments. Its conditions stand at each theorem. -/
import Derived.Test.YtgfimeagodcdjaaAmE
import Derived.Laws.StructEq
import Derived.Deep.Slices
import Derived.OpenShut
import Derived.SizedLaws
set_option linter.unusedSimpArgs false
set_option linter.unusedVariables false
set_option linter.unusedSectionVars false
/- Trees as tables. -/
namespace Go.AM
open Go.RowKit

inductive Tr.{u} (α : Type u) where
  | nil | node (l : Tr α) (k : Nat) (v : α) (r : Tr α)

def Tr.get.{u} {α : Type u} : Tr α → Nat → Option α
  | .nil, _ => none
  | .node l k v r, n => match Nat.blt n k with
    | true => l.get n
    | false => match Nat.beq n k with
      | true => some v
      | false => r.get n

def Tr.All.{u} {α : Type u} (p : Nat → α → Prop) : Tr α → Prop
  | .nil => True
  | .node l k v r => l.All p ∧ p k v ∧ r.All p

theorem Tr.All.get.{u} {α : Type u} {p : Nat → α → Prop} : ∀ {t : Tr α} {n : Nat} {v : α}, t.All p → t.get n = some v → p n v
  | .nil, _, _, _, h => by cases h
  | .node l k u r, n, v, ⟨h1, h2, h3⟩, h => by
    unfold Tr.get at h
    split at h
    · exact Tr.All.get h1 h
    · split at h
      · rename_i hb
        have := Nat.eq_of_beq_eq_true hb
        subst this
        cases h
        exact h2
      · exact Tr.All.get h3 h

theorem tis_tree {P : Program} {t : Tr TI} (h : t.All fun n i => i.Ok P n) : TIs P t.get := fun _ _ hi => h.get hi

def Tr.has (t : Tr Unit) (n : Nat) : Bool := match t.get n with | some _ => true | none => false
theorem Tr.has_spec {t : Tr Unit} {p : Nat → Prop} (h : t.All fun n _ => p n) {n : Nat} (hn : t.has n = true) : p n := by
  unfold Tr.has at hn
  split at hn
  · rename_i hg; exact h.get hg
  · cases hn

/-- A table of contracts. -/
theorem sums_of {P : Program} {t : Tr Summ} (h : t.All fun g s => s.Ok P g) : Sums.Ok P t.get := fun _ _ hs => h.get hs

theorem sums_nil {P : Program} : Sums.Ok P (Tr.get .nil) := sums_of (t := .nil) trivial

/-! Functions of rows of data, by their parts -/

@[reducible] def U0 {R : Type} (f : R) : Unit → R := fun _ => f
@[reducible] def U1 {A0 R : Type} (f : A0 → R) : A0 × Unit → R := fun d => f d.1
@[reducible] def U2 {A0 A1 R : Type} (f : A0 → A1 → R) : A0 × A1 × Unit → R := fun d => f d.1 d.2.1
@[reducible] def U3 {A0 A1 A2 R : Type} (f : A0 → A1 → A2 → R) : A0 × A1 × A2 × Unit → R := fun d => f d.1 d.2.1 d.2.2.1
@[reducible] def U4 {A0 A1 A2 A3 R : Type} (f : A0 → A1 → A2 → A3 → R) : A0 × A1 × A2 × A3 × Unit → R := fun d => f d.1 d.2.1 d.2.2.1 d.2.2.2.1
@[reducible] def U5 {A0 A1 A2 A3 A4 R : Type} (f : A0 → A1 → A2 → A3 → A4 → R) : A0 × A1 × A2 × A3 × A4 × Unit → R := fun d => f d.1 d.2.1 d.2.2.1 d.2.2.2.1 d.2.2.2.2.1
@[reducible] def U6 {A0 A1 A2 A3 A4 A5 R : Type} (f : A0 → A1 → A2 → A3 → A4 → A5 → R) : A0 × A1 × A2 × A3 × A4 × A5 × Unit → R := fun d => f d.1 d.2.1 d.2.2.1 d.2.2.2.1 d.2.2.2.2.1 d.2.2.2.2.2.1
@[reducible] def U7 {A0 A1 A2 A3 A4 A5 A6 R : Type} (f : A0 → A1 → A2 → A3 → A4 → A5 → A6 → R) : A0 × A1 × A2 × A3 × A4 × A5 × A6 × Unit → R := fun d => f d.1 d.2.1 d.2.2.1 d.2.2.2.1 d.2.2.2.2.1 d.2.2.2.2.2.1 d.2.2.2.2.2.2.1
@[reducible] def U8 {A0 A1 A2 A3 A4 A5 A6 A7 R : Type} (f : A0 → A1 → A2 → A3 → A4 → A5 → A6 → A7 → R) : A0 × A1 × A2 × A3 × A4 × A5 × A6 × A7 × Unit → R := fun d => f d.1 d.2.1 d.2.2.1 d.2.2.2.1 d.2.2.2.2.1 d.2.2.2.2.2.1 d.2.2.2.2.2.2.1 d.2.2.2.2.2.2.2.1
@[reducible] def U9 {A0 A1 A2 A3 A4 A5 A6 A7 A8 R : Type} (f : A0 → A1 → A2 → A3 → A4 → A5 → A6 → A7 → A8 → R) : A0 × A1 × A2 × A3 × A4 × A5 × A6 × A7 × A8 × Unit → R := fun d => f d.1 d.2.1 d.2.2.1 d.2.2.2.1 d.2.2.2.2.1 d.2.2.2.2.2.1 d.2.2.2.2.2.2.1 d.2.2.2.2.2.2.2.1 d.2.2.2.2.2.2.2.2.1
@[reducible] def U10 {A0 A1 A2 A3 A4 A5 A6 A7 A8 A9 R : Type} (f : A0 → A1 → A2 → A3 → A4 → A5 → A6 → A7 → A8 → A9 → R) : A0 × A1 × A2 × A3 × A4 × A5 × A6 × A7 × A8 × A9 × Unit → R := fun d => f d.1 d.2.1 d.2.2.1 d.2.2.2.1 d.2.2.2.2.1 d.2.2.2.2.2.1 d.2.2.2.2.2.2.1 d.2.2.2.2.2.2.2.1 d.2.2.2.2.2.2.2.2.1 d.2.2.2.2.2.2.2.2.2.1
@[reducible] def U11 {A0 A1 A2 A3 A4 A5 A6 A7 A8 A9 A10 R : Type} (f : A0 → A1 → A2 → A3 → A4 → A5 → A6 → A7 → A8 → A9 → A10 → R) : A0 × A1 × A2 × A3 × A4 × A5 × A6 × A7 × A8 × A9 × A10 × Unit → R := fun d => f d.1 d.2.1 d.2.2.1 d.2.2.2.1 d.2.2.2.2.1 d.2.2.2.2.2.1 d.2.2.2.2.2.2.1 d.2.2.2.2.2.2.2.1 d.2.2.2.2.2.2.2.2.1 d.2.2.2.2.2.2.2.2.2.1 d.2.2.2.2.2.2.2.2.2.2.1
@[reducible] def U12 {A0 A1 A2 A3 A4 A5 A6 A7 A8 A9 A10 A11 R : Type} (f : A0 → A1 → A2 → A3 → A4 → A5 → A6 → A7 → A8 → A9 → A10 → A11 → R) : A0 × A1 × A2 × A3 × A4 × A5 × A6 × A7 × A8 × A9 × A10 × A11 × Unit → R := fun d => f d.1 d.2.1 d.2.2.1 d.2.2.2.1 d.2.2.2.2.1 d.2.2.2.2.2.1 d.2.2.2.2.2.2.1 d.2.2.2.2.2.2.2.1 d.2.2.2.2.2.2.2.2.1 d.2.2.2.2.2.2.2.2.2.1 d.2.2.2.2.2.2.2.2.2.2.1 d.2.2.2.2.2.2.2.2.2.2.2.1
@[reducible] def U13 {A0 A1 A2 A3 A4 A5 A6 A7 A8 A9 A10 A11 A12 R : Type} (f : A0 → A1 → A2 → A3 → A4 → A5 → A6 → A7 → A8 → A9 → A10 → A11 → A12 → R) : A0 × A1 × A2 × A3 × A4 × A5 × A6 × A7 × A8 × A9 × A10 × A11 × A12 × Unit → R := fun d => f d.1 d.2.1 d.2.2.1 d.2.2.2.1 d.2.2.2.2.1 d.2.2.2.2.2.1 d.2.2.2.2.2.2.1 d.2.2.2.2.2.2.2.1 d.2.2.2.2.2.2.2.2.1 d.2.2.2.2.2.2.2.2.2.1 d.2.2.2.2.2.2.2.2.2.2.1 d.2.2.2.2.2.2.2.2.2.2.2.1 d.2.2.2.2.2.2.2.2.2.2.2.2.1
@[reducible] def U14 {A0 A1 A2 A3 A4 A5 A6 A7 A8 A9 A10 A11 A12 A13 R : Type} (f : A0 → A1 → A2 → A3 → A4 → A5 → A6 → A7 → A8 → A9 → A10 → A11 → A12 → A13 → R) : A0 × A1 × A2 × A3 × A4 × A5 × A6 × A7 × A8 × A9 × A10 × A11 × A12 × A13 × Unit → R := fun d => f d.1 d.2.1 d.2.2.1 d.2.2.2.1 d.2.2.2.2.1 d.2.2.2.2.2.1 d.2.2.2.2.2.2.1 d.2.2.2.2.2.2.2.1 d.2.2.2.2.2.2.2.2.1 d.2.2.2.2.2.2.2.2.2.1 d.2.2.2.2.2.2.2.2.2.2.1 d.2.2.2.2.2.2.2.2.2.2.2.1 d.2.2.2.2.2.2.2.2.2.2.2.2.1 d.2.2.2.2.2.2.2.2.2.2.2.2.2.1
@[reducible] def U15 {A0 A1 A2 A3 A4 A5 A6 A7 A8 A9 A10 A11 A12 A13 A14 R : Type} (f : A0 → A1 → A2 → A3 → A4 → A5 → A6 → A7 → A8 → A9 → A10 → A11 → A12 → A13 → A14 → R) : A0 × A1 × A2 × A3 × A4 × A5 × A6 × A7 × A8 × A9 × A10 × A11 × A12 × A13 × A14 × Unit → R := fun d => f d.1 d.2.1 d.2.2.1 d.2.2.2.1 d.2.2.2.2.1 d.2.2.2.2.2.1 d.2.2.2.2.2.2.1 d.2.2.2.2.2.2.2.1 d.2.2.2.2.2.2.2.2.1 d.2.2.2.2.2.2.2.2.2.1 d.2.2.2.2.2.2.2.2.2.2.1 d.2.2.2.2.2.2.2.2.2.2.2.1 d.2.2.2.2.2.2.2.2.2.2.2.2.1 d.2.2.2.2.2.2.2.2.2.2.2.2.2.1 d.2.2.2.2.2.2.2.2.2.2.2.2.2.2.1
@[reducible] def U16 {A0 A1 A2 A3 A4 A5 A6 A7 A8 A9 A10 A11 A12 A13 A14 A15 R : Type} (f : A0 → A1 → A2 → A3 → A4 → A5 → A6 → A7 → A8 → A9 → A10 → A11 → A12 → A13 → A14 → A15 → R) : A0 × A1 × A2 × A3 × A4 × A5 × A6 × A7 × A8 × A9 × A10 × A11 × A12 × A13 × A14 × A15 × Unit → R := fun d => f d.1 d.2.1 d.2.2.1 d.2.2.2.1 d.2.2.2.2.1 d.2.2.2.2.2.1 d.2.2.2.2.2.2.1 d.2.2.2.2.2.2.2.1 d.2.2.2.2.2.2.2.2.1 d.2.2.2.2.2.2.2.2.2.1 d.2.2.2.2.2.2.2.2.2.2.1 d.2.2.2.2.2.2.2.2.2.2.2.1 d.2.2.2.2.2.2.2.2.2.2.2.2.1 d.2.2.2.2.2.2.2.2.2.2.2.2.2.1 d.2.2.2.2.2.2.2.2.2.2.2.2.2.2.1 d.2.2.2.2.2.2.2.2.2.2.2.2.2.2.2.1
@[reducible] def U17 {A0 A1 A2 A3 A4 A5 A6 A7 A8 A9 A10 A11 A12 A13 A14 A15 A16 R : Type} (f : A0 → A1 → A2 → A3 → A4 → A5 → A6 → A7 → A8 → A9 → A10 → A11 → A12 → A13 → A14 → A15 → A16 → R) : A0 × A1 × A2 × A3 × A4 × A5 × A6 × A7 × A8 × A9 × A10 × A11 × A12 × A13 × A14 × A15 × A16 × Unit → R := fun d => f d.1 d.2.1 d.2.2.1 d.2.2.2.1 d.2.2.2.2.1 d.2.2.2.2.2.1 d.2.2.2.2.2.2.1 d.2.2.2.2.2.2.2.1 d.2.2.2.2.2.2.2.2.1 d.2.2.2.2.2.2.2.2.2.1 d.2.2.2.2.2.2.2.2.2.2.1 d.2.2.2.2.2.2.2.2.2.2.2.1 d.2.2.2.2.2.2.2.2.2.2.2.2.1 d.2.2.2.2.2.2.2.2.2.2.2.2.2.1 d.2.2.2.2.2.2.2.2.2.2.2.2.2.2.1 d.2.2.2.2.2.2.2.2.2.2.2.2.2.2.2.1 d.2.2.2.2.2.2.2.2.2.2.2.2.2.2.2.2.1
@[reducible] def U18 {A0 A1 A2 A3 A4 A5 A6 A7 A8 A9 A10 A11 A12 A13 A14 A15 A16 A17 R : Type} (f : A0 → A1 → A2 → A3 → A4 → A5 → A6 → A7 → A8 → A9 → A10 → A11 → A12 → A13 → A14 → A15 → A16 → A17 → R) : A0 × A1 × A2 × A3 × A4 × A5 × A6 × A7 × A8 × A9 × A10 × A11 × A12 × A13 × A14 × A15 × A16 × A17 × Unit → R := fun d => f d.1 d.2.1 d.2.2.1 d.2.2.2.1 d.2.2.2.2.1 d.2.2.2.2.2.1 d.2.2.2.2.2.2.1 d.2.2.2.2.2.2.2.1 d.2.2.2.2.2.2.2.2.1 d.2.2.2.2.2.2.2.2.2.1 d.2.2.2.2.2.2.2.2.2.2.1 d.2.2.2.2.2.2.2.2.2.2.2.1 d.2.2.2.2.2.2.2.2.2.2.2.2.1 d.2.2.2.2.2.2.2.2.2.2.2.2.2.1 d.2.2.2.2.2.2.2.2.2.2.2.2.2.2.1 d.2.2.2.2.2.2.2.2.2.2.2.2.2.2.2.1 d.2.2.2.2.2.2.2.2.2.2.2.2.2.2.2.2.1 d.2.2.2.2.2.2.2.2.2.2.2.2.2.2.2.2.2.1
@[reducible] def U19 {A0 A1 A2 A3 A4 A5 A6 A7 A8 A9 A10 A11 A12 A13 A14 A15 A16 A17 A18 R : Type} (f : A0 → A1 → A2 → A3 → A4 → A5 → A6 → A7 → A8 → A9 → A10 → A11 → A12 → A13 → A14 → A15 → A16 → A17 → A18 → R) : A0 × A1 × A2 × A3 × A4 × A5 × A6 × A7 × A8 × A9 × A10 × A11 × A12 × A13 × A14 × A15 × A16 × A17 × A18 × Unit → R := fun d => f d.1 d.2.1 d.2.2.1 d.2.2.2.1 d.2.2.2.2.1 d.2.2.2.2.2.1 d.2.2.2.2.2.2.1 d.2.2.2.2.2.2.2.1 d.2.2.2.2.2.2.2.2.1 d.2.2.2.2.2.2.2.2.2.1 d.2.2.2.2.2.2.2.2.2.2.1 d.2.2.2.2.2.2.2.2.2.2.2.1 d.2.2.2.2.2.2.2.2.2.2.2.2.1 d.2.2.2.2.2.2.2.2.2.2.2.2.2.1 d.2.2.2.2.2.2.2.2.2.2.2.2.2.2.1 d.2.2.2.2.2.2.2.2.2.2.2.2.2.2.2.1 d.2.2.2.2.2.2.2.2.2.2.2.2.2.2.2.2.1 d.2.2.2.2.2.2.2.2.2.2.2.2.2.2.2.2.2.1 d.2.2.2.2.2.2.2.2.2.2.2.2.2.2.2.2.2.2.1
@[reducible] def U20 {A0 A1 A2 A3 A4 A5 A6 A7 A8 A9 A10 A11 A12 A13 A14 A15 A16 A17 A18 A19 R : Type} (f : A0 → A1 → A2 → A3 → A4 → A5 → A6 → A7 → A8 → A9 → A10 → A11 → A12 → A13 → A14 → A15 → A16 → A17 → A18 → A19 → R) : A0 × A1 × A2 × A3 × A4 × A5 × A6 × A7 × A8 × A9 × A10 × A11 × A12 × A13 × A14 × A15 × A16 × A17 × A18 × A19 × Unit → R := fun d => f d.1 d.2.1 d.2.2.1 d.2.2.2.1 d.2.2.2.2.1 d.2.2.2.2.2.1 d.2.2.2.2.2.2.1 d.2.2.2.2.2.2.2.1 d.2.2.2.2.2.2.2.2.1 d.2.2.2.2.2.2.2.2.2.1 d.2.2.2.2.2.2.2.2.2.2.1 d.2.2.2.2.2.2.2.2.2.2.2.1 d.2.2.2.2.2.2.2.2.2.2.2.2.1 d.2.2.2.2.2.2.2.2.2.2.2.2.2.1 d.2.2.2.2.2.2.2.2.2.2.2.2.2.2.1 d.2.2.2.2.2.2.2.2.2.2.2.2.2.2.2.1 d.2.2.2.2.2.2.2.2.2.2.2.2.2.2.2.2.1 d.2.2.2.2.2.2.2.2.2.2.2.2.2.2.2.2.2.1 d.2.2.2.2.2.2.2.2.2.2.2.2.2.2.2.2.2.2.1 d.2.2.2.2.2.2.2.2.2.2.2.2.2.2.2.2.2.2.2.1
@[reducible] def U21 {A0 A1 A2 A3 A4 A5 A6 A7 A8 A9 A10 A11 A12 A13 A14 A15 A16 A17 A18 A19 A20 R : Type} (f : A0 → A1 → A2 → A3 → A4 → A5 → A6 → A7 → A8 → A9 → A10 → A11 → A12 → A13 → A14 → A15 → A16 → A17 → A18 → A19 → A20 → R) : A0 × A1 × A2 × A3 × A4 × A5 × A6 × A7 × A8 × A9 × A10 × A11 × A12 × A13 × A14 × A15 × A16 × A17 × A18 × A19 × A20 × Unit → R := fun d => f d.1 d.2.1 d.2.2.1 d.2.2.2.1 d.2.2.2.2.1 d.2.2.2.2.2.1 d.2.2.2.2.2.2.1 d.2.2.2.2.2.2.2.1 d.2.2.2.2.2.2.2.2.1 d.2.2.2.2.2.2.2.2.2.1 d.2.2.2.2.2.2.2.2.2.2.1 d.2.2.2.2.2.2.2.2.2.2.2.1 d.2.2.2.2.2.2.2.2.2.2.2.2.1 d.2.2.2.2.2.2.2.2.2.2.2.2.2.1 d.2.2.2.2.2.2.2.2.2.2.2.2.2.2.1 d.2.2.2.2.2.2.2.2.2.2.2.2.2.2.2.1 d.2.2.2.2.2.2.2.2.2.2.2.2.2.2.2.2.1 d.2.2.2.2.2.2.2.2.2.2.2.2.2.2.2.2.2.1 d.2.2.2.2.2.2.2.2.2.2.2.2.2.2.2.2.2.2.1 d.2.2.2.2.2.2.2.2.2.2.2.2.2.2.2.2.2.2.2.1 d.2.2.2.2.2.2.2.2.2.2.2.2.2.2.2.2.2.2.2.2.1
@[reducible] def U22 {A0 A1 A2 A3 A4 A5 A6 A7 A8 A9 A10 A11 A12 A13 A14 A15 A16 A17 A18 A19 A20 A21 R : Type} (f : A0 → A1 → A2 → A3 → A4 → A5 → A6 → A7 → A8 → A9 → A10 → A11 → A12 → A13 → A14 → A15 → A16 → A17 → A18 → A19 → A20 → A21 → R) : A0 × A1 × A2 × A3 × A4 × A5 × A6 × A7 × A8 × A9 × A10 × A11 × A12 × A13 × A14 × A15 × A16 × A17 × A18 × A19 × A20 × A21 × Unit → R := fun d => f d.1 d.2.1 d.2.2.1 d.2.2.2.1 d.2.2.2.2.1 d.2.2.2.2.2.1 d.2.2.2.2.2.2.1 d.2.2.2.2.2.2.2.1 d.2.2.2.2.2.2.2.2.1 d.2.2.2.2.2.2.2.2.2.1 d.2.2.2.2.2.2.2.2.2.2.1 d.2.2.2.2.2.2.2.2.2.2.2.1 d.2.2.2.2.2.2.2.2.2.2.2.2.1 d.2.2.2.2.2.2.2.2.2.2.2.2.2.1 d.2.2.2.2.2.2.2.2.2.2.2.2.2.2.1 d.2.2.2.2.2.2.2.2.2.2.2.2.2.2.2.1 d.2.2.2.2.2.2.2.2.2.2.2.2.2.2.2.2.1 d.2.2.2.2.2.2.2.2.2.2.2.2.2.2.2.2.2.1 d.2.2.2.2.2.2.2.2.2.2.2.2.2.2.2.2.2.2.1 d.2.2.2.2.2.2.2.2.2.2.2.2.2.2.2.2.2.2.2.1 d.2.2.2.2.2.2.2.2.2.2.2.2.2.2.2.2.2.2.2.2.1 d.2.2.2.2.2.2.2.2.2.2.2.2.2.2.2.2.2.2.2.2.2.1
@[reducible] def U23 {A0 A1 A2 A3 A4 A5 A6 A7 A8 A9 A10 A11 A12 A13 A14 A15 A16 A17 A18 A19 A20 A21 A22 R : Type} (f : A0 → A1 → A2 → A3 → A4 → A5 → A6 → A7 → A8 → A9 → A10 → A11 → A12 → A13 → A14 → A15 → A16 → A17 → A18 → A19 → A20 → A21 → A22 → R) : A0 × A1 × A2 × A3 × A4 × A5 × A6 × A7 × A8 × A9 × A10 × A11 × A12 × A13 × A14 × A15 × A16 × A17 × A18 × A19 × A20 × A21 × A22 × Unit → R := fun d => f d.1 d.2.1 d.2.2.1 d.2.2.2.1 d.2.2.2.2.1 d.2.2.2.2.2.1 d.2.2.2.2.2.2.1 d.2.2.2.2.2.2.2.1 d.2.2.2.2.2.2.2.2.1 d.2.2.2.2.2.2.2.2.2.1 d.2.2.2.2.2.2.2.2.2.2.1 d.2.2.2.2.2.2.2.2.2.2.2.1 d.2.2.2.2.2.2.2.2.2.2.2.2.1 d.2.2.2.2.2.2.2.2.2.2.2.2.2.1 d.2.2.2.2.2.2.2.2.2.2.2.2.2.2.1 d.2.2.2.2.2.2.2.2.2.2.2.2.2.2.2.1 d.2.2.2.2.2.2.2.2.2.2.2.2.2.2.2.2.1 d.2.2.2.2.2.2.2.2.2.2.2.2.2.2.2.2.2.1 d.2.2.2.2.2.2.2.2.2.2.2.2.2.2.2.2.2.2.1 d.2.2.2.2.2.2.2.2.2.2.2.2.2.2.2.2.2.2.2.1 d.2.2.2.2.2.2.2.2.2.2.2.2.2.2.2.2.2.2.2.2.1 d.2.2.2.2.2.2.2.2.2.2.2.2.2.2.2.2.2.2.2.2.2.1 d.2.2.2.2.2.2.2.2.2.2.2.2.2.2.2.2.2.2.2.2.2.2.1
@[reducible] def U24 {A0 A1 A2 A3 A4 A5 A6 A7 A8 A9 A10 A11 A12 A13 A14 A15 A16 A17 A18 A19 A20 A21 A22 A23 R : Type} (f : A0 → A1 → A2 → A3 → A4 → A5 → A6 → A7 → A8 → A9 → A10 → A11 → A12 → A13 → A14 → A15 → A16 → A17 → A18 → A19 → A20 → A21 → A22 → A23 → R) : A0 × A1 × A2 × A3 × A4 × A5 × A6 × A7 × A8 × A9 × A10 × A11 × A12 × A13 × A14 × A15 × A16 × A17 × A18 × A19 × A20 × A21 × A22 × A23 × Unit → R := fun d => f d.1 d.2.1 d.2.2.1 d.2.2.2.1 d.2.2.2.2.1 d.2.2.2.2.2.1 d.2.2.2.2.2.2.1 d.2.2.2.2.2.2.2.1 d.2.2.2.2.2.2.2.2.1 d.2.2.2.2.2.2.2.2.2.1 d.2.2.2.2.2.2.2.2.2.2.1 d.2.2.2.2.2.2.2.2.2.2.2.1 d.2.2.2.2.2.2.2.2.2.2.2.2.1 d.2.2.2.2.2.2.2.2.2.2.2.2.2.1 d.2.2.2.2.2.2.2.2.2.2.2.2.2.2.1 d.2.2.2.2.2.2.2.2.2.2.2.2.2.2.2.1 d.2.2.2.2.2.2.2.2.2.2.2.2.2.2.2.2.1 d.2.2.2.2.2.2.2.2.2.2.2.2.2.2.2.2.2.1 d.2.2.2.2.2.2.2.2.2.2.2.2.2.2.2.2.2.2.1 d.2.2.2.2.2.2.2.2.2.2.2.2.2.2.2.2.2.2.2.1 d.2.2.2.2.2.2.2.2.2.2.2.2.2.2.2.2.2.2.2.2.1 d.2.2.2.2.2.2.2.2.2.2.2.2.2.2.2.2.2.2.2.2.2.1 d.2.2.2.2.2.2.2.2.2.2.2.2.2.2.2.2.2.2.2.2.2.2.1 d.2.2.2.2.2.2.2.2.2.2.2.2.2.2.2.2.2.2.2.2.2.2.2.1
@[reducible] def U25 {A0 A1 A2 A3 A4 A5 A6 A7 A8 A9 A10 A11 A12 A13 A14 A15 A16 A17 A18 A19 A20 A21 A22 A23 A24 R : Type} (f : A0 → A1 → A2 → A3 → A4 → A5 → A6 → A7 → A8 → A9 → A10 → A11 → A12 → A13 → A14 → A15 → A16 → A17 → A18 → A19 → A20 → A21 → A22 → A23 → A24 → R) : A0 × A1 × A2 × A3 × A4 × A5 × A6 × A7 × A8 × A9 × A10 × A11 × A12 × A13 × A14 × A15 × A16 × A17 × A18 × A19 × A20 × A21 × A22 × A23 × A24 × Unit → R := fun d => f d.1 d.2.1 d.2.2.1 d.2.2.2.1 d.2.2.2.2.1 d.2.2.2.2.2.1 d.2.2.2.2.2.2.1 d.2.2.2.2.2.2.2.1 d.2.2.2.2.2.2.2.2.1 d.2.2.2.2.2.2.2.2.2.1 d.2.2.2.2.2.2.2.2.2.2.1 d.2.2.2.2.2.2.2.2.2.2.2.1 d.2.2.2.2.2.2.2.2.2.2.2.2.1 d.2.2.2.2.2.2.2.2.2.2.2.2.2.1 d.2.2.2.2.2.2.2.2.2.2.2.2.2.2.1 d.2.2.2.2.2.2.2.2.2.2.2.2.2.2.2.1 d.2.2.2.2.2.2.2.2.2.2.2.2.2.2.2.2.1 d.2.2.2.2.2.2.2.2.2.2.2.2.2.2.2.2.2.1 d.2.2.2.2.2.2.2.2.2.2.2.2.2.2.2.2.2.2.1 d.2.2.2.2.2.2.2.2.2.2.2.2.2.2.2.2.2.2.2.1 d.2.2.2.2.2.2.2.2.2.2.2.2.2.2.2.2.2.2.2.2.1 d.2.2.2.2.2.2.2.2.2.2.2.2.2.2.2.2.2.2.2.2.2.1 d.2.2.2.2.2.2.2.2.2.2.2.2.2.2.2.2.2.2.2.2.2.2.1 d.2.2.2.2.2.2.2.2.2.2.2.2.2.2.2.2.2.2.2.2.2.2.2.1 d.2.2.2.2.2.2.2.2.2.2.2.2.2.2.2.2.2.2.2.2.2.2.2.2.1
@[reducible] def U26 {A0 A1 A2 A3 A4 A5 A6 A7 A8 A9 A10 A11 A12 A13 A14 A15 A16 A17 A18 A19 A20 A21 A22 A23 A24 A25 R : Type} (f : A0 → A1 → A2 → A3 → A4 → A5 → A6 → A7 → A8 → A9 → A10 → A11 → A12 → A13 → A14 → A15 → A16 → A17 → A18 → A19 → A20 → A21 → A22 → A23 → A24 → A25 → R) : A0 × A1 × A2 × A3 × A4 × A5 × A6 × A7 × A8 × A9 × A10 × A11 × A12 × A13 × A14 × A15 × A16 × A17 × A18 × A19 × A20 × A21 × A22 × A23 × A24 × A25 × Unit → R := fun d => f d.1 d.2.1 d.2.2.1 d.2.2.2.1 d.2.2.2.2.1 d.2.2.2.2.2.1 d.2.2.2.2.2.2.1 d.2.2.2.2.2.2.2.1 d.2.2.2.2.2.2.2.2.1 d.2.2.2.2.2.2.2.2.2.1 d.2.2.2.2.2.2.2.2.2.2.1 d.2.2.2.2.2.2.2.2.2.2.2.1 d.2.2.2.2.2.2.2.2.2.2.2.2.1 d.2.2.2.2.2.2.2.2.2.2.2.2.2.1 d.2.2.2.2.2.2.2.2.2.2.2.2.2.2.1 d.2.2.2.2.2.2.2.2.2.2.2.2.2.2.2.1 d.2.2.2.2.2.2.2.2.2.2.2.2.2.2.2.2.1 d.2.2.2.2.2.2.2.2.2.2.2.2.2.2.2.2.2.1 d.2.2.2.2.2.2.2.2.2.2.2.2.2.2.2.2.2.2.1 d.2.2.2.2.2.2.2.2.2.2.2.2.2.2.2.2.2.2.2.1 d.2.2.2.2.2.2.2.2.2.2.2.2.2.2.2.2.2.2.2.2.1 d.2.2.2.2.2.2.2.2.2.2.2.2.2.2.2.2.2.2.2.2.2.1 d.2.2.2.2.2.2.2.2.2.2.2.2.2.2.2.2.2.2.2.2.2.2.1 d.2.2.2.2.2.2.2.2.2.2.2.2.2.2.2.2.2.2.2.2.2.2.2.1 d.2.2.2.2.2.2.2.2.2.2.2.2.2.2.2.2.2.2.2.2.2.2.2.2.1 d.2.2.2.2.2.2.2.2.2.2.2.2.2.2.2.2.2.2.2.2.2.2.2.2.2.1
@[reducible] def U27 {A0 A1 A2 A3 A4 A5 A6 A7 A8 A9 A10 A11 A12 A13 A14 A15 A16 A17 A18 A19 A20 A21 A22 A23 A24 A25 A26 R : Type} (f : A0 → A1 → A2 → A3 → A4 → A5 → A6 → A7 → A8 → A9 → A10 → A11 → A12 → A13 → A14 → A15 → A16 → A17 → A18 → A19 → A20 → A21 → A22 → A23 → A24 → A25 → A26 → R) : A0 × A1 × A2 × A3 × A4 × A5 × A6 × A7 × A8 × A9 × A10 × A11 × A12 × A13 × A14 × A15 × A16 × A17 × A18 × A19 × A20 × A21 × A22 × A23 × A24 × A25 × A26 × Unit → R := fun d => f d.1 d.2.1 d.2.2.1 d.2.2.2.1 d.2.2.2.2.1 d.2.2.2.2.2.1 d.2.2.2.2.2.2.1 d.2.2.2.2.2.2.2.1 d.2.2.2.2.2.2.2.2.1 d.2.2.2.2.2.2.2.2.2.1 d.2.2.2.2.2.2.2.2.2.2.1 d.2.2.2.2.2.2.2.2.2.2.2.1 d.2.2.2.2.2.2.2.2.2.2.2.2.1 d.2.2.2.2.2.2.2.2.2.2.2.2.2.1 d.2.2.2.2.2.2.2.2.2.2.2.2.2.2.1 d.2.2.2.2.2.2.2.2.2.2.2.2.2.2.2.1 d.2.2.2.2.2.2.2.2.2.2.2.2.2.2.2.2.1 d.2.2.2.2.2.2.2.2.2.2.2.2.2.2.2.2.2.1 d.2.2.2.2.2.2.2.2.2.2.2.2.2.2.2.2.2.2.1 d.2.2.2.2.2.2.2.2.2.2.2.2.2.2.2.2.2.2.2.1 d.2.2.2.2.2.2.2.2.2.2.2.2.2.2.2.2.2.2.2.2.1 d.2.2.2.2.2.2.2.2.2.2.2.2.2.2.2.2.2.2.2.2.2.1 d.2.2.2.2.2.2.2.2.2.2.2.2.2.2.2.2.2.2.2.2.2.2.1 d.2.2.2.2.2.2.2.2.2.2.2.2.2.2.2.2.2.2.2.2.2.2.2.1 d.2.2.2.2.2.2.2.2.2.2.2.2.2.2.2.2.2.2.2.2.2.2.2.2.1 d.2.2.2.2.2.2.2.2.2.2.2.2.2.2.2.2.2.2.2.2.2.2.2.2.2.1 d.2.2.2.2.2.2.2.2.2.2.2.2.2.2.2.2.2.2.2.2.2.2.2.2.2.2.1
@[reducible] def U28 {A0 A1 A2 A3 A4 A5 A6 A7 A8 A9 A10 A11 A12 A13 A14 A15 A16 A17 A18 A19 A20 A21 A22 A23 A24 A25 A26 A27 R : Type} (f : A0 → A1 → A2 → A3 → A4 → A5 → A6 → A7 → A8 → A9 → A10 → A11 → A12 → A13 → A14 → A15 → A16 → A17 → A18 → A19 → A20 → A21 → A22 → A23 → A24 → A25 → A26 → A27 → R) : A0 × A1 × A2 × A3 × A4 × A5 × A6 × A7 × A8 × A9 × A10 × A11 × A12 × A13 × A14 × A15 × A16 × A17 × A18 × A19 × A20 × A21 × A22 × A23 × A24 × A25 × A26 × A27 × Unit → R := fun d => f d.1 d.2.1 d.2.2.1 d.2.2.2.1 d.2.2.2.2.1 d.2.2.2.2.2.1 d.2.2.2.2.2.2.1 d.2.2.2.2.2.2.2.1 d.2.2.2.2.2.2.2.2.1 d.2.2.2.2.2.2.2.2.2.1 d.2.2.2.2.2.2.2.2.2.2.1 d.2.2.2.2.2.2.2.2.2.2.2.1 d.2.2.2.2.2.2.2.2.2.2.2.2.1 d.2.2.2.2.2.2.2.2.2.2.2.2.2.1 d.2.2.2.2.2.2.2.2.2.2.2.2.2.2.1 d.2.2.2.2.2.2.2.2.2.2.2.2.2.2.2.1 d.2.2.2.2.2.2.2.2.2.2.2.2.2.2.2.2.1 d.2.2.2.2.2.2.2.2.2.2.2.2.2.2.2.2.2.1 d.2.2.2.2.2.2.2.2.2.2.2.2.2.2.2.2.2.2.1 d.2.2.2.2.2.2.2.2.2.2.2.2.2.2.2.2.2.2.2.1 d.2.2.2.2.2.2.2.2.2.2.2.2.2.2.2.2.2.2.2.2.1 d.2.2.2.2.2.2.2.2.2.2.2.2.2.2.2.2.2.2.2.2.2.1 d.2.2.2.2.2.2.2.2.2.2.2.2.2.2.2.2.2.2.2.2.2.2.1 d.2.2.2.2.2.2.2.2.2.2.2.2.2.2.2.2.2.2.2.2.2.2.2.1 d.2.2.2.2.2.2.2.2.2.2.2.2.2.2.2.2.2.2.2.2.2.2.2.2.1 d.2.2.2.2.2.2.2.2.2.2.2.2.2.2.2.2.2.2.2.2.2.2.2.2.2.1 d.2.2.2.2.2.2.2.2.2.2.2.2.2.2.2.2.2.2.2.2.2.2.2.2.2.2.1 d.2.2.2.2.2.2.2.2.2.2.2.2.2.2.2.2.2.2.2.2.2.2.2.2.2.2.2.1
@[reducible] def U29 {A0 A1 A2 A3 A4 A5 A6 A7 A8 A9 A10 A11 A12 A13 A14 A15 A16 A17 A18 A19 A20 A21 A22 A23 A24 A25 A26 A27 A28 R : Type} (f : A0 → A1 → A2 → A3 → A4 → A5 → A6 → A7 → A8 → A9 → A10 → A11 → A12 → A13 → A14 → A15 → A16 → A17 → A18 → A19 → A20 → A21 → A22 → A23 → A24 → A25 → A26 → A27 → A28 → R) : A0 × A1 × A2 × A3 × A4 × A5 × A6 × A7 × A8 × A9 × A10 × A11 × A12 × A13 × A14 × A15 × A16 × A17 × A18 × A19 × A20 × A21 × A22 × A23 × A24 × A25 × A26 × A27 × A28 × Unit → R := fun d => f d.1 d.2.1 d.2.2.1 d.2.2.2.1 d.2.2.2.2.1 d.2.2.2.2.2.1 d.2.2.2.2.2.2.1 d.2.2.2.2.2.2.2.1 d.2.2.2.2.2.2.2.2.1 d.2.2.2.2.2.2.2.2.2.1 d.2.2.2.2.2.2.2.2.2.2.1 d.2.2.2.2.2.2.2.2.2.2.2.1 d.2.2.2.2.2.2.2.2.2.2.2.2.1 d.2.2.2.2.2.2.2.2.2.2.2.2.2.1 d.2.2.2.2.2.2.2.2.2.2.2.2.2.2.1 d.2.2.2.2.2.2.2.2.2.2.2.2.2.2.2.1 d.2.2.2.2.2.2.2.2.2.2.2.2.2.2.2.2.1 d.2.2.2.2.2.2.2.2.2.2.2.2.2.2.2.2.2.1 d.2.2.2.2.2.2.2.2.2.2.2.2.2.2.2.2.2.2.1 d.2.2.2.2.2.2.2.2.2.2.2.2.2.2.2.2.2.2.2.1 d.2.2.2.2.2.2.2.2.2.2.2.2.2.2.2.2.2.2.2.2.1 d.2.2.2.2.2.2.2.2.2.2.2.2.2.2.2.2.2.2.2.2.2.1 d.2.2.2.2.2.2.2.2.2.2.2.2.2.2.2.2.2.2.2.2.2.2.1 d.2.2.2.2.2.2.2.2.2.2.2.2.2.2.2.2.2.2.2.2.2.2.2.1 d.2.2.2.2.2.2.2.2.2.2.2.2.2.2.2.2.2.2.2.2.2.2.2.2.1 d.2.2.2.2.2.2.2.2.2.2.2.2.2.2.2.2.2.2.2.2.2.2.2.2.2.1 d.2.2.2.2.2.2.2.2.2.2.2.2.2.2.2.2.2.2.2.2.2.2.2.2.2.2.1 d.2.2.2.2.2.2.2.2.2.2.2.2.2.2.2.2.2.2.2.2.2.2.2.2.2.2.2.1 d.2.2.2.2.2.2.2.2.2.2.2.2.2.2.2.2.2.2.2.2.2.2.2.2.2.2.2.2.1
@[reducible] def U30 {A0 A1 A2 A3 A4 A5 A6 A7 A8 A9 A10 A11 A12 A13 A14 A15 A16 A17 A18 A19 A20 A21 A22 A23 A24 A25 A26 A27 A28 A29 R : Type} (f : A0 → A1 → A2 → A3 → A4 → A5 → A6 → A7 → A8 → A9 → A10 → A11 → A12 → A13 → A14 → A15 → A16 → A17 → A18 → A19 → A20 → A21 → A22 → A23 → A24 → A25 → A26 → A27 → A28 → A29 → R) : A0 × A1 × A2 × A3 × A4 × A5 × A6 × A7 × A8 × A9 × A10 × A11 × A12 × A13 × A14 × A15 × A16 × A17 × A18 × A19 × A20 × A21 × A22 × A23 × A24 × A25 × A26 × A27 × A28 × A29 × Unit → R := fun d => f d.1 d.2.1 d.2.2.1 d.2.2.2.1 d.2.2.2.2.1 d.2.2.2.2.2.1 d.2.2.2.2.2.2.1 d.2.2.2.2.2.2.2.1 d.2.2.2.2.2.2.2.2.1 d.2.2.2.2.2.2.2.2.2.1 d.2.2.2.2.2.2.2.2.2.2.1 d.2.2.2.2.2.2.2.2.2.2.2.1 d.2.2.2.2.2.2.2.2.2.2.2.2.1 d.2.2.2.2.2.2.2.2.2.2.2.2.2.1 d.2.2.2.2.2.2.2.2.2.2.2.2.2.2.1 d.2.2.2.2.2.2.2.2.2.2.2.2.2.2.2.1 d.2.2.2.2.2.2.2.2.2.2.2.2.2.2.2.2.1 d.2.2.2.2.2.2.2.2.2.2.2.2.2.2.2.2.2.1 d.2.2.2.2.2.2.2.2.2.2.2.2.2.2.2.2.2.2.1 d.2.2.2.2.2.2.2.2.2.2.2.2.2.2.2.2.2.2.2.1 d.2.2.2.2.2.2.2.2.2.2.2.2.2.2.2.2.2.2.2.2.1 d.2.2.2.2.2.2.2.2.2.2.2.2.2.2.2.2.2.2.2.2.2.1 d.2.2.2.2.2.2.2.2.2.2.2.2.2.2.2.2.2.2.2.2.2.2.1 d.2.2.2.2.2.2.2.2.2.2.2.2.2.2.2.2.2.2.2.2.2.2.2.1 d.2.2.2.2.2.2.2.2.2.2.2.2.2.2.2.2.2.2.2.2.2.2.2.2.1 d.2.2.2.2.2.2.2.2.2.2.2.2.2.2.2.2.2.2.2.2.2.2.2.2.2.1 d.2.2.2.2.2.2.2.2.2.2.2.2.2.2.2.2.2.2.2.2.2.2.2.2.2.2.1 d.2.2.2.2.2.2.2.2.2.2.2.2.2.2.2.2.2.2.2.2.2.2.2.2.2.2.2.1 d.2.2.2.2.2.2.2.2.2.2.2.2.2.2.2.2.2.2.2.2.2.2.2.2.2.2.2.2.1 d.2.2.2.2.2.2.2.2.2.2.2.2.2.2.2.2.2.2.2.2.2.2.2.2.2.2.2.2.2.1
end Go.AM

/- When structs are alike. -/
namespace Go.AM
open Go.RowKit

/-- A type's values are compared so, as deep as n. -/
structure EqI (P : Program) (n : Nat) (T : TypeId) (i : TI) (t : Ty) (eq : t.den → t.den → Bool) : Prop where
  ok : i.Ok P T
  size : i.size = t.size
  one : i.d.isAgg = false → i.size = 1
  run : ∀ d, n ≤ d → ∀ (I : Nat → Prop) (w : World) x y cs ds, (rels P t).cells I w x cs → (rels P t).cells I w y ds → ∀ w',
    (Op.equalIn d T (if i.d.isAgg then .agg cs.toArray else cs.headD undef) (if i.d.isAgg then .agg ds.toArray else ds.headD undef)).run P w' = .ok (eq x y) w'

theorem EqI.int {P : Program} {T : TypeId} {k : IntKind} {i : TI} (h : i.Ok P T) (hd : i.d = .int k) (hs : i.size = 1) (k' : IntKind) (hk : k' = k) : EqI P 1 T i (.int k') (fun x y => decide (x = y)) := by
  subst hk
  refine ⟨h, hs, fun _ => hs, fun d hn I w x y cs ds hx hy w' => ?_⟩
  obtain rfl : cs = [.int k' x] := hx
  obtain rfl : ds = [.int k' y] := hy
  obtain ⟨d0, ti, z, h1, h2, _⟩ := h
  rw [hd] at h2
  obtain rfl : d0 = .int k' := h2
  obtain ⟨d, rfl⟩ : ∃ e, d = e + 1 := ⟨d - 1, by omega⟩
  rw [hd]
  simp only [TD.isAgg, Bool.false_eq_true, if_false, List.headD]
  rw [run_equalIn_int (w := w') d T k' k' x y h1]
  congr 1

theorem EqI.bool {P : Program} {T : TypeId} {i : TI} (h : i.Ok P T) (hd : i.d = .bool) (hs : i.size = 1) : EqI P 1 T i .bool (fun x y => decide (x = y)) := by
  refine ⟨h, hs, fun _ => hs, fun d hn I w x y cs ds hx hy w' => ?_⟩
  obtain rfl : cs = [.bool x] := hx
  obtain rfl : ds = [.bool y] := hy
  obtain ⟨d0, ti, z, h1, h2, _⟩ := h
  rw [hd] at h2
  obtain rfl : d0 = .bool := h2
  obtain ⟨d, rfl⟩ : ∃ e, d = e + 1 := ⟨d - 1, by omega⟩
  rw [hd]
  simp only [TD.isAgg, Bool.false_eq_true, if_false, List.headD]
  rw [run_equalIn_bool' (w := w') d T x y h1]
  cases x <;> cases y <;> rfl

/-- Fields one behind the other, from a place on. -/
inductive EqFs (P : Program) (n : Nat) : Nat → List Field → (t : Ty) → (t.den → t.den → Bool) → Prop where
  | one {off : Nat} {f : Field} {i : TI} {t : Ty} {eq : t.den → t.den → Bool} (h : EqI P n f.type i t eq) (ho : f.offset = off) (hn : f.name ≠ "_") : EqFs P n off [f] t eq
  | cons {off : Nat} {f : Field} {fs : List Field} {i : TI} {t u : Ty} {eq : t.den → t.den → Bool} {eu : u.den → u.den → Bool} (h : EqI P n f.type i t eq) (ho : f.offset = off) (hn : f.name ≠ "_") (hr : EqFs P n (off + i.size) fs u eu) :
      EqFs P n off (f :: fs) (.pair t u) (fun x y => eq x.1 y.1 && eu x.2 y.2)

theorem EqFs.run {P : Program} {n : Nat} : ∀ {off : Nat} {fs : List Field} {t : Ty} {eq : t.den → t.den → Bool}, EqFs P n off fs t eq → ∀ d, n ≤ d → ∀ (I : Nat → Prop) (w : World) x y cs ds pc pd, (rels P t).cells I w x cs → (rels P t).cells I w y ds →
    pc.length = off → pd.length = off → ∀ w', (Op.eqFields d (pc ++ cs).toArray (pd ++ ds).toArray fs).run P w' = .ok (eq x y) w' := by
  intro off fs t eq h
  have partOf : ∀ {f : Field} {i : TI} {t : Ty} {eq : t.den → t.den → Bool} (_ : EqI P n f.type i t eq) (B : Base) (hB : B.P = P) (pc c1 c2 : List Value) (w' : World), f.offset = pc.length → c1.length = t.size →
      (part f.type (pc ++ (c1 ++ c2)).toArray f.offset).run P w' = .ok (if i.d.isAgg then .agg c1.toArray else c1.headD undef) w' := by
    intro f i t eq h B hB pc c1 c2 w' ho hl
    subst hB
    have := run_part (B := B) (w := w') h.ok h.one (pc ++ (c1 ++ c2)) f.offset (by rw [h.size, ho]; simp; omega)
    rw [this]
    have e : ((pc ++ (c1 ++ c2)).drop f.offset).take i.size = c1 := by
      rw [ho, List.drop_left, h.size, ← hl, List.take_left]
    rw [e]
  induction h with
  | @one off f i t eq h ho hn =>
    intro d hd I w x y cs ds pc pd hx hy hpc hpd w'
    let B : Base := { P := P, w0 := w, I0 := I, F0 := fun _ => False, ρ0 := fun _ => undef, around0 := fun _ => ([], []), fix := [] }
    have p1 := partOf h B rfl pc cs [] w' (ho.trans hpc.symm) (rels_size P t hx)
    have p2 := partOf h B rfl pd ds [] w' (ho.trans hpd.symm) (rels_size P t hy)
    simp only [List.append_nil] at p1 p2
    simp only [Op.eqFields, hn, ne_eq, not_false_eq_true, if_true, Sem.run_bind, p1, p2, Result.andThen_ok, h.run d hd I w x y cs ds hx hy w']
    cases eq x y <;> rfl
  | @cons off f fs i t u eq eu h ho hn hr ih =>
    intro d hd I w x y cs ds pc pd hx hy hpc hpd w'
    let B : Base := { P := P, w0 := w, I0 := I, F0 := fun _ => False, ρ0 := fun _ => undef, around0 := fun _ => ([], []), fix := [] }
    obtain ⟨c1, c2, rfl, h1, h2⟩ := hx
    obtain ⟨d1, d2, rfl, k1, k2⟩ := hy
    have l1 := rels_size P t h1
    have l2 := rels_size P t k1
    have p1 := partOf h B rfl pc c1 c2 w' (ho.trans hpc.symm) l1
    have p2 := partOf h B rfl pd d1 d2 w' (ho.trans hpd.symm) l2
    have r := ih d hd I w x.2 y.2 c2 d2 (pc ++ c1) (pd ++ d1) h2 k2 (by simp [hpc, l1, h.size]) (by simp [hpd, l2, h.size]) w'
    simp only [List.append_assoc] at r
    simp only [Op.eqFields, hn, ne_eq, not_false_eq_true, if_true, Sem.run_bind, p1, p2, Result.andThen_ok, h.run d hd I w x.1 y.1 c1 d1 h1 k1 w']
    cases eq x.1 y.1
    · rfl
    · simp only [Bool.not_true, Bool.false_eq_true, if_false, Bool.true_and]
      exact r

theorem EqFs.mono {P : Program} {n m : Nat} (hm : n ≤ m) {off : Nat} {fs : List Field} {t : Ty} {eq : t.den → t.den → Bool} (h : EqFs P n off fs t eq) : EqFs P m off fs t eq := by
  have mono : ∀ {T : TypeId} {i : TI} {t : Ty} {eq : t.den → t.den → Bool}, EqI P n T i t eq → EqI P m T i t eq := fun h => ⟨h.ok, h.size, h.one, fun d hd => h.run d (Nat.le_trans hm hd)⟩
  induction h with
  | one h ho hn => exact .one (mono h) ho hn
  | cons h ho hn _ ih => exact .cons (mono h) ho hn ih

theorem EqI.mono {P : Program} {n m : Nat} (hm : n ≤ m) {T : TypeId} {i : TI} {t : Ty} {eq : t.den → t.den → Bool} (h : EqI P n T i t eq) : EqI P m T i t eq := ⟨h.ok, h.size, h.one, fun d hd => h.run d (Nat.le_trans hm hd)⟩

theorem EqI.struct {P : Program} {n : Nat} {T : TypeId} {i : TI} (h : i.Ok P T) {fs : Array Field} (hu : P.underlying T = some (.struct fs)) (hp : P.stoodInHeld T = false) (ha : i.d.isAgg = true) {t : Ty} (hs : i.size = t.size) {eq : t.den → t.den → Bool} (hf : EqFs P n 0 fs.toList t eq) :
    EqI P (n + 1) T i t eq := by
  refine ⟨h, hs, fun hh => (by rw [ha] at hh; cases hh), fun d hd I w x y cs ds hx hy w' => ?_⟩
  obtain ⟨d, rfl⟩ : ∃ e, d = e + 1 := ⟨d - 1, by omega⟩
  have hfs : P.fieldsOf T = fs := by simp [Program.fieldsOf, hu]
  rw [ha]
  simp only [if_true]
  rw [run_equalIn_struct (w := w') d T cs.toArray ds.toArray (by rw [hfs]; exact hu) hp, hfs]
  have := hf.run d (by omega) I w x y cs ds [] [] hx hy rfl rfl w'
  simpa using this

theorem EqT.ok_of {P : Program} {n : Nat} (hn : n ≤ 10000) {T : TypeId} {i : TI} {t : Ty} {eq : t.den → t.den → Bool} (ha : i.d.isAgg = true) (h : EqI P n T i t eq) (hg : P.eqGuardType P.depth T = false) (eq' : t.den → t.den → Bool) (he : ∀ x y, eq' x y = eq x y) : EqT.Ok P T ⟨t, eq'⟩ := by
  refine ⟨hg, fun I w x y cs ds hx hy w' => ?_⟩
  have := h.run 10000 hn I w x y cs ds hx hy w'
  rw [ha] at this
  simp only [if_true] at this
  show (Op.equalIn 10000 T (.agg cs.toArray) (.agg ds.toArray)).run P w' = .ok (eq' x y) w'
  rw [this, he]
end Go.AM

/- A law's arguments: what reads as data is data; a law out of a contract. -/
namespace Go.AM
open Go.RowKit

/-- What a datum that came in is known to be. -/
def Good : (t : Ty) → t.den → Prop
  | .int k, n => (Lit.int k n).wf = true
  | .pair a b, x => Good a x.1 ∧ Good b x.2
  | .list t, xs => xs.length ≤ 140737488351232 ∧ ∀ x ∈ xs, Good t x
  | .arr _ t, xs => ∀ x ∈ xs, Good t x
  | .agg t, x => Good t x
  | _, _ => True

/-- A type's values that read as data are data of this code. -/
def Opens (P : Program) (T : TypeId) (t : Ty) : Prop :=
  P.cellsOf T = t.size ∧ ∀ {H : Type} (enc : TypeId × Value → H) (w : World) (fuel : Nat) (cs : List Value) (d : DataW H) (ps : List MemPlace), DataW.trod enc P w 0 (fun _ => true) true fuel T cs = some (d, ps) →
    (d.weights P T).all (· ≤ reachBytes) = true → ∃ x, (rels P t).cells (fun b => b < w.heap.size) w x cs ∧ Good t x

theorem Opens.int {P : Program} {T : TypeId} {k : IntKind} (h : P.underlying T = some (.int k)) (hc : P.cellsOf T = 1) : Opens P T (.int k) :=
  ⟨hc, fun _ _ _ _ _ _ ht _ => by obtain ⟨n, rfl, _, hw⟩ := DataW.trod_int h ht; exact ⟨n, rfl, hw⟩⟩
theorem Opens.bool {P : Program} {T : TypeId} (h : P.underlying T = some .bool) (hc : P.cellsOf T = 1) : Opens P T .bool :=
  ⟨hc, fun _ _ _ _ _ _ ht _ => by obtain ⟨n, rfl, _⟩ := DataW.trod_bool h ht; exact ⟨n, rfl, trivial⟩⟩
theorem Opens.str {P : Program} {T : TypeId} (h : P.underlying T = some .string) (hc : P.cellsOf T = 1) : Opens P T .str :=
  ⟨hc, fun _ _ _ _ _ _ ht _ => by obtain ⟨n, rfl, _⟩ := DataW.trod_string h ht; exact ⟨n, rfl, trivial⟩⟩

theorem cells?_get {w : World} {a : Addr} : ∀ {n : Nat} {cs : List Value}, w.cells? 0 a n = some cs → cs.length = n ∧ ∀ j v, cs[j]? = some v → w.cell? (a.add j) = some v := by
  intro n cs h
  unfold World.cells? at h
  rw [if_pos (Nat.zero_le _)] at h
  have key : ∀ (l : List Nat) (cs : List Value), l.mapM (fun i => w.cell? (a.add i)) = some cs → cs.length = l.length ∧ ∀ (j : Nat) i v, l[j]? = some i → cs[j]? = some v → w.cell? (a.add i) = some v := by
    intro l
    induction l with
    | nil => intro cs h; simp at h; subst h; exact ⟨rfl, fun j i v hi => by simp at hi⟩
    | cons x l ih =>
      intro cs h
      rw [List.mapM_cons] at h
      cases hx : w.cell? (a.add x) with
      | none => simp [hx] at h
      | some y =>
        cases hxs : l.mapM (fun i => w.cell? (a.add i)) with
        | none => simp [hx, hxs] at h
        | some ys =>
          simp [hx, hxs] at h
          subst h
          obtain ⟨h1, h2⟩ := ih ys hxs
          refine ⟨by simp [h1], fun j i v hi hv => ?_⟩
          cases j with
          | zero => simp at hi hv; subst hi; subst hv; exact hx
          | succ j => exact h2 j i v (by simpa using hi) (by simpa using hv)
  obtain ⟨h1, h2⟩ := key _ _ h
  simp at h1
  refine ⟨h1, fun j v hv => ?_⟩
  have hj : j < n := by
    rcases Nat.lt_or_ge j n with h' | h'
    · exact h'
    · rw [List.getElem?_eq_none (by omega)] at hv; cases hv
  exact h2 j j v (by simp [hj]) hv

theorem cell?_addr {w : World} {a : Addr} {j : Nat} {v : Value} (h : w.cell? (a.add j) = some v) : a.add j = ⟨a.block, a.off + j, none⟩ ∧ a.block < w.heap.size := by
  have hb : (a.add j).block = a.block := by unfold Addr.add; split <;> rfl
  unfold World.cell? at h
  split at h
  · rename_i c e fr hc
    split at h
    · cases h
    · rename_i hs
      refine ⟨?_, by rw [← hb]; exact (Array.getElem?_eq_some_iff.1 hc).1⟩
      unfold Addr.add at hs ⊢
      split
      · rename_i h0
        subst h0
        rw [if_pos rfl] at hs
        cases a
        simp_all
      · rfl
  · cases h

theorem Opens.slice {P : Program} {T e : TypeId} {t : Ty} (h : P.underlying T = some (.slice e)) (hc : P.cellsOf T = 1) (hb : 1 ≤ P.bytesOf e) (he : Opens P e t) : Opens P T (.list t) := by
  refine ⟨hc, fun {H} enc w fuel cs d ps ht hw => ?_⟩
  rcases DataW.trod_slice h ht with ⟨rfl, h0⟩ | ⟨a, len, cap, elems, rest, n, _, rfl, hx, _, hl, hm, hlen, hel, hsp, _⟩
  · exact ⟨[], ⟨_, rfl, none, 0, 0, [], rfl, rfl, Nat.le_refl _, rfl, .inl rfl⟩, by simp, fun x hx => by cases hx⟩
  · obtain ⟨rfl, _⟩ : d = .slice (elems.map (·.1)) (rest.map (·.1)) ∧ True := by cases hx; exact ⟨rfl, trivial⟩
    simp only [DataW.weights, h, List.all_cons, List.all_append, Bool.and_eq_true, decide_eq_true_eq] at hw
    obtain ⟨hw1, hw2, _⟩ := hw
    have hwe : ∀ (i : Nat) (y : DataW H × List MemPlace), elems[i]? = some y → (y.1.weights P e).all (· ≤ reachBytes) = true := by
      clear hel hlen hx hw1 ht
      induction elems with
      | nil => intro i y hy; simp at hy
      | cons z zs ih =>
        intro i y hy
        simp only [List.map_cons, DataW.weightsAll, List.all_append, Bool.and_eq_true] at hw2
        cases i with
        | zero => simp at hy; subst hy; exact hw2.1
        | succ i => exact ih hw2.2 i y (by simpa using hy)
    have hi : ∀ i, i < len → ∃ x ci, (rels P t).cells (fun b => b < w.heap.size) w x ci ∧ Good t x ∧ ci.length = t.size ∧ ∀ j v, ci[j]? = some v → w.cell? (a.add (i * t.size + j)) = some v := by
      intro i hi
      have h1 := hel i hi
      have h2 : ∃ y, elems[i]? = some y := ⟨elems[i]'(by omega), by simp [hlen, hi]⟩
      obtain ⟨y, hy⟩ := h2
      rw [hy] at h1
      cases hcs : w.cells? 0 (a.add (i * P.cellsOf e)) (P.cellsOf e) with
      | none => rw [hcs] at h1; cases h1
      | some ci =>
        rw [hcs] at h1
        simp only [Option.bind_some] at h1
        obtain ⟨x, r1, r2⟩ := he.2 enc w n ci y.1 y.2 h1 (hwe i y hy)
        obtain ⟨c1, c2⟩ := cells?_get hcs
        refine ⟨x, ci, r1, r2, rels_size P t r1, fun j v hv => ?_⟩
        have := c2 j v hv
        rw [Deep.add_add, he.1] at this
        exact this
    have all : ∀ m, m ≤ len → ∃ (xs : List t.den) (cells : List Value), xs.length = m ∧ concatR ((rels P t).cells (fun b => b < w.heap.size) w) xs cells ∧ (∀ x ∈ xs, Good t x) ∧ cells.length = m * t.size ∧ ∀ j v, cells[j]? = some v → w.cell? (a.add j) = some v := by
      intro m
      induction m with
      | zero => intro _; exact ⟨[], [], rfl, rfl, (fun x hx => by cases hx), by simp, fun j v hv => by simp at hv⟩
      | succ m ih =>
        intro hm'
        obtain ⟨xs, cells, h1, h2, h3, h4, h5⟩ := ih (by omega)
        obtain ⟨x, ci, r1, r2, r3, r4⟩ := hi m (by omega)
        refine ⟨xs ++ [x], cells ++ ci, by simp [h1], h2.append (concatR.one r1), fun y hy => ?_, by simp [h4, r3, Nat.succ_mul], fun j v hv => ?_⟩
        · rcases List.mem_append.1 hy with hy | hy
          · exact h3 y hy
          · rw [List.mem_singleton] at hy; subst hy; exact r2
        · rw [List.getElem?_append] at hv
          split at hv
          · exact h5 j v hv
          · rename_i hge
            have := r4 _ v hv
            rw [h4] at this
            rw [h4] at hge
            rwa [show m * t.size + (j - m * t.size) = j by omega] at this
    obtain ⟨xs, cells, h1, h2, h3, h4, h5⟩ := all len (Nat.le_refl _)
    refine ⟨xs, ⟨_, rfl, some a, len, cap, cells, rfl, h1.symm, hl, h2, ?_⟩, ?_, h3⟩
    · cases hcell : cells with
      | nil => exact .inl rfl
      | cons v vs =>
        right
        have h0 := h5 0 v (by rw [hcell]; rfl)
        obtain ⟨e1, e2⟩ := cell?_addr h0
        have ea : a = ⟨a.block, a.off, none⟩ := by
          have : a.add 0 = a := by unfold Addr.add; simp
          rw [this] at e1
          exact e1
        refine ⟨a.block, a.off, by rw [← ea], e2, fun j u hu => ?_⟩
        have hj := h5 j u (by rw [hcell]; exact hu)
        rw [(cell?_addr hj).1] at hj
        exact hj
    · have h6 : (elems.length + rest.length) * P.bytesOf e ≤ reachBytes := by simpa using hw1
      have h7 : elems.length * 1 ≤ (elems.length + rest.length) * P.bytesOf e := Nat.mul_le_mul (by omega) hb
      have h8 : reachBytes = 140737488351232 := rfl
      rw [h1]
      omega

/-- Fields one behind the other. -/
inductive OFs (P : Program) : Nat → List Field → Ty → Prop where
  | one {off : Nat} {f : Field} {t : Ty} (h : Opens P f.type t) (ho : f.offset = off) : OFs P off [f] t
  | cons {off : Nat} {f : Field} {fs : List Field} {t u : Ty} (h : Opens P f.type t) (ho : f.offset = off) (hr : OFs P (off + t.size) fs u) : OFs P off (f :: fs) (.pair t u)

theorem OFs.open {P : Program} {H : Type} {enc : TypeId × Value → H} {w : World} {n : Nat} {cs : List Value} : ∀ {off : Nat} {fs : List Field} {t : Ty}, OFs P off fs t → ∀ (xs : List (DataW H × List MemPlace)) (k : Nat), cs.length = off + t.size →
    (∀ (i : Nat) (f : Field), fs[i]? = some f → DataW.trod enc P w 0 (fun _ => true) true n f.type ((cs.drop f.offset).take (P.cellsOf f.type)) = xs[k + i]?) → (∀ (i : Nat) f y, fs[i]? = some f → xs[k + i]? = some y → (y.1.weights P f.type).all (· ≤ reachBytes) = true) →
    (∀ i, i < fs.length → ∃ y, xs[k + i]? = some y) → ∃ x, (rels P t).cells (fun b => b < w.heap.size) w x (cs.drop off) ∧ Good t x := by
  intro off fs t h
  induction h with
  | @one off f t h ho =>
    intro xs k hl hx hw hex
    obtain ⟨y, hy⟩ := hex 0 (by simp)
    have h1 := hx 0 f rfl
    rw [hy] at h1
    obtain ⟨x, r1, r2⟩ := h.2 enc w n _ y.1 y.2 h1 (hw 0 f y rfl hy)
    rw [ho, h.1, List.take_of_length_le (by simp; omega)] at r1
    exact ⟨x, r1, r2⟩
  | @cons off f fs t u h ho hr ih =>
    intro xs k hl hx hw hex
    obtain ⟨y, hy⟩ := hex 0 (by simp)
    have h1 := hx 0 f rfl
    rw [hy] at h1
    obtain ⟨x, r1, r2⟩ := h.2 enc w n _ y.1 y.2 h1 (hw 0 f y rfl hy)
    obtain ⟨z, s1, s2⟩ := ih xs (k + 1) (by rw [hl]; simp [Ty.size]; omega) (fun i f' hi => by have := hx (i + 1) f' (by simpa using hi); rw [this]; congr 1; omega)
      (fun i f' y' hi hy' => hw (i + 1) f' y' (by simpa using hi) (by rw [← hy']; congr 1; omega)) (fun i hi => by have := hex (i + 1) (by simp; omega); rwa [show k + (i + 1) = k + 1 + i by omega] at this)
    rw [ho, h.1] at r1
    refine ⟨(x, z), ⟨_, _, ?_, r1, s1⟩, r2, s2⟩
    rw [← List.drop_drop, List.take_append_drop]

theorem Opens.struct {P : Program} {T : TypeId} {fs : Array Field} {t : Ty} (h : P.underlying T = some (.struct fs)) (hc : P.cellsOf T = t.size) (hf : OFs P 0 fs.toList t) : Opens P T t := by
  refine ⟨hc, fun {H} enc w fuel cs d ps ht hw => ?_⟩
  obtain ⟨xs, n, _, hx, hl, hn, hel⟩ := DataW.trod_struct h ht
  obtain ⟨rfl, _⟩ : d = .agg (xs.map (·.1)) ∧ True := by cases hx; exact ⟨rfl, trivial⟩
  simp only [DataW.weights, h] at hw
  have hw' : ∀ (l : List Field) (ys : List (DataW H × List MemPlace)), (DataW.weightsEach P (l.map (·.type)) (ys.map (·.1))).all (· ≤ reachBytes) = true → ∀ (i : Nat) f y, l[i]? = some f → ys[i]? = some y → (y.1.weights P f.type).all (· ≤ reachBytes) = true := by
    intro l
    induction l with
    | nil => intro ys _ i f y hf; simp at hf
    | cons g l ih =>
      intro ys hw i f y hf hy
      cases ys with
      | nil => simp at hy
      | cons z zs =>
        simp only [List.map_cons, DataW.weightsEach, List.all_append, Bool.and_eq_true] at hw
        cases i with
        | zero => simp at hf hy; subst hf; subst hy; exact hw.1
        | succ i => exact ih zs hw.2 i f y (by simpa using hf) (by simpa using hy)
  have := OFs.open (enc := enc) (w := w) (n := n) (cs := cs) hf xs 0 (by rw [hl, hc]; simp) (fun i f hi => by rw [Nat.zero_add]; exact hel i f (by simpa using hi)) (fun i f y hi hy => hw' fs.toList xs hw i f y hi (by simpa using hy))
    (fun i hi => ⟨xs[i]'(by rw [hn]; simpa using hi), by rw [Nat.zero_add]; simp⟩)
  simpa using this

/-! Laws -/

theorem fnData_calls {P : Program} {g : FuncId} {m : Summ} (hok : m.Ok P g) (hq : m.quiet = true) {a r : Ty} (hp : parts a = true) {I : Nat → Prop} {w : World} (hb : ∀ b, I b → b < w.heap.size) {x : a.den} {us : List Value} (hx : (rels P a).vals I w x us) {y : r.den}
    (hy : fnData m a r [] x = some y) : Calls P g us.toArray w (RetR (rels P r).val I w y) := by
  let B : Base := { P := P, w0 := w, I0 := I, F0 := fun _ => False, ρ0 := fun _ => undef, around0 := fun _ => ([], []), fix := [] }
  let C : Ctx := { I := I, ρ := fun _ => undef, around := fun _ => ([], []) }
  obtain ⟨h1, h2, h3, h4⟩ := argS_rel (P := P) (C := C) (w := w) hp hx
  have hinv : Inv B C w { tmps := #[undef], defers := [] } ⟨1, [], []⟩ :=
    ⟨rfl, rfl, fun n => trivial, fun n k hk => (by cases hk), ⟨fun k b hm => (by cases hm), fun k b hm => (by cases hm), List.nodup_nil, fun k b _ _ hm => (by cases hm), fun k b hm => (by cases hm), hb, fun b h => h, fun b h => .inl h, Evo.refl _ _, fun k hk => (by cases hk), fun k hk => (by cases hk)⟩⟩
  have := hok.calls (B := B) (C := C) (a := { tmps := #[undef], defers := [] }) (st := ⟨1, [], []⟩) (vals := us) rfl hinv (args := argS a x ++ List.map capSV []) (by simpa using h1) (fun s hs k hk => by
    rw [h4 s (by simpa using hs)] at hk; cases hk) hy
  refine this.mono fun en w2 hret => ?_
  cases en with
  | returned v =>
    obtain ⟨hbelow, C2, st2, i1, i2⟩ := hret
    have hs0 := i1.slots 0
    simp only [Act.put] at hs0
    refine ⟨v, rfl, hbelow hq, C2.I, i1.heap.imm0, fun b hb => ?_, i1.heap.imm, resOf_rel (by simpa using hs0) i2⟩
    rcases i1.heap.immNew b hb with h5 | h5 | h5
    · exact .inl h5
    · exact .inr h5
    · exact h5.elim
  | panicked chain => obtain ⟨v, C2, st2, _, _, i2⟩ := hret; cases i2
  | outgrown => exact hret.elim

/-- A law's call. -/
theorem law_calls {P : Program} {g : FuncId} {m : Summ} (hok : m.Ok P g) (hq : m.quiet = true) {a : Ty} (hp : parts a = true) {w : World} {x : a.den} {us : List Value} (hx : (rels P a).vals (fun b => b < w.heap.size) w x us)
    (hy : fnData m a .bool [] x = some true) : Calls P g us.toArray w fun e w' => e = .returned (.bool true) ∧ Below w.heap.size w w' :=
  (fnData_calls hok hq hp (fun _ h => h) hx hy).mono fun _ _ ⟨rv, he, hb, _, _, _, _, hr⟩ => ⟨by rw [he, show rv = .bool true from hr], hb⟩

/-- An argument of a law. -/
theorem arg_one {P : Program} {T : TypeId} {t : Ty} (ho : Opens P T t) {H : Type} {enc : TypeId × Value → H} {w : World} {v : Value} {d : DataW H} {ps : List MemPlace} (ht : DataW.Trod enc P w 0 (fun _ => true) true T v d ps) (hw : (d.weights P T).all (· ≤ reachBytes) = true) (hv : v.cells = #[v])
    (hval : ∀ x cs, (rels P t).cells (fun b => b < w.heap.size) w x cs → cs = [v] → (rels P t).val (fun b => b < w.heap.size) w x v) : ∃ x, (rels P t).val (fun b => b < w.heap.size) w x v ∧ Good t x := by
  obtain ⟨fuel, hf⟩ := ht
  obtain ⟨x, h1, h2⟩ := ho.2 enc w fuel _ d ps hf hw
  rw [hv] at h1
  exact ⟨x, hval x _ h1 rfl, h2⟩

theorem arg_int {P : Program} {T : TypeId} {k : IntKind} (_ : Opens P T (.int k)) (hu : P.underlying T = some (.int k)) {H : Type} {enc : TypeId × Value → H} {w : World} {v : Value} {d : DataW H} {ps : List MemPlace} {base : Nat} {r : Reach} (ht : DataW.Trod enc P w 0 (fun _ => true) true T v d ps) (_ : (d.weights P T).all (· ≤ reachBytes) = true)
    (hv : Value.okWide P w r base T v) : ∃ x, (rels P (.int k)).val (fun b => b < w.heap.size) w x v ∧ Good (.int k) x := by
  obtain ⟨a, rfl, _, _, hw⟩ := ChangeShapes.open_int hu hv ht
  exact ⟨a, rfl, hw⟩
theorem arg_bool {P : Program} {T : TypeId} (_ : Opens P T .bool) (hu : P.underlying T = some .bool) {H : Type} {enc : TypeId × Value → H} {w : World} {v : Value} {d : DataW H} {ps : List MemPlace} {base : Nat} {r : Reach} (ht : DataW.Trod enc P w 0 (fun _ => true) true T v d ps) (_ : (d.weights P T).all (· ≤ reachBytes) = true)
    (hv : Value.okWide P w r base T v) : ∃ x, (rels P .bool).val (fun b => b < w.heap.size) w x v ∧ Good .bool x := by
  obtain ⟨a, rfl, _, _⟩ := Go.RowKit.open_bool hu hv ht
  exact ⟨a, rfl, trivial⟩
theorem arg_str {P : Program} {T : TypeId} (_ : Opens P T .str) (hu : P.underlying T = some .string) {H : Type} {enc : TypeId × Value → H} {w : World} {v : Value} {d : DataW H} {ps : List MemPlace} {base : Nat} {r : Reach} (_ : DataW.Trod enc P w 0 (fun _ => true) true T v d ps) (_ : (d.weights P T).all (· ≤ reachBytes) = true)
    (hv : Value.okWide P w r base T v) : ∃ x, (rels P .str).val (fun b => b < w.heap.size) w x v ∧ Good .str x := by
  obtain ⟨s, rfl⟩ := WideShapes.okWide_string hu hv
  exact ⟨s, rfl, trivial⟩
theorem arg_agg {P : Program} {T : TypeId} {t : Ty} (ho : Opens P T t) {fs : Array Field} (hu : P.underlying T = some (.struct fs)) {H : Type} {enc : TypeId × Value → H} {w : World} {v : Value} {d : DataW H} {ps : List MemPlace} {base : Nat} {r : Reach} (ht : DataW.Trod enc P w 0 (fun _ => true) true T v d ps) (hw : (d.weights P T).all (· ≤ reachBytes) = true)
    (hv : Value.okWide P w r base T v) : ∃ x, (rels P (.agg t)).val (fun b => b < w.heap.size) w x v ∧ Good (.agg t) x := by
  obtain ⟨fuel, hf⟩ := ht
  obtain ⟨x, h1, h2⟩ := ho.2 enc w fuel _ d ps hf hw
  simp only [Value.okWide, hu] at hv
  obtain ⟨cs, rfl, _⟩ := hv
  exact ⟨x, ⟨cs.toList, rfl, h1⟩, h2⟩

theorem weights_at {H : Type} {P : Program} {ts : List TypeId} {ds : List (DataW H)} (h : (DataW.weightsEach P ts ds).all (· ≤ reachBytes) = true) {j : Nat} {t : TypeId} {d : DataW H} (ht : ts[j]? = some t) (hd : ds[j]? = some d) : (d.weights P t).all (· ≤ reachBytes) = true := by
  rw [List.all_eq_true] at h ⊢
  exact fun n hn => h n (DataW.weights_mem_each ht hd n hn)
end Go.AM
