/- Words for plain laws: loops, sums that stay in range. -/
import Derived.Test.YtgfimeagodcdjaaAmF
set_option linter.unusedSimpArgs false
set_option linter.unusedVariables false
set_option linter.unusedSectionVars false
namespace Go.Proofs.Ytgfimeagodcdjaa
open Go Go.AM

theorem w64 {x : Int} (h1 : -9223372036854775808 ≤ x) (h2 : x ≤ 9223372036854775807) : IntKind.i64.wrap x = x := by
  unfold IntKind.wrap
  simp only [IntKind.bits, IntKind.signed]
  simp
  omega

theorem iter_meas {D R : Type} {step : (D → Option R) → D → Option R} {Inv : D → Prop} {μ : D → Nat} {Q : R → Prop}
    (h : ∀ d, Inv d → (∃ r, Q r ∧ ∀ rec, step rec d = some r) ∨ (∃ d', Inv d' ∧ μ d' < μ d ∧ ∀ rec, step rec d = rec d')) : ∀ (n : Nat) (d : D), Inv d → μ d < n → ∃ r, Q r ∧ iter step n d = some r
  | 0, _, _, hn => absurd hn (Nat.not_lt_zero _)
  | n + 1, d, hi, hn => by
    rcases h d hi with ⟨r, hq, hr⟩ | ⟨d', hi', hm, hr⟩
    · exact ⟨r, hq, hr _⟩
    · obtain ⟨r, hq, he⟩ := iter_meas h n d' hi' (by omega)
      exact ⟨r, hq, (hr _).trans he⟩

theorem tbf : (true == false) = false := rfl
theorem fbf : (false == false) = true := rfl
theorem tbt : (true == true) = true := rfl
theorem fbt : (false == true) = false := rfl
theorem bindO_eq {α β : Type} {x : Option α} {y : α} (h : x = some y) (k : α → Option β) : bindO x k = k y := by rw [h]; rfl
theorem afterJoin_inl {D R : Type} {x : Option (D ⊕ R)} {d : D} (h : x = some (.inl d)) (k : D → Option R) : afterJoin x k = k d := by rw [h]; rfl
theorem afterJoin_inr {D R : Type} {x : Option (D ⊕ R)} {r : R} (h : x = some (.inr r)) (k : D → Option R) : afterJoin x k = some r := by rw [h]; rfl
end Go.Proofs.Ytgfimeagodcdjaa
