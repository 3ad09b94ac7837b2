/- What functions of the cover layer tell: single ones. -/
import Derived.Test.YtgfimeagodcdjaaQ1
import Derived.Test.YtgfimeagodcdjaaC2
set_option linter.unusedSimpArgs false
set_option linter.unusedVariables false
set_option linter.unusedSectionVars false
namespace Go.Proofs.Ytgfimeagodcdjaa
open Go Go.AM

set_option maxRecDepth 100000 in
theorem alive_eq (n : Nat) : reedpenlaw10_alive_23 (n + 40) () = some (true, ()) := by kernel_rfl

theorem joined_eq (fuel : Nat) {s : List Sp} {x : Sp} (h : Can s) : cover_joined_89 fuel (x, s, ()) = some (joinS s x, ()) := by
  have hlen := h.length
  simp only [cover_joined_89, U2]
  rcases snoc_cases s with rfl | ⟨t, y, rfl⟩
  · simp [joinS_nil]
  · obtain ⟨c1, c2, c3⟩ := h.init
    simp only [List.length_append, List.length_singleton] at hlen ⊢
    have e0 : decide (((t.length + 1 : Nat) : Int) > 0) = true := by simp <;> omega
    have e1 : IntKind.i64.wrap (((t.length + 1 : Nat) : Int) - 1) = (t.length : Int) := by rw [w64] <;> omega
    have e2 : decide ((0 : Int) ≤ (t.length : Int) ∧ (t.length : Int) < ((t.length + 1 : Nat) : Int)) = true := by simp <;> omega
    have e3 : (t ++ [y]).getD ((t.length : Int)).toNat (0, 0) = y := by simp
    have e4 : IntKind.i64.wrap (y.2 + 1) = y.2 + 1 := by rw [w64] <;> omega
    have e5 : (t ++ [y]).set ((t.length : Int)).toNat (y.1, x.2) = t ++ [(y.1, x.2)] := by simp
    have e6 : decide (t.length + 1 + 1 < 8796093022208) = true := by simp <;> omega
    rw [e0, e1, e2, e3, e4, e5]
    simp only [beq_self_eq_true, cond_true, e6, joinS_snoc]
    by_cases hc : y.2 + 1 = x.1
    · simp [hc]
    · have hb : (y.2 + 1 == x.1) = false := by simpa using hc
      simp [hb, hc]

theorem put_eq (fuel : Nat) {s : List Sp} {a b : Int} (h : Can s) : cover_Both_1_90 fuel (a, b, s, ()) = some (if a ≤ b then joinS s (a, b) else s, ()) := by
  simp only [cover_Both_1_90, U3]
  by_cases hc : a ≤ b
  · simp [hc, joined_eq fuel h, bindO]
  · simp [hc]

/-- Of a loop over places: it goes on, or it is told at once. -/
theorem iter_all {D R : Type} {step : (D → Option R) → D → Option R} {d : Nat → D} {ok : Nat → Bool} {m : Nat} {rf re : R} (h1 : ∀ k, k < m → ∀ rec, step rec (d k) = bif ok k then rec (d (k + 1)) else some rf) (h2 : ∀ rec, step rec (d m) = some re) :
    ∀ (n k : Nat), k ≤ m → m - k < n → iter step n (d k) = some (bif ((List.range (m - k)).all fun i => ok (k + i)) then re else rf)
  | 0, k, _, hn => absurd hn (Nat.not_lt_zero _)
  | n + 1, k, hk, hn => by
    show step (iter step n) (d k) = _
    rcases Nat.lt_or_ge k m with hlt | hge
    · rw [h1 k hlt, iter_all h1 h2 n (k + 1) (by omega) (by omega)]
      have e : m - k = (m - (k + 1)) + 1 := by omega
      rw [e, List.range_succ_eq_map]
      simp only [List.all_cons, Nat.add_zero, List.all_map, Function.comp_def, Nat.succ_eq_add_one]
      have e2 : (fun i => ok (k + (i + 1))) = fun i => ok (k + 1 + i) := by funext i; congr 1; omega
      rw [e2]
      cases ok k <;> simp
    · obtain rfl : k = m := by omega
      rw [h2]
      simp

theorem Right_eq {fuel : Nat} {l : List Sp} (hl : l.length ≤ 140737488351232) (hr : ∀ x ∈ l, (-9223372036854775808 ≤ x.1 ∧ x.1 ≤ 9223372036854775807) ∧ -9223372036854775808 ≤ x.2 ∧ x.2 ≤ 9223372036854775807) (hf : l.length < fuel) : reedpenref10_Right_24 fuel (l, ()) = some (rightB l, ()) := by
  have key := iter_all (step := reedpenref10_Right_24_L1) (d := fun k => (l, (k : Int), ())) (ok := okAt l) (m := l.length) (rf := .inr (false, ())) (re := .inl (l, ())) (fun k hk rec => ?_) (fun rec => by simp [reedpenref10_Right_24_L1, U2]) fuel 0 (Nat.zero_le _) (by omega)
  · simp only [reedpenref10_Right_24, U1]
    have key : iter reedpenref10_Right_24_L1 fuel (l, (0 : Int), ()) = some (bif ((List.range l.length).all (okAt l)) then .inl (l, ()) else .inr (false, ())) := by simpa using key
    rw [key]
    simp only [rightB]
    cases h : (List.range l.length).all (okAt l)
    · simp [afterJoin]
    · simp only [cond_true, afterJoin, Bool.true_and]
      congr 2
      simp
      omega
  · have hx := hr l[k] (List.getElem_mem hk)
    have g1 : l.getD ((k : Int)).toNat (0, 0) = l[k] := by simp [hk]
    have g2 : decide ((k : Int) < (l.length : Int)) = true := by simp <;> omega
    have g3 : decide ((0 : Int) ≤ (k : Int) ∧ (k : Int) < (l.length : Int)) = true := by simp <;> omega
    have g4 : IntKind.i64.wrap ((k : Int) + 1) = ((k + 1 : Nat) : Int) := by rw [w64] <;> omega
    simp only [reedpenref10_Right_24_L1, U2, g1, g2, g3, g4, cond_true, okAt, show l.getD k (0, 0) = l[k] by simp [hk]]
    by_cases c1 : l[k].1 < 0
    · simp [c1, show ¬ 0 ≤ l[k].1 by omega]
    by_cases c2 : l[k].2 > 65535
    · simp [c1, c2, show ¬ l[k].2 ≤ 65535 by omega]
    by_cases c3 : l[k].1 > l[k].2
    · simp [c1, c2, c3, show ¬ l[k].1 ≤ l[k].2 by omega]
    have a1 : 0 ≤ l[k].1 := by omega
    have a2 : l[k].2 ≤ 65535 := by omega
    have a3 : l[k].1 ≤ l[k].2 := by omega
    by_cases c4 : k = 0
    · subst c4
      simp [a1, a2, a3, c1, c2, c3]
    · have hp := hr l[k - 1] (List.getElem_mem (by omega))
      have g5 : IntKind.i64.wrap ((k : Int) - 1) = ((k - 1 : Nat) : Int) := by rw [w64] <;> omega
      have g6 : decide ((k : Int) > 0) = true := by simp <;> omega
      have g7 : decide ((0 : Int) ≤ ((k - 1 : Nat) : Int) ∧ ((k - 1 : Nat) : Int) < (l.length : Int)) = true := by simp <;> omega
      have g8 : l.getD (((k - 1 : Nat) : Int)).toNat (0, 0) = l[k - 1] := by simp [show k - 1 < l.length by omega]
      have g9 : IntKind.i64.wrap (l[k].1 - 1) = l[k].1 - 1 := by rw [w64] <;> omega
      simp only [g5, g6, g7, g8, g9, c1, c2, c3, a1, a2, a3, c4, decide_false, decide_true, beq_self_eq_true, cond_true, Bool.true_and, Bool.false_or, show l.getD (k - 1) (0, 0) = l[k - 1] by simp [show k - 1 < l.length by omega]]
      by_cases c5 : l[k].1 - 1 ≤ l[k - 1].2
      · simp [c5, show ¬ l[k - 1].2 + 1 < l[k].1 by omega]
      · simp [c5, show l[k - 1].2 + 1 < l[k].1 by omega]
end Go.Proofs.Ytgfimeagodcdjaa
