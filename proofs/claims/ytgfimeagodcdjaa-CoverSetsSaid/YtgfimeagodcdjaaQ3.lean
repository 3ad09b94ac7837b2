/- What functions of the cover layer tell: with rounds. -/
import Derived.Test.YtgfimeagodcdjaaQ2
set_option linter.unusedSimpArgs false
set_option linter.unusedVariables false
set_option linter.unusedSectionVars false
namespace Go.Proofs.Ytgfimeagodcdjaa
open Go Go.AM

abbrev Cl := Int × Int × Int

def okC (l : List Cl) (i : Nat) : Bool :=
  let x := l.getD i (0, 0, 0)
  let y := l.getD (i - 1) (0, 0, 0)
  decide (0 ≤ x.1) && decide (x.2.1 ≤ 65535) && decide (x.1 ≤ x.2.1) && decide (1 ≤ x.2.2) && decide (x.2.2 ≤ 65535) && (decide (i = 0) || (decide (y.2.1 < x.1) && !(decide (x.1 = y.2.1 + 1) && decide (x.2.2 = y.2.2))))

def rightC (l : List Cl) : Bool := (List.range l.length).all (okC l) && decide (l.length ≤ 5000)

structure CC (l : List Cl) : Prop where
  rng : ∀ x ∈ l, 0 ≤ x.1 ∧ x.1 ≤ x.2.1 ∧ x.2.1 ≤ 65535
  pw : l.Pairwise fun x y => x.2.1 < y.1

theorem CC.of_right {l : List Cl} (h : rightC l = true) : CC l ∧ l.length ≤ 5000 := by
  simp only [rightC, Bool.and_eq_true, List.all_eq_true, List.mem_range, decide_eq_true_eq] at h
  obtain ⟨h1, h2⟩ := h
  refine ⟨⟨fun x hx => ?_, ?_⟩, h2⟩
  · obtain ⟨i, hi, rfl⟩ := List.getElem_of_mem hx
    have := h1 i hi
    simp [okC, hi] at this
    omega
  · have step : ∀ i (h : i + 1 < l.length), (l[i]'(by omega)).2.1 < (l[i + 1]).1 := by
      intro i hi
      have := h1 (i + 1) hi
      simp [okC, hi, show i < l.length by omega] at this
      omega
    have rg : ∀ i (h : i < l.length), (l[i]).1 ≤ (l[i]).2.1 := by
      intro i hi
      have := h1 i hi
      simp [okC, hi] at this
      omega
    rw [List.pairwise_iff_getElem]
    intro i j hi hj hij
    induction j with
    | zero => omega
    | succ j ih =>
      rcases Nat.lt_or_ge i j with h' | h'
      · have := ih (by omega) h'
        have := step j hj
        have := rg j (by omega)
        omega
      · obtain rfl : i = j := by omega
        exact step i hj

abbrev I64 (x : Int) : Prop := -9223372036854775808 ≤ x ∧ x ≤ 9223372036854775807

theorem RightC_eq {fuel : Nat} {l : List Cl} (hl : l.length ≤ 140737488351232) (hr : ∀ x ∈ l, I64 x.1 ∧ I64 x.2.1 ∧ I64 x.2.2) (hf : l.length < fuel) : reedpenref10_RightClasses_25 fuel (l, ()) = some (rightC l, ()) := by
  have key := iter_all (step := reedpenref10_RightClasses_25_L1) (d := fun k => (l, (k : Int), ())) (ok := okC l) (m := l.length) (rf := .inr (false, ())) (re := .inl (l, ())) (fun k hk rec => ?_) (fun rec => by simp [reedpenref10_RightClasses_25_L1, U2]) fuel 0 (Nat.zero_le _) (by omega)
  · simp only [reedpenref10_RightClasses_25, U1]
    have key : iter reedpenref10_RightClasses_25_L1 fuel (l, (0 : Int), ()) = some (bif ((List.range l.length).all (okC l)) then .inl (l, ()) else .inr (false, ())) := by simpa using key
    rw [key]
    simp only [rightC]
    cases h : (List.range l.length).all (okC l)
    · simp [afterJoin]
    · simp only [cond_true, afterJoin, Bool.true_and]
      congr 2
      simp
      omega
  · have hx := hr l[k] (List.getElem_mem hk)
    have g1 : l.getD ((k : Int)).toNat (0, 0, 0) = l[k] := by simp [hk]
    have g2 : decide ((k : Int) < (l.length : Int)) = true := by simp <;> omega
    have g3 : decide ((0 : Int) ≤ (k : Int) ∧ (k : Int) < (l.length : Int)) = true := by simp <;> omega
    have g4 : IntKind.i64.wrap ((k : Int) + 1) = ((k + 1 : Nat) : Int) := by rw [w64] <;> omega
    simp only [reedpenref10_RightClasses_25_L1, U2, g1, g2, g3, g4, cond_true, okC, show l.getD k (0, 0, 0) = l[k] by simp [hk]]
    by_cases c1 : l[k].1 < 0
    · simp [c1, show ¬ 0 ≤ l[k].1 by omega]
    by_cases c2 : l[k].2.1 > 65535
    · simp [c1, c2, show ¬ l[k].2.1 ≤ 65535 by omega]
    by_cases c3 : l[k].1 > l[k].2.1
    · simp [c1, c2, c3, show ¬ l[k].1 ≤ l[k].2.1 by omega]
    by_cases c4 : l[k].2.2 < 1
    · simp [c1, c2, c3, c4, show ¬ 1 ≤ l[k].2.2 by omega]
    by_cases c5 : l[k].2.2 > 65535
    · simp [c1, c2, c3, c4, c5, show ¬ l[k].2.2 ≤ 65535 by omega]
    have a1 : 0 ≤ l[k].1 := by omega
    have a2 : l[k].2.1 ≤ 65535 := by omega
    have a3 : l[k].1 ≤ l[k].2.1 := by omega
    have a4 : 1 ≤ l[k].2.2 := by omega
    have a5 : l[k].2.2 ≤ 65535 := by omega
    by_cases c6 : k = 0
    · subst c6
      simp [a1, a2, a3, a4, a5, c1, c2, c3, c4, c5]
    · have hp := hr l[k - 1] (List.getElem_mem (by omega))
      have g5 : IntKind.i64.wrap ((k : Int) - 1) = ((k - 1 : Nat) : Int) := by rw [w64] <;> omega
      have g6 : decide ((k : Int) > 0) = true := by simp <;> omega
      have g7 : decide ((0 : Int) ≤ ((k - 1 : Nat) : Int) ∧ ((k - 1 : Nat) : Int) < (l.length : Int)) = true := by simp <;> omega
      have g8 : l.getD (((k - 1 : Nat) : Int)).toNat (0, 0, 0) = l[k - 1] := by simp [show k - 1 < l.length by omega]
      simp only [g5, g6, g7, g8, c1, c2, c3, c4, c5, a1, a2, a3, a4, a5, c6, decide_false, decide_true, beq_self_eq_true, cond_true, Bool.true_and, Bool.false_or, show l.getD (k - 1) (0, 0, 0) = l[k - 1] by simp [show k - 1 < l.length by omega]]
      by_cases c7 : l[k].1 ≤ l[k - 1].2.1
      · simp [c7, show ¬ l[k - 1].2.1 < l[k].1 by omega]
      · have g9 : IntKind.i64.wrap (l[k - 1].2.1 + 1) = l[k - 1].2.1 + 1 := by rw [w64] <;> omega
        simp only [g9, c7, show l[k - 1].2.1 < l[k].1 by omega, decide_false, decide_true, beq_self_eq_true, cond_true, Bool.true_and]
        by_cases c8 : l[k].1 = l[k - 1].2.1 + 1
        · simp only [c8, beq_self_eq_true, cond_true, decide_true, Bool.true_and]
          by_cases c9 : l[k].2.2 = l[k - 1].2.2
          · simp [c9]
          · simp [c9, show (l[k].2.2 == l[k - 1].2.2) = false by simpa using c9]
        · simp [c8, show (l[k].1 == l[k - 1].2.1 + 1) = false by simpa using c8]

theorem Same_eq {fuel : Nat} {a b : List Sp} (hl : a.length ≤ 140737488351232) (hf : a.length < fuel) : reedpenref10_Same_28 fuel (a, b, ()) = some (decide (a = b), ()) := by
  simp only [reedpenref10_Same_28, U2]
  by_cases hn : a.length = b.length
  · have hb : ((a.length : Int) != (b.length : Int)) = false := by simp [hn]
    rw [hb]
    simp only [cond_false]
    have key := iter_all (step := reedpenref10_Same_28_L1) (d := fun k => (a, b, (k : Int), ())) (ok := fun k => decide (a.getD k (0, 0) = b.getD k (0, 0))) (m := a.length) (rf := .inr (false, ())) (re := .inl ()) (fun k hk rec => ?_) (fun rec => by simp [reedpenref10_Same_28_L1, U3]) fuel 0 (Nat.zero_le _) (by omega)
    · have key : iter reedpenref10_Same_28_L1 fuel (a, b, (0 : Int), ()) = some (bif ((List.range a.length).all fun k => decide (a.getD k (0, 0) = b.getD k (0, 0))) then .inl () else .inr (false, ())) := by simpa using key
      rw [key]
      have e : ((List.range a.length).all fun k => decide (a.getD k (0, 0) = b.getD k (0, 0))) = decide (a = b) := by
        rw [Bool.eq_iff_iff]
        simp only [List.all_eq_true, List.mem_range, decide_eq_true_eq]
        constructor
        · intro h
          apply List.ext_getElem hn
          intro i h1 h2
          have := h i h1
          simpa [h1, h2] using this
        · rintro rfl _ _; rfl
      rw [e]
      cases decide (a = b) <;> simp [afterJoin, U0]
    · have g1 : decide ((k : Int) < (a.length : Int)) = true := by simp <;> omega
      have g2 : decide ((0 : Int) ≤ (k : Int) ∧ (k : Int) < (a.length : Int)) = true := by simp <;> omega
      have g3 : decide ((0 : Int) ≤ (k : Int) ∧ (k : Int) < (b.length : Int)) = true := by simp <;> omega
      have g4 : IntKind.i64.wrap ((k : Int) + 1) = ((k + 1 : Nat) : Int) := by rw [w64] <;> omega
      simp only [reedpenref10_Same_28_L1, U3, g1, g2, g3, g4, cond_true, Int.toNat_natCast, Prod.eta]
      cases decide (a.getD k (0, 0) = b.getD k (0, 0)) <;> rfl
  · have hb : ((a.length : Int) != (b.length : Int)) = true := by simp; omega
    rw [hb]
    have : a ≠ b := fun e => hn (by rw [e])
    simp [this]

/-! The spans of a table -/

theorem SpansIn {fuel : Nat} {t : List Bool} {i : Int} {out : List Sp} (ht : t.length ≤ 65536) (hf : 65536 < fuel) (k : Nat) (hk : k < t.length) (htk : t.getD k false = true) :
    ∃ k' : Nat, iter reedpenref10_Spans_29_L1 fuel (t, i, (k : Int), out, ()) = some (.inl (t, i, (k' : Int), out, ())) ∧ k ≤ k' ∧ k' < t.length ∧ (∀ j, k ≤ j → j ≤ k' → t.getD j false = true) ∧ (k' + 1 = t.length ∨ t.getD (k' + 1) false = false) := by
  obtain ⟨r, ⟨k', h1, h2, h3, h4, h5⟩, hr⟩ := iter_meas (step := reedpenref10_Spans_29_L1)
    (Inv := fun d => ∃ k' : Nat, d = (t, i, (k' : Int), out, ()) ∧ k ≤ k' ∧ k' < t.length ∧ ∀ j, k ≤ j → j ≤ k' → t.getD j false = true) (μ := fun d => t.length - d.2.2.1.toNat)
    (Q := fun r => ∃ k' : Nat, r = .inl (t, i, (k' : Int), out, ()) ∧ k ≤ k' ∧ k' < t.length ∧ (∀ j, k ≤ j → j ≤ k' → t.getD j false = true) ∧ (k' + 1 = t.length ∨ t.getD (k' + 1) false = false))
    (fun d ⟨k', hd, a1, a2, a3⟩ => by
      subst hd
      have g1 : IntKind.i64.wrap ((k' : Int) + 1) = ((k' + 1 : Nat) : Int) := by rw [w64] <;> omega
      by_cases c1 : k' + 1 < t.length
      · have g2 : decide (((k' + 1 : Nat) : Int) < (t.length : Int)) = true := by simp <;> omega
        have g3 : decide ((0 : Int) ≤ ((k' + 1 : Nat) : Int) ∧ ((k' + 1 : Nat) : Int) < (t.length : Int)) = true := by simp <;> omega
        cases c2 : t.getD (k' + 1) false with
        | true =>
          refine .inr ⟨(t, i, ((k' + 1 : Nat) : Int), out, ()), ⟨k' + 1, rfl, by omega, c1, fun j h1 h2 => ?_⟩, by simp; omega, fun rec => ?_⟩
          · rcases Nat.lt_or_ge k' j with h | h
            · obtain rfl : j = k' + 1 := by omega
              exact c2
            · exact a3 j h1 h
          · simp only [reedpenref10_Spans_29_L1, U4, g1, g2, g3, Int.toNat_natCast, c2, beq_self_eq_true, cond_true]
        | false =>
          refine .inl ⟨_, ⟨k', rfl, a1, a2, a3, .inr c2⟩, fun rec => ?_⟩
          simp only [reedpenref10_Spans_29_L1, U4, g1, g2, g3, Int.toNat_natCast, c2, beq_self_eq_true, cond_true, cond_false]
      · have g2 : decide (((k' + 1 : Nat) : Int) < (t.length : Int)) = false := by simp <;> omega
        refine .inl ⟨_, ⟨k', rfl, a1, a2, a3, .inl (by omega)⟩, fun rec => ?_⟩
        simp only [reedpenref10_Spans_29_L1, U4, g1, g2]
        rfl) fuel (t, i, (k : Int), out, ()) ⟨k, rfl, Nat.le_refl _, hk, fun j h1 h2 => (show j = k by omega) ▸ htk⟩ (by simp; omega)
  exact ⟨k', by rw [hr, h1], h2, h3, h4, h5⟩

theorem Spans_eq {fuel : Nat} {t : List Bool} (ht : t.length ≤ 65536) (hf : 65537 < fuel) : ∃ s, reedpenref10_Spans_29 fuel (t, ()) = some (s, ()) ∧ Can s ∧ ∀ g, Mem s g ↔ 0 ≤ g ∧ t.getD g.toNat false = true := by
  have short : ∀ j : Nat, t.getD j false = true → j < t.length := fun j h => by
    rcases Nat.lt_or_ge j t.length with h' | h'
    · exact h'
    · simp [List.getD_eq_getElem?_getD, List.getElem?_eq_none h'] at h
  obtain ⟨r, ⟨s, h1, h2, h3⟩, hr⟩ := iter_meas (step := reedpenref10_Spans_29_L2 fuel)
    (Inv := fun d => ∃ (k : Nat) (out : List Sp), d = (t, (k : Int), out, ()) ∧ k ≤ t.length ∧ Can out ∧ (∀ z ∈ out, z.2 < k ∧ (z.2 + 1 = k → t.getD k false = false)) ∧ ∀ g, Mem out g ↔ 0 ≤ g ∧ g < k ∧ t.getD g.toNat false = true) (μ := fun d => t.length - d.2.1.toNat)
    (Q := fun r => ∃ s, r = .inl (s, ()) ∧ Can s ∧ ∀ g, Mem s g ↔ 0 ≤ g ∧ t.getD g.toNat false = true)
    (fun d ⟨k, out, hd, a1, a2, a3, a4⟩ => by
      subst hd
      by_cases c1 : k < t.length
      · have g2 : decide ((k : Int) < (t.length : Int)) = true := by simp <;> omega
        have g3 : decide ((0 : Int) ≤ (k : Int) ∧ (k : Int) < (t.length : Int)) = true := by simp <;> omega
        cases c2 : t.getD k false with
        | false =>
          have g4 : IntKind.i64.wrap ((k : Int) + 1) = ((k + 1 : Nat) : Int) := by rw [w64] <;> omega
          refine .inr ⟨(t, ((k + 1 : Nat) : Int), out, ()), ⟨k + 1, out, rfl, by omega, a2, fun z hz => ⟨by have := (a3 z hz).1; omega, fun e => by have := (a3 z hz).1; omega⟩, fun g => ?_⟩, by simp; omega, fun rec => ?_⟩
          · rw [a4]
            constructor
            · rintro ⟨b1, b2, b3⟩; exact ⟨b1, by omega, b3⟩
            · rintro ⟨b1, b2, b3⟩
              refine ⟨b1, ?_, b3⟩
              by_cases h : g < k
              · exact h
              · have : g.toNat = k := by omega
                rw [this, c2] at b3; cases b3
          · simp only [reedpenref10_Spans_29_L2, U3, g2, g3, Int.toNat_natCast, c2, Bool.not_false, cond_true, afterJoin, g4]
        | true =>
          obtain ⟨k', e1, e2, e3, e4, e5⟩ := SpansIn (fuel := fuel) (i := (k : Int)) (out := out) ht (by omega) k c1 c2
          have g4 : IntKind.i64.wrap ((k' : Int) + 1) = ((k' + 1 : Nat) : Int) := by rw [w64] <;> omega
          have hlen := a2.length
          have g5 : decide (out.length + 1 < 8796093022208) = true := by simp <;> omega
          have hsn := a2.snoc (x := ((k : Int), (k' : Int))) ⟨by show (0 : Int) ≤ k; omega, by show (k : Int) ≤ k'; omega, by show (k' : Int) ≤ 65535; omega⟩ (fun z hz => by
            obtain ⟨b1, b2⟩ := a3 z hz
            show z.2 + 1 < (k : Int)
            by_cases h : z.2 + 1 < k
            · exact h
            · have := b2 (by omega)
              rw [c2] at this; cases this)
          refine .inr ⟨(t, ((k' + 1 : Nat) : Int), out ++ [((k : Int), (k' : Int))], ()), ⟨k' + 1, _, rfl, by omega, hsn, fun z hz => ?_, fun g => ?_⟩, by simp; omega, fun rec => ?_⟩
          · rcases List.mem_append.1 hz with hz | hz
            · have := (a3 z hz).1
              exact ⟨by omega, fun e => by omega⟩
            · rw [List.mem_singleton] at hz
              subst hz
              refine ⟨by show (k' : Int) < _; omega, fun _ => ?_⟩
              rcases e5 with e5 | e5
              · simp [List.getD_eq_getElem?_getD, List.getElem?_eq_none (show t.length ≤ k' + 1 by omega)]
              · exact e5
          · rw [Mem.append, Mem.one, a4]
            show _ ∨ ((k : Int) ≤ g ∧ g ≤ (k' : Int)) ↔ _
            constructor
            · rintro (⟨b1, b2, b3⟩ | ⟨b1, b2⟩)
              · exact ⟨b1, by omega, b3⟩
              · exact ⟨by omega, by omega, e4 _ (by omega) (by omega)⟩
            · rintro ⟨b1, b2, b3⟩
              by_cases hg : g < k
              · exact .inl ⟨b1, hg, b3⟩
              · exact .inr ⟨by omega, by omega⟩
          · simp only [reedpenref10_Spans_29_L2, U3, U4, g2, g3, Int.toNat_natCast, c2, Bool.not_true, cond_true, cond_false, e1, afterJoin, List.length_singleton, g5, g4]
      · have g2 : decide ((k : Int) < (t.length : Int)) = false := by simp <;> omega
        refine .inl ⟨_, ⟨out, rfl, a2, fun g => ?_⟩, fun rec => ?_⟩
        · rw [a4]
          constructor
          · rintro ⟨b1, b2, b3⟩; exact ⟨b1, b3⟩
          · rintro ⟨b1, b3⟩; exact ⟨b1, by have := short _ b3; omega, b3⟩
        · simp only [reedpenref10_Spans_29_L2, U3, g2, cond_false]) fuel (t, (0 : Int), [], ()) ⟨0, [], rfl, Nat.zero_le _, Can.nil, fun z hz => (by cases hz), fun g => ⟨fun h => absurd h Mem.nil, fun h => by omega⟩⟩ (by simp; omega)
  exact ⟨s, by simp only [reedpenref10_Spans_29, U1]; rw [hr, h1]; rfl, h2, h3⟩
end Go.Proofs.Ytgfimeagodcdjaa
