/- Spans as sets: plain lists alone. -/
import Derived.Test.YtgfimeagodcdjaaW1
set_option linter.unusedSimpArgs false
set_option linter.unusedVariables false
set_option linter.unusedSectionVars false
namespace Go.Proofs.Ytgfimeagodcdjaa
open Go Go.AM

abbrev Sp := Int × Int

/-- The fewest spans, rising, of glyphs below 65,536. -/
structure Can (s : List Sp) : Prop where
  rng : ∀ x ∈ s, 0 ≤ x.1 ∧ x.1 ≤ x.2 ∧ x.2 ≤ 65535
  pw : s.Pairwise fun x y => x.2 + 1 < y.1

def Mem (s : List Sp) (g : Int) : Prop := ∃ x ∈ s, x.1 ≤ g ∧ g ≤ x.2

theorem Mem.nil {g : Int} : ¬ Mem [] g := fun ⟨_, h, _⟩ => by cases h
theorem Mem.cons {x : Sp} {s : List Sp} {g : Int} : Mem (x :: s) g ↔ (x.1 ≤ g ∧ g ≤ x.2) ∨ Mem s g := by
  simp only [Mem, List.mem_cons, exists_eq_or_imp]
theorem Mem.append {s t : List Sp} {g : Int} : Mem (s ++ t) g ↔ Mem s g ∨ Mem t g := by
  simp only [Mem, List.mem_append]
  constructor
  · rintro ⟨x, h | h, k⟩
    · exact .inl ⟨x, h, k⟩
    · exact .inr ⟨x, h, k⟩
  · rintro (⟨x, h, k⟩ | ⟨x, h, k⟩)
    · exact ⟨x, .inl h, k⟩
    · exact ⟨x, .inr h, k⟩
theorem Mem.one {x : Sp} {g : Int} : Mem [x] g ↔ x.1 ≤ g ∧ g ≤ x.2 := by simp [Mem]

theorem Can.nil : Can [] := ⟨fun _ h => (by cases h), List.Pairwise.nil⟩
theorem Can.tail {x : Sp} {s : List Sp} (h : Can (x :: s)) : Can s := ⟨fun y hy => h.rng y (List.mem_cons_of_mem _ hy), (List.pairwise_cons.1 h.pw).2⟩
theorem Can.head {x : Sp} {s : List Sp} (h : Can (x :: s)) : ∀ y ∈ s, x.2 + 1 < y.1 := (List.pairwise_cons.1 h.pw).1
theorem Can.snoc {s : List Sp} {x : Sp} (h : Can s) (hx : 0 ≤ x.1 ∧ x.1 ≤ x.2 ∧ x.2 ≤ 65535) (hl : ∀ y ∈ s, y.2 + 1 < x.1) : Can (s ++ [x]) := by
  refine ⟨fun y hy => ?_, List.pairwise_append.2 ⟨h.pw, List.pairwise_singleton _ _, fun a ha b hb => ?_⟩⟩
  · rcases List.mem_append.1 hy with hy | hy
    · exact h.rng y hy
    · rw [List.mem_singleton] at hy; subst hy; exact hx
  · rw [List.mem_singleton] at hb; subst hb; exact hl a ha
theorem Can.init {s : List Sp} {x : Sp} (h : Can (s ++ [x])) : Can s ∧ (∀ y ∈ s, y.2 + 1 < x.1) ∧ 0 ≤ x.1 ∧ x.1 ≤ x.2 ∧ x.2 ≤ 65535 := by
  obtain ⟨p1, _, p3⟩ := List.pairwise_append.1 h.pw
  exact ⟨⟨fun y hy => h.rng y (List.mem_append.2 (.inl hy)), p1⟩, fun y hy => p3 y hy x (by simp), h.rng x (by simp)⟩

theorem Can.length_lo : ∀ {s : List Sp} {lo : Int}, Can s → 0 ≤ lo → lo ≤ 65536 → (∀ x ∈ s, lo ≤ x.1) → (s.length : Int) ≤ 65536 - lo
  | [], lo, _, _, h, _ => by simp; omega
  | x :: s, lo, h, h0, h1, hl => by
    have hx := h.rng x (by simp)
    have h2 := hl x (by simp)
    have := Can.length_lo (s := s) (lo := x.2 + 1) h.tail (by omega) (by omega) (fun y hy => by have := h.head y hy; omega)
    simp only [List.length_cons]
    omega
theorem Can.length {s : List Sp} (h : Can s) : s.length ≤ 65536 := by
  have := h.length_lo (lo := 0) (by omega) (by omega) (fun x hx => (h.rng x hx).1)
  omega

/-- Spans of the same glyphs are the same. -/
theorem Can.eq : ∀ {s t : List Sp}, Can s → Can t → (∀ g, Mem s g ↔ Mem t g) → s = t
  | [], [], _, _, _ => rfl
  | [], y :: t, _, ht, h => by
    have hy := ht.rng y (by simp)
    exact absurd ((h y.1).2 ⟨y, by simp, by omega⟩) Mem.nil
  | x :: s, [], hs, _, h => by
    have hx := hs.rng x (by simp)
    exact absurd ((h x.1).1 ⟨x, by simp, by omega⟩) Mem.nil
  | x :: s, y :: t, hs, ht, h => by
    have hx := hs.rng x (by simp)
    have hy := ht.rng y (by simp)
    have low : ∀ {x : Sp} {s : List Sp}, Can (x :: s) → ∀ g, Mem (x :: s) g → x.1 ≤ g := by
      intro x s hs g hg
      rcases Mem.cons.1 hg with h | ⟨z, hz, h⟩
      · exact h.1
      · have := hs.head z hz; have := hs.rng x (by simp); omega
    have e1 : x.1 = y.1 := by
      have h1 := low ht _ ((h x.1).1 ⟨x, by simp, by omega⟩)
      have h2 := low hs _ ((h y.1).2 ⟨y, by simp, by omega⟩)
      omega
    have gap : ∀ {x : Sp} {s : List Sp}, Can (x :: s) → ¬ Mem (x :: s) (x.2 + 1) := by
      intro x s hs hg
      rcases Mem.cons.1 hg with h | ⟨z, hz, h⟩
      · omega
      · have := hs.head z hz; omega
    have e2 : x.2 = y.2 := by
      rcases Int.lt_trichotomy x.2 y.2 with hlt | he | hlt
      · exact absurd ((h (x.2 + 1)).2 ⟨y, by simp, by omega⟩) (gap hs)
      · exact he
      · exact absurd ((h (y.2 + 1)).1 ⟨x, by simp, by omega⟩) (gap ht)
    have exy : x = y := Prod.ext e1 e2
    subst exy
    congr 1
    refine Can.eq hs.tail ht.tail fun g => ?_
    have hg := h g
    rw [Mem.cons, Mem.cons] at hg
    constructor
    · intro m
      rcases hg.1 (.inr m) with k | k
      · obtain ⟨z, hz, k2⟩ := m; have := hs.head z hz; omega
      · exact k
    · intro m
      rcases hg.2 (.inr m) with k | k
      · obtain ⟨z, hz, k2⟩ := m; have := ht.head z hz; omega
      · exact k

/-! One more span -/

def joinS (s : List Sp) (x : Sp) : List Sp :=
  match s.getLast? with
  | none => [x]
  | some y => if y.2 + 1 = x.1 then s.dropLast ++ [(y.1, x.2)] else s ++ [x]

theorem joinS_nil (x : Sp) : joinS [] x = [x] := rfl
theorem joinS_snoc (s : List Sp) (y x : Sp) : joinS (s ++ [y]) x = if y.2 + 1 = x.1 then s ++ [(y.1, x.2)] else s ++ [y] ++ [x] := by
  simp [joinS]

theorem snoc_cases {α : Type} (s : List α) : s = [] ∨ ∃ t y, s = t ++ [y] := by
  rcases List.eq_nil_or_concat s with h | ⟨t, y, h⟩
  · exact .inl h
  · exact .inr ⟨t, y, by simpa using h⟩

theorem joinS_spec {s : List Sp} {x : Sp} (h : Can s) (hx : 0 ≤ x.1 ∧ x.1 ≤ x.2 ∧ x.2 ≤ 65535) (hl : ∀ y ∈ s, y.2 < x.1) :
    Can (joinS s x) ∧ (∀ g, Mem (joinS s x) g ↔ Mem s g ∨ (x.1 ≤ g ∧ g ≤ x.2)) ∧ (∀ z ∈ joinS s x, z.2 ≤ x.2) := by
  rcases snoc_cases s with rfl | ⟨t, y, rfl⟩
  · rw [joinS_nil]
    refine ⟨⟨fun z hz => by rw [List.mem_singleton] at hz; subst hz; exact hx, List.pairwise_singleton _ _⟩, fun g => ?_, fun z hz => by rw [List.mem_singleton] at hz; subst hz; exact Int.le_refl _⟩
    rw [Mem.one]
    exact ⟨.inr, fun k => k.elim (fun k => absurd k Mem.nil) id⟩
  · obtain ⟨c1, c2, c3⟩ := h.init
    have hy := hl y (by simp)
    rw [joinS_snoc]
    split
    · rename_i e
      refine ⟨c1.snoc ⟨c3.1, by show y.1 ≤ x.2; omega, hx.2.2⟩ c2, fun g => ?_, fun z hz => ?_⟩
      · rw [Mem.append, Mem.append, Mem.one, Mem.one]
        show _ ∨ (y.1 ≤ g ∧ g ≤ x.2) ↔ _
        constructor
        · rintro (k | k)
          · exact .inl (.inl k)
          · by_cases hg : g ≤ y.2
            · exact .inl (.inr ⟨k.1, hg⟩)
            · exact .inr ⟨by omega, k.2⟩
        · rintro ((k | k) | k)
          · exact .inl k
          · exact .inr ⟨k.1, by omega⟩
          · exact .inr ⟨by omega, k.2⟩
      · rcases List.mem_append.1 hz with hz | hz
        · have := hl z (by simp [hz]); omega
        · rw [List.mem_singleton] at hz; subst hz; exact Int.le_refl _
    · rename_i e
      refine ⟨h.snoc hx fun z hz => ?_, fun g => by rw [Mem.append, Mem.one], fun z hz => ?_⟩
      · rcases List.mem_append.1 hz with hz | hz
        · have := c2 z hz; omega
        · rw [List.mem_singleton] at hz; subst hz; omega
      · rcases List.mem_append.1 hz with hz | hz
        · have := hl z hz; omega
        · rw [List.mem_singleton] at hz; subst hz; exact Int.le_refl _

theorem joinS_length (s : List Sp) (x : Sp) : (joinS s x).length ≤ s.length + 1 := by
  rcases snoc_cases s with rfl | ⟨t, y, rfl⟩
  · simp [joinS_nil]
  · rw [joinS_snoc]; split <;> simp

/-! Which glyphs are right -/

def okAt (l : List Sp) (i : Nat) : Bool :=
  let x := l.getD i (0, 0)
  decide (0 ≤ x.1) && decide (x.2 ≤ 65535) && decide (x.1 ≤ x.2) && (decide (i = 0) || decide ((l.getD (i - 1) (0, 0)).2 + 1 < x.1))

def rightB (l : List Sp) : Bool := (List.range l.length).all (okAt l) && decide (l.length ≤ 5000)

theorem Can.of_right {l : List Sp} (h : rightB l = true) : Can l ∧ l.length ≤ 5000 := by
  simp only [rightB, Bool.and_eq_true, List.all_eq_true, List.mem_range, decide_eq_true_eq] at h
  obtain ⟨h1, h2⟩ := h
  refine ⟨⟨fun x hx => ?_, ?_⟩, h2⟩
  · obtain ⟨i, hi, rfl⟩ := List.getElem_of_mem hx
    have := h1 i hi
    simp [okAt, hi] at this
    omega
  · have step : ∀ i (h : i + 1 < l.length), (l[i]'(by omega)).2 + 1 < (l[i + 1]).1 := by
      intro i hi
      have := h1 (i + 1) hi
      simp [okAt, hi, show i < l.length by omega] at this
      omega
    have rg : ∀ i (h : i < l.length), (l[i]).1 ≤ (l[i]).2 := by
      intro i hi
      have := h1 i hi
      simp [okAt, hi] at this
      omega
    rw [List.pairwise_iff_getElem]
    intro i j hi hj hij
    induction j with
    | zero => omega
    | succ j ih =>
      rcases Nat.lt_or_ge i j with h' | h'
      · have := ih (by omega) h'
        have := step j hj
        have := rg j (by omega)
        omega
      · obtain rfl : i = j := by omega
        exact step i hj

theorem Can.right {l : List Sp} (h : Can l) (hl : l.length ≤ 5000) : rightB l = true := by
  simp only [rightB, Bool.and_eq_true, List.all_eq_true, List.mem_range, decide_eq_true_eq]
  refine ⟨fun i hi => ?_, hl⟩
  have h1 := h.rng l[i] (List.getElem_mem hi)
  simp only [okAt, List.getD_eq_getElem?_getD, List.getElem?_eq_getElem hi, Option.getD_some, Bool.and_eq_true, decide_eq_true_eq, Bool.or_eq_true]
  refine ⟨⟨⟨h1.1, h1.2.2⟩, h1.2.1⟩, ?_⟩
  by_cases h0 : i = 0
  · exact .inl h0
  · right
    have := List.pairwise_iff_getElem.1 h.pw (i - 1) i (by omega) hi (by omega)
    rw [List.getElem?_eq_getElem (by omega)]
    simpa using this
end Go.Proofs.Ytgfimeagodcdjaa
