/- The glyphs of a class, and of spans and a set. -/
import Derived.Test.YtgfimeagodcdjaaQ3
set_option linter.unusedSimpArgs false
set_option linter.unusedVariables false
set_option linter.unusedSectionVars false
namespace Go.Proofs.Ytgfimeagodcdjaa
open Go Go.AM

def sel (cls : Int) (x : Cl) : Prop := cls = 0 ∨ x.2.2 = cls
def MemC (cls : Int) (l : List Cl) (g : Int) : Prop := ∃ x ∈ l, sel cls x ∧ x.1 ≤ g ∧ g ≤ x.2.1

theorem MemC.snoc {cls : Int} {l : List Cl} {x : Cl} {g : Int} : MemC cls (l ++ [x]) g ↔ MemC cls l g ∨ (sel cls x ∧ x.1 ≤ g ∧ g ≤ x.2.1) := by
  simp only [MemC, List.mem_append, List.mem_singleton]
  constructor
  · rintro ⟨y, h | rfl, k⟩
    · exact .inl ⟨y, h, k⟩
    · exact .inr k
  · rintro (⟨y, h, k⟩ | k)
    · exact ⟨y, .inl h, k⟩
    · exact ⟨x, .inr rfl, k⟩

theorem take_snoc {α : Type} {l : List α} {k : Nat} (h : k < l.length) : l.take (k + 1) = l.take k ++ [l[k]] := by
  rw [List.take_succ_eq_append_getElem h]

theorem With_eq {fuel : Nat} {c : List Cl} {cls : Int} (hc : CC c) (hl : c.length ≤ 100000) (hf : c.length < fuel) :
    ∃ s, cover_With_26 fuel (c, cls, ()) = some ((s, cls == 0), ()) ∧ Can s ∧ (∀ g, Mem s g ↔ MemC cls c g) ∧ s.length ≤ c.length := by
  obtain ⟨r, ⟨s, h1, h2, h3, h4⟩, hr⟩ := iter_meas (step := cover_With_26_L1 fuel)
    (Inv := fun d => ∃ (k : Nat) (out : List Sp), d = (cls, c, (c.length : Int), (k : Int), false, cls == 0, out, ()) ∧ k ≤ c.length ∧ Can out ∧ (∀ z ∈ out, ∀ h : k < c.length, z.2 < c[k].1) ∧ (∀ g, Mem out g ↔ MemC cls (c.take k) g) ∧ out.length ≤ k)
    (μ := fun d => c.length - d.2.2.2.1.toNat) (Q := fun r => ∃ s, r = .inl (false, cls == 0, s, ()) ∧ Can s ∧ (∀ g, Mem s g ↔ MemC cls c g) ∧ s.length ≤ c.length)
    (fun d ⟨k, out, hd, a1, a2, a3, a4, a5⟩ => by
      subst hd
      by_cases c1 : k < c.length
      · have g2 : decide ((k : Int) < (c.length : Int)) = true := by simp <;> omega
        have g3 : decide ((0 : Int) ≤ (k : Int) ∧ (k : Int) < (c.length : Int)) = true := by simp <;> omega
        have g4 : IntKind.i64.wrap ((k : Int) + 1) = ((k + 1 : Nat) : Int) := by rw [w64] <;> omega
        have g5 : c.getD k (0, 0, 0) = c[k] := by simp [c1]
        have hx := hc.rng c[k] (List.getElem_mem c1)
        have next : ∀ h : k + 1 < c.length, c[k].2.1 < c[k + 1].1 := fun h => List.pairwise_iff_getElem.1 hc.pw k (k + 1) c1 h (by omega)
        have hj := joinS_spec (x := (c[k].1, c[k].2.1)) a2 hx (fun y hy => a3 y hy c1)
        have hj1 := joined_eq fuel (x := (c[k].1, c[k].2.1)) a2
        have sk : ∀ rec, cover_With_26_L1 fuel rec (cls, c, (c.length : Int), (k : Int), false, cls == 0, out, ()) =
            rec (cls, c, (c.length : Int), ((k + 1 : Nat) : Int), false, cls == 0, (if cls = 0 ∨ c[k].2.2 = cls then joinS out (c[k].1, c[k].2.1) else out), ()) := by
          intro rec
          simp only [cover_With_26_L1, U7, U1, g2, g3, Int.toNat_natCast, g5, cond_true, hj1, bindO]
          by_cases e0 : cls = 0
          · simp [e0, afterJoin, g4, U7]
          · have e0' : (cls == 0) = false := by simpa using e0
            by_cases e1 : c[k].2.2 = cls
            · simp [e0, e1, afterJoin, g4, e0', U7]
            · have e1' : (c[k].2.2 == cls) = false := by simpa using e1
              simp [e0, e1, afterJoin, g4, e0', e1', U7]
        refine .inr ⟨_, ⟨k + 1, _, rfl, by omega, ?_⟩, by simp; omega, sk⟩
        by_cases hs : cls = 0 ∨ c[k].2.2 = cls
        · rw [if_pos hs]
          refine ⟨hj.1, fun z hz h => by have := hj.2.2 z hz; have := next h; simp at *; omega, fun g => ?_, by have := joinS_length out (c[k].1, c[k].2.1); omega⟩
          rw [hj.2.1, take_snoc c1, MemC.snoc, a4]
          exact ⟨fun h => h.imp_right fun h => ⟨hs, h⟩, fun h => h.imp_right fun h => h.2⟩
        · rw [if_neg hs]
          refine ⟨a2, fun z hz h => by have := a3 z hz c1; have := next h; omega, fun g => ?_, by omega⟩
          rw [take_snoc c1, MemC.snoc, a4]
          exact ⟨.inl, fun h => h.elim id fun h => absurd h.1 hs⟩
      · obtain rfl : k = c.length := by omega
        have g2 : decide ((c.length : Int) < (c.length : Int)) = false := by simp
        refine .inl ⟨_, ⟨out, rfl, a2, fun g => by rw [a4, List.take_length], a5⟩, fun rec => ?_⟩
        simp only [cover_With_26_L1, U7, g2, cond_false]) fuel (cls, c, (c.length : Int), (0 : Int), false, cls == 0, [], ())
    ⟨0, [], rfl, Nat.zero_le _, Can.nil, fun z hz => (by cases hz), fun g => ⟨fun h => absurd h Mem.nil, fun ⟨x, h, _⟩ => (by cases h)⟩, Nat.le_refl _⟩ (by simp; omega)
  exact ⟨s, by simp only [cover_With_26, U2]; rw [hr, h1]; rfl, h2, h3, h4⟩

/-! Both -/

theorem Mem.take_snoc {l : List Sp} {k : Nat} (h : k < l.length) {g : Int} : Mem (l.take (k + 1)) g ↔ Mem (l.take k) g ∨ (l[k].1 ≤ g ∧ g ≤ l[k].2) := by
  rw [Go.Proofs.Ytgfimeagodcdjaa.take_snoc h, Mem.append, Mem.one]

/-- Rounds over a set's spans, for one span x. A: the glyphs that lie ahead of x. -/
theorem BothIn {fuel : Nat} {l s : List Sp} {not : Bool} {x : Sp} {i : Int} {out0 : List Sp} (hs : Can s) (hx : 0 ≤ x.1 ∧ x.1 ≤ x.2 ∧ x.2 ≤ 65535) (h0 : Can out0) (hl0 : ∀ z ∈ out0, z.2 < x.1) (hf : s.length < fuel) :
    ∃ (at_ : Int) (out : List Sp), iter (cover_Both_27_L1 fuel) fuel (x.1, l, (l.length : Int), i, s, (s.length : Int), (0 : Int), (s, not), (x.1, x.2), out0, ()) = some (.inl (at_, l, (l.length : Int), i, (s, not), (x.1, x.2), out, ())) ∧
      x.1 ≤ at_ ∧ at_ ≤ 65536 ∧ Can out ∧ (∀ z ∈ out, z.2 < at_ ∧ z.2 ≤ x.2) ∧ (∀ g, at_ ≤ g → g ≤ x.2 → ¬ Mem s g) ∧
      (∀ g, Mem out g ↔ Mem out0 g ∨ (x.1 ≤ g ∧ g < at_ ∧ g ≤ x.2 ∧ (Mem s g ↔ not = false))) := by
  have hslen := hs.length
  obtain ⟨r, ⟨at_, out, h1, h2, h3, h4, h5, h6, h7⟩, hr⟩ := iter_meas (step := cover_Both_27_L1 fuel)
    (Inv := fun d => ∃ (k : Nat) (at_ : Int) (out : List Sp), d = (at_, l, (l.length : Int), i, s, (s.length : Int), (k : Int), (s, not), (x.1, x.2), out, ()) ∧ k ≤ s.length ∧ x.1 ≤ at_ ∧ at_ ≤ 65536 ∧ Can out ∧ (∀ z ∈ out, z.2 < at_ ∧ z.2 ≤ x.2) ∧
      (∀ g, at_ ≤ g → g ≤ x.2 → ¬ Mem (s.take k) g) ∧ (at_ = x.1 ∨ ∀ (j : Nat) (h : j < s.length), k ≤ j → at_ < s[j].1) ∧ (∀ g, Mem out g ↔ Mem out0 g ∨ (x.1 ≤ g ∧ g < at_ ∧ g ≤ x.2 ∧ (Mem s g ↔ not = false))))
    (μ := fun d => s.length - d.2.2.2.2.2.2.1.toNat)
    (Q := fun r => ∃ (at_ : Int) (out : List Sp), r = .inl (at_, l, (l.length : Int), i, (s, not), (x.1, x.2), out, ()) ∧
      x.1 ≤ at_ ∧ at_ ≤ 65536 ∧ Can out ∧ (∀ z ∈ out, z.2 < at_ ∧ z.2 ≤ x.2) ∧ (∀ g, at_ ≤ g → g ≤ x.2 → ¬ Mem s g) ∧
      (∀ g, Mem out g ↔ Mem out0 g ∨ (x.1 ≤ g ∧ g < at_ ∧ g ≤ x.2 ∧ (Mem s g ↔ not = false))))
    (fun d ⟨k, at_, out, hd, a1, a2, a3, a4, a5, a6, a7, a8⟩ => by
      subst hd
      by_cases c1 : k < s.length
      · have g2 : decide ((k : Int) < (s.length : Int)) = true := by simp <;> omega
        have g3 : decide ((0 : Int) ≤ (k : Int) ∧ (k : Int) < (s.length : Int)) = true := by simp <;> omega
        have g4 : IntKind.i64.wrap ((k : Int) + 1) = ((k + 1 : Nat) : Int) := by rw [w64] <;> omega
        have g5 : s.getD k (0, 0) = s[k] := by simp [c1]
        have hy := hs.rng s[k] (List.getElem_mem c1)
        have pw : ∀ (a b : Nat) (ha : a < s.length) (hb : b < s.length), a < b → s[a].2 + 1 < s[b].1 := fun a b ha hb hab => List.pairwise_iff_getElem.1 hs.pw a b ha hb hab
        -- where a span's glyphs lie
        have inS : ∀ g, Mem s g ↔ Mem (s.take k) g ∨ (s[k].1 ≤ g ∧ g ≤ s[k].2) ∨ ∃ (j : Nat) (h : j < s.length), k < j ∧ s[j].1 ≤ g ∧ g ≤ s[j].2 := by
          intro g
          constructor
          · rintro ⟨z, hz, h⟩
            obtain ⟨j, hj, rfl⟩ := List.getElem_of_mem hz
            rcases Nat.lt_trichotomy j k with hjk | rfl | hjk
            · exact .inl ⟨_, List.mem_take_iff_getElem.2 ⟨j, by omega, rfl⟩, h⟩
            · exact .inr (.inl h)
            · exact .inr (.inr ⟨j, hj, hjk, h⟩)
          · rintro (⟨z, hz, h⟩ | h | ⟨j, hj, _, h⟩)
            · exact ⟨z, List.mem_of_mem_take hz, h⟩
            · exact ⟨_, List.getElem_mem c1, h⟩
            · exact ⟨_, List.getElem_mem hj, h⟩
        by_cases c2 : s[k].2 < x.1
        · refine .inr ⟨(at_, l, (l.length : Int), i, s, (s.length : Int), ((k + 1 : Nat) : Int), (s, not), (x.1, x.2), out, ()), ⟨k + 1, at_, out, rfl, by omega, a2, a3, a4, a5, fun g h1 h2 hm => ?_, ?_, a8⟩, by simp; omega, fun rec => ?_⟩
          · rcases (Mem.take_snoc c1).1 hm with h | h
            · exact a6 g h1 h2 h
            · omega
          · exact a7.imp_right fun h j hj hk => h j hj (by omega)
          · simp only [cover_Both_27_L1, U10, g2, g3, Int.toNat_natCast, g5, cond_true, c2, decide_true, tbf, fbf, tbt, fbt, Bool.not_true, cond_false, afterJoin, g4]
        by_cases c3 : s[k].1 > x.2
        · refine .inr ⟨(at_, l, (l.length : Int), i, s, (s.length : Int), ((k + 1 : Nat) : Int), (s, not), (x.1, x.2), out, ()), ⟨k + 1, at_, out, rfl, by omega, a2, a3, a4, a5, fun g h1 h2 hm => ?_, ?_, a8⟩, by simp; omega, fun rec => ?_⟩
          · rcases (Mem.take_snoc c1).1 hm with h | h
            · exact a6 g h1 h2 h
            · omega
          · exact a7.imp_right fun h j hj hk => h j hj (by omega)
          · simp only [cover_Both_27_L1, U10, g2, g3, Int.toNat_natCast, g5, cond_true, c2, c3, decide_true, decide_false, tbf, fbf, tbt, fbt, Bool.not_false, cond_false, afterJoin, g4]
        · have g6 : IntKind.i64.wrap (s[k].1 - 1) = s[k].1 - 1 := by rw [w64] <;> omega
          have g7 : IntKind.i64.wrap (s[k].2 + 1) = s[k].2 + 1 := by rw [w64] <;> omega
          have hat : at_ = x.1 ∨ at_ < s[k].1 := a7.imp_right fun h => h k c1 (Nat.le_refl _)
          have later : ∀ (j : Nat) (h : j < s.length), k + 1 ≤ j → s[k].2 + 1 < s[j].1 := fun j hj hk => pw k j c1 hj (by omega)
          -- the glyphs from 'at_' on up to this span's end
          have mid : ∀ g, at_ ≤ g → g ≤ x.2 → g < s[k].2 + 1 → (Mem s g ↔ s[k].1 ≤ g) := by
            intro g h1 h2 h3
            rw [inS]
            constructor
            · rintro (h | h | ⟨j, hj, hk, h⟩)
              · exact absurd h (a6 g h1 h2)
              · exact h.1
              · have := later j hj hk; omega
            · intro h; exact .inr (.inl ⟨h, by omega⟩)
          let a' : Int := if not = true then at_ else if at_ < s[k].1 then s[k].1 else at_
          let b' : Int := if not = true then s[k].1 - 1 else if s[k].2 < x.2 then s[k].2 else x.2
          have hj1 := put_eq fuel (a := a') (b := b') a4
          have hb' : b' < s[k].2 + 1 ∧ b' ≤ x.2 ∧ b' ≤ 65535 := by simp only [b']; split <;> (try split) <;> omega
          have ha' : at_ ≤ a' := by simp only [a']; split <;> (try split) <;> omega
          have hcond : ∀ g, at_ ≤ g → g ≤ x.2 → g < s[k].2 + 1 → ((a' ≤ g ∧ g ≤ b') ↔ (Mem s g ↔ not = false)) := by
            intro g h1 h2 h3
            rw [mid g h1 h2 h3]
            simp only [a', b']
            cases not
            · simp; split <;> split <;> omega
            · simp; omega
          refine .inr ⟨(s[k].2 + 1, l, (l.length : Int), i, s, (s.length : Int), ((k + 1 : Nat) : Int), (s, not), (x.1, x.2), (if a' ≤ b' then joinS out (a', b') else out), ()), ⟨k + 1, s[k].2 + 1, _, rfl, by omega, by omega, by omega, ?_⟩, by simp; omega, fun rec => ?_⟩
          · have tail : (∀ g, s[k].2 + 1 ≤ g → g ≤ x.2 → ¬ Mem (s.take (k + 1)) g) ∧ (s[k].2 + 1 = x.1 ∨ ∀ (j : Nat) (h : j < s.length), k + 1 ≤ j → s[k].2 + 1 < s[j].1) := by
              refine ⟨fun g h1 h2 hm => ?_, .inr later⟩
              rcases (Mem.take_snoc c1).1 hm with h | h
              · exact a6 g (by omega) h2 h
              · omega
            have told : ∀ g, (Mem out g ∨ (a' ≤ g ∧ g ≤ b')) ↔ Mem out0 g ∨ (x.1 ≤ g ∧ g < s[k].2 + 1 ∧ g ≤ x.2 ∧ (Mem s g ↔ not = false)) := by
              intro g
              rw [a8]
              constructor
              · rintro ((h | ⟨b1, b2, b3, b4⟩) | h)
                · exact .inl h
                · exact .inr ⟨b1, by omega, b3, b4⟩
                · exact .inr ⟨by omega, by omega, by omega, (hcond g (by omega) (by omega) (by omega)).1 h⟩
              · rintro (h | ⟨b1, b2, b3, b4⟩)
                · exact .inl (.inl h)
                · by_cases hg : g < at_
                  · exact .inl (.inr ⟨b1, hg, b3, b4⟩)
                  · exact .inr ((hcond g (by omega) b3 b2).2 b4)
            by_cases hab : a' ≤ b'
            · rw [if_pos hab]
              obtain ⟨j1, j2, j3⟩ := joinS_spec (x := (a', b')) a4 ⟨by show 0 ≤ a'; omega, hab, by show b' ≤ 65535; omega⟩ (fun z hz => by have := (a5 z hz).1; show z.2 < a'; omega)
              exact ⟨j1, fun z hz => by have := j3 z hz; simp only at this; omega, tail.1, tail.2, fun g => by rw [j2]; exact told g⟩
            · rw [if_neg hab]
              refine ⟨a4, fun z hz => by have := a5 z hz; omega, tail.1, tail.2, fun g => ?_⟩
              rw [← told g]
              exact ⟨.inl, fun h => h.elim id fun h => absurd (Int.le_trans h.1 h.2) hab⟩
          · have hj1' := hj1
            simp only [a', b'] at hj1' ⊢
            cases not with
            | true =>
              simp only [if_true] at hj1' ⊢
              simp only [cover_Both_27_L1, U10, U1, g2, g3, Int.toNat_natCast, g5, cond_true, c2, c3, decide_true, decide_false, tbf, fbf, tbt, fbt, Bool.not_false, cond_false, afterJoin, g4, g6, hj1', bindO, g7]
            | false =>
              simp only [Bool.false_eq_true, if_false] at hj1' ⊢
              have e1 : (bif decide (s[k].1 > at_) then s[k].1 else at_) = if at_ < s[k].1 then s[k].1 else at_ := by by_cases h : at_ < s[k].1 <;> simp [h]
              have e2 : (bif decide (s[k].2 < x.2) then s[k].2 else x.2) = if s[k].2 < x.2 then s[k].2 else x.2 := by by_cases h : s[k].2 < x.2 <;> simp [h]
              simp only [cover_Both_27_L1, U10, U1, g2, g3, Int.toNat_natCast, g5, cond_true, c2, c3, decide_true, decide_false, tbf, fbf, tbt, fbt, Bool.not_false, cond_false, afterJoin, g4, e1, e2, hj1', bindO, g7]
      · obtain rfl : k = s.length := by omega
        have g2 : decide ((s.length : Int) < (s.length : Int)) = false := by simp
        refine .inl ⟨_, ⟨at_, out, rfl, a2, a3, a4, a5, fun g h1 h2 => by have := a6 g h1 h2; rwa [List.take_length] at this, a8⟩, fun rec => ?_⟩
        simp only [cover_Both_27_L1, U10, g2, cond_false]) fuel (x.1, l, (l.length : Int), i, s, (s.length : Int), (0 : Int), (s, not), (x.1, x.2), out0, ())
    ⟨0, x.1, out0, rfl, Nat.zero_le _, Int.le_refl _, by omega, h0, fun z hz => ⟨hl0 z hz, by have := hl0 z hz; omega⟩, fun g _ _ => by simp [Mem], .inl rfl, fun g => ⟨.inl, fun h => h.elim id fun h => by omega⟩⟩ (by simp; omega)
  exact ⟨at_, out, by rw [hr, h1], h2, h3, h4, h5, h6, h7⟩
end Go.Proofs.Ytgfimeagodcdjaa
