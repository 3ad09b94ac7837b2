/- The statement CoverSets, in plain words: whatever the spans, the classes, the class: it is true. -/
import Derived.Test.YtgfimeagodcdjaaQ4
set_option linter.unusedSimpArgs false
set_option linter.unusedVariables false
set_option linter.unusedSectionVars false
namespace Go.Proofs.Ytgfimeagodcdjaa
open Go Go.AM

theorem Both_eq {fuel : Nat} {l s : List Sp} {not : Bool} (hl : Can l) (hs : Can s) (hf : 65537 < fuel) :
    ∃ b, cover_Both_27 fuel (l, (s, not), ()) = some (b, ()) ∧ Can b ∧ ∀ g, Mem b g ↔ Mem l g ∧ (Mem s g ↔ not = false) := by
  have hllen := hl.length
  have hslen := hs.length
  obtain ⟨r, ⟨b, h1, h2, h3⟩, hr⟩ := iter_meas (step := cover_Both_27_L2 fuel)
    (Inv := fun d => ∃ (k : Nat) (out : List Sp), d = (l, (l.length : Int), (k : Int), (s, not), out, ()) ∧ k ≤ l.length ∧ Can out ∧ (∀ z ∈ out, ∀ h : k < l.length, z.2 < l[k].1) ∧ ∀ g, Mem out g ↔ Mem (l.take k) g ∧ (Mem s g ↔ not = false))
    (μ := fun d => l.length - d.2.2.1.toNat) (Q := fun r => ∃ b, r = .inl (b, ()) ∧ Can b ∧ ∀ g, Mem b g ↔ Mem l g ∧ (Mem s g ↔ not = false))
    (fun d ⟨k, out, hd, a1, a2, a3, a4⟩ => by
      subst hd
      by_cases c1 : k < l.length
      · have g2 : decide ((k : Int) < (l.length : Int)) = true := by simp <;> omega
        have g3 : decide ((0 : Int) ≤ (k : Int) ∧ (k : Int) < (l.length : Int)) = true := by simp <;> omega
        have g4 : IntKind.i64.wrap ((k : Int) + 1) = ((k + 1 : Nat) : Int) := by rw [w64] <;> omega
        have g5 : l.getD k (0, 0) = l[k] := by simp [c1]
        have hx := hl.rng l[k] (List.getElem_mem c1)
        obtain ⟨at_, out1, e1, e2, e3, e4, e5, e6, e7⟩ := BothIn (fuel := fuel) (l := l) (not := not) (i := (k : Int)) hs hx a2 (fun z hz => a3 z hz c1) (by omega)
        have hj1 := put_eq fuel (a := at_) (b := l[k].2) e4
        have next : ∀ h : k + 1 < l.length, l[k].2 + 1 < l[k + 1].1 := fun h => List.pairwise_iff_getElem.1 hl.pw k (k + 1) c1 h (by omega)
        refine .inr ⟨(l, (l.length : Int), ((k + 1 : Nat) : Int), (s, not), (if not = true then (if at_ ≤ l[k].2 then joinS out1 (at_, l[k].2) else out1) else out1), ()), ⟨k + 1, _, rfl, by omega, ?_⟩, by simp; omega, fun rec => ?_⟩
        · have told : ∀ g, Mem (l.take (k + 1)) g ∧ (Mem s g ↔ not = false) ↔ Mem out g ∨ (l[k].1 ≤ g ∧ g ≤ l[k].2 ∧ (Mem s g ↔ not = false)) := by
            intro g
            rw [Mem.take_snoc c1, a4]
            constructor
            · rintro ⟨h | h, h'⟩
              · exact .inl ⟨h, h'⟩
              · exact .inr ⟨h.1, h.2, h'⟩
            · rintro (⟨h, h'⟩ | ⟨h, h', h''⟩)
              · exact ⟨.inl h, h'⟩
              · exact ⟨.inr ⟨h, h'⟩, h''⟩
          rcases Bool.eq_false_or_eq_true not with hn | hn
          rotate_left
          · rw [if_neg (by rw [hn]; decide)]
            refine ⟨e4, fun z hz h => by have := (e5 z hz).2; have := next h; omega, fun g => ?_⟩
            rw [told, e7]
            constructor
            · rintro (h | ⟨b1, b2, b3, b4⟩)
              · exact .inl h
              · exact .inr ⟨b1, b3, b4⟩
            · rintro (h | ⟨b1, b2, b3⟩)
              · exact .inl h
              · refine .inr ⟨b1, ?_, b2, b3⟩
                by_cases hg : g < at_
                · exact hg
                · exact absurd (b3.2 hn) (e6 g (by omega) b2)
          · rw [if_pos hn]
            have told2 : ∀ g, (Mem out1 g ∨ (at_ ≤ g ∧ g ≤ l[k].2)) ↔ Mem out g ∨ (l[k].1 ≤ g ∧ g ≤ l[k].2 ∧ (Mem s g ↔ not = false)) := by
              intro g
              rw [e7]
              constructor
              · rintro ((h | ⟨b1, b2, b3, b4⟩) | h)
                · exact .inl h
                · exact .inr ⟨b1, b3, b4⟩
                · exact .inr ⟨by omega, h.2, by rw [hn]; simp [e6 g h.1 h.2]⟩
              · rintro (h | ⟨b1, b2, b3⟩)
                · exact .inl (.inl h)
                · by_cases hg : g < at_
                  · exact .inl (.inr ⟨b1, hg, b2, b3⟩)
                  · exact .inr ⟨by omega, b2⟩
            by_cases hab : at_ ≤ l[k].2
            · rw [if_pos hab]
              obtain ⟨j1, j2, j3⟩ := joinS_spec (x := (at_, l[k].2)) e4 ⟨by show 0 ≤ at_; omega, hab, hx.2.2⟩ (fun z hz => (e5 z hz).1)
              refine ⟨j1, fun z hz h => by have := j3 z hz; have := next h; simp only at *; omega, fun g => ?_⟩
              rw [j2, told, ← told2]
            · rw [if_neg hab]
              refine ⟨e4, fun z hz h => by have := (e5 z hz).2; have := next h; omega, fun g => ?_⟩
              rw [told, ← told2]
              exact ⟨.inl, fun h => h.elim id fun h => absurd (Int.le_trans h.1 h.2) hab⟩
        · cases not with
          | false => simp only [cover_Both_27_L2, U5, U7, g2, g3, Int.toNat_natCast, g5, cond_true, e1, afterJoin, cond_false, g4, Bool.false_eq_true, if_false]
          | true => simp only [cover_Both_27_L2, U5, U7, U1, g2, g3, Int.toNat_natCast, g5, cond_true, e1, afterJoin, g4, hj1, bindO, if_true]
      · obtain rfl : k = l.length := by omega
        have g2 : decide ((l.length : Int) < (l.length : Int)) = false := by simp
        refine .inl ⟨_, ⟨out, rfl, a2, fun g => by rw [a4, List.take_length]⟩, fun rec => ?_⟩
        simp only [cover_Both_27_L2, U5, g2, cond_false]) fuel (l, (l.length : Int), (0 : Int), (s, not), [], ())
    ⟨0, [], rfl, Nat.zero_le _, Can.nil, fun z hz => (by cases hz), fun g => ⟨fun h => absurd h Mem.nil, fun h => by simp [Mem] at h⟩⟩ (by simp; omega)
  exact ⟨b, by simp only [cover_Both_27, U2]; rw [hr, h1]; rfl, h2, h3⟩

/-! The statement's tables -/

theorem getD_set_in {t : List Bool} {j g : Nat} {v : Bool} (hg : g < t.length) : (t.set g v).getD j false = if j = g then v else t.getD j false := by
  simp only [List.getD_eq_getElem?_getD, List.getElem?_set]
  by_cases h : j = g
  · subst h; simp [hg]
  · simp [h, Ne.symm h]

theorem rep_getD (n j : Nat) : (List.replicate n false).getD j false = false := by
  simp only [List.getD_eq_getElem?_getD, List.getElem?_replicate]
  split <;> rfl

theorem glue {p : Prop} {q n : Bool} {g : Int} (h0 : 0 ≤ g) (hm : p ↔ (0 ≤ g ∧ q = true)) : (p ↔ n = false) ↔ (!(q == n)) = true := by
  cases q <;> cases n <;> simp_all

theorem length_le_of_subset {α : Type} [DecidableEq α] : ∀ {xs ys : List α}, xs.Nodup → (∀ x ∈ xs, x ∈ ys) → xs.length ≤ ys.length
  | [], _, _, _ => Nat.zero_le _
  | x :: xs, ys, hn, hs => by
    have hx := hs x (by simp)
    have hn' := List.nodup_cons.1 hn
    have := length_le_of_subset (xs := xs) (ys := ys.erase x) hn'.2 (fun y hy => (List.mem_erase_of_ne (fun e => hn'.1 (by rw [← e]; exact hy))).2 (hs y (by simp [hy])))
    rw [List.length_erase_of_mem hx] at this
    have := List.length_pos_of_mem hx
    simp only [List.length_cons]
    omega

/-- Where a span's glyphs begin. -/
theorem Mem.start {s : List Sp} {g : Int} (h1 : Mem s g) (h2 : ¬ Mem s (g - 1)) : g ∈ s.map (·.1) := by
  obtain ⟨x, hx, h3, h4⟩ := h1
  refine List.mem_map.2 ⟨x, hx, ?_⟩
  have : ¬ x.1 ≤ g - 1 := fun h => h2 ⟨x, hx, h, by omega⟩
  omega
theorem Mem.stop {s : List Sp} {g : Int} (h1 : Mem s (g - 1)) (h2 : ¬ Mem s g) : g ∈ s.map (·.2 + 1) := by
  obtain ⟨x, hx, h3, h4⟩ := h1
  refine List.mem_map.2 ⟨x, hx, ?_⟩
  have : ¬ g ≤ x.2 := fun h => h2 ⟨x, hx, by omega, h⟩
  omega

theorem Both_length {l s b : List Sp} {not : Bool} (hb : Can b) (h : ∀ g, Mem b g ↔ Mem l g ∧ (Mem s g ↔ not = false)) : b.length ≤ l.length + s.length := by
  have key : ∀ g ∈ b.map (·.1), g ∈ l.map (·.1) ++ (if not = true then s.map (·.2 + 1) else s.map (·.1)) := by
    intro g hg
    obtain ⟨z, hz, rfl⟩ := List.mem_map.1 hg
    have h1 : Mem b z.1 := ⟨z, hz, Int.le_refl _, (hb.rng z hz).2.1⟩
    have h2 : ¬ Mem b (z.1 - 1) := by
      rintro ⟨y, hy, h3, h4⟩
      obtain ⟨i, hi, rfl⟩ := List.getElem_of_mem hy
      obtain ⟨j, hj, rfl⟩ := List.getElem_of_mem hz
      have ri := hb.rng _ hy
      have rj := hb.rng _ hz
      rcases Nat.lt_trichotomy i j with hij | rfl | hij
      · have := List.pairwise_iff_getElem.1 hb.pw i j hi hj hij; omega
      · omega
      · have := List.pairwise_iff_getElem.1 hb.pw j i hj hi hij; omega
    rw [h] at h1 h2
    rw [List.mem_append]
    by_cases h3 : Mem l (z.1 - 1)
    · right
      have h4 : ¬ (Mem s (z.1 - 1) ↔ not = false) := fun h4 => h2 ⟨h3, h4⟩
      cases not with
      | true =>
        simp only [if_true]
        have h5 := h1.2
        simp only [Bool.true_eq_false, iff_false] at h4 h5
        exact Mem.stop (Classical.not_not.1 h4) h5
      | false =>
        simp only [Bool.false_eq_true, if_false]
        have h5 := h1.2
        simp only [iff_true] at h4 h5
        exact Mem.start h5 h4
    · exact .inl (Mem.start h1.1 h3)
  have hn : (b.map (·.1)).Nodup := by
    rw [List.nodup_iff_pairwise_ne, List.pairwise_map]
    exact hb.pw.imp_of_mem fun {x y} hx hy hxy => by have := hb.rng x hx; omega
  have := length_le_of_subset hn key
  simp only [List.length_map, List.length_append] at this
  split at this <;> simpa using this

theorem InTab {fuel : Nat} {l b : List Sp} {c : List Cl} {cls : Int} {k : Nat} {sn : List Sp × Bool} {tin tb : List Bool} (hc : CC c) (hk : k < c.length) (hlen : c.length ≤ 100000) (ht : tin.length = 65536) (hf : 65537 < fuel) :
    ∃ tin', iter reedpenlaw10_CoverSets_3_L1 fuel (l, c, cls, b, (k : Int), c[k].1, sn, tin, tb, ()) = some (.inl (l, c, cls, b, (k : Int), sn, tin', tb, ())) ∧ tin'.length = 65536 ∧
      ∀ j : Nat, tin'.getD j false = if c[k].1 ≤ (j : Int) ∧ (j : Int) ≤ c[k].2.1 then (cls == 0 || c[k].2.2 == cls) else tin.getD j false := by
  have hx := hc.rng c[k] (List.getElem_mem hk)
  obtain ⟨r, ⟨tin', h1, h2, h3⟩, hr⟩ := iter_meas (step := reedpenlaw10_CoverSets_3_L1)
    (Inv := fun d => ∃ (g : Int) (t : List Bool), d = (l, c, cls, b, (k : Int), g, sn, t, tb, ()) ∧ c[k].1 ≤ g ∧ g ≤ c[k].2.1 + 1 ∧ t.length = 65536 ∧ ∀ j : Nat, t.getD j false = if c[k].1 ≤ (j : Int) ∧ (j : Int) < g then (cls == 0 || c[k].2.2 == cls) else tin.getD j false)
    (μ := fun d => (c[k].2.1 + 1 - d.2.2.2.2.2.1).toNat) (Q := fun r => ∃ tin', r = .inl (l, c, cls, b, (k : Int), sn, tin', tb, ()) ∧ tin'.length = 65536 ∧ ∀ j : Nat, tin'.getD j false = if c[k].1 ≤ (j : Int) ∧ (j : Int) ≤ c[k].2.1 then (cls == 0 || c[k].2.2 == cls) else tin.getD j false)
    (fun d ⟨g, t, hd, a1, a2, a3, a4⟩ => by
      subst hd
      have g3 : decide ((0 : Int) ≤ (k : Int) ∧ (k : Int) < (c.length : Int)) = true := by simp <;> omega
      have g5 : c.getD k (0, 0, 0) = c[k] := by simp [hk]
      by_cases c1 : g ≤ c[k].2.1
      · have g4 : IntKind.i64.wrap (g + 1) = g + 1 := by rw [w64] <;> omega
        have g6 : decide ((0 : Int) ≤ g ∧ g < (t.length : Int)) = true := by simp <;> omega
        refine .inr ⟨(l, c, cls, b, (k : Int), g + 1, sn, t.set g.toNat (cls == 0 || c[k].2.2 == cls), tb, ()), ⟨g + 1, _, rfl, by omega, by omega, by simp [a3], fun j => ?_⟩, by simp; omega, fun rec => ?_⟩
        · rw [getD_set_in (by omega), a4]
          by_cases hj : j = g.toNat
          · subst hj
            have : ((g.toNat : Nat) : Int) = g := by omega
            rw [if_pos rfl, if_pos (by omega)]
          · rw [if_neg hj]
            by_cases h2 : c[k].1 ≤ (j : Int) ∧ (j : Int) < g
            · rw [if_pos h2, if_pos (by omega)]
            · rw [if_neg h2, if_neg (by omega)]
        · simp only [reedpenlaw10_CoverSets_3_L1, U9, g3, Int.toNat_natCast, g5, cond_true, c1, decide_true, g4, g6]
          by_cases e0 : cls = 0
          · simp [e0]
          · have e0' : (cls == 0) = false := by simpa using e0
            simp [e0']
      · obtain rfl : g = c[k].2.1 + 1 := by omega
        refine .inl ⟨_, ⟨t, rfl, a3, fun j => ?_⟩, fun rec => ?_⟩
        · rw [a4]
          by_cases h2 : c[k].1 ≤ (j : Int) ∧ (j : Int) < c[k].2.1 + 1
          · rw [if_pos h2, if_pos (by omega)]
          · rw [if_neg h2, if_neg (by omega)]
        · simp only [reedpenlaw10_CoverSets_3_L1, U9, g3, Int.toNat_natCast, g5, cond_true, c1, decide_false, cond_false]) fuel (l, c, cls, b, (k : Int), c[k].1, sn, tin, tb, ())
    ⟨c[k].1, tin, rfl, Int.le_refl _, by omega, ht, fun j => by rw [if_neg (by omega)]⟩ (by simp; omega)
  exact ⟨tin', by rw [hr, h1], h2, h3⟩

theorem InTabs {fuel : Nat} {l b : List Sp} {c : List Cl} {cls : Int} {sn : List Sp × Bool} {tb : List Bool} (hc : CC c) (hlen : c.length ≤ 100000) (hf : 165537 < fuel) :
    ∃ tin, iter (reedpenlaw10_CoverSets_3_L2 fuel) fuel (l, c, cls, b, (0 : Int), sn, List.replicate 65536 false, tb, ()) = some (.inl (l, cls, b, sn, tin, tb, ())) ∧ tin.length = 65536 ∧ ∀ j : Nat, tin.getD j false = true ↔ MemC cls c (j : Int) := by
  obtain ⟨r, ⟨tin, h1, h2, h3⟩, hr⟩ := iter_meas (step := reedpenlaw10_CoverSets_3_L2 fuel)
    (Inv := fun d => ∃ (k : Nat) (t : List Bool), d = (l, c, cls, b, (k : Int), sn, t, tb, ()) ∧ k ≤ c.length ∧ t.length = 65536 ∧ ∀ j : Nat, t.getD j false = true ↔ MemC cls (c.take k) (j : Int))
    (μ := fun d => c.length - d.2.2.2.2.1.toNat) (Q := fun r => ∃ tin, r = .inl (l, cls, b, sn, tin, tb, ()) ∧ tin.length = 65536 ∧ ∀ j : Nat, tin.getD j false = true ↔ MemC cls c (j : Int))
    (fun d ⟨k, t, hd, a1, a2, a3⟩ => by
      subst hd
      by_cases c1 : k < c.length
      · have g2 : decide ((k : Int) < (c.length : Int)) = true := by simp <;> omega
        have g3 : decide ((0 : Int) ≤ (k : Int) ∧ (k : Int) < (c.length : Int)) = true := by simp <;> omega
        have g4 : IntKind.i64.wrap ((k : Int) + 1) = ((k + 1 : Nat) : Int) := by rw [w64] <;> omega
        have g5 : c.getD k (0, 0, 0) = c[k] := by simp [c1]
        obtain ⟨t', e1, e2, e3⟩ := InTab (fuel := fuel) (l := l) (b := b) (cls := cls) (sn := sn) (tb := tb) hc c1 hlen a2 (by omega)
        refine .inr ⟨(l, c, cls, b, ((k + 1 : Nat) : Int), sn, t', tb, ()), ⟨k + 1, t', rfl, by omega, e2, fun j => ?_⟩, by simp; omega, fun rec => ?_⟩
        · rw [e3, take_snoc c1, MemC.snoc, ← a3]
          by_cases hj : c[k].1 ≤ (j : Int) ∧ (j : Int) ≤ c[k].2.1
          · rw [if_pos hj]
            have hno : ¬ t.getD j false = true := fun h => by
              obtain ⟨x, hx, _, h1, h2⟩ := (a3 j).1 h
              obtain ⟨i, hi, rfl⟩ := List.mem_take_iff_getElem.1 hx
              have := List.pairwise_iff_getElem.1 hc.pw i k (by omega) c1 (by omega)
              omega
            simp only [Bool.or_eq_true, beq_iff_eq]
            exact ⟨fun h => .inr ⟨h, hj⟩, fun h => h.elim (fun h => absurd h hno) (fun h => h.1)⟩
          · rw [if_neg hj]
            exact ⟨.inl, fun h => h.elim id (fun h => absurd h.2 hj)⟩
        · simp only [reedpenlaw10_CoverSets_3_L2, U8, g2, g3, Int.toNat_natCast, g5, cond_true, e1, afterJoin, g4, Prod.eta]
      · obtain rfl : k = c.length := by omega
        have g2 : decide ((c.length : Int) < (c.length : Int)) = false := by simp
        refine .inl ⟨_, ⟨t, rfl, a2, fun j => by rw [a3, List.take_length]⟩, fun rec => ?_⟩
        simp only [reedpenlaw10_CoverSets_3_L2, U8, g2, cond_false, Prod.eta]) fuel (l, c, cls, b, (0 : Int), sn, List.replicate 65536 false, tb, ())
    ⟨0, _, rfl, Nat.zero_le _, List.length_replicate .., fun j => ⟨fun h => (by rw [rep_getD] at h; cases h), fun ⟨x, h, _⟩ => (by cases h)⟩⟩ (by simp; omega)
  exact ⟨tin, by rw [hr, h1], h2, h3⟩

theorem BoTab {fuel : Nat} {l b : List Sp} {cls : Int} {k : Nat} {sn : List Sp × Bool} {tin tb : List Bool} (hl : Can l) (hk : k < l.length) (hi : tin.length = 65536) (ht : tb.length = 65536) (hf : 65537 < fuel) :
    ∃ tb', iter reedpenlaw10_CoverSets_3_L3 fuel (l, cls, b, (k : Int), l[k].1, sn, tin, tb, ()) = some (.inl (l, cls, b, (k : Int), sn, tin, tb', ())) ∧ tb'.length = 65536 ∧
      ∀ j : Nat, tb'.getD j false = if l[k].1 ≤ (j : Int) ∧ (j : Int) ≤ l[k].2 then !(tin.getD j false == (cls == 0)) else tb.getD j false := by
  have hx := hl.rng l[k] (List.getElem_mem hk)
  have hlen := hl.length
  obtain ⟨r, ⟨tb', h1, h2, h3⟩, hr⟩ := iter_meas (step := reedpenlaw10_CoverSets_3_L3)
    (Inv := fun d => ∃ (g : Int) (t : List Bool), d = (l, cls, b, (k : Int), g, sn, tin, t, ()) ∧ l[k].1 ≤ g ∧ g ≤ l[k].2 + 1 ∧ t.length = 65536 ∧ ∀ j : Nat, t.getD j false = if l[k].1 ≤ (j : Int) ∧ (j : Int) < g then !(tin.getD j false == (cls == 0)) else tb.getD j false)
    (μ := fun d => (l[k].2 + 1 - d.2.2.2.2.1).toNat) (Q := fun r => ∃ tb', r = .inl (l, cls, b, (k : Int), sn, tin, tb', ()) ∧ tb'.length = 65536 ∧ ∀ j : Nat, tb'.getD j false = if l[k].1 ≤ (j : Int) ∧ (j : Int) ≤ l[k].2 then !(tin.getD j false == (cls == 0)) else tb.getD j false)
    (fun d ⟨g, t, hd, a1, a2, a3, a4⟩ => by
      subst hd
      have g3 : decide ((0 : Int) ≤ (k : Int) ∧ (k : Int) < (l.length : Int)) = true := by simp <;> omega
      have g5 : l.getD k (0, 0) = l[k] := by simp [hk]
      by_cases c1 : g ≤ l[k].2
      · have g4 : IntKind.i64.wrap (g + 1) = g + 1 := by rw [w64] <;> omega
        have g6 : decide ((0 : Int) ≤ g ∧ g < (t.length : Int)) = true := by simp <;> omega
        have g7 : decide ((0 : Int) ≤ g ∧ g < (tin.length : Int)) = true := by simp <;> omega
        refine .inr ⟨(l, cls, b, (k : Int), g + 1, sn, tin, t.set g.toNat (!(tin.getD g.toNat false == (cls == 0))), ()), ⟨g + 1, _, rfl, by omega, by omega, by simp [a3], fun j => ?_⟩, by simp; omega, fun rec => ?_⟩
        · rw [getD_set_in (by omega), a4]
          by_cases hj : j = g.toNat
          · subst hj
            have : ((g.toNat : Nat) : Int) = g := by omega
            rw [if_pos rfl, if_pos (by omega)]
          · rw [if_neg hj]
            by_cases h2 : l[k].1 ≤ (j : Int) ∧ (j : Int) < g
            · rw [if_pos h2, if_pos (by omega)]
            · rw [if_neg h2, if_neg (by omega)]
        · simp only [reedpenlaw10_CoverSets_3_L3, U8, g3, Int.toNat_natCast, g5, cond_true, c1, decide_true, g4, g6, g7, Prod.eta]
      · obtain rfl : g = l[k].2 + 1 := by omega
        refine .inl ⟨_, ⟨t, rfl, a3, fun j => ?_⟩, fun rec => ?_⟩
        · rw [a4]
          by_cases h2 : l[k].1 ≤ (j : Int) ∧ (j : Int) < l[k].2 + 1
          · rw [if_pos h2, if_pos (by omega)]
          · rw [if_neg h2, if_neg (by omega)]
        · simp only [reedpenlaw10_CoverSets_3_L3, U8, g3, Int.toNat_natCast, g5, cond_true, c1, decide_false, cond_false, Prod.eta]) fuel (l, cls, b, (k : Int), l[k].1, sn, tin, tb, ())
    ⟨l[k].1, tb, rfl, Int.le_refl _, by omega, ht, fun j => by rw [if_neg (by omega)]⟩ (by simp; omega)
  exact ⟨tb', by rw [hr, h1], h2, h3⟩

theorem BoTabs {fuel : Nat} {l b : List Sp} {cls : Int} {sn : List Sp × Bool} {tin : List Bool} (hl : Can l) (hi : tin.length = 65536) (hf : 165537 < fuel) :
    ∃ tb, iter (reedpenlaw10_CoverSets_3_L4 fuel) fuel (l, cls, b, (0 : Int), sn, tin, List.replicate 65536 false, ()) = some (.inl (b, sn, tin, tb, ())) ∧ tb.length = 65536 ∧ ∀ j : Nat, tb.getD j false = true ↔ Mem l (j : Int) ∧ (!(tin.getD j false == (cls == 0))) = true := by
  have hlen := hl.length
  obtain ⟨r, ⟨tb, h1, h2, h3⟩, hr⟩ := iter_meas (step := reedpenlaw10_CoverSets_3_L4 fuel)
    (Inv := fun d => ∃ (k : Nat) (t : List Bool), d = (l, cls, b, (k : Int), sn, tin, t, ()) ∧ k ≤ l.length ∧ t.length = 65536 ∧ ∀ j : Nat, t.getD j false = true ↔ Mem (l.take k) (j : Int) ∧ (!(tin.getD j false == (cls == 0))) = true)
    (μ := fun d => l.length - d.2.2.2.1.toNat) (Q := fun r => ∃ tb, r = .inl (b, sn, tin, tb, ()) ∧ tb.length = 65536 ∧ ∀ j : Nat, tb.getD j false = true ↔ Mem l (j : Int) ∧ (!(tin.getD j false == (cls == 0))) = true)
    (fun d ⟨k, t, hd, a1, a2, a3⟩ => by
      subst hd
      by_cases c1 : k < l.length
      · have g2 : decide ((k : Int) < (l.length : Int)) = true := by simp <;> omega
        have g3 : decide ((0 : Int) ≤ (k : Int) ∧ (k : Int) < (l.length : Int)) = true := by simp <;> omega
        have g4 : IntKind.i64.wrap ((k : Int) + 1) = ((k + 1 : Nat) : Int) := by rw [w64] <;> omega
        have g5 : l.getD k (0, 0) = l[k] := by simp [c1]
        obtain ⟨t', e1, e2, e3⟩ := BoTab (fuel := fuel) (b := b) (cls := cls) (sn := sn) (tin := tin) hl c1 hi a2 (by omega)
        refine .inr ⟨(l, cls, b, ((k + 1 : Nat) : Int), sn, tin, t', ()), ⟨k + 1, t', rfl, by omega, e2, fun j => ?_⟩, by simp; omega, fun rec => ?_⟩
        · rw [e3, Mem.take_snoc c1]
          by_cases hj : l[k].1 ≤ (j : Int) ∧ (j : Int) ≤ l[k].2
          · rw [if_pos hj]
            exact ⟨fun h => ⟨.inr hj, h⟩, fun h => h.2⟩
          · rw [if_neg hj, a3]
            exact ⟨fun h => ⟨.inl h.1, h.2⟩, fun h => ⟨h.1.elim id (fun h => absurd h hj), h.2⟩⟩
        · simp only [reedpenlaw10_CoverSets_3_L4, U7, g2, g3, Int.toNat_natCast, g5, cond_true, e1, afterJoin, g4, Prod.eta]
      · obtain rfl : k = l.length := by omega
        have g2 : decide ((l.length : Int) < (l.length : Int)) = false := by simp
        refine .inl ⟨_, ⟨t, rfl, a2, fun j => by rw [a3, List.take_length]⟩, fun rec => ?_⟩
        simp only [reedpenlaw10_CoverSets_3_L4, U7, g2, cond_false, Prod.eta]) fuel (l, cls, b, (0 : Int), sn, tin, List.replicate 65536 false, ())
    ⟨0, _, rfl, Nat.zero_le _, List.length_replicate .., fun j => ⟨fun h => (by rw [rep_getD] at h; cases h), fun h => by simp [Mem] at h⟩⟩ (by simp; omega)
  exact ⟨tb, by rw [hr, h1], h2, h3⟩

theorem CoverSets_plain (l : List Sp) (c : List Cl) (cls : Int) (hl : l.length ≤ 140737488351232) (hlr : ∀ x ∈ l, I64 x.1 ∧ I64 x.2) (hcl : c.length ≤ 140737488351232) (hcr : ∀ x ∈ c, I64 x.1 ∧ I64 x.2.1 ∧ I64 x.2.2) :
    ∃ fuel, reedpenlaw10_CoverSets_3 fuel (l, c, cls, ()) = some (true, ()) := by
  refine ⟨l.length + c.length + 1000000 + 40, ?_⟩
  have ha := alive_eq (l.length + c.length + 1000000)
  generalize hF : l.length + c.length + 1000000 + 40 = fuel at *
  have hr1 := Right_eq (fuel := fuel) hl hlr (by omega)
  have hr2 := RightC_eq (fuel := fuel) hcl hcr (by omega)
  simp only [reedpenlaw10_CoverSets_3, U3, U1, ha, bindO, Bool.not_true, cond_false, hr1]
  cases e1 : rightB l with
  | false => simp only [Bool.not_false, tbf, cond_false]
  | true =>
    simp only [Bool.not_true, fbf, cond_true, hr2]
    cases e2 : rightC c with
    | false => simp only [Bool.not_false, tbf, cond_false]
    | true =>
      simp only [Bool.not_true, fbf, cond_true]
      by_cases e3 : (l.length : Int) > 100
      · simp only [e3, decide_true, tbf, cond_false]
      by_cases e4 : (c.length : Int) > 100
      · simp only [e3, e4, decide_true, decide_false, fbf, cond_true]
      obtain ⟨hL, _⟩ := Can.of_right e1
      obtain ⟨hC, _⟩ := CC.of_right e2
      obtain ⟨s, s1, s2, s3, s4⟩ := With_eq (fuel := fuel) (cls := cls) hC (by omega) (by omega)
      obtain ⟨b, b1, b2, b3⟩ := Both_eq (fuel := fuel) (not := cls == 0) hL s2 (by omega)
      have i64 : ∀ {t : List Sp}, Can t → ∀ x ∈ t, I64 x.1 ∧ I64 x.2 := fun ht x hx => by have := ht.rng x hx; simp only [I64]; omega
      have hs1 := Right_eq (fuel := fuel) (l := s) (by omega) (i64 s2) (by omega)
      have hblen := b2.length
      have hb1 := Right_eq (fuel := fuel) (l := b) (by omega) (i64 b2) (by omega)
      obtain ⟨tin, t1, t2, t3⟩ := InTabs (fuel := fuel) (l := l) (b := b) (cls := cls) (sn := (s, cls == 0)) (tb := List.replicate 65536 false) hC (by omega) (by omega)
      obtain ⟨tb, u1, u2, u3⟩ := BoTabs (fuel := fuel) (b := b) (cls := cls) (sn := (s, cls == 0)) hL t2 (by omega)
      obtain ⟨x, x1, x2, x3⟩ := Spans_eq (fuel := fuel) (t := tin) (by omega) (by omega)
      obtain ⟨y, y1, y2, y3⟩ := Spans_eq (fuel := fuel) (t := tb) (by omega) (by omega)
      have memIn : ∀ g, Mem s g ↔ 0 ≤ g ∧ tin.getD g.toNat false = true := fun g => by
        rw [s3]
        constructor
        · intro h
          have h0 : 0 ≤ g := by obtain ⟨z, hz, _, h1, _⟩ := h; have := hC.rng z hz; omega
          exact ⟨h0, (t3 _).2 (by rw [Int.toNat_of_nonneg h0]; exact h)⟩
        · rintro ⟨h0, h⟩
          have := (t3 _).1 h
          rwa [Int.toNat_of_nonneg h0] at this
      obtain rfl : s = x := Can.eq s2 x2 fun g => (memIn g).trans (x3 g).symm
      obtain rfl : b = y := Can.eq b2 y2 fun g => by
        rw [b3, y3, u3]
        constructor
        · rintro ⟨h, h'⟩
          have h0 : 0 ≤ g := by obtain ⟨z, hz, h1, _⟩ := h; have := hL.rng z hz; omega
          exact ⟨h0, by rw [Int.toNat_of_nonneg h0]; exact h, (glue h0 (memIn g)).1 h'⟩
        · rintro ⟨h0, h, h'⟩
          rw [Int.toNat_of_nonneg h0] at h
          exact ⟨h, (glue h0 (memIn g)).2 h'⟩
      have hsame1 := Same_eq (fuel := fuel) (a := s) (b := s) (by omega) (by omega)
      have hsame2 := Same_eq (fuel := fuel) (a := b) (b := b) (by omega) (by omega)
      have rb : rightB b = true := b2.right ?_
      · have z65 : (65536 : Int).toNat = 65536 := rfl
        have ncc : (!(cls == 0) == (cls == 0)) = false := by cases (cls == 0) <;> rfl
        simp only [e3, e4, decide_false, fbf, cond_true, cond_false, s1, U1, b1, hs1, s2.right (by omega), Bool.not_true, hb1, rb, both_self, afterJoin, U7, U6, U4, z65, t1, u1, x1, y1, hsame1, hsame2, decide_true, tbt]
        simp
      · have := Both_length b2 b3; omega
end Go.Proofs.Ytgfimeagodcdjaa
