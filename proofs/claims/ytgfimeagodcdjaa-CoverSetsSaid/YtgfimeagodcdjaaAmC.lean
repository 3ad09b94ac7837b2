/- Changes of names, loops and joins of such walks. Its conditions stand at each theorem. -/
import Derived.Test.YtgfimeagodcdjaaAmB
import Derived.Laws.MakeOwn
set_option linter.unusedSimpArgs false
set_option linter.unusedVariables false
set_option linter.unusedSectionVars false
/- Stores. -/
namespace Go.AM
open Go.RowKit

/-- vs in the place of what stands from o on. -/
def splice {α : Type} (cs : List α) (o : Nat) (vs : List α) : List α := cs.take o ++ (vs ++ cs.drop (o + vs.length))

theorem splice_get {α : Type} {cs vs : List α} {o : Nat} (h : o + vs.length ≤ cs.length) (i : Nat) : (splice cs o vs)[i]? = if o ≤ i ∧ i < o + vs.length then vs[i - o]? else cs[i]? := by
  unfold splice
  have hl : (cs.take o).length = o := by rw [List.length_take]; omega
  rw [List.getElem?_append]
  by_cases h1 : i < (cs.take o).length
  · rw [if_pos h1, if_neg (by omega), List.getElem?_take, if_pos (by omega)]
  · rw [if_neg h1, List.getElem?_append]
    by_cases h2 : i - (cs.take o).length < vs.length
    · rw [if_pos h2, if_pos (by omega), hl]
    · rw [if_neg h2, if_neg (by omega), List.getElem?_drop]
      congr 1
      omega

theorem splice_length {α : Type} {cs vs : List α} {o : Nat} (h : o + vs.length ≤ cs.length) : (splice cs o vs).length = cs.length := by
  simp only [splice, List.length_append, List.length_take, List.length_drop]
  omega

theorem take_splice {α : Type} {cs vs : List α} {o m : Nat} (h : o + vs.length ≤ m) (hm : m ≤ cs.length) : (splice cs o vs).take m = splice (cs.take m) o vs := by
  apply List.ext_getElem?
  intro i
  rw [List.getElem?_take, splice_get (by omega), splice_get (by rw [List.length_take]; omega), List.getElem?_take]
  by_cases h1 : i < m
  · simp [h1]
  · rw [if_neg h1, if_neg (by omega), if_neg h1]

theorem elem_splice {α : Type} {cs vs : List α} {o s sub : Nat} (h : sub + vs.length ≤ s) (hs : o + s ≤ cs.length) :
    cs.take o ++ splice ((cs.drop o).take s) sub vs ++ cs.drop (o + s) = splice cs (o + sub) vs := by
  have hl : ((cs.drop o).take s).length = s := by rw [List.length_take, List.length_drop]; omega
  have h2 := splice_length (cs := (cs.drop o).take s) (vs := vs) (o := sub) (by omega)
  apply List.ext_getElem?
  intro i
  rw [splice_get (by omega), List.append_assoc, List.getElem?_append]
  have hlt : (cs.take o).length = o := by rw [List.length_take]; omega
  by_cases h1 : i < (cs.take o).length
  · rw [if_pos h1, if_neg (by omega), List.getElem?_take, if_pos (by omega)]
  · rw [if_neg h1, List.getElem?_append]
    rw [hlt] at h1 ⊢
    rw [hl] at h2
    rw [h2]
    by_cases h3 : i - o < s
    · rw [if_pos h3, splice_get (by omega), List.getElem?_take, List.getElem?_drop]
      by_cases h4 : sub ≤ i - o ∧ i - o < sub + vs.length
      · have h5 : o + sub ≤ i ∧ i < o + sub + vs.length := by omega
        rw [if_pos h4, if_pos h5]; congr 1; omega
      · have h5 : ¬ (o + sub ≤ i ∧ i < o + sub + vs.length) := by omega
        rw [if_neg h4, if_neg h5, if_pos h3]; congr 1; omega
    · have h5 : ¬ (o + sub ≤ i ∧ i < o + sub + vs.length) := by omega
      rw [if_neg h3, if_neg h5, List.getElem?_drop]; congr 1; omega

section
variable {B : Base} {C : Ctx} {w : World} {a : Act} {st : St} {ti : TypeId → Option TI} {R : Type} {K : St → Option R} {r : R}

theorem evo_setRow (w : World) (g : Nat) (cs : Array Value) : Evo (fun x => x = g) w (w.setRow g cs) :=
  ⟨rfl, rfl, rfl, by simp, fun b _ hb => setRow_other w g b cs hb⟩

/-- The atoms of a value that is stored. -/
def storeAtoms (i : TI) (x : SVal) : Option (List Atom) :=
  match x with
  | .v y => if (y.atoms.map Atom.size).sum = i.size ∧ y.atoms.all Atom.plain = true then some y.atoms else none
  | _ => none

/-- Element j of a row, with other cells. -/
def setElem (t : Ty) (xs : List t.den) (j sub : Nat) (new : List Atom) : Option (List t.den) :=
  match putA sub new (explode t (xs.getD j t.dflt)) with
  | none => none
  | some as => match implodeAll t as with
    | none => none
    | some y => some (xs.set j y)

def execStore (ti : TypeId → Option TI) (T : TypeId) (ad x : SVal) (st : St) (K : St → Option R) : Option R :=
  match ti T with
  | none => none
  | some i =>
    match storeAtoms i x with
    | none => none
    | some new =>
      match ad with
      | .v (.one (.ptr k off)) =>
        match hget k st.heap with
        | some (.var as) => match putA off new as with | some bs => K { st with heap := hset k (.var bs) st.heap } | none => none
        | _ => none
      | .v (.one (.rptr k j sz sub)) =>
        match hget k st.heap with
        | some (.row e t xs) => if t.size = sz then match setElem t xs j sub new with | some ys => K { st with heap := hset k (.row e t ys) st.heap } | none => none else none
        | some (.lrow t xs) => if t.size = sz then match setElem t xs j sub new with | some ys => K { st with heap := hset k (.lrow t ys) st.heap } | none => none else none
        | _ => none
      | .v (.one (.aptr k off j n sz sub)) =>
        match hget k st.heap with
        | some (.var as) =>
          match dropA off as with
          | some (.pure (.arr n' t) xs :: _) =>
            if t.size = sz ∧ n' = n then
              match setElem t xs j sub new with
              | some ys => match putA off [.pure (.arr n' t) ys] as with | some bs => K { st with heap := hset k (.var bs) st.heap } | none => none
              | none => none
            else none
          | _ => none
        | _ => none
      | _ => none

/-- What a store owes. -/
def Stores (B : Base) (w : World) (a : Act) {R : Type} (K : St → Option R) (r : R) (S : Sem Unit) : Prop :=
  ∃ st1 C' w', K st1 = some r ∧ S.run B.P w = .ok () w' ∧ Inv B C' w' a st1

theorem storeAtoms_rel (h : Inv B C w a st) {i : TI} {x : SVal} {vx : Value} {new : List Atom} (hx : RelSV B.P C w x vx) (hk : ∀ k ∈ x.toks, k ∈ st.heap.map (·.1)) (he : storeAtoms i x = some new) :
    RelAtoms B.P C w new vx.cells.toList ∧ vx.cells.size = i.size ∧ (∀ v ∈ vx.cells.toList, v.oneCell' = true) ∧ ∀ k ∈ new.flatMap Atom.toks, k ∈ st.heap.map (·.1) := by
  unfold storeAtoms at he
  split at he
  · rename_i y
    split at he
    · rename_i hc
      cases he
      have hr : RelAtoms B.P C w y.atoms vx.cells.toList := V1.cells_rel hx (fun b hb => by
        subst hb
        exact cells_one (RelAtom.one (show RelAtom B.P C w b [vx] from hx) (by simpa [V1.atoms] using hc.2) (fun k hm => tok_one h.heap (hk k (by simpa [SVal.toks, SVal.atoms, V1.atoms] using hm))) vx (by simp)))
      refine ⟨hr, ?_, hr.one (fun b hb => ?_) (fun k hm => tok_one h.heap (hk k hm)), hk⟩
      · have := hr.size; simpa [hc.1] using this
      · have := hc.2; rw [List.all_eq_true] at this; exact this b hb
    · cases he
  · cases he

theorem run_storeVar {P : Program} {T : TypeId} {i : TI} (hi : i.Ok P T) {v : Value} (hs : v.cells.size = i.size) (h1 : ∀ u ∈ v.cells.toList, u.oneCell' = true) {g o : Nat} {cur : Array Value} {e : TypeId} (hg : w.heap[g]? = some (.cells cur e (0, 0))) (hle : o + i.size ≤ cur.size) :
    (Instr.storeAt T (.pointer (some ⟨g, o, none⟩)) v).run P w = .ok () (w.setRow g (splice cur.toList o v.cells.toList).toArray) := by
  have hsz := hi.run_sizeOf w
  have := run_storeCells_at P g o e v.cells.toList 0 cur w hg (by simp [hs]; omega) h1
  simp only [Nat.add_zero] at this
  simp only [Instr.storeAt, Instr.sureAddr, storeVar, Sem.run_bind, Sem.run_pure, Result.andThen_ok, hsz]
  rw [if_neg (by simp [hs])]
  rw [this]
  simp [splice]

/-- Other cells in an element. -/
theorem setElem_rel {t : Ty} {xs ys : List t.den} {j sub : Nat} {new : List Atom} {cells vs : List Value} (h : concatR ((rels B.P t).cells C.I w) xs cells) (hj : j < xs.length) (hn : RelAtoms B.P C w new vs) (he : setElem t xs j sub new = some ys) :
    j * t.size + sub + vs.length ≤ cells.length ∧ ys.length = xs.length ∧ concatR ((rels B.P t).cells C.I w) ys (splice cells (j * t.size + sub) vs) := by
  have hsize : ∀ x cs, (rels B.P t).cells C.I w x cs → cs.length = t.size := fun _ _ h => rels_size B.P t h
  have hlen := h.length hsize
  obtain ⟨d, hd, hg⟩ := laid_elem h hj
  have hdl := rels_size B.P t hd
  unfold setElem at he
  split at he
  · cases he
  rename_i as hp
  split at he
  · cases he
  rename_i y hy
  cases he
  obtain ⟨h1, h2⟩ := putA_rel (explode_rel t hd) hn hp
  have h3 := implodeAll_rel h2 hy
  have hjs : j * t.size + t.size ≤ cells.length := by
    rw [hlen, ← Nat.succ_mul]; exact Nat.mul_le_mul_right _ hj
  have hdd : d = (cells.drop (j * t.size)).take t.size := by have := take_of_get hg; rw [hdl] at this; exact this.symm
  refine ⟨by omega, by simp, ?_⟩
  have h4 := h.set hsize hj h3
  have h5 := elem_splice (cs := cells) (vs := vs) (o := j * t.size) (s := t.size) (sub := sub) (by omega) hjs
  rw [← hdd] at h5
  rw [← h5]
  exact h4

theorem splice_mid {α : Type} {pre cs post vs : List α} {o : Nat} (h : o + vs.length ≤ cs.length) : splice (pre ++ cs ++ post) (pre.length + o) vs = pre ++ splice cs o vs ++ post := by
  have h2 := splice_length h
  apply List.ext_getElem?
  intro i
  rw [splice_get (by simp only [List.length_append]; omega), List.append_assoc, List.append_assoc, List.getElem?_append, List.getElem?_append, List.getElem?_append (l₁ := pre)]
  by_cases h1 : i < pre.length
  · rw [if_pos h1, if_pos h1, if_neg (by omega)]
  · rw [if_neg h1, if_neg h1, List.getElem?_append, splice_get h, h2]
    by_cases h3 : o ≤ i - pre.length ∧ i - pre.length < o + vs.length
    · have h4 : pre.length + o ≤ i ∧ i < pre.length + o + vs.length := by omega
      have h5 : i - pre.length < cs.length := by omega
      rw [if_pos h4, if_pos h5, if_pos h3]; congr 1; omega
    · have h4 : ¬ (pre.length + o ≤ i ∧ i < pre.length + o + vs.length) := by omega
      rw [if_neg h4, if_neg h3]

/-- Own cells are written. -/
theorem Inv.writeRow (h : Inv B C w a st) {k : Tok} {b b' : Block} (hm : (k, b) ∈ st.heap) {g : Nat} (hg : b.at (C.ρ k) = some g) (cur : Array Value)
    (hat : ∀ g', b'.at (C.ρ k) = some g' → b.at (C.ρ k) = some g') (ht : ∀ k' ∈ b'.toks, k' ∈ st.heap.map (·.1)) (hr : Goes C C w (w.setRow g cur) → RelBlock B.P C (w.setRow g cur) k b') :
    Inv B C (w.setRow g cur) a { st with heap := hset k b' st.heap } := by
  have he : Evo (fun x => b.at (C.ρ k) = some x) w (w.setRow g cur) := (evo_setRow w g cur).mono fun x hx => by rw [hx]; exact hg
  exact h.write hm he hat ht (hr ⟨fun _ h => h, he.later fun x hx => ⟨h.heap.imm x hx, fun hf => (h.heap.mine k b hm x hf).1 hx⟩⟩)

theorem execStore_sound (hT : TIs B.P ti) (h : Inv B C w a st) {T : TypeId} {ad x : SVal} {vad vx : Value} (had : RelSV B.P C w ad vad) (hx : RelSV B.P C w x vx) (hk : ∀ k ∈ x.toks, k ∈ st.heap.map (·.1))
    (he : execStore ti T ad x st K = some r) : Stores B w a K r (Instr.storeAt T vad vx) := by
  unfold execStore at he
  split at he
  · cases he
  rename_i i hi
  split at he
  · cases he
  rename_i new hnew
  obtain ⟨hn, hns, hn1, hnk⟩ := storeAtoms_rel h hx hk hnew
  have hvl : vx.cells.toList.length = i.size := by simpa using hns
  have hvar : ∀ {k : Tok} {as bs : List Atom} {off : Nat} {g : Nat}, hget k st.heap = some (.var as) → C.ρ k = .pointer (some ⟨g, 0, none⟩) → vad = .pointer (some ⟨g, off, none⟩) →
      (∀ cs : List Value, RelAtoms B.P C w as cs → off + i.size ≤ cs.length ∧ RelAtoms B.P C w bs (splice cs off vx.cells.toList)) → (∀ k ∈ bs.flatMap Atom.toks, k ∈ st.heap.map (·.1)) →
      K { st with heap := hset k (.var bs) st.heap } = some r → Stores B w a K r (Instr.storeAt T vad vx) := by
    intro k as bs off g hg hρ hv hput htok hK
    have hm := hget_mem hg
    obtain ⟨g', cs, e, h1, h2, h3⟩ := h.heap.blocks _ _ hm
    rw [hρ] at h1
    cases h1
    obtain ⟨h4, h5⟩ := hput _ h3
    subst hv
    refine ⟨_, C, _, hK, run_storeVar (hT T i hi) hns hn1 h2 (by simpa using h4), h.writeRow hm (by rw [hρ]; rfl) _ (fun _ h => h) htok (fun gs => ⟨g, _, e, hρ, setRow_heap w g cs _ e _ h2, ?_⟩)⟩
    simp only
    exact h5.goes gs (fun _ _ => rfl)
  have hrow : ∀ {k : Tok} {b : Block} {t : Ty} {xs ys : List t.den} {j sub : Nat}, hget k st.heap = some b → ((∃ e, b = .row e t xs) ∨ b = .lrow t xs) → setElem t xs j sub new = some ys → (∃ b o n c, C.ρ k = .slice (some ⟨b, o, none⟩) n c ∧ j < n ∧ vad = .pointer (some ⟨b, o + j * t.size + sub, none⟩)) →
      (∀ b', ((∃ e, b = .row e t xs ∧ b' = .row e t ys) ∨ (b = .lrow t xs ∧ b' = .lrow t ys)) → K { st with heap := hset k b' st.heap } = some r) → Stores B w a K r (Instr.storeAt T vad vx) := by
    intro k b t xs ys j sub hg hb hset ⟨g, o, n, c, hρ, hj, hv⟩ hK
    have hm := hget_mem hg
    have hrb := h.heap.blocks _ _ hm
    subst hv
    rcases hb with ⟨e, rfl⟩ | rfl
    · rcases hrb with ⟨_, A, h1⟩ | ⟨g', cap, cur, h1, h0, h2, h3, h4, h5, h6⟩
      · rw [hρ] at h1; injection h1 with _ h1; omega
      · rw [hρ] at h1
        injection h1 with h1 h1' h1''
        simp only [Option.some.injEq, Addr.mk.injEq] at h1
        obtain ⟨rfl, rfl, _⟩ := h1
        subst h1' h1''
        obtain ⟨h7, h8, h9⟩ := setElem_rel h6 hj hn hset
        rw [List.length_take] at h7
        have hcl : cur.toList.length = cur.size := by simp
        rw [hcl] at h7
        have h10 : xs.length * t.size ≤ cur.size := by rw [h5]; exact Nat.mul_le_mul_right _ h3
        have h11 : 0 + j * t.size + sub = j * t.size + sub := by omega
        refine ⟨_, C, _, hK _ (.inl ⟨e, rfl, rfl⟩), run_storeVar (hT T i hi) hns hn1 h2 (by omega), h.writeRow hm (by rw [hρ]; simp [Block.at, blk, Nat.ne_of_gt h0]) _ (fun g' h => h) (fun _ h => by cases h) (fun gs => .inr ⟨g, c, _, ?_, h0, setRow_heap w g cur _ e _ h2, by omega, h4, ?_, ?_⟩)⟩
        · rw [hρ, h8]
        · rw [List.size_toArray, splice_length (by rw [hcl]; omega), hcl, h5]
        · simp only [List.toList_toArray]
          have h12 : (splice cur.toList (0 + j * t.size + sub) vx.cells.toList).take (ys.length * t.size) = splice (cur.toList.take (xs.length * t.size)) (j * t.size + sub) vx.cells.toList := by
            rw [h8, h11]
            exact take_splice (by omega) (by rw [hcl]; exact h10)
          rw [h12]
          exact h9.imp fun _ _ => cells_goes gs
    · obtain ⟨cells, h1, h6⟩ := hrb
      rcases h1 with ⟨_, _, A, c', h1⟩ | ⟨g', o', c', e, h1, h3, h4, h2⟩
      · rw [hρ] at h1; injection h1 with _ h1; omega
      · rw [hρ] at h1
        injection h1 with h1 h1' h1''
        simp only [Option.some.injEq, Addr.mk.injEq] at h1
        obtain ⟨rfl, rfl, _⟩ := h1
        subst h1' h1''
        obtain ⟨h7, h8, h9⟩ := setElem_rel h6 hj hn hset
        have hc0 : c ≠ 0 := by omega
        have hne : xs ≠ [] := by intro e; subst e; simp at hj
        have hye : ys ≠ [] := by intro e; subst e; simp at h8; omega
        refine ⟨_, C, _, hK _ (.inr ⟨rfl, rfl⟩), run_storeVar (hT T i hi) hns hn1 h2 (by simp; omega), h.writeRow hm (g := g) (by rw [hρ]; cases xs <;> simp_all [Block.at, blk]) _ (fun g' h => by
          revert h; cases xs <;> cases ys <;> simp_all [Block.at]) (fun _ h => by cases h) (fun gs => ⟨splice cells (j * t.size + sub) vx.cells.toList, .inr ⟨g, o, c, e, by rw [hρ, h8], by omega, h4, ?_⟩, h9.imp fun _ _ => cells_goes gs⟩)⟩
        rw [setRow_heap w g _ _ e _ h2]
        simp only
        rw [← h4, Nat.add_assoc, splice_mid (by simpa using h7)]
  split at he
  · rename_i k off
    split at he
    · rename_i as hg
      split at he
      · rename_i bs hb
        obtain ⟨g, h1, h2⟩ := had
        refine hvar hg h1 (by simpa using h2) (fun cs hcs => ?_) (putA_toks' hb (h.heap.closed _ _ (hget_mem hg)) hnk) he
        obtain ⟨h3, h4⟩ := putA_rel hcs hn hb
        exact ⟨by omega, h4⟩
      · cases he
    · cases he
  · rename_i k j sz sub
    obtain ⟨g, o, n, c, h1, hj, h2⟩ := had
    split at he
    · rename_i e t xs hg
      split at he
      · rename_i hs
        split at he
        · rename_i ys hy
          refine hrow hg (.inl ⟨e, rfl⟩) hy ⟨g, o, n, c, h1, hj, by rw [hs]; simpa using h2⟩ (fun b' hb' => ?_)
          rcases hb' with ⟨e', h3, rfl⟩ | ⟨h3, _⟩
          · cases h3; exact he
          · cases h3
        · cases he
      · cases he
    · rename_i t xs hg
      split at he
      · rename_i hs
        split at he
        · rename_i ys hy
          refine hrow hg (.inr rfl) hy ⟨g, o, n, c, h1, hj, by rw [hs]; simpa using h2⟩ (fun b' hb' => ?_)
          rcases hb' with ⟨e', h3, _⟩ | ⟨_, rfl⟩
          · cases h3
          · exact he
        · cases he
      · cases he
    · cases he
  · rename_i k off j n sz sub
    obtain ⟨g, h1, hj, h2⟩ := had
    split at he
    · rename_i as hg
      split at he
      · rename_i n' t xs rest hd
        split at he
        · rename_i hs
          split at he
          · rename_i ys hy
            split at he
            · rename_i bs hb
              refine hvar hg h1 (off := off + j * sz + sub) (by simpa using h2) (fun cs hcs => ?_) (putA_toks' hb (h.heap.closed _ _ (hget_mem hg)) (fun _ h => by simp [Atom.toks] at h)) he
              obtain ⟨h3, c1, c2, h4, ⟨hl, hcc⟩, h5⟩ := dropA_rel hcs hd
              have hjx : j < xs.length := by have hl2 : xs.length = n' := hl; rw [hl2, hs.2]; exact hj
              obtain ⟨h6, h7, h8⟩ := setElem_rel hcc hjx hn hy
              have hl3 : c1.length = n' * t.size := by
                have := hcc.length (fun _ _ h => rels_size B.P t h)
                rw [this]; congr 1
              obtain ⟨h9, h10⟩ := putA_rel hcs (show RelAtoms B.P C w [.pure (.arr n' t) ys] (splice c1 (j * t.size + sub) vx.cells.toList) from ⟨_, [], by simp, ⟨h7.trans hl, h8⟩, rfl⟩) hb
              rw [splice_length (by omega)] at h9 h10
              have hcl : cs.length = off + c1.length + c2.length := by
                have := congrArg List.length h4
                rw [List.length_drop, List.length_append] at this; omega
              refine ⟨by rw [← hs.1]; omega, ?_⟩
              have e1 : c1 = (cs.drop off).take c1.length := by rw [h4]; simp
              have h11 := elem_splice (cs := cs) (vs := vx.cells.toList) (o := off) (s := c1.length) (sub := j * t.size + sub) (by omega) (by omega)
              rw [← e1, List.append_assoc] at h11
              rw [h11, hs.1, ← Nat.add_assoc] at h10
              exact h10
            · cases he
          · cases he
        · cases he
      · cases he
    · cases he
  · cases he
end
end Go.AM

/- What is no longer told; append. -/
namespace Go.AM
open Go.RowKit

def Atom.kill (k : Tok) (a : Atom) : Atom := if k ∈ a.toks then .dead a.size else a
def V1.kill (k : Tok) : V1 → V1
  | .one a => .one (a.kill k)
  | .agg as => .agg (as.map (Atom.kill k))
def SVal.kill (k : Tok) : SVal → SVal
  | .undef => .undef
  | .v x => .v (x.kill k)
  | .tup xs => .tup (xs.map (V1.kill k))
def Block.kill (k : Tok) : Block → Block
  | .var as => .var (as.map (Atom.kill k))
  | b => b
/-- Nothing more is said of what lies under a name. -/
def St.kill (k : Tok) (st : St) : St := ⟨st.len, st.slots.map fun p => (p.1, p.2.kill k), (hdel k st.heap).map fun p => (p.1, p.2.kill k)⟩

section
variable {P : Program} {B : Base} {C : Ctx} {w w' : World} {a : Act} {st : St}

theorem Atom.kill_toks (k : Tok) (a : Atom) : ∀ k' ∈ (a.kill k).toks, k' ≠ k ∧ k' ∈ a.toks := by
  intro k' h
  unfold Atom.kill at h
  split at h
  · cases h
  · rename_i hk; exact ⟨fun e => hk (e ▸ h), h⟩

theorem RelAtom.kill (k : Tok) {a : Atom} {cs : List Value} (h : RelAtom P C w a cs) : RelAtom P C w (a.kill k) cs := by
  unfold Atom.kill
  split
  · exact h.size
  · exact h

theorem RelAtoms.kill (k : Tok) : ∀ {as : List Atom} {cs : List Value}, RelAtoms P C w as cs → RelAtoms P C w (as.map (Atom.kill k)) cs
  | [], _, h => h
  | _ :: _, _, ⟨c1, c2, e, h1, h2⟩ => ⟨c1, c2, e, h1.kill k, h2.kill k⟩

theorem RelV1.kill (k : Tok) {x : V1} {v : Value} (h : RelV1 P C w x v) : RelV1 P C w (x.kill k) v := by
  cases x with
  | one a => exact RelAtom.kill k h
  | agg as => obtain ⟨cs, e, h⟩ := h; exact ⟨cs, e, h.kill k⟩

theorem RelV1s.kill (k : Tok) : ∀ {xs : List V1} {vs : List Value}, RelV1s P C w xs vs → RelV1s P C w (xs.map (V1.kill k)) vs
  | [], _, h => h
  | _ :: _, _, ⟨v, rest, e, h1, h2⟩ => ⟨v, rest, e, h1.kill k, h2.kill k⟩

theorem RelSV.kill (k : Tok) {x : SVal} {v : Value} (h : RelSV P C w x v) : RelSV P C w (x.kill k) v := by
  cases x with
  | undef => trivial
  | v x => exact RelV1.kill k h
  | tup xs => obtain ⟨vs, e, h⟩ := h; exact ⟨vs, e, h.kill k⟩

theorem kill_toks_list (k : Tok) : ∀ (as : List Atom), ∀ k' ∈ (as.map (Atom.kill k)).flatMap Atom.toks, k' ≠ k ∧ k' ∈ as.flatMap Atom.toks := by
  intro as k' h
  rw [List.mem_flatMap] at h
  obtain ⟨x, hx, hk⟩ := h
  obtain ⟨y, hy, rfl⟩ := List.mem_map.1 hx
  obtain ⟨h1, h2⟩ := Atom.kill_toks k y k' hk
  exact ⟨h1, List.mem_flatMap.2 ⟨y, hy, h2⟩⟩

theorem V1.kill_atoms (k : Tok) (x : V1) : (x.kill k).atoms = x.atoms.map (Atom.kill k) := by cases x <;> rfl

theorem kill_atoms_list (k : Tok) (xs : List V1) : (xs.map (V1.kill k)).flatMap V1.atoms = (xs.flatMap V1.atoms).map (Atom.kill k) := by
  induction xs with
  | nil => rfl
  | cons y ys ih => simp only [List.map_cons, List.flatMap_cons, List.map_append, V1.kill_atoms, ih]

theorem SVal.kill_toks (k : Tok) (x : SVal) : ∀ k' ∈ (x.kill k).toks, k' ≠ k ∧ k' ∈ x.toks := by
  cases x with
  | undef => intro k' h; cases h
  | v x => intro k' h; simp only [SVal.kill, SVal.toks, SVal.atoms, V1.kill_atoms] at h; exact kill_toks_list k _ k' h
  | tup xs =>
    intro k' h
    simp only [SVal.kill, SVal.toks, SVal.atoms, kill_atoms_list] at h
    exact kill_toks_list k _ k' h

theorem sget_map (f : SVal → SVal) (hf : f .undef = .undef) (n : Nat) : ∀ l : List (Nat × SVal), sget n (l.map fun p => (p.1, f p.2)) = f (sget n l)
  | [] => hf.symm
  | (m, v) :: r => by
    simp only [List.map_cons, sget]
    cases Nat.beq m n
    · exact sget_map f hf n r
    · rfl

theorem getD_map {α β : Type} (f : α → β) (l : List α) (n : Nat) (d : α) (e : β) (h : f d = e) : (l.map f).getD n e = f (l.getD n d) := by
  simp only [List.getD_eq_getElem?_getD, List.getElem?_map]
  cases l[n]? <;> simp [h]

theorem Block.kill_at (k : Tok) (b : Block) (v : Value) : (b.kill k).at v = b.at v := by cases b <;> rfl

theorem RelBlock.kill (k : Tok) {k' : Tok} {b : Block} (h : RelBlock P C w k' b) : RelBlock P C w k' (b.kill k) := by
  cases b with
  | var as => obtain ⟨x, cs, e, h1, h2, h3⟩ := h; exact ⟨x, cs, e, h1, h2, h3.kill k⟩
  | row => exact h
  | lrow => exact h

theorem Block.kill_toks (k : Tok) (b : Block) : ∀ k' ∈ (b.kill k).toks, k' ≠ k ∧ k' ∈ b.toks := by
  cases b with
  | var as => exact kill_toks_list k as
  | row => intro k' h; cases h
  | lrow => intro k' h; cases h

theorem St.kill_keys {k k' : Tok} : k' ∈ (st.kill k).heap.map (·.1) ↔ k' ≠ k ∧ k' ∈ st.heap.map (·.1) := by
  rw [← hdel_keys]
  simp [St.kill]

theorem mem_kill {k k' : Tok} {b : Block} (h : (k', b) ∈ (st.kill k).heap) : ∃ b', (k', b') ∈ st.heap ∧ k' ≠ k ∧ b = b'.kill k := by
  simp only [St.kill, List.mem_map, Prod.mk.injEq, Prod.exists] at h
  obtain ⟨k1, b1, h1, rfl, rfl⟩ := h
  have := mem_hdel.1 h1
  exact ⟨b1, this.2, this.1, rfl⟩

theorem InvH.kill (h : InvH B C w st.heap) (k : Tok) : InvH B C w (st.kill k).heap := by
  refine ⟨fun k' b hm => ?_, fun k' b hm k2 hk2 => ?_, ?_, fun k1 b1 k2 b2 h1 h2 hne g hg hg2 => ?_, fun k' b hm g hg => ?_, h.imm, h.imm0, h.immNew, h.evo, h.fixed, h.fixOld⟩
  · obtain ⟨b', h1, _, rfl⟩ := mem_kill hm
    exact (h.blocks _ _ h1).kill k
  · obtain ⟨b', h1, _, rfl⟩ := mem_kill hm
    obtain ⟨h3, h4⟩ := Block.kill_toks k b' k2 hk2
    exact St.kill_keys.2 ⟨h3, h.closed _ _ h1 k2 h4⟩
  · have e : (st.kill k).heap.map (·.1) = (hdel k st.heap).map (·.1) := by simp [St.kill, Function.comp_def]
    rw [e]
    exact ((hdel_sub k st.heap).map _).nodup h.nodup
  · obtain ⟨b1', m1, _, rfl⟩ := mem_kill h1
    obtain ⟨b2', m2, _, rfl⟩ := mem_kill h2
    rw [Block.kill_at] at hg hg2
    exact h.apart _ _ _ _ m1 m2 hne g hg hg2
  · obtain ⟨b', m1, _, rfl⟩ := mem_kill hm
    rw [Block.kill_at] at hg
    exact h.mine _ _ m1 g hg

theorem Inv.kill (h : Inv B C w a st) (k : Tok) : Inv B C w a (st.kill k) := by
  have hs : ∀ n, (st.kill k).get n = (st.get n).kill k := fun n => sget_map (SVal.kill k) rfl n st.slots
  refine ⟨h.len, h.defers, fun n => ?_, fun n k' hk' => ?_, h.heap.kill k⟩
  · rw [hs]; exact (h.slots n).kill k
  · rw [hs] at hk'
    obtain ⟨h1, h2⟩ := SVal.kill_toks k _ k' hk'
    exact St.kill_keys.2 ⟨h1, h.named n k' h2⟩

/-- An own block gets another name and another content (and may be another one). -/
theorem Inv.swap (h : Inv B C w a st) {k k' : Tok} {b b' : Block} {v : Value} (hm : (k, b) ∈ st.heap) (he : Evo (fun x => b.at (C.ρ k) = some x) w w') (hk : k' ∉ st.heap.map (·.1)) (hf : k' ∉ B.fix)
    (hv : ∀ g, b'.at v = some g → b.at (C.ρ k) = some g ∨ w.heap.size ≤ g) (ht : b'.toks = []) (hr : Goes C (C.with k' v) w w' → RelBlock B.P (C.with k' v) w' k' b') :
    Inv B (C.with k' v) w' a { st.kill k with heap := (k', b') :: (st.kill k).heap } := by
  have hF : ∀ x, b.at (C.ρ k) = some x → ¬ C.I x := fun x hx => (h.heap.mine k b hm x hx).1
  have g : Goes C (C.with k' v) w w' := ⟨fun _ h => h, he.later fun x hx => ⟨h.heap.imm x hx, fun hf => hF x hf hx⟩⟩
  have hi := h.kill k
  have hne : ∀ k2, k2 ∈ st.heap.map (·.1) → k2 ≠ k' := fun k2 hm e => hk (e ▸ hm)
  have hrb := hr g
  have hkeep : ∀ k2 b2, (k2, b2) ∈ (st.kill k).heap → k2 ≠ k' ∧ (∀ x, b2.at (C.ρ k2) = some x → x < w.heap.size ∧ b.at (C.ρ k) ≠ some x) := by
    intro k2 b2 h2
    obtain ⟨b3, m3, n3, rfl⟩ := mem_kill h2
    refine ⟨hne _ (List.mem_map_of_mem (f := (·.1)) m3), fun x hx => ?_⟩
    rw [Block.kill_at] at hx
    exact ⟨(h.heap.blocks _ _ m3).lt hx, fun hb => h.heap.apart _ _ _ _ m3 hm n3 x hx hb⟩
  refine ⟨hi.len, hi.defers, fun n => (hi.slots n).goes g (fun k2 hk2 => C.with_other v (hne _ (St.kill_keys.1 (hi.named n k2 hk2)).2)), fun n k2 hk2 => List.mem_cons_of_mem _ (hi.named n k2 hk2), ?_⟩
  refine ⟨?_, ?_, ?_, ?_, ?_, fun x hx => Nat.lt_of_lt_of_le (h.heap.imm x hx) he.size, h.heap.imm0, h.heap.immNew, h.heap.evo.trans he (fun x hx hf => (h.heap.mine k b hm x hf).2.resolve_left (by omega)), ?_, h.heap.fixOld⟩
  · intro k2 b2 h2
    rcases List.mem_cons.1 h2 with e | h2
    · cases e; exact hrb
    · obtain ⟨n2, hx⟩ := hkeep _ _ h2
      exact (hi.heap.blocks _ _ h2).goes g (fun k3 hk3 => C.with_other v (hne _ (St.kill_keys.1 (hi.heap.closed _ _ h2 k3 hk3)).2)) (C.with_other v n2) (by simp [Ctx.with, n2]) (fun x hx' => he.block x (hx x hx').1 (fun hf => (hx x hx').2 hf))
  · intro k2 b2 h2 k3 hk3
    rcases List.mem_cons.1 h2 with e | h2
    · cases e; rw [ht] at hk3; cases hk3
    · exact List.mem_cons_of_mem _ (hi.heap.closed _ _ h2 k3 hk3)
  · simp only [List.map_cons]
    exact List.nodup_cons.2 ⟨fun hm2 => hk (St.kill_keys.1 hm2).2, hi.heap.nodup⟩
  · intro k1 b1 k2 b2 h1 h2 hne12 x hx hy
    rcases List.mem_cons.1 h1 with e1 | h1 <;> rcases List.mem_cons.1 h2 with e2 | h2
    · cases e1; cases e2; exact hne12 rfl
    · cases e1
      obtain ⟨n2, hx2⟩ := hkeep _ _ h2
      rw [C.with_ρ] at hx
      rw [C.with_other v n2] at hy
      obtain ⟨h3, h4⟩ := hx2 x hy
      rcases hv x hx with h5 | h5
      · exact h4 h5
      · omega
    · cases e2
      obtain ⟨n2, hx2⟩ := hkeep _ _ h1
      rw [C.with_ρ] at hy
      rw [C.with_other v n2] at hx
      obtain ⟨h3, h4⟩ := hx2 x hx
      rcases hv x hy with h5 | h5
      · exact h4 h5
      · omega
    · obtain ⟨n1, _⟩ := hkeep _ _ h1
      obtain ⟨n2, _⟩ := hkeep _ _ h2
      rw [C.with_other v n1] at hx
      rw [C.with_other v n2] at hy
      exact hi.heap.apart _ _ _ _ h1 h2 hne12 x hx hy
  · intro k2 b2 h2 x hx
    rcases List.mem_cons.1 h2 with e | h2
    · cases e
      rw [C.with_ρ] at hx
      rcases hv x hx with h5 | h5
      · exact h.heap.mine _ _ hm x h5
      · exact ⟨fun hI => by have := h.heap.imm x hI; omega, .inl (Nat.le_trans h.heap.evo.size h5)⟩
    · obtain ⟨n2, _⟩ := hkeep _ _ h2
      rw [C.with_other v n2] at hx
      exact hi.heap.mine _ _ h2 x hx
  · intro k2 hm2
    have : k2 ≠ k' := fun e => hf (e ▸ hm2)
    exact ⟨(C.with_other v this).trans (h.heap.fixed k2 hm2).1, by simp only [Ctx.with, this, if_false]; exact (h.heap.fixed k2 hm2).2⟩
end
end Go.AM

/- append and copy. -/
namespace Go.AM
open Go.RowKit

section
variable {P : Program} {B : Base} {C : Ctx} {w w' : World} {a : Act} {st : St} {ti : TypeId → Option TI} {R : Type} {K : St → Option R} {r : R}

/-- What is appended or copied. -/
def srcData (t : Ty) (st : St) (x : SVal) : Option (List t.den) :=
  match x with
  | .v (.one (.pure (.list t') ys)) => if h : t' = t then some (h ▸ ys) else none
  | .v (.one (.own k)) => match hget k st.heap with
    | some (.row _ t' ys) => if h : t' = t then some (h ▸ ys) else none
    | some (.lrow t' ys) => if h : t' = t then some (h ▸ ys) else none
    | _ => none
  | .v (.one (.seg k lo n sz)) => if sz = t.size then match hget k st.heap with
    | some (.row _ t' ys) => if h : t' = t then some ((h ▸ ys : List t.den).drop lo |>.take n) else none
    | some (.lrow t' ys) => if h : t' = t then some ((h ▸ ys : List t.den).drop lo |>.take n) else none
    | _ => none else none
  | .v (.one (.const (.slice none 0 0))) => some []
  | .v (.one .e0) => some []
  | .v (.one (.pure .str s)) => match t with
    | .int .u8 => some (s.data.toList.map fun b => (b.toNat : Int))
    | _ => none
  | _ => none

/-- The machine finds these cells there. -/
structure Src (P : Program) (w : World) (size m : Nat) (v : Value) (news : List Value) : Prop where
  len : news.length = m * size
  one : ∀ u ∈ news, u.oneCell' = true
  lenOf : ∀ w1 : World, (Builtin.lenOf v).run P w1 = .ok m w1
  first : ∀ w1 : World, w1.heap = w.heap → (Builtin.firstCells size m v).run P w1 = .ok news.toArray w1

theorem Src.of_cells {size m : Nat} {A : Option Addr} {c : Nat} {news : List Value} (hl : news.length = m * size) (h1 : ∀ u ∈ news, u.oneCell' = true)
    (hA : news = [] ∨ ∃ b o, A = some ⟨b, o, none⟩ ∧ ∀ j v, news[j]? = some v → w.cell? ⟨b, o + j, none⟩ = some v) : Src P w size m (.slice A m c) news := by
  refine ⟨hl, h1, fun w1 => rfl, fun w1 hw => ?_⟩
  rcases hA with rfl | ⟨b, o, rfl, h⟩
  · cases A with
    | none => exact run_firstCells_none w1 ..
    | some ad => exact run_firstCells_some w1 size m ad _ c [] hl (fun j v hj => by simp at hj)
  · exact run_firstCells_some w1 size m _ _ c news hl (fun j v hj => by rw [Addr.add_lit]; have := h j v hj; simpa [World.cell?, hw] using this)

/-- The cells of an own row. -/
theorem row_cells {k : Tok} {b : Block} (hb : RelBlock P C w k b) {t : Ty} {xs : List t.den} (he : (∃ e, b = .row e t xs) ∨ b = .lrow t xs) :
    ∃ A c cells, C.ρ k = .slice A xs.length c ∧ xs.length ≤ c ∧ concatR ((rels P t).cells C.I w) xs cells ∧ (xs = [] ∨ ∃ g o, A = some ⟨g, o, none⟩ ∧ ∀ j v, cells[j]? = some v → w.cell? ⟨g, o + j, none⟩ = some v) := by
  rcases he with ⟨e, rfl⟩ | rfl
  · rcases hb with ⟨h1, A, h2⟩ | ⟨g, cap, cur, h1, h0, h2, h3, h4, h5, h6⟩
    · have : xs = [] := List.eq_nil_of_length_eq_zero h1
      subst this
      exact ⟨A, 0, [], h2, Nat.le_refl _, rfl, .inl rfl⟩
    · refine ⟨_, cap, _, h1, h3, h6, .inr ⟨g, 0, rfl, fun j v hj => ?_⟩⟩
      rw [Nat.zero_add, cell_of_row w g j cur e (0, 0) h2]
      rw [List.getElem?_take] at hj
      split at hj
      · simpa using hj
      · cases hj
  · obtain ⟨cells, h1, h6⟩ := hb
    rcases h1 with ⟨h1, _, A, c, h2⟩ | ⟨g, o, c, e, h1, h3, h4, h5⟩
    · have : xs = [] := List.eq_nil_of_length_eq_zero h1
      subst this
      exact ⟨A, c, [], h2, Nat.zero_le _, rfl, .inl rfl⟩
    · refine ⟨_, c, cells, h1, h3, h6, .inr ⟨g, o, rfl, fun j v hj => ?_⟩⟩
      rw [cell_of_row w g _ _ e (0, 0) h5]
      have hlt := (List.getElem?_eq_some_iff.1 hj).1
      simp only [List.getElem?_toArray]
      rw [List.append_assoc, List.getElem?_append_right (by omega), List.getElem?_append_left (by omega), ← hj]
      congr 1; omega

theorem concatR_nil_of {α : Type} {R : α → List Value → Prop} {cs : List Value} (h : concatR R [] cs) : cs = [] := h

theorem bytes_rel {I : Nat → Prop} (l : List UInt8) : concatR ((rels P (.int .u8)).cells I w) (l.map fun b => (b.toNat : Int)) (l.map fun b => .int .u8 b.toNat) := by
  induction l with
  | nil => rfl
  | cons b l ih => exact ⟨[.int .u8 b.toNat], _, rfl, rfl, ih⟩

theorem srcData_rel (h : Inv B C w a st) {t : Ty} {x : SVal} {vx : Value} (hx : RelSV B.P C w x vx) {ys : List t.den} (he : srcData t st x = some ys) :
    ∃ news, Src B.P w t.size ys.length vx news ∧ concatR ((rels B.P t).cells C.I w) ys news := by
  have hsize : ∀ x cs, (rels B.P t).cells C.I w x cs → cs.length = t.size := fun _ _ h => rels_size B.P t h
  have hone : ∀ {xs : List t.den} {cs}, concatR ((rels B.P t).cells C.I w) xs cs → ∀ u ∈ cs, u.oneCell' = true := fun h => h.mem (fun _ _ hh => rels_one B.P t hh)
  have nil : ∀ {A}, vx = .slice A 0 0 → ys = [] → ∃ news, Src B.P w t.size ys.length vx news ∧ concatR ((rels B.P t).cells C.I w) ys news := by
    rintro A rfl rfl
    exact ⟨[], Src.of_cells (by simp) (fun _ h => by cases h) (.inl rfl), rfl⟩
  have own : ∀ {k : Tok} {b : Block}, hget k st.heap = some b → ((∃ e, b = .row e t ys) ∨ b = .lrow t ys) → vx = C.ρ k → ∃ news, Src B.P w t.size ys.length vx news ∧ concatR ((rels B.P t).cells C.I w) ys news := by
    intro k b hg hb hv
    obtain ⟨A, c, cells, h1, h2, h3, h4⟩ := row_cells (h.heap.blocks _ _ (hget_mem hg)) hb
    rw [hv, h1]
    refine ⟨cells, Src.of_cells (h3.length hsize) (hone h3) ?_, h3⟩
    rcases h4 with h4 | h4
    · left; subst h4; exact h3
    · exact .inr h4
  have seg : ∀ {k : Tok} {b : Block} {xs : List t.den} {lo n sz : Nat}, hget k st.heap = some b → ((∃ e, b = .row e t xs) ∨ b = .lrow t xs) → x = .v (.one (.seg k lo n sz)) → sz = t.size → ys = (xs.drop lo).take n →
      ∃ news, Src B.P w t.size ys.length vx news ∧ concatR ((rels B.P t).cells C.I w) ys news := by
    intro k b xs lo n sz hg hb hxk hsz hys
    subst hxk
    obtain ⟨A', cap, e1, e2, e3⟩ := hx
    obtain rfl : vx = .slice A' n cap := by simpa using e1
    obtain ⟨A, c, cells, h1, h2, h3, h4⟩ := row_cells (h.heap.blocks _ _ (hget_mem hg)) hb
    have h5 : concatR ((rels B.P t).cells C.I w) ys ((cells.drop (lo * t.size)).take (n * t.size)) := by rw [hys]; exact (h3.drop hsize lo).take hsize n
    rcases Nat.eq_zero_or_pos n with h0 | h0
    · subst h0
      have : ys = [] := by rw [hys]; simp
      subst this
      exact ⟨[], Src.of_cells (by simp) (fun _ h => by cases h) (.inl rfl), rfl⟩
    · rcases e3 with e3 | ⟨g, o, m, c', e3, e4, e5⟩
      · omega
      · rw [h1] at e3
        injection e3 with e3 e3' e3''
        have hyl : ys.length = n := by rw [hys, List.length_take, List.length_drop]; omega
        rcases h4 with h4 | ⟨g', o', e6, h4⟩
        · subst h4; simp at e3'; omega
        · rw [e6] at e3
          simp only [Option.some.injEq, Addr.mk.injEq] at e3
          obtain ⟨rfl, rfl, _⟩ := e3
          rw [hyl]
          refine ⟨_, Src.of_cells (by have := h5.length hsize; rwa [hyl] at this) (hone h5) (.inr ⟨_, _, e5, fun j v hj => ?_⟩), h5⟩
          rw [List.getElem?_take] at hj
          split at hj
          · rw [List.getElem?_drop] at hj
            have := h4 _ _ hj
            rw [hsz, Nat.add_assoc]; exact this
          · cases hj
  unfold srcData at he
  split at he
  · rename_i t' ys'
    split at he
    · rename_i ht
      subst ht
      cases he
      obtain ⟨v, h1, A, n, cap, cs, h2, h3, h4, h5, h6⟩ := hx
      obtain rfl : vx = .slice A n cap := by rw [← h2]; simpa using h1
      subst h3
      refine ⟨cs, Src.of_cells (h5.length hsize) (hone h5) ?_, h5⟩
      rcases h6 with h6 | ⟨b, o, h6, _, h7⟩
      · exact .inl h6
      · exact .inr ⟨b, o, h6, h7⟩
    · cases he
  · rename_i k
    have hv : vx = C.ρ k := by simpa [RelSV, RelV1, RelAtom] using hx
    split at he
    · rename_i e t' ys' hg
      split at he
      · rename_i ht; subst ht; cases he; exact own hg (.inl ⟨e, rfl⟩) hv
      · cases he
    · rename_i t' ys' hg
      split at he
      · rename_i ht; subst ht; cases he; exact own hg (.inr rfl) hv
      · cases he
    · cases he
  · rename_i k lo n sz
    split at he
    · rename_i hsz
      split at he
      · rename_i e t' ys' hg
        split at he
        · rename_i ht; subst ht; cases he; exact seg hg (.inl ⟨e, rfl⟩) rfl hsz rfl
        · cases he
      · rename_i t' ys' hg
        split at he
        · rename_i ht; subst ht; cases he; exact seg hg (.inr rfl) rfl hsz rfl
        · cases he
      · cases he
    · cases he
  · cases he
    exact nil (A := none) (by simpa [RelSV, RelV1, RelAtom] using hx) rfl
  · cases he
    obtain ⟨A, h1⟩ := hx
    exact nil (A := A) (by simpa using h1) rfl
  · rename_i s
    split at he
    · cases he
      obtain rfl := rel_str hx
      have hsz : s.data.toList.length = s.size := Array.length_toList
      refine ⟨s.data.toList.map fun b => .int .u8 b.toNat, ⟨by simp [Ty.size], fun u hu => ?_, fun w1 => by simp [Builtin.lenOf, hsz], fun w1 _ => ?_⟩, bytes_rel _⟩
      · obtain ⟨b, _, rfl⟩ := List.mem_map.1 hu; rfl
      · have h1 : (s.extract 0 s.size).data = s.data := by rw [ByteArray.data_extract]; exact Array.extract_size
        simp only [Builtin.firstCells, List.length_map, hsz, h1]
        simp only [Sem.run_pure]
        congr 1
        apply Array.ext'
        simp
    · cases he
  · cases he

/-- append, where there is room. -/
theorem run_append_in {T T' e ty : TypeId} {i : TypeInfo} {size : Nat} (ht : P.underlying T = some (.slice e)) (hi : P.info? e = some i) (hsz : i.size = size) {d : TypeDesc} (ht' : P.underlying T' = some d) (hd : ∀ k, d ≠ .int k)
    {g n cap m : Nat} {cur : Array Value} (hg : w.heap[g]? = some (.cells cur e (0, 0))) {vx : Value} {news : List Value} (hs : Src P w size m vx news) (hroom : n + m ≤ cap) (hfit : n * size + news.length ≤ cur.size) :
    (Builtin.append_ #[T, T'] ty #[.slice (some ⟨g, 0, none⟩) n cap, vx]).run P w = .ok (.slice (some ⟨g, 0, none⟩) (n + m) cap) (w.setRow g (splice cur.toList (n * size) news).toArray) := by
  have hst := run_storeCells_at P g (n * size) e news 0 cur w hg (by simpa using hfit) hs.one
  simp only [Nat.add_zero] at hst
  have hsplice : cur.toList.take (n * size) ++ news ++ cur.toList.drop (n * size + news.length) = splice cur.toList (n * size) news := by simp [splice]
  rw [hsplice] at hst
  simp only [Builtin.append_, Sem.run_bind, run_underlying ht, Result.andThen_ok, sizeOf, typeInfo, hi, List.getElem?_toArray, List.getElem?_cons_zero, List.getElem?_cons_succ, run_program, Sem.run_pure, run_underlying ht', hs.lenOf, Bool.false_eq_true, if_false, hsz, hs.first w rfl,
    hroom, if_true, Bool.not_false, Addr.add_lit, Nat.zero_add, hst]

/-- append of nothing to nothing. -/
theorem run_append_nothing {T T' e ty : TypeId} {i : TypeInfo} {size : Nat} (ht : P.underlying T = some (.slice e)) (hi : P.info? e = some i) (hsz : i.size = size) {d : TypeDesc} (ht' : P.underlying T' = some d) (hd : ∀ k, d ≠ .int k)
    {A : Option Addr} {vx : Value} (hs : Src P w size 0 vx []) : (Builtin.append_ #[T, T'] ty #[.slice A 0 0, vx]).run P w = .ok (.slice A 0 0) w := by
  have hst : (match A with | some a => storeCells (a.add (0 * size)) [] | none => pure () : Sem Unit).run P w = .ok () w := by cases A <;> rfl
  simp only [Builtin.append_, Sem.run_bind, run_underlying ht, Result.andThen_ok, sizeOf, typeInfo, hi, List.getElem?_toArray, List.getElem?_cons_zero, List.getElem?_cons_succ, run_program, Sem.run_pure, run_underlying ht', hs.lenOf, Bool.false_eq_true, if_false, hsz, hs.first w rfl,
    Nat.add_zero, Nat.le_refl, if_true, Bool.not_false]
  cases A with
  | none => rfl
  | some a => rfl

/-- append, where there is none. -/
theorem run_append_out {T T' e ty : TypeId} {i : TypeInfo} {size : Nat} {z : Value} (ht : P.underlying T = some (.slice e)) (hi : P.info? e = some i) (hsz : i.size = size) (hz : i.zero = some z) {d : TypeDesc} (ht' : P.underlying T' = some d) (hd : ∀ k, d ≠ .int k)
    {A : Option Addr} {n cap m : Nat} {olds news : List Value} {vx : Value} (ho : Src P w size n (.slice A n cap) olds) (hs : Src P w size m vx news) (hroom : cap < n + m) (h63 : n + m ≤ 9223372036854775807) (hb : (n + m) * i.bytes ≤ 140737488355328) :
    (Builtin.append_ #[T, T'] ty #[.slice A n cap, vx]).run P w = .ok (.slice (some ⟨w.heap.size, 0, none⟩) (n + m) (grownCap w (n + m) cap e))
      (w.drew.alloc (.cells (olds.toArray ++ news.toArray ++ Builtin.zeroCells z.cells (grownCap w (n + m) cap e - (n + m))) e)) := by
  have h1 : ¬ (n + m ≤ cap) := by omega
  have h2 : ¬ ((((n + m : Nat) : Int) > IntKind.i64.max) ∧ (False ∨ i.bytes = 0)) := by
    rintro ⟨h3, _⟩; rw [IntKind.max_i64] at h3; omega
  have h3 : ¬ (Builtin.nextslicecap (n + m) cap * i.bytes > 2 ^ 48) := by
    have := growslice_fits hroom hb
    simp; omega
  have hq : (Question.appendCap (n + m) cap e).forced = false := rfl
  simp only [Builtin.append_, Sem.run_bind, run_underlying ht, Result.andThen_ok, sizeOf, typeInfo, hi, List.getElem?_toArray, List.getElem?_cons_zero, List.getElem?_cons_succ, run_program, Sem.run_pure, run_underlying ht', hs.lenOf, Bool.false_eq_true, if_false, hsz,
    h1, h2, h3, run_choose, hq, run_askRoom, ho.first w.drew rfl, hs.first w.drew rfl, zeroValue, hz, newRow, run_newObj, Bool.not_false, if_true, World.drew_eq]
  rfl

/-- Is it a slice's or a string's type? -/
def srcType : Option TI → Bool
  | some { d := .slice _, .. } => true
  | some { d := .str, .. } => true
  | _ => false

def execAppend (ti : TypeId → Option TI) (T T' : TypeId) (s x : SVal) (st : St) (dst : Option Tmp) (K : St → Option R) : Option R :=
  match ti T with
  | some { d := .slice e, .. } =>
    match ti e with
    | none => none
    | some ie =>
      if ie.cells.size = ie.size ∧ 0 < ie.size ∧ ie.zero.length = ie.size ∧ 0 < ie.bytes ∧ srcType (ti T') = true then
        match srcData ie.cells st x with
        | none => none
        | some ys =>
          match s with
          | .v (.one (.own k)) =>
            match hget k st.heap with
            | some (.row e' t xs) =>
              if h : t = ie.cells then
                if e' = e then
                  bif decide (xs.length + ys.length < 140737488355328 / ie.bytes) then
                    match dst with
                    | some n => if hhas (.s n 0) st.heap = true then none else
                      K (St.putD { st.kill k with heap := (.s n 0, .row e ie.cells ((h ▸ xs) ++ ys)) :: (st.kill k).heap } (some n) (.v (.one (.own (.s n 0)))))
                    | none => none
                  else none
                else none
              else none
            | _ => none
          | .v (.one (.const (.slice none 0 0))) => bif decide (ys.length < 140737488355328 / ie.bytes) then newBlock st dst (.row e ie.cells ys) (fun k => .v (.one (.own k))) K else none
          | .v (.one .e0) => bif decide (ys.length < 140737488355328 / ie.bytes) then newBlock st dst (.row e ie.cells ys) (fun k => .v (.one (.own k))) K else none
          | _ => none
      else none
  | _ => none

theorem lim_bytes {n b : Nat} (h : n < 140737488355328 / b) (hb : 0 < b) : n * b ≤ 140737488355328 ∧ n ≤ 140737488355328 := by
  have h1 : n * b ≤ 140737488355328 / b * b := Nat.mul_le_mul_right _ (Nat.le_of_lt h)
  have h2 : 140737488355328 / b * b ≤ 140737488355328 := Nat.div_mul_le_self _ _
  have h3 : n * 1 ≤ n * b := Nat.mul_le_mul_left _ hb
  omega

theorem grownCap_bounds (w : World) (need old : Nat) (e : TypeId) (h : need ≤ 140737488355328) : need ≤ grownCap w need old e ∧ grownCap w need old e ≤ maxLen := by
  exact ⟨grownCap_ge w need old e, grownCap_le_maxLen w need old e (by simp only [maxLen]; omega)⟩

/-- The row that append lays anew. -/
theorem row_grown (h : Inv B C w a st) {t : Ty} {xs ys : List t.den} {olds news : List Value} {zc : Array Value} {cap : Nat} (hz : zc.size = t.size) (h1 : concatR ((rels B.P t).cells C.I w) xs olds) (h2 : concatR ((rels B.P t).cells C.I w) ys news)
    (hcap : xs.length + ys.length ≤ cap) (hm : cap ≤ maxLen) (hpos : 0 < cap) (e : TypeId) {k : Tok} {w1 : World} (hw : w1 = w.drew.alloc (.cells (olds.toArray ++ news.toArray ++ Builtin.zeroCells zc (cap - (xs.length + ys.length))) e)) (C' : Ctx) (hI : C'.I = C.I)
    (hρ : C'.ρ k = .slice (some ⟨w.heap.size, 0, none⟩) (xs.length + ys.length) cap) :
    RelBlock B.P C' w1 k (.row e t (xs ++ ys)) := by
  have hsize : ∀ x cs, (rels B.P t).cells C.I w x cs → cs.length = t.size := fun _ _ h => rels_size B.P t h
  have l1 := h1.length hsize
  have l2 := h2.length hsize
  have hlater : Later C.I w w1 := by
    subst hw
    exact ⟨by simp, fun x hx => by rw [heap_alloc_old w.drew _ x (h.heap.imm x hx)]; rfl⟩
  have h3 := h1.append h2
  refine .inr ⟨w.heap.size, cap, _, by rw [hρ, List.length_append], hpos, by rw [hw]; exact heap_alloc_new w.drew _, by rw [List.length_append]; exact hcap, hm, ?_, ?_⟩
  · simp only [Array.size_append, List.size_toArray, size_zeroCells, hz, l1, l2, ← Nat.add_mul]
    congr 1; omega
  · have e1 : (olds.toArray ++ news.toArray ++ Builtin.zeroCells zc (cap - (xs.length + ys.length))).toList.take ((xs ++ ys).length * t.size) = olds ++ news := by
      have l3 : ((xs ++ ys).length * t.size) = (olds ++ news).length := by rw [List.length_append, List.length_append, l1, l2, Nat.add_mul]
      simp only [Array.toList_append, List.append_assoc]
      rw [← List.append_assoc, l3, List.take_left]
    rw [e1, hI]
    exact h3.imp fun _ _ hh => (rels_later B.P hlater t).1 _ _ hh

theorem execAppend_sound (hT : TIs B.P ti) (h : Inv B C w a st) {T T' ty : TypeId} {s x : SVal} {vs vx : Value} (hs : RelSV B.P C w s vs) (hx : RelSV B.P C w x vx) {dst : Option Tmp}
    (he : execAppend ti T T' s x st dst K = some r) : Makes B w a dst K r (Builtin.append_ #[T, T'] ty #[vs, vx]) := by
  unfold execAppend at he
  split at he
  case h_2 => cases he
  rename_i e sz by_ z c hS
  split at he
  · cases he
  rename_i ie hie
  split at he
  case isFalse => cases he
  rename_i hc
  obtain ⟨hc1, hc2, hc3, hc4, hc5⟩ := hc
  split at he
  · cases he
  rename_i ys hys
  obtain ⟨news, hsrc, hnews⟩ := srcData_rel h hx hys
  obtain ⟨d, ti1, z1, hu, hd, _⟩ := hT T _ hS
  obtain rfl : d = .slice e := hd
  obtain ⟨d2, ti2, zv, hu2, hd2, hinf, hsz2, hby2, hzv, hzc⟩ := hT e ie hie
  obtain ⟨d', hu', hd'⟩ : ∃ d', B.P.underlying T' = some d' ∧ ∀ k, d' ≠ .int k := by
    unfold srcType at hc5
    split at hc5
    · rename_i h5
      obtain ⟨d', t', z', hu', hd', _⟩ := hT T' _ h5
      exact ⟨d', hu', fun k e => by rw [show d' = _ from hd'] at e; cases e⟩
    · rename_i h5
      obtain ⟨d', t', z', hu', hd', _⟩ := hT T' _ h5
      exact ⟨d', hu', fun k e => by rw [show d' = _ from hd'] at e; cases e⟩
    · cases hc5
  have hzs : zv.cells.size = ie.cells.size := by
    have := congrArg List.length hzc
    rw [Array.length_toList] at this
    rw [this, hc3, hc1]
  rw [hc1] at hsrc
  have hsize : ∀ x cs, (rels B.P ie.cells).cells C.I w x cs → cs.length = ie.cells.size := fun _ _ h => rels_size B.P ie.cells h
  have hone : ∀ {xs : List ie.cells.den} {cs}, concatR ((rels B.P ie.cells).cells C.I w) xs cs → ∀ u ∈ cs, u.oneCell' = true := fun h => h.mem (fun _ _ hh => rels_one B.P ie.cells hh)
  have nil : ∀ {A : Option Addr}, vs = .slice A 0 0 → (bif decide (ys.length < 140737488355328 / ie.bytes) then newBlock st dst (.row e ie.cells ys) (fun k => .v (.one (.own k))) K else none) = some r → Makes B w a dst K r (Builtin.append_ #[T, T'] ty #[vs, vx]) := by
    rintro A rfl he
    obtain ⟨hb, hK⟩ := bif_some' he
    simp only [decide_eq_true_eq] at hb
    obtain ⟨b1, b2⟩ := lim_bytes hb hc4
    have ho : Src B.P w ie.size 0 (.slice A 0 0) [] := Src.of_cells (by simp) (fun _ h => by cases h) (.inl rfl)
    rcases Nat.eq_zero_or_pos ys.length with h0 | h0
    · have hy : ys = [] := List.eq_nil_of_length_eq_zero h0
      subst hy
      obtain rfl : news = [] := hnews
      have hrun := run_append_nothing (ty := ty) (A := A) hu hinf hsz2 hu' hd' hsrc
      refine MakesQ.makes (newBlock_sound h hK hrun (Below.refl _ _) (fun g hg => by cases A <;> simp [Block.at, blk] at hg) (fun _ h => by cases h) (fun k _ => .inl ⟨rfl, A, C.with_ρ _ _⟩) (fun k => ⟨by rw [RelSV, RelV1, RelAtom, C.with_ρ], fun k' hk' => by simpa [SVal.toks, SVal.atoms, V1.atoms, Atom.toks] using hk'⟩))
    · have hrun := run_append_out (ty := ty) hu hinf hsz2 hzv hu' hd' ho hsrc (by omega) (by omega) (by rw [hby2, Nat.zero_add]; exact b1)
      rw [Nat.zero_add] at hrun
      obtain ⟨g1, g2⟩ := grownCap_bounds w ys.length 0 e b2
      refine MakesQ.makes (newBlock_sound h hK hrun (((Below.refl _ _).drew).alloc (Nat.le_refl _) _) (fun g hg => ?_) (fun _ h => by cases h) (fun k hk => ?_) (fun k => ⟨by rw [RelSV, RelV1, RelAtom, C.with_ρ], fun k' hk' => by simpa [SVal.toks, SVal.atoms, V1.atoms, Atom.toks] using hk'⟩))
      · simp only [Block.at, blk] at hg
        split at hg
        · cases hg
        · cases hg; exact Nat.le_refl _
      · have := row_grown (xs := []) h hzs rfl hnews (cap := grownCap w ys.length 0 e) (by simpa using g1) g2 (by omega) e (k := k) (w1 := w.drew.alloc (.cells (([] : List Value).toArray ++ news.toArray ++ Builtin.zeroCells zv.cells (grownCap w ys.length 0 e - ys.length)) e)) (by simp only [List.length_nil, Nat.zero_add]) (C.with k (.slice (some ⟨w.heap.size, 0, none⟩) ys.length (grownCap w ys.length 0 e))) rfl (by rw [C.with_ρ]; simp)
        simpa using this
  split at he
  · rename_i k
    have hv : vs = C.ρ k := by simpa [RelSV, RelV1, RelAtom] using hs
    split at he
    · rename_i e' t xs hg
      split at he
      case isFalse => cases he
      rename_i ht
      subst ht
      split at he
      case isFalse => cases he
      rename_i hee
      subst hee
      obtain ⟨hb, hK⟩ := bif_some' he
      simp only [decide_eq_true_eq] at hb
      obtain ⟨b1, b2⟩ := lim_bytes hb hc4
      split at hK
      · rename_i n
        split at hK
        · cases hK
        rename_i hk
        rw [hhas_iff] at hk
        have hm := hget_mem hg
        have hrb := h.heap.blocks _ _ hm
        have fin : ∀ {v' : Value} {w' : World}, (Builtin.append_ #[T, T'] ty #[vs, vx]).run B.P w = .ok v' w' → Evo (fun x => (Block.row e' ie.cells xs).at (C.ρ k) = some x) w w' → (∀ g, blk v' = some g → (Block.row e' ie.cells xs).at (C.ρ k) = some g ∨ w.heap.size ≤ g) →
            (Goes C (C.with (.s n 0) v') w w' → RelBlock B.P (C.with (.s n 0) v') w' (.s n 0) (.row e' ie.cells (xs ++ ys))) → Makes B w a (some n) K r (Builtin.append_ #[T, T'] ty #[vs, vx]) := by
          intro v' w' hrun hev hblk hrel
          exact ⟨_, _, _, w', v', hK, hrun, h.swap hm hev hk (not_fix h.heap n 0) hblk rfl hrel, by rw [RelSV, RelV1, RelAtom, C.with_ρ], fun k' hk' => by
            have : k' = .s n 0 := by simpa [SVal.toks, SVal.atoms, V1.atoms, Atom.toks] using hk'
            rw [this]; simp⟩
        obtain ⟨A, cap, cells, hρ, hle, hcells, hA⟩ := row_cells hrb (.inl ⟨e', rfl⟩)
        rw [← hv] at hρ
        subst hρ
        have ho : Src B.P w ie.size xs.length (.slice A xs.length cap) cells := by
          rw [← hc1]
          refine Src.of_cells (hcells.length hsize) (hone hcells) ?_
          rcases hA with hA | hA
          · left; subst hA; exact hcells
          · exact .inr hA
        by_cases hroom : xs.length + ys.length ≤ cap
        · rcases hrb with ⟨h1, A', h2⟩ | ⟨g, cap', cur, h1, h0, h2, h3, h4, h5, h6⟩
          · rw [← hv] at h2
            injection h2 with _ _ h2
            have hx0 : xs = [] := List.eq_nil_of_length_eq_zero h1
            have hy0 : ys = [] := List.eq_nil_of_length_eq_zero (by omega)
            subst hx0; subst hy0; subst h2
            obtain rfl : news = [] := hnews
            have hrun := run_append_nothing (ty := ty) (A := A) hu hinf hsz2 hu' hd' hsrc
            exact fin hrun (Evo.refl _ _) (fun g hg => by cases A <;> simp [blk] at hg) (fun _ => .inl ⟨rfl, A, C.with_ρ _ _⟩)
          · rw [← hv] at h1
            injection h1 with h1 _ h1'
            subst h1 h1'
            have hfit : xs.length * ie.size + news.length ≤ cur.size := by
              rw [hsrc.len, h5, hc1, ← Nat.add_mul]; exact Nat.mul_le_mul_right _ hroom
            have hrun := run_append_in (ty := ty) hu hinf hsz2 hu' hd' h2 hsrc hroom hfit
            have hl : ie.size = ie.cells.size := hc1.symm
            refine fin hrun ((evo_setRow w g _).mono fun x hx => by rw [hx, ← hv]; simp [Block.at, blk, Nat.ne_of_gt h0]) (fun g' hg' => .inl (by rw [← hv]; simpa [Block.at, blk, Nat.ne_of_gt h0] using hg')) (fun gs => .inr ⟨g, cap, _, by rw [C.with_ρ, List.length_append], h0, setRow_heap w g cur _ e' _ h2, by rw [List.length_append]; exact hroom, h4, ?_, ?_⟩)
            · rw [List.size_toArray, splice_length (by simpa using hfit), Array.length_toList, h5]
            · have h7 : (splice cur.toList (xs.length * ie.size) news).take ((xs ++ ys).length * ie.cells.size) = cur.toList.take (xs.length * ie.cells.size) ++ news := by
                have h8 : ((xs ++ ys).length * ie.cells.size) = (cur.toList.take (xs.length * ie.size) ++ news).length := by
                  have hcl : cur.toList.length = cur.size := Array.length_toList
                  rw [List.length_append, List.length_append, List.length_take, hcl, hsrc.len, hl, Nat.add_mul]
                  rw [hsrc.len, hl] at hfit
                  omega
                rw [splice, ← List.append_assoc, h8, List.take_left, hl]
              simp only
              rw [h7]
              exact (h6.append hnews).imp fun _ _ => cells_goes gs
        · have hrun := run_append_out (ty := ty) hu hinf hsz2 hzv hu' hd' ho hsrc (by omega) (by omega) (by rw [hby2]; exact b1)
          obtain ⟨g1, g2⟩ := grownCap_bounds w (xs.length + ys.length) cap e' b2
          refine fin hrun (Evo.of_below (((Below.refl _ _).drew).alloc (Nat.le_refl _) _) _) (fun g hg => ?_) (fun gs => row_grown h hzs hcells hnews g1 g2 (by omega) e' rfl _ rfl (C.with_ρ _ _))
          simp only [blk] at hg
          split at hg
          · cases hg
          · cases hg; exact .inr (Nat.le_refl _)
      · cases hK
    · cases he
  · exact nil (A := none) (by simpa [RelSV, RelV1, RelAtom] using hs) he
  · obtain ⟨A, h1⟩ := hs
    exact nil (A := A) (by simpa using h1) he
  · cases he
end
end Go.AM

/- make; copy. -/
namespace Go.AM
open Go.RowKit

def zInt (k : IntKind) : List Value → Option (List Value)
  | .int k' n :: cs => if k = k' ∧ n = 0 then some cs else none
  | _ => none
def zBool : List Value → Option (List Value)
  | .bool b :: cs => if b = false then some cs else none
  | _ => none
def zStr : List Value → Option (List Value)
  | .string s :: cs => if s.data.toList = [] then some cs else none
  | _ => none
def zSlice : List Value → Option (List Value)
  | .slice none n c :: cs => if n = 0 ∧ c = 0 then some cs else none
  | _ => none

/-- Do these values begin with a type's zero? What is left. -/
def isZ : Ty → List Value → Option (List Value)
  | .unit, cs => some cs
  | .int k, cs => zInt k cs
  | .bool, cs => zBool cs
  | .str, cs => zStr cs
  | .pair a b, cs => match isZ a cs with | some ds => isZ b ds | none => none
  | .list _, cs => zSlice cs
  | .agg t, cs => isZ t cs
  | .arr n t, cs => (List.replicate n ()).foldl (fun o _ => match o with | some ds => isZ t ds | none => none) (some cs)
  | .fn _ _, _ | .opt _, _ | .sum _ _, _ => none

theorem isZ_arr {f : List Value → Option (List Value)} {α : Type} {R : α → List Value → Prop} {d : α} (hf : ∀ cs rest, f cs = some rest → ∃ c1, cs = c1 ++ rest ∧ R d c1) : ∀ (n : Nat) {cs rest : List Value},
    (List.replicate n ()).foldl (fun o _ => match o with | some ds => f ds | none => none) (some cs) = some rest → ∃ c1, cs = c1 ++ rest ∧ concatR R (List.replicate n d) c1
  | 0, cs, rest, h => by cases h; exact ⟨[], rfl, rfl⟩
  | n + 1, cs, rest, h => by
    simp only [List.replicate_succ, List.foldl_cons] at h
    cases hc : f cs with
    | none =>
      rw [hc] at h
      have : ∀ m, (List.replicate m ()).foldl (fun o _ => match o with | some ds => f ds | none => none) (none : Option (List Value)) = none := by
        intro m; induction m with
        | zero => rfl
        | succ m ih => simpa [List.replicate_succ] using ih
      rw [this] at h; cases h
    | some ds =>
      rw [hc] at h
      obtain ⟨c1, rfl, h1⟩ := hf _ _ hc
      obtain ⟨c2, rfl, h2⟩ := isZ_arr hf n h
      exact ⟨c1 ++ c2, by simp, c1, c2, rfl, h1, h2⟩

theorem isZ_rel {P : Program} {I : Nat → Prop} {w : World} : ∀ (t : Ty) {cs rest : List Value}, isZ t cs = some rest → ∃ c1, cs = c1 ++ rest ∧ (rels P t).cells I w t.dflt c1 := by
  intro t
  induction t with
  | unit => intro cs rest h; cases h; exact ⟨[], rfl, rfl⟩
  | int k =>
    intro cs rest h
    unfold isZ zInt at h
    split at h
    · split at h
      · rename_i hc; obtain ⟨rfl, rfl⟩ := hc; cases h; exact ⟨[_], rfl, rfl⟩
      · cases h
    · cases h
  | bool =>
    intro cs rest h
    unfold isZ zBool at h
    split at h
    · split at h
      · rename_i hc; subst hc; cases h; exact ⟨[_], rfl, rfl⟩
      · cases h
    · cases h
  | str =>
    intro cs rest h
    unfold isZ zStr at h
    split at h
    · rename_i s cs'
      split at h
      · rename_i hc
        cases h
        have : s = ⟨#[]⟩ := by
          cases s with
          | mk d => simp only at hc; have : d = #[] := by apply Array.ext'; simpa using hc
                    rw [this]
        subst this
        exact ⟨[_], rfl, rfl⟩
      · cases h
    · cases h
  | pair a b iha ihb =>
    intro cs rest h
    unfold isZ at h
    split at h
    · rename_i ds hd
      obtain ⟨c1, rfl, h1⟩ := iha hd
      obtain ⟨c2, rfl, h2⟩ := ihb h
      exact ⟨c1 ++ c2, by simp, c1, c2, rfl, h1, h2⟩
    · cases h
  | list t =>
    intro cs rest h
    unfold isZ zSlice at h
    split at h
    · split at h
      · rename_i hc; obtain ⟨rfl, rfl⟩ := hc; cases h
        exact ⟨[_], rfl, _, rfl, none, 0, 0, [], rfl, rfl, Nat.le_refl _, rfl, .inl rfl⟩
      · cases h
    · cases h
  | arr n t ih =>
    intro cs rest h
    obtain ⟨c1, e, h1⟩ := isZ_arr (R := (rels P t).cells I w) (d := t.dflt) (fun _ _ h => ih h) n h
    exact ⟨c1, e, by simp [Ty.dflt], h1⟩
  | agg t ih => intro cs rest h; exact ih h
  | fn => intro cs rest h; cases h
  | opt => intro cs rest h; cases h
  | sum => intro cs rest h; cases h

theorem range_mod {α : Type} (z : List α) (d : α) (hz : z ≠ []) : ∀ n, (List.range (n * z.length)).map (fun i => z.getD (i % z.length) d) = (List.replicate n z).flatten
  | 0 => by simp
  | n + 1 => by
    have hpos : 0 < z.length := List.length_pos_iff.2 hz
    rw [Nat.succ_mul, List.range_add, List.map_append, range_mod z d hz n, List.replicate_succ', List.flatten_append]
    congr 1
    simp only [List.map_map, List.flatten_cons, List.flatten_nil, List.append_nil]
    apply List.ext_getElem?
    intro i
    rw [List.getElem?_map]
    by_cases hi : i < z.length
    · rw [List.getElem?_range hi]
      simp only [Option.map_some, Function.comp]
      rw [Nat.add_comm, Nat.add_mul_mod_self_right, Nat.mod_eq_of_lt hi, List.getElem?_eq_getElem hi]
      simp [List.getD, List.getElem?_eq_getElem hi]
    · rw [List.getElem?_eq_none (by simp only [List.length_range]; omega), List.getElem?_eq_none (by omega)]
      rfl

theorem concatR_replicate {α : Type} {R : α → List Value → Prop} {d : α} {z : List Value} (h : R d z) : ∀ n, concatR R (List.replicate n d) (List.replicate n z).flatten
  | 0 => rfl
  | n + 1 => ⟨z, _, by simp [List.replicate_succ], h, concatR_replicate h n⟩

section
variable {B : Base} {C : Ctx} {w : World} {a : Act} {st : St} {ti : TypeId → Option TI} {R : Type} {K : St → Option R} {r : R}

def execMake (ti : TypeId → Option TI) (T : TypeId) (l c : SVal) (st : St) (dst : Option Tmp) (K : St → Option R) : Option R :=
  match ti T with
  | some { d := .slice e, .. } =>
    match ti e with
    | none => none
    | some ie =>
      match isZ ie.cells ie.zero, intS l, intS c with
      | some [], some (_, n), some (_, m) =>
        if (0 < ie.size ∧ 0 < ie.bytes) ∧ ie.size = ie.cells.size then
          bif decide (0 ≤ n ∧ n ≤ m ∧ m ≤ ((140737488355328 / ie.bytes : Nat) : Int)) then
            newBlock st dst (.row e ie.cells (List.replicate n.toNat ie.cells.dflt)) (fun k => .v (.one (.own k))) K
          else none
        else none
      | _, _, _ => none
  | _ => none

theorem execMake_sound (hT : TIs B.P ti) (h : Inv B C w a st) {T : TypeId} {l c : SVal} {vl vc : Value} (hl : RelSV B.P C w l vl) (hc : RelSV B.P C w c vc) {dst : Option Tmp} (he : execMake ti T l c st dst K = some r) : MakesQ B w a dst K r (Instr.makeSlice T vl vc) := by
  unfold execMake at he
  split at he
  case h_2 => cases he
  rename_i e sz by_ z c' hS
  split at he
  · cases he
  rename_i ie hie
  split at he
  case h_2 => cases he
  rename_i kn n km m hz hn hm
  split at he
  case isFalse => cases he
  rename_i hpos
  obtain ⟨hpos, hzs⟩ := hpos
  obtain ⟨hb, he'⟩ := bif_some' he
  simp only [decide_eq_true_eq] at hb
  obtain ⟨b1, b2, b3⟩ := hb
  obtain rfl := intS_rel hl hn
  obtain rfl := intS_rel hc hm
  obtain ⟨d, ti1, z1, hu, hd, _⟩ := hT T _ hS
  obtain rfl : d = .slice e := hd
  obtain ⟨d2, ti2, zv, hu2, hd2, hinf, hsz2, hby2, hzv, hzc⟩ := hT e ie hie
  obtain ⟨c1, e1, hrel⟩ := isZ_rel (P := B.P) (I := C.I) (w := w) ie.cells hz
  rw [List.append_nil] at e1
  have hlen := rels_size B.P ie.cells hrel
  have hsizeEq : ie.cells.size = zv.cells.size := by rw [← hlen, ← e1, ← hzc]; exact Array.length_toList
  have h1 : (140737488355328 / ie.bytes) * ie.bytes ≤ 140737488355328 := Nat.div_mul_le_self _ _
  have hmt : m = (m.toNat : Int) := by omega
  have hnt : n = (n.toNat : Int) := by omega
  have h2 : ie.bytes * m.toNat ≤ 140737488355328 := by
    rw [Nat.mul_comm]; exact Nat.le_trans (Nat.mul_le_mul_right _ (by omega)) h1
  have h3 : m.toNat ≤ 140737488355328 := by
    have : 1 * m.toNat ≤ ie.bytes * m.toNat := Nat.mul_le_mul_right _ hpos.2
    omega
  have hbig : (ti2.bytes : Int) * m ≤ 281474976710656 := by
    rw [hby2, hmt, ← Int.natCast_mul]
    omega
  have hrun := run_make (P := B.P) w T e ti2 zv hu hinf hzv kn km n m b1 b2 hbig (by omega)
  have hsz3 : ti2.size = zv.cells.size := by rw [hsz2, ← hsizeEq]; exact hzs
  rw [hsz3] at hrun
  have hcells : (madeCells zv.cells (m.toNat * zv.cells.size)).toList = (List.replicate m.toNat c1).flatten := by
    have hz1 : zv.cells.toList = c1 := by rw [hzc, e1]
    have hcl : zv.cells.toList.length = zv.cells.size := Array.length_toList
    rw [← hz1, ← hcl, ← range_mod zv.cells.toList default (by intro h0; rw [h0] at hcl; simp at hcl; omega)]
    simp only [madeCells, Array.toList_map, Array.toList_range]
    refine List.map_congr_left fun i _ => ?_
    rw [Array.getElem!_eq_getD]
    simp [Array.getD_eq_getD_getElem?, List.getD]
  have hroom : concatR ((rels B.P ie.cells).cells C.I w) (List.replicate n.toNat ie.cells.dflt) ((madeCells zv.cells (m.toNat * zv.cells.size)).toList.take (n.toNat * ie.cells.size)) := by
    rw [hcells]
    have := (concatR_replicate (R := (rels B.P ie.cells).cells C.I w) hrel m.toNat).take (fun _ _ => rels_size B.P ie.cells) n.toNat
    rw [List.take_replicate, Nat.min_eq_left (by omega)] at this
    exact this
  refine newBlock_sound h he' hrun ((Below.refl _ _).alloc (Nat.le_refl _) _) (fun g hg => ?_) (fun _ h => by cases h) (fun k _ => ?_)
    (fun k => ⟨by rw [RelSV, RelV1, RelAtom, C.with_ρ], fun k' hk' => by simpa [SVal.toks, SVal.atoms, V1.atoms, Atom.toks] using hk'⟩)
  · simp only [Block.at, blk] at hg
    split at hg
    · cases hg
    · cases hg; exact Nat.le_refl _
  · have := row_new (C := C) h (t := ie.cells) (xs := List.replicate n.toNat ie.cells.dflt) (cs := madeCells zv.cells (m.toNat * zv.cells.size)) (cap := m.toNat) (by rw [size_madeCells, hsizeEq]) (by simp only [maxLen]; omega) (by simp; omega) (by simpa using hroom) e (w1 := w) rfl (k := k)
    simpa using this
end
end Go.AM

/- What one operation does to an abstract state. -/
namespace Go.AM
open Go.RowKit

/-- When two structs are alike. -/
structure EqT where
  t : Ty
  eq : t.den → t.den → Bool

def EqT.Ok (P : Program) (T : TypeId) (e : EqT) : Prop :=
  P.eqGuardType P.depth T = false ∧ ∀ (I : Nat → Prop) (w : World) x y cs ds, (rels P e.t).cells I w x cs → (rels P e.t).cells I w y ds → ∀ w', (Op.equal T (.agg cs.toArray) (.agg ds.toArray)).run P w' = .ok (e.eq x y) w'

structure TEnv where
  ti : TypeId → Option TI
  isB : TypeId → Bool
  eqs : TypeId → Option EqT

structure TEnv.Ok (P : Program) (E : TEnv) : Prop where
  ti : TIs P E.ti
  isB : ∀ T, E.isB T = true → P.underlying T = some .bool
  eqs : ∀ T e, E.eqs T = some e → e.Ok P T

def pickK {R : Type} (t : Bool) (x y : SVal) (K : SVal → Option R) : Option R :=
  match x, y with
  | .v (.one (.pure .bool a)), .v (.one (.pure .bool b)) => K (pB (bif t then a else b))
  | x, y => bif t then K x else K y

def execNil {R : Type} (x : SVal) (K : SVal → Option R) : Option R :=
  match x with
  | .v (.one (.ptr ..)) | .v (.one (.rptr ..)) | .v (.one (.aptr ..)) | .v (.one (.cptr ..)) | .v (.one (.func ..)) => K x
  | _ => none

def execEq {R : Type} (E : TEnv) (op : BinOp) (T : TypeId) (as bs : List Atom) (K : SVal → Option R) : Option R :=
  match E.eqs T with
  | none => none
  | some e => match implodeAll e.t as, implodeAll e.t bs with
    | some x, some y => match op with
      | .eql => K (pB (e.eq x y))
      | .neq => K (pB (!e.eq x y))
      | _ => none
    | _, _ => none

def execCmp {R : Type} (E : TEnv) (op : BinOp) (T : TypeId) (x y : SVal) (K : SVal → Option R) : Option R :=
  match x, y with
  | .v (.agg as), .v (.agg bs) => execEq E op T as bs K
  | x, y => execBin (E.isB T) op x y K

def execBuiltin {R : Type} (E : TEnv) (st : St) (b : Builtin) (args : List Operand) (argTypes : Array TypeId) (K : SVal → Option R) : Option R :=
  match b, args with
  | .len, [x] => match argTypes[0]? with | some T => execLen E.ti T st (evalS st x) K | none => none
  | .min, [x, y] => execMinMax false (evalS st x) (evalS st y) K
  | .max, [x, y] => execMinMax true (evalS st x) (evalS st y) K
  | _, _ => none

/-- Operations that leave the world as it is. -/
def execT {R : Type} (E : TEnv) (o : Op) (st : St) (K : SVal → Option R) : Option R :=
  match o with
  | .move x | .assign x => K (evalS st x)
  | .pick c x y => match evalS st c with
    | .v (.one (.pure .bool t)) => pickK t (evalS st x) (evalS st y) K
    | _ => none
  | .binOp op T x y _ => execCmp E op T (evalS st x) (evalS st y) K
  | .unOp op _ x => execUn op (evalS st x) K
  | .convert s d x => execConvert E.ti s d (evalS st x) K
  | .makeInterface T x => execMakeInterface E.ti T (evalS st x) K
  | .makeFunc fn first captured => execMakeFunc st fn first.toList captured.toList K
  | .build T parts => execBuild E.ti T (evalAll st parts.toList) K
  | .load T x => execLoad E.ti T (evalS st x) st K
  | .nilCheck x => execNil (evalS st x) K
  | .slice T x lo hi mx => execSlice E.ti T st (evalS st x) (lo.map (evalS st)) (hi.map (evalS st)) (mx.map (evalS st)) K
  | .fieldAddr S x f => execFieldAddr E.ti S f (evalS st x) K
  | .field S x f => execField E.ti S f (evalS st x) K
  | .indexAddr T x i => execIndexAddr E.ti T st (evalS st x) (evalS st i) K
  | .index T x i => execIndex E.ti T (evalS st x) (evalS st i) K
  | .extract t n => execExtract (evalS st t) n K
  | .call { callee := .builtin b, args := args, argTypes := argTypes } => execBuiltin E st b args.toList argTypes K
  | _ => none

section
variable {rd : Bool} {B : Base} {C : Ctx} {w : World} {a : Act} {st : St} {E : TEnv} {R : Type} {r : R}

/-- Does an operation look into memory? -/
def readsMem : Op → Bool
  | .load _ _ => true
  | _ => false

/-- What such an operation owes. -/
def TellsO (rd : Bool) (B : Base) (C : Ctx) (w : World) (a : Act) (st : St) {R : Type} (K : SVal → Option R) (r : R) (o : Oper) : Prop :=
  ∃ s, K s = some r ∧ ∃ v, (∀ w', (rd = true → Below w.heap.size w w') → (execOp a.eval o).run B.P w' = .ok (.value v) w') ∧ RelSV B.P C w s v ∧ ∀ k ∈ s.toks, k ∈ st.heap.map (·.1)

theorem Tells.oper {K : SVal → Option R} {o : Oper} {S : Sem Value} (h : Tells rd B C w st K r S) (e : execOp a.eval o = (do pure (.value (← S)))) : TellsO rd B C w a st K r o := by
  obtain ⟨s, h1, v, h2, h3, h4⟩ := h
  exact ⟨s, h1, v, fun w' hb => by rw [e, Sem.run_bind, h2 w' hb]; rfl, h3, h4⟩

theorem pickK_sound {K : SVal → Option R} {t : Bool} {x y : SVal} {vx vy : Value} (hx : RelSV B.P C w x vx) (hy : RelSV B.P C w y vy) (kx : ∀ k ∈ x.toks, k ∈ st.heap.map (·.1)) (ky : ∀ k ∈ y.toks, k ∈ st.heap.map (·.1))
    (he : pickK t x y K = some r) : ∃ s, K s = some r ∧ RelSV B.P C w s (if t then vx else vy) ∧ ∀ k ∈ s.toks, k ∈ st.heap.map (·.1) := by
  unfold pickK at he
  split at he
  · obtain rfl := rel_bool hx
    obtain rfl := rel_bool hy
    refine ⟨_, he, ?_, fun _ h => by cases h⟩
    cases t <;> rfl
  · cases t
    · exact ⟨_, he, hy, ky⟩
    · exact ⟨_, he, hx, kx⟩

theorem execNil_sound {K : SVal → Option R} {x : SVal} {v : Value} (hx : RelSV B.P C w x v) (he : execNil x K = some r) :
    K x = some r ∧ ((∃ ad, v = .pointer (some ad)) ∨ ∃ g caps, v = .func (.func g) #[] caps) := by
  unfold execNil at he
  split at he
  · obtain ⟨b, _, h⟩ := hx; exact ⟨he, .inl ⟨_, by simpa using h⟩⟩
  · obtain ⟨b, o, n, c, _, _, h⟩ := hx; exact ⟨he, .inl ⟨_, by simpa using h⟩⟩
  · obtain ⟨b, _, _, h⟩ := hx; exact ⟨he, .inl ⟨_, by simpa using h⟩⟩
  · obtain ⟨v', h1, b, o, ds, h2, _⟩ := hx; exact ⟨he, .inl ⟨⟨b, o, none⟩, by rw [← h2]; simpa using h1⟩⟩
  · obtain ⟨vs, h, _⟩ := hx; exact ⟨he, .inr ⟨_, _, by simpa using h⟩⟩
  · cases he

theorem execEq_sound (hE : E.Ok B.P) {K : SVal → Option R} {op : BinOp} {T : TypeId} {as bs : List Atom} {cs ds : List Value} (hx : RelAtoms B.P C w as cs) (hy : RelAtoms B.P C w bs ds) (he : execEq E op T as bs K = some r) (x y : Operand) :
    ∃ s, K s = some r ∧ ∃ v, (∀ w', (binOp op T (.agg cs.toArray) (.agg ds.toArray)).run B.P w' = .ok v w') ∧ (∀ w', (eqGuard op T x y (.agg cs.toArray) (.agg ds.toArray)).run B.P w' = .ok () w') ∧ RelSV B.P C w s v ∧ s.toks = [] := by
  unfold execEq at he
  split at he
  · cases he
  rename_i e hT
  obtain ⟨hg, heq⟩ := hE.eqs _ _ hT
  split at he
  case h_2 => cases he
  rename_i x' y' h1 h2
  have hr := heq C.I w x' y' cs ds (implodeAll_rel hx h1) (implodeAll_rel hy h2)
  have guard : ∀ w', (eqGuard op T x y (.agg cs.toArray) (.agg ds.toArray)).run B.P w' = .ok () w' := by
    intro w'
    have hp : (program : Sem Program).run B.P w' = .ok B.P w' := rfl
    unfold eqGuard
    cases op <;> simp [hg, hp]
  split at he
  · exact ⟨_, he, _, fun w' => by simp [binOp, hr w'], guard, rfl, rfl⟩
  · exact ⟨_, he, _, fun w' => by simp [binOp, hr w'], guard, rfl, rfl⟩
  · cases he

theorem execT_sound (hE : E.Ok B.P) (h : Inv B C w a st) {o : Oper} {K : SVal → Option R} (he : execT E o.op st K = some r) : TellsO (readsMem o.op) B C w a st K r o := by
  have ev := fun x => evalS_rel h x
  unfold execT at he
  split at he
  · rename_i x ho
    exact ⟨_, he, _, fun w' _ => by simp only [execOp, ho]; rfl, (ev x).1, (ev x).2⟩
  · rename_i x ho
    exact ⟨_, he, _, fun w' _ => by simp only [execOp, ho]; rfl, (ev x).1, (ev x).2⟩
  · rename_i c x y ho
    split at he
    · rename_i t ht
      obtain ⟨s, h1, h2, h3⟩ := pickK_sound (ev x).1 (ev y).1 (ev x).2 (ev y).2 he
      have hc := (ev c).1
      rw [ht] at hc
      have hc := rel_bool hc
      exact ⟨s, h1, _, fun w' _ => by simp only [execOp, ho, hc]; simp [asBool], h2, h3⟩
    · cases he
  · rename_i op T x y T' ho
    unfold execCmp at he
    split at he
    · rename_i as bs h1 h2
      have hx := (ev x).1
      have hy := (ev y).1
      rw [h1] at hx
      rw [h2] at hy
      obtain ⟨cs, e1, r1⟩ := hx
      obtain ⟨ds, e2, r2⟩ := hy
      obtain ⟨s, k1, v, k2, k3, k4, k5⟩ := execEq_sound hE r1 r2 he x y
      exact ⟨s, k1, v, fun w' _ => by simp only [execOp, ho, e1, e2]; simp [k2 w', k3 w'], k4, fun k hk => by rw [k5] at hk; cases hk⟩
    · obtain ⟨s, k1, v, k2, k3, k4, k5⟩ := execBin_sound (x := x) (y := y) (hE.isB T) (ev x).1 (ev y).1 he
      exact ⟨s, k1, v, fun w' _ => by simp only [execOp, ho]; simp [k2 w', k3 w'], k4, fun k hk => by rw [k5] at hk; cases hk⟩
  · rename_i op T x ho
    obtain ⟨s, k1, v, k2, k3, k4⟩ := execUn_sound (ev x).1 he
    exact ⟨s, k1, v, fun w' _ => by simp only [execOp, ho]; simp [k2 w'], k3, fun k hk => by rw [k4] at hk; cases hk⟩
  · rename_i s d x ho
    exact (execConvert_sound hE.ti (ev x).1 he).oper (by simp only [execOp, ho])
  · rename_i T x ho
    exact (execMakeInterface_sound hE.ti (ev x).1 he).oper (by simp only [execOp, ho])
  · rename_i fn first captured ho
    exact (execMakeFunc_sound h he).oper (by simp only [execOp, ho])
  · rename_i T parts ho
    exact (execBuild_sound hE.ti h he).oper (by simp only [execOp, ho])
  · rename_i T x ho
    have : Tells true B C w st K r (Instr.loadAt T (a.eval x)) := by
      obtain ⟨s, h1, v, h2, h3, h4⟩ := execLoad_sound hE.ti h (ev x).1 he
      exact ⟨s, h1, v, fun w' hb => h2 w' (hb rfl), h3, h4⟩
    rw [show readsMem o.op = true by rw [ho]; rfl]
    exact this.oper (by simp only [execOp, ho])
  · rename_i x ho
    obtain ⟨h1, h2⟩ := execNil_sound (ev x).1 he
    refine ⟨_, h1, a.eval x, fun w' _ => ?_, (ev x).1, (ev x).2⟩
    rcases h2 with ⟨ad, h2⟩ | ⟨g, caps, h2⟩ <;> simp only [execOp, ho, h2] <;> rfl
  · rename_i T x lo hi mx ho
    refine Tells.oper (S := Instr.sliceAt T (a.eval x) (lo.map a.eval) (hi.map a.eval) (mx.map a.eval)) (execSlice_sound hE.ti h (ev x).1 (ev x).2 ?_ ?_ ?_ he) (by simp only [execOp, ho])
    · exact ⟨fun s hs => by cases lo with | none => cases hs | some y => cases hs; exact ⟨_, rfl, (ev y).1⟩, fun h => by cases lo with | none => rfl | some y => cases h⟩
    · exact ⟨fun s hs => by cases hi with | none => cases hs | some y => cases hs; exact ⟨_, rfl, (ev y).1⟩, fun h => by cases hi with | none => rfl | some y => cases h⟩
    · exact ⟨fun s hs => by cases mx with | none => cases hs | some y => cases hs; exact ⟨_, rfl, (ev y).1⟩, fun h => by cases mx with | none => rfl | some y => cases h⟩
  · rename_i S x f ho
    exact (execFieldAddr_sound hE.ti (ev x).1 (ev x).2 he).oper (by simp only [execOp, ho])
  · rename_i S x f ho
    exact (execField_sound hE.ti S f (ev x).1 (ev x).2 he).oper (by simp only [execOp, ho])
  · rename_i T x i ho
    exact (execIndexAddr_sound hE.ti h (ev x).1 (ev i).1 (ev x).2 he).oper (by simp only [execOp, ho])
  · rename_i T x i ho
    exact (execIndex_sound hE.ti (ev x).1 (ev i).1 (ev x).2 he).oper (by simp only [execOp, ho])
  · rename_i t n ho
    exact (execExtract_sound (ev t).1 (ev t).2 he).oper (by simp only [execOp, ho])
  · rename_i b args argTypes ho
    unfold execBuiltin at he
    split at he
    · rename_i x hargs
      obtain ⟨l⟩ := args
      obtain rfl : l = [x] := hargs
      split at he
      · rename_i T hT
        exact (execLen_sound hE.ti h (ev x).1 hT o.type he).oper (by simp only [execOp, ho]; simp [resolve, invoke, builtin])
      · cases he
    · rename_i x y hargs
      obtain ⟨l⟩ := args
      obtain rfl : l = [x, y] := hargs
      exact (execMinMax_sound (ev x).1 (ev y).1 argTypes o.type he).oper (by simp only [execOp, ho]; simp [resolve, invoke, builtin])
    · rename_i x y hargs
      obtain ⟨l⟩ := args
      obtain rfl : l = [x, y] := hargs
      exact (execMinMax_sound (ev x).1 (ev y).1 argTypes o.type he).oper (by simp only [execOp, ho]; simp [resolve, invoke, builtin])
    · cases he
  · cases he
end
end Go.AM

/- Own blocks that become data that nobody writes any more. -/
namespace Go.AM
open Go.RowKit

def frzC (k : Tok) (ps : List Datum) : Cap → Cap
  | .tok k' => if k' = k then .imm ps else .tok k'
  | .imm qs => .imm qs

def frzA (k : Tok) (b : Block) (a : Atom) : Atom :=
  if k ∈ a.toks then
    match b, a with
    | .row _ t xs, .own _ => .pure (.list t) xs
    | .var as, .ptr _ off => match asData as with
      | some ps => match dropP off ps with | some qs => .cptr qs | none => .dead 1
      | none => .dead 1
    | .var as, .func g caps => match asData as with
      | some ps => .func g (caps.map (frzC k ps))
      | none => .dead 1
    | _, a => .dead a.size
  else a

def V1.mapA (f : Atom → Atom) : V1 → V1
  | .one a => .one (f a)
  | .agg as => .agg (as.map f)
def SVal.mapA (f : Atom → Atom) : SVal → SVal
  | .undef => .undef
  | .v x => .v (x.mapA f)
  | .tup xs => .tup (xs.map (V1.mapA f))
def Block.mapA (f : Atom → Atom) : Block → Block
  | .var as => .var (as.map f)
  | b => b
def St.mapA (k : Tok) (f : Atom → Atom) (st : St) : St := ⟨st.len, st.slots.map fun p => (p.1, p.2.mapA f), (hdel k st.heap).map fun p => (p.1, p.2.mapA f)⟩

structure MapOk (P : Program) (C C' : Ctx) (w : World) (k : Tok) (f : Atom → Atom) : Prop where
  rel : ∀ a cs, RelAtom P C w a cs → RelAtom P C' w (f a) cs
  toks : ∀ a, ∀ k' ∈ (f a).toks, k' ≠ k ∧ k' ∈ a.toks

section
variable {P : Program} {C C' : Ctx} {w : World} {k : Tok} {f : Atom → Atom}

theorem MapOk.atoms (m : MapOk P C C' w k f) : ∀ {as : List Atom} {cs : List Value}, RelAtoms P C w as cs → RelAtoms P C' w (as.map f) cs
  | [], _, h => h
  | _ :: _, _, ⟨c1, c2, e, h1, h2⟩ => ⟨c1, c2, e, m.rel _ _ h1, m.atoms h2⟩

theorem MapOk.v1 (m : MapOk P C C' w k f) {x : V1} {v : Value} (h : RelV1 P C w x v) : RelV1 P C' w (x.mapA f) v := by
  cases x with
  | one a => exact m.rel _ _ h
  | agg as => obtain ⟨cs, e, h⟩ := h; exact ⟨cs, e, m.atoms h⟩

theorem MapOk.v1s (m : MapOk P C C' w k f) : ∀ {xs : List V1} {vs : List Value}, RelV1s P C w xs vs → RelV1s P C' w (xs.map (V1.mapA f)) vs
  | [], _, h => h
  | _ :: _, _, ⟨v, rest, e, h1, h2⟩ => ⟨v, rest, e, m.v1 h1, m.v1s h2⟩

theorem MapOk.sv (m : MapOk P C C' w k f) {x : SVal} {v : Value} (h : RelSV P C w x v) : RelSV P C' w (x.mapA f) v := by
  cases x with
  | undef => trivial
  | v x => exact m.v1 h
  | tup xs => obtain ⟨vs, e, h⟩ := h; exact ⟨vs, e, m.v1s h⟩

theorem MapOk.list (m : MapOk P C C' w k f) (as : List Atom) : ∀ k' ∈ (as.map f).flatMap Atom.toks, k' ≠ k ∧ k' ∈ as.flatMap Atom.toks := by
  intro k' h
  rw [List.mem_flatMap] at h
  obtain ⟨x, hx, hk⟩ := h
  obtain ⟨y, hy, rfl⟩ := List.mem_map.1 hx
  obtain ⟨h1, h2⟩ := m.toks y k' hk
  exact ⟨h1, List.mem_flatMap.2 ⟨y, hy, h2⟩⟩

theorem V1.mapA_atoms (f : Atom → Atom) (x : V1) : (x.mapA f).atoms = x.atoms.map f := by cases x <;> rfl
theorem mapA_atoms_list (f : Atom → Atom) (xs : List V1) : (xs.map (V1.mapA f)).flatMap V1.atoms = (xs.flatMap V1.atoms).map f := by
  induction xs with
  | nil => rfl
  | cons y ys ih => simp only [List.map_cons, List.flatMap_cons, List.map_append, V1.mapA_atoms, ih]

theorem MapOk.sv_toks (m : MapOk P C C' w k f) (x : SVal) : ∀ k' ∈ (x.mapA f).toks, k' ≠ k ∧ k' ∈ x.toks := by
  cases x with
  | undef => intro k' h; cases h
  | v x => intro k' h; simp only [SVal.mapA, SVal.toks, SVal.atoms, V1.mapA_atoms] at h; exact m.list _ k' h
  | tup xs =>
    intro k' h
    simp only [SVal.mapA, SVal.toks, SVal.atoms, mapA_atoms_list] at h
    exact m.list _ k' h

theorem Block.mapA_at (f : Atom → Atom) (b : Block) (v : Value) : (b.mapA f).at v = b.at v := by cases b <;> rfl

theorem MapOk.block_toks (m : MapOk P C C' w k f) (b : Block) : ∀ k' ∈ (b.mapA f).toks, k' ≠ k ∧ k' ∈ b.toks := by
  cases b with
  | var as => exact m.list as
  | row => intro k' h; cases h
  | lrow => intro k' h; cases h
end

section
variable {B : Base} {C : Ctx} {w : World} {a : Act} {st : St}

/-- The blocks of a name become such that nobody writes. -/
def Ctx.keep (C : Ctx) (k : Tok) (b : Block) : Ctx := { C with I := fun x => C.I x ∨ b.at (C.ρ k) = some x }

theorem Ctx.keep_goes (C : Ctx) (k : Tok) (b : Block) (w : World) : Goes C (C.keep k b) w w := ⟨fun _ h => .inl h, Later.refl _ _⟩

theorem mapA_keys {k k' : Tok} {f : Atom → Atom} : k' ∈ (st.mapA k f).heap.map (·.1) ↔ k' ≠ k ∧ k' ∈ st.heap.map (·.1) := by
  rw [← hdel_keys]
  simp [St.mapA]

theorem mem_mapA {k k' : Tok} {f : Atom → Atom} {b : Block} (h : (k', b) ∈ (st.mapA k f).heap) : ∃ b', (k', b') ∈ st.heap ∧ k' ≠ k ∧ b = b'.mapA f := by
  simp only [St.mapA, List.mem_map, Prod.mk.injEq, Prod.exists] at h
  obtain ⟨k1, b1, h1, rfl, rfl⟩ := h
  have := mem_hdel.1 h1
  exact ⟨b1, this.2, this.1, rfl⟩

theorem Inv.keep (h : Inv B C w a st) {k : Tok} {b : Block} (hm : (k, b) ∈ st.heap) {f : Atom → Atom} (m : MapOk B.P C (C.keep k b) w k f) : Inv B (C.keep k b) w a (st.mapA k f) := by
  have g := C.keep_goes k b w
  have hs : ∀ n, (st.mapA k f).get n = (st.get n).mapA f := fun n => sget_map (SVal.mapA f) rfl n st.slots
  have hh := h.heap
  have hlt : ∀ x, b.at (C.ρ k) = some x → x < w.heap.size := fun x hx => (hh.blocks _ _ hm).lt hx
  refine ⟨h.len, h.defers, fun n => ?_, fun n k' hk' => ?_, ?_⟩
  · rw [hs]; exact m.sv (h.slots n)
  · rw [hs] at hk'
    obtain ⟨h1, h2⟩ := m.sv_toks _ k' hk'
    exact mapA_keys.2 ⟨h1, h.named n k' h2⟩
  · refine ⟨fun k' b1 hm1 => ?_, fun k' b1 hm1 k2 hk2 => ?_, ?_, fun k1 b1 k2 b2 h1 h2 hne x hx hx2 => ?_, fun k' b1 hm1 x hx => ?_, fun x hx => hx.elim (hh.imm x) (hlt x), fun x hx => .inl (hh.imm0 x hx),
      fun x hx => hx.elim (hh.immNew x) (fun hx => .inr (hh.mine _ _ hm x hx).2), hh.evo, hh.fixed, hh.fixOld⟩
    · obtain ⟨b', h1, _, rfl⟩ := mem_mapA hm1
      have hb := hh.blocks _ _ h1
      cases b' with
      | var as =>
        obtain ⟨x, cs, e, h1, h2, h3⟩ := hb
        exact ⟨x, cs, e, h1, h2, m.atoms h3⟩
      | row e t xs => exact hb.goes g (fun _ h => by cases h) rfl rfl (fun _ _ => rfl)
      | lrow t xs => exact hb.goes g (fun _ h => by cases h) rfl rfl (fun _ _ => rfl)
    · obtain ⟨b', h1, _, rfl⟩ := mem_mapA hm1
      obtain ⟨h3, h4⟩ := m.block_toks b' k2 hk2
      exact mapA_keys.2 ⟨h3, hh.closed _ _ h1 k2 h4⟩
    · have e : (st.mapA k f).heap.map (·.1) = (hdel k st.heap).map (·.1) := by simp [St.mapA, Function.comp_def]
      rw [e]
      exact ((hdel_sub k st.heap).map _).nodup hh.nodup
    · obtain ⟨b1', m1, _, rfl⟩ := mem_mapA h1
      obtain ⟨b2', m2, _, rfl⟩ := mem_mapA h2
      rw [Block.mapA_at] at hx hx2
      exact hh.apart _ _ _ _ m1 m2 hne x hx hx2
    · obtain ⟨b', m1, n1, rfl⟩ := mem_mapA hm1
      rw [Block.mapA_at] at hx
      have := hh.mine _ _ m1 x hx
      refine ⟨fun hI => hI.elim this.1 (fun hk => ?_), this.2⟩
      exact hh.apart _ _ _ _ hm m1 (Ne.symm n1) x hk hx

theorem row_pure {k : Tok} {e : TypeId} {t : Ty} {xs : List t.den} (hb : RelBlock B.P C w k (.row e t xs)) : (rels B.P (.list t)).cells (C.keep k (.row e t xs)).I w xs [C.ρ k] := by
  have g := C.keep_goes k (.row e t xs) w
  rcases hb with ⟨h1, A, h2⟩ | ⟨x, cap, cur, h1, h0, h2, h3, h4, h5, hc⟩
  · obtain rfl := List.eq_nil_of_length_eq_zero h1
    exact ⟨_, rfl, A, 0, 0, [], h2, rfl, Nat.le_refl _, rfl, .inl rfl⟩
  · refine ⟨_, rfl, _, _, _, _, h1, rfl, h3, hc.imp fun _ _ => cells_goes g, .inr ⟨x, 0, rfl, .inr ?_, fun j v hj => ?_⟩⟩
    · rw [h1]; simp [Block.at, blk, Nat.ne_of_gt h0]
    · rw [Nat.zero_add, cell_of_row w x j cur e (0, 0) h2]
      rw [List.getElem?_take] at hj
      split at hj
      · simpa using hj
      · cases hj

theorem frz_row_ok (h : Inv B C w a st) {k : Tok} {e : TypeId} {t : Ty} {xs : List t.den} (hm : (k, .row e t xs) ∈ st.heap) : MapOk B.P C (C.keep k (.row e t xs)) w k (frzA k (.row e t xs)) := by
  have g := C.keep_goes k (.row e t xs) w
  refine ⟨fun x cs hx => ?_, fun x k' hk' => ?_⟩
  · unfold frzA
    split
    · rename_i hk
      cases x with
      | own k2 =>
        obtain rfl : k = k2 := by simpa [Atom.toks] using hk
        have : cs = [C.ρ k] := hx
        subst this
        exact row_pure (h.heap.blocks _ _ hm)
      | _ => exact hx.size
    · rename_i hk
      exact hx.goes g (fun _ _ => rfl)
  · unfold frzA at hk'
    split at hk'
    · cases x <;> cases hk'
    · rename_i hk; exact ⟨fun e => hk (e ▸ hk'), hk'⟩

theorem dropP_imm {P : Program} {C : Ctx} {w : World} {ps qs : List Datum} {off b : Nat} {cs : List Value} (hI : C.I b) (hr : concatR (fun (p : Datum) cs => (rels P p.1).cells C.I w p.2 cs) ps cs) (hc : ∀ j u, cs[j]? = some u → w.cell? ⟨b, j, none⟩ = some u)
    (hd : dropP off ps = some qs) : ImmAt P C w qs (.pointer (some ⟨b, off, none⟩)) := by
  refine ⟨b, off, cs.drop off, rfl, hI, dropP_rel (fun p cs h => rels_size P p.1 h) hr hd, fun j u hj => hc _ u ?_⟩
  rw [List.getElem?_drop] at hj; exact hj

theorem frzC_rel {P : Program} {C C' : Ctx} {w : World} {k : Tok} {ps : List Datum} (hρ : C'.ρ = C.ρ) (g : Goes C C' w w) (hi : ImmAt P C' w ps (C.ρ k)) : ∀ {caps : List Cap} {vs : List Value}, RelCaps P C w caps vs → RelCaps P C' w (caps.map (frzC k ps)) vs
  | [], _, h => h
  | c :: cs, vs, ⟨v, rest, e, h1, h2⟩ => by
    refine ⟨v, rest, e, ?_, frzC_rel hρ g hi h2⟩
    cases c with
    | tok k' =>
      obtain ⟨h3, b, h4⟩ := h1
      simp only [frzC]
      split
      · rename_i hk; subst hk; rw [h3]; exact hi
      · exact ⟨h3.trans (by rw [hρ]), b, by rw [hρ]; exact h4⟩
    | imm qs => exact ImmAt.goes g h1

theorem frz_var_ok (h : Inv B C w a st) {k : Tok} {as : List Atom} {ps : List Datum} (hm : (k, .var as) ∈ st.heap) (hp : asData as = some ps) : MapOk B.P C (C.keep k (.var as)) w k (frzA k (.var as)) := by
  have g := C.keep_goes k (.var as) w
  obtain ⟨b, cs, e, h1, h2, h3⟩ := h.heap.blocks _ _ hm
  have hI : (C.keep k (.var as)).I b := .inr (by rw [h1]; rfl)
  have hr : concatR (fun (p : Datum) cs => (rels B.P p.1).cells (C.keep k (.var as)).I w p.2 cs) ps cs.toList := (asData_rel hp h3).imp fun p cs h => cells_goes g h
  have hc : ∀ j u, cs.toList[j]? = some u → w.cell? ⟨b, j, none⟩ = some u := fun j u hj => by
    rw [cell_of_row w b j cs e (0, 0) h2]; simpa using hj
  refine ⟨fun x ds hx => ?_, fun x k' hk' => ?_⟩
  · unfold frzA
    split
    · rename_i hk
      cases x with
      | ptr k2 off =>
        obtain rfl : k = k2 := by simpa [Atom.toks] using hk
        obtain ⟨b', h4, h5⟩ := hx
        rw [h1] at h4
        cases h4
        simp only [hp]
        split
        · rename_i qs hq
          exact ⟨_, h5, dropP_imm hI hr hc hq⟩
        · rw [h5]; rfl
      | func f caps =>
        obtain ⟨vs, h4, h5⟩ := hx
        simp only [hp]
        refine ⟨vs, h4, frzC_rel (C := C) (C' := C.keep k (.var as)) rfl g ?_ h5⟩
        rw [h1]
        exact ⟨b, 0, cs.toList, rfl, hI, hr, fun j u hj => by rw [Nat.zero_add]; exact hc j u hj⟩
      | _ => exact hx.size
    · rename_i hk
      exact hx.goes g (fun _ _ => rfl)
  · unfold frzA at hk'
    split at hk'
    · cases x with
      | ptr k2 off =>
        simp only [hp] at hk'
        split at hk' <;> cases hk'
      | func f caps =>
        simp only [hp, Atom.toks, List.mem_flatMap, List.mem_map] at hk'
        obtain ⟨c, ⟨c', hc', rfl⟩, hk2⟩ := hk'
        cases c' with
        | tok k3 =>
          simp only [frzC] at hk2
          split at hk2
          · cases hk2
          · rename_i hne
            have : k' = k3 := by simpa [Cap.toks] using hk2
            subst this
            exact ⟨hne, by simp only [Atom.toks, List.mem_flatMap]; exact ⟨_, hc', by simp [Cap.toks]⟩⟩
        | imm qs => cases hk2
      | _ => cases hk'
    · rename_i hk; exact ⟨fun e => hk (e ▸ hk'), hk'⟩

/-- Freeze what lies under a name. -/
def freeze (k : Tok) (st : St) : Option St :=
  match hget k st.heap with
  | some (.row e t xs) => some (st.mapA k (frzA k (.row e t xs)))
  | some (.var as) => match asData as with | some _ => some (st.mapA k (frzA k (.var as))) | none => none
  | _ => none

theorem freeze_sound (h : Inv B C w a st) {k : Tok} {st' : St} (e : freeze k st = some st') : ∃ b, (k, b) ∈ st.heap ∧ hget k st.heap = some b ∧ Inv B (C.keep k b) w a st' ∧ st' = st.mapA k (frzA k b) ∧ MapOk B.P C (C.keep k b) w k (frzA k b) := by
  unfold freeze at e
  split at e
  · rename_i e' t xs hg
    cases e
    have hm := hget_mem hg
    exact ⟨_, hm, hg, h.keep hm (frz_row_ok h hm), rfl, frz_row_ok h hm⟩
  · rename_i as hg
    split at e
    · rename_i ps hp
      cases e
      have hm := hget_mem hg
      exact ⟨_, hm, hg, h.keep hm (frz_var_ok h hm hp), rfl, frz_var_ok h hm hp⟩
    · cases e
  · cases e
end
end Go.AM
