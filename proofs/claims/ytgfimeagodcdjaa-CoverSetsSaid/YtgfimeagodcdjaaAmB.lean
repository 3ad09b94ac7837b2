/- The reading of a function's text as a walk over data: operations that read, write, add and call. Its conditions stand at each theorem. -/
import Derived.Test.YtgfimeagodcdjaaAmA
import Derived.Laws.Tables
import Derived.Laws.MakeOwn
set_option linter.unusedSimpArgs false
set_option linter.unusedVariables false
set_option linter.unusedSectionVars false
/- Addresses, parts, lengths, cuts: operations that write nothing. -/
namespace Go.AM
open Go.RowKit

theorem run_und {P : Program} {t : TypeId} {i : TI} (h : i.Ok P t) (_w : World) : ∃ d, i.d.Is d ∧ ∀ w', (underlying t).run P w' = .ok d w' := by
  obtain ⟨d, ti, z, h1, h2, _⟩ := h
  exact ⟨d, h2, fun w' => run_underlying h1 w'⟩

section
variable {rd : Bool} {B : Base} {C : Ctx} {w : World} {a : Act} {st : St} {ti : TypeId → Option TI} {R : Type} {K : SVal → Option R} {r : R}

/-- What an operation that writes nothing owes. -/
def Tells (rd : Bool) (B : Base) (C : Ctx) (w : World) (st : St) {R : Type} (K : SVal → Option R) (r : R) (S : Sem Value) : Prop :=
  ∃ s, K s = some r ∧ ∃ v, (∀ w', (rd = true → Below w.heap.size w w') → S.run B.P w' = .ok v w') ∧ RelSV B.P C w s v ∧ ∀ k ∈ s.toks, k ∈ st.heap.map (·.1)

theorem Tells.mk' {s : SVal} {S : Sem Value} {v : Value} (h1 : K s = some r) (h2 : ∀ w', (rd = true → Below w.heap.size w w') → S.run B.P w' = .ok v w') (h3 : RelSV B.P C w s v) (h4 : ∀ k ∈ s.toks, k ∈ st.heap.map (·.1)) : Tells rd B C w st K r S := ⟨s, h1, v, h2, h3, h4⟩

/-! The address of a field -/

def dropP (n : Nat) : List Datum → Option (List Datum)
  | [] => if n = 0 then some [] else none
  | p :: ps => if n = 0 then some (p :: ps) else if p.1.size ≤ n then dropP (n - p.1.size) ps else none

theorem dropP_rel {R : Datum → List Value → Prop} (hR : ∀ p cs, R p cs → cs.length = p.1.size) : ∀ {ps qs : List Datum} {n : Nat} {cs : List Value}, concatR R ps cs → dropP n ps = some qs → concatR R qs (cs.drop n)
  | [], qs, n, cs, h, e => by
    unfold dropP at e
    split at e
    · rename_i hn; subst hn; cases e; simpa using h
    · cases e
  | p :: ps, qs, n, cs, h, e => by
    unfold dropP at e
    split at e
    · rename_i hn; subst hn; cases e; simpa using h
    · split at e
      · rename_i hle
        obtain ⟨c1, c2, rfl, h1, h2⟩ := h
        have hs := hR _ _ h1
        have := dropP_rel hR h2 e
        rw [List.drop_append, List.drop_of_length_le (by omega), List.nil_append, hs]
        exact this
      · cases e

def execFieldAddr (ti : TypeId → Option TI) (S : TypeId) (f : Nat) (x : SVal) (K : SVal → Option R) : Option R :=
  match ti S with
  | some { d := .struct fs, .. } =>
    match fs[f]? with
    | some (off, ft) =>
      match ti ft with
      | some fi =>
        if fi.size = 0 then none else
        match x with
        | .v (.one (.ptr k o)) => K (.v (.one (.ptr k (o + off))))
        | .v (.one (.rptr k j sz sub)) => K (.v (.one (.rptr k j sz (sub + off))))
        | .v (.one (.aptr k o j n sz sub)) => K (.v (.one (.aptr k o j n sz (sub + off))))
        | .v (.one (.cptr ps)) => match dropP off ps with | some qs => K (.v (.one (.cptr qs))) | none => none
        | _ => none
      | none => none
    | none => none
  | _ => none

theorem run_fieldAt (hT : TIs B.P ti) {S : TypeId} {fs : List (Nat × TypeId)} {sz by_ : Nat} {z : List Value} {c : Ty} (hS : ti S = some ⟨.struct fs, sz, by_, z, c⟩) {f off : Nat} {ft : TypeId} (hf : fs[f]? = some (off, ft)) {fi : TI} (hfi : ti ft = some fi) (h0 : fi.size ≠ 0) (b o : Nat) :
    (Instr.fieldAt S (.pointer (some ⟨b, o, none⟩)) f).run B.P w = .ok (.pointer (some ⟨b, o + off, none⟩)) w := by
  obtain ⟨d, hd, hu⟩ := run_und (hT S _ hS) w
  obtain ⟨arr, rfl, harr⟩ := hd
  have hfl : ∃ fl, arr[f]? = some fl ∧ fl.offset = off ∧ fl.type = ft := by
    rw [← harr, List.getElem?_map] at hf
    simp only [Option.map_eq_some_iff, Prod.mk.injEq] at hf
    obtain ⟨fl, h1, h2, h3⟩ := hf
    exact ⟨fl, by simpa using h1, h2, h3⟩
  obtain ⟨fl, h1, h2, h3⟩ := hfl
  have hsz := (hT ft fi hfi).run_sizeOf
  simp only [Instr.fieldAt, Sem.run_bind, hu, Result.andThen_ok, h1, Instr.sureAddr, Sem.run_pure, fieldPlace, h2, h3, hsz]
  rw [if_neg h0]
  simp [Addr.add_lit]

theorem execFieldAddr_sound (hT : TIs B.P ti) {S : TypeId} {f : Nat} {x : SVal} {vx : Value} (hx : RelSV B.P C w x vx) (hk : ∀ k ∈ x.toks, k ∈ st.heap.map (·.1))
    (he : execFieldAddr ti S f x K = some r) : Tells rd B C w st K r (Instr.fieldAt S vx f) := by
  unfold execFieldAddr at he
  split at he
  · rename_i fs sz by_ z c hS
    split at he
    · rename_i off ft hf
      split at he
      · rename_i fi hfi
        split at he
        · cases he
        · rename_i h0
          have run := fun w' b o => run_fieldAt (w := w') hT hS hf hfi h0 b o
          split at he
          · rename_i k o
            obtain ⟨b, h1, h2⟩ := hx
            obtain rfl : vx = .pointer (some ⟨b, o, none⟩) := by simpa using h2
            exact .mk' he (fun w' _ => run w' b o) ⟨b, h1, rfl⟩ hk
          · rename_i k j sz sub
            obtain ⟨b, o, n, c, h1, hj, h2⟩ := hx
            obtain rfl : vx = .pointer (some ⟨b, o + j * sz + sub, none⟩) := by simpa using h2
            exact .mk' he (fun w' _ => run w' b _) ⟨b, o, n, c, h1, hj, by simp [Nat.add_assoc]⟩ hk
          · rename_i k o j n sz sub
            obtain ⟨b, h1, hj, h2⟩ := hx
            obtain rfl : vx = .pointer (some ⟨b, o + j * sz + sub, none⟩) := by simpa using h2
            exact .mk' he (fun w' _ => run w' b _) ⟨b, h1, hj, by simp [Nat.add_assoc]⟩ hk
          · rename_i ps
            split at he
            · rename_i qs hq
              obtain ⟨v, h1, b, o, ds, h2, h3, h4, h5⟩ := hx
              obtain rfl : vx = .pointer (some ⟨b, o, none⟩) := by rw [← h2]; simpa using h1
              refine .mk' he (fun w' _ => run w' b o) ⟨_, rfl, b, o + off, ds.drop off, rfl, h3, dropP_rel (fun p cs h => rels_size B.P p.1 h) h4 hq, fun j u hj => ?_⟩ (fun _ h => by cases h)
              rw [List.getElem?_drop] at hj
              have := h5 _ _ hj
              rwa [← Nat.add_assoc] at this
            · cases he
          · cases he
      · cases he
    · cases he
  · cases he

/-! A field, a part of several results -/

theorem RelV1.cells {x : V1} {v : Value} (h : RelV1 B.P C w x v) : RelAtoms B.P C w x.atoms v.cells.toList ∧ (∃ as, x = .agg as ∧ ∃ cs, v = .agg cs) ∨ RelAtoms B.P C w x.atoms [v] ∧ ∃ a, x = .one a := by
  cases x with
  | one a => exact .inr ⟨⟨[v], [], rfl, h, rfl⟩, a, rfl⟩
  | agg as => obtain ⟨cs, rfl, h⟩ := h; exact .inl ⟨by simpa [Value.cells, V1.atoms] using h, as, rfl, _, rfl⟩

def execField (ti : TypeId → Option TI) (S : TypeId) (f : Nat) (x : SVal) (K : SVal → Option R) : Option R :=
  match ti S with
  | some { d := .struct fs, .. } =>
    match fs[f]? with
    | some (off, ft) =>
      match ti ft with
      | some fi =>
        match x with
        | .v (.agg as) => match partA as off fi with | some y => K (.v y) | none => none
        | _ => none
      | none => none
    | none => none
  | _ => none

theorem run_part {T : TypeId} {i : TI} (h : i.Ok B.P T) (hone : i.d.isAgg = false → i.size = 1) (cs : List Value) (off : Nat) (hl : off + i.size ≤ cs.length) :
    (part T cs.toArray off).run B.P w = .ok (if i.d.isAgg then .agg ((cs.drop off).take i.size).toArray else ((cs.drop off).take i.size).headD undef) w := by
  unfold part
  rw [Sem.run_bind, h.run_isAgg]
  simp only [Result.andThen_ok]
  cases hd : i.d.isAgg with
  | true =>
    simp only [if_true, Sem.run_bind, h.run_sizeOf, Result.andThen_ok, Sem.run_pure]
    congr 2
    simp only [List.extract_toArray, List.extract_eq_take_drop]
    congr 1
    rw [Nat.add_sub_cancel_left]
  | false =>
    have h1 := hone hd
    rw [h1] at hl ⊢
    have hlt : off < cs.length := by omega
    simp only [Bool.false_eq_true, if_false]
    have : (List.take 1 (List.drop off cs)).headD undef = cs[off] := by
      rw [List.drop_eq_getElem_cons hlt]; rfl
    rw [this]
    simp [hlt]

theorem execField_sound (hT : TIs B.P ti) (S : TypeId) (f : Nat) {x : SVal} {vx : Value} (hx : RelSV B.P C w x vx) (hk : ∀ k ∈ x.toks, k ∈ st.heap.map (·.1))
    (he : execField ti S f x K = some r) : Tells rd B C w st K r (Instr.field S vx f) := by
  unfold execField at he
  split at he
  · rename_i fs sz by_ z c hS
    split at he
    · rename_i off ft hf
      split at he
      · rename_i fi hfi
        split at he
        · rename_i as
          split at he
          · rename_i y hy
            obtain ⟨cs, rfl, h1⟩ := hx
            obtain ⟨h2, h3⟩ := partA_rel hy h1
            obtain ⟨d, hd, hu⟩ := run_und (hT S _ hS) w
            obtain ⟨arr, rfl, harr⟩ := hd
            have hfl : ∃ fl, arr[f]? = some fl ∧ fl.offset = off ∧ fl.type = ft := by
              rw [← harr, List.getElem?_map] at hf
              simp only [Option.map_eq_some_iff, Prod.mk.injEq] at hf
              obtain ⟨fl, h1, h2, h3⟩ := hf
              exact ⟨fl, by simpa using h1, h2, h3⟩
            obtain ⟨fl, e1, e2, e3⟩ := hfl
            refine .mk' he ?_ h3 (fun k' hk' => hk k' ?_)
            · simp only [Instr.field, Sem.run_bind, hu, Result.andThen_ok, e1, e2, e3, asAgg, Sem.run_pure]
              exact fun w' _ => run_part (hT ft fi hfi) (partA_one hy) cs off h2
            · exact partA_toks hy hk'
          · cases he
        · cases he
      · cases he
    · cases he
  · cases he

def execExtract (x : SVal) (n : Nat) (K : SVal → Option R) : Option R :=
  match x with
  | .tup xs => match xs[n]? with | some y => K (.v y) | none => none
  | _ => none

theorem RelV1s.get {P : Program} {C : Ctx} {w : World} : ∀ {xs : List V1} {vs : List Value} {n : Nat} {x : V1}, RelV1s P C w xs vs → xs[n]? = some x → ∃ v, vs[n]? = some v ∧ RelV1 P C w x v
  | [], _, n, x, _, e => by simp at e
  | y :: ys, _, 0, x, ⟨v, rest, e1, h1, _⟩, e => by cases e; exact ⟨v, by rw [e1]; rfl, h1⟩
  | y :: ys, _, n + 1, x, ⟨v, rest, e1, _, h2⟩, e => by
    obtain ⟨u, h3, h4⟩ := h2.get (n := n) e
    exact ⟨u, by rw [e1]; exact h3, h4⟩

theorem execExtract_sound {x : SVal} {vx : Value} {n : Nat} (hx : RelSV B.P C w x vx) (hk : ∀ k ∈ x.toks, k ∈ st.heap.map (·.1)) (he : execExtract x n K = some r) : Tells rd B C w st K r (Instr.extract vx n) := by
  unfold execExtract at he
  split at he
  · rename_i xs
    split at he
    · rename_i y hy
      obtain ⟨vs, rfl, h⟩ := hx
      obtain ⟨v, h1, h2⟩ := h.get hy
      refine .mk' he ?_ h2 (fun k' hk' => hk k' ?_)
      · simp [Instr.extract, h1]
      · simp only [SVal.toks, SVal.atoms, List.mem_flatMap] at hk' ⊢
        obtain ⟨at_, h3, h4⟩ := hk'
        exact ⟨at_, ⟨y, List.mem_of_getElem? hy, h3⟩, h4⟩
    · cases he
  · cases he

/-! Lengths, extremes -/

/-- A slice's length. -/
def lenS (st : St) : SVal → Option Int
  | .v (.one (.own k)) => match hget k st.heap with
    | some (.row _ _ xs) => some xs.length
    | some (.lrow _ xs) => some xs.length
    | _ => none
  | .v (.one (.seg _ _ n _)) => some n
  | .v (.one (.pure (.list _) xs)) => some xs.length
  | .v (.one (.const (.slice none 0 0))) => some 0
  | .v (.one .e0) => some 0
  | _ => none

theorem RelBlock.len {k : Tok} {b : Block} (h : RelBlock B.P C w k b) {t : Ty} {xs : List t.den} (hb : (∃ e, b = .row e t xs) ∨ b = .lrow t xs) : ∃ A c, C.ρ k = .slice A xs.length c ∧ xs.length ≤ c := by
  rcases hb with ⟨e, rfl⟩ | rfl
  · rcases h with ⟨h1, A, h2⟩ | ⟨g, cap, cur, h1, _, _, h2, _⟩
    · exact ⟨A, 0, by rw [h1]; exact h2, by omega⟩
    · exact ⟨_, cap, h1, h2⟩
  · obtain ⟨cells, h1, _⟩ := h
    rcases h1 with ⟨h2, _, A, c, h3⟩ | ⟨b, o, c, e, h2, h3, _⟩
    · exact ⟨A, c, by rw [h2]; exact h3, by omega⟩
    · exact ⟨_, c, h2, h3⟩

theorem lenS_rel (h : Inv B C w a st) {x : SVal} {vx : Value} (hx : RelSV B.P C w x vx) {n : Int} (he : lenS st x = some n) : ∃ A l c, vx = .slice A l c ∧ n = l := by
  unfold lenS at he
  split at he
  · rename_i k
    have hv : vx = C.ρ k := by simpa [RelSV, RelV1, RelAtom] using hx
    split at he
    · rename_i e t xs hg
      cases he
      obtain ⟨A, c, h1, _⟩ := (h.heap.blocks _ _ (hget_mem hg)).len (.inl ⟨e, rfl⟩)
      exact ⟨A, _, c, hv.trans h1, rfl⟩
    · rename_i t xs hg
      cases he
      obtain ⟨A, c, h1, _⟩ := (h.heap.blocks _ _ (hget_mem hg)).len (.inr rfl)
      exact ⟨A, _, c, hv.trans h1, rfl⟩
    · cases he
  · cases he
    obtain ⟨A, c, h1, _⟩ := hx
    exact ⟨A, _, c, by simpa using h1, rfl⟩
  · cases he
    obtain ⟨v, h1, A, n, c, cs, h2, h3, _⟩ := hx
    exact ⟨A, n, c, by rw [← h2]; simpa using h1, by rw [h3]⟩
  · cases he
    exact ⟨none, 0, 0, by simpa [RelSV, RelV1, RelAtom] using hx, rfl⟩
  · cases he
    obtain ⟨A, h1⟩ := hx
    exact ⟨A, 0, 0, by simpa using h1, rfl⟩
  · cases he

def execLen (ti : TypeId → Option TI) (T : TypeId) (st : St) (x : SVal) (K : SVal → Option R) : Option R :=
  match ti T with
  | some { d := .slice _, .. } => match lenS st x with | some n => K (pI .i64 n) | none => none
  | some { d := .str, .. } => match x with | .v (.one (.pure .str s)) => K (pI .i64 s.size) | _ => none
  | some { d := .array n _, .. } => K (pI .i64 n)
  | _ => none

theorem execLen_sound (hT : TIs B.P ti) (h : Inv B C w a st) {T : TypeId} {x : SVal} {vx : Value} (hx : RelSV B.P C w x vx) {ts : Array TypeId} (ht : ts[0]? = some T) (ty : TypeId)
    (he : execLen ti T st x K = some r) : Tells rd B C w st K r (Builtin.len_ ts ty #[vx]) := by
  unfold execLen at he
  split at he
  · rename_i e sz by_ z c hS
    split at he
    · rename_i n hn
      obtain ⟨d, hd, hu⟩ := run_und (hT T _ hS) w
      obtain ⟨A, l, c, rfl, rfl⟩ := lenS_rel h hx hn
      obtain rfl : d = .slice e := hd
      exact .mk' he (fun w' _ => by simp [Builtin.len_, ht, hu, goInt]) rfl (fun _ h => by cases h)
    · cases he
  · rename_i sz by_ z c hS
    split at he
    · rename_i s
      obtain ⟨d, hd, hu⟩ := run_und (hT T _ hS) w
      obtain rfl : d = .string := hd
      obtain rfl := rel_str hx
      exact .mk' he (fun w' _ => by simp [Builtin.len_, ht, hu, goInt]) rfl (fun _ h => by cases h)
    · cases he
  · rename_i n e sz by_ z c hS
    obtain ⟨d, hd, hu⟩ := run_und (hT T _ hS) w
    obtain rfl : d = .array n e := hd
    exact .mk' he (fun w' _ => by simp [Builtin.len_, ht, hu, goInt]) rfl (fun _ h => by cases h)
  · cases he

def intS : SVal → Option (IntKind × Int)
  | .v (.one (.pure (.int k) n)) => some (k, n)
  | _ => none

theorem intS_rel {P : Program} {x : SVal} {v : Value} {k : IntKind} {n : Int} (hx : RelSV P C w x v) (h : intS x = some (k, n)) : v = .int k n := by
  unfold intS at h
  split at h
  · cases h; exact rel_int hx
  · cases h

def execMinMax (mx : Bool) (x y : SVal) (K : SVal → Option R) : Option R :=
  match intS x, intS y with
    | some (k, a), some (_, b) => K (pI k (bif mx then (bif decide (b > a) then b else a) else (bif decide (b < a) then b else a)))
    | _, _ => none

theorem execMinMax_sound {mx : Bool} {x y : SVal} {vx vy : Value} (hx : RelSV B.P C w x vx) (hy : RelSV B.P C w y vy) (ts : Array TypeId) (ty : TypeId)
    (he : execMinMax mx x y K = some r) : Tells rd B C w st K r (if mx then Builtin.max_ ts ty #[vx, vy] else Builtin.min_ ts ty #[vx, vy]) := by
  unfold execMinMax at he
  split at he
  · rename_i k a k' b h1 h2
    obtain rfl := intS_rel hx h1
    obtain rfl := intS_rel hy h2
    cases mx with
    | true =>
      refine .mk' he ?_ rfl (fun _ h => by cases h)
      simp only [if_true, cond_true]
      intro w' _
      rw [run_max_int2]
      congr 2
      by_cases hba : b > a <;> simp [hba]
    | false =>
      refine .mk' he ?_ rfl (fun _ h => by cases h)
      simp only [Bool.false_eq_true, if_false, cond_false]
      intro w' _
      rw [run_min_int2]
      congr 2
      by_cases hba : b < a <;> simp [hba]
  · cases he

/-! Conversions of whole numbers -/

def execConvert (ti : TypeId → Option TI) (s d : TypeId) (x : SVal) (K : SVal → Option R) : Option R :=
  match ti s, ti d, x with
  | some { d := .int _, .. }, some { d := .int k, .. }, .v (.one (.pure (.int _) n)) => K (pI k (k.wrap n))
  | _, _, _ => none

theorem execConvert_sound (hT : TIs B.P ti) {s d : TypeId} {x : SVal} {vx : Value} (hx : RelSV B.P C w x vx) (he : execConvert ti s d x K = some r) : Tells rd B C w st K r (convert s d vx) := by
  unfold execConvert at he
  split at he
  · rename_i hs hd
    obtain ⟨d1, h1, hu1⟩ := run_und (hT _ _ hs) w
    obtain ⟨d2, h2, hu2⟩ := run_und (hT _ _ hd) w
    obtain rfl : d1 = .int _ := h1
    obtain rfl : d2 = .int _ := h2
    obtain rfl := rel_int hx
    exact .mk' he (fun w' _ => by simp [convert, hu1, hu2, Conv.intToInt]) rfl (fun _ h => by cases h)
  · cases he
end
end Go.AM

/- Elements' addresses, cuts, structs built, function values. -/
namespace Go.AM
open Go.RowKit

def explodeD : (t : Ty) → t.den → List Datum
  | .unit, _ => []
  | .pair a b, x => explodeD a x.1 ++ explodeD b x.2
  | .agg t, x => explodeD t x
  | .int k, x => [⟨.int k, x⟩]
  | .bool, x => [⟨.bool, x⟩]
  | .str, x => [⟨.str, x⟩]
  | .list t, x => [⟨.list t, x⟩]
  | .arr n t, x => [⟨.arr n t, x⟩]
  | .fn a r, x => [⟨.fn a r, x⟩]
  | .opt t, x => [⟨.opt t, x⟩]
  | .sum a b, x => [⟨.sum a b, x⟩]

theorem explodeD_rel {P : Program} {I : Nat → Prop} {w : World} : ∀ (t : Ty) {x : t.den} {cs : List Value}, (rels P t).cells I w x cs → concatR (fun (p : Datum) cs => (rels P p.1).cells I w p.2 cs) (explodeD t x) cs := by
  intro t
  induction t with
  | unit => intro x cs h; exact h
  | pair a b iha ihb => rintro x cs ⟨c1, c2, rfl, h1, h2⟩; exact (iha h1).append (ihb h2)
  | agg t ih => intro x cs h; exact ih h
  | int => intro x cs h; exact concatR.one h
  | bool => intro x cs h; exact concatR.one h
  | str => intro x cs h; exact concatR.one h
  | list t => intro x cs h; exact concatR.one h
  | arr n t => intro x cs h; exact concatR.one h
  | fn a r => intro x cs h; exact concatR.one h
  | opt t => intro x cs h; exact h.elim
  | sum a b => intro x cs h; exact h.elim

section
variable {rd : Bool} {B : Base} {C : Ctx} {w : World} {a : Act} {st : St} {ti : TypeId → Option TI} {R : Type} {K : SVal → Option R} {r : R}

/-- What an indexed slice is, for its elements' addresses. -/
def execIndexAddr (ti : TypeId → Option TI) (T : TypeId) (st : St) (x i : SVal) (K : SVal → Option R) : Option R :=
  match intS i with
  | none => none
  | some (_, j) =>
    match ti T with
    | some { d := .slice e, .. } =>
      match ti e with
      | none => none
      | some ie =>
        match x with
        | .v (.one (.own k)) =>
          match hget k st.heap with
          | some (.row _ _ xs) => bif decide (0 ≤ j ∧ j < (xs.length : Int)) then K (.v (.one (.rptr k j.toNat ie.size 0))) else none
          | some (.lrow _ xs) => bif decide (0 ≤ j ∧ j < (xs.length : Int)) then K (.v (.one (.rptr k j.toNat ie.size 0))) else none
          | _ => none
        | .v (.one (.seg k lo n sz)) => if sz = ie.size then bif decide (0 ≤ j ∧ j < (n : Int)) then K (.v (.one (.rptr k (lo + j.toNat) ie.size 0))) else none else none
        | .v (.one (.pure (.list t) xs)) => if t.size = ie.size ∧ 0 < ie.size then bif decide (0 ≤ j ∧ j < (xs.length : Int)) then K (.v (.one (.cptr (explodeD t (xs.getD j.toNat t.dflt))))) else none else none
        | _ => none
    | some { d := .array n e, .. } =>
      match ti e with
      | none => none
      | some ie =>
        match x with
        | .v (.one (.ptr k off)) => bif decide (0 ≤ j ∧ j < (n : Int)) then K (.v (.one (.aptr k off j.toNat n ie.size 0))) else none
        | .v (.one (.cptr (⟨.arr n' t, xs⟩ :: _))) => if t.size = ie.size ∧ n' = n then bif decide (0 ≤ j ∧ j < (n : Int)) then K (.v (.one (.cptr (explodeD t (xs.getD j.toNat t.dflt))))) else none else none
        | _ => none
    | _ => none

theorem run_indexAt_slice {T e : TypeId} (hT : TIs B.P ti) {sz by_ : Nat} {z : List Value} {c : Ty} (hS : ti T = some ⟨.slice e, sz, by_, z, c⟩) {ie : TI} (he : ti e = some ie) (ad : Addr) (n cap : Nat) (k : IntKind) (j : Int) (h0 : 0 ≤ j) (h1 : j < n) :
    (Instr.indexAt T (.slice (some ad) n cap) (.int k j)).run B.P w = .ok (.pointer (some (ad.add (j.toNat * ie.size)))) w := by
  obtain ⟨d, hd, hu⟩ := run_und (hT T _ hS) w
  obtain rfl : d = .slice e := hd
  have hsz := (hT e ie he).run_sizeOf
  simp [Instr.indexAt, asIntOf, hu, h0, h1, hsz]

theorem run_indexAt_array {T e : TypeId} (hT : TIs B.P ti) {sz by_ n : Nat} {z : List Value} {c : Ty} (hS : ti T = some ⟨.array n e, sz, by_, z, c⟩) {ie : TI} (he : ti e = some ie) (ad : Addr) (k : IntKind) (j : Int) (h0 : 0 ≤ j) (h1 : j < n) :
    (Instr.indexAt T (.pointer (some ad)) (.int k j)).run B.P w = .ok (.pointer (some (ad.add (j.toNat * ie.size)))) w := by
  obtain ⟨d, hd, hu⟩ := run_und (hT T _ hS) w
  obtain rfl : d = .array n e := hd
  have hsz := (hT e ie he).run_sizeOf
  simp [Instr.indexAt, asIntOf, hu, h0, h1, hsz, Instr.sureAddr]

/-- The cells of an element of what is left alone. -/
theorem laid_elem {P : Program} {I : Nat → Prop} {t : Ty} {xs : List t.den} {cells : List Value} (h : concatR ((rels P t).cells I w) xs cells) {j : Nat} (hj : j < xs.length) :
    ∃ d, (rels P t).cells I w (xs.getD j t.dflt) d ∧ ∀ l v, d[l]? = some v → cells[j * t.size + l]? = some v :=
  h.get (fun _ _ h => rels_size P t h) (getD_some hj t.dflt)

theorem execIndexAddr_sound (hT : TIs B.P ti) (h : Inv B C w a st) {T : TypeId} {x i : SVal} {vx vi : Value} (hx : RelSV B.P C w x vx) (hi : RelSV B.P C w i vi) (hk : ∀ k ∈ x.toks, k ∈ st.heap.map (·.1))
    (he : execIndexAddr ti T st x i K = some r) : Tells rd B C w st K r (Instr.indexAt T vx vi) := by
  unfold execIndexAddr at he
  split at he
  · cases he
  rename_i ki j hj
  obtain rfl := intS_rel hi hj
  split at he
  · rename_i e sz by_ z c hS
    split at he
    · cases he
    rename_i ie hie
    have ownk : ∀ {k : Tok} {b : Block} {t : Ty} {xs : List t.den}, hget k st.heap = some b → ((∃ e, b = .row e t xs) ∨ b = .lrow t xs) → vx = C.ρ k → x = .v (.one (.own k)) →
        (bif decide (0 ≤ j ∧ j < (xs.length : Int)) then K (.v (.one (.rptr k j.toNat ie.size 0))) else none) = some r → Tells rd B C w st K r (Instr.indexAt T vx (.int ki j)) := by
      intro k b t xs hg hb hv hxk hc
      obtain ⟨hc, hK⟩ := bif_some' hc
      simp only [decide_eq_true_eq] at hc
      have hrb := h.heap.blocks _ _ (hget_mem hg)
      obtain ⟨A, cap, h1, h2⟩ := hrb.len hb
      have hA : ∃ b o, A = some ⟨b, o, none⟩ := by
        rcases hb with ⟨e, rfl⟩ | rfl
        · rcases hrb with ⟨h3, _⟩ | ⟨g, cap, cur, h3, _⟩
          · omega
          · rw [h3] at h1; cases h1; exact ⟨g, 0, rfl⟩
        · obtain ⟨cells, h3, _⟩ := hrb
          rcases h3 with ⟨h4, _⟩ | ⟨b, o, c, e, h3, _⟩
          · omega
          · rw [h3] at h1; cases h1; exact ⟨b, o, rfl⟩
      obtain ⟨g, o, rfl⟩ := hA
      rw [hv, h1]
      refine .mk' hK (fun w' _ => run_indexAt_slice hT hS hie _ _ _ _ _ hc.1 hc.2) ⟨g, o, xs.length, cap, h1, by omega, by rw [Addr.add_lit, Nat.add_zero]⟩ (fun k' hk' => hk k' ?_)
      rw [hxk]; exact hk'
    split at he
    · rename_i k
      have hv : vx = C.ρ k := by simpa [RelSV, RelV1, RelAtom] using hx
      split at he
      · rename_i e' t xs hg; exact ownk hg (.inl ⟨e', rfl⟩) hv rfl he
      · rename_i t xs hg; exact ownk hg (.inr rfl) hv rfl he
      · cases he
    · rename_i k lo n sz'
      split at he
      · rename_i hsz
        obtain ⟨hc, hK⟩ := bif_some' he
        simp only [decide_eq_true_eq] at hc
        obtain ⟨A, cap, h1, h2, h3⟩ := hx
        obtain rfl : vx = .slice A n cap := by simpa using h1
        rcases h3 with h3 | ⟨b, o, m, c', h3, h4, rfl⟩
        · omega
        · refine .mk' hK (fun w' _ => run_indexAt_slice hT hS hie _ _ _ _ _ hc.1 hc.2) ⟨b, o, m, c', h3, by omega, ?_⟩ hk
          subst hsz
          rw [Addr.add_lit, Nat.add_zero, Nat.add_mul, Nat.add_assoc]
      · cases he
    · rename_i t xs
      split at he
      · rename_i hsz
        obtain ⟨hc, hK⟩ := bif_some' he
        simp only [decide_eq_true_eq] at hc
        obtain ⟨v, h1, A, n, cap, cs, h2, h3, h4, h5, h6⟩ := hx
        obtain rfl : vx = .slice A n cap := by rw [← h2]; simpa using h1
        have hjl : j.toNat < xs.length := by omega
        obtain ⟨d, hd, hg⟩ := laid_elem h5 hjl
        rcases h6 with h6 | ⟨b, o, rfl, hI, h6⟩
        · have := h5.length (fun _ _ h => rels_size B.P t h)
          rw [h6] at this
          have h0 : 0 < xs.length * t.size := Nat.mul_pos (by omega) (by omega)
          simp at this
          omega
        · subst h3
          refine .mk' hK (fun w' _ => run_indexAt_slice hT hS hie _ _ _ _ _ hc.1 hc.2) ⟨_, rfl, b, o + j.toNat * ie.size, d, by rw [Addr.add_lit], hI, explodeD_rel t hd, fun l u hl => ?_⟩ (fun _ h => by cases h)
          have := h6 _ _ (hg l u hl)
          rw [hsz.1] at this
          rwa [← Nat.add_assoc] at this
      · cases he
    · cases he
  · rename_i n e sz by_ z c hS
    split at he
    · cases he
    rename_i ie hie
    split at he
    · rename_i k off
      obtain ⟨hc, hK⟩ := bif_some' he
      simp only [decide_eq_true_eq] at hc
      obtain ⟨b, h1, h2⟩ := hx
      obtain rfl : vx = .pointer (some ⟨b, off, none⟩) := by simpa using h2
      exact .mk' hK (fun w' _ => run_indexAt_array hT hS hie _ _ _ hc.1 hc.2) ⟨b, h1, by omega, by rw [Addr.add_lit, Nat.add_zero]⟩ hk
    · rename_i n' t xs rest
      split at he
      · rename_i hsz
        obtain ⟨hc, hK⟩ := bif_some' he
        simp only [decide_eq_true_eq] at hc
        obtain ⟨v, h1, b, o, ds, h2, hI, ⟨c1, c2, rfl, ⟨hl, hcs⟩, h4⟩, h5⟩ := hx
        obtain rfl : vx = .pointer (some ⟨b, o, none⟩) := by rw [← h2]; simpa using h1
        simp only at hl
        have hjl : j.toNat < xs.length := by omega
        obtain ⟨d, hd, hg⟩ := laid_elem hcs hjl
        refine .mk' hK (fun w' _ => run_indexAt_array hT hS hie _ _ _ hc.1 hc.2) ⟨_, rfl, b, o + j.toNat * ie.size, d, by rw [Addr.add_lit], hI, explodeD_rel t hd, fun l u hlu => ?_⟩ (fun _ h => by cases h)
        have h6 := hg l u hlu
        have h7 := (List.getElem?_eq_some_iff.1 h6).1
        have := h5 _ u (by rw [List.getElem?_append_left h7]; exact h6)
        rw [hsz.1] at this
        rwa [← Nat.add_assoc] at this
      · cases he
    · cases he
  · cases he
end
end Go.AM

/- Cuts, indexed values, structs built, function and interface values. -/
namespace Go.AM
open Go.RowKit

theorem take_of_get {cs d : List Value} {o : Nat} (h : ∀ l v, d[l]? = some v → cs[o + l]? = some v) : (cs.drop o).take d.length = d := by
  apply List.ext_getElem?
  intro l
  rw [List.getElem?_take]
  split
  · rename_i hl
    rw [List.getElem?_drop, List.getElem?_eq_getElem hl]
    exact h l _ (List.getElem?_eq_getElem hl)
  · rename_i hl
    rw [List.getElem?_eq_none (by omega)]

theorem len_of_get {cs d : List Value} {o : Nat} (h : ∀ l v, d[l]? = some v → cs[o + l]? = some v) (hd : 0 < d.length) : o + d.length ≤ cs.length := by
  have := h (d.length - 1) _ (List.getElem?_eq_getElem (by omega))
  have := (List.getElem?_eq_some_iff.1 this).1
  omega

section
variable {rd : Bool} {B : Base} {C : Ctx} {w : World} {a : Act} {st : St} {ti : TypeId → Option TI} {R : Type} {K : SVal → Option R} {r : R}

/-! The value of an index -/

def execIndex (ti : TypeId → Option TI) (T : TypeId) (x i : SVal) (K : SVal → Option R) : Option R :=
  match intS i with
  | none => none
  | some (_, j) =>
    match ti T with
    | some { d := .str, .. } =>
      match x with
      | .v (.one (.pure .str s)) => bif decide (0 ≤ j ∧ j < (s.size : Int)) then K (pI .u8 ((s.data.toList.getD j.toNat 0).toNat : Int)) else none
      | _ => none
    | some { d := .array n e, .. } =>
      match ti e with
      | none => none
      | some ie =>
        match x with
        | .v (.agg [.pure (.arr n' t) xs]) =>
          if t.size = ie.size ∧ n' = n then
            bif decide (0 ≤ j ∧ j < (n : Int)) then
              match ie.pack (explode t (xs.getD j.toNat t.dflt)) with
              | some y => K (.v y)
              | none => none
            else none
          else none
        | .v (.agg as) =>
          bif decide (0 ≤ j ∧ j < (n : Int)) then
            match partA as (j.toNat * ie.size) ie with
            | some y => K (.v y)
            | none => none
          else none
        | _ => none
    | _ => none

theorem execIndex_sound (hT : TIs B.P ti) {T : TypeId} {x i : SVal} {vx vi : Value} (hx : RelSV B.P C w x vx) (hi : RelSV B.P C w i vi) (hk : ∀ k ∈ x.toks, k ∈ st.heap.map (·.1))
    (he : execIndex ti T x i K = some r) : Tells rd B C w st K r (Instr.index T vx vi) := by
  unfold execIndex at he
  split at he
  · cases he
  rename_i ki j hj
  obtain rfl := intS_rel hi hj
  split at he
  · rename_i sz by_ z c hS
    split at he
    · rename_i s
      obtain ⟨hc, hK⟩ := bif_some' he
      simp only [decide_eq_true_eq] at hc
      obtain rfl := rel_str hx
      obtain ⟨d, hd, hu⟩ := run_und (hT T _ hS) w
      obtain rfl : d = .string := hd
      have hlt : j.toNat < s.size := by omega
      have hg : s[j.toNat]? = some s[j.toNat] := by rw [getElem?_pos s j.toNat hlt]
      have hv : s.data.toList.getD j.toNat 0 = s[j.toNat] := by
        rw [List.getD_eq_getElem?_getD, Array.getElem?_toList, Array.getElem?_eq_getElem (show j.toNat < s.data.size from hlt)]
        rfl
      rw [hv] at hK
      exact .mk' hK (fun w' _ => by simp [Instr.index, asIntOf, hu, hc.1, hg]) rfl (fun _ h => by cases h)
    · cases he
  · rename_i n e sz by_ z c hS
    split at he
    · cases he
    rename_i ie hie
    obtain ⟨d, hd, hu⟩ := run_und (hT T _ hS) w
    obtain rfl : d = .array n e := hd
    have hsz := (hT e ie hie).run_sizeOf
    have run : ∀ {cs : List Value} (w : World), 0 ≤ j → j < n → j.toNat * ie.size + ie.size ≤ cs.length → (ie.d.isAgg = false → ie.size = 1) →
        (Instr.index T (.agg cs.toArray) (.int ki j)).run B.P w = .ok (if ie.d.isAgg then .agg ((cs.drop (j.toNat * ie.size)).take ie.size).toArray else ((cs.drop (j.toNat * ie.size)).take ie.size).headD undef) w := by
      intro cs w h0 h1 h2 h3
      have := run_part (B := B) (w := w) (hT e ie hie) h3 cs (j.toNat * ie.size) h2
      simp only [Instr.index, asIntOf, Sem.run_bind, Sem.run_pure, Result.andThen_ok, hu, h0, h1, and_self, if_true, hsz, this]
    split at he
    · rename_i n' t xs
      split at he
      · rename_i hsz'
        obtain ⟨hc, hK⟩ := bif_some' he
        simp only [decide_eq_true_eq] at hc
        split at hK
        · rename_i y hy
          obtain ⟨cs, rfl, c1, c2, rfl, ⟨hl, hcs⟩, h2⟩ := hx
          obtain rfl : c2 = [] := h2
          rw [List.append_nil]
          have hl2 : xs.length = n' := hl
          have hjl : j.toNat < xs.length := by rw [hl2, hsz'.2]; omega
          obtain ⟨dd, hd, hg⟩ := laid_elem hcs hjl
          have hds := rels_size B.P t hd
          rw [hsz'.1] at hg hds
          have ht := take_of_get hg
          rw [hds] at ht
          have hle : j.toNat * ie.size + ie.size ≤ c1.length := by
            rcases Nat.eq_zero_or_pos ie.size with h0 | h0
            · rw [h0]; omega
            · have := len_of_get hg (by omega); omega
          refine .mk' hK (fun w' _ => run w' hc.1 hc.2 hle (pack_one hy)) ?_ (fun k' hk' => ?_)
          · rw [ht]
            exact pack_rel hy hds (explode_rel t hd)
          · have hx : y.atoms = explode t (xs.getD j.toNat t.dflt) := by
              unfold TI.pack at hy
              split at hy
              · cases hy; rfl
              · split at hy
                · split at hy
                  · rename_i e; cases hy; rw [e]; rfl
                  · cases hy
                · cases hy
            have hk2 : k' ∈ y.atoms.flatMap Atom.toks := hk'
            rw [hx, explode_toks] at hk2
            cases hk2
        · cases hK
      · cases he
    · rename_i as _
      obtain ⟨hc, hK⟩ := bif_some' he
      simp only [decide_eq_true_eq] at hc
      split at hK
      · rename_i y hy
        obtain ⟨cs, rfl, h1⟩ := hx
        obtain ⟨h2, h3⟩ := partA_rel hy h1
        exact .mk' hK (fun w' _ => run w' hc.1 hc.2 h2 (partA_one hy)) h3 (fun k' hk' => hk k' (partA_toks hy hk'))
      · cases hK
    · cases he
  · cases he

/-! Cuts -/

def optI (x : Option SVal) : Option (Option Int) :=
  match x with
  | none => some none
  | some s => match intS s with | some (_, n) => some (some n) | none => none

def cutL {α : Type} (xs : List α) (lo hi : Option Int) : List α :=
  match lo, hi with
  | none, none => xs
  | some l, none => xs.drop l.toNat
  | none, some h => xs.take h.toNat
  | some l, some h => (xs.take h.toNat).drop l.toNat

/-- Do the bounds of a cut fit a length? -/
def cutOk (n : Int) (lo hi mx : Option Int) : Bool :=
  match lo, hi, mx with
  | none, none, none => true
  | some l, none, none => decide (0 ≤ l ∧ l ≤ n)
  | none, some h, none => decide (0 ≤ h ∧ h ≤ n)
  | some l, some h, none => decide (0 ≤ l ∧ l ≤ h ∧ h ≤ n)
  | none, some h, some m => decide (0 ≤ h ∧ h ≤ m ∧ m ≤ n)
  | some l, some h, some m => decide (0 ≤ l ∧ l ≤ h ∧ h ≤ m ∧ m ≤ n)
  | _, none, some _ => false

def execSlice (ti : TypeId → Option TI) (T : TypeId) (st : St) (x : SVal) (lo hi mx : Option SVal) (K : SVal → Option R) : Option R :=
  match optI lo, optI hi, optI mx with
  | some l, some h, some m =>
    match ti T with
    | some { d := .slice e, .. } =>
      match ti e with
      | none => none
      | some ie =>
        match x with
        | .v (.one (.pure (.list t) xs)) => if t.size = ie.size then bif cutOk xs.length l h m then K (.v (.one (.pure (.list t) (cutL xs l h)))) else none else none
        | .v (.one (.own k)) =>
          match hget k st.heap with
          | some (.row _ _ xs) => bif cutOk xs.length l h m then K (.v (.one (.seg k ((l.getD 0).toNat) ((h.getD xs.length).toNat - (l.getD 0).toNat) ie.size))) else none
          | some (.lrow _ xs) => bif cutOk xs.length l h m then K (.v (.one (.seg k ((l.getD 0).toNat) ((h.getD xs.length).toNat - (l.getD 0).toNat) ie.size))) else none
          | _ => none
        | .v (.one (.seg k lo n sz)) => if sz = ie.size then bif cutOk n l h m then K (.v (.one (.seg k (lo + (l.getD 0).toNat) ((h.getD n).toNat - (l.getD 0).toNat) sz))) else none else none
        | _ => none
    | some { d := .str, .. } =>
      match x, m with
      | .v (.one (.pure .str s)), none => bif cutOk s.size l h none then K (pS (s.extract (l.getD 0).toNat (h.getD s.size).toNat)) else none
      | _, _ => none
    | _ => none
  | _, _, _ => none

theorem optI_rel {P : Program} {x : Option SVal} {v : Option Value} {n : Option Int} (h : optI x = some n) (hx : ∀ s, x = some s → ∃ u, v = some u ∧ RelSV P C w s u) (h0 : x = none → v = none) :
    (n = none ∧ v = none) ∨ ∃ k m, n = some m ∧ v = some (.int k m) := by
  unfold optI at h
  split at h
  · cases h; exact .inl ⟨rfl, h0 rfl⟩
  · rename_i s
    obtain ⟨u, rfl, hu⟩ := hx s rfl
    split at h
    · rename_i k m hm
      cases h
      exact .inr ⟨k, m, rfl, by rw [intS_rel hu hm]⟩
    · cases h

/-- The bounds as the machine finds them. -/
theorem run_bounds {P : Program} {isS : Bool} {n cap : Nat} {lo hi mx : Option Int} {vl vh vm : Option Value} (hl : (lo = none ∧ vl = none) ∨ ∃ k m, lo = some m ∧ vl = some (.int k m))
    (hh : (hi = none ∧ vh = none) ∨ ∃ k m, hi = some m ∧ vh = some (.int k m)) (hm : (mx = none ∧ vm = none) ∨ ∃ k m, mx = some m ∧ vm = some (.int k m)) (hc : cutOk n lo hi mx = true) (hn : n ≤ cap) :
    ∃ l h m : Nat, (∀ w, (Instr.sliceBounds isS n cap vl vh vm).run P w = .ok (l, h, m) w) ∧ l = (lo.getD 0).toNat ∧ h = (hi.getD n).toNat ∧ l ≤ h ∧ h ≤ n ∧ h ≤ m ∧ m ≤ cap := by
  have sb : ∀ (k : IntKind) (i : Int) (y : Nat) (c : BoundsCode), 0 ≤ i → i ≤ y → ∀ w, (Instr.sliceBound (.int k i) y c).run P w = .ok i.toNat w := by
    intro k i y c h0 h1 w
    simp [Instr.sliceBound, asIntOf, h0, h1]
  rcases hl with ⟨rfl, rfl⟩ | ⟨kl, l, rfl, rfl⟩ <;> rcases hh with ⟨rfl, rfl⟩ | ⟨kh, h, rfl, rfl⟩ <;> rcases hm with ⟨rfl, rfl⟩ | ⟨km, m, rfl, rfl⟩ <;> simp only [cutOk, decide_eq_true_eq] at hc
  · exact ⟨0, n, cap, by simp [Instr.sliceBounds], rfl, by simp, by omega, by omega, by omega, by omega⟩
  · cases hc
  · refine ⟨0, h.toNat, cap, ?_, rfl, by simp, by omega, by omega, by omega, by omega⟩
    simp [Instr.sliceBounds, sb kh h cap _ hc.1 (by omega)]
  · refine ⟨0, h.toNat, m.toNat, ?_, rfl, by simp, by omega, by omega, by omega, by omega⟩
    simp [Instr.sliceBounds, sb km m cap _ (by omega) (by omega), sb kh h m.toNat _ hc.1 (by omega)]
  · refine ⟨l.toNat, n, cap, ?_, by simp, by simp, by omega, by omega, by omega, by omega⟩
    simp [Instr.sliceBounds, sb kl l n _ hc.1 (by omega)]
  · cases hc
  · refine ⟨l.toNat, h.toNat, cap, ?_, by simp, by simp, by omega, by omega, by omega, by omega⟩
    simp [Instr.sliceBounds, sb kh h cap _ (by omega) (by omega), sb kl l h.toNat _ hc.1 (by omega)]
  · refine ⟨l.toNat, h.toNat, m.toNat, ?_, by simp, by simp, by omega, by omega, by omega, by omega⟩
    simp [Instr.sliceBounds, sb km m cap _ (by omega) (by omega), sb kh h m.toNat _ (by omega) (by omega), sb kl l h.toNat _ hc.1 (by omega)]

theorem cutL_eq {α : Type} (xs : List α) {lo hi : Option Int} : cutL xs lo hi = (xs.take (hi.getD xs.length).toNat).drop (lo.getD 0).toNat := by
  cases lo <;> cases hi <;> simp [cutL]

theorem run_sliceAt_slice {T e : TypeId} (hT : TIs B.P ti) {sz by_ : Nat} {z : List Value} {c : Ty} (hS : ti T = some ⟨.slice e, sz, by_, z, c⟩) {ie : TI} (he : ti e = some ie) {A : Option Addr} {n cap l h m : Nat} {vl vh vm : Option Value}
    (hb : (Instr.sliceBounds true n cap vl vh vm).run B.P w = .ok (l, h, m) w) :
    (Instr.sliceAt T (.slice A n cap) vl vh vm).run B.P w = .ok (.slice (if m = l then A else A.map (·.add (l * ie.size))) (h - l) (m - l)) w := by
  obtain ⟨d, hd, hu⟩ := run_und (hT T _ hS) w
  obtain rfl : d = .slice e := hd
  have hsz := (hT e ie he).run_sizeOf
  simp [Instr.sliceAt, Instr.slice, hu, hb, hsz]

theorem execSlice_sound (hT : TIs B.P ti) (h : Inv B C w a st) {T : TypeId} {x : SVal} {vx : Value} {lo hi mx : Option SVal} {vl vh vm : Option Value} (hx : RelSV B.P C w x vx) (hk : ∀ k ∈ x.toks, k ∈ st.heap.map (·.1))
    (hl : (∀ s, lo = some s → ∃ u, vl = some u ∧ RelSV B.P C w s u) ∧ (lo = none → vl = none)) (hh : (∀ s, hi = some s → ∃ u, vh = some u ∧ RelSV B.P C w s u) ∧ (hi = none → vh = none)) (hm : (∀ s, mx = some s → ∃ u, vm = some u ∧ RelSV B.P C w s u) ∧ (mx = none → vm = none))
    (he : execSlice ti T st x lo hi mx K = some r) : Tells rd B C w st K r (Instr.sliceAt T vx vl vh vm) := by
  unfold execSlice at he
  split at he
  case h_2 => cases he
  rename_i l hi' m e1 e2 e3
  have rl := optI_rel e1 hl.1 hl.2
  have rh := optI_rel e2 hh.1 hh.2
  have rm := optI_rel e3 hm.1 hm.2
  split at he
  · rename_i e sz by_ z c hS
    split at he
    · cases he
    rename_i ie hie
    have ownk : ∀ {k : Tok} {b : Block} {t : Ty} {xs : List t.den}, hget k st.heap = some b → ((∃ e, b = .row e t xs) ∨ b = .lrow t xs) → vx = C.ρ k → x = .v (.one (.own k)) →
        (bif cutOk xs.length l hi' m then K (.v (.one (.seg k ((l.getD 0).toNat) ((hi'.getD xs.length).toNat - (l.getD 0).toNat) ie.size))) else none) = some r → Tells rd B C w st K r (Instr.sliceAt T vx vl vh vm) := by
      intro k b t xs hg hb hv hxk hc
      obtain ⟨hc, hK⟩ := bif_some' hc
      have hrb := h.heap.blocks _ _ (hget_mem hg)
      obtain ⟨A, cap, h1, h2⟩ := hrb.len hb
      obtain ⟨l', h', m', hrun, rfl, rfl, b1, b2, b3, b4⟩ := run_bounds (P := B.P) (isS := true) rl rh rm hc h2
      rw [hv, h1]
      refine .mk' hK (fun w' _ => run_sliceAt_slice hT hS hie (hrun _)) ⟨_, _, rfl, by omega, ?_⟩ (fun k' hk' => hk k' (by rw [hxk]; exact hk'))
      rcases Nat.eq_zero_or_pos ((hi'.getD xs.length).toNat - (l.getD 0).toNat) with h0 | h0
      · exact .inl h0
      · have hA : ∃ b o, A = some ⟨b, o, none⟩ := by
          rcases hb with ⟨e, rfl⟩ | rfl
          · rcases hrb with ⟨h3, _⟩ | ⟨g, cap, cur, h3, _⟩
            · omega
            · rw [h3] at h1; cases h1; exact ⟨g, 0, rfl⟩
          · obtain ⟨cells, h3, _⟩ := hrb
            rcases h3 with ⟨h4, _⟩ | ⟨b, o, c, e, h3, _⟩
            · omega
            · rw [h3] at h1; cases h1; exact ⟨b, o, rfl⟩
        obtain ⟨g, o, rfl⟩ := hA
        refine .inr ⟨g, o, xs.length, cap, h1, by omega, ?_⟩
        rw [if_neg (by omega)]
        simp [Addr.add_lit]
    split at he
    · rename_i t xs
      split at he
      · rename_i hsz
        obtain ⟨hc, hK⟩ := bif_some' he
        obtain ⟨v, h1, A, n, cap, cs, h2, h3, h4, h5, h6⟩ := hx
        obtain rfl : vx = .slice A n cap := by rw [← h2]; simpa using h1
        subst h3
        obtain ⟨l', h', m', hrun, e1, e2, b1, b2, b3, b4⟩ := run_bounds (P := B.P) (isS := true) rl rh rm hc h4
        refine .mk' hK (fun w' _ => run_sliceAt_slice hT hS hie (hrun _)) ?_ (fun _ h => by cases h)
        have hsize : ∀ x cs, (rels B.P t).cells C.I w x cs → cs.length = t.size := fun _ _ h => rels_size B.P t h
        refine ⟨_, rfl, _, _, _, (cs.take (h' * t.size)).drop (l' * t.size), rfl, ?_, by omega, ?_, ?_⟩
        · rw [cutL_eq, List.length_drop, List.length_take, ← e1, ← e2]; omega
        · rw [cutL_eq, ← e1, ← e2]
          exact (h5.take hsize h').drop hsize l'
        · rcases Nat.eq_or_lt_of_le b1 with h0 | h0
          · left; rw [h0]; simp
          · rcases h6 with h6 | ⟨b, o, rfl, hI, h6⟩
            · left; rw [h6]; simp
            · right
              refine ⟨b, o + l' * t.size, ?_, hI, fun j u hj => ?_⟩
              · rw [if_neg (by omega)]; simp [Addr.add_lit, hsz]
              · rw [List.getElem?_drop, List.getElem?_take] at hj
                split at hj
                · have := h6 _ _ hj
                  rwa [← Nat.add_assoc] at this
                · cases hj
      · cases he
    · rename_i k
      have hv : vx = C.ρ k := by simpa [RelSV, RelV1, RelAtom] using hx
      split at he
      · rename_i e' t xs hg; exact ownk hg (.inl ⟨e', rfl⟩) hv rfl he
      · rename_i t xs hg; exact ownk hg (.inr rfl) hv rfl he
      · cases he
    · rename_i k lo' n sz'
      split at he
      · rename_i hsz
        obtain ⟨hc, hK⟩ := bif_some' he
        obtain ⟨A, cap, h1, h2, h3⟩ := hx
        obtain rfl : vx = .slice A n cap := by simpa using h1
        obtain ⟨l', h', m', hrun, rfl, rfl, b1, b2, b3, b4⟩ := run_bounds (P := B.P) (isS := true) rl rh rm hc h2
        refine .mk' hK (fun w' _ => run_sliceAt_slice hT hS hie (hrun _)) ⟨_, _, rfl, by omega, ?_⟩ hk
        rcases Nat.eq_zero_or_pos ((hi'.getD n).toNat - (l.getD 0).toNat) with h0 | h0
        · exact .inl h0
        · rcases h3 with h3 | ⟨b, o, mm, c', h3, h4, rfl⟩
          · omega
          · refine .inr ⟨b, o, mm, c', h3, by omega, ?_⟩
            rw [if_neg (by omega), ← hsz]
            simp [Addr.add_lit, Nat.add_mul, Nat.add_assoc]
      · cases he
    · cases he
  · rename_i sz by_ z c hS
    split at he
    · rename_i s
      obtain ⟨hc, hK⟩ := bif_some' he
      obtain rfl := rel_str hx
      obtain ⟨d, hd, hu⟩ := run_und (hT T _ hS) w
      obtain rfl : d = .string := hd
      have hvm : vm = none := by
        rcases rm with ⟨_, h⟩ | ⟨k, m, h, _⟩
        · exact h
        · cases h
      subst hvm
      obtain ⟨l', h', m', hrun, rfl, rfl, b1, b2, b3, b4⟩ := run_bounds (P := B.P) (isS := false) rl rh (.inl ⟨rfl, rfl⟩) hc (Nat.le_refl _)
      exact .mk' hK (fun w' _ => by simp [Instr.sliceAt, Instr.slice, hu, hrun]) rfl (fun _ h => by cases h)
    · cases he
  · cases he
end
end Go.AM

/- Structs and arrays built, function and interface values, checks. -/
namespace Go.AM
open Go.RowKit

/-- A type's zero cells: whole arrays, nil slices as such. -/
def zeroT : Ty → List Value → Option (List Atom × List Value)
  | .unit, vs => some ([], vs)
  | .pair a b, vs => match zeroT a vs with
    | some (x, r) => match zeroT b r with
      | some (y, s) => some (x ++ y, s)
      | none => none
    | none => none
  | .agg t, vs => zeroT t vs
  | .arr n t, vs => match litAs (vs.take (n * t.size)) with
    | some as => match implode (.arr n t) as with
      | some (x, []) => some ([.pure (.arr n t) x], vs.drop (n * t.size))
      | _ => none
    | none => none
  | _, v :: r => match litA v with | some a => some ([a], r) | none => none
  | _, [] => none

def zeroA (i : TI) : Option (List Atom) :=
  match zeroT i.cells i.zero with
  | some (as, []) => some as
  | _ => litAs i.zero

/-- Atoms whose values are such as memory holds. -/
def Atom.plain : Atom → Bool
  | .dead _ => false
  | .const v => v.oneCell'
  | _ => true

def fillA (place : Nat → Option (Nat × Nat)) (as : List Atom) : List (Nat × SVal) → Option (List Atom)
  | [] => some as
  | (i, .v x) :: rest => match place i with
    | some (off, sz) =>
      if (x.atoms.map Atom.size).sum = sz ∧ x.atoms.all Atom.plain = true then
        match putA off x.atoms as with
        | some bs => fillA place bs rest
        | none => none
      else none
    | none => none
  | _ => none

def places (ti : TypeId → Option TI) : List (Nat × TypeId) → Option (List (Nat × Nat))
  | [] => some []
  | (off, ft) :: r => match ti ft, places ti r with
    | some i, some l => some ((off, i.size) :: l)
    | _, _ => none

section
variable {P : Program} {C : Ctx} {w : World}

theorem zeroT_one {t : Ty} {vs : List Value} {as : List Atom} {r : List Value} (ht : zeroT t vs = match vs with | v :: r => (match litA v with | some a => some ([a], r) | none => none) | [] => none) (h : zeroT t vs = some (as, r)) :
    ∃ c, vs = c ++ r ∧ RelAtoms P C w as c ∧ as.flatMap Atom.toks = [] := by
  rw [ht] at h
  cases vs with
  | nil => cases h
  | cons v vs =>
    simp only at h
    split at h
    · rename_i a ha
      cases h
      obtain ⟨h1, h2⟩ := litA_rel (P := P) (C := C) (w := w) ha
      exact ⟨[v], rfl, ⟨[v], [], rfl, h1, rfl⟩, by simp [h2]⟩
    · cases h

theorem zeroT_rel : ∀ (t : Ty) {vs : List Value} {as : List Atom} {r : List Value}, zeroT t vs = some (as, r) → ∃ c, vs = c ++ r ∧ RelAtoms P C w as c ∧ as.flatMap Atom.toks = [] := by
  intro t
  induction t with
  | unit => intro vs as r h; cases h; exact ⟨[], rfl, rfl, rfl⟩
  | pair a b iha ihb =>
    intro vs as r h
    simp only [zeroT] at h
    split at h
    · rename_i x r1 h1
      split at h
      · rename_i y s h2
        cases h
        obtain ⟨c1, rfl, h3, h4⟩ := iha h1
        obtain ⟨c2, rfl, h5, h6⟩ := ihb h2
        exact ⟨c1 ++ c2, by simp, h3.append h5, by simp [h4, h6]⟩
      · cases h
    · cases h
  | agg t ih => intro vs as r h; exact ih h
  | arr n t ih =>
    intro vs as r h
    simp only [zeroT] at h
    split at h
    · rename_i bs hb
      obtain ⟨h1, h2⟩ := litAs_rel (P := P) (C := C) (w := w) hb
      split at h
      · rename_i x hx
        cases h
        obtain ⟨c1, c2, e, h3, h4⟩ := implode_rel (.arr n t) h1 hx
        obtain rfl : c2 = [] := h4
        rw [List.append_nil] at e
        exact ⟨vs.take (n * t.size), (List.take_append_drop _ _).symm, ⟨_, [], by rw [e]; simp, h3, rfl⟩, rfl⟩
      · cases h
    · cases h
  | _ => intro vs as r h; exact zeroT_one (by cases vs <;> rfl) h

theorem zeroA_rel {i : TI} {as : List Atom} (h : zeroA i = some as) : RelAtoms P C w as i.zero ∧ as.flatMap Atom.toks = [] := by
  unfold zeroA at h
  split at h
  · rename_i bs hb
    cases h
    obtain ⟨c, e, h1, h2⟩ := zeroT_rel (P := P) (C := C) (w := w) _ hb
    rw [List.append_nil] at e
    rw [e]; exact ⟨h1, h2⟩
  · exact litAs_rel h

theorem foldl_set (off : Nat) : ∀ (l : List Value) (s : Nat) (cells : Array Value), off + s + l.length ≤ cells.size →
    ((l.zipIdx s).foldl (fun (cs : Array Value) (p : Value × Nat) => cs.setIfInBounds (off + p.2) p.1) cells).toList = cells.toList.take (off + s) ++ (l ++ cells.toList.drop (off + s + l.length))
  | [], s, cells, h => by simp
  | v :: l, s, cells, h => by
    simp only [List.zipIdx_cons, List.foldl_cons]
    rw [foldl_set off l (s + 1) _ (by simp at h ⊢; omega)]
    simp only [List.length_cons] at h
    have hlt : off + s < cells.toList.length := by simp; omega
    simp only [Array.toList_setIfInBounds, List.length_cons, List.cons_append]
    rw [show off + (s + 1) = off + s + 1 by omega, show off + s + 1 + l.length = off + s + (l.length + 1) by omega]
    rw [List.drop_set_of_lt (by omega), List.take_set]
    have e : (cells.toList.take (off + s + 1)).set (off + s) v = cells.toList.take (off + s) ++ [v] := by
      rw [List.take_succ_eq_append_getElem hlt, List.set_append_right _ _ (by simp; omega)]
      have : off + s - min (off + s) cells.size = 0 := by simp at hlt; omega
      simp [List.length_take, this]
    rw [e]
    simp

theorem V1.cells_rel {x : V1} {v : Value} (h : RelV1 P C w x v) (hone : ∀ a, x = .one a → v.cells = #[v]) : RelAtoms P C w x.atoms v.cells.toList := by
  cases x with
  | one a => rw [hone a rfl]; exact ⟨[v], [], rfl, h, rfl⟩
  | agg as => obtain ⟨cs, rfl, h⟩ := h; simpa [Value.cells, V1.atoms] using h

/-- A value of one cell is no struct. -/
theorem cells_one {v : Value} (h : v.oneCell' = true) : v.cells = #[v] := by
  cases v <;> simp_all [Value.cells, Value.oneCell']

theorem RelCap.one {c : Cap} {v : Value} (h : RelCap P C w c v) : v.oneCell' = true := by
  cases c with
  | tok k => obtain ⟨h1, b, h2⟩ := h; rw [h1, h2]; rfl
  | imm ps => obtain ⟨b, o, ds, h, _⟩ := h; rw [h]; rfl

/-- Is a constant one cell's value? -/
def oneC : Value → Bool := Value.oneCell'

/-- Own blocks' values are pointers or slices. -/
theorem RelBlock.one {k : Tok} {b : Block} (h : RelBlock P C w k b) : (C.ρ k).oneCell' = true := by
  cases b with
  | var as => obtain ⟨x, cs, e, h1, _⟩ := h; rw [h1]; rfl
  | row e t xs => rcases h with ⟨_, A, h1⟩ | ⟨g, cap, cur, h1, _⟩ <;> rw [h1] <;> rfl
  | lrow t xs =>
    obtain ⟨cells, h1, _⟩ := h
    rcases h1 with ⟨_, _, A, c, h1⟩ | ⟨b, o, c, e, h1, _⟩ <;> rw [h1] <;> rfl

theorem RelAtom.one {a : Atom} {cs : List Value} (h : RelAtom P C w a cs) (hp : a.plain = true) (hk : ∀ k ∈ a.toks, (C.ρ k).oneCell' = true) : ∀ u ∈ cs, u.oneCell' = true := by
  cases a with
  | dead n => cases hp
  | pure t x => exact rels_one P t h
  | const v => intro u hu; rw [show cs = [v] from h] at hu; simp at hu; subst hu; exact hp
  | ptr k off => obtain ⟨b, _, e⟩ := h; intro u hu; rw [e] at hu; simp at hu; subst hu; rfl
  | cptr ps => obtain ⟨v, e, b, o, ds, e2, _⟩ := h; intro u hu; rw [e] at hu; simp at hu; subst hu; rw [e2]; rfl
  | rptr => obtain ⟨b, o, n, c, _, _, e⟩ := h; intro u hu; rw [e] at hu; simp at hu; subst hu; rfl
  | aptr => obtain ⟨b, _, _, e⟩ := h; intro u hu; rw [e] at hu; simp at hu; subst hu; rfl
  | e0 => obtain ⟨A, e⟩ := h; intro u hu; rw [e] at hu; simp at hu; subst hu; rfl
  | own k => intro u hu; rw [show cs = [_] from h] at hu; simp at hu; subst hu; exact hk k (by simp [Atom.toks])
  | seg => obtain ⟨A, c, e, _⟩ := h; intro u hu; rw [e] at hu; simp at hu; subst hu; rfl
  | func => obtain ⟨vs, e, _⟩ := h; intro u hu; rw [e] at hu; simp at hu; subst hu; rfl

theorem RelAtoms.one : ∀ {as : List Atom} {cs : List Value}, RelAtoms P C w as cs → (∀ a ∈ as, a.plain = true) → (∀ k ∈ as.flatMap Atom.toks, (C.ρ k).oneCell' = true) → ∀ u ∈ cs, u.oneCell' = true
  | [], _, h, _, _ => by intro u hu; rw [show _ = [] from h] at hu; cases hu
  | a :: as, _, ⟨c1, c2, e, h1, h2⟩, hp, hk => by
    intro u hu
    rw [e, List.mem_append] at hu
    rcases hu with hu | hu
    · exact h1.one (hp a (by simp)) (fun k hm => hk k (by simp only [List.flatMap_cons, List.mem_append]; exact .inl hm)) u hu
    · exact h2.one (fun a hm => hp a (List.mem_cons_of_mem _ hm)) (fun k hm => hk k (by simp only [List.flatMap_cons, List.mem_append]; exact .inr hm)) u hu

theorem fillA_rel {place : Nat → Option (Nat × Nat)} : ∀ {parts : List (Nat × SVal)} {vs : List (Nat × Value)} {as bs : List Atom} {cs : Array Value},
    RelAtoms P C w as cs.toList → fillA place as parts = some bs → parts.length = vs.length →
      (∀ (j : Nat) (p : Nat × SVal) (q : Nat × Value), parts[j]? = some p → vs[j]? = some q → p.1 = q.1 ∧ RelSV P C w p.2 q.2 ∧ ∀ k ∈ p.2.toks, (C.ρ k).oneCell' = true) →
    ∃ ds, Instr.fill place cs vs = some ds ∧ RelAtoms P C w bs ds.toList
  | [], [], as, bs, cs, h, e, _, _ => by cases e; exact ⟨cs, rfl, h⟩
  | [], _ :: _, _, _, _, _, _, hl, _ => by simp at hl
  | (i, s) :: parts, [], _, _, _, _, _, hl, _ => by simp at hl
  | (i, s) :: parts, (i', v) :: vs, as, bs, cs, h, e, hl, hr => by
    obtain ⟨h1, h2, h3⟩ := hr 0 _ _ rfl rfl
    simp only at h1 h2 h3
    subst h1
    cases s with
    | undef => simp [fillA] at e
    | tup xs => simp [fillA] at e
    | v x =>
      unfold fillA at e
      split at e
      · rename_i off sz hp
        split at e
        · rename_i hs
          split at e
          · rename_i bs' hb
            have hc : RelAtoms P C w x.atoms v.cells.toList := V1.cells_rel h2 (fun a ha => by
              subst ha
              have h7 := RelAtom.one (show RelAtom P C w a [v] from h2) (by have := hs.2; simpa [V1.atoms] using this) (fun k hk => h3 k (by simpa [SVal.toks, SVal.atoms, V1.atoms] using hk)) v (by simp)
              exact cells_one h7)
            have hsize : v.cells.size = sz := by have := hc.size; simpa [hs.1] using this
            obtain ⟨h4, h5⟩ := putA_rel h hc hb
            have h4' : off + v.cells.size ≤ cs.size := by simpa using h4
            have hfold : (v.cells.zipIdx.foldl (fun cs (x : Value × Nat) => cs.setIfInBounds (off + x.2) x.1) cs).toList = cs.toList.take off ++ (v.cells.toList ++ cs.toList.drop (off + v.cells.toList.length)) := by
              have := foldl_set off v.cells.toList 0 cs (by simpa using h4')
              rw [← Array.foldl_toList, Array.toList_zipIdx]
              simpa using this
            obtain ⟨ds, h6, h7⟩ := fillA_rel (cs := v.cells.zipIdx.foldl (fun cs (x : Value × Nat) => cs.setIfInBounds (off + x.2) x.1) cs) (by rw [hfold]; exact h5) e (by simpa using hl) (fun j p q hp hq => hr (j + 1) p q hp hq)
            refine ⟨ds, ?_, h7⟩
            unfold Instr.fill
            rw [hp]
            simp only
            rw [if_neg (by simp [hsize]; omega)]
            exact h6
          · cases e
        · cases e
      · cases e
end
end Go.AM

/- Structs built; function values; checks; new blocks. -/
namespace Go.AM
open Go.RowKit

/-- All of a list that can be told. -/
def evalAll (st : St) : List (Nat × Operand) → List (Nat × SVal)
  | [] => []
  | (i, x) :: r => (i, evalS st x) :: evalAll st r

def arrPlace (n sz : Nat) (i : Nat) : Option (Nat × Nat) := if i < n then some (i * sz, sz) else none

section
variable {rd : Bool} {B : Base} {C : Ctx} {w : World} {a : Act} {st : St} {ti : TypeId → Option TI} {R : Type} {K : SVal → Option R} {r : R}

theorem tok_one (h : InvH B C w st.heap) {k : Tok} (hk : k ∈ st.heap.map (·.1)) : (C.ρ k).oneCell' = true := by
  simp only [List.mem_map, Prod.exists, exists_and_right, exists_eq_right] at hk
  obtain ⟨b, hb⟩ := hk
  exact (h.blocks _ _ hb).one

theorem evalAll_rel (h : Inv B C w a st) : ∀ (l : List (Nat × Operand)), (evalAll st l).length = (l.map fun p => (p.1, a.eval p.2)).length ∧
    ∀ (j : Nat) (p : Nat × SVal) (q : Nat × Value), (evalAll st l)[j]? = some p → (l.map fun p => (p.1, a.eval p.2))[j]? = some q → p.1 = q.1 ∧ RelSV B.P C w p.2 q.2 ∧ ∀ k ∈ p.2.toks, k ∈ st.heap.map (·.1)
  | [] => ⟨rfl, fun j p q hp => by simp [evalAll] at hp⟩
  | (i, x) :: l => by
    obtain ⟨h1, h2⟩ := evalAll_rel h l
    refine ⟨by simp [evalAll, h1], fun j p q hp hq => ?_⟩
    cases j with
    | zero => cases hp; cases hq; exact ⟨rfl, (evalS_rel h x).1, (evalS_rel h x).2⟩
    | succ j => exact h2 j p q hp hq

theorem putA_toks' {as bs new : List Atom} {off : Nat} (e : putA off new as = some bs) {S : Tok → Prop} (h1 : ∀ k ∈ as.flatMap Atom.toks, S k) (h2 : ∀ k ∈ new.flatMap Atom.toks, S k) : ∀ k ∈ bs.flatMap Atom.toks, S k :=
  fun k hk => (putA_toks e hk).elim (h1 k) (h2 k)

theorem fillA_toks {place : Nat → Option (Nat × Nat)} {S : Tok → Prop} : ∀ {parts : List (Nat × SVal)} {as bs : List Atom}, fillA place as parts = some bs → (∀ k ∈ as.flatMap Atom.toks, S k) → (∀ p ∈ parts, ∀ k ∈ p.2.toks, S k) → ∀ k ∈ bs.flatMap Atom.toks, S k
  | [], as, bs, e, h, _ => by cases e; exact h
  | (i, s) :: parts, as, bs, e, h, hp => by
    cases s with
    | undef => simp [fillA] at e
    | tup xs => simp [fillA] at e
    | v x =>
      unfold fillA at e
      split at e
      · split at e
        · split at e
          · rename_i hb
            exact fillA_toks e (putA_toks' hb h (hp (i, .v x) (by simp))) (fun p hm => hp p (List.mem_cons_of_mem _ hm))
          · cases e
        · cases e
      · cases e

def execBuild (ti : TypeId → Option TI) (T : TypeId) (parts : List (Nat × SVal)) (K : SVal → Option R) : Option R :=
  match ti T with
  | none => none
  | some i =>
    match zeroA i with
    | none => none
    | some z =>
      match i.d with
      | .struct fs =>
        match places ti fs with
        | none => none
        | some pl => match fillA (pl[·]?) z parts with | some as => K (.v (.agg as)) | none => none
      | .array _ e =>
        match ti e with
        | none => none
        | some ie => match fillA (fun i => some (i * ie.size, ie.size)) z parts with | some as => K (.v (.agg as)) | none => none
      | _ => none

theorem places_run (hT : TIs B.P ti) : ∀ {fs : List (Nat × TypeId)} {pl : List (Nat × Nat)} {fields : List Field}, places ti fs = some pl → fields.map (fun f => (f.offset, f.type)) = fs →
    fields.mapM (fun f => (B.P.info? f.type).map fun i => (f.offset, i.size)) = some pl
  | [], pl, fields, h, e => by
    cases h
    obtain rfl : fields = [] := by simpa using e
    rfl
  | (off, ft) :: fs, pl, fields, h, e => by
    cases fields with
    | nil => simp at e
    | cons f fields =>
      simp only [List.map_cons, List.cons.injEq, Prod.mk.injEq] at e
      obtain ⟨⟨e1, e2⟩, e3⟩ := e
      unfold places at h
      split at h
      · rename_i i l hi hl
        cases h
        obtain ⟨d, tinf, z, _, _, h1, h2, _⟩ := hT ft i hi
        have ih := places_run hT hl e3
        simp only [List.mapM_cons, Option.bind_eq_bind, Option.pure_def]
        rw [e2, h1, ih]
        simp [h2, e1]
      · cases h

theorem execBuild_sound (hT : TIs B.P ti) (h : Inv B C w a st) {T : TypeId} {parts : Array (Nat × Operand)} (he : execBuild ti T (evalAll st parts.toList) K = some r) :
    Tells rd B C w st K r (Instr.build T (parts.map fun (i, x) => (i, a.eval x))) := by
  unfold execBuild at he
  split at he
  · cases he
  rename_i i hi
  split at he
  · cases he
  rename_i z hz
  obtain ⟨d, tinf, zv, hu, hd, hinf, hsz, hby, hzero, hcells⟩ := hT T i hi
  obtain ⟨hz1, hz2⟩ := zeroA_rel (P := B.P) (C := C) (w := w) hz
  obtain ⟨hlen, hrel⟩ := evalAll_rel h parts.toList
  have hrel' : ∀ (j : Nat) (p : Nat × SVal) (q : Nat × Value), (evalAll st parts.toList)[j]? = some p → (parts.toList.map fun p => (p.1, a.eval p.2))[j]? = some q → p.1 = q.1 ∧ RelSV B.P C w p.2 q.2 ∧ ∀ k ∈ p.2.toks, (C.ρ k).oneCell' = true :=
    fun j p q hp hq => ⟨(hrel j p q hp hq).1, (hrel j p q hp hq).2.1, fun k hk => tok_one h.heap ((hrel j p q hp hq).2.2 k hk)⟩
  have htoks : ∀ p ∈ evalAll st parts.toList, ∀ k ∈ p.2.toks, k ∈ st.heap.map (·.1) := by
    intro p hp
    obtain ⟨j, hj, rfl⟩ := List.getElem_of_mem hp
    have hj2 : j < (parts.toList.map fun p => (p.1, a.eval p.2)).length := by rw [← hlen]; exact hj
    exact (hrel j _ _ (List.getElem?_eq_getElem hj) (List.getElem?_eq_getElem hj2)).2.2
  have hmap : (parts.map fun (x : Nat × Operand) => (x.1, a.eval x.2)).toList = parts.toList.map fun p => (p.1, a.eval p.2) := by simp
  split at he
  · rename_i fs hfs
    split at he
    · cases he
    rename_i pl hpl
    split at he
    · rename_i as has
      rw [hfs] at hd
      obtain ⟨arr, rfl, harr⟩ := hd
      obtain ⟨ds, h1, h2⟩ := fillA_rel (cs := zv.cells) (by rw [hcells]; exact hz1) has hlen hrel'
      have hb : B.P.built T (parts.map fun (x : Nat × Operand) => (x.1, a.eval x.2)).toList = some ds := by
        unfold Program.built
        rw [hinf, hu]
        simp only [hzero]
        rw [places_run hT hpl harr, hmap]
        simpa using h1
      refine .mk' he (fun w' _ => run_build w' T _ ds hb) ⟨ds.toList, by simp, h2⟩ (fillA_toks has (by rw [hz2]; exact fun _ h => by cases h) htoks)
    · cases he
  · rename_i n e hfs
    split at he
    · cases he
    rename_i ie hie
    split at he
    · rename_i as has
      rw [hfs] at hd
      obtain rfl : d = .array n e := hd
      obtain ⟨ds, h1, h2⟩ := fillA_rel (cs := zv.cells) (by rw [hcells]; exact hz1) has hlen hrel'
      obtain ⟨d2, tinf2, zv2, _, _, hinf2, hsz2, _⟩ := hT e ie hie
      have hb : B.P.built T (parts.map fun (x : Nat × Operand) => (x.1, a.eval x.2)).toList = some ds := by
        unfold Program.built
        rw [hinf, hu]
        simp only [hzero, hinf2, hsz2, hmap]
        exact h1
      refine .mk' he (fun w' _ => run_build w' T _ ds hb) ⟨ds.toList, by simp, h2⟩ (fillA_toks has (by rw [hz2]; exact fun _ h => by cases h) htoks)
    · cases he
  · cases he

/-! Function values, interface values -/

def capS : SVal → Option Cap
  | .v (.one (.ptr k 0)) => some (.tok k)
  | .v (.one (.cptr ps)) => some (.imm ps)
  | _ => none

def capsS (st : St) : List Operand → Option (List Cap)
  | [] => some []
  | x :: xs => match capS (evalS st x), capsS st xs with | some c, some cs => some (c :: cs) | _, _ => none

theorem capS_rel {x : SVal} {v : Value} {c : Cap} (hx : RelSV B.P C w x v) (h : capS x = some c) : RelCap B.P C w c v ∧ c.toks = x.toks := by
  unfold capS at h
  split at h
  · cases h
    obtain ⟨b, h1, h2⟩ := hx
    exact ⟨⟨by rw [h1]; simpa using h2, b, h1⟩, rfl⟩
  · cases h
    obtain ⟨u, h1, h2⟩ := hx
    refine ⟨?_, rfl⟩
    obtain rfl : v = u := by simpa using h1
    exact h2
  · cases h

theorem capsS_rel (h : Inv B C w a st) : ∀ {xs : List Operand} {cs : List Cap}, capsS st xs = some cs → RelCaps B.P C w cs (xs.map a.eval) ∧ ∀ k ∈ cs.flatMap Cap.toks, k ∈ st.heap.map (·.1)
  | [], cs, e => by cases e; exact ⟨rfl, fun _ h => by cases h⟩
  | x :: xs, cs, e => by
    unfold capsS at e
    split at e
    · rename_i c cs' h1 h2
      cases e
      obtain ⟨h3, h4⟩ := capS_rel (evalS_rel h x).1 h1
      obtain ⟨h5, h6⟩ := capsS_rel h h2
      refine ⟨⟨_, _, rfl, h3, h5⟩, fun k hk => ?_⟩
      simp only [List.flatMap_cons, List.mem_append] at hk
      rcases hk with hk | hk
      · exact (evalS_rel h x).2 k (h4 ▸ hk)
      · exact h6 k hk
    · cases e

def execMakeFunc (st : St) (fn : Fn) (first captured : List Operand) (K : SVal → Option R) : Option R :=
  match fn, first with
  | .func g, [] => match capsS st captured with | some cs => K (.v (.one (.func g cs))) | none => none
  | _, _ => none

theorem execMakeFunc_sound (h : Inv B C w a st) {fn : Fn} {first captured : Array Operand} (he : execMakeFunc st fn first.toList captured.toList K = some r) :
    Tells rd B C w st K r (Instr.makeFunc fn (first.map a.eval) (captured.map a.eval)) := by
  unfold execMakeFunc at he
  split at he
  · rename_i g hf
    split at he
    · rename_i cs hc
      obtain ⟨h1, h2⟩ := capsS_rel h hc
      obtain rfl : first = #[] := by simpa using hf
      refine .mk' (v := .func (.func g) #[] (captured.map a.eval)) he (fun w' _ => by simp [Instr.makeFunc]) ⟨captured.toList.map a.eval, by rw [← Array.toList_map], h1⟩ (fun k hk => h2 k ?_)
      simpa [SVal.toks, SVal.atoms, V1.atoms, Atom.toks] using hk
    · cases he
  · cases he

/-- The value of what is told whole. -/
def exact1 : SVal → Option Value
  | .v (.one (.pure (.int k) n)) => some (.int k n)
  | .v (.one (.pure .bool b)) => some (.bool b)
  | .v (.one (.pure .str s)) => some (.string s)
  | .v (.agg []) => some (.agg #[])
  | _ => none

def execMakeInterface (ti : TypeId → Option TI) (T : TypeId) (x : SVal) (K : SVal → Option R) : Option R :=
  match ti T with
  | some { d := .struct _, .. } | some { d := .int _, .. } | some { d := .str, .. } | some { d := .bool, .. } => match exact1 x with | some v => K (.v (.one (.const (.iface T v)))) | none => none
  | _ => none

theorem exact1_rel {x : SVal} {v u : Value} (hx : RelSV B.P C w x v) (h : exact1 x = some u) : v = u := by
  unfold exact1 at h
  split at h
  · cases h; exact rel_int hx
  · cases h; exact rel_bool hx
  · cases h; exact rel_str hx
  · cases h
    obtain ⟨cs, rfl, h⟩ := hx
    rw [show cs = [] from h]
  · cases h

theorem execMakeInterface_sound (hT : TIs B.P ti) {T : TypeId} {x : SVal} {vx : Value} (hx : RelSV B.P C w x vx) (he : execMakeInterface ti T x K = some r) : Tells rd B C w st K r (Instr.makeInterface T vx) := by
  have fin : ∀ {i : TI}, ti T = some i → (∀ d, i.d.Is d → ∀ ms, d ≠ .interface ms) → (match exact1 x with | some v => K (.v (.one (.const (.iface T v)))) | none => none) = some r → Tells rd B C w st K r (Instr.makeInterface T vx) := by
    intro i hi hd he
    split at he
    · rename_i v hv
      obtain rfl := exact1_rel hx hv
      obtain ⟨d, h1, hu⟩ := run_und (hT T i hi) w
      have h2 := hd d h1
      refine .mk' he ?_ rfl (fun _ h => by cases h)
      intro w' _
      unfold Instr.makeInterface
      rw [Sem.run_bind, hu]
      cases d <;> first | rfl | exact absurd rfl (h2 _)
    · cases he
  unfold execMakeInterface at he
  split at he
  · rename_i h; exact fin h (fun d hd ms e => by obtain ⟨a, rfl, _⟩ := hd; cases e) he
  · rename_i h; exact fin h (fun d hd ms e => by rw [show d = _ from hd] at e; cases e) he
  · rename_i h; exact fin h (fun d hd ms e => by rw [show d = _ from hd] at e; cases e) he
  · rename_i h; exact fin h (fun d hd ms e => by rw [show d = _ from hd] at e; cases e) he
  · cases he
end
end Go.AM

/- Operations that make a new block. -/
namespace Go.AM
open Go.RowKit

section
variable {rd : Bool} {B : Base} {C : Ctx} {w : World} {a : Act} {st : St} {ti : TypeId → Option TI} {R : Type} {K : St → Option R} {r : R}

/-- What an operation owes that may turn the world and the own blocks. -/
def Makes (B : Base) (w : World) (a : Act) (dst : Option Tmp) {R : Type} (K : St → Option R) (r : R) (S : Sem Value) : Prop :=
  ∃ st1 sv C' w' v, K (st1.putD dst sv) = some r ∧ S.run B.P w = .ok v w' ∧ Inv B C' w' a st1 ∧ RelSV B.P C' w' sv v ∧ ∀ k ∈ sv.toks, k ∈ st1.heap.map (·.1)

theorem Tells.makes {dst : Option Tmp} {S : Sem Value} (h : Inv B C w a st) (ht : Tells rd B C w st (fun s => K (st.putD dst s)) r S) : Makes B w a dst K r S := by
  obtain ⟨s, h1, v, h2, h3, h4⟩ := ht
  exact ⟨st, s, C, w, v, h1, h2 w (fun _ => Below.refl _ _), h, h3, h4⟩

/-- The same, of an operation that leaves all older blocks as they were. -/
def MakesQ (B : Base) (w : World) (a : Act) (dst : Option Tmp) {R : Type} (K : St → Option R) (r : R) (S : Sem Value) : Prop :=
  ∃ st1 sv C' w' v, K (st1.putD dst sv) = some r ∧ S.run B.P w = .ok v w' ∧ Inv B C' w' a st1 ∧ RelSV B.P C' w' sv v ∧ (∀ k ∈ sv.toks, k ∈ st1.heap.map (·.1)) ∧ Below w.heap.size w w'

theorem MakesQ.makes {dst : Option Tmp} {S : Sem Value} (h : MakesQ B w a dst K r S) : Makes B w a dst K r S :=
  let ⟨st1, sv, C', w', v, h1, h2, h3, h4, h5, _⟩ := h
  ⟨st1, sv, C', w', v, h1, h2, h3, h4, h5⟩

/-- A new block under the name of the slot that gets it. -/
def newBlock (st : St) (dst : Option Tmp) (b : Block) (v : Tok → SVal) (K : St → Option R) : Option R :=
  match dst with
  | some n => if hhas (.s n 0) st.heap = true then none else K (St.putD { st with heap := (.s n 0, b) :: st.heap } (some n) (v (.s n 0)))
  | none => none

theorem not_fix (h : InvH B C w st.heap) (n j : Nat) : Tok.s n j ∉ B.fix := fun hm => by have := h.fixOld _ hm; simp [Tok.isNew] at this

/-- The machine has laid a block. -/
theorem newBlock_sound (h : Inv B C w a st) {dst : Option Tmp} {b : Block} {v : Tok → SVal} (he : newBlock st dst b v K = some r) {S : Sem Value} {w' : World} {val : Value} (hrun : S.run B.P w = .ok val w') (hb : Below w.heap.size w w')
    (hv : ∀ g, b.at val = some g → w.heap.size ≤ g) (ht : ∀ k' ∈ b.toks, k' ∈ st.heap.map (·.1)) (hr : ∀ k, k ∉ st.heap.map (·.1) → RelBlock B.P (C.with k val) w' k b)
    (hs : ∀ k, RelSV B.P (C.with k val) w' (v k) val ∧ ∀ k' ∈ (v k).toks, k' = k) : MakesQ B w a dst K r S := by
  unfold newBlock at he
  split at he
  · rename_i n
    split at he
    · cases he
    · rename_i hk
      rw [hhas_iff] at hk
      have hi := h.new hb (v := val) hk (not_fix h.heap n 0) hv ht (hr _ hk)
      exact ⟨_, _, _, w', val, he, hrun, hi, (hs _).1, fun k' hk' => by rw [(hs _).2 k' hk']; simp, hb⟩
  · cases he

/-! A variable -/

def execBox (st : St) (dst : Option Tmp) (x : SVal) (K : St → Option R) : Option R :=
  match x with
  | .v y => if y.atoms.all Atom.plain = true then newBlock st dst (.var y.atoms) (fun k => .v (.one (.ptr k 0))) K else none
  | _ => none

/-- A block with these cells. -/
theorem var_new (h : Inv B C w a st) {as : List Atom} {cs : Array Value} (hr : RelAtoms B.P C w as cs.toList) (ht : ∀ k ∈ as.flatMap Atom.toks, k ∈ st.heap.map (·.1)) (e : TypeId) {k : Tok} (hk : k ∉ st.heap.map (·.1)) :
    RelBlock B.P (C.with k (.pointer (some ⟨w.heap.size, 0, none⟩))) (w.alloc (.cells cs e)) k (.var as) := by
  have hb : Below w.heap.size w (w.alloc (.cells cs e)) := (Below.refl _ _).alloc (Nat.le_refl _) _
  refine ⟨w.heap.size, cs, e, C.with_ρ _ _, heap_alloc_new w _, hr.goes (goes_with h.heap hb _ _) (fun k' hk' => C.with_other _ (fun e => hk (e ▸ ht k' hk')))⟩

theorem execBox_sound (h : Inv B C w a st) {dst : Option Tmp} {x : SVal} {vx : Value} (hx : RelSV B.P C w x vx) (hk : ∀ k ∈ x.toks, k ∈ st.heap.map (·.1)) (e : TypeId) (he : execBox st dst x K = some r) : MakesQ B w a dst K r (Instr.box e vx) := by
  unfold execBox at he
  split at he
  · rename_i y
    split at he
    · rename_i hp
      have hc : RelAtoms B.P C w y.atoms vx.cells.toList := V1.cells_rel hx (fun a ha => by
        subst ha
        exact cells_one (RelAtom.one (show RelAtom B.P C w a [vx] from hx) (by simpa [V1.atoms] using hp) (fun k hm => tok_one h.heap (hk k (by simpa [SVal.toks, SVal.atoms, V1.atoms] using hm))) vx (by simp)))
      refine newBlock_sound h he (w' := w.alloc (.cells vx.cells e)) (val := .pointer (some ⟨w.heap.size, 0, none⟩)) (by simp [Instr.box, newVar, newRow]) ((Below.refl _ _).alloc (Nat.le_refl _) _)
        (fun g hg => by simp [Block.at, blk] at hg; omega) hk (fun k hk' => var_new h hc hk e hk') (fun k => ⟨⟨w.heap.size, C.with_ρ _ _, rfl⟩, fun k' hk' => by simpa [SVal.toks, SVal.atoms, V1.atoms, Atom.toks] using hk'⟩)
    · cases he
  · cases he

def execAlloc (ti : TypeId → Option TI) (T : TypeId) (st : St) (dst : Option Tmp) (K : St → Option R) : Option R :=
  match ti T with
  | none => none
  | some i => match zeroA i with
    | some z => newBlock st dst (.var z) (fun k => .v (.one (.ptr k 0))) K
    | none => none

theorem execAlloc_sound (hT : TIs B.P ti) (h : Inv B C w a st) {dst : Option Tmp} {T : TypeId} (he : execAlloc ti T st dst K = some r) : MakesQ B w a dst K r (Instr.alloc T true (.tuple #[])) := by
  unfold execAlloc at he
  split at he
  · cases he
  rename_i i hi
  split at he
  · rename_i z hz
    obtain ⟨zv, h1, h2⟩ := (hT T i hi).run_zero w
    obtain ⟨h3, h4⟩ := zeroA_rel (P := B.P) (C := C) (w := w) hz
    rw [← h2] at h3
    have h4' : ∀ k ∈ z.flatMap Atom.toks, k ∈ st.heap.map (·.1) := by rw [h4]; exact fun _ h => by cases h
    refine newBlock_sound h he (w' := w.alloc (.cells zv.cells T)) (val := .pointer (some ⟨w.heap.size, 0, none⟩)) (by simp [Instr.alloc, h1, newVar, newRow]) ((Below.refl _ _).alloc (Nat.le_refl _) _)
      (fun g hg => by simp [Block.at, blk] at hg; omega) h4' (fun k hk' => var_new h h3 h4' T hk') (fun k => ⟨⟨w.heap.size, C.with_ρ _ _, rfl⟩, fun k' hk' => by simpa [SVal.toks, SVal.atoms, V1.atoms, Atom.toks] using hk'⟩)
  · cases he

/-! A row -/

/-- A new row, whole. -/
theorem row_new (h : Inv B C w a st) {t : Ty} {xs : List t.den} {cs : Array Value} {cap : Nat} (hl : cs.size = cap * t.size) (hcap : cap ≤ maxLen) (hn : xs.length ≤ cap) (hr : concatR ((rels B.P t).cells C.I w) xs (cs.toList.take (xs.length * t.size))) (e : TypeId) {w1 : World} (hw : w1.heap = w.heap) {k : Tok} :
    RelBlock B.P (C.with k (.slice (some ⟨w.heap.size, 0, none⟩) xs.length cap)) (w1.alloc (.cells cs e)) k (.row e t xs) := by
  have hlater : Later C.I w (w1.alloc (.cells cs e)) := ⟨by simp [hw], fun x hx => by
    have := h.heap.imm x hx
    rw [heap_alloc_old w1 _ x (by rw [hw]; exact this), hw]⟩
  rcases Nat.eq_zero_or_pos cap with h0 | h0
  · subst h0
    exact .inl ⟨by omega, some ⟨w.heap.size, 0, none⟩, by rw [C.with_ρ]; congr 1; omega⟩
  · refine .inr ⟨w.heap.size, cap, cs, C.with_ρ _ _, h0, ?_, hn, hcap, hl, hr.imp fun _ _ hh => (rels_later B.P hlater t).1 _ _ hh⟩
    rw [← hw]; exact heap_alloc_new w1 _

def execBuildSlice (ti : TypeId → Option TI) (T : TypeId) (len : Nat) (parts : List (Nat × SVal)) (st : St) (dst : Option Tmp) (K : St → Option R) : Option R :=
  match ti T with
  | some { d := .slice e, .. } =>
    match ti e with
    | none => none
    | some ie =>
      if len * ie.size ≤ 16777216 ∧ len ≤ 16777216 ∧ 0 < ie.size ∧ ie.zero.length = ie.size then
        match fillA (fun i => some (i * ie.size, ie.size)) (List.replicate (len * ie.size) (.dead 1)) parts with
        | none => none
        | some as => match implodeN (implode ie.cells) len as with
          | some (xs, []) => newBlock st dst (.row e ie.cells xs) (fun k => .v (.one (.own k))) K
          | _ => none
      else none
  | _ => none

theorem dead_rel {P : Program} : ∀ (n : Nat) (cs : List Value), cs.length = n → RelAtoms P C w (List.replicate n (.dead 1)) cs
  | 0, cs, h => List.eq_nil_of_length_eq_zero h
  | n + 1, c :: cs, h => ⟨[c], cs, rfl, rfl, dead_rel n cs (by simpa using h)⟩

theorem execBuildSlice_sound (hT : TIs B.P ti) (h : Inv B C w a st) {dst : Option Tmp} {T : TypeId} {len : Nat} {parts : Array (Nat × Operand)} (he : execBuildSlice ti T len (evalAll st parts.toList) st dst K = some r) :
    MakesQ B w a dst K r (Instr.buildSlice T len (parts.map fun (i, x) => (i, a.eval x))) := by
  unfold execBuildSlice at he
  split at he
  · rename_i e sz by_ z c hS
    split at he
    · cases he
    rename_i ie hie
    split at he
    · rename_i hc
      obtain ⟨hc1, hc2, hc3, hc4⟩ := hc
      split at he
      · cases he
      rename_i as has
      split at he
      · rename_i xs hxs
        obtain ⟨d, hd, hu⟩ := run_und (hT T _ hS) w
        obtain rfl : d = .slice e := hd
        have hsz := (hT e ie hie).run_sizeOf w
        obtain ⟨zv, hz1, hz2⟩ := (hT e ie hie).run_zero w
        obtain ⟨hlen, hrel⟩ := evalAll_rel h parts.toList
        have hrel' : ∀ (j : Nat) (p : Nat × SVal) (q : Nat × Value), (evalAll st parts.toList)[j]? = some p → (parts.toList.map fun p => (p.1, a.eval p.2))[j]? = some q → p.1 = q.1 ∧ RelSV B.P C w p.2 q.2 ∧ ∀ k ∈ p.2.toks, (C.ρ k).oneCell' = true :=
          fun j p q hp hq => ⟨(hrel j p q hp hq).1, (hrel j p q hp hq).2.1, fun k hk => tok_one h.heap ((hrel j p q hp hq).2.2 k hk)⟩
        have hmap : (parts.map fun (x : Nat × Operand) => (x.1, a.eval x.2)).toList = parts.toList.map fun p => (p.1, a.eval p.2) := by simp
        obtain ⟨zc, hzc, hzs⟩ : ∃ zc : Array Value, (if len * ie.size = 0 then pure #[] else do pure (← zeroValue e).cells : Sem (Array Value)).run B.P w = .ok zc w ∧ True := by
          split
          · exact ⟨#[], rfl, trivial⟩
          · exact ⟨zv.cells, by simp [hz1], trivial⟩
        obtain ⟨ds, h1, h2⟩ := fillA_rel (cs := (Array.range (len * ie.size)).map (zc[· % zc.size]!)) (dead_rel (P := B.P) (C := C) (w := w) (len * ie.size) _ (by simp)) has hlen hrel'
        obtain ⟨hxl, c1, c2, e1, h3, h4⟩ := implodeN_rel (S := fun x cs => (rels B.P ie.cells).cells C.I w x cs) (fun _ _ _ _ h e => implode_rel _ h e) len h2 hxs
        obtain rfl : c2 = [] := h4
        rw [List.append_nil] at e1
        have hds : ds.size = xs.length * ie.cells.size := by
          have := h3.length (fun _ _ h => rels_size B.P ie.cells h)
          rw [← e1] at this; simpa using this
        have hrun : (Instr.buildSlice T len (parts.map fun (x : Nat × Operand) => (x.1, a.eval x.2))).run B.P w = .ok (.slice (some ⟨w.heap.size, 0, none⟩) len len) (w.alloc (.cells ds e)) := by
          unfold Instr.buildSlice
          simp only [Sem.run_bind, hu, Result.andThen_ok, hsz]
          rw [if_neg (by simp; omega)]
          rw [hmap]
          simp only [pure_bind, Sem.run_bind]
          have hzc' := hzc
          split at hzc'
          · rename_i h0
            rw [if_pos h0]
            simp only [Sem.run_pure, Result.andThen_ok, Result.ok.injEq] at hzc' ⊢
            rw [hzc'.1, h1]
            simp [newRow]
          · rename_i h0
            rw [if_neg h0]
            simp only [Sem.run_bind, hz1, Result.andThen_ok, Sem.run_pure, Result.ok.injEq] at hzc' ⊢
            rw [hzc'.1, h1]
            simp [newRow]
        subst hxl
        refine newBlock_sound h he hrun ((Below.refl _ _).alloc (Nat.le_refl _) _) (fun g hg => ?_) (fun _ h => by cases h) (fun k _ => row_new h hds (by simp only [maxLen]; omega) (Nat.le_refl _) ?_ e rfl)
          (fun k => ⟨by rw [RelSV, RelV1, RelAtom, C.with_ρ], fun k' hk' => by simpa [SVal.toks, SVal.atoms, V1.atoms, Atom.toks] using hk'⟩)
        · simp only [Block.at, blk] at hg
          split at hg
          · cases hg
          · cases hg; exact Nat.le_refl _
        · rw [← hds, List.take_of_length_le (by simp), e1]; exact h3
      · cases he
    · cases he
  · cases he
end
end Go.AM
