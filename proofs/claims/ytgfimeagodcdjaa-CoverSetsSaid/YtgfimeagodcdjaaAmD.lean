/- The shape of a state at a label, and what a call does by its contract. Its conditions stand at each theorem. -/
import Derived.Test.YtgfimeagodcdjaaAmC
import Derived.LoopN
import Derived.StillTail
import Derived.Scope
set_option linter.unusedSimpArgs false
set_option linter.unusedVariables false
set_option linter.unusedSectionVars false
/- Shapes: what an abstract state is to look like where ways meet. -/
namespace Go.AM
open Go.RowKit

/-- A row of data. -/
@[reducible] def DL : List Ty → Type
  | [] => Unit
  | t :: ts => t.den × DL ts

def DL.append : {xs ys : List Ty} → DL xs → DL ys → DL (xs ++ ys)
  | [], _, _, e => e
  | _ :: _, _, d, e => (d.1, DL.append d.2 e)
def DL.fst : {xs ys : List Ty} → DL (xs ++ ys) → DL xs
  | [], _, _ => ()
  | _ :: _, _, d => (d.1, DL.fst d.2)
def DL.snd : {xs ys : List Ty} → DL (xs ++ ys) → DL ys
  | [], _, d => d
  | _ :: _, _, d => DL.snd d.2
def DL.data : {ts : List Ty} → DL ts → List Datum
  | [], _ => []
  | t :: _, d => ⟨t, d.1⟩ :: DL.data d.2

theorem DL.fst_append : ∀ {xs ys : List Ty} (d : DL xs) (e : DL ys), DL.fst (DL.append d e) = d
  | [], _, _, _ => rfl
  | _ :: _, _, d, e => by simp only [DL.append, DL.fst]; rw [DL.fst_append d.2 e]
theorem DL.snd_append : ∀ {xs ys : List Ty} (d : DL xs) (e : DL ys), DL.snd (DL.append d e) = e
  | [], _, _, _ => rfl
  | _ :: _, _, d, e => by simp only [DL.append, DL.snd]; rw [DL.snd_append d.2 e]

def ofData : (ts : List Ty) → List Datum → Option (DL ts)
  | [], [] => some ()
  | t :: ts, ⟨t', x⟩ :: ps => if h : t' = t then match ofData ts ps with | some d => some (h ▸ x, d) | none => none else none
  | _, _ => none

theorem ofData_eq : ∀ {ts : List Ty} {ps : List Datum} {d : DL ts}, ofData ts ps = some d → DL.data d = ps
  | [], [], d, _ => rfl
  | [], _ :: _, _, e => by simp [ofData] at e
  | _ :: _, [], _, e => by simp [ofData] at e
  | t :: ts, ⟨t', x⟩ :: ps, d, e => by
    simp only [ofData] at e
    split at e
    · rename_i h
      subst h
      split at e
      · rename_i d' hd
        cases e
        simp only [DL.data]
        rw [ofData_eq hd]
      · cases e
    · cases e

inductive NilC where
  | slice | ptr | func | iface | map
def NilC.val : NilC → Value
  | .slice => .slice none 0 0
  | .ptr => .pointer none
  | .func => .nilFunc
  | .iface => .nilIface
  | .map => .map none
def NilC.is : NilC → Value → Bool
  | .slice, .slice none 0 0 => true
  | .ptr, .pointer none => true
  | .func, .nilFunc => true
  | .iface, .nilIface => true
  | .map, .map none => true
  | _, _ => false
theorem NilC.eq {c : NilC} {v : Value} (h : c.is v = true) : v = c.val := by
  unfold NilC.is at h
  split at h <;> first | rfl | cases h

inductive CP where
  | tok (k : Tok) | imm (ts : List Ty)
inductive AP where
  | pure (t : Ty) | nil (c : NilC) | ptr (k : Tok) (off : Nat) | own (k : Tok) | func (g : FuncId) (caps : List CP) | cptr (ts : List Ty) | dead (n : Nat)
inductive SP where
  | undef | one (p : AP) | data (t : Ty) | agg (ps : List AP)
inductive BP where
  | row (e : TypeId) (t : Ty) | lrow (t : Ty) | var (ps : List AP) | dvar (t : Ty)
structure Shape where
  slots : List (Nat × SP)
  heap : List (Tok × BP)

def CP.leafs : CP → List Ty
  | .tok _ => []
  | .imm ts => ts
def CPs.leafs : List CP → List Ty
  | [] => []
  | c :: cs => c.leafs ++ CPs.leafs cs
def AP.leafs : AP → List Ty
  | .pure t => [t]
  | .cptr ts => ts
  | .func _ caps => CPs.leafs caps
  | _ => []
def APs.leafs : List AP → List Ty
  | [] => []
  | p :: ps => p.leafs ++ APs.leafs ps
def SP.leafs : SP → List Ty
  | .undef => []
  | .one p => p.leafs
  | .data t => [t]
  | .agg ps => APs.leafs ps
def SPs.leafs : List (Nat × SP) → List Ty
  | [] => []
  | p :: ps => p.2.leafs ++ SPs.leafs ps
def BP.leafs : BP → List Ty
  | .row _ t => [.list t]
  | .lrow t => [.list t]
  | .var ps => APs.leafs ps
  | .dvar t => [t]
def BPs.leafs : List (Tok × BP) → List Ty
  | [] => []
  | p :: ps => p.2.leafs ++ BPs.leafs ps
def Shape.leafs (s : Shape) : List Ty := SPs.leafs s.slots ++ BPs.leafs s.heap

/-! From data to a state -/

def CP.to : (c : CP) → DL c.leafs → Cap
  | .tok k, _ => .tok k
  | .imm _, d => .imm (DL.data d)
def CPs.to : (cs : List CP) → DL (CPs.leafs cs) → List Cap
  | [], _ => []
  | c :: cs, d => c.to (DL.fst d) :: CPs.to cs (DL.snd d)
def AP.to : (p : AP) → DL p.leafs → Atom
  | .pure t, d => .pure t d.1
  | .nil c, _ => .const c.val
  | .ptr k off, _ => .ptr k off
  | .own k, _ => .own k
  | .func g caps, d => .func g (CPs.to caps d)
  | .cptr _, d => .cptr (DL.data d)
  | .dead n, _ => .dead n
def APs.to : (ps : List AP) → DL (APs.leafs ps) → List Atom
  | [], _ => []
  | p :: ps, d => p.to (DL.fst d) :: APs.to ps (DL.snd d)
def SP.to : (p : SP) → DL p.leafs → SVal
  | .undef, _ => .undef
  | .one p, d => .v (.one (p.to d))
  | .data t, d => .v (.agg (explode t d.1))
  | .agg ps, d => .v (.agg (APs.to ps d))
def SPs.to (len : Nat) : (ps : List (Nat × SP)) → DL (SPs.leafs ps) → List (Nat × SVal)
  | [], _ => []
  | p :: ps, d => match Nat.blt p.1 len with | true => (p.1, p.2.to (DL.fst d)) :: SPs.to len ps (DL.snd d) | false => SPs.to len ps (DL.snd d)
def BP.to : (p : BP) → DL p.leafs → Block
  | .row e t, d => .row e t d.1
  | .lrow t, d => .lrow t d.1
  | .var ps, d => .var (APs.to ps d)
  | .dvar t, d => .var (explode t d.1)
def BPs.to : (ps : List (Tok × BP)) → DL (BPs.leafs ps) → List (Tok × Block)
  | [], _ => []
  | p :: ps, d => (p.1, p.2.to (DL.fst d)) :: BPs.to ps (DL.snd d)
def Shape.to (s : Shape) (len : Nat) (d : DL s.leafs) : St := ⟨len, SPs.to len s.slots (DL.fst d), BPs.to s.heap (DL.snd d)⟩

/-! From a state to data -/

@[reducible] def Sub := List (Tok × Tok)

def subGet (kh : Tok) : Sub → Option Tok
  | [] => none
  | (a, b) :: r => if a = kh then some b else subGet kh r
def subHas (k : Tok) : Sub → Bool
  | [] => false
  | (_, b) :: r => if b = k then true else subHas k r
def bindT (σ : Sub) (kh k : Tok) : Option Sub :=
  match subGet kh σ with
  | some k' => if k' = k then some σ else none
  | none => some ((kh, k) :: σ)

def CP.of : (c : CP) → Cap → Sub → Option (DL c.leafs × Sub)
  | .tok kh, .tok k, σ => match bindT σ kh k with | some σ => some ((), σ) | none => none
  | .imm ts, .imm ps, σ => match ofData ts ps with | some d => some (d, σ) | none => none
  | _, _, _ => none
def CPs.of : (cs : List CP) → List Cap → Sub → Option (DL (CPs.leafs cs) × Sub)
  | [], [], σ => some ((), σ)
  | c :: cs, x :: xs, σ => match c.of x σ with
    | some (d, σ) => match CPs.of cs xs σ with | some (e, σ) => some (DL.append d e, σ) | none => none
    | none => none
  | _, _, _ => none
def AP.of : (p : AP) → Atom → Sub → Option (DL p.leafs × Sub)
  | .pure t, a, σ => match asPure t a with | some x => some ((x, ()), σ) | none => none
  | .nil c, .const v, σ => if c.is v = true then some ((), σ) else none
  | .ptr kh off, .ptr k o, σ => if o = off then match bindT σ kh k with | some σ => some ((), σ) | none => none else none
  | .own kh, .own k, σ => match bindT σ kh k with | some σ => some ((), σ) | none => none
  | .func g caps, .func f xs, σ => match CPs.of caps xs σ with | some (d, σ) => if f = g then some (d, σ) else none | none => none
  | .cptr ts, .cptr ps, σ => match ofData ts ps with | some d => some (d, σ) | none => none
  | .dead n, a, σ => if a.size = n then some ((), σ) else none
  | _, _, _ => none
def APs.of : (ps : List AP) → List Atom → Sub → Option (DL (APs.leafs ps) × Sub)
  | [], [], σ => some ((), σ)
  | p :: ps, a :: as, σ => match p.of a σ with
    | some (d, σ) => match APs.of ps as σ with | some (e, σ) => some (DL.append d e, σ) | none => none
    | none => none
  | _, _, _ => none
def SP.of : (p : SP) → SVal → Sub → Option (DL p.leafs × Sub)
  | .undef, _, σ => some ((), σ)
  | .one p, .v (.one a), σ => match p.of a σ with | some (d, σ) => some (d, σ) | none => none
  | .data t, .v (.agg as), σ => match implodeAll t as with | some x => some ((x, ()), σ) | none => none
  | .agg ps, .v (.agg as), σ => match APs.of ps as σ with | some (d, σ) => some (d, σ) | none => none
  | _, _, _ => none
def SPs.of : (ps : List (Nat × SP)) → List (Nat × SVal) → Sub → Option (DL (SPs.leafs ps) × Sub)
  | [], _, σ => some ((), σ)
  | p :: ps, l, σ => match p.2.of (sget p.1 l) σ with
    | some (d, σ) => match SPs.of ps l σ with | some (e, σ) => some (DL.append d e, σ) | none => none
    | none => none
def BP.of : (p : BP) → Block → Sub → Option (DL p.leafs × Sub)
  | .row e t, .row e' t' xs, σ => if e' = e then if h : t' = t then some ((h ▸ xs, ()), σ) else none else none
  | .lrow t, .lrow t' xs, σ => if h : t' = t then some ((h ▸ xs, ()), σ) else none
  | .var ps, .var as, σ => match APs.of ps as σ with | some (d, σ) => some (d, σ) | none => none
  | .dvar t, .var as, σ => match implodeAll t as with | some x => some ((x, ()), σ) | none => none
  | _, _, _ => none
def BPs.of : (ps : List (Tok × BP)) → List (Tok × Block) → Sub → Option (DL (BPs.leafs ps) × Sub)
  | [], _, σ => some ((), σ)
  | p :: ps, h, σ => match subGet p.1 σ with
    | none => none
    | some k => match hget k h with
      | none => none
      | some b => match p.2.of b σ with
        | some (d, σ) => match BPs.of ps h σ with | some (e, σ) => some (DL.append d e, σ) | none => none
        | none => none

def subInj : Sub → Bool
  | [] => true
  | (_, b) :: r => (!subHas b r) && subInj r
def subOk (ks : List (Tok × BP)) : Sub → Bool
  | [] => true
  | (a, b) :: r => (a.isNew || decide (a = b)) && (ks.any fun q => decide (q.1 = a)) && subOk ks r
def distinct : List (Tok × BP) → Bool
  | [] => true
  | p :: r => (!r.any fun q => decide (q.1 = p.1)) && distinct r

/-- Names that are no step's to give keep what they stand for. -/
def keeps : List (Tok × BP) → Sub
  | [] => []
  | (k, _) :: r => if k.isNew = true then keeps r else (k, k) :: keeps r

def Shape.of (s : Shape) (st : St) : Option (DL s.leafs) :=
  match SPs.of s.slots st.slots (keeps s.heap) with
  | none => none
  | some (d, σ) => match BPs.of s.heap st.heap σ with
    | none => none
    | some (e, σ) => match subInj σ && subOk s.heap σ && distinct s.heap with | true => some (DL.append d e) | false => none

/-! What is told stays told -/

def Sub.le (σ σ' : Sub) : Prop := ∀ a b, subGet a σ = some b → subGet a σ' = some b
theorem Sub.le_refl (σ : Sub) : Sub.le σ σ := fun _ _ h => h
theorem Sub.le_trans {a b c : Sub} (h : Sub.le a b) (k : Sub.le b c) : Sub.le a c := fun x y hx => k x y (h x y hx)

/-- The context C' tells of the names on the left what C tells of those on the right. -/
structure Says (C C' : Ctx) (σ : Sub) : Prop where
  I : C'.I = C.I
  ρ : ∀ a b, subGet a σ = some b → C'.ρ a = C.ρ b
  around : ∀ a b, subGet a σ = some b → C'.around a = C.around b

theorem Says.mono {C C' : Ctx} {σ σ' : Sub} (h : Says C C' σ') (hl : Sub.le σ σ') : Says C C' σ :=
  ⟨h.I, fun a b hx => h.ρ a b (hl a b hx), fun a b hx => h.around a b (hl a b hx)⟩

def Names (σ : Sub) (k : Tok) : Prop := ∃ b, subGet k σ = some b
theorem Names.mono {σ σ' : Sub} {k : Tok} (h : Names σ k) (hl : Sub.le σ σ') : Names σ' k := let ⟨b, hb⟩ := h; ⟨b, hl _ _ hb⟩

theorem bindT_spec {σ σ' : Sub} {kh k : Tok} (h : bindT σ kh k = some σ') : Sub.le σ σ' ∧ subGet kh σ' = some k := by
  unfold bindT at h
  split at h
  · rename_i k' hk
    split at h
    · rename_i he; cases h; subst he; exact ⟨Sub.le_refl _, hk⟩
    · cases h
  · rename_i hn
    cases h
    refine ⟨fun a b hab => ?_, by simp [subGet]⟩
    unfold subGet
    split
    · rename_i e; subst e; rw [hn] at hab; cases hab
    · exact hab

section
variable {P : Program} {C C' : Ctx} {w : World}

theorem goes_of_says {σ : Sub} (h : Says C C' σ) : Goes C C' w w := ⟨fun b hb => by rw [h.I]; exact hb, Later.refl _ _⟩

theorem CP.of_spec {c : CP} {x : Cap} {σ σ' : Sub} {d : DL c.leafs} (h : c.of x σ = some (d, σ')) : Sub.le σ σ' ∧ (∀ k ∈ (c.to d).toks, Names σ' k) ∧
    ∀ C' σ'', Says C C' σ'' → Sub.le σ' σ'' → ∀ v, RelCap P C w x v → RelCap P C' w (c.to d) v := by
  unfold CP.of at h
  split at h
  · rename_i kh k
    split at h
    · rename_i σ1 hb
      cases h
      obtain ⟨h1, h2⟩ := bindT_spec hb
      refine ⟨h1, fun k' hk' => ?_, fun C' σ'' hs hl v hv => ?_⟩
      · have : k' = kh := by simpa [CP.to, Cap.toks] using hk'
        subst this; exact ⟨_, h2⟩
      · obtain ⟨e, b, hb⟩ := hv
        have := hs.ρ _ _ (hl _ _ h2)
        exact ⟨e.trans this.symm, b, this.trans hb⟩
    · cases h
  · rename_i ts ps
    split at h
    · rename_i d1 hd
      cases h
      refine ⟨Sub.le_refl _, fun k' hk' => by simp [CP.to, Cap.toks] at hk', fun C' σ'' hs hl v hv => ?_⟩
      have e := ofData_eq hd
      subst e
      exact ImmAt.goes (goes_of_says hs) hv
    · cases h
  · cases h

theorem CPs.of_spec : ∀ {cs : List CP} {xs : List Cap} {σ σ' : Sub} {d : DL (CPs.leafs cs)}, CPs.of cs xs σ = some (d, σ') → Sub.le σ σ' ∧ (∀ k ∈ (CPs.to cs d).flatMap Cap.toks, Names σ' k) ∧
    ∀ C' σ'', Says C C' σ'' → Sub.le σ' σ'' → ∀ vs, RelCaps P C w xs vs → RelCaps P C' w (CPs.to cs d) vs
  | [], [], σ, σ', d, h => by
    cases h
    exact ⟨Sub.le_refl _, fun k hk => by simp [CPs.to] at hk, fun C' σ'' _ _ vs hv => hv⟩
  | [], _ :: _, _, _, _, h => by cases h
  | _ :: _, [], _, _, _, h => by cases h
  | c :: cs, x :: xs, σ, σ', d, h => by
    simp only [CPs.of] at h
    split at h
    · rename_i d1 σ1 h1
      split at h
      · rename_i d2 σ2 h2
        cases h
        obtain ⟨l1, n1, r1⟩ := CP.of_spec (P := P) (C := C) (w := w) h1
        obtain ⟨l2, n2, r2⟩ := CPs.of_spec (cs := cs) (xs := xs) h2
        refine ⟨Sub.le_trans l1 l2, fun k hk => ?_, fun C' σ'' hs hl vs hv => ?_⟩
        · simp only [CPs.to, DL.fst_append, DL.snd_append, List.flatMap_cons, List.mem_append] at hk
          exact hk.elim (fun hk => (n1 k hk).mono l2) (n2 k)
        · obtain ⟨v, rest, e, hv1, hv2⟩ := hv
          simp only [CPs.to, DL.fst_append, DL.snd_append]
          exact ⟨v, rest, e, r1 C' σ'' hs (Sub.le_trans l2 hl) v hv1, r2 C' σ'' hs hl rest hv2⟩
      · cases h
    · cases h

theorem AP.of_spec {p : AP} {x : Atom} {σ σ' : Sub} {d : DL p.leafs} (h : p.of x σ = some (d, σ')) : Sub.le σ σ' ∧ (∀ k ∈ (p.to d).toks, Names σ' k) ∧
    ∀ C' σ'', Says C C' σ'' → Sub.le σ' σ'' → ∀ cs, RelAtom P C w x cs → RelAtom P C' w (p.to d) cs := by
  unfold AP.of at h
  split at h
  · rename_i t x
    split at h
    · rename_i y hy
      cases h
      exact ⟨Sub.le_refl _, fun k hk => by simp [AP.to, Atom.toks] at hk, fun C' σ'' hs hl cs hv => cells_goes (goes_of_says hs) (asPure_rel hv hy)⟩
    · cases h
  · rename_i c v
    split at h
    · rename_i hc
      cases h
      exact ⟨Sub.le_refl _, fun k hk => by simp [AP.to, Atom.toks] at hk, fun C' σ'' hs hl cs hv => (show cs = [v] from hv).trans (by rw [NilC.eq hc])⟩
    · cases h
  · rename_i kh off k o
    split at h
    · rename_i ho
      subst ho
      split at h
      · rename_i σ1 hb
        cases h
        obtain ⟨h1, h2⟩ := bindT_spec hb
        refine ⟨h1, fun k' hk' => ?_, fun C' σ'' hs hl cs hv => ?_⟩
        · have : k' = kh := by simpa [AP.to, Atom.toks] using hk'
          subst this; exact ⟨_, h2⟩
        · obtain ⟨b, e, hc⟩ := hv
          exact ⟨b, (hs.ρ _ _ (hl _ _ h2)).trans e, hc⟩
      · cases h
    · cases h
  · rename_i kh k
    split at h
    · rename_i σ1 hb
      cases h
      obtain ⟨h1, h2⟩ := bindT_spec hb
      refine ⟨h1, fun k' hk' => ?_, fun C' σ'' hs hl cs hv => ?_⟩
      · have : k' = kh := by simpa [AP.to, Atom.toks] using hk'
        subst this; exact ⟨_, h2⟩
      · have : cs = [C.ρ k] := hv
        rw [this]
        show [C.ρ k] = [C'.ρ kh]
        rw [hs.ρ _ _ (hl _ _ h2)]
    · cases h
  · rename_i g caps f xs
    split at h
    · rename_i d1 σ1 h1
      split at h
      · rename_i hf
        subst hf
        cases h
        obtain ⟨h1, h2, h3⟩ := CPs.of_spec (P := P) (C := C) (w := w) h1
        exact ⟨h1, h2, fun C' σ'' hs hl cs hv => by
          obtain ⟨vs, e, hv⟩ := hv
          exact ⟨vs, e, h3 C' σ'' hs hl vs hv⟩⟩
      · cases h
    · cases h
  · rename_i ts ps
    split at h
    · rename_i d1 hd
      cases h
      refine ⟨Sub.le_refl _, fun k' hk' => by simp [AP.to, Atom.toks] at hk', fun C' σ'' hs hl cs hv => ?_⟩
      obtain ⟨v, e, hv⟩ := hv
      have e2 := ofData_eq hd
      subst e2
      exact ⟨v, e, ImmAt.goes (goes_of_says hs) hv⟩
    · cases h
  · rename_i n x
    split at h
    · rename_i hn
      cases h
      exact ⟨Sub.le_refl _, fun k hk => by simp [AP.to, Atom.toks] at hk, fun C' σ'' hs hl cs hv => by rw [← hn]; exact hv.size⟩
    · cases h
  · cases h

theorem APs.of_spec : ∀ {ps : List AP} {xs : List Atom} {σ σ' : Sub} {d : DL (APs.leafs ps)}, APs.of ps xs σ = some (d, σ') → Sub.le σ σ' ∧ (∀ k ∈ (APs.to ps d).flatMap Atom.toks, Names σ' k) ∧
    ∀ C' σ'', Says C C' σ'' → Sub.le σ' σ'' → ∀ cs, RelAtoms P C w xs cs → RelAtoms P C' w (APs.to ps d) cs
  | [], [], σ, σ', d, h => by
    cases h
    exact ⟨Sub.le_refl _, fun k hk => by simp [APs.to] at hk, fun C' σ'' _ _ vs hv => hv⟩
  | [], _ :: _, _, _, _, h => by cases h
  | _ :: _, [], _, _, _, h => by cases h
  | c :: cs, x :: xs, σ, σ', d, h => by
    simp only [APs.of] at h
    split at h
    · rename_i d1 σ1 h1
      split at h
      · rename_i d2 σ2 h2
        cases h
        obtain ⟨l1, n1, r1⟩ := AP.of_spec (P := P) (C := C) (w := w) h1
        obtain ⟨l2, n2, r2⟩ := APs.of_spec (ps := cs) (xs := xs) h2
        refine ⟨Sub.le_trans l1 l2, fun k hk => ?_, fun C' σ'' hs hl vs hv => ?_⟩
        · simp only [APs.to, DL.fst_append, DL.snd_append, List.flatMap_cons, List.mem_append] at hk
          exact hk.elim (fun hk => (n1 k hk).mono l2) (n2 k)
        · obtain ⟨v, rest, e, hv1, hv2⟩ := hv
          simp only [APs.to, DL.fst_append, DL.snd_append]
          exact ⟨v, rest, e, r1 C' σ'' hs (Sub.le_trans l2 hl) v hv1, r2 C' σ'' hs hl rest hv2⟩
      · cases h
    · cases h

theorem SP.of_spec {p : SP} {x : SVal} {σ σ' : Sub} {d : DL p.leafs} (h : p.of x σ = some (d, σ')) : Sub.le σ σ' ∧ (∀ k ∈ (p.to d).toks, Names σ' k) ∧
    ∀ C' σ'', Says C C' σ'' → Sub.le σ' σ'' → ∀ v, RelSV P C w x v → RelSV P C' w (p.to d) v := by
  unfold SP.of at h
  split at h
  · cases h
    exact ⟨Sub.le_refl _, fun k hk => by simp [SP.to, SVal.toks, SVal.atoms] at hk, fun C' σ'' hs hl v hv => trivial⟩
  · split at h
    case h_2 => cases h
    rename_i d1 σ1 h0
    cases h
    obtain ⟨h1, h2, h3⟩ := AP.of_spec (P := P) (C := C) (w := w) h0
    exact ⟨h1, fun k hk => h2 k (by simpa [SP.to, SVal.toks, SVal.atoms, V1.atoms] using hk), fun C' σ'' hs hl v hv => h3 C' σ'' hs hl _ hv⟩
  · rename_i t as
    split at h
    · rename_i x hx
      cases h
      refine ⟨Sub.le_refl _, fun k hk => ?_, fun C' σ'' hs hl v hv => ?_⟩
      · have : k ∈ (explode t x).flatMap Atom.toks := hk
        rw [explode_toks] at this; cases this
      · obtain ⟨cs, e, hv⟩ := hv
        exact ⟨cs, e, explode_rel t (cells_goes (goes_of_says hs) (implodeAll_rel hv hx))⟩
    · cases h
  · rename_i ps as
    split at h
    case h_2 => cases h
    rename_i d1 σ1 h0
    cases h
    obtain ⟨h1, h2, h3⟩ := APs.of_spec (P := P) (C := C) (w := w) h0
    exact ⟨h1, h2, fun C' σ'' hs hl v hv => by
      obtain ⟨cs, e, hv⟩ := hv
      exact ⟨cs, e, h3 C' σ'' hs hl cs hv⟩⟩
  · cases h

theorem BP.of_spec {p : BP} {k kh : Tok} {x : Block} {σ σ' : Sub} {d : DL p.leafs} (h : p.of x σ = some (d, σ')) : Sub.le σ σ' ∧ (∀ k ∈ (p.to d).toks, Names σ' k) ∧ (∀ v, (p.to d).at v = x.at v) ∧
    ∀ C' σ'', Says C C' σ'' → Sub.le σ' σ'' → subGet kh σ'' = some k → RelBlock P C w k x → RelBlock P C' w kh (p.to d) := by
  unfold BP.of at h
  split at h
  · rename_i e t e' t' xs
    split at h
    · rename_i he
      subst he
      split at h
      · rename_i ht
        subst ht
        cases h
        refine ⟨Sub.le_refl _, fun k hk => (by cases hk), fun v => rfl, fun C' σ'' hs hl hk hb => ?_⟩
        have hρ := hs.ρ _ _ hk
        rcases hb with ⟨h1, A, h2⟩ | ⟨x, cap, cur, e1, h0, h5, h6, h7, h8, h9⟩
        · exact .inl ⟨h1, A, hρ.trans h2⟩
        · exact .inr ⟨x, cap, cur, hρ.trans e1, h0, h5, h6, h7, h8, h9.imp fun _ _ => cells_goes (goes_of_says hs)⟩
      · cases h
    · cases h
  · rename_i t t' xs
    split at h
    · rename_i ht
      subst ht
      cases h
      refine ⟨Sub.le_refl _, fun k hk => (by cases hk), fun v => rfl, fun C' σ'' hs hl hk hb => ?_⟩
      have hρ := hs.ρ _ _ hk
      have ha := hs.around _ _ hk
      obtain ⟨cells, h2, h3⟩ := hb
      refine ⟨cells, ?_, h3.imp fun _ _ => cells_goes (goes_of_says hs)⟩
      simp only [Lent]
      rw [hρ, ha]
      exact h2
    · cases h
  · rename_i ps as
    split at h
    case h_2 => cases h
    rename_i d1 σ1 h0
    cases h
    obtain ⟨h1, h2, h3⟩ := APs.of_spec (P := P) (C := C) (w := w) h0
    refine ⟨h1, h2, fun v => rfl, fun C' σ'' hs hl hk hb => ?_⟩
    have hρ := hs.ρ _ _ hk
    obtain ⟨x, cs, e, h4, h5, h6⟩ := hb
    exact ⟨x, cs, e, hρ.trans h4, h5, h3 C' σ'' hs hl _ h6⟩
  · rename_i t as
    split at h
    · rename_i x hx
      cases h
      refine ⟨Sub.le_refl _, fun k hk => ?_, fun v => rfl, fun C' σ'' hs hl hk hb => ?_⟩
      · have : k ∈ (explode t x).flatMap Atom.toks := hk
        rw [explode_toks] at this; cases this
      · have hρ := hs.ρ _ _ hk
        obtain ⟨y, cs, e, h4, h5, h6⟩ := hb
        exact ⟨y, cs, e, hρ.trans h4, h5, explode_rel t (cells_goes (goes_of_says hs) (implodeAll_rel h6 hx))⟩
    · cases h
  · cases h
end
end Go.AM

/- A state that fits a shape. -/
namespace Go.AM
open Go.RowKit

theorem subHas_of_get {a k : Tok} : ∀ {σ : Sub}, subGet a σ = some k → subHas k σ = true
  | [], h => by cases h
  | (x, y) :: r, h => by
    unfold subGet at h
    unfold subHas
    split at h
    · cases h; simp
    · split
      · rfl
      · exact subHas_of_get h

theorem subInj_spec {a b k : Tok} : ∀ {σ : Sub}, subInj σ = true → subGet a σ = some k → subGet b σ = some k → a = b
  | [], _, h, _ => by cases h
  | (x, y) :: r, hi, ha, hb => by
    simp only [subInj, Bool.and_eq_true, Bool.not_eq_true'] at hi
    unfold subGet at ha hb
    split at ha <;> split at hb
    · rename_i e1 e2; exact e1.symm.trans e2
    · cases ha; rw [subHas_of_get hb] at hi; cases hi.1
    · cases hb; rw [subHas_of_get ha] at hi; cases hi.1
    · exact subInj_spec hi.2 ha hb

theorem subOk_spec {ks : List (Tok × BP)} {a b : Tok} : ∀ {σ : Sub}, subOk ks σ = true → subGet a σ = some b → (a.isNew = true ∨ a = b) ∧ a ∈ ks.map (·.1)
  | [], _, h => by cases h
  | (x, y) :: r, hi, h => by
    simp only [subOk, Bool.and_eq_true, Bool.or_eq_true, decide_eq_true_eq] at hi
    obtain ⟨⟨h1, h2⟩, h3⟩ := hi
    unfold subGet at h
    split at h
    · rename_i e
      subst e
      cases h
      refine ⟨h1, ?_⟩
      obtain ⟨q, hq, hk⟩ := List.any_eq_true.1 h2
      simp only [decide_eq_true_eq] at hk
      exact hk ▸ List.mem_map_of_mem (f := (·.1)) hq
    · exact subOk_spec h3 h

theorem distinct_spec : ∀ {ks : List (Tok × BP)}, distinct ks = true → (ks.map (·.1)).Nodup
  | [], _ => List.nodup_nil
  | p :: r, h => by
    simp only [distinct, Bool.and_eq_true, Bool.not_eq_true'] at h
    rw [List.map_cons, List.nodup_cons]
    refine ⟨fun hm => ?_, distinct_spec h.2⟩
    obtain ⟨q, hq, he⟩ := List.mem_map.1 hm
    have : (r.any fun q => decide (q.1 = p.1)) = true := List.any_eq_true.2 ⟨q, hq, by simpa using he⟩
    rw [this] at h
    cases h.1

theorem BPs.keys : ∀ (ps : List (Tok × BP)) (d : DL (BPs.leafs ps)), (BPs.to ps d).map (·.1) = ps.map (·.1)
  | [], _ => rfl
  | p :: ps, d => by simp [BPs.to, BPs.keys ps]

theorem mem_keys0 {k : Tok} {h : List (Tok × Block)} : k ∈ h.map (·.1) ↔ ∃ b, (k, b) ∈ h := by simp

section
variable {P : Program} {C : Ctx} {w : World}

theorem SPs.of_spec {tmps : Nat → Value} {len : Nat} : ∀ {ps : List (Nat × SP)} {l : List (Nat × SVal)} {σ σ' : Sub} {d : DL (SPs.leafs ps)}, SPs.of ps l σ = some (d, σ') → Sub.le σ σ' ∧
    ∀ C' σ'', Says C C' σ'' → Sub.le σ' σ'' → (∀ n, RelSV P C w (sget n l) (tmps n)) → ∀ n, RelSV P C' w (sget n (SPs.to len ps d)) (tmps n) ∧ ∀ k ∈ (sget n (SPs.to len ps d)).toks, Names σ'' k
  | [], l, σ, σ', d, h => by
    cases h
    exact ⟨Sub.le_refl _, fun C' σ'' _ _ _ n => ⟨trivial, fun k hk => by cases hk⟩⟩
  | p :: ps, l, σ, σ', d, h => by
    simp only [SPs.of] at h
    split at h
    · rename_i d1 σ1 h1
      split at h
      · rename_i d2 σ2 h2
        cases h
        obtain ⟨l1, n1, r1⟩ := SP.of_spec (P := P) (C := C) (w := w) h1
        obtain ⟨l2, r2⟩ := SPs.of_spec (tmps := tmps) (len := len) (ps := ps) h2
        refine ⟨Sub.le_trans l1 l2, fun C' σ'' hs hl hr n => ?_⟩
        have r2 := r2 C' σ'' hs hl hr n
        simp only [SPs.to, DL.fst_append, DL.snd_append]
        split
        · simp only [sget]
          split
          · rename_i hb
            have := Nat.eq_of_beq_eq_true hb
            subst this
            exact ⟨r1 C' σ'' hs (Sub.le_trans l2 hl) _ (hr p.1), fun k hk => (n1 k hk).mono (Sub.le_trans l2 hl)⟩
          · exact r2
        · exact r2
      · cases h
    · cases h

theorem BPs.of_spec {heap : List (Tok × Block)} : ∀ {ps : List (Tok × BP)} {σ σ' : Sub} {d : DL (BPs.leafs ps)}, BPs.of ps heap σ = some (d, σ') → Sub.le σ σ' ∧
    ∀ C' σ'', Says C C' σ'' → Sub.le σ' σ'' → ∀ kh b, (kh, b) ∈ BPs.to ps d → ∃ k b0, subGet kh σ'' = some k ∧ (k, b0) ∈ heap ∧ (∀ v, b.at v = b0.at v) ∧ (RelBlock P C w k b0 → RelBlock P C' w kh b) ∧ ∀ k' ∈ b.toks, Names σ'' k'
  | [], σ, σ', d, h => by
    cases h
    exact ⟨Sub.le_refl _, fun C' σ'' _ _ kh b hm => by cases hm⟩
  | p :: ps, σ, σ', d, h => by
    simp only [BPs.of] at h
    split at h
    · cases h
    rename_i k hk
    split at h
    · cases h
    rename_i b0 hb0
    split at h
    · rename_i d1 σ1 h1
      split at h
      · rename_i d2 σ2 h2
        cases h
        obtain ⟨l1, n1, a1, r1⟩ := BP.of_spec (P := P) (C := C) (w := w) (k := k) (kh := p.1) h1
        obtain ⟨l2, r2⟩ := BPs.of_spec (heap := heap) (ps := ps) h2
        refine ⟨Sub.le_trans l1 l2, fun C' σ'' hs hl kh b hm => ?_⟩
        simp only [BPs.to, DL.fst_append, DL.snd_append, List.mem_cons] at hm
        rcases hm with e | hm
        · cases e
          have hl' := Sub.le_trans l2 hl
          have hk' : subGet p.1 σ'' = some k := hl' _ _ (l1 _ _ hk)
          exact ⟨k, b0, hk', hget_mem hb0, a1, r1 C' σ'' hs hl' hk', fun k' hk2 => (n1 k' hk2).mono hl'⟩
        · exact r2 C' σ'' hs hl kh b hm
      · cases h
    · cases h

def Ctx.sub (C : Ctx) (σ : Sub) : Ctx :=
  { I := C.I, ρ := fun a => match subGet a σ with | some b => C.ρ b | none => C.ρ a, around := fun a => match subGet a σ with | some b => C.around b | none => C.around a }

theorem Ctx.sub_says (C : Ctx) (σ : Sub) : Says C (C.sub σ) σ := ⟨rfl, fun a b h => by simp [Ctx.sub, h], fun a b h => by simp [Ctx.sub, h]⟩

theorem Shape.of_sound {B : Base} {a : Act} {st : St} (h : Inv B C w a st) {s : Shape} {d : DL s.leafs} (hd : s.of st = some d) : ∃ C', Inv B C' w a (s.to st.len d) := by
  unfold Shape.of at hd
  split at hd
  · cases hd
  rename_i d1 σ1 h1
  split at hd
  · cases hd
  rename_i d2 σ h2
  split at hd
  case h_2 => cases hd
  rename_i hc
  simp only [Bool.and_eq_true] at hc
  obtain ⟨⟨c1, c2⟩, c3⟩ := hc
  cases hd
  obtain ⟨l1, r1⟩ := SPs.of_spec (P := B.P) (C := C) (w := w) (tmps := fun n => a.tmps.getD n undef) (len := st.len) h1
  obtain ⟨l2, r2⟩ := BPs.of_spec (P := B.P) (C := C) (w := w) h2
  have hs := C.sub_says σ
  have r1 := r1 _ σ hs l2 h.slots
  have r2 := r2 _ σ hs (Sub.le_refl _)
  have hname : ∀ k, Names σ k → k ∈ (BPs.to s.heap d2).map (·.1) := fun k ⟨b, hb⟩ => by rw [BPs.keys]; exact (subOk_spec c2 hb).2
  have hh := h.heap
  refine ⟨C.sub σ, ?_⟩
  simp only [Shape.to, DL.fst_append, DL.snd_append]
  refine ⟨h.len, h.defers, fun n => (r1 n).1, fun n k hk => hname k ((r1 n).2 k hk), ?_⟩
  refine ⟨fun k b hm => ?_, fun k b hm k' hk' => ?_, by rw [BPs.keys]; exact distinct_spec c3, fun k1 b1 k2 b2 m1 m2 hne g hg hg2 => ?_, fun k b hm g hg => ?_, hh.imm, hh.imm0, hh.immNew, hh.evo, fun k hk => ?_, hh.fixOld⟩
  · obtain ⟨k0, b0, e1, e2, e3, e4, e5⟩ := r2 k b hm
    exact e4 (hh.blocks _ _ e2)
  · obtain ⟨k0, b0, e1, e2, e3, e4, e5⟩ := r2 k b hm
    exact hname k' (e5 k' hk')
  · obtain ⟨x1, y1, e1, e2, e3, _⟩ := r2 k1 b1 m1
    obtain ⟨x2, y2, f1, f2, f3, _⟩ := r2 k2 b2 m2
    rw [e3, hs.ρ _ _ e1] at hg
    rw [f3, hs.ρ _ _ f1] at hg2
    refine hh.apart _ _ _ _ e2 f2 (fun e => hne ?_) g hg hg2
    subst e
    exact subInj_spec c1 e1 f1
  · obtain ⟨k0, b0, e1, e2, e3, _⟩ := r2 k b hm
    rw [e3, hs.ρ _ _ e1] at hg
    exact hh.mine _ _ e2 g hg
  · obtain ⟨f1, f2⟩ := hh.fixed k hk
    cases hsub : subGet k σ with
    | none => exact ⟨by simpa [Ctx.sub, hsub] using f1, by simpa [Ctx.sub, hsub] using f2⟩
    | some b =>
      have := (subOk_spec c2 hsub).1.resolve_left (by rw [hh.fixOld k hk]; simp)
      subst this
      exact ⟨by simpa [Ctx.sub, hsub] using f1, by simpa [Ctx.sub, hsub] using f2⟩

end

/-! What is done ahead -/

def findRow (k : Tok) : List (Tok × BP) → Option ((_ : TypeId) × Ty)
  | [] => none
  | (k', .row e t) :: r => if k' = k then some ⟨e, t⟩ else findRow k r
  | _ :: r => findRow k r
def findBP (k : Tok) : List (Tok × BP) → Option BP
  | [] => none
  | (k', b) :: r => if k' = k then some b else findBP k r

/-- A name that is not taken. -/
def freshF (n : Nat) (h : List (Tok × Block)) : Nat → Nat → Option Tok
  | 0, _ => none
  | f + 1, j => match hhas (.s n j) h with | true => freshF n h f (j + 1) | false => some (.s n j)

theorem freshF_spec {n : Nat} {h : List (Tok × Block)} {k : Tok} : ∀ {f j : Nat}, freshF n h f j = some k → k ∉ h.map (·.1) ∧ ∃ j, k = .s n j
  | 0, j, e => by cases e
  | f + 1, j, e => by
    unfold freshF at e
    split at e
    · exact freshF_spec e
    · rename_i hh
      cases e
      exact ⟨fun hm => (by rw [hhas_iff.2 hm] at hh; cases hh), j, rfl⟩

def isNilS : Atom → Bool
  | .const (.slice none 0 0) => true
  | .e0 => true
  | _ => false

theorem isNilS_rel {P : Program} {C : Ctx} {w : World} {a : Atom} {cs : List Value} (h : isNilS a = true) (hr : RelAtom P C w a cs) : ∃ A, cs = [.slice A 0 0] := by
  unfold isNilS at h
  split at h
  · exact ⟨none, hr⟩
  · exact hr
  · cases h

def nilAtoms (n : Nat) (hp : List (Tok × BP)) : List AP → List Atom → List (Tok × Block) → List Atom × List (Tok × Block)
  | .own kh :: ps, a :: as, h =>
    match isNilS a, findRow kh hp, freshF n h 40 1 with
    | true, some ⟨e, t⟩, some k => match nilAtoms n hp ps as ((k, .row e t []) :: h) with | (bs, h') => (.own k :: bs, h')
    | _, _, _ => match nilAtoms n hp ps as h with | (bs, h') => (a :: bs, h')
  | _ :: ps, a :: as, h => match nilAtoms n hp ps as h with | (bs, h') => (a :: bs, h')
  | [], as, h => (as, h)
  | _, [], h => ([], h)

/-- A context that tells of these names what another one tells. -/
structure Ext (C C' : Ctx) (h : List (Tok × Block)) : Prop where
  I : C'.I = C.I
  ρ : ∀ k ∈ h.map (·.1), C'.ρ k = C.ρ k
  around : ∀ k ∈ h.map (·.1), C'.around k = C.around k

theorem Ext.refl (C : Ctx) (h : List (Tok × Block)) : Ext C C h := ⟨rfl, fun _ _ => rfl, fun _ _ => rfl⟩
theorem Ext.trans {C C1 C2 : Ctx} {h h1 : List (Tok × Block)} (a : Ext C C1 h) (b : Ext C1 C2 h1) (hk : ∀ k ∈ h.map (·.1), k ∈ h1.map (·.1)) : Ext C C2 h :=
  ⟨b.I.trans a.I, fun k m => (b.ρ k (hk k m)).trans (a.ρ k m), fun k m => (b.around k (hk k m)).trans (a.around k m)⟩
theorem Ext.goes {C C' : Ctx} {h : List (Tok × Block)} (e : Ext C C' h) (w : World) : Goes C C' w w := ⟨fun b hb => by rw [e.I]; exact hb, Later.refl _ _⟩
theorem Ext.with {C : Ctx} {h : List (Tok × Block)} {k : Tok} (hk : k ∉ h.map (·.1)) (v : Value) : Ext C (C.with k v) h :=
  ⟨rfl, fun k' m => C.with_other v (fun e => hk (e ▸ m)), fun k' m => by simp [Ctx.with, show k' ≠ k from fun e => hk (e ▸ m)]⟩

section
variable {B : Base} {C : Ctx} {w : World}

theorem InvH.nil {h : List (Tok × Block)} (hh : InvH B C w h) {n : Nat} {k : Tok} {f j : Nat} (hk : freshF n h f j = some k) (e : TypeId) (t : Ty) (A : Option Addr) :
    InvH B (C.with k (.slice A 0 0)) w ((k, .row e t []) :: h) ∧ Ext C (C.with k (.slice A 0 0)) h := by
  obtain ⟨h1, j, rfl⟩ := freshF_spec hk
  exact ⟨hh.new (Below.refl _ _) h1 (fun hm => (by have := hh.fixOld _ hm; simp [Tok.isNew] at this)) (fun g hg => (by cases A <;> simp [Block.at, blk] at hg)) (fun _ hh => (by cases hh)) (.inl ⟨rfl, A, C.with_ρ _ _⟩), Ext.with h1 _⟩

theorem nilAtoms_sound {n : Nat} {hp : List (Tok × BP)} : ∀ {ps : List AP} {as bs : List Atom} {h h' : List (Tok × Block)} {C : Ctx} {cs : List Value}, nilAtoms n hp ps as h = (bs, h') → InvH B C w h → RelAtoms B.P C w as cs → (∀ k ∈ as.flatMap Atom.toks, k ∈ h.map (·.1)) →
    ∃ C', InvH B C' w h' ∧ Ext C C' h ∧ RelAtoms B.P C' w bs cs ∧ (∀ k ∈ bs.flatMap Atom.toks, k ∈ h'.map (·.1)) ∧ (∀ k b, (k, b) ∈ h → (k, b) ∈ h') := by
  intro ps
  induction ps with
  | nil =>
    intro as bs h h' C cs e hh hr hk
    simp only [nilAtoms, Prod.mk.injEq] at e
    obtain ⟨rfl, rfl⟩ := e
    exact ⟨C, hh, Ext.refl _ _, hr, hk, fun _ _ h => h⟩
  | cons p ps ih =>
    intro as bs h h' C cs e hh hr hk
    cases as with
    | nil =>
      have : bs = [] ∧ h' = h := by
        cases p <;> simp only [nilAtoms, Prod.mk.injEq] at e <;> exact ⟨e.1.symm, e.2.symm⟩
      obtain ⟨rfl, rfl⟩ := this
      exact ⟨C, hh, Ext.refl _ _, hr, hk, fun _ _ h => h⟩
    | cons a as =>
      obtain ⟨c1, c2, rfl, r1, r2⟩ := hr
      have hk1 : ∀ k ∈ a.toks, k ∈ h.map (·.1) := fun k hm => hk k (by simp only [List.flatMap_cons, List.mem_append]; exact .inl hm)
      have hk2 : ∀ k ∈ as.flatMap Atom.toks, k ∈ h.map (·.1) := fun k hm => hk k (by simp only [List.flatMap_cons, List.mem_append]; exact .inr hm)
      have plain : ∀ bs' h1, nilAtoms n hp ps as h = (bs', h1) → bs = a :: bs' → h' = h1 → ∃ C', InvH B C' w h' ∧ Ext C C' h ∧ RelAtoms B.P C' w bs (c1 ++ c2) ∧ (∀ k ∈ bs.flatMap Atom.toks, k ∈ h'.map (·.1)) ∧ (∀ k b, (k, b) ∈ h → (k, b) ∈ h') := by
        rintro bs' h1 e1 rfl rfl
        obtain ⟨C', i1, i2, i3, i4, i5⟩ := ih e1 hh r2 hk2
        refine ⟨C', i1, i2, ⟨c1, c2, rfl, r1.goes (i2.goes w) (fun k hm => i2.ρ k (hk1 k hm)), i3⟩, fun k hm => ?_, i5⟩
        simp only [List.flatMap_cons, List.mem_append] at hm
        rcases hm with hm | hm
        · obtain ⟨b, hb⟩ := mem_keys0.1 (hk1 k hm)
          exact mem_keys0.2 ⟨b, i5 _ _ hb⟩
        · exact i4 k hm
      cases p with
      | own kh =>
        simp only [nilAtoms] at e
        split at e
        · rename_i e' t k hn hf hfr
          cases e
          obtain ⟨A, rfl⟩ := isNilS_rel hn r1
          obtain ⟨j1, j2⟩ := hh.nil hfr e' t A
          obtain ⟨C', i1, i2, i3, i4, i5⟩ := ih rfl j1 (r2.goes (j2.goes w) (fun k hm => j2.ρ k (hk2 k hm))) (fun k hm => List.mem_cons_of_mem _ (hk2 k hm))
          refine ⟨C', i1, j2.trans i2 (fun k hm => List.mem_cons_of_mem _ hm), ⟨_, _, rfl, ?_, i3⟩, fun k' hm => ?_, fun k' b hb => i5 _ _ (List.mem_cons_of_mem _ hb)⟩
          · show [_] = [C'.ρ k]
            rw [i2.ρ k (by simp), C.with_ρ]
          · simp only [List.flatMap_cons, List.mem_append, Atom.toks, List.mem_singleton] at hm
            rcases hm with rfl | hm
            · exact mem_keys0.2 ⟨_, i5 _ _ (List.mem_cons_self ..)⟩
            · exact i4 k' hm
        · cases e
          exact plain _ _ rfl rfl rfl
      | _ =>
        simp only [nilAtoms] at e
        cases e
        exact plain _ _ rfl rfl rfl

/-- nil slices that are to be own rows: what becomes of a slot's value (if it turns), and of the blocks. -/
def nilS (n : Nat) (hp : List (Tok × BP)) (p : SP) (sv : SVal) (h : List (Tok × Block)) : Option (SVal × List (Tok × Block)) :=
  match p, sv with
  | .one (.own kh), .v (.one a) => match isNilS a, findRow kh hp, freshF n h 40 1 with
    | true, some ⟨e, t⟩, some k => some (.v (.one (.own k)), (k, .row e t []) :: h)
    | _, _, _ => none
  | .one (.ptr kh _), .v (.one (.ptr k off)) => match findBP kh hp, hget k h with
    | some (.var ps), some (.var as) => match nilAtoms n hp ps as h with | (bs, h') => some (.v (.one (.ptr k off)), hset k (.var bs) h')
    | _, _ => none
  | .agg ps, .v (.agg as) => match nilAtoms n hp ps as h with | (bs, h') => some (.v (.agg bs), h')
  | _, _ => none

theorem nilS_sound {n : Nat} {hp : List (Tok × BP)} {p : SP} {sv sv' : SVal} {h h' : List (Tok × Block)} {v : Value} (e : nilS n hp p sv h = some (sv', h')) (hh : InvH B C w h) (hr : RelSV B.P C w sv v) (hk : ∀ k ∈ sv.toks, k ∈ h.map (·.1)) :
    ∃ C', InvH B C' w h' ∧ Ext C C' h ∧ RelSV B.P C' w sv' v ∧ (∀ k ∈ sv'.toks, k ∈ h'.map (·.1)) ∧ (∀ k ∈ h.map (·.1), k ∈ h'.map (·.1)) := by
  unfold nilS at e
  split at e
  · rename_i kh a
    split at e
    · rename_i e' t k hn hf hfr
      cases e
      obtain ⟨A, hv⟩ := isNilS_rel (cs := [v]) hn hr
      cases hv
      obtain ⟨j1, j2⟩ := hh.nil hfr e' t A
      exact ⟨_, j1, j2, by rw [RelSV, RelV1, RelAtom, C.with_ρ], fun k' hm => by simpa [SVal.toks, SVal.atoms, V1.atoms, Atom.toks] using Or.inl hm, fun k' hm => List.mem_cons_of_mem _ hm⟩
    · cases e
  · rename_i kh o k off
    split at e
    · rename_i ps as hf hg
      split at e
      rename_i bs h1 e1
      cases e
      have hm := hget_mem hg
      obtain ⟨x, cs, ty, b1, b2, b3⟩ := hh.blocks _ _ hm
      obtain ⟨C', i1, i2, i3, i4, i5⟩ := nilAtoms_sound e1 hh b3 (fun k' hk' => hh.closed _ _ hm k' hk')
      have hkk : k ∈ h.map (·.1) := List.mem_map_of_mem (f := (·.1)) hm
      have hw := i1.write (b' := .var bs) (i5 _ _ hm) (Evo.refl _ _) (fun g hg => hg) i4 ⟨x, cs, ty, (i2.ρ k hkk).trans b1, b2, i3⟩
      have hkeys : ∀ k' ∈ h.map (·.1), k' ∈ (hset k (.var bs) h1).map (·.1) := fun k' hk' => by
        rw [hset_keys]
        obtain ⟨b, hb⟩ := mem_keys0.1 hk'
        exact mem_keys0.2 ⟨b, i5 _ _ hb⟩
      exact ⟨C', hw, i2, hr.goes (i2.goes w) (fun k' hk' => i2.ρ k' (hk k' hk')), fun k' hk' => hkeys k' (hk k' hk'), hkeys⟩
    · cases e
  · rename_i ps as
    split at e
    rename_i bs h1 e1
    cases e
    obtain ⟨cs, rfl, hr⟩ := hr
    obtain ⟨C', i1, i2, i3, i4, i5⟩ := nilAtoms_sound e1 hh hr (fun k' hk' => hk k' hk')
    exact ⟨C', i1, i2, ⟨cs, rfl, i3⟩, fun k' hk' => i4 k' hk', fun k' hk' => by
      obtain ⟨b, hb⟩ := mem_keys0.1 hk'
      exact mem_keys0.2 ⟨b, i5 _ _ hb⟩⟩
  · cases e
end

/-- nil slices that are to be own rows. -/
def nilOwn (hp : List (Tok × BP)) : List (Nat × SP) → St → St
  | [], st => st
  | (n, p) :: ps, st => match nilS n hp p (st.get n) st.heap with
    | some (sv, h) => nilOwn hp ps (St.set { st with heap := h } n sv)
    | none => nilOwn hp ps st

def frzToks : List Tok → St → Option St
  | [], st => some st
  | k :: ks, st => if hhas k st.heap = true then match freeze k st with | some st => frzToks ks st | none => none else frzToks ks st

def allImm : List CP → Bool
  | [] => true
  | .imm _ :: r => allImm r
  | .tok _ :: _ => false

def SP.frz : SP → Bool
  | .one (.pure _) => true
  | .one (.cptr _) => true
  | .one (.func _ caps) => allImm caps
  | .data _ => true
  | _ => false

def blockToks (h : List (Tok × Block)) (k : Tok) : List Tok := match hget k h with | some b => b.toks | none => []
/-- What these name, and what lies in it, that first. -/
def deepToks (h : List (Tok × Block)) (ks : List Tok) : List Tok := ks.flatMap fun k => blockToks h k ++ [k]

/-- What is to be frozen for a slot. -/
def slotFrz (hp : List (Tok × BP)) (p : SP) (sv : SVal) (h : List (Tok × Block)) : List Tok :=
  match p.frz with
  | true => deepToks h sv.toks
  | false => match p, sv with
    | .one (.ptr kh _), .v (.one (.ptr k _)) => match findBP kh hp with | some (.dvar _) => blockToks h k | _ => []
    | _, _ => []

def frzSlots (hp : List (Tok × BP)) : List (Nat × SP) → St → Option St
  | [], st => some st
  | (n, p) :: ps, st => match slotFrz hp p (st.get n) st.heap with
    | [] => frzSlots hp ps st
    | ks => match frzToks ks st with | some st => frzSlots hp ps st | none => none

def frzKeys : List (Tok × BP) → St → Option St
  | [], st => some st
  | (k, .dvar _) :: r, st => match k.isNew with
    | true => frzKeys r st
    | false => match frzToks (blockToks st.heap k) st with | some st => frzKeys r st | none => none
  | _ :: r, st => frzKeys r st

/-- A state made ready. -/
def Shape.ready (s : Shape) (st : St) : Option St :=
  match frzSlots s.heap s.slots (nilOwn s.heap s.slots st) with
  | some st => frzKeys s.heap st
  | none => none

/-- A state made to fit. -/
def Shape.fit (s : Shape) (st : St) : Option (DL s.leafs) :=
  match s.ready st with
  | some st => s.of st
  | none => none

section
variable {B : Base} {a : Act} {w : World}

theorem frzToks_sound : ∀ {ks : List Tok} {C : Ctx} {st st' : St}, Inv B C w a st → frzToks ks st = some st' → ∃ C', Inv B C' w a st' ∧ Goes C C' w w ∧ C'.ρ = C.ρ ∧ st'.len = st.len
  | [], C, st, st', h, e => by cases e; exact ⟨C, h, ⟨fun _ h => h, Later.refl _ _⟩, rfl, rfl⟩
  | k :: ks, C, st, st', h, e => by
    unfold frzToks at e
    split at e
    · split at e
      · rename_i st1 h1
        obtain ⟨b, h2, _, h3, h4, _⟩ := freeze_sound h h1
        obtain ⟨C', h5, h6, h7, h8⟩ := frzToks_sound h3 e
        exact ⟨C', h5, ⟨fun x hx => h6.I x (.inl hx), Later.refl _ _⟩, h7, by rw [h8, h4]; rfl⟩
      · cases e
    · exact frzToks_sound h e

theorem frzSlots_sound {hp : List (Tok × BP)} : ∀ {ps : List (Nat × SP)} {C : Ctx} {st st' : St}, Inv B C w a st → frzSlots hp ps st = some st' → ∃ C', Inv B C' w a st' ∧ st'.len = st.len
  | [], C, st, st', h, e => by cases e; exact ⟨C, h, rfl⟩
  | (n, p) :: ps, C, st, st', h, e => by
    unfold frzSlots at e
    split at e
    · exact frzSlots_sound h e
    · split at e
      · rename_i st1 h1
        obtain ⟨C1, h2, _, _, h4⟩ := frzToks_sound h h1
        obtain ⟨C', h5, h8⟩ := frzSlots_sound h2 e
        exact ⟨C', h5, h8.trans h4⟩
      · cases e

theorem frzKeys_sound : ∀ {ps : List (Tok × BP)} {C : Ctx} {st st' : St}, Inv B C w a st → frzKeys ps st = some st' → ∃ C', Inv B C' w a st' ∧ st'.len = st.len := by
  intro ps
  induction ps with
  | nil => intro C st st' h e; cases e; exact ⟨C, h, rfl⟩
  | cons p ps ih =>
    intro C st st' h e
    obtain ⟨k, b⟩ := p
    cases b with
    | dvar t =>
      simp only [frzKeys] at e
      split at e
      · exact ih h e
      · split at e
        · rename_i st1 h1
          obtain ⟨C1, h2, _, _, h4⟩ := frzToks_sound h h1
          obtain ⟨C', h5, h8⟩ := ih h2 e
          exact ⟨C', h5, h8.trans h4⟩
        · cases e
    | _ => exact ih h e

theorem putSame {n : Nat} : a.put (some n) (a.tmps.getD n undef) = a := by
  cases a with
  | mk tmps defers =>
    simp only [Act.put]
    congr 1
    apply Array.ext_getElem?
    intro i
    rw [Array.getElem?_setIfInBounds]
    split
    · rename_i hin
      subst hin
      split
      · rename_i hlt
        simp [Array.getElem?_eq_getElem hlt]
      · rename_i hlt
        rw [Array.getElem?_eq_none (by omega)]
    · rfl

theorem nilOwn_sound {hp : List (Tok × BP)} : ∀ {ps : List (Nat × SP)} {C : Ctx} {st : St}, Inv B C w a st → ∃ C', Inv B C' w a (nilOwn hp ps st) ∧ (nilOwn hp ps st).len = st.len ∧ Ext C C' st.heap ∧ ∀ k ∈ st.heap.map (·.1), k ∈ (nilOwn hp ps st).heap.map (·.1)
  | [], C, st, h => ⟨C, h, rfl, Ext.refl _ _, fun _ h => h⟩
  | (n, p) :: ps, C, st, h => by
    unfold nilOwn
    split
    · rename_i sv hp' e
      obtain ⟨C1, i1, i2, i3, i4, i5⟩ := nilS_sound e h.heap (h.slots n) (h.named n)
      have hi : Inv B C1 w a { st with heap := hp' } := ⟨h.len, h.defers, fun m => (h.slots m).goes (i2.goes w) (fun k hk => i2.ρ k (h.named m k hk)), fun m k hk => i5 k (h.named m k hk), i1⟩
      have hs := hi.set (n := n) i3 i4
      rw [putSame] at hs
      obtain ⟨C', h5, h6, h7, h8⟩ := nilOwn_sound (hp := hp) (ps := ps) hs
      rw [St.set_heap] at h7 h8
      exact ⟨C', h5, h6.trans (St.set_len _ _ _), i2.trans h7 i5, fun k hk => h8 k (i5 k hk)⟩
    · exact nilOwn_sound h

theorem Shape.ready_sound {C : Ctx} {st st' : St} (h : Inv B C w a st) {s : Shape} (hd : s.ready st = some st') : ∃ C', Inv B C' w a st' ∧ st'.len = st.len := by
  unfold Shape.ready at hd
  split at hd
  · rename_i st1 h1
    obtain ⟨C1, i1, e1, _⟩ := nilOwn_sound (hp := s.heap) (ps := s.slots) h
    obtain ⟨C2, i2, e2⟩ := frzSlots_sound i1 h1
    obtain ⟨C3, i3, e3⟩ := frzKeys_sound i2 hd
    exact ⟨C3, i3, e3.trans (e2.trans e1)⟩
  · cases hd

theorem Shape.fit_sound {C : Ctx} {st : St} (h : Inv B C w a st) {s : Shape} {d : DL s.leafs} (hd : s.fit st = some d) : ∃ C', Inv B C' w a (s.to st.len d) := by
  unfold Shape.fit at hd
  split at hd
  · rename_i st1 h1
    obtain ⟨C1, i1, e1⟩ := Shape.ready_sound h h1
    obtain ⟨C3, i3⟩ := Shape.of_sound i1 hd
    rw [e1] at i3
    exact ⟨C3, i3⟩
  · cases hd
end
end Go.AM

/- Calls. -/
namespace Go.AM
open Go.RowKit

def RelSVs (P : Program) (C : Ctx) (w : World) : List SVal → List Value → Prop
  | [], vs => vs = []
  | x :: xs, vs => ∃ v rest, vs = v :: rest ∧ RelSV P C w x v ∧ RelSVs P C w xs rest

def capSV : Cap → SVal
  | .tok k => .v (.one (.ptr k 0))
  | .imm ps => .v (.one (.cptr ps))

/-! Data as arguments, and as what is told -/

def valOf : (t : Ty) → SVal → Option t.den
  | .agg t, .v (.agg as) => implodeAll t as
  | .arr n t, .v (.agg as) => implodeAll (.arr n t) as
  | .int k, .v (.one a) => asPure (.int k) a
  | .bool, .v (.one a) => asPure .bool a
  | .str, .v (.one a) => asPure .str a
  | .list t, .v (.one a) => asPure (.list t) a
  | .fn a r, .v (.one x) => asPure (.fn a r) x
  | _, _ => none

def valsOf : (t : Ty) → List SVal → Option t.den
  | .unit, [] => some ()
  | .pair a b, x :: xs => match valOf a x, valsOf b xs with | some y, some z => some (y, z) | _, _ => none
  | _, _ => none

def retV : (t : Ty) → t.den → V1
  | .agg t, x => .agg (explode t x)
  | .arr n t, x => .agg (explode (.arr n t) x)
  | t, x => .one (.pure t x)

def isPart : Ty → Bool
  | .agg _ | .arr _ _ | .int _ | .bool | .str | .list _ | .fn _ _ => true
  | _ => false

def retVs : (t : Ty) → t.den → Option (List V1)
  | .unit, _ => some []
  | .pair a b, x => if isPart a = true then match retVs b x.2 with | some xs => some (retV a x.1 :: xs) | none => none else none
  | _, _ => none

def retS : (t : Ty) → t.den → Option SVal
  | .unit, _ => some (.tup [])
  | .pair a b, x => match retVs (.pair a b) x with | some xs => some (.tup xs) | none => none
  | t, x => if isPart t = true then some (.v (retV t x)) else none

section
variable {P : Program} {C : Ctx} {w : World}

theorem valOf_rel : ∀ {t : Ty} {s : SVal} {x : t.den} {v : Value}, RelSV P C w s v → valOf t s = some x → (rels P t).val C.I w x v := by
  intro t s x v h e
  unfold valOf at e
  split at e
  · obtain ⟨cs, rfl, h⟩ := h; exact ⟨cs, rfl, implodeAll_rel h e⟩
  · obtain ⟨cs, rfl, h⟩ := h; exact ⟨cs, rfl, implodeAll_rel h e⟩
  · have := asPure_rel h e; simpa [rels] using this
  · have := asPure_rel h e; simpa [rels] using this
  · have := asPure_rel h e; simpa [rels] using this
  · obtain ⟨v', e1, h9⟩ := asPure_rel h e
    have : v' = v := by simpa using e1.symm
    subst this; exact h9
  · obtain ⟨v', e1, h9⟩ := asPure_rel h e
    have : v' = v := by simpa using e1.symm
    subst this; exact h9
  · cases e

theorem valsOf_rel : ∀ {t : Ty} {ss : List SVal} {x : t.den} {vs : List Value}, RelSVs P C w ss vs → valsOf t ss = some x → (rels P t).vals C.I w x vs := by
  intro t
  induction t with
  | unit => intro ss x vs h e; cases ss with
    | nil => exact h
    | cons => cases e
  | pair a b iha ihb =>
    intro ss x vs h e
    cases ss with
    | nil => cases e
    | cons s ss =>
      obtain ⟨v, rest, e1, h1, h2⟩ := h
      simp only [valsOf] at e
      split at e
      · rename_i y z hy hz
        cases e
        exact ⟨v, rest, e1, valOf_rel h1 hy, ihb h2 hz⟩
      · cases e
  | _ => intro ss x vs h e; cases e

theorem retV_rel {I : Nat → Prop} {C : Ctx} (hC : C.I = I) : ∀ {t : Ty} {x : t.den} {v : Value}, isPart t = true → (rels P t).val I w x v → RelV1 P C w (retV t x) v := by
  intro t x v hp h
  subst hC
  cases t with
  | agg t => obtain ⟨cs, e, h⟩ := h; exact ⟨cs, e, explode_rel t h⟩
  | arr n t => obtain ⟨cs, e, h⟩ := h; exact ⟨cs, e, explode_rel (.arr n t) h⟩
  | int k => have : v = .int k x := h; subst this; rfl
  | bool => have : v = .bool x := h; subst this; rfl
  | str => have : v = .string x := h; subst this; rfl
  | list t => exact ⟨v, rfl, h⟩
  | fn a r => exact ⟨v, rfl, h⟩
  | unit | pair | opt | sum => cases hp

theorem retV_toks (t : Ty) (x : t.den) : (retV t x).atoms.flatMap Atom.toks = [] := by
  cases t with
  | agg t => exact explode_toks t x
  | arr n t => exact explode_toks (.arr n t) x
  | _ => rfl

theorem retVs_rel {I : Nat → Prop} {C : Ctx} (hC : C.I = I) : ∀ {t : Ty} {x : t.den} {xs : List V1} {vs : List Value}, retVs t x = some xs → (rels P t).vals I w x vs → RelV1s P C w xs vs ∧ (xs.flatMap V1.atoms).flatMap Atom.toks = [] := by
  intro t
  induction t with
  | unit => intro x xs vs e h; cases e; exact ⟨h, rfl⟩
  | pair a b iha ihb =>
    intro x xs vs e h
    simp only [retVs] at e
    split at e
    · rename_i hp
      split at e
      · rename_i ys hy
        cases e
        obtain ⟨v1, vs2, e1, h1, h2⟩ := h
        obtain ⟨h3, h4⟩ := ihb hy h2
        exact ⟨⟨v1, vs2, e1, retV_rel hC hp h1, h3⟩, by simp only [List.flatMap_cons, List.flatMap_append, retV_toks, h4, List.append_nil]⟩
      · cases e
    · cases e
  | _ => intro x xs vs e h; cases e

theorem retS_rel {I : Nat → Prop} {C : Ctx} (hC : C.I = I) {t : Ty} {x : t.den} {s : SVal} {v : Value} (e : retS t x = some s) (h : (rels P t).val I w x v) : RelSV P C w s v ∧ s.toks = [] := by
  unfold retS at e
  split at e
  · cases e; exact ⟨⟨[], h, rfl⟩, rfl⟩
  · rename_i a b x
    split at e
    · rename_i xs hx
      cases e
      obtain ⟨vs, e1, h1⟩ := h
      obtain ⟨h2, h3⟩ := retVs_rel (t := .pair a b) hC hx h1
      exact ⟨⟨vs, e1, h2⟩, h3⟩
    · cases e
  · split at e
    · rename_i hp
      cases e
      exact ⟨retV_rel hC hp h, retV_toks _ _⟩
    · cases e

def flat : Ty → Bool
  | .unit | .int _ | .bool | .str => true
  | .pair a b => flat a && flat b
  | .arr _ t => flat t
  | .agg t => flat t
  | _ => false

theorem rels_flat (P : Program) {I J : Nat → Prop} {w w' : World} : ∀ {t : Ty}, flat t = true → (∀ x cs, (rels P t).cells I w x cs → (rels P t).cells J w' x cs) ∧ (∀ x v, (rels P t).val I w x v → (rels P t).val J w' x v) ∧ (∀ x vs, (rels P t).vals I w x vs → (rels P t).vals J w' x vs) := by
  intro t
  induction t with
  | unit | int | bool | str => intro _; exact ⟨fun _ _ h => h, fun _ _ h => h, fun _ _ h => h⟩
  | pair a b iha ihb =>
    intro hf
    simp only [flat, Bool.and_eq_true] at hf
    obtain ⟨a1, a2, a3⟩ := iha hf.1
    obtain ⟨b1, b2, b3⟩ := ihb hf.2
    refine ⟨?_, ?_, ?_⟩
    · rintro x cs ⟨c1, c2, e, h1, h2⟩; exact ⟨c1, c2, e, a1 _ _ h1, b1 _ _ h2⟩
    · rintro x v ⟨vs, e, v1, vs2, e2, h1, h2⟩; exact ⟨vs, e, v1, vs2, e2, a2 _ _ h1, b3 _ _ h2⟩
    · rintro x vs ⟨v1, vs2, e2, h1, h2⟩; exact ⟨v1, vs2, e2, a2 _ _ h1, b3 _ _ h2⟩
  | arr n t ih =>
    intro hf
    obtain ⟨a1, _, _⟩ := ih hf
    have key : ∀ x cs, (rels P (.arr n t)).cells I w x cs → (rels P (.arr n t)).cells J w' x cs := fun x cs h => ⟨h.1, h.2.imp a1⟩
    exact ⟨key, fun x v ⟨cs, e, h⟩ => ⟨cs, e, key _ _ h⟩, fun x vs ⟨cs, e, h⟩ => ⟨cs, e, key _ _ h⟩⟩
  | agg t ih =>
    intro hf
    obtain ⟨a1, _, _⟩ := ih hf
    have key : ∀ x v, (rels P (.agg t)).val I w x v → (rels P (.agg t)).val J w' x v := fun x v ⟨cs, e, h⟩ => ⟨cs, e, a1 _ _ h⟩
    exact ⟨fun x cs h => a1 _ _ h, key, fun x vs ⟨v, e, h⟩ => ⟨v, e, key _ _ h⟩⟩
  | list | fn | opt | sum => intro h; cases h

theorem MapOk.svs {C' : Ctx} {k : Tok} {f : Atom → Atom} (m : MapOk P C C' w k f) : ∀ {ss : List SVal} {vs : List Value}, RelSVs P C w ss vs → RelSVs P C' w (ss.map (SVal.mapA f)) vs
  | [], _, h => h
  | _ :: _, _, ⟨v, rest, e, h1, h2⟩ => ⟨v, rest, e, m.sv h1, m.svs h2⟩
end

/-- Freeze what arguments name. -/
def frzL : List Tok → List SVal → St → Option (List SVal × St)
  | [], ss, st => some (ss, st)
  | k :: ks, ss, st =>
    match hget k st.heap with
    | none => frzL ks ss st
    | some b => match freeze k st with | some st => frzL ks (ss.map (SVal.mapA (frzA k b))) st | none => none

/-- More blocks are left alone, and there are new ones. -/
theorem Inv.grow {B : Base} {C : Ctx} {w w' : World} {a : Act} {st : St} (h : Inv B C w a st) (hb : Below w.heap.size w w') {J : Nat → Prop} (h1 : ∀ b, C.I b → J b) (h2 : ∀ b, J b → C.I b ∨ w.heap.size ≤ b) (h3 : ∀ b, J b → b < w'.heap.size) :
    Inv B { C with I := J } w' a st := by
  have hi := h.world hb
  have g : Goes C { C with I := J } w' w' := ⟨h1, Later.refl _ _⟩
  refine ⟨hi.len, hi.defers, fun n => (hi.slots n).goes g (fun _ _ => rfl), hi.named, ?_⟩
  have hh := hi.heap
  refine ⟨fun k b hm => (hh.blocks k b hm).goes g (fun _ _ => rfl) rfl rfl (fun _ _ => rfl), hh.closed, hh.nodup, hh.apart, fun k b hm x hx => ⟨fun hJ => ?_, (hh.mine k b hm x hx).2⟩, h3, fun b hb => h1 b (hh.imm0 b hb), fun b hJ => ?_, hh.evo, hh.fixed, hh.fixOld⟩
  · rcases h2 x hJ with h4 | h4
    · exact (hh.mine k b hm x hx).1 h4
    · have := (h.heap.blocks k b hm).lt hx; omega
  · rcases h2 b hJ with h4 | h4
    · exact hh.immNew b h4
    · exact .inr (.inl (Nat.le_trans h.heap.evo.size h4))

theorem frzL_sound {B : Base} {w : World} {a : Act} : ∀ {ks : List Tok} {C : Ctx} {ss ss' : List SVal} {st st' : St} {vs : List Value}, Inv B C w a st → RelSVs B.P C w ss vs → frzL ks ss st = some (ss', st') →
    ∃ C', Inv B C' w a st' ∧ RelSVs B.P C' w ss' vs ∧ (∀ b, C.I b → C'.I b)
  | [], C, ss, ss', st, st', vs, h, hr, e => by cases e; exact ⟨C, h, hr, fun _ h => h⟩
  | k :: ks, C, ss, ss', st, st', vs, h, hr, e => by
    unfold frzL at e
    split at e
    · exact frzL_sound h hr e
    · rename_i b hg
      split at e
      · rename_i st1 h1
        obtain ⟨b', _, hg', h3, _, hm⟩ := freeze_sound h h1
        rw [hg] at hg'
        cases hg'
        obtain ⟨C', h4, h5, h6⟩ := frzL_sound h3 (hm.svs hr) e
        exact ⟨C', h4, h5, fun b hb => h6 b (.inl hb)⟩
      · cases e

/-- What they name stays named. -/
theorem frzL_toks {B : Base} {w : World} {a : Act} : ∀ {ks : List Tok} {C : Ctx} {ss ss' : List SVal} {st st' : St}, Inv B C w a st → (∀ s ∈ ss, ∀ k ∈ s.toks, k ∈ st.heap.map (·.1)) → frzL ks ss st = some (ss', st') →
    ss'.length = ss.length ∧ st'.len = st.len ∧ ∀ s ∈ ss', ∀ k ∈ s.toks, k ∈ st'.heap.map (·.1)
  | [], C, ss, ss', st, st', h, hk, e => by cases e; exact ⟨rfl, rfl, hk⟩
  | k :: ks, C, ss, ss', st, st', h, hk, e => by
    unfold frzL at e
    split at e
    · exact frzL_toks h hk e
    · rename_i b hg
      split at e
      · rename_i st1 h1
        obtain ⟨b', _, hg', h3, e1, hm⟩ := freeze_sound h h1
        rw [hg] at hg'
        cases hg'
        obtain ⟨r1, r2, r3⟩ := frzL_toks (ks := ks) h3 (fun s hs k2 hk2 => by
          obtain ⟨s0, hs0, rfl⟩ := List.mem_map.1 hs
          obtain ⟨h5, h6⟩ := hm.sv_toks s0 k2 hk2
          rw [e1]
          exact mapA_keys.2 ⟨h5, hk s0 hs0 k2 h6⟩) e
        exact ⟨r1.trans (by simp), r2.trans (by rw [e1]; rfl), r3⟩
      · cases e

/-! Summaries -/

def bindO {α β : Type} (x : Option α) (k : α → Option β) : Option β :=
  match x with
  | some y => k y
  | none => none

theorem bindO_some {α β : Type} {x : Option α} {k : α → Option β} {r : β} (h : bindO x k = some r) : ∃ y, x = some y ∧ k y = some r := by
  cases x with
  | none => cases h
  | some y => exact ⟨y, rfl, h⟩

structure Summ where
  quiet : Bool
  /-- As a datum it is a function of these. -/
  fn : Option (Ty × Ty) := none
  run : (R : Type) → List SVal → St → Option Tmp → (Option Value → St → Option R) → Option R

def CallPost {R : Type} (B : Base) (a : Act) (dst : Option Tmp) (K : Option Value → St → Option R) (r : R) (w : World) (q : Bool) : Ending → World → Prop
  | .returned v, w' => (q = true → Below w.heap.size w w') ∧ ∃ C' st', Inv B C' w' (a.put dst v) st' ∧ K none st' = some r
  | .panicked chain, w' => ∃ v C' st', chain = [{ v, recovered := false }] ∧ Inv B C' w' a st' ∧ K (some v) st' = some r
  | .outgrown, _ => False

structure Summ.Ok (P : Program) (g : FuncId) (S : Summ) : Prop where
  enters : Enters P g
  calls : ∀ {R : Type} {B : Base} {C : Ctx} {w : World} {a : Act} {st : St} {args : List SVal} {vals : List Value} {dst : Option Tmp} {K : Option Value → St → Option R} {r : R},
    B.P = P → Inv B C w a st → RelSVs P C w args vals → (∀ s ∈ args, ∀ k ∈ s.toks, k ∈ st.heap.map (·.1)) → S.run R args st dst K = some r → Calls P g vals.toArray w (CallPost B a dst K r w S.quiet)

/-- The contract of a function on data. -/
structure PureOk (P : Program) (g : FuncId) (ins out : Ty) (f : ins.den → Option out.den) : Prop where
  enters : Enters P g
  calls : ∀ (w : World) (I : Nat → Prop) (x : ins.den) (vs : List Value), (∀ b, I b → b < w.heap.size) → (rels P ins).vals I w x vs → ∀ y, f x = some y → Calls P g vs.toArray w (RetR (rels P out).val I w y)

def Summ.ofPure (ins out : Ty) (f : ins.den → Option out.den) : Summ where
  quiet := true
  fn := none
  run := fun _ args st dst K =>
    match frzL (args.flatMap SVal.toks) args st with
    | none => none
    | some (args', st') => match valsOf ins args' with
      | none => none
      | some x => bindO (f x) fun y => match retS out y with
        | none => none
        | some s => K none ((if flat out = true then st else st').putD dst s)

theorem Summ.ofPure_ok {P : Program} {g : FuncId} {ins out : Ty} {f : ins.den → Option out.den} (h : PureOk P g ins out f) : (Summ.ofPure ins out f).Ok P g := by
  refine ⟨h.enters, fun {R B C w a st args vals dst K r} hP hi hr hk e => ?_⟩
  subst hP
  simp only [Summ.ofPure] at e
  split at e
  · cases e
  rename_i args' st' hf
  split at e
  · cases e
  rename_i x hx
  obtain ⟨y, hy, e⟩ := bindO_some e
  split at e
  · cases e
  rename_i s hs
  obtain ⟨C', hi', hr', hI⟩ := frzL_sound hi hr hf
  refine (h.calls w C'.I x vals hi'.heap.imm (valsOf_rel hr' hx) y hy).mono fun en w' hret => ?_
  obtain ⟨rv, rfl, hb, J, j1, j2, j3, j4⟩ := hret
  refine ⟨fun _ => hb, ?_⟩
  split at e
  · rename_i hfl
    have hi2 := hi.world hb
    obtain ⟨r1, r2⟩ := retS_rel (C := C) rfl hs ((rels_flat B.P hfl).2.1 _ _ j4)
    exact ⟨C, _, hi2.putD r1 (fun k hk => by rw [r2] at hk; cases hk), e⟩
  · have hi2 := hi'.grow hb j1 j2 j3
    obtain ⟨r1, r2⟩ := retS_rel (C := { C' with I := J }) rfl hs j4
    exact ⟨_, _, hi2.putD r1 (fun k hk => by rw [r2] at hk; cases hk), e⟩
end Go.AM

/- One operation, calls among them. -/
namespace Go.AM
open Go.RowKit

@[reducible] def Sums := FuncId → Option Summ

def Sums.Ok (P : Program) (S : Sums) : Prop := ∀ g s, S g = some s → s.Ok P g

/-- Data that are functions: what a call tells. -/
def callFn {R : Type} (a r : Ty) (f : a.den → Option r.den) (args : List SVal) (st : St) (dst : Option Tmp) (K : St → Option R) : Option R :=
  match frzL (args.flatMap SVal.toks) args st with
  | none => none
  | some (args', st') => match valsOf a args' with
    | none => none
    | some x => bindO (f x) fun y => match retS r y with
      | none => none
      | some s => K ((if flat r = true then st else st').putD dst s)

def execCall {R : Type} (S : Sums) (st : St) (f : Operand) (args : List Operand) (dst : Option Tmp) (K : St → Option R) (KP : Value → St → Option R) : Option R :=
  match evalS st f with
  | .v (.one (.func g caps)) => match S g with
    | some s => s.run R (args.map (evalS st) ++ caps.map capSV) st dst (fun e st => match e with | none => K st | some v => KP v st)
    | none => none
  | .v (.one (.pure (.fn a r) f)) => callFn a r f (args.map (evalS st)) st dst K
  | _ => none

def execPanic {R : Type} (x : SVal) (st : St) (KP : Value → St → Option R) : Option R :=
  match x with
  | .v (.one (.const (.iface T v))) => KP (.iface T v) st
  | _ => none

/-- The own rows that are put into what is built. -/
def rowToks : List Atom → List Tok
  | [] => []
  | .own k :: r => k :: rowToks r
  | _ :: r => rowToks r
def partToks : List (Nat × SVal) → List Tok
  | [] => []
  | (_, .v x) :: r => rowToks x.atoms ++ partToks r
  | _ :: r => partToks r

/-- The own rows that are put into an element. -/
def storeToks : SVal → SVal → List Tok
  | .v (.one (.rptr ..)), .v x => rowToks x.atoms
  | .v (.one (.aptr ..)), .v x => rowToks x.atoms
  | _, _ => []

def execO {R : Type} (E : TEnv) (S : Sums) (o : Oper) (st : St) (K : St → Option R) (KP : Value → St → Option R) : Option R :=
  match o.op with
  | .alloc T => execAlloc E.ti T st o.dst K
  | .box _ x => execBox st o.dst (evalS st x) K
  | .buildSlice T len parts => match frzToks (partToks (evalAll st parts.toList)) st with
    | some st => execBuildSlice E.ti T len (evalAll st parts.toList) st o.dst K
    | none => none
  | .makeSlice T l c => execMake E.ti T (evalS st l) (evalS st c) st o.dst K
  | .store T p x => match frzToks (storeToks (evalS st p) (evalS st x)) st with
    | some st => execStore E.ti T (evalS st p) (evalS st x) st (fun st => K (st.putD o.dst .undef))
    | none => none
  | .panic x => execPanic (evalS st x) st KP
  | .call { callee := .builtin .append, args := ⟨[s, x]⟩, argTypes := ⟨[T, T']⟩ } => execAppend E.ti T T' (evalS st s) (evalS st x) st o.dst K
  | .call { callee := .value f, args := args, .. } => execCall S st f args.toList o.dst K KP
  | op => execT E op st (fun s => K (st.putD o.dst s))

def quietV (S : Sums) : SVal → Bool
  | .v (.one (.func g _)) => match S g with | some s => s.quiet | none => false
  | .v (.one (.pure (.fn _ _) _)) => true
  | _ => false

/-- Does it leave all blocks as they are that were there? -/
def quietO (S : Sums) (o : Oper) (st : St) : Bool :=
  match o.op with
  | .alloc _ | .box .. | .buildSlice .. | .makeSlice .. => true
  | .store .. | .panic _ => false
  | .call { callee := .builtin .append, .. } => false
  | .call { callee := .value f, .. } => quietV S (evalS st f)
  | _ => true

section
variable {B : Base} {C : Ctx} {w : World} {a : Act} {st : St} {E : TEnv} {S : Sums} {R : Type} {r : R}

theorem RelSVs.append {P : Program} {C : Ctx} {w : World} : ∀ {xs ys : List SVal} {vs us : List Value}, RelSVs P C w xs vs → RelSVs P C w ys us → RelSVs P C w (xs ++ ys) (vs ++ us)
  | [], _, _, _, h, k => by rw [show _ = [] from h]; exact k
  | _ :: _, _, _, _, ⟨v, rest, e, h1, h2⟩, k => ⟨v, rest ++ _, by rw [e]; rfl, h1, h2.append k⟩

theorem evalsS_rel (h : Inv B C w a st) : ∀ xs : List Operand, RelSVs B.P C w (xs.map (evalS st)) (xs.map a.eval)
  | [] => rfl
  | x :: xs => ⟨_, _, rfl, (evalS_rel h x).1, evalsS_rel h xs⟩

theorem caps_rel {P : Program} {C : Ctx} {w : World} : ∀ {caps : List Cap} {vs : List Value}, RelCaps P C w caps vs → RelSVs P C w (caps.map capSV) vs
  | [], _, h => h
  | c :: cs, _, ⟨v, rest, e, h1, h2⟩ => by
    refine ⟨v, rest, e, ?_, caps_rel h2⟩
    cases c with
    | tok k => obtain ⟨e1, b, e2⟩ := h1; exact ⟨b, e2, by rw [e1, e2]⟩
    | imm ps => exact ⟨v, rfl, h1⟩

theorem caps_toks : ∀ (caps : List Cap), ∀ s ∈ caps.map capSV, ∀ k ∈ s.toks, k ∈ caps.flatMap Cap.toks := by
  intro caps s hs k hk
  obtain ⟨c, hc, rfl⟩ := List.mem_map.1 hs
  refine List.mem_flatMap.2 ⟨c, hc, ?_⟩
  cases c with
  | tok k' => simpa [capSV, SVal.toks, SVal.atoms, V1.atoms, Atom.toks, Cap.toks] using hk
  | imm ps => simp [capSV, SVal.toks, SVal.atoms, V1.atoms, Atom.toks] at hk

theorem execOp_value {o : Oper} {f : Operand} {args : Array Operand} {ats : Array TypeId} {g : FuncId} {vs : List Value} (ho : o.op = .call { callee := .value f, args := args, argTypes := ats }) (hf : a.eval f = .func (.func g) #[] vs.toArray) (w : World) :
    (execOp a.eval o).run B.P w = (callFunc g ((args.toList.map a.eval) ++ vs).toArray).run B.P w := by
  have e : (args.map a.eval ++ vs.toArray) = ((args.toList.map a.eval) ++ vs).toArray := by apply Array.ext'; simp
  simp only [execOp, ho, resolve, hf, Deferred.ofValue, pure_bind, invoke, Array.empty_append, e]

/-- What one operation owes to what comes behind it. -/
structure Owes (B : Base) (a : Act) (w : World) {R : Type} (r : R) (q : Bool) (K : St → Option R) (KP : Value → St → Option R) (next : Act → World → Prop) (Q : Exit → Act → World → Prop) : Prop where
  go : ∀ C' w' a' st', Inv B C' w' a' st' → K st' = some r → (q = true → Below w.heap.size w w') → next a' w'
  panic : ∀ v C' w' st', Inv B C' w' a st' → KP v st' = some r → Q (.panic [{ v, recovered := false }]) a w'

theorem callFn_sound (h : Inv B C w a st) {ta tr : Ty} {f : ta.den → Option tr.den} {o : Oper} {fo : Operand} {args : Array Operand} {ats : Array TypeId} (ho : o.op = .call { callee := .value fo, args := args, argTypes := ats })
    (hf : RelSV B.P C w (.v (.one (.pure (.fn ta tr) f))) (a.eval fo)) {K : St → Option R} {KP : Value → St → Option R} {q : Bool} {next : Act → World → Prop} {Q : Exit → Act → World → Prop} (c : Owes B a w r q K KP next Q)
    (he : callFn ta tr f (args.toList.map (evalS st)) st o.dst K = some r) : o.wp B.P a w next Q := by
  unfold callFn at he
  split at he
  · cases he
  rename_i args' st' hz
  split at he
  · cases he
  rename_i x hx
  obtain ⟨y, hy, he⟩ := bindO_some he
  split at he
  · cases he
  rename_i s hs
  obtain ⟨v0, e0, g, caps, hv, hen, hcalls⟩ := hf
  have hv0 : v0 = a.eval fo := by simpa using e0.symm
  subst hv0
  obtain ⟨C', hi', hr', hI⟩ := frzL_sound h (evalsS_rel h args.toList) hz
  have := hcalls w C'.I (Later.refl _ _) hI hi'.heap.imm x _ (valsOf_rel hr' hx) y hy
  have hcaps : caps = caps.toList.toArray := by simp
  unfold Oper.wp
  rw [execOp_value (vs := caps.toList) ho (by rw [hv]), hen _ w, Oper.upon_enter]
  rw [show ((args.toList.map a.eval) ++ caps.toList).toArray = (args.toList.map a.eval).toArray ++ caps by apply Array.ext'; simp]
  refine this.mono fun en w' hret => ?_
  obtain ⟨rv, rfl, hb, J, j1, j2, j3, j4⟩ := hret
  show next (a.put o.dst rv) w'
  split at he
  · rename_i hfl
    have hi2 := h.world hb
    obtain ⟨r1, r2⟩ := retS_rel (C := C) rfl hs ((rels_flat B.P hfl).2.1 _ _ j4)
    exact c.go _ _ _ _ (hi2.putD r1 (fun k hk => by rw [r2] at hk; cases hk)) he (fun _ => hb)
  · have hi2 := hi'.grow hb j1 j2 j3
    obtain ⟨r1, r2⟩ := retS_rel (C := { C' with I := J }) rfl hs j4
    exact c.go _ _ _ _ (hi2.putD r1 (fun k hk => by rw [r2] at hk; cases hk)) he (fun _ => hb)

theorem execCall_sound (hS : S.Ok B.P) (h : Inv B C w a st) {o : Oper} {f : Operand} {args : Array Operand} {ats : Array TypeId} (ho : o.op = .call { callee := .value f, args := args, argTypes := ats })
    {K : St → Option R} {KP : Value → St → Option R} {next : Act → World → Prop} {Q : Exit → Act → World → Prop} (c : Owes B a w r (quietO S o st) K KP next Q)
    (he : execCall S st f args.toList o.dst K KP = some r) : o.wp B.P a w next Q := by
  unfold execCall at he
  split at he
  · rename_i g caps hf
    split at he
    · rename_i s hs
      have hq : quietO S o st = s.quiet := by simp only [quietO, ho, hf, quietV, hs]
      rw [hq] at c
      have ok := hS g s hs
      have hev := evalS_rel h f
      rw [hf] at hev
      obtain ⟨⟨vs, e1, h1⟩, hk⟩ := hev
      have e1 : a.eval f = .func (.func g) #[] vs.toArray := by simpa using e1
      have := ok.calls (B := B) (dst := o.dst) rfl h ((evalsS_rel h args.toList).append (caps_rel h1)) (fun s hs k hk2 => by
        rcases List.mem_append.1 hs with hm | hm
        · obtain ⟨x, _, rfl⟩ := List.mem_map.1 hm
          exact (evalS_rel h x).2 k hk2
        · exact hk k (by have := caps_toks caps s hm k hk2; simpa [SVal.toks, SVal.atoms, V1.atoms, Atom.toks] using this)) he
      unfold Oper.wp
      rw [execOp_value (vs := vs) ho e1, ok.enters _ w, Oper.upon_enter]
      refine this.mono fun en w' hp => ?_
      cases en with
      | returned v =>
        obtain ⟨hb, C', st', i1, i2⟩ := hp
        exact c.go _ _ _ _ i1 i2 hb
      | panicked chain =>
        obtain ⟨v, C', st', rfl, i1, i2⟩ := hp
        exact c.panic _ _ _ _ i1 i2
      | outgrown => exact hp.elim
    · cases he
  · rename_i ta tr f' hf
    have hev := evalS_rel h f
    rw [hf] at hev
    exact callFn_sound h ho hev.1 c he
  · cases he

theorem Makes.wp {o : Oper} {K : St → Option R} {KP : Value → St → Option R} {next : Act → World → Prop} {Q : Exit → Act → World → Prop} {s : Sem Value} (m : Makes B w a o.dst K r s) (c : Owes B a w r false K KP next Q)
    (e : execOp a.eval o = (do pure (.value (← s)))) : o.wp B.P a w next Q := by
  obtain ⟨st1, sv, C', w', v, h1, h2, h3, h4, h5⟩ := m
  refine wp_of_run (v := v) (w' := w') (by rw [e, Sem.run_bind, h2]; rfl) (c.go _ _ _ _ (h3.putD h4 h5) h1 (fun h => by cases h))

theorem MakesQ.wp {o : Oper} {K : St → Option R} {KP : Value → St → Option R} {q : Bool} {next : Act → World → Prop} {Q : Exit → Act → World → Prop} {s : Sem Value} (m : MakesQ B w a o.dst K r s) (c : Owes B a w r q K KP next Q)
    (e : execOp a.eval o = (do pure (.value (← s)))) : o.wp B.P a w next Q := by
  obtain ⟨st1, sv, C', w', v, h1, h2, h3, h4, h5, h6⟩ := m
  refine wp_of_run (v := v) (w' := w') (by rw [e, Sem.run_bind, h2]; rfl) (c.go _ _ _ _ (h3.putD h4 h5) h1 (fun _ => h6))

theorem TellsO.wp (h : Inv B C w a st) {o : Oper} {K : St → Option R} {KP : Value → St → Option R} {q : Bool} {next : Act → World → Prop} {Q : Exit → Act → World → Prop} {rd : Bool} (t : TellsO rd B C w a st (fun s => K (st.putD o.dst s)) r o) (c : Owes B a w r q K KP next Q) : o.wp B.P a w next Q := by
  obtain ⟨s, h1, v, h2, h3, h4⟩ := t
  exact wp_of_run (h2 w (fun _ => Below.refl _ _)) (c.go _ _ _ _ (h.putD h3 h4) h1 (fun _ => Below.refl _ _))

theorem execO_sound (hE : E.Ok B.P) (hS : S.Ok B.P) (h : Inv B C w a st) {o : Oper} {K : St → Option R} {KP : Value → St → Option R} {next : Act → World → Prop} {Q : Exit → Act → World → Prop}
    (he : execO E S o st K KP = some r) (c : Owes B a w r (quietO S o st) K KP next Q) : o.wp B.P a w next Q := by
  have ev := fun x => evalS_rel h x
  unfold execO at he
  split at he
  · rename_i T ho
    exact (execAlloc_sound hE.ti h he).wp c (by simp only [execOp, ho])
  · rename_i T x ho
    exact (execBox_sound h (ev x).1 (ev x).2 T he).wp c (by simp only [execOp, ho])
  · rename_i T len parts ho
    split at he
    · rename_i st1 h1
      obtain ⟨C1, i1, _⟩ := frzToks_sound h h1
      have hq : quietO S o st = true := by simp only [quietO, ho]
      rw [hq] at c
      exact (execBuildSlice_sound hE.ti i1 he).wp c (by simp only [execOp, ho])
    · cases he
  · rename_i T l cc ho
    exact (execMake_sound hE.ti h (ev l).1 (ev cc).1 he).wp c (by simp only [execOp, ho])
  · rename_i T p x ho
    have hq : quietO S o st = false := by simp only [quietO, ho]
    rw [hq] at c
    split at he
    · rename_i st0 h0
      obtain ⟨C0, i0, _⟩ := frzToks_sound h h0
      have ev := fun x => evalS_rel i0 x
      obtain ⟨st1, C', w', h1, h2, h3⟩ := execStore_sound hE.ti i0 (ev p).1 (ev x).1 (ev x).2 he
      refine wp_of_skip (w' := w') (by simp only [execOp, ho]; rw [Sem.run_bind, h2]; rfl) (c.go _ _ _ _ (h3.putD (sv := .undef) trivial (fun k hk => by cases hk)) h1 (fun h => by cases h))
    · cases he
  · rename_i x ho
    unfold execPanic at he
    split at he
    · rename_i T v hx
      have hv := (ev x).1
      rw [hx] at hv
      have hv : a.eval x = .iface T v := by simpa [RelSV, RelV1, RelAtom] using hv
      unfold Oper.wp
      have : (execOp a.eval o).run B.P w = .halt (.panic (.iface T v)) w := by
        simp only [execOp, ho, hv, Instr.panic]
        rfl
      rw [this, Oper.upon_panic]
      exact c.panic _ _ _ _ h he
    · cases he
  · rename_i s x T T' ho
    have hq : quietO S o st = false := by simp only [quietO, ho]
    rw [hq] at c
    exact (execAppend_sound (ty := o.type) hE.ti h (ev s).1 (ev x).1 he).wp c (by simp only [execOp, ho]; simp [resolve, invoke, builtin])
  · rename_i f args ats ho
    exact execCall_sound hS h ho c he
  · rename_i op hne1 hne2 hne3 hne4 hne5 hne6 hne7 hne8
    exact (execT_sound hE h he).wp h c
end
end Go.AM

/- Code: regions in the order of their text, ways that part and meet, loops. -/
namespace Go.AM
open Go.RowKit

@[reducible] def uA : SVal := .v (.one (.const undef))

/-- What a guard tells of a slot: is it true, is it false, or is nothing there. -/
def guardK {R : Type} (x : SVal) (want : Bool) (yes no : Option R) : Option R :=
  match x with
  | .v (.one (.pure .bool b)) => bif b == want then yes else no
  | .v (.one (.const (.tuple ⟨[]⟩))) => no
  | _ => none

/-- The slot that a guard looks at. -/
def guardS (ops : Array Oper) (g : Nat) : Option Tmp := (ops[g]?).bind (·.dst)

def setB (st : St) (t : Tmp) (b : Bool) : St :=
  match st.get t with
  | .v (.one (.pure .bool _)) => st.set t (pB b)
  | _ => st

def runOp {R : Type} (E : TEnv) (S : Sums) (ops : Array Oper) (o : Oper) (st : St) (K : St → Option R) (KP : Value → St → Option R) : Option R :=
  match o.guard with
  | none => execO E S o st K KP
  | some (g, want) => match guardS ops g with
    | none => none
    | some t => guardK (st.get t) want (execO E S o (setB st t want) K KP) (K ((setB st t (!want)).putD o.dst uA))

def runOps {R : Type} (E : TEnv) (S : Sums) (ops : Array Oper) (K : St → Option R) (KP : Value → St → Option R) : List Oper → St → Option R
  | [], st => K st
  | o :: rest, st => runOp E S ops o st (runOps E S ops K KP rest) KP

inductive Ex where
  | normal | exit (id : Nat) | ret | panic (v : Value)

inductive ExRel : Exit → Ex → Prop
  | normal : ExRel .normal .normal
  | exit (id : Nat) : ExRel (.exit id) (.exit id)
  | ret : ExRel .ret .ret
  | panic (v : Value) : ExRel (.panic [{ v, recovered := false }]) (.panic v)

def Post {R : Type} (B : Base) (K : Ex → St → Option R) (r : R) : Exit → Act → World → Prop :=
  fun e a w => ∃ x C st, ExRel e x ∧ Inv B C w a st ∧ K x st = some r

/-- Behind the first of two pieces. -/
def thenK {R : Type} (K : Ex → St → Option R) (next : St → Option R) : Ex → St → Option R
  | .normal, st => next st
  | e, st => K e st
def blockK {R : Type} (K : Ex → St → Option R) (id : Nat) : Ex → St → Option R
  | .exit id', st => if id' = id then K .normal st else K (.exit id') st
  | e, st => K e st

/-- Code without loops. -/
def runL (E : TEnv) (S : Sums) (rd : (R : Type) → Array Oper → St → (St → Option R) → (Value → St → Option R) → Option R) : Code → (R : Type) → (Ex → St → Option R) → St → Option R
  | .skip, _, K, st => K .normal st
  | .label _, _, K, st => K .normal st
  | .ret, _, K, st => K .ret st
  | .exit id, _, K, st => K (.exit id) st
  | .seq x y, R, K, st => runL E S rd x R (thenK K (runL E S rd y R K)) st
  | .region _ ops false, _, K, st => runOps E S ops (K .normal) (fun v => K (.panic v)) ops.toList st
  | .region _ ops true, R, K, st => rd R ops st (K .normal) (fun v => K (.panic v))
  | .cond c x y, R, K, st => match evalS st c with
    | .v (.one (.pure .bool b)) => bif b then runL E S rd x R K st else runL E S rd y R K st
    | _ => none
  | .block id x, R, K, st => runL E S rd x R (blockK K id) st
  | .scope x, R, K, st => runL E S rd x R K st
  | _, _, _, _ => none

inductive Ann where
  | leaf | seq (x y : Ann) | cond (x y : Ann) | block (x : Ann) | join (s : Shape) (x : Ann) | loop (s : Shape) (x : Ann)

/-- The data of a state that has so many slots. -/
def Shape.fitN (s : Shape) (len : Nat) (st : St) : Option (DL s.leafs) := match Nat.beq st.len len with | true => s.fit st | false => none

def joinK {R : Type} (s : Shape) (len : Nat) (K : Ex → St → Option R) : Ex → St → Option (DL s.leafs ⊕ R)
  | .normal, st => match s.fitN len st with | some d => some (.inl d) | none => none
  | e, st => bindO (K e st) fun r => some (.inr r)

/-- Rounds. -/
def iter {D R : Type} (step : (D → Option R) → D → Option R) : Nat → D → Option R
  | 0, _ => none
  | n + 1, d => step (iter step n) d

def roundOf {R : Type} (s : Shape) (len : Nat) (body : (Ex → St → Option R) → St → Option R) (K : Ex → St → Option R) (rec : DL s.leafs → Option R) (d : DL s.leafs) : Option R :=
  body (thenK K (fun st => match s.fitN len st with | some d => rec d | none => none)) (s.to len d)

def loopN {R : Type} (s : Shape) (len : Nat) (body : (Ex → St → Option R) → St → Option R) (K : Ex → St → Option R) (n : Nat) (d : DL s.leafs) : Option R := iter (roundOf s len body K) n d

def afterJoin {D R : Type} (x : Option (D ⊕ R)) (next : D → Option R) : Option R :=
  match x with
  | some (.inl d) => next d
  | some (.inr r) => some r
  | none => none

def run (E : TEnv) (S : Sums) (rd : (R : Type) → Array Oper → St → (St → Option R) → (Value → St → Option R) → Option R) (fuel len : Nat) : Ann → Code → (R : Type) → (Ex → St → Option R) → St → Option R
  | .leaf, c, R, K, st => runL E S rd c R K st
  | .seq a b, .seq x y, R, K, st => run E S rd fuel len a x R (thenK K (run E S rd fuel len b y R K)) st
  | .cond a b, .cond c x y, R, K, st => match evalS st c with
    | .v (.one (.pure .bool t)) => bif t then run E S rd fuel len a x R K st else run E S rd fuel len b y R K st
    | _ => none
  | .block a, .block id x, R, K, st => run E S rd fuel len a x R (blockK K id) st
  | .block a, .scope x, R, K, st => run E S rd fuel len a x R K st
  | .join s a, x, R, K, st => afterJoin (run E S rd fuel len a x (DL s.leafs ⊕ R) (joinK s len K) st) (fun d => K .normal (s.to len d))
  | .loop s a, .loop x, R, K, st => match s.fitN len st with
    | some d => loopN s len (run E S rd fuel len a x R) K fuel d
    | none => none
  | _, _, _, _, _ => none

section
variable {B : Base} {C : Ctx} {w : World} {a : Act} {st : St} {E : TEnv} {S : Sums} {R : Type} {r : R}

theorem rel_slot_bool (h : Inv B C w a st) {t : Tmp} {b : Bool} (hs : st.get t = pB b) : a.tmps[t]? = some (.bool b) := by
  have := h.slots t
  rw [hs] at this
  have hb := rel_bool this
  rw [Array.getD_eq_getD_getElem?] at hb
  cases ht : a.tmps[t]? with
  | none => rw [ht] at hb; cases hb
  | some v => rw [ht] at hb; exact congrArg some hb

theorem put_same {t : Tmp} {v : Value} (h : a.tmps[t]? = some v) : a.put (some t) v = a := by
  cases a with
  | mk tmps defers =>
    simp only [Act.put]
    congr 1
    apply Array.ext_getElem?
    intro i
    rw [Array.getElem?_setIfInBounds]
    split
    · rename_i hin
      subst hin
      split
      · exact h.symm
      · rename_i hlt
        rw [Array.getElem?_eq_none (by omega)]
    · rfl

theorem setB_inv (h : Inv B C w a st) {t : Tmp} {b : Bool} (ht : a.tmps[t]? = some (.bool b)) : Inv B C w a (setB st t b) := by
  unfold setB
  split
  · have := h.set (n := t) (sv := pB b) (v := .bool b) rfl (fun k hk => by cases hk)
    rwa [put_same ht] at this
  · exact h

/-- What a guard says of the machine. -/
theorem guardK_sound (h : Inv B C w a st) {ops : Array Oper} {o : Oper} {g : Nat} {want : Bool} (hg : o.guard = some (g, want)) {t : Tmp} (ht : guardS ops g = some t) {yes no : Option R} (he : guardK (st.get t) want yes no = some r) :
    (Region.wanted o (yielded ops a.tmps) = true ∧ Inv B C w a (setB st t want) ∧ yes = some r) ∨ (Region.wanted o (yielded ops a.tmps) = false ∧ Inv B C w a (setB st t (!want)) ∧ no = some r) := by
  have hy : yielded ops a.tmps g = match a.tmps[t]? with | some (.bool b) => some b | _ => none := by
    unfold yielded
    rw [show (ops[g]?).bind (·.dst) = some t from ht]
    rfl
  unfold guardK at he
  split at he
  · rename_i b hb
    have hs := rel_slot_bool h hb
    rw [hs] at hy
    cases hbw : b == want with
    | true =>
      rw [hbw] at he
      have : b = want := by simpa using hbw
      subst this
      exact .inl ⟨by simp [Region.wanted, hg, hy], setB_inv h hs, he⟩
    | false =>
      rw [hbw] at he
      have : b = !want := by cases b <;> cases want <;> simp_all
      subst this
      exact .inr ⟨by cases want <;> simp [Region.wanted, hg, hy], setB_inv h hs, he⟩
  · rename_i hb
    have hs := h.slots t
    rw [hb] at hs
    have hs : a.tmps.getD t undef = .tuple ⟨[]⟩ := by simpa [RelSV, RelV1, RelAtom] using hs
    refine .inr ⟨?_, ?_, he⟩
    · have : yielded ops a.tmps g = none := by
        rw [hy]
        rw [Array.getD_eq_getD_getElem?] at hs
        cases hta : a.tmps[t]? with
        | none => rfl
        | some v => rw [hta] at hs; simp only [Option.getD_some] at hs; subst hs; rfl
      simp [Region.wanted, hg, this]
    · have : setB st t (!want) = st := by unfold setB; rw [hb]
      rw [this]; exact h
  · cases he

theorem runOp_sound (hE : E.Ok B.P) (hS : S.Ok B.P) (h : Inv B C w a st) {ops : Array Oper} {o : Oper} {K : St → Option R} {KP : Value → St → Option R} {next : Act → World → Prop} {Q : Exit → Act → World → Prop}
    (he : runOp E S ops o st K KP = some r) (c : Owes B a w r false K KP next Q) :
    if Region.wanted o (yielded ops a.tmps) then o.wp B.P a w next Q else next (a.put o.dst undef) w := by
  have c' : ∀ q, Owes B a w r q K KP next Q := fun q => ⟨fun C' w' a' st' i k _ => c.go C' w' a' st' i k (fun h => by cases h), c.panic⟩
  unfold runOp at he
  split at he
  · rename_i hg
    rw [if_pos (by simp [Region.wanted, hg])]
    exact execO_sound hE hS h he (c' _)
  · rename_i g want hg
    split at he
    · cases he
    rename_i t ht
    rcases guardK_sound h hg ht he with ⟨h1, h2, h3⟩ | ⟨h1, h2, h3⟩
    · rw [if_pos h1]
      exact execO_sound hE hS h2 h3 (c' _)
    · rw [if_neg (by rw [h1]; simp)]
      exact c.go _ _ _ _ (h2.putD (sv := uA) rfl (fun k hk => by cases hk)) h3 (fun h => by cases h)

theorem runOps_sound (hE : E.Ok B.P) (hS : S.Ok B.P) {ops : Array Oper} {K : St → Option R} {KP : Value → St → Option R} {Q : Exit → Act → World → Prop}
    (hK : ∀ C w a st, Inv B C w a st → K st = some r → Q .normal a w) (hP : ∀ v C w a st, Inv B C w a st → KP v st = some r → Q (.panic [{ v, recovered := false }]) a w) :
    ∀ (l : List Oper) {C : Ctx} {w : World} {a : Act} {st : St}, Inv B C w a st → runOps E S ops K KP l st = some r → wpList B.P ops Q l a w
  | [], C, w, a, st, h, he => hK _ _ _ _ h he
  | o :: rest, C, w, a, st, h, he => by
    unfold wpList
    have := runOp_sound hE hS h he (next := wpList B.P ops Q rest) (Q := Q) ⟨fun C' w' a' st' i k _ => runOps_sound hE hS hK hP rest i k, fun v C' w' st' i k => hP _ _ _ _ _ i k⟩
    split
    · rename_i hw; rw [if_pos hw] at this; exact .inl this
    · rename_i hw; rw [if_neg hw] at this; exact this

theorem Post.then {K : Ex → St → Option R} {next : St → Option R} {N : Act → World → Prop} (hn : ∀ C w a st, Inv B C w a st → next st = some r → N a w) :
    ∀ e a w, Post B (thenK K next) r e a w → Exit.then N (Post B K r) e a w := by
  rintro e a w ⟨x, C, st, hx, hi, hk⟩
  cases hx with
  | normal => exact hn _ _ _ _ hi hk
  | exit id => exact ⟨_, C, st, .exit id, hi, hk⟩
  | ret => exact ⟨_, C, st, .ret, hi, hk⟩
  | panic v => exact ⟨_, C, st, .panic v, hi, hk⟩

theorem Post.block {K : Ex → St → Option R} {id : Nat} : ∀ e a w, Post B (blockK K id) r e a w → Exit.inBlock id (Post B K r) e a w := by
  rintro e a w ⟨x, C, st, hx, hi, hk⟩
  cases hx with
  | normal => exact ⟨_, C, st, .normal, hi, hk⟩
  | exit id' =>
    simp only [blockK] at hk
    simp only [Exit.inBlock]
    split at hk
    · rename_i e; rw [if_pos e]; exact ⟨_, C, st, .normal, hi, hk⟩
    · rename_i e; rw [if_neg e]; exact ⟨_, C, st, .exit id', hi, hk⟩
  | ret => exact ⟨_, C, st, .ret, hi, hk⟩
  | panic v => exact ⟨_, C, st, .panic v, hi, hk⟩

theorem Post.noGoto {K : Ex → St → Option R} : ∀ e a w, Post B K r e a w → Exit.noGoto (Post B K r) e a w := by
  rintro e a w ⟨x, C, st, hx, hi, hk⟩
  cases hx <;> exact ⟨_, C, st, by constructor, hi, hk⟩

/-- What a walk of a region that draws its order owes. -/
def DrawOk (P : Program) (E : TEnv) (S : Sums) (rd : (R : Type) → Array Oper → St → (St → Option R) → (Value → St → Option R) → Option R) : Prop :=
  ∀ {R : Type} {B : Base} {C : Ctx} {w : World} {a : Act} {st : St} {id : Nat} {ops : Array Oper} {K : St → Option R} {KP : Value → St → Option R} {r : R} {Q : Exit → Act → World → Prop}, B.P = P →
    (∀ C w a st, Inv B C w a st → K st = some r → Q .normal a w) → (∀ v C w a st, Inv B C w a st → KP v st = some r → Q (.panic [{ v, recovered := false }]) a w) →
    Inv B C w a st → rd R ops st K KP = some r → (Code.region id ops true).wp P Q a w

variable {rd : (R : Type) → Array Oper → St → (St → Option R) → (Value → St → Option R) → Option R}

theorem cond_sound {R : Type} {r : R} (h : Inv B C w a st) {c : Operand} {x y : Code} {X Y : St → Option R} {Q : Exit → Act → World → Prop} (hx : X st = some r → x.wp B.P Q a w) (hy : Y st = some r → y.wp B.P Q a w)
    (he : (match evalS st c with | .v (.one (.pure .bool b)) => bif b then X st else Y st | _ => none) = some r) : (Code.cond c x y).wp B.P Q a w := by
  split at he
  · rename_i b hb
    have hc := (evalS_rel h c).1
    rw [hb] at hc
    have hc := rel_bool hc
    cases b with
    | true => exact wp_cond_true hc (hx he)
    | false => exact wp_cond_false hc (hy he)
  · cases he

theorem runL_sound (hE : E.Ok B.P) (hS : S.Ok B.P) (hD : DrawOk B.P E S rd) : ∀ (c : Code) {R : Type} {r : R} {K : Ex → St → Option R} {C : Ctx} {w : World} {a : Act} {st : St}, Inv B C w a st → runL E S rd c R K st = some r → c.wp B.P (Post B K r) a w := by
  intro c
  induction c with
  | skip => intro R r K C w a st h e; exact wp_skip ⟨_, C, st, .normal, h, e⟩
  | label l => intro R r K C w a st h e; exact wp_label ⟨_, C, st, .normal, h, e⟩
  | ret => intro R r K C w a st h e; exact wp_ret ⟨_, C, st, .ret, h, e⟩
  | exit id => intro R r K C w a st h e; exact wp_exit ⟨_, C, st, .exit id, h, e⟩
  | seq x y ihx ihy =>
    intro R r K C w a st h e
    exact wp_seq (Code.wp_mono (Post.then fun C w a st i k => ihy i k) (ihx h e))
  | region id ops draw =>
    intro R r K C w a st h e
    cases draw with
    | false => exact wp_region_list (runOps_sound hE hS (fun C w a st i k => ⟨_, C, st, .normal, i, k⟩) (fun v C w a st i k => ⟨_, C, st, .panic v, i, k⟩) _ h e)
    | true => exact hD rfl (fun C w a st i k => ⟨_, C, st, .normal, i, k⟩) (fun v C w a st i k => ⟨_, C, st, .panic v, i, k⟩) h e
  | cond c x y ihx ihy =>
    intro R r K C w a st h e
    exact cond_sound h (X := runL E S rd x R K) (Y := runL E S rd y R K) (ihx h) (ihy h) e
  | block id x ih =>
    intro R r K C w a st h e
    exact wp_block (Code.wp_mono Post.block (ih h e))
  | scope x ih =>
    intro R r K C w a st h e
    exact wp_scope_straight (Code.wp_mono Post.noGoto (ih h e))
  | loop | rangeFunc | goto | refuse => intro R r K C w a st h e; cases e

theorem Shape.fitN_sound {s : Shape} {len : Nat} {d : DL s.leafs} (h : Inv B C w a st) (hd : s.fitN len st = some d) : ∃ C', Inv B C' w a (s.to len d) := by
  unfold Shape.fitN at hd
  split at hd
  · rename_i hl; rw [← Nat.eq_of_beq_eq_true hl]; exact Shape.fit_sound h hd
  · cases hd

theorem loopN_sound {R : Type} {r : R} {s : Shape} {len : Nat} {x : Code} {body : (Ex → St → Option R) → St → Option R} {K : Ex → St → Option R}
    (hb : ∀ {K : Ex → St → Option R} {C : Ctx} {w : World} {a : Act} {st : St}, Inv B C w a st → body K st = some r → x.wp B.P (Post B K r) a w) :
    ∀ (n : Nat) {d : DL s.leafs} {C : Ctx} {w : World} {a : Act}, Inv B C w a (s.to len d) → loopN s len body K n d = some r → Code.rounds B.P x (Post B K r) n a w
  | 0, d, C, w, a, h, e => by cases e
  | n + 1, d, C, w, a, h, e => by
    rw [rounds_succ]
    refine Code.wp_mono (Post.then fun C w a st i k => ?_) (hb h e)
    split at k
    · rename_i d' hd
      obtain ⟨C', hi'⟩ := Shape.fitN_sound i hd
      exact loopN_sound hb n hi' k
    · cases k

theorem run_sound (hE : E.Ok B.P) (hS : S.Ok B.P) (hD : DrawOk B.P E S rd) {fuel len : Nat} : ∀ (an : Ann) (c : Code) {R : Type} {r : R} {K : Ex → St → Option R} {C : Ctx} {w : World} {a : Act} {st : St}, Inv B C w a st → run E S rd fuel len an c R K st = some r → c.wp B.P (Post B K r) a w := by
  intro an
  induction an with
  | leaf => intro c R r K C w a st h e; exact runL_sound hE hS hD c h (by cases c <;> exact e)
  | seq x y ihx ihy =>
    intro c R r K C w a st h e
    cases c with
    | seq p q => exact wp_seq (Code.wp_mono (Post.then fun C w a st i k => ihy q i k) (ihx p h e))
    | _ => cases e
  | cond x y ihx ihy =>
    intro c R r K C w a st h e
    cases c with
    | cond o p q => exact cond_sound h (X := run E S rd fuel len x p R K) (Y := run E S rd fuel len y q R K) (ihx p h) (ihy q h) e
    | _ => cases e
  | block x ih =>
    intro c R r K C w a st h e
    cases c with
    | block id p => exact wp_block (Code.wp_mono Post.block (ih p h e))
    | scope p => exact wp_scope_straight (Code.wp_mono Post.noGoto (ih p h e))
    | _ => cases e
  | join s x ih =>
    intro c R r K C w a st h e
    have e : afterJoin (run E S rd fuel len x c (DL s.leafs ⊕ R) (joinK s len K) st) (fun d => K .normal (s.to len d)) = some r := by cases c <;> exact e
    cases hr : run E S rd fuel len x c (DL s.leafs ⊕ R) (joinK s len K) st with
    | none => rw [hr] at e; cases e
    | some v =>
      rw [hr] at e
      refine Code.wp_mono ?_ (ih c h hr)
      rintro ex a w ⟨y, C, st, hx, hi, hk⟩
      cases v with
      | inl d =>
        cases hx with
        | normal =>
          simp only [joinK] at hk
          split at hk
          · rename_i d' hd
            cases hk
            obtain ⟨C', hi'⟩ := Shape.fitN_sound hi hd
            exact ⟨_, C', _, .normal, hi', e⟩
          · cases hk
        | exit id => obtain ⟨_, _, h2⟩ := bindO_some hk; cases h2
        | ret => obtain ⟨_, _, h2⟩ := bindO_some hk; cases h2
        | panic v => obtain ⟨_, _, h2⟩ := bindO_some hk; cases h2
      | inr r' =>
        have e : r' = r := by simpa [afterJoin] using e
        subst e
        cases hx with
        | normal => simp only [joinK] at hk; split at hk <;> cases hk
        | exit id =>
          obtain ⟨r1, h1, h2⟩ := bindO_some hk
          cases h2
          exact ⟨_, C, st, .exit id, hi, h1⟩
        | ret =>
          obtain ⟨r1, h1, h2⟩ := bindO_some hk
          cases h2
          exact ⟨_, C, st, .ret, hi, h1⟩
        | panic v =>
          obtain ⟨r1, h1, h2⟩ := bindO_some hk
          cases h2
          exact ⟨_, C, st, .panic v, hi, h1⟩
  | loop s x ih =>
    intro c R r K C w a st h e
    cases c with
    | loop p =>
      simp only [run] at e
      split at e
      · rename_i d hd
        obtain ⟨C', hi'⟩ := Shape.fitN_sound h hd
        exact wp_loop_rounds fuel (loopN_sound (fun {K C w a st} i k => ih p i k) fuel hi' e)
      · cases e
    | _ => cases e
end
end Go.AM

/- A function on data. -/
namespace Go.AM
open Go.RowKit

/-- Arguments as an abstract state holds them. -/
def argS : (t : Ty) → t.den → List SVal
  | .pair a b, x => .v (retV a x.1) :: argS b x.2
  | _, _ => []

def parts : Ty → Bool
  | .unit => true
  | .pair a b => isPart a && parts b
  | _ => false

def nArgs : Ty → Nat
  | .pair _ b => nArgs b + 1
  | _ => 0

def outOf (out : Ty) : List SVal → Option out.den
  | [s] => valOf out s
  | ss => valsOf out ss

def resS (st : St) : List ResultVar → Option (List SVal)
  | [] => some []
  | .tmp t :: rs => match resS st rs with | some ss => some (st.get t :: ss) | none => none
  | _ => none

def resData (out : Ty) (rs : List ResultVar) (st : St) : Option out.den :=
  match resS st rs with
  | none => none
  | some ss => match frzL (ss.flatMap SVal.toks) ss st with
    | some (ss', _) => outOf out ss'
    | none => none

def retK (out : Ty) (rs : List ResultVar) : Ex → St → Option out.den
  | .normal, st => resData out rs st
  | .ret, st => resData out rs st
  | _, _ => none

def numbered : Nat → List SVal → List (Nat × SVal)
  | _, [] => []
  | n, s :: ss => (n, s) :: numbered (n + 1) ss

theorem sget_numbered : ∀ (ss : List SVal) (n m : Nat), sget m (numbered n ss) = if n ≤ m then ss.getD (m - n) .undef else .undef
  | [], n, m => by simp [numbered, sget]
  | s :: ss, n, m => by
    simp only [numbered, sget]
    split
    · rename_i h
      have := Nat.eq_of_beq_eq_true h
      subst this
      simp
    · rename_i h
      have hne : n ≠ m := fun e => by subst e; simp at h
      rw [sget_numbered ss (n + 1) m]
      by_cases hle : n ≤ m
      · rw [if_pos (by omega), if_pos hle, show m - n = (m - (n + 1)) + 1 by omega]
        simp
      · rw [if_neg (by omega), if_neg hle]

def entry (ins : Ty) (len : Nat) (x : ins.den) : St := ⟨len, numbered 0 (argS ins x), []⟩

/-- What a function tells of data. -/
def funM (E : TEnv) (S : Sums) (rd : (R : Type) → Array Oper → St → (St → Option R) → (Value → St → Option R) → Option R) (an : Ann) (c : Code) (len : Nat) (rs : List ResultVar) (ins out : Ty) (fuel : Nat) (x : ins.den) : Option out.den :=
  run E S rd fuel len an c out.den (retK out rs) (entry ins len x)

section
variable {P : Program} {C : Ctx} {w : World}

theorem argS_rel : ∀ {t : Ty} {x : t.den} {vs : List Value}, parts t = true → (rels P t).vals C.I w x vs → RelSVs P C w (argS t x) vs ∧ vs.length = nArgs t ∧ (argS t x).length = nArgs t ∧ ∀ s ∈ argS t x, s.toks = [] := by
  intro t
  induction t with
  | unit => intro x vs _ h; obtain rfl : vs = [] := h; exact ⟨rfl, rfl, rfl, fun s hs => by cases hs⟩
  | pair a b iha ihb =>
    intro x vs hp h
    simp only [parts, Bool.and_eq_true] at hp
    obtain ⟨v1, vs2, e1, h1, h2⟩ := h
    obtain ⟨h3, h4, h5, h6⟩ := ihb hp.2 h2
    subst e1
    refine ⟨⟨v1, vs2, rfl, retV_rel rfl hp.1 h1, h3⟩, by simp [nArgs, h4], by simp [argS, nArgs, h5], fun s hs => ?_⟩
    rcases List.mem_cons.1 hs with e | hs
    · subst e; exact retV_toks a x.1
    · exact h6 s hs
  | int | bool | str | list | arr | agg | fn | opt | sum => intro x vs hp; cases hp

theorem RelSVs.get : ∀ {ss : List SVal} {vs : List Value}, RelSVs P C w ss vs → ∀ n, RelSV P C w (ss.getD n .undef) (vs.getD n undef)
  | [], vs, h, n => by simp [RelSV]
  | s :: ss, _, ⟨v, rest, e, h1, h2⟩, n => by
    subst e
    cases n with
    | zero => exact h1
    | succ n => simpa using RelSVs.get h2 n

theorem outOf_rel {out : Ty} {ss : List SVal} {vs : List Value} {x : out.den} (h : RelSVs P C w ss vs) (e : outOf out ss = some x) : (rels P out).val C.I w x (if h : vs.toArray.size = 1 then vs.toArray[0] else .tuple vs.toArray) := by
  cases ss with
  | nil =>
    have hv := valsOf_rel h e
    obtain rfl : vs = [] := h
    rw [dif_neg (by simp)]
    cases out with
    | unit => rfl
    | _ => cases e
  | cons s ss =>
    cases ss with
    | nil =>
      obtain ⟨v, rest, e1, h1, h2⟩ := h
      obtain rfl : rest = [] := h2
      subst e1
      simpa using valOf_rel h1 e
    | cons s2 ss =>
      have hv := valsOf_rel h e
      obtain ⟨v, rest, e1, h1, v2, rest2, e2, _⟩ := h
      subst e1
      subst e2
      rw [dif_neg (by simp)]
      cases out with
      | pair a b => obtain ⟨v1, vs2, e1, h1, h2⟩ := hv; exact ⟨_, rfl, v1, vs2, e1, h1, h2⟩
      | _ => cases e
end

def resVar (tmps : Array Value) : ResultVar → Sem Value
  | .tmp t => pure (tmps.getD t undef)
  | .cell a t => do loadVar t (← asAddr (tmps.getD a undef))

theorem results_eq (fn : Func) (tmps : Array Value) : results fn tmps = (do let vs ← fn.results.mapM (resVar tmps); pure (if h : vs.size = 1 then vs[0] else .tuple vs)) := by
  unfold results
  congr 1

section
variable {B : Base} {C : Ctx} {w : World} {a : Act} {st : St}

theorem resS_rel (h : Inv B C w a st) : ∀ {rs : List ResultVar} {ss : List SVal}, resS st rs = some ss → ∃ vs, RelSVs B.P C w ss vs ∧ (rs.mapM (resVar a.tmps)).run B.P w = .ok vs w
  | [], ss, e => by cases e; exact ⟨[], rfl, rfl⟩
  | .tmp t :: rs, ss, e => by
    simp only [resS] at e
    split at e
    · rename_i ss' h'
      cases e
      obtain ⟨vs, h1, h2⟩ := resS_rel h h'
      refine ⟨a.tmps.getD t undef :: vs, ⟨_, _, rfl, h.slots t, h1⟩, ?_⟩
      simp only [List.mapM_cons, resVar, pure_bind, Sem.run_bind, h2, Result.andThen_ok]
      rfl
    · cases e
  | .cell _ _ :: rs, ss, e => by cases e

theorem resData_sound (h : Inv B C w a st) {fn : Func} {out : Ty} {y : out.den} (e : resData out fn.results.toList st = some y) : ∃ C' v st', Inv B C' w a st' ∧ (results fn a.tmps).run B.P w = .ok v w ∧ (rels B.P out).val C'.I w y v := by
  unfold resData at e
  split at e
  · cases e
  rename_i ss hs
  split at e
  · rename_i ss' st' hz
    obtain ⟨vs, h1, h2⟩ := resS_rel h hs
    obtain ⟨C', h3, h4, _⟩ := frzL_sound h h1 hz
    refine ⟨C', _, st', h3, ?_, outOf_rel h4 e⟩
    rw [results_eq, Array.mapM_eq_mapM_toList, Sem.run_bind]
    simp only [map_eq_pure_bind, Sem.run_bind, h2, Result.andThen_ok, Sem.run_pure]
  · cases e

theorem funM_ok {P : Program} {g : FuncId} {fn : Func} {c : Code} {E : TEnv} {S : Sums} {rd : (R : Type) → Array Oper → St → (St → Option R) → (Value → St → Option R) → Option R} {an : Ann} {ins out : Ty} {fuel : Nat}
    (hE : E.Ok P) (hS : S.Ok P) (hD : DrawOk P E S rd) (hen : Enters P g) (hf : P.funcs[g]? = some fn) (hb : fn.body = some c) (hp : parts ins = true) (hn : nArgs ins ≤ fn.ntmps) :
    PureOk P g ins out (funM E S rd an c fn.ntmps fn.results.toList ins out fuel) := by
  refine ⟨hen, fun w I x vs hI hx y hy => ?_⟩
  let B : Base := { P := P, w0 := w, I0 := I, F0 := fun _ => False, ρ0 := fun _ => undef, around0 := fun _ => ([], []), fix := [] }
  let C : Ctx := { I := I, ρ := fun _ => undef, around := fun _ => ([], []) }
  obtain ⟨h1, h2, h3, h4⟩ := argS_rel (P := P) (C := C) (w := w) hp hx
  refine calls_of_wp hf hb (Code.wp_mono ?_ (run_sound (B := B) (C := C) hE hS hD an c (st := entry ins fn.ntmps x) (r := y) (K := retK out fn.results.toList) ?_ hy))
  · rintro e a w' ⟨ex, C', st', hx', hi, hk⟩
    have fin : resData out fn.results.toList st' = some y → a.defers = [] ∧ ∃ v, (results fn a.tmps).run P w' = .ok v w' ∧ RetR (rels P out).val I w y (.returned v) w' := by
      intro hr
      obtain ⟨C2, v, st2, i2, r2, r3⟩ := resData_sound hi hr
      refine ⟨hi.defers, v, r2, v, rfl, i2.heap.evo.below (fun _ _ h => h), C2.I, i2.heap.imm0, fun b hb => ?_, i2.heap.imm, r3⟩
      rcases i2.heap.immNew b hb with h | h | h
      · exact .inl h
      · exact .inr h
      · exact h.elim
    cases hx' with
    | normal => exact fin hk
    | ret => exact fin hk
    | exit id => cases hk
    | panic v => cases hk
  · have hg : ∀ n, (entry ins fn.ntmps x).get n = (argS ins x).getD n .undef := fun n => by
      show sget n (numbered 0 (argS ins x)) = _
      rw [sget_numbered, if_pos (Nat.zero_le _), Nat.sub_zero]
    refine ⟨by simp [entry, h2]; omega, rfl, fun n => ?_, fun n k hk => ?_, ?_⟩
    · rw [hg]
      have := RelSVs.get h1 n
      rcases Nat.lt_or_ge n (nArgs ins) with hlt | hge
      · simp only [Array.getD_eq_getD_getElem?] at this ⊢
        rw [Array.getElem?_append_left (by simp; omega)]
        simpa using this
      · rw [List.getD_eq_getElem?_getD, List.getElem?_eq_none (by omega)]
        trivial
    · rw [hg] at hk
      exfalso
      rcases Nat.lt_or_ge n (argS ins x).length with hlt | hge
      · rw [List.getD_eq_getElem?_getD, List.getElem?_eq_getElem hlt] at hk
        simp only [Option.getD_some] at hk
        rw [h4 _ (List.getElem_mem hlt)] at hk
        cases hk
      · rw [List.getD_eq_getElem?_getD, List.getElem?_eq_none hge] at hk
        cases hk
    · refine ⟨fun k b hm => (by cases hm), fun k b hm => (by cases hm), List.nodup_nil, fun k b _ _ hm => (by cases hm), fun k b hm => (by cases hm), hI, fun b h => h, fun b h => .inl h, Evo.refl _ _, fun k hk => (by cases hk), fun k hk => (by cases hk)⟩
end
end Go.AM
