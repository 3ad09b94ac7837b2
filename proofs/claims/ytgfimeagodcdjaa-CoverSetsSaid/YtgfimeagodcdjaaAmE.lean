/- Orders that are left open, closures as data, and a function's contract out of a walk of its text. Its conditions stand at each theorem. -/
import Derived.Test.YtgfimeagodcdjaaAmD
import Derived.KernelRfl
set_option linter.unusedSimpArgs false
set_option linter.unusedVariables false
set_option linter.unusedSectionVars false
/- Regions that draw their order. -/
namespace Go.AM
open Go.RowKit

/-- Nothing is told of the slots. -/
def St.strip (st : St) : St := ⟨st.len, [], st.heap⟩

def isT : Op → Bool
  | .alloc _ | .box .. | .buildSlice .. | .makeSlice .. | .store .. | .panic _ => false
  | .call { callee := .builtin .append, .. } => false
  | .call { callee := .value _, .. } => false
  | _ => true

/-- Is it to leave all blocks as they are that were there? (A call of a value is asked when it comes up.) -/
def isQ (S : Sums) : Op → Bool
  | .store .. | .panic _ => false
  | .call { callee := .builtin .append, .. } => false
  | .call { callee := .value (.func g), .. } => match S g with | some s => s.quiet | none => false
  | _ => true

def bindsOn (o : Oper) : List Nat := (o.after.toList.filter (Region.binds .any)).map (·.on)

@[reducible] def Ent := Nat × List Nat × Oper

def ents : Nat → List Oper → List Ent
  | _, [] => []
  | i, o :: os => (i, bindsOn o, o) :: ents (i + 1) os

/-- All that an operation waits for, and these, and so on. -/
def backs (ops : List Oper) (o : Oper) (j : Nat) : List Nat :=
  (List.range j).foldr (fun k L => L) (((ops.take j).zipIdx.reverse).foldl (fun L p => if L.elem p.2 then bindsOn p.1 ++ L else L) (bindsOn o))

def nots (S : Sums) (ops : List Oper) : List (Nat × List Nat) :=
  (ops.zipIdx.filter fun p => !isQ S p.1.op).map fun p => (p.2, backs ops p.1 p.2)

def hasN (d : Nat) : List Nat → Bool
  | [] => false
  | e :: r => match Nat.beq e d with | true => true | false => hasN d r
def dstApart (d : Option Tmp) (looks : List Nat) (e : Option Tmp) : Bool :=
  match d with
  | none => true
  | some d => match hasN d looks with
    | true => false
    | false => match e with
      | none => true
      | some e => match Nat.beq e d with | true => false | false => true
def tmpsOf : List Operand → List Nat
  | [] => []
  | .tmp t :: r => t :: tmpsOf r
  | _ :: r => tmpsOf r
/-- What an operation looks at, told with less ado. -/
def looksN (ops : Array Oper) (o : Oper) : List Nat :=
  match o.guard with
  | none => tmpsOf o.op.operands.toList
  | some (g, _) => match (ops[g]?).bind (·.dst) with
    | some t => t :: tmpsOf o.op.operands.toList
    | none => tmpsOf o.op.operands.toList
def apartN (ops : Array Oper) (x y : Oper) : Bool :=
  match dstApart x.dst (looksN ops y) y.dst with
  | false => false
  | true => match y.dst with
    | none => true
    | some d => match hasN d (looksN ops x) with | true => false | false => true

theorem hasN_iff {d : Nat} : ∀ {l : List Nat}, hasN d l = true ↔ d ∈ l
  | [] => by simp [hasN]
  | e :: r => by
    unfold hasN
    split
    · rename_i h; have := Nat.eq_of_beq_eq_true h; subst this; simp
    · rename_i h
      rw [hasN_iff]
      have : ¬ d = e := fun he => by subst he; simp at h
      simp [this]

theorem tmpsOf_eq : ∀ l : List Operand, tmpsOf l = l.filterMap fun | .tmp t => some t | _ => none
  | [] => rfl
  | x :: r => by cases x <;> simp [tmpsOf, tmpsOf_eq r]

theorem looksN_mem {ops : Array Oper} {o : Oper} {d : Nat} : d ∈ looksN ops o ↔ d ∈ o.looksAt ops := by
  unfold looksN Oper.looksAt
  rw [tmpsOf_eq]
  cases hg : o.guard with
  | none => simp; exact Iff.rfl
  | some g =>
    obtain ⟨g, b⟩ := g
    simp only
    cases (ops[g]?).bind (·.dst) with
    | none => simp; exact Iff.rfl
    | some t => simp [or_comm]; exact Iff.rfl

theorem apartN_spec {ops : Array Oper} {x y : Oper} (h : apartN ops x y = true) : x.apart ops y = true := by
  unfold apartN at h
  split at h
  · cases h
  rename_i h1
  have k1 : ∀ {d : Nat} {l : List Nat}, hasN d l = false → d ∉ l := fun hf hm => by rw [hasN_iff.2 hm] at hf; cases hf
  unfold Oper.apart
  rw [Bool.and_eq_true]
  constructor
  · unfold dstApart at h1
    split at h1
    · rename_i hd; rw [hd]
    · rename_i d hd
      rw [hd]
      split at h1
      · cases h1
      rename_i hh
      have := k1 hh
      rw [looksN_mem] at this
      split at h1
      · rename_i he; rw [he]; simp [this]
      · rename_i e he
        rw [he]
        split at h1
        · cases h1
        · rename_i hb
          have : ¬ e = d := fun hx => by subst hx; simp at hb
          simp [*]
  · split at h
    · rename_i hd; rw [hd]
    · rename_i d hd
      rw [hd]
      split at h
      · cases h
      · rename_i hh
        have := k1 hh
        rw [looksN_mem] at this
        simp [this]

def okStill (ops : Array Oper) (nq : List (Nat × List Nat)) (rem : List Ent) (i : Nat) (o : Oper) : Bool :=
  isT o.op && (rem.all fun x => Nat.beq x.1 i || hasN i x.2.1 || apartN ops o x.2.2) && (!readsMem o.op || nq.all fun x => hasN i x.2)

def takeOp (i : Nat) (rem : List Ent) : List Ent := (rem.filter fun x => !Nat.beq x.1 i).map fun x => (x.1, x.2.1.filter fun e => !Nat.beq e i, x.2.2)

/-- In which order to walk: one order, or every one (each of them tells the same). -/
inductive PT where
  | done | op (i : Nat) (t : PT) | fork (i : Nat) (t u : PT)

def forkL (f : Ent → Option PT) : List Ent → Option PT
  | [] => none
  | x :: r => match r with
    | [] => match f x with | some t => some (.op x.1 t) | none => none
    | _ => match f x with
      | none => none
      | some t => match forkL f r with
        | none => none
        | some u => some (.fork x.1 t u)

def planStep (f : Ent → Option PT) (ops : Array Oper) (nq : List (Nat × List Nat)) (rem rs : List Ent) : Option PT :=
  match rs.find? fun x => okStill ops nq rem x.1 x.2.2 with
  | some x => match f x with
    | some t => some (.op x.1 t)
    | none => none
  | none => forkL f rs

def plan (ops : Array Oper) : Nat → List (Nat × List Nat) → List Ent → Option PT
  | 0, _, rem => match rem with | [] => some .done | _ => none
  | n + 1, nq, rem => match rem with
    | [] => some .done
    | x :: r => planStep (fun x => plan ops n (nq.filter fun y => !Nat.beq y.1 x.1) (takeOp x.1 rem)) ops nq (x :: r) ((x :: r).filter fun x => x.2.1.isEmpty)

/-- What both tell. -/
noncomputable def both {R : Type} (x y : Option R) : Option R := open Classical in if x = y then x else none

theorem both_some {R : Type} {x y : Option R} {r : R} (h : both x y = some r) : x = some r ∧ y = some r := by
  unfold both at h
  split at h
  · rename_i e; exact ⟨h, e ▸ h⟩
  · cases h
theorem both_self {R : Type} (x : Option R) : both x x = x := if_pos rfl

def runStep {R : Type} (E : TEnv) (S : Sums) (ops : Array Oper) (i : Nat) (next : St → Option R) (KP : Value → St → Option R) (st : St) : Option R :=
  match ops[i]? with
  | none => none
  | some o => match isQ S o.op && !quietO S o st with
    | true => none
    | false => runOp E S ops o st next (fun v st => KP v st.strip)

noncomputable def runPlan {R : Type} (E : TEnv) (S : Sums) (ops : Array Oper) (K : St → Option R) (KP : Value → St → Option R) : PT → St → Option R
  | .done, st => K st
  | .op i t, st => runStep E S ops i (runPlan E S ops K KP t) KP st
  | .fork i t u, st => both (runStep E S ops i (runPlan E S ops K KP t) KP st) (runPlan E S ops K KP u st)

noncomputable def runDraw (E : TEnv) (S : Sums) (R : Type) (ops : Array Oper) (st : St) (K : St → Option R) (KP : Value → St → Option R) : Option R :=
  if Region.noSelect ops = true then
    match plan ops ops.size (nots S ops.toList) (ents 0 ops.toList) with
    | some l => runPlan E S ops K KP l st
    | none => none
  else none

/-! What it says -/

section
variable {rd : Bool} {P : Program} {ops : Array Oper} {Q : Exit → Act → World → Prop}

/-- Whatever order is drawn: wpAny, with what the quiet ones leave as it is. -/
def wpAnyX (P : Program) (ops : Array Oper) (q : Nat → Bool) (Q : Exit → Act → World → Prop) : Nat → Array Bool → Act → World → Prop
  | 0, listed, a, w => Region.ready .any ops listed = [] ∧ Q .normal a w
  | f + 1, listed, a, w => (Region.ready .any ops listed = [] → Q .normal a w) ∧
    ∀ i ∈ Region.ready .any ops listed, wpOp P ops Q i (fun a' w' => (q i = true → Below w.heap.size w w') ∧ wpAnyX P ops q Q f (listed.setIfInBounds i true) a' w') a w

theorem wpAny_of_X {q : Nat → Bool} : ∀ (f : Nat) (listed : Array Bool) (a : Act) (w : World), wpAnyX P ops q Q f listed a w → wpAny P .any ops Q f listed a w
  | 0, _, _, _, h => h
  | f + 1, _, _, _, h => ⟨h.1, fun i hi => wpOp_mono (fun a w h => wpAny_of_X f _ a w h.2) (h.2 i hi)⟩

/-- The value that an operation has in this world and in all later ones. -/
def YieldsX (rd : Bool) (P : Program) (ops : Array Oper) (o : Oper) (v : Value) (a : Act) (w : World) : Prop :=
  (Region.wanted o (yielded ops a.tmps) = true ∧ ∀ w', (rd = true → Below w.heap.size w w') → (execOp a.eval o).run P w' = .ok (.value v) w') ∨
  (Region.wanted o (yielded ops a.tmps) = false ∧ v = undef)

theorem YieldsX.later {o : Oper} {v : Value} {a : Act} {w w' : World} (h : YieldsX rd P ops o v a w) (hb : rd = true → Below w.heap.size w w') : YieldsX rd P ops o v a w' := by
  rcases h with ⟨h1, h2⟩ | h
  · exact .inl ⟨h1, fun w'' hb' => h2 w'' (fun e => (hb e).trans ((hb' e).mono (hb e).size))⟩
  · exact .inr h

theorem YieldsX.wpOp {i : Nat} {o : Oper} {v : Value} {a : Act} {w : World} (hi : ops[i]? = some o) (hy : YieldsX rd P ops o v a w) {K : Act → World → Prop} (h : K (a.put o.dst v) w) : wpOp P ops Q i K a w := by
  unfold Go.wpOp
  simp only [hi]
  rcases hy with ⟨hw, hv⟩ | ⟨hw, rfl⟩
  · simp only [hw, if_true, Oper.wp, hv w (fun _ => Below.refl _ _), Oper.upon]; exact .inl h
  · simp only [hw, Bool.false_eq_true, if_false]; exact h

theorem YieldsX.of_same {o : Oper} {v : Value} {a a' : Act} {w : World} (hy : YieldsX rd P ops o v a w) (he : execOp a'.eval o = execOp a.eval o)
    (hw : Region.wanted o (yielded ops a'.tmps) = Region.wanted o (yielded ops a.tmps)) : YieldsX rd P ops o v a' w := by
  unfold YieldsX at *
  rw [he, hw]
  exact hy

theorem wpOp_putX {j : Nat} {oi oj : Oper} {v : Value} (hj : ops[j]? = some oj) (hap : oi.apart ops oj = true)
    (hsi : ∀ cs b, oi.op ≠ .select cs b) (hsj : ∀ cs b, oj.op ≠ .select cs b)
    (hQ : ∀ c a w, Q (.panic c) (a.put oi.dst v) w → Q (.panic c) a w) {K : Act → World → Prop} {a : Act} {w : World}
    (hy : YieldsX rd P ops oi v a w) (hK : ∀ a w', K a w' → rd = true → Below w.heap.size w w') (h : wpOp P ops Q j K (a.put oi.dst v) w) :
    wpOp P ops Q j (fun a' w' => YieldsX rd P ops oi v a' w' ∧ K (a'.put oi.dst v) w') a w := by
  obtain ⟨h1, h2, h3⟩ := Oper.apart_spec hap
  have keep : ∀ (a : Act) (w : World), YieldsX rd P ops oi v a w → ∀ u, YieldsX rd P ops oi v (a.put oj.dst u) w := fun a w hy u =>
    hy.of_same (execOp_put oi hsi a oj.dst u h3) (wanted_put oi a oj.dst u h3)
  have keepD : ∀ w' d, YieldsX rd P ops oi v a w' → YieldsX rd P ops oi v { a with defers := d :: a.defers } w' := fun w' d hy => hy.of_same rfl rfl
  unfold Go.wpOp at *
  simp only [hj] at *
  rw [wanted_put oj a oi.dst v h1] at h
  split
  · rename_i hw
    simp only [hw, if_true] at h
    rcases h with h | ⟨hasks, hlets⟩
    case inr => exact .inr ⟨by unfold Oper.asks at *; rw [execOp_put oj hsj a oi.dst v h1] at hasks; exact hasks, hlets⟩
    refine .inl ?_
    unfold Oper.wp at *
    rw [execOp_put oj hsj a oi.dst v h1] at h
    generalize (execOp a.eval oj).run P w = r at *
    cases r with
    | ok n w' =>
      cases n <;> simp only [Oper.upon] at h ⊢
      case value u => exact ⟨keep a w' (hy.later (hK _ _ h)) u, by rw [← Act.put_comm a v u h2]; exact h⟩
      case skip => exact ⟨keep a w' (hy.later (hK _ _ h)) _, by rw [← Act.put_comm a v undef h2]; exact h⟩
      case defer d =>
        refine ⟨keep _ w' (keepD w' d (hy.later (hK _ _ h))) _, ?_⟩
        rw [← Act.put_comm _ v undef h2, ← Act.put_defers]
        exact h
      case enter f args =>
        refine Calls.mono h fun e w'' he => ?_
        cases e with
        | returned u => exact ⟨keep a w'' (hy.later (hK _ _ he)) u, by rw [← Act.put_comm a v u h2]; exact he⟩
        | panicked c => exact hQ _ _ _ he
        | outgrown => exact he
      case row row args => exact Rows.mono h fun u w'' he => ⟨keep a w'' (hy.later (hK _ _ he)) u, by rw [← Act.put_comm a v u h2]; exact he⟩
    | halt x w' =>
      cases x <;> simp only [Oper.upon] at h ⊢
      case panic u => exact hQ _ _ _ h
  · rename_i hw
    simp only [hw] at h
    exact ⟨keep a w hy _, by rw [← Act.put_comm a v undef h2]; exact h⟩

/-- What is listed waits for nothing that is not. -/
def ClosedL (ops : Array Oper) (listed : Array Bool) : Prop := listed.size = ops.size ∧ ∀ (j : Nat) (o : Oper), ops[j]? = some o → listed.getD j false = true → ∀ e ∈ bindsOn o, listed.getD e false = true

theorem mem_bindsOn {o : Oper} {i : Nat} : i ∈ bindsOn o ↔ ∃ e ∈ o.after, Region.binds .any e = true ∧ e.on = i := by
  unfold bindsOn
  simp only [List.mem_map, List.mem_filter, Array.mem_toList_iff]
  constructor
  · rintro ⟨e, ⟨h1, h2⟩, h3⟩; exact ⟨e, h1, h2, h3⟩
  · rintro ⟨e, h1, h2, h3⟩; exact ⟨e, ⟨h1, h2⟩, h3⟩

theorem ready_iff {listed : Array Bool} {j : Nat} : j ∈ Region.ready .any ops listed ↔ listed.getD j true = false ∧ ∃ o, ops[j]? = some o ∧ ∀ e ∈ bindsOn o, listed.getD e false = true := by
  rw [mem_ready]
  constructor
  · rintro ⟨h1, o, h2, h3⟩
    exact ⟨h1, o, h2, fun e he => by obtain ⟨x, hx, hb, rfl⟩ := mem_bindsOn.1 he; exact h3 x hx hb⟩
  · rintro ⟨h1, o, h2, h3⟩
    exact ⟨h1, o, h2, fun e he hb => h3 _ (mem_bindsOn.2 ⟨e, he, hb, rfl⟩)⟩

theorem ClosedL.set {listed : Array Bool} {i : Nat} (h : ClosedL ops listed) (hi : i ∈ Region.ready .any ops listed) : ClosedL ops (listed.setIfInBounds i true) := by
  obtain ⟨_, oi, hoi, hall⟩ := ready_iff.1 hi
  refine ⟨by simp [h.1], fun j o hj hl e he => ?_⟩
  by_cases hij : i = j
  · subst hij
    rw [hoi] at hj
    cases hj
    exact getD_set_true (hall e he)
  · rw [getD_set_ne false hij] at hl
    exact getD_set_true (h.2 j o hj hl e he)

theorem wpAnyX_first {rd : Bool} {q : Nat → Bool} {i : Nat} {oi : Oper} {v : Value} (hi : ops[i]? = some oi) (hsel : ∀ (j : Nat) (o : Oper) cs b, ops[j]? = some o → o.op ≠ .select cs b)
    (hQ : ∀ c a w, Q (.panic c) (a.put oi.dst v) w → Q (.panic c) a w) :
    ∀ (fuel : Nat) (listed : Array Bool) (a : Act) (w : World), ClosedL ops listed →
      (∀ j oj, ops[j]? = some oj → j ≠ i → listed.getD j true = false → i ∉ bindsOn oj → oi.apart ops oj = true) →
      (rd = true → ∀ listed', ClosedL ops listed' → listed'.getD i true = false → (∀ k, listed.getD k true = true → listed'.getD k true = true) → ∀ j ∈ Region.ready .any ops listed', j ≠ i → q j = true) →
      i ∈ Region.ready .any ops listed → YieldsX rd P ops oi v a w →
      wpAnyX P ops q Q fuel (listed.setIfInBounds i true) (a.put oi.dst v) w → wpAnyX P ops q Q (fuel + 1) listed a w := by
  intro fuel
  induction fuel with
  | zero =>
    intro listed a w _ _ _ hr hy H
    refine ⟨fun h => (by rw [h] at hr; cases hr), fun j hj => ?_⟩
    by_cases hji : j = i
    · subst hji; exact hy.wpOp hi ⟨fun _ => Below.refl _ _, H⟩
    · have := ready_mono hj hji
      rw [H.1] at this
      cases this
  | succ fuel ih =>
    intro listed a w hcl hfree hquiet hr hy H
    refine ⟨fun h => (by rw [h] at hr; cases hr), fun j hj => ?_⟩
    by_cases hji : j = i
    · subst hji; exact hy.wpOp hi ⟨fun _ => Below.refl _ _, H⟩
    · have h1 := H.2 j (ready_mono hj hji)
      obtain ⟨hjun, oj, hoj, hall⟩ := ready_iff.1 hj
      have hiun := (ready_iff.1 hr).1
      have hnot : i ∉ bindsOn oj := fun hm => by
        have h1 := hall i hm
        rw [getD_both hiun] at h1
        cases h1
      have h2 := wpOp_putX hoj (hfree j oj hoj hji hjun hnot) (fun cs b => hsel i oi cs b hi) (fun cs b => hsel j oj cs b hoj) hQ hy (fun a w' h e => h.1 (hquiet e listed hcl hiun (fun _ h => h) j hj hji)) h1
      have hfree' : ∀ k ok, ops[k]? = some ok → k ≠ i → (listed.setIfInBounds j true).getD k true = false → i ∉ bindsOn ok → oi.apart ops ok = true := fun k ok hk hki hun hno => by
        refine hfree k ok hk hki ?_ hno
        by_cases hjk : j = k
        · subst hjk; exact hjun
        · rw [getD_set_ne true hjk] at hun; exact hun
      refine wpOp_mono (fun a' w' h3 => ⟨h3.2.1, ih (listed.setIfInBounds j true) a' w' (hcl.set hj) hfree' (fun e l' c' hi' hsub => hquiet e l' c' hi' (fun k hk => hsub k ?_)) (ready_mono hr (Ne.symm hji)) h3.1 ?_⟩) h2
      · by_cases hjk : j = k
        · subst hjk
          rcases Nat.lt_or_ge j listed.size with h' | h'
          · simp [h']
          · simp [Array.getElem?_eq_none, h']
        · rw [getD_set_ne true hjk]; exact hk
      · rw [Array.setIfInBounds_comm _ _ hji]
        exact h3.2.2
end
end Go.AM

/- Regions that draw their order: the plan serves every order. -/
namespace Go.AM
open Go.RowKit

structure RemOk (ops : Array Oper) (listed : Array Bool) (rem : List Ent) : Prop where
  ent : ∀ x ∈ rem, ops[x.1]? = some x.2.2 ∧ listed.getD x.1 true = false ∧ (∀ e ∈ x.2.1, e ∈ bindsOn x.2.2 ∧ listed.getD e false = false) ∧ ∀ e ∈ bindsOn x.2.2, e ∉ x.2.1 → listed.getD e false = true
  all : ∀ (j : Nat) (o : Oper), ops[j]? = some o → listed.getD j true = false → ∃ p, (j, p, o) ∈ rem

def NqOk (S : Sums) (ops : Array Oper) (listed : Array Bool) (nq : List (Nat × List Nat)) : Prop :=
  ∀ (j : Nat) (o : Oper), ops[j]? = some o → isQ S o.op = false → listed.getD j true = false → ∃ L, (j, L) ∈ nq ∧ ∀ listed', ClosedL ops listed' → j ∈ Region.ready .any ops listed' → ∀ x ∈ L, listed'.getD x false = true

theorem beq_ne {i j : Nat} (h : ¬ i = j) : Nat.beq i j = false := by
  cases hh : Nat.beq i j with
  | false => rfl
  | true => exact absurd (Nat.eq_of_beq_eq_true hh) h

section
variable {S : Sums} {ops : Array Oper} {listed : Array Bool} {rem : List Ent}

theorem RemOk.ready (h : RemOk ops listed rem) {j : Nat} : j ∈ Region.ready .any ops listed ↔ ∃ o, (j, [], o) ∈ rem := by
  rw [ready_iff]
  constructor
  · rintro ⟨h1, o, h2, h3⟩
    obtain ⟨p, hp⟩ := h.all j o h2 h1
    obtain ⟨_, _, h4, _⟩ := h.ent _ hp
    cases p with
    | nil => exact ⟨o, hp⟩
    | cons e p =>
      obtain ⟨h5, h6⟩ := h4 e (by simp)
      rw [h3 e h5] at h6
      cases h6
  · rintro ⟨o, hm⟩
    obtain ⟨h1, h2, _, h4⟩ := h.ent _ hm
    exact ⟨h2, o, h1, fun e he => h4 e he (by simp)⟩

theorem getD_false_set {i e : Nat} (h : listed.getD e false = false) (hne : e ≠ i) : (listed.setIfInBounds i true).getD e false = false := by
  rw [getD_set_ne false (Ne.symm hne)]; exact h

theorem RemOk.take (h : RemOk ops listed rem) (hcl : ClosedL ops listed) {i : Nat} (hi : i ∈ Region.ready .any ops listed) : RemOk ops (listed.setIfInBounds i true) (takeOp i rem) := by
  have hlt : i < listed.size := by
    rw [hcl.1]
    obtain ⟨_, o, h2, _⟩ := ready_iff.1 hi
    exact (Array.getElem?_eq_some_iff.1 h2).1
  refine ⟨fun x hx => ?_, fun j o hj hl => ?_⟩
  · simp only [takeOp, List.mem_map, List.mem_filter, Bool.not_eq_true', Nat.beq_eq_true_eq] at hx
    obtain ⟨y, ⟨hy, hne⟩, rfl⟩ := hx
    have hne : y.1 ≠ i := fun e => by rw [e] at hne; simp at hne
    obtain ⟨h1, h2, h3, h4⟩ := h.ent y hy
    refine ⟨h1, by rw [getD_set_ne true (Ne.symm hne)]; exact h2, fun e he => ?_, fun e he hn => ?_⟩
    · simp only [List.mem_filter, Bool.not_eq_true'] at he
      obtain ⟨he1, he2⟩ := he
      have : e ≠ i := fun e' => by subst e'; simp at he2
      exact ⟨(h3 e he1).1, getD_false_set (h3 e he1).2 this⟩
    · by_cases hei : e = i
      · subst hei; simp [hlt]
      · refine getD_set_true (h4 e he fun hm => hn ?_)
        simp only [List.mem_filter, Bool.not_eq_true']
        exact ⟨hm, beq_ne hei⟩
  · by_cases hji : j = i
    · subst hji; simp [hlt] at hl
    · rw [getD_set_ne true (Ne.symm hji)] at hl
      obtain ⟨p, hp⟩ := h.all j o hj hl
      refine ⟨p.filter fun e => !Nat.beq e i, ?_⟩
      simp only [takeOp, List.mem_map, List.mem_filter, Bool.not_eq_true']
      exact ⟨_, ⟨hp, beq_ne hji⟩, rfl⟩

theorem NqOk.take {nq : List (Nat × List Nat)} (h : NqOk S ops listed nq) {i : Nat} (hi : i < listed.size) : NqOk S ops (listed.setIfInBounds i true) (nq.filter fun y => !Nat.beq y.1 i) := by
  intro j o hj hq hl
  by_cases hji : j = i
  · subst hji; simp [hi] at hl
  · rw [getD_set_ne true (Ne.symm hji)] at hl
    obtain ⟨L, h1, h2⟩ := h j o hj hq hl
    exact ⟨L, by simp only [List.mem_filter, Bool.not_eq_true']; exact ⟨h1, beq_ne hji⟩, h2⟩

theorem ents_spec : ∀ (os : List Oper) (n : Nat) (x : Ent), x ∈ ents n os ↔ ∃ i o, os[i]? = some o ∧ x = (n + i, bindsOn o, o)
  | [], n, x => by simp [ents]
  | o :: os, n, x => by
    simp only [ents, List.mem_cons, ents_spec os (n + 1) x]
    constructor
    · rintro (rfl | ⟨i, o', h1, rfl⟩)
      · exact ⟨0, o, rfl, rfl⟩
      · exact ⟨i + 1, o', by simpa using h1, by rw [show n + 1 + i = n + (i + 1) by omega]⟩
    · rintro ⟨i, o', h1, rfl⟩
      cases i with
      | zero => cases h1; exact .inl rfl
      | succ i => exact .inr ⟨i, o', by simpa using h1, by rw [show n + 1 + i = n + (i + 1) by omega]⟩

theorem getD_replicate_true {m j : Nat} (h : j < m) : (Array.replicate m false).getD j true = false := by simp [h]

theorem RemOk.start (ops : Array Oper) : RemOk ops (Array.replicate ops.size false) (ents 0 ops.toList) := by
  refine ⟨fun x hx => ?_, fun j o hj _ => ⟨bindsOn o, (ents_spec _ _ _).2 ⟨j, o, by simpa using hj, by simp⟩⟩⟩
  obtain ⟨i, o, h1, rfl⟩ := (ents_spec _ _ _).1 hx
  have h1 : ops[i]? = some o := by simpa using h1
  refine ⟨by simpa using h1, ?_, fun e he => ⟨he, getD_replicate_false _ _⟩, fun e he hn => absurd he hn⟩
  rw [Nat.zero_add]
  exact getD_replicate_true (Array.getElem?_eq_some_iff.1 h1).1

theorem ClosedL.start (ops : Array Oper) : ClosedL ops (Array.replicate ops.size false) :=
  ⟨by simp, fun j o _ h => by rw [getD_replicate_false] at h; cases h⟩

/-- What an operation waits for stands listed when it comes up. -/
theorem backs_fold {listed' : Array Bool} (hcl : ClosedL ops listed') : ∀ (l : List (Oper × Nat)) (L : List Nat), (∀ p ∈ l, ops[p.2]? = some p.1) → (∀ x ∈ L, listed'.getD x false = true) →
    ∀ x ∈ l.foldl (fun L p => if L.elem p.2 then bindsOn p.1 ++ L else L) L, listed'.getD x false = true
  | [], L, _, h => h
  | p :: l, L, hl, h => by
    rw [List.foldl_cons]
    refine backs_fold hcl l _ (fun q hq => hl q (List.mem_cons_of_mem _ hq)) ?_
    split
    · rename_i hm
      have hm : p.2 ∈ L := by simpa using hm
      intro x hx
      rcases List.mem_append.1 hx with hx | hx
      · exact hcl.2 p.2 p.1 (hl p (by simp)) (h _ hm) x hx
      · exact h x hx
    · exact h

theorem backs_spec {o : Oper} {j : Nat} (hj : ops[j]? = some o) {listed' : Array Bool} (hcl : ClosedL ops listed') (hr : j ∈ Region.ready .any ops listed') : ∀ x ∈ backs ops.toList o j, listed'.getD x false = true := by
  unfold backs
  have : ∀ (L : List Nat), (List.range j).foldr (fun _ L => L) L = L := by
    intro L
    generalize List.range j = l
    induction l with
    | nil => rfl
    | cons _ _ ih => simpa using ih
  rw [this]
  obtain ⟨_, o', h2, h3⟩ := ready_iff.1 hr
  rw [hj] at h2
  cases h2
  refine backs_fold hcl _ _ (fun p hp => ?_) h3
  rw [List.mem_reverse] at hp
  obtain ⟨h4, h5, h6⟩ := List.mem_zipIdx hp
  simp only [Nat.sub_zero] at h6
  rw [List.getElem_take] at h6
  have h7 : p.2 < ops.toList.length := by simp at h5; simp; omega
  rw [h6, ← Array.getElem?_toList, List.getElem?_eq_getElem h7]

theorem NqOk.start (S : Sums) (ops : Array Oper) : NqOk S ops (Array.replicate ops.size false) (nots S ops.toList) := by
  intro j o hj hq _
  refine ⟨backs ops.toList o j, ?_, fun l' hcl hr => backs_spec hj hcl hr⟩
  simp only [nots, List.mem_map, List.mem_filter]
  have hj' : ops.toList[j]? = some o := by simpa using hj
  obtain ⟨hlt, he⟩ := List.getElem?_eq_some_iff.1 hj'
  exact ⟨(o, j), ⟨by rw [List.mem_zipIdx_iff_getElem?]; simpa using hj', by simp [hq]⟩, rfl⟩
end

section
variable {B : Base} {C : Ctx} {w : World} {a : Act} {st : St} {E : TEnv} {S : Sums} {R : Type} {r : R}

theorem execO_isT {o : Oper} (h : isT o.op = true) {st : St} {K : St → Option R} {KP : Value → St → Option R} : execO E S o st K KP = execT E o.op st (fun s => K (st.putD o.dst s)) := by
  unfold execO
  split <;> first | rfl | (rename_i ho; rw [ho] at h; cases h)

theorem quietO_setB {o : Oper} {t : Tmp} {b : Bool} : quietO S o (setB st t b) = quietO S o st := by
  have key : ∀ f : Operand, quietV S (evalS (setB st t b) f) = quietV S (evalS st f) := by
    intro f
    cases f with
    | tmp t' =>
      simp only [evalS]
      unfold setB
      split
      · rename_i b' hb
        rw [St.get_set]
        split
        · rename_i hc; rw [hc.1, hb]; rfl
        · rfl
      · rfl
    | _ => rfl
  unfold quietO
  split <;> first | rfl | exact key _

theorem stillOp (hE : E.Ok B.P) (h : Inv B C w a st) {ops : Array Oper} {o : Oper} (ht : isT o.op = true) {K : St → Option R} {KP : Value → St → Option R} (he : runOp E S ops o st K KP = some r) :
    ∃ v st', YieldsX (readsMem o.op) B.P ops o v a w ∧ Inv B C w (a.put o.dst v) st' ∧ K st' = some r := by
  have fin : ∀ {st : St}, Inv B C w a st → execO E S o st K KP = some r → ∃ v st', (∀ w', (readsMem o.op = true → Below w.heap.size w w') → (execOp a.eval o).run B.P w' = .ok (.value v) w') ∧ Inv B C w (a.put o.dst v) st' ∧ K st' = some r := by
    intro st h he
    rw [execO_isT ht] at he
    obtain ⟨s, h1, v, h2, h3, h4⟩ := execT_sound hE h he
    exact ⟨v, _, h2, h.putD h3 h4, h1⟩
  unfold runOp at he
  split at he
  · rename_i hg
    obtain ⟨v, st', h1, h2, h3⟩ := fin h he
    exact ⟨v, st', .inl ⟨by simp [Region.wanted, hg], h1⟩, h2, h3⟩
  · rename_i g want hg
    split at he
    · cases he
    rename_i t htg
    rcases guardK_sound h hg htg he with ⟨h1, h2, h3⟩ | ⟨h1, h2, h3⟩
    · obtain ⟨v, st', h4, h5, h6⟩ := fin h2 h3
      exact ⟨v, st', .inl ⟨h1, h4⟩, h5, h6⟩
    · exact ⟨undef, _, .inr ⟨h1, rfl⟩, h2.putD (sv := uA) rfl (fun k hk => by cases hk), h3⟩

theorem runOp_soundQ (hE : E.Ok B.P) (hS : S.Ok B.P) (h : Inv B C w a st) {ops : Array Oper} {o : Oper} {q : Bool} (hq : q = true → quietO S o st = true) {K : St → Option R} {KP : Value → St → Option R} {next : Act → World → Prop} {Q : Exit → Act → World → Prop}
    (he : runOp E S ops o st K KP = some r) (c : Owes B a w r q K KP next Q) :
    if Region.wanted o (yielded ops a.tmps) then o.wp B.P a w next Q else next (a.put o.dst undef) w := by
  have c' : ∀ q', (q = true → q' = true) → Owes B a w r q' K KP next Q := fun q' hq' => ⟨fun C' w' a' st' i k hb => c.go C' w' a' st' i k (fun h => hb (hq' h)), c.panic⟩
  unfold runOp at he
  split at he
  · rename_i hg
    rw [if_pos (by simp [Region.wanted, hg])]
    exact execO_sound hE hS h he (c' _ hq)
  · rename_i g want hg
    split at he
    · cases he
    rename_i t ht
    rcases guardK_sound h hg ht he with ⟨h1, h2, h3⟩ | ⟨h1, h2, h3⟩
    · rw [if_pos h1]
      exact execO_sound hE hS h2 h3 (c' _ (fun h => by rw [quietO_setB]; exact hq h))
    · rw [if_neg (by rw [h1]; simp)]
      exact c.go _ _ _ _ (h2.putD (sv := uA) rfl (fun k hk => by cases hk)) h3 (fun _ => Below.refl _ _)

theorem Inv.strip (h : Inv B C w a st) {a' : Act} (hs : a'.tmps.size = a.tmps.size) (hd : a'.defers = []) : Inv B C w a' st.strip := by
  exact ⟨by rw [hs]; exact h.len, hd, fun n => trivial, fun n k hk => (by cases hk), h.heap⟩

theorem put_size (a : Act) (d : Option Tmp) (v : Value) : (a.put d v).tmps.size = a.tmps.size ∧ (a.put d v).defers = a.defers := by
  cases d <;> simp [Act.put]

/-- How a region's walk may leave, the slots forgotten if it dies. -/
def QX (B : Base) {R : Type} (r : R) (KP : Value → St → Option R) (N : Act → World → Prop) : Exit → Act → World → Prop
  | .normal, a, w => N a w
  | .panic chain, a, w => ∃ v C st, chain = [{ v, recovered := false }] ∧ Inv B C w a (St.strip st) ∧ KP v (St.strip st) = some r
  | _, _, _ => False

theorem forkL_spec {f : Ent → Option PT} {E : TEnv} {S : Sums} {ops : Array Oper} {R : Type} {K : St → Option R} {KP : Value → St → Option R} {st : St} {r : R} : ∀ {rs : List Ent} {pt : PT}, forkL f rs = some pt → runPlan E S ops K KP pt st = some r →
    rs ≠ [] ∧ ∀ x ∈ rs, ∃ t, f x = some t ∧ runStep E S ops x.1 (runPlan E S ops K KP t) KP st = some r
  | [], pt, h, _ => by cases h
  | [x], pt, h, he => by
    simp only [forkL] at h
    split at h
    · rename_i t ht
      cases h
      exact ⟨by simp, fun y hy => by rw [List.mem_singleton] at hy; subst hy; exact ⟨t, ht, he⟩⟩
    · cases h
  | x :: y :: r', pt, h, he => by
    unfold forkL at h
    split at h
    · rename_i e; cases e
    split at h
    · cases h
    rename_i t ht
    split at h
    · cases h
    rename_i u hu
    cases h
    unfold runPlan at he
    obtain ⟨h1, h2⟩ := both_some he
    obtain ⟨_, h3⟩ := forkL_spec hu h2
    refine ⟨by simp, fun z hz => ?_⟩
    rcases List.mem_cons.1 hz with rfl | hz
    · exact ⟨t, ht, h1⟩
    · exact h3 z hz

theorem runPlan_sound (hE : E.Ok B.P) (hS : S.Ok B.P) {ops : Array Oper} (hsel : Region.noSelect ops = true) {K : St → Option R} {KP : Value → St → Option R} {N : Act → World → Prop} (hK : ∀ C w a st, Inv B C w a st → K st = some r → N a w) :
    ∀ (n : Nat) {nq : List (Nat × List Nat)} {rem : List Ent} {l : PT} {listed : Array Bool} {C : Ctx} {w : World} {a : Act} {st : St}, plan ops n nq rem = some l → RemOk ops listed rem → NqOk S ops listed nq → ClosedL ops listed → Inv B C w a st →
      runPlan E S ops K KP l st = some r → ∀ f, n ≤ f → wpAnyX B.P ops (fun i => match ops[i]? with | some o => isQ S o.op | none => true) (QX B r KP N) f listed a w := by
  have empty : ∀ {listed : Array Bool} {C : Ctx} {w : World} {a : Act} {st : St}, RemOk ops listed [] → Inv B C w a st → runPlan E S ops K KP .done st = some r →
      ∀ f, wpAnyX B.P ops (fun i => match ops[i]? with | some o => isQ S o.op | none => true) (QX B r KP N) f listed a w := by
    intro listed C w a st hrem hi he f
    have hready : Region.ready .any ops listed = [] := List.eq_nil_iff_forall_not_mem.2 fun j hj => by
      obtain ⟨o, ho⟩ := hrem.ready.1 hj
      cases ho
    cases f with
    | zero => exact ⟨hready, hK _ _ _ _ hi he⟩
    | succ f => exact ⟨fun _ => hK _ _ _ _ hi he, fun i hi => by rw [hready] at hi; cases hi⟩
  intro n
  induction n with
  | zero =>
    intro nq rem l listed C w a st hp hrem hnq hcl hi he f _
    cases rem with
    | nil => cases hp; exact empty hrem hi he f
    | cons x rem => cases hp
  | succ n ih =>
    intro nq rem l listed C w a st hp hrem hnq hcl hi he f hf
    cases rem with
    | nil => cases hp; exact empty hrem hi he f
    | cons x0 rem0 =>
    unfold plan at hp
    simp only at hp
    unfold planStep at hp
    generalize x0 :: rem0 = rem at *
    obtain ⟨f, rfl⟩ : ∃ g, f = g + 1 := ⟨f - 1, by omega⟩
    -- one operation, and what comes behind it
    have step : ∀ (x : Ent) (t : PT), x ∈ rem → x.2.1.isEmpty = true → plan ops n (nq.filter fun y => !Nat.beq y.1 x.1) (takeOp x.1 rem) = some t → runStep E S ops x.1 (runPlan E S ops K KP t) KP st = some r →
        ops[x.1]? = some x.2.2 ∧ x.1 ∈ Region.ready .any ops listed ∧ (∀ {C w a st}, Inv B C w a st → runPlan E S ops K KP t st = some r → wpAnyX B.P ops (fun i => match ops[i]? with | some o => isQ S o.op | none => true) (QX B r KP N) f (listed.setIfInBounds x.1 true) a w) ∧
          (isQ S x.2.2.op = true → quietO S x.2.2 st = true) ∧ runOp E S ops x.2.2 st (runPlan E S ops K KP t) (fun v st => KP v st.strip) = some r := by
      intro x t hx hxe ht hr
      obtain ⟨hop, hun, _, _⟩ := hrem.ent x hx
      have hready : x.1 ∈ Region.ready .any ops listed := hrem.ready.2 ⟨x.2.2, by
        have : x.2.1 = [] := by simpa using hxe
        rw [← this]; exact hx⟩
      have hlt : x.1 < listed.size := by rw [hcl.1]; exact (Array.getElem?_eq_some_iff.1 hop).1
      unfold runStep at hr
      simp only [hop] at hr
      split at hr
      · cases hr
      rename_i hqc
      refine ⟨hop, hready, fun {C w a st} i k => ih (C := C) (w := w) (a := a) (st := st) ht (hrem.take hcl hready) (hnq.take hlt) (hcl.set hready) i k f (by omega), fun h => ?_, hr⟩
      cases hh : quietO S x.2.2 st with
      | true => rfl
      | false => rw [h, hh] at hqc; cases hqc
    split at hp
    · rename_i x hx
      split at hp
      case h_2 => cases hp
      rename_i t ht
      cases hp
      have hok := List.find?_some hx
      have hxm := List.mem_of_find?_eq_some hx
      rw [List.mem_filter] at hxm
      unfold runPlan at he
      obtain ⟨hop, hready, next, hq, he⟩ := step x t hxm.1 hxm.2 ht he
      simp only [okStill, Bool.and_eq_true, List.all_eq_true, Bool.or_eq_true, Nat.beq_eq_true_eq] at hok
      obtain ⟨⟨hT, hap⟩, hnq2⟩ := hok
      obtain ⟨v, st', h1, h2, h3⟩ := stillOp hE hi hT he
      refine wpAnyX_first hop (Region.noSelect_spec hsel) ?_ f listed a w hcl (fun j oj hj hne hunj hno => ?_) (fun hrd l2 c2 hiun hsub j hj hne => ?_) hready h1 (next h2 h3)
      · rintro c a w ⟨v', C', st2, e1, e2, e3⟩
        refine ⟨v', C', st2, e1, ?_, e3⟩
        have := e2.strip (a' := a) (by rw [(put_size a x.2.2.dst v).1]) (by rw [← (put_size a x.2.2.dst v).2]; exact e2.defers)
        have es : st2.strip.strip = st2.strip := rfl
        rwa [es] at this
      · obtain ⟨p, hp⟩ := hrem.all j oj hj hunj
        rcases hap _ hp with (h | h) | h
        · exact absurd (Nat.eq_of_beq_eq_true h) hne
        · have : x.1 ∈ p := hasN_iff.1 h
          exact absurd ((hrem.ent _ hp).2.2.1 _ this).1 hno
        · exact apartN_spec h
      · obtain ⟨hju, oj, hoj, _⟩ := ready_iff.1 hj
        simp only [hoj]
        cases hqj : isQ S oj.op with
        | true => rfl
        | false =>
          exfalso
          have hjl : listed.getD j true = false := by
            cases hh : listed.getD j true with
            | false => rfl
            | true => rw [hsub j hh] at hju; cases hju
          obtain ⟨L, m1, m2⟩ := hnq j oj hoj hqj hjl
          have hnq3 := hnq2.resolve_left (by rw [hrd]; simp) _ m1
          have := m2 l2 c2 hj x.1 (hasN_iff.1 hnq3)
          rw [getD_both hiun] at this
          cases this
    · obtain ⟨hne, hall⟩ := forkL_spec hp he
      have hr2 : ∀ i, i ∈ Region.ready .any ops listed → ∃ x ∈ rem.filter fun x => x.2.1.isEmpty, x.1 = i := by
        intro i hi
        obtain ⟨o, ho⟩ := hrem.ready.1 hi
        exact ⟨_, List.mem_filter.2 ⟨ho, rfl⟩, rfl⟩
      refine ⟨fun h => ?_, fun i hir => ?_⟩
      · exfalso
        cases hf : rem.filter fun x => x.2.1.isEmpty with
        | nil => exact hne hf
        | cons x l =>
          have hm : x ∈ rem.filter fun x => x.2.1.isEmpty := by rw [hf]; exact List.mem_cons_self ..
          obtain ⟨t, ht, hr⟩ := hall x hm
          have := (step x t (List.mem_filter.1 hm).1 (List.mem_filter.1 hm).2 ht hr).2.1
          rw [h] at this; cases this
      · obtain ⟨x, hxm, rfl⟩ := hr2 i hir
        obtain ⟨t, ht, hr⟩ := hall x hxm
        obtain ⟨hop, hready, next, hq, he⟩ := step x t (List.mem_filter.1 hxm).1 (List.mem_filter.1 hxm).2 ht hr
        unfold wpOp
        simp only [hop]
        have := runOp_soundQ (q := isQ S x.2.2.op) (Q := QX B r KP N) (next := fun a' w' => (isQ S x.2.2.op = true → Below w.heap.size w w') ∧ wpAnyX B.P ops (fun i => match ops[i]? with | some o => isQ S o.op | none => true) (QX B r KP N) f (listed.setIfInBounds x.1 true) a' w') hE hS hi hq he
          ⟨fun C' w' a' st' i k hb => ⟨hb, next i k⟩, fun v C' w' st' i k => ⟨v, C', st', rfl, i.strip rfl i.defers, k⟩⟩
        split
        · rename_i hw; rw [if_pos hw] at this; exact .inl this
        · rename_i hw; rw [if_neg hw] at this; exact this

theorem runDraw_ok {P : Program} (hm : P.follows .mixedOrders = true) (hE : E.Ok P) (hS : S.Ok P) : DrawOk P E S (runDraw E S) := by
  intro R B C w a st id ops K KP r Q hP hK hKP hi he
  subst hP
  unfold runDraw at he
  split at he
  case isFalse => cases he
  rename_i hsel
  split at he
  case h_2 => cases he
  rename_i l hl
  have hb : Below w.heap.size w { w with drawn := w.drawn + 1 } := ⟨rfl, rfl, rfl, Nat.le_refl _, fun _ _ => rfl⟩
  have := runPlan_sound (N := fun a w => Q .normal a w) hE hS hsel hK ops.size hl (RemOk.start ops) (NqOk.start S ops) (ClosedL.start ops) (hi.world hb) he ops.size (Nat.le_refl _)
  have h2 : (Code.region id ops true).wp B.P (QX B r KP (fun a w => Q .normal a w)) a w := wp_region_any hm (wpAny_of_X _ _ _ _ this)
  refine Code.wp_mono ?_ h2
  rintro e a w hq
  cases e with
  | normal => exact hq
  | panic chain => obtain ⟨v, C, st, rfl, h3, h4⟩ := hq; exact hKP _ _ _ _ _ h3 h4
  | _ => exact hq.elim
end
end Go.AM

/- Words for the tables of a program. -/
namespace Go.AM
open Go.RowKit

theorem TI.ok_of {P : Program} {t : TypeId} {i : TI} {d : TypeDesc} (hu : P.underlying t = some d) (hd : i.d.Is d) (hi : (P.info? t).map (fun ti => (ti.size, ti.bytes, ti.zero.map (·.cells.toList))) = some (i.size, i.bytes, some i.zero)) : i.Ok P t := by
  simp only [Option.map_eq_some_iff, Prod.mk.injEq] at hi
  obtain ⟨ti, h1, h2, h3, z, h4, h5⟩ := hi
  exact ⟨d, ti, z, hu, hd, h1, h2, h3, h4, h5⟩

/-- The n-th and all that follow are right. -/
def OkFrom (P : Program) : Nat → List (Option TI) → Prop
  | _, [] => True
  | n, none :: r => OkFrom P (n + 1) r
  | n, some i :: r => i.Ok P n ∧ OkFrom P (n + 1) r

def tiOf (l : List (Option TI)) (t : TypeId) : Option TI := match l[t]? with | some (some i) => some i | _ => none

theorem OkFrom.get {P : Program} : ∀ {l : List (Option TI)} {n k : Nat} {i : TI}, OkFrom P n l → l[k]? = some (some i) → i.Ok P (n + k)
  | [], _, _, _, _, h => by simp at h
  | none :: r, n, 0, i, _, h => by simp at h
  | some j :: r, n, 0, i, ho, h => by
    simp only [List.getElem?_cons_zero, Option.some.injEq] at h
    cases h
    exact ho.1
  | none :: r, n, k + 1, i, ho, h => by
    have := OkFrom.get (n := n + 1) (k := k) ho (by simpa using h)
    rwa [show n + 1 + k = n + (k + 1) by omega] at this
  | some j :: r, n, k + 1, i, ho, h => by
    have := OkFrom.get (n := n + 1) (k := k) ho.2 (by simpa using h)
    rwa [show n + 1 + k = n + (k + 1) by omega] at this

theorem tis_of {P : Program} {l : List (Option TI)} (h : OkFrom P 0 l) : TIs P (tiOf l) := by
  intro t i ht
  unfold tiOf at ht
  split at ht
  · rename_i j hj
    cases ht
    have := h.get hj
    rwa [Nat.zero_add] at this
  · cases ht

theorem enters_of {P : Program} {g : FuncId} {fn : Func} (hf : P.funcs[g]? = some fn) (hn : (fn.name == "runtime.NumGoroutine") = false) (hb : fn.body.isNone = false) : Enters P g := by
  intro args w
  have hp : (program : Sem Program).run P w = .ok P w := rfl
  unfold callFunc
  rw [Sem.run_bind, hp]
  simp only [Result.andThen_ok, hf, hn, hb]
  rfl

end Go.AM

/- Names turned; what a call leaves behind of handed blocks. -/
namespace Go.AM
open Go.RowKit

/-! Other names -/

def Cap.ren (f : Tok → Tok) : Cap → Cap
  | .tok k => .tok (f k)
  | .imm ps => .imm ps
def Atom.ren (f : Tok → Tok) : Atom → Atom
  | .dead n => .dead n
  | .pure t x => .pure t x
  | .const v => .const v
  | .ptr k off => .ptr (f k) off
  | .cptr ps => .cptr ps
  | .rptr k i sz sub => .rptr (f k) i sz sub
  | .aptr k off i n sz sub => .aptr (f k) off i n sz sub
  | .e0 => .e0
  | .own k => .own (f k)
  | .seg k lo n sz => .seg (f k) lo n sz
  | .func g caps => .func g (caps.map (Cap.ren f))
def V1.ren (f : Tok → Tok) : V1 → V1
  | .one a => .one (a.ren f)
  | .agg as => .agg (as.map (Atom.ren f))
def SVal.ren (f : Tok → Tok) : SVal → SVal
  | .undef => .undef
  | .v x => .v (x.ren f)
  | .tup xs => .tup (xs.map (V1.ren f))
def Block.ren (f : Tok → Tok) : Block → Block
  | .var as => .var (as.map (Atom.ren f))
  | .row e t xs => .row e t xs
  | .lrow t xs => .lrow t xs

section
variable {P : Program} {C C' : Ctx} {w : World} {f : Tok → Tok}

theorem Cap.ren_toks (c : Cap) : (c.ren f).toks = c.toks.map f := by cases c <;> rfl
theorem caps_ren_toks : ∀ caps : List Cap, (caps.map (Cap.ren f)).flatMap Cap.toks = (caps.flatMap Cap.toks).map f
  | [] => rfl
  | c :: cs => by simp only [List.map_cons, List.flatMap_cons, List.map_append, Cap.ren_toks, caps_ren_toks cs]
theorem Atom.ren_toks (a : Atom) : (a.ren f).toks = a.toks.map f := by
  cases a with
  | func g caps => exact caps_ren_toks caps
  | _ => rfl
theorem atoms_ren_toks : ∀ as : List Atom, (as.map (Atom.ren f)).flatMap Atom.toks = (as.flatMap Atom.toks).map f
  | [] => rfl
  | c :: cs => by simp only [List.map_cons, List.flatMap_cons, List.map_append, Atom.ren_toks, atoms_ren_toks cs]
theorem V1.ren_atoms (x : V1) : (x.ren f).atoms = x.atoms.map (Atom.ren f) := by cases x <;> rfl
theorem V1.ren_toks (x : V1) : (x.ren f).atoms.flatMap Atom.toks = (x.atoms.flatMap Atom.toks).map f := by rw [V1.ren_atoms, atoms_ren_toks]
theorem Block.ren_toks (b : Block) : (b.ren f).toks = b.toks.map f := by
  cases b with
  | var as => exact atoms_ren_toks as
  | _ => rfl
theorem Block.ren_at (b : Block) (v : Value) : (b.ren f).at v = b.at v := by cases b <;> rfl

theorem RelCaps.ren (hI : C'.I = C.I) : ∀ {caps : List Cap} {vs : List Value}, (∀ k ∈ caps.flatMap Cap.toks, C'.ρ (f k) = C.ρ k) → RelCaps P C w caps vs → RelCaps P C' w (caps.map (Cap.ren f)) vs
  | [], _, _, h => h
  | c :: cs, vs, hk, ⟨v, rest, e, h1, h2⟩ => by
    refine ⟨v, rest, e, ?_, RelCaps.ren hI (fun k hm => hk k (by simp only [List.flatMap_cons, List.mem_append]; exact .inr hm)) h2⟩
    cases c with
    | tok k =>
      have e := hk k (by simp [Cap.toks])
      obtain ⟨h1, b, hb⟩ := h1
      exact ⟨h1.trans e.symm, b, e.trans hb⟩
    | imm ps => exact ImmAt.goes ⟨fun b h => by rw [hI]; exact h, Later.refl _ _⟩ h1

theorem RelAtom.ren (hI : C'.I = C.I) {a : Atom} {cs : List Value} (hk : ∀ k ∈ a.toks, C'.ρ (f k) = C.ρ k) (h : RelAtom P C w a cs) : RelAtom P C' w (a.ren f) cs := by
  have g : Goes C C' w w := ⟨fun b h => by rw [hI]; exact h, Later.refl _ _⟩
  cases a with
  | dead | const | e0 => exact h
  | pure t x => exact cells_goes g h
  | ptr k off => obtain ⟨b, e, hc⟩ := h; exact ⟨b, (hk k (by simp [Atom.toks])).trans e, hc⟩
  | cptr ps => obtain ⟨v, e, h⟩ := h; exact ⟨v, e, h.goes g⟩
  | rptr k => obtain ⟨b, o, n, c, e, hi, hc⟩ := h; exact ⟨b, o, n, c, (hk k (by simp [Atom.toks])).trans e, hi, hc⟩
  | aptr k => obtain ⟨b, e, hi, hc⟩ := h; exact ⟨b, (hk k (by simp [Atom.toks])).trans e, hi, hc⟩
  | own k => exact h.trans (by rw [hk k (by simp [Atom.toks])])
  | seg k =>
    obtain ⟨A, c, e, hn, h⟩ := h
    refine ⟨A, c, e, hn, h.imp_right ?_⟩
    rintro ⟨b, o, m, c', h1, h2⟩
    exact ⟨b, o, m, c', (hk k (by simp [Atom.toks])).trans h1, h2⟩
  | func g' caps => obtain ⟨vs, e, h⟩ := h; exact ⟨vs, e, RelCaps.ren hI (fun k hm => hk k hm) h⟩

theorem RelAtoms.ren (hI : C'.I = C.I) : ∀ {as : List Atom} {cs : List Value}, (∀ k ∈ as.flatMap Atom.toks, C'.ρ (f k) = C.ρ k) → RelAtoms P C w as cs → RelAtoms P C' w (as.map (Atom.ren f)) cs
  | [], _, _, h => h
  | a :: as, _, hk, ⟨c1, c2, e, h1, h2⟩ =>
    ⟨c1, c2, e, h1.ren hI (fun k hm => hk k (by simp only [List.flatMap_cons, List.mem_append]; exact .inl hm)), RelAtoms.ren hI (fun k hm => hk k (by simp only [List.flatMap_cons, List.mem_append]; exact .inr hm)) h2⟩

theorem RelV1.ren (hI : C'.I = C.I) {x : V1} {v : Value} (hk : ∀ k ∈ x.atoms.flatMap Atom.toks, C'.ρ (f k) = C.ρ k) (h : RelV1 P C w x v) : RelV1 P C' w (x.ren f) v := by
  cases x with
  | one a => exact RelAtom.ren hI (fun k hm => hk k (by simpa [V1.atoms] using hm)) h
  | agg as => obtain ⟨cs, e, h⟩ := h; exact ⟨cs, e, RelAtoms.ren hI hk h⟩

theorem RelBlock.ren (hI : C'.I = C.I) {k : Tok} {b : Block} (hk : ∀ k' ∈ b.toks, C'.ρ (f k') = C.ρ k') (hρ : C'.ρ (f k) = C.ρ k) (ha : C'.around (f k) = C.around k) (h : RelBlock P C w k b) : RelBlock P C' w (f k) (b.ren f) := by
  have g : Goes C C' w w := ⟨fun b h => by rw [hI]; exact h, Later.refl _ _⟩
  cases b with
  | var as =>
    obtain ⟨x, cs, e, h1, h2, h3⟩ := h
    exact ⟨x, cs, e, hρ.trans h1, h2, h3.ren hI hk⟩
  | row e t xs =>
    rcases h with ⟨h1, A, h2⟩ | ⟨x, cap, cur, e1, h0, h5, h6, h7, h8, h9⟩
    · exact .inl ⟨h1, A, hρ.trans h2⟩
    · exact .inr ⟨x, cap, cur, hρ.trans e1, h0, h5, h6, h7, h8, h9.imp fun _ _ => cells_goes g⟩
  | lrow t xs =>
    obtain ⟨cells, h2, h3⟩ := h
    refine ⟨cells, ?_, h3.imp fun _ _ => cells_goes g⟩
    rcases h2 with ⟨h1, h2, A, c, h4⟩ | ⟨x, o, c, e, h1, h2, h4, h5⟩
    · exact .inl ⟨h1, h2, A, c, hρ.trans h4⟩
    · exact .inr ⟨x, o, c, e, hρ.trans h1, h2, by rw [ha]; exact h4, by rw [ha]; exact h5⟩
end

/-! Several names forgotten -/

def killL : List Tok → St → St
  | [], st => st
  | k :: ks, st => killL ks (st.kill k)

theorem killL_sound {B : Base} {C : Ctx} {w : World} {a : Act} : ∀ {ks : List Tok} {st : St}, Inv B C w a st → Inv B C w a (killL ks st) ∧ (killL ks st).len = st.len ∧
    (∀ k b, (k, b) ∈ (killL ks st).heap → k ∉ ks ∧ ∃ b0, (k, b0) ∈ st.heap ∧ ∀ v, b.at v = b0.at v) ∧ ∀ k, k ∈ st.heap.map (·.1) → k ∉ ks → k ∈ (killL ks st).heap.map (·.1)
  | [], st, h => ⟨h, rfl, fun k b hm => ⟨by simp, b, hm, fun _ => rfl⟩, fun k hk _ => hk⟩
  | k0 :: ks, st, h => by
    obtain ⟨h1, h2, h3, h4⟩ := killL_sound (ks := ks) (h.kill k0)
    refine ⟨h1, h2, fun k b hm => ?_, fun k hk hn => ?_⟩
    · obtain ⟨h5, b0, h6, h7⟩ := h3 k b hm
      obtain ⟨b1, h8, h9, rfl⟩ := mem_kill h6
      refine ⟨?_, b1, h8, fun v => (h7 v).trans (Block.kill_at _ _ _)⟩
      rw [List.mem_cons]
      exact fun e => e.elim h9 h5
    · rw [List.mem_cons, not_or] at hn
      exact h4 k (St.kill_keys.2 ⟨hn.1, hk⟩) hn.2

def delL : List Tok → List (Tok × Block) → List (Tok × Block)
  | [], h => h
  | k :: ks, h => delL ks (hdel k h)

theorem mem_delL {k : Tok} {b : Block} : ∀ {ks : List Tok} {h : List (Tok × Block)}, (k, b) ∈ delL ks h ↔ k ∉ ks ∧ (k, b) ∈ h
  | [], h => by simp [delL]
  | k0 :: ks, h => by
    rw [delL, mem_delL, mem_hdel, List.mem_cons, not_or]
    exact ⟨fun ⟨h1, h2, h3⟩ => ⟨⟨h2, h1⟩, h3⟩, fun ⟨⟨h2, h1⟩, h3⟩ => ⟨h1, h2, h3⟩⟩

theorem delL_nodup : ∀ {ks : List Tok} {h : List (Tok × Block)}, (h.map (·.1)).Nodup → ((delL ks h).map (·.1)).Nodup
  | [], h, hn => hn
  | k :: ks, h, hn => delL_nodup (ks := ks) (h := hdel k h) (((hdel_sub k h).map _).nodup hn)

theorem mem_keys {k : Tok} {h : List (Tok × Block)} : k ∈ h.map (·.1) ↔ ∃ b, (k, b) ∈ h := by simp

theorem delL_keys {k : Tok} {ks : List Tok} {h : List (Tok × Block)} : k ∈ (delL ks h).map (·.1) ↔ k ∉ ks ∧ k ∈ h.map (·.1) := by
  rw [mem_keys, mem_keys]
  exact ⟨fun ⟨b, hb⟩ => ⟨(mem_delL.1 hb).1, b, (mem_delL.1 hb).2⟩, fun ⟨h1, b, hb⟩ => ⟨b, mem_delL.2 ⟨h1, hb⟩⟩⟩

theorem nodup_map_on {α β : Type} {f : α → β} : ∀ {l : List α}, (∀ x ∈ l, ∀ y ∈ l, f x = f y → x = y) → l.Nodup → (l.map f).Nodup
  | [], _, _ => List.nodup_nil
  | a :: l, hf, hn => by
    rw [List.nodup_cons] at hn
    rw [List.map_cons, List.nodup_cons]
    refine ⟨fun hm => ?_, nodup_map_on (fun x hx y hy => hf x (List.mem_cons_of_mem _ hx) y (List.mem_cons_of_mem _ hy)) hn.2⟩
    obtain ⟨b, hb, e⟩ := List.mem_map.1 hm
    exact hn.1 (hf b (List.mem_cons_of_mem _ hb) a (List.mem_cons_self ..) e ▸ hb)

/-! What a call leaves -/

/-- The name on the right that stands for a name on the left. -/
def renT (τ : Sub) (k : Tok) : Tok := match subGet k τ with | some k' => k' | none => k

def subInv (k : Tok) : Sub → Option Tok
  | [] => none
  | (a, b) :: r => if b = k then some a else subInv k r

theorem subInv_some {k a : Tok} : ∀ {τ : Sub}, subInv k τ = some a → (a, k) ∈ τ
  | [], h => by cases h
  | (x, y) :: r, h => by
    simp only [subInv] at h
    split at h
    · rename_i e; cases h; subst e; exact List.mem_cons_self ..
    · exact List.mem_cons_of_mem _ (subInv_some h)

theorem subGet_mem {k a : Tok} : ∀ {τ : Sub}, subGet a τ = some k → (a, k) ∈ τ
  | [], h => by cases h
  | (x, y) :: r, h => by
    simp only [subGet] at h
    split at h
    · rename_i e; cases h; subst e; exact List.mem_cons_self ..
    · exact List.mem_cons_of_mem _ (subGet_mem h)

theorem subHas_of_mem {k a : Tok} : ∀ {τ : Sub}, (a, k) ∈ τ → subHas k τ = true
  | (x, y) :: r, h => by
    simp only [subHas]
    split
    · rfl
    · rename_i hne
      rcases List.mem_cons.1 h with e | h
      · cases e; exact absurd rfl hne
      · exact subHas_of_mem h

theorem subInv_of_mem {k a : Tok} : ∀ {τ : Sub}, subInj τ = true → (a, k) ∈ τ → subInv k τ = some a
  | (x, y) :: r, hi, h => by
    simp only [subInj, Bool.and_eq_true, Bool.not_eq_true'] at hi
    rcases List.mem_cons.1 h with e | h
    · cases e; simp [subInv]
    · simp only [subInv]
      split
      · rename_i e; subst e; rw [subHas_of_mem h] at hi; cases hi.1
      · exact subInv_of_mem hi.2 h

def Ctx.back (C C2 : Ctx) (τ : Sub) : Ctx :=
  { I := C2.I, ρ := fun k => match subInv k τ with | some a => C2.ρ a | none => C.ρ k, around := fun k => match subInv k τ with | some a => C2.around a | none => C.around k }

/-- The base of a call that is handed blocks. -/
def Base.call (B : Base) (C C1 : Ctx) (w : World) (heap : List (Tok × Block)) (σ : Sub) (fix : List Tok) : Base :=
  { P := B.P, w0 := w, I0 := C.I, F0 := fun g => ∃ a k b, subGet a σ = some k ∧ (k, b) ∈ heap ∧ b.at (C.ρ k) = some g, ρ0 := C1.ρ, around0 := C1.around, fix := fix }

section
variable {B : Base} {C : Ctx} {w w' : World} {a : Act} {st : St}

/-- The caller's state behind a call: 'σ' names the handed blocks, 'τ' what is given back (or new). -/
theorem afterCall (h : Inv B C w a st) {σ τ : Sub} {C1 C2 : Ctx} {fix gone kept : List Tok} {hp : List (Tok × Block)} (hs : ∀ a k, subGet a σ = some k → C1.ρ a = C.ρ k ∧ C1.around a = C.around k)
    (h2 : InvH (B.call C C1 w st.heap σ fix) C2 w' hp) (hτ : subInj τ = true) (hkeys : ∀ k ∈ hp.map (·.1), ∃ k', subGet k τ = some k') (hdom : ∀ a k, (a, k) ∈ τ → subGet a τ = some k ∧ a ∈ hp.map (·.1))
    (hto : ∀ a k, (a, k) ∈ τ → (a ∈ fix ∧ subGet a σ = some k ∧ k ∈ kept) ∨ (k.isNew = true ∧ k ∉ st.heap.map (·.1)))
    (hkept : ∀ k ∈ kept, ∃ a, (a, k) ∈ τ) (hgone : ∀ a k, subGet a σ = some k → k ∈ gone ∨ k ∈ kept) :
    Inv B (C.back C2 τ) w' a ⟨st.len, (killL gone st).slots, hp.map (fun p => (renT τ p.1, p.2.ren (renT τ))) ++ delL kept (killL gone st).heap⟩ ∧
      (∀ k ∈ hp.map (·.1), (C.back C2 τ).ρ (renT τ k) = C2.ρ k) := by
  obtain ⟨hg, hlen, hsub, hks⟩ := killL_sound (ks := gone) h
  have hh := h.heap
  -- names
  have hren : ∀ k ∈ hp.map (·.1), (k, renT τ k) ∈ τ := fun k hk => by
    obtain ⟨k', e⟩ := hkeys k hk
    simp only [renT, e]
    exact subGet_mem e
  have hρ : ∀ k ∈ hp.map (·.1), (C.back C2 τ).ρ (renT τ k) = C2.ρ k ∧ (C.back C2 τ).around (renT τ k) = C2.around k := fun k hk => by
    have e := subInv_of_mem hτ (hren k hk)
    simp [Ctx.back, e]
  have hold : ∀ k ∈ st.heap.map (·.1), (C.back C2 τ).ρ k = C.ρ k ∧ (C.back C2 τ).around k = C.around k := fun k hk => by
    cases e : subInv k τ with
    | none => simp [Ctx.back, e]
    | some a =>
      rcases hto a k (subInv_some e) with ⟨h3, h4, _⟩ | ⟨_, h3⟩
      · obtain ⟨h5, h6⟩ := h2.fixed a h3
        obtain ⟨h7, h8⟩ := hs a k h4
        simp only [Ctx.back, e]
        exact ⟨h5.trans h7, h6.trans h8⟩
      · exact absurd hk h3
  -- the world
  have hF : ∀ g, (B.call C C1 w st.heap σ fix).F0 g → ¬ C.I g ∧ g < w.heap.size ∧ (B.w0.heap.size ≤ g ∨ B.F0 g) := by
    rintro g ⟨a', k, b, _, h4, h5⟩
    exact ⟨(hh.mine _ _ h4 g h5).1, (hh.blocks _ _ h4).lt h5, (hh.mine _ _ h4 g h5).2⟩
  have hevo : Evo (B.call C C1 w st.heap σ fix).F0 w w' := h2.evo
  have hlat : Later C.I w w' := hevo.later fun x hx => ⟨hh.imm x hx, fun hf => (hF x hf).1 hx⟩
  have hgo : Goes C (C.back C2 τ) w w' := ⟨fun b hb => h2.imm0 b hb, hlat⟩
  -- blocks that stay as they were
  have hrest : ∀ k b, (k, b) ∈ delL kept (killL gone st).heap → k ∉ kept ∧ (k, b) ∈ (killL gone st).heap ∧ k ∈ st.heap.map (·.1) ∧ (∀ g, b.at (C.ρ k) = some g → g < w.heap.size ∧ ¬ (B.call C C1 w st.heap σ fix).F0 g) := by
    intro k b hm
    obtain ⟨h3, h4⟩ := mem_delL.1 hm
    obtain ⟨h5, b0, h6, h7⟩ := hsub k b h4
    refine ⟨h3, h4, List.mem_map_of_mem (f := (·.1)) h6, fun g hgv => ?_⟩
    rw [h7] at hgv
    refine ⟨(hh.blocks _ _ h6).lt hgv, ?_⟩
    rintro ⟨a', k', b', h8, h9, h10⟩
    refine hh.apart _ _ _ _ h6 h9 (fun e => ?_) g hgv h10
    subst e
    rcases hgone a' k h8 with h11 | h11
    · exact h5 h11
    · exact h3 h11
  have hrenkeys : ∀ k, k ∈ (hp.map (fun p => (renT τ p.1, p.2.ren (renT τ)))).map (·.1) ↔ ∃ a ∈ hp.map (·.1), renT τ a = k := by
    intro k
    simp only [List.mem_map, Prod.exists, Prod.mk.injEq, exists_eq_right]
    constructor
    · rintro ⟨_, _, ⟨a', b', hm, rfl, _⟩, rfl⟩; exact ⟨a', ⟨a', b', hm, rfl⟩, rfl⟩
    · rintro ⟨a', ⟨_, b', hm, rfl⟩, rfl⟩; exact ⟨_, _, ⟨_, b', hm, rfl, rfl⟩, rfl⟩
  have hinj : ∀ k1 ∈ hp.map (·.1), ∀ k2 ∈ hp.map (·.1), renT τ k1 = renT τ k2 → k1 = k2 := by
    intro k1 m1 k2 m2 e
    have e1 := subInv_of_mem hτ (hren k1 m1)
    have e2 := subInv_of_mem hτ (hren k2 m2)
    rw [e] at e1
    exact Option.some.inj (e1.symm.trans e2)
  have hin : ∀ k ∈ (killL gone st).heap.map (·.1), k ∈ (hp.map (fun p => (renT τ p.1, p.2.ren (renT τ))) ++ delL kept (killL gone st).heap).map (·.1) := by
    intro k hk
    rw [List.map_append, List.mem_append]
    by_cases hkk : k ∈ kept
    · left
      obtain ⟨a', ha'⟩ := hkept k hkk
      obtain ⟨h3, h4⟩ := hdom _ _ ha'
      exact (hrenkeys k).2 ⟨a', h4, by simp [renT, h3]⟩
    · exact .inr (delL_keys.2 ⟨hkk, hk⟩)
  have holdkey : ∀ k ∈ (killL gone st).heap.map (·.1), k ∈ st.heap.map (·.1) := by
    intro k hk
    obtain ⟨b, hb⟩ := mem_keys.1 hk
    obtain ⟨_, b0, h6, _⟩ := hsub k b hb
    exact List.mem_map_of_mem (f := (·.1)) h6
  have hdis : ∀ k ∈ hp.map (·.1), renT τ k ∉ (delL kept (killL gone st).heap).map (·.1) := by
    intro k hk hm
    obtain ⟨h3, h4⟩ := delL_keys.1 hm
    rcases hto _ _ (hren k hk) with ⟨_, _, h5⟩ | ⟨_, h5⟩
    · exact h3 h5
    · exact h5 (holdkey _ h4)
  refine ⟨⟨h.len, h.defers, fun n => ?_, fun n k hk => hin k (hg.named n k hk), ?_⟩, fun k hk => (hρ k hk).1⟩
  · exact (hg.slots n).goes hgo (fun k hk => (hold k (holdkey k (hg.named n k hk))).1)
  refine ⟨?_, ?_, ?_, ?_, ?_, h2.imm, fun b hb => h2.imm0 b (hh.imm0 b hb), ?_, ?_, ?_, hh.fixOld⟩
  · intro k b hm
    rcases List.mem_append.1 hm with hm | hm
    · obtain ⟨⟨a', b'⟩, h3, e⟩ := List.mem_map.1 hm
      cases e
      have hk := List.mem_map_of_mem (f := (·.1)) h3
      exact RelBlock.ren (C := C2) (C' := C.back C2 τ) rfl (h := h2.blocks _ _ h3) (fun k' hk' => (hρ k' (h2.closed _ _ h3 k' hk')).1) (hρ _ hk).1 (hρ _ hk).2
    · obtain ⟨_, h4, h5, h6⟩ := hrest k b hm
      exact (hg.heap.blocks _ _ h4).goes hgo (fun k' hk' => (hold k' (holdkey _ (hg.heap.closed _ _ h4 k' hk'))).1) (hold k h5).1 (hold k h5).2 (fun x hx => hevo.block x (h6 x hx).1 (h6 x hx).2)
  · intro k b hm k' hk'
    rcases List.mem_append.1 hm with hm | hm
    · obtain ⟨⟨a', b'⟩, h3, e⟩ := List.mem_map.1 hm
      cases e
      rw [Block.ren_toks, List.mem_map] at hk'
      obtain ⟨k2, h4, rfl⟩ := hk'
      rw [List.map_append, List.mem_append]
      exact .inl ((hrenkeys _).2 ⟨k2, h2.closed _ _ h3 k2 h4, rfl⟩)
    · obtain ⟨_, h4, _⟩ := hrest k b hm
      exact hin k' (hg.heap.closed _ _ h4 k' hk')
  · rw [List.map_append, List.nodup_append]
    refine ⟨?_, delL_nodup hg.heap.nodup, ?_⟩
    · have e : (hp.map (fun p => (renT τ p.1, p.2.ren (renT τ)))).map (·.1) = (hp.map (·.1)).map (renT τ) := by simp [Function.comp_def]
      rw [e]
      exact nodup_map_on hinj h2.nodup
    · rintro k hk k' hk' rfl
      obtain ⟨a', h3, rfl⟩ := (hrenkeys k).1 hk
      exact hdis a' h3 hk'
  · intro k1 b1 k2 b2 m1 m2 hne g hg1 hg2
    rcases List.mem_append.1 m1 with m1 | m1 <;> rcases List.mem_append.1 m2 with m2 | m2
    · obtain ⟨⟨a1, c1⟩, h3, e⟩ := List.mem_map.1 m1
      cases e
      obtain ⟨⟨a2, c2⟩, h4, e⟩ := List.mem_map.1 m2
      cases e
      rw [Block.ren_at, (hρ _ (List.mem_map_of_mem (f := (·.1)) h3)).1] at hg1
      rw [Block.ren_at, (hρ _ (List.mem_map_of_mem (f := (·.1)) h4)).1] at hg2
      exact h2.apart _ _ _ _ h3 h4 (fun e => hne (by rw [show a1 = a2 from e])) g hg1 hg2
    · obtain ⟨⟨a1, c1⟩, h3, e⟩ := List.mem_map.1 m1
      cases e
      obtain ⟨_, h4, h5, h6⟩ := hrest k2 b2 m2
      rw [Block.ren_at, (hρ _ (List.mem_map_of_mem (f := (·.1)) h3)).1] at hg1
      rw [(hold k2 h5).1] at hg2
      rcases (h2.mine _ _ h3 g hg1).2 with h7 | h7
      · exact absurd (h6 g hg2).1 (Nat.not_lt.2 h7)
      · exact (h6 g hg2).2 h7
    · obtain ⟨⟨a1, c1⟩, h3, e⟩ := List.mem_map.1 m2
      cases e
      obtain ⟨_, h4, h5, h6⟩ := hrest k1 b1 m1
      rw [Block.ren_at, (hρ _ (List.mem_map_of_mem (f := (·.1)) h3)).1] at hg2
      rw [(hold k1 h5).1] at hg1
      rcases (h2.mine _ _ h3 g hg2).2 with h7 | h7
      · exact absurd (h6 g hg1).1 (Nat.not_lt.2 h7)
      · exact (h6 g hg1).2 h7
    · obtain ⟨_, h3, h4, _⟩ := hrest k1 b1 m1
      obtain ⟨_, h5, h6, _⟩ := hrest k2 b2 m2
      rw [(hold k1 h4).1] at hg1
      rw [(hold k2 h6).1] at hg2
      exact hg.heap.apart _ _ _ _ h3 h5 hne g hg1 hg2
  · intro k b hm g hgv
    rcases List.mem_append.1 hm with hm | hm
    · obtain ⟨⟨a', b'⟩, h3, e⟩ := List.mem_map.1 hm
      cases e
      rw [Block.ren_at, (hρ _ (List.mem_map_of_mem (f := (·.1)) h3)).1] at hgv
      obtain ⟨h4, h5⟩ := h2.mine _ _ h3 g hgv
      refine ⟨h4, ?_⟩
      rcases h5 with h5 | h5
      · exact .inl (Nat.le_trans hh.evo.size h5)
      · exact (hF g h5).2.2
    · obtain ⟨_, h4, h5, h6⟩ := hrest k b hm
      rw [(hold k h5).1] at hgv
      obtain ⟨h7, h8⟩ := hg.heap.mine _ _ h4 g hgv
      refine ⟨fun hI => ?_, h8⟩
      rcases h2.immNew g hI with h9 | h9 | h9
      · exact h7 h9
      · exact absurd (h6 g hgv).1 (Nat.not_lt.2 h9)
      · exact (h6 g hgv).2 h9
  · intro b hb
    rcases h2.immNew b hb with h9 | h9 | h9
    · exact hh.immNew b h9
    · exact .inr (.inl (Nat.le_trans hh.evo.size h9))
    · exact .inr (hF b h9).2.2
  · exact hh.evo.trans hevo (fun x hx hf => ((hF x hf).2.2).resolve_left (by omega))
  · intro k hk
    cases e : subInv k τ with
    | none => simp only [Ctx.back, e]; exact hh.fixed k hk
    | some a' =>
      rcases hto a' k (subInv_some e) with ⟨h3, h4, _⟩ | ⟨h3, _⟩
      · obtain ⟨h5, h6⟩ := h2.fixed a' h3
        obtain ⟨h7, h8⟩ := hs a' k h4
        obtain ⟨h9, h10⟩ := hh.fixed k hk
        simp only [Ctx.back, e]
        exact ⟨(h5.trans h7).trans h9, (h6.trans h8).trans h10⟩
      · rw [hh.fixOld k hk] at h3; cases h3
end
end Go.AM

/- Summaries on shapes: functions that are handed blocks of their caller's, that give rows, that may give up. -/
namespace Go.AM
open Go.RowKit

/-- How such a function ends. -/
inductive Out (α : Type) where
  | ret (a : α) | pan

def outK {α R : Type} (x : Option (Out α)) (kr : α → Option R) (kp : Option R) : Option R :=
  match x with
  | some (.ret y) => kr y
  | some .pan => kp
  | none => none

structure Sig where
  ins : Shape
  nIn : Nat
  outs : Shape
  nOut : Nat
  pan : TypeId

/-! Function values as data -/

def allImmC : List Cap → Bool
  | [] => true
  | .imm _ :: r => allImmC r
  | .tok _ :: _ => false

def resOf (t : Ty) : SVal → Option t.den
  | .tup xs => valsOf t (xs.map SVal.v)
  | s => valOf t s

def fnData (m : Summ) (a r : Ty) (caps : List Cap) (x : a.den) : Option r.den :=
  m.run r.den (argS a x ++ caps.map capSV) ⟨1, [], []⟩ (some 0) (fun e st => match e with | none => resOf r (st.get 0) | some _ => none)

def fnA (S : Sums) (a : Atom) : Atom :=
  match a with
  | .func g caps => match S g with
    | some m => match m.fn with
      | some (a, r) => match m.quiet && allImmC caps && parts a with
        | true => .pure (.fn a r) (fnData m a r caps)
        | false => .func g caps
      | none => .func g caps
    | none => .func g caps
  | a => a

section
variable {P : Program} {C : Ctx} {w : World}

theorem RelV1s.svs : ∀ {xs : List V1} {vs : List Value}, RelV1s P C w xs vs → RelSVs P C w (xs.map SVal.v) vs
  | [], _, h => h
  | _ :: _, _, ⟨v, rest, e, h1, h2⟩ => ⟨v, rest, e, h1, RelV1s.svs h2⟩

theorem resOf_rel {t : Ty} {s : SVal} {v : Value} {x : t.den} (h : RelSV P C w s v) (e : resOf t s = some x) : (rels P t).val C.I w x v := by
  cases s with
  | undef => exact valOf_rel h e
  | v y => exact valOf_rel h e
  | tup xs =>
    obtain ⟨vs, rfl, h⟩ := h
    have := valsOf_rel (t := t) (RelV1s.svs h) e
    cases t with
    | unit => rw [show vs = [] from this]; rfl
    | pair a b => exact ⟨vs, rfl, this⟩
    | _ => cases xs <;> cases e

theorem allImmC_toks : ∀ {caps : List Cap}, allImmC caps = true → caps.flatMap Cap.toks = []
  | [], _ => rfl
  | .imm _ :: r, h => by simpa [Cap.toks] using allImmC_toks (caps := r) h
  | .tok _ :: _, h => by cases h

theorem RelSVs.len : ∀ {ss : List SVal} {vs : List Value}, RelSVs P C w ss vs → vs.length = ss.length
  | [], _, h => by rw [show _ = [] from h]; rfl
  | _ :: _, _, ⟨v, rest, e, _, h2⟩ => by rw [e]; simp [RelSVs.len h2]

theorem fnA_rel {S : Sums} (hS : S.Ok P) {a : Atom} {cs : List Value} (h : RelAtom P C w a cs) : RelAtom P C w (fnA S a) cs ∧ (∀ k ∈ (fnA S a).toks, k ∈ a.toks) := by
  unfold fnA
  split
  · rename_i g caps
    split
    · rename_i m hm
      split
      · rename_i ta tr hfn
        split
        · rename_i hc
          simp only [Bool.and_eq_true] at hc
          obtain ⟨⟨hq, hi⟩, hp⟩ := hc
          refine ⟨?_, fun k hk => by cases hk⟩
          obtain ⟨vs, rfl, hv⟩ := h
          have hok := hS g m hm
          refine ⟨_, rfl, g, vs.toArray, rfl, hok.enters, fun w' J hl hJ hb x us hx y hy => ?_⟩
          let B : Base := { P := P, w0 := w', I0 := J, F0 := fun _ => False, ρ0 := fun _ => undef, around0 := fun _ => ([], []), fix := [] }
          let C' : Ctx := { I := J, ρ := C.ρ, around := C.around }
          have hg : Goes C C' w w' := ⟨hJ, hl⟩
          obtain ⟨h1, h2, h3, h4⟩ := argS_rel (P := P) (C := C') (w := w') hp hx
          have hcaps := caps_rel (RelCaps.goes hg (fun k hk => rfl) hv)
          have hinv : Inv B C' w' { tmps := #[undef], defers := [] } ⟨1, [], []⟩ :=
            ⟨rfl, rfl, fun n => trivial, fun n k hk => (by cases hk), ⟨fun k b hm => (by cases hm), fun k b hm => (by cases hm), List.nodup_nil, fun k b _ _ hm => (by cases hm), fun k b hm => (by cases hm), hb, fun b h => h, fun b h => .inl h, Evo.refl _ _, fun k hk => (by cases hk), fun k hk => (by cases hk)⟩⟩
          have := hok.calls (B := B) (C := C') (a := { tmps := #[undef], defers := [] }) (st := ⟨1, [], []⟩) (vals := us ++ vs) rfl hinv (h1.append hcaps) (fun s hs k hk => by
            rcases List.mem_append.1 hs with hs | hs
            · rw [h4 s hs] at hk; cases hk
            · have := caps_toks caps s hs k hk
              rw [allImmC_toks hi] at this; cases this) hy
          rw [show us.toArray ++ vs.toArray = (us ++ vs).toArray by simp]
          refine this.mono fun en w2 hret => ?_
          cases en with
          | returned v =>
            obtain ⟨hbelow, C2, st2, i1, i2⟩ := hret
            have hs0 := i1.slots 0
            simp only [Act.put] at hs0
            refine ⟨v, rfl, hbelow hq, C2.I, i1.heap.imm0, fun b hb => ?_, i1.heap.imm, resOf_rel (by simpa using hs0) i2⟩
            rcases i1.heap.immNew b hb with h5 | h5 | h5
            · exact .inl h5
            · exact .inr h5
            · exact h5.elim
          | panicked chain => obtain ⟨v, C2, st2, _, _, i2⟩ := hret; cases i2
          | outgrown => exact hret.elim
        · exact ⟨h, fun k hk => hk⟩
      · exact ⟨h, fun k hk => hk⟩
    · exact ⟨h, fun k hk => hk⟩
  · exact ⟨h, fun k hk => hk⟩

theorem fnA_atoms {S : Sums} (hS : S.Ok P) : ∀ {as : List Atom} {cs : List Value}, RelAtoms P C w as cs → RelAtoms P C w (as.map (fnA S)) cs ∧ ∀ k ∈ (as.map (fnA S)).flatMap Atom.toks, k ∈ as.flatMap Atom.toks
  | [], _, h => ⟨h, fun k hk => hk⟩
  | a :: as, _, ⟨c1, c2, e, h1, h2⟩ => by
    obtain ⟨r1, r2⟩ := fnA_rel hS h1
    obtain ⟨r3, r4⟩ := fnA_atoms hS h2
    refine ⟨⟨c1, c2, e, r1, r3⟩, fun k hk => ?_⟩
    simp only [List.map_cons, List.flatMap_cons, List.mem_append] at hk ⊢
    exact hk.imp (r2 k) (r4 k)

theorem fnA_v1 {S : Sums} (hS : S.Ok P) {x : V1} {v : Value} (h : RelV1 P C w x v) : RelV1 P C w (x.mapA (fnA S)) v ∧ ∀ k ∈ (x.mapA (fnA S)).atoms.flatMap Atom.toks, k ∈ x.atoms.flatMap Atom.toks := by
  cases x with
  | one a =>
    obtain ⟨r1, r2⟩ := fnA_rel hS (show RelAtom P C w a [v] from h)
    exact ⟨r1, fun k hk => by simpa [V1.atoms] using r2 k (by simpa [V1.atoms, V1.mapA] using hk)⟩
  | agg as =>
    obtain ⟨cs, rfl, h⟩ := h
    obtain ⟨r1, r2⟩ := fnA_atoms hS h
    exact ⟨⟨cs, rfl, r1⟩, r2⟩

theorem fnA_v1s {S : Sums} (hS : S.Ok P) : ∀ {xs : List V1} {vs : List Value}, RelV1s P C w xs vs → RelV1s P C w (xs.map (V1.mapA (fnA S))) vs ∧ ∀ k ∈ ((xs.map (V1.mapA (fnA S))).flatMap V1.atoms).flatMap Atom.toks, k ∈ (xs.flatMap V1.atoms).flatMap Atom.toks
  | [], _, h => ⟨h, fun k hk => hk⟩
  | x :: xs, _, ⟨v, rest, e, h1, h2⟩ => by
    obtain ⟨r1, r2⟩ := fnA_v1 hS h1
    obtain ⟨r3, r4⟩ := fnA_v1s hS h2
    refine ⟨⟨v, rest, e, r1, r3⟩, fun k hk => ?_⟩
    simp only [List.map_cons, List.flatMap_cons, List.flatMap_append, List.mem_append] at hk ⊢
    exact hk.imp (r2 k) (r4 k)

theorem fnA_sv {S : Sums} (hS : S.Ok P) {x : SVal} {v : Value} (h : RelSV P C w x v) : RelSV P C w (x.mapA (fnA S)) v ∧ ∀ k ∈ (x.mapA (fnA S)).toks, k ∈ x.toks := by
  cases x with
  | undef => exact ⟨trivial, fun k hk => hk⟩
  | v x => exact fnA_v1 hS h
  | tup xs =>
    obtain ⟨vs, rfl, h⟩ := h
    obtain ⟨r1, r2⟩ := fnA_v1s hS h
    exact ⟨⟨vs, rfl, r1⟩, r2⟩

theorem fnA_svs {S : Sums} (hS : S.Ok P) : ∀ {ss : List SVal} {vs : List Value}, RelSVs P C w ss vs → RelSVs P C w (ss.map (SVal.mapA (fnA S))) vs
  | [], _, h => h
  | _ :: _, _, ⟨v, rest, e, h1, h2⟩ => ⟨v, rest, e, (fnA_sv hS h1).1, fnA_svs hS h2⟩
end

/-! Arguments -/

def frzArgs (hp : List (Tok × BP)) : List (Nat × SP) → List SVal → St → Option (List SVal × St)
  | [], ss, st => some (ss, st)
  | (n, p) :: ps, ss, st => match slotFrz hp p (ss.getD n .undef) st.heap with
    | [] => frzArgs hp ps ss st
    | ks => match frzL ks ss st with
      | some (ss, st) => frzArgs hp ps ss st
      | none => none

def allOld : List (Tok × BP) → Bool
  | [] => true
  | (k, _) :: r => (!k.isNew) && allOld r
def subDom (hp : List (Tok × BP)) : Sub → Bool
  | [] => true
  | (a, _) :: r => (hp.any fun q => decide (q.1 = a)) && subDom hp r

/-- What a callee gets of its arguments, and what its names stand for. -/
def enter (ins : Shape) (slots : List (Nat × SVal)) (heap : List (Tok × Block)) : Option (DL ins.leafs × Sub) :=
  match SPs.of ins.slots slots [] with
  | none => none
  | some (d, σ) => match BPs.of ins.heap heap σ with
    | none => none
    | some (e, σ) => match subInj σ && subDom ins.heap σ && distinct ins.heap && allOld ins.heap with
      | true => some (DL.append d e, σ)
      | false => none

theorem allOld_spec {k : Tok} : ∀ {hp : List (Tok × BP)}, allOld hp = true → k ∈ hp.map (·.1) → k.isNew = false
  | (k', b) :: r, h, hm => by
    simp only [allOld, Bool.and_eq_true, Bool.not_eq_true'] at h
    rcases List.mem_cons.1 hm with e | hm
    · subst e; exact h.1
    · exact allOld_spec h.2 hm
theorem subDom_spec {a k : Tok} {hp : List (Tok × BP)} : ∀ {σ : Sub}, subDom hp σ = true → (a, k) ∈ σ → a ∈ hp.map (·.1)
  | (x, y) :: r, h, hm => by
    simp only [subDom, Bool.and_eq_true, List.any_eq_true, decide_eq_true_eq] at h
    rcases List.mem_cons.1 hm with e | hm
    · cases e
      obtain ⟨⟨q, h1, h2⟩, _⟩ := h
      exact List.mem_map.2 ⟨q, h1, h2⟩
    · exact subDom_spec h.2 hm

section
variable {B : Base} {C : Ctx} {w : World} {a : Act} {st : St}

theorem frzArgs_sound {hp : List (Tok × BP)} {vals : List Value} : ∀ {ps : List (Nat × SP)} {C : Ctx} {ss ss' : List SVal} {st st' : St}, Inv B C w a st → RelSVs B.P C w ss vals → (∀ s ∈ ss, ∀ k ∈ s.toks, k ∈ st.heap.map (·.1)) → frzArgs hp ps ss st = some (ss', st') →
    ∃ C', Inv B C' w a st' ∧ RelSVs B.P C' w ss' vals ∧ (∀ s ∈ ss', ∀ k ∈ s.toks, k ∈ st'.heap.map (·.1)) ∧ st'.len = st.len
  | [], C, ss, ss', st, st', h, hr, hk, e => by cases e; exact ⟨C, h, hr, hk, rfl⟩
  | (n, p) :: ps, C, ss, ss', st, st', h, hr, hk, e => by
    unfold frzArgs at e
    split at e
    · exact frzArgs_sound h hr hk e
    · split at e
      · rename_i ss1 st1 h1
        obtain ⟨C1, i1, i2, _⟩ := frzL_sound h hr h1
        obtain ⟨_, i3, i4⟩ := frzL_toks h hk h1
        obtain ⟨C', j1, j2, j3, j4⟩ := frzArgs_sound i1 i2 i4 e
        exact ⟨C', j1, j2, j3, j4.trans i3⟩
      · cases e

theorem enter_sound (h : Inv B C w a st) {ins : Shape} {d : DL ins.leafs} {σ : Sub} (e : enter ins st.slots st.heap = some (d, σ)) :
    Inv (B.call C (C.sub σ) w st.heap σ (ins.heap.map (·.1))) (C.sub σ) w a (ins.to st.len d) ∧ (∀ a k, subGet a σ = some k → (C.sub σ).ρ a = C.ρ k ∧ (C.sub σ).around a = C.around k) ∧ (∀ a k, subGet a σ = some k → a ∈ ins.heap.map (·.1)) ∧ subInj σ = true := by
  unfold enter at e
  split at e
  · cases e
  rename_i d1 σ1 h1
  split at e
  · cases e
  rename_i d2 σ h2
  split at e
  case h_2 => cases e
  rename_i hc
  simp only [Bool.and_eq_true] at hc
  obtain ⟨⟨⟨c1, c2⟩, c3⟩, c4⟩ := hc
  cases e
  obtain ⟨l1, r1⟩ := SPs.of_spec (P := B.P) (C := C) (w := w) (tmps := fun n => a.tmps.getD n undef) (len := st.len) h1
  obtain ⟨l2, r2⟩ := BPs.of_spec (P := B.P) (C := C) (w := w) h2
  have hs := C.sub_says σ
  have r1 := r1 _ σ hs l2 h.slots
  have r2 := r2 _ σ hs (Sub.le_refl _)
  have hname : ∀ k, Names σ k → k ∈ (BPs.to ins.heap d2).map (·.1) := fun k ⟨b, hb⟩ => by rw [BPs.keys]; exact subDom_spec c2 (subGet_mem hb)
  have hh := h.heap
  refine ⟨?_, fun a k hk => ⟨hs.ρ _ _ hk, hs.around _ _ hk⟩, fun a k hk => subDom_spec c2 (subGet_mem hk), c1⟩
  simp only [Shape.to, DL.fst_append, DL.snd_append]
  refine ⟨h.len, h.defers, fun n => (r1 n).1, fun n k hk => hname k ((r1 n).2 k hk), ?_⟩
  refine ⟨fun k b hm => ?_, fun k b hm k' hk' => ?_, by rw [BPs.keys]; exact distinct_spec c3, fun k1 b1 k2 b2 m1 m2 hne g hg hg2 => ?_, fun k b hm g hg => ?_, hh.imm, fun b hb => hb, fun b hb => .inl hb, Evo.refl _ _, fun k hk => ⟨rfl, rfl⟩, fun k hk => allOld_spec c4 hk⟩
  · obtain ⟨k0, b0, e1, e2, e3, e4, e5⟩ := r2 k b hm
    exact e4 (hh.blocks _ _ e2)
  · obtain ⟨k0, b0, e1, e2, e3, e4, e5⟩ := r2 k b hm
    exact hname k' (e5 k' hk')
  · obtain ⟨x1, y1, e1, e2, e3, _⟩ := r2 k1 b1 m1
    obtain ⟨x2, y2, f1, f2, f3, _⟩ := r2 k2 b2 m2
    rw [e3, hs.ρ _ _ e1] at hg
    rw [f3, hs.ρ _ _ f1] at hg2
    refine hh.apart _ _ _ _ e2 f2 (fun e => hne ?_) g hg hg2
    subst e
    exact subInj_spec c1 e1 f1
  · obtain ⟨k0, b0, e1, e2, e3, _⟩ := r2 k b hm
    rw [e3, hs.ρ _ _ e1] at hg
    exact ⟨(hh.mine _ _ e2 g hg).1, .inr ⟨k, k0, b0, e1, e2, hg⟩⟩
end

/-! The contract -/

def FnPost (B : Base) (s : Sig) (o : Out (DL s.outs.leafs)) : Ending → World → Prop
  | .returned rv, w' => ∃ y C' us, o = .ret y ∧ us.size = s.nOut ∧ Inv B C' w' { tmps := us, defers := [] } (s.outs.to s.nOut y) ∧ rv = (if h : us.size = 1 then us[0] else .tuple us)
  | .panicked chain, w' => o = .pan ∧ chain = [{ v := .iface s.pan (.agg #[]), recovered := false }] ∧ ∃ C', InvH B C' w' []
  | .outgrown, _ => False

structure FnOk (P : Program) (g : FuncId) (s : Sig) (f : DL s.ins.leafs → Option (Out (DL s.outs.leafs))) : Prop where
  enters : Enters P g
  calls : ∀ (B : Base) (C : Ctx) (w : World) (vs : List Value) (d : DL s.ins.leafs) (o : Out (DL s.outs.leafs)), B.P = P → vs.length = s.nIn → Inv B C w { tmps := vs.toArray, defers := [] } (s.ins.to s.nIn d) → f d = some o → Calls P g vs.toArray w (FnPost B s o)

/-! What is behind a call -/

def keptT : Sub → List Tok
  | [] => []
  | (a, k) :: r => match a.isNew with | true => keptT r | false => k :: keptT r
def hasT (k : Tok) : List Tok → Bool
  | [] => false
  | x :: r => if x = k then true else hasT k r
def goneT (kept : List Tok) : Sub → List Tok
  | [] => []
  | (_, k) :: r => match hasT k kept with | true => goneT kept r | false => k :: goneT kept r

theorem hasT_iff {k : Tok} : ∀ {l : List Tok}, hasT k l = true ↔ k ∈ l
  | [] => by simp [hasT]
  | x :: r => by
    simp only [hasT, List.mem_cons]
    split
    · rename_i e; simp [e]
    · rename_i e; rw [hasT_iff]; simp [Ne.symm e]

theorem keptT_mem {k : Tok} : ∀ {τ : Sub}, k ∈ keptT τ ↔ ∃ a, (a, k) ∈ τ ∧ a.isNew = false
  | [] => by simp [keptT]
  | (x, y) :: r => by
    simp only [keptT]
    split
    · rename_i e
      rw [keptT_mem]
      exact ⟨fun ⟨a, h1, h2⟩ => ⟨a, List.mem_cons_of_mem _ h1, h2⟩, fun ⟨a, h1, h2⟩ => by
        rcases List.mem_cons.1 h1 with e1 | h1
        · cases e1; rw [e] at h2; cases h2
        · exact ⟨a, h1, h2⟩⟩
    · rename_i e
      rw [List.mem_cons, keptT_mem]
      constructor
      · rintro (rfl | ⟨a, h1, h2⟩)
        · exact ⟨x, List.mem_cons_self .., e⟩
        · exact ⟨a, List.mem_cons_of_mem _ h1, h2⟩
      · rintro ⟨a, h1, h2⟩
        rcases List.mem_cons.1 h1 with e1 | h1
        · cases e1; exact .inl rfl
        · exact .inr ⟨a, h1, h2⟩

theorem goneT_mem {kept : List Tok} {a k : Tok} : ∀ {σ : Sub}, (a, k) ∈ σ → k ∈ goneT kept σ ∨ k ∈ kept
  | (x, y) :: r, h => by
    simp only [goneT]
    rcases List.mem_cons.1 h with e | h
    · cases e
      split
      · rename_i e; exact .inr (hasT_iff.1 e)
      · exact .inl (List.mem_cons_self ..)
    · split
      · exact goneT_mem h
      · exact (goneT_mem h).imp_left (List.mem_cons_of_mem _)

/-- The caller's names for what a callee gives back, and for what it gives. -/
def outToks (σ : Sub) (n : Nat) (h : List (Tok × Block)) : Nat → List (Tok × BP) → Option Sub
  | _, [] => some []
  | i, (a, _) :: r => match outToks σ n h (i + 1) r with
    | none => none
    | some τ => match a.isNew with
      | false => match subGet a σ with | some k => some ((a, k) :: τ) | none => none
      | true => match hhas (.s n i) h with | true => none | false => some ((a, .s n i) :: τ)

theorem outToks_spec {σ : Sub} {n : Nat} {h : List (Tok × Block)} : ∀ {hp : List (Tok × BP)} {i : Nat} {τ : Sub}, outToks σ n h i hp = some τ → τ.map (·.1) = hp.map (·.1) ∧ ∀ a k, (a, k) ∈ τ → (a.isNew = false ∧ subGet a σ = some k) ∨ (a.isNew = true ∧ k.isNew = true ∧ k ∉ h.map (·.1))
  | [], i, τ, e => by cases e; exact ⟨rfl, fun a k hm => by cases hm⟩
  | (x, b) :: r, i, τ, e => by
    unfold outToks at e
    split at e
    · cases e
    rename_i τ1 h1
    obtain ⟨r1, r2⟩ := outToks_spec h1
    split at e
    · rename_i hn
      split at e
      · rename_i k hk
        cases e
        refine ⟨by simp [r1], fun a k hm => ?_⟩
        rcases List.mem_cons.1 hm with e1 | hm
        · cases e1; exact .inl ⟨hn, hk⟩
        · exact r2 a k hm
      · cases e
    · rename_i hn
      split at e
      · cases e
      · rename_i hk
        cases e
        refine ⟨by simp [r1], fun a k hm => ?_⟩
        rcases List.mem_cons.1 hm with e1 | hm
        · cases e1
          exact .inr ⟨hn, rfl, fun hm => by rw [hhas_iff.2 hm] at hk; cases hk⟩
        · exact r2 a k hm

def resV1s (slots : List (Nat × SVal)) (f : Tok → Tok) : Nat → Nat → Option (List V1)
  | _, 0 => some []
  | i, n + 1 => match sget i slots, resV1s slots f (i + 1) n with
    | .v x, some xs => some (x.ren f :: xs)
    | _, _ => none
def resV (slots : List (Nat × SVal)) (f : Tok → Tok) (n : Nat) : Option SVal :=
  match n with
  | 1 => match sget 0 slots with | .v x => some (.v (x.ren f)) | _ => none
  | n => match resV1s slots f 0 n with | some xs => some (.tup xs) | none => none

def backSt (σ τ : Sub) (st : St) (hp : List (Tok × Block)) : St :=
  match killL (goneT (keptT τ) σ) st with
  | st1 => ⟨st.len, st1.slots, hp.map (fun p => (renT τ p.1, p.2.ren (renT τ))) ++ delL (keptT τ) st1.heap⟩

def backK {R : Type} (s : Sig) (σ : Sub) (st : St) (dst : Option Tmp) (y : DL s.outs.leafs) (K : St → Option R) : Option R :=
  match outToks σ (match dst with | some n => n | none => 9999) st.heap 20 s.outs.heap with
  | none => none
  | some τ => match subInj τ with
    | false => none
    | true => match resV (SPs.to s.nOut s.outs.slots (DL.fst y)) (renT τ) s.nOut with
      | none => none
      | some v => K (St.putD (backSt σ τ st (BPs.to s.outs.heap (DL.snd y))) dst v)

def sigRun2 {R : Type} (s : Sig) (go : DL s.ins.leafs → (DL s.outs.leafs → Option R) → Option R → Option R) (st stE : St) (dst : Option Tmp) (K : Option Value → St → Option R) : Option R :=
  match enter s.ins stE.slots stE.heap with
  | none => none
  | some (d, σ) => go d (fun y => backK s σ ⟨st.len, st.slots, stE.heap⟩ dst y (K none)) (K (some (.iface s.pan (.agg #[]))) (killL (σ.map (·.2)) ⟨st.len, st.slots, stE.heap⟩))

def sigRun (S : Sums) (s : Sig) {R : Type} (go : DL s.ins.leafs → (DL s.outs.leafs → Option R) → Option R → Option R) (args : List SVal) (st : St) (dst : Option Tmp) (K : Option Value → St → Option R) : Option R :=
  match frzArgs s.ins.heap s.ins.slots args st with
  | none => none
  | some (args, st) => match Nat.beq args.length s.nIn with
    | false => none
    | true => sigRun2 s go st (nilOwn s.ins.heap s.ins.slots ⟨s.nIn, numbered 0 (args.map (SVal.mapA (fnA S))), st.heap⟩) dst K

section
variable {B : Base} {C : Ctx} {w : World} {a : Act} {st : St}

theorem numbered_get {P : Program} {ss : List SVal} {vs : List Value} (h : RelSVs P C w ss vs) (n : Nat) : RelSV P C w (sget n (numbered 0 ss)) (vs.toArray.getD n undef) := by
  rw [sget_numbered, if_pos (Nat.zero_le _), Nat.sub_zero]
  have := RelSVs.get h n
  simpa using this

theorem resV1s_rel {P : Program} {C C' : Ctx} {w : World} {f : Tok → Tok} {slots : List (Nat × SVal)} {us : Array Value} (hI : C'.I = C.I) (hs : ∀ n, RelSV P C w (sget n slots) (us.getD n undef)) (hf : ∀ n, ∀ k ∈ (sget n slots).toks, C'.ρ (f k) = C.ρ k) :
    ∀ (n i : Nat) {xs : List V1}, resV1s slots f i n = some xs → RelV1s P C' w xs ((List.range' i n).map fun j => us.getD j undef) ∧ ∀ k ∈ (xs.flatMap V1.atoms).flatMap Atom.toks, ∃ k0, (∃ m, k0 ∈ (sget m slots).toks) ∧ k = f k0
  | 0, i, xs, e => by cases e; exact ⟨rfl, fun k hk => by cases hk⟩
  | n + 1, i, xs, e => by
    simp only [resV1s] at e
    split at e
    · rename_i x xs' hx hxs
      cases e
      obtain ⟨r1, r2⟩ := resV1s_rel hI hs hf n (i + 1) hxs
      have h1 := hs i
      have h2 := hf i
      rw [hx] at h1 h2
      refine ⟨⟨_, _, rfl, RelV1.ren (x := x) hI (fun k hk => h2 k hk) h1, r1⟩, fun k hk => ?_⟩
      simp only [List.flatMap_cons, List.flatMap_append, List.mem_append] at hk
      rcases hk with hk | hk
      · rw [V1.ren_toks, List.mem_map] at hk
        obtain ⟨k0, h3, rfl⟩ := hk
        exact ⟨k0, ⟨i, by rw [hx]; exact h3⟩, rfl⟩
      · exact r2 k hk
    · cases e

theorem resV_rel {P : Program} {C C' : Ctx} {w : World} {f : Tok → Tok} {slots : List (Nat × SVal)} {us : Array Value} (hI : C'.I = C.I) (hs : ∀ n, RelSV P C w (sget n slots) (us.getD n undef)) (hf : ∀ n, ∀ k ∈ (sget n slots).toks, C'.ρ (f k) = C.ρ k)
    {v : SVal} {sz : Nat} (hsz : us.size = sz) (e : resV slots f sz = some v) : RelSV P C' w v (if h : us.size = 1 then us[0] else .tuple us) ∧ ∀ k ∈ v.toks, ∃ k0, (∃ m, k0 ∈ (sget m slots).toks) ∧ k = f k0 := by
  subst hsz
  unfold resV at e
  split at e
  · rename_i h1
    split at e
    · rename_i x hx
      cases e
      have h2 := hs 0
      have h3 := hf 0
      rw [hx] at h2 h3
      rw [dif_pos h1]
      refine ⟨?_, fun k hk => ?_⟩
      · have := RelV1.ren (x := x) hI (fun k hk => h3 k hk) h2
        show RelV1 P C' w (x.ren f) us[0]
        simpa [Array.getD_eq_getD_getElem?, h1] using this
      · simp only [SVal.toks, SVal.atoms] at hk
        rw [V1.ren_toks, List.mem_map] at hk
        obtain ⟨k0, h3, rfl⟩ := hk
        exact ⟨k0, ⟨0, by rw [hx]; exact h3⟩, rfl⟩
    · cases e
  · rename_i h1
    split at e
    · rename_i xs hxs
      cases e
      obtain ⟨r1, r2⟩ := resV1s_rel hI hs hf _ 0 hxs
      rw [dif_neg (fun h => h1 h)]
      refine ⟨⟨us.toList, by simp, ?_⟩, r2⟩
      have e : (List.range' 0 us.size).map (fun j => us.getD j undef) = us.toList := by
        apply List.ext_getElem
        · simp
        · intro i h1 h2
          simp at h1
          simp [h1]
      rw [← e]; exact r1
    · cases e
end
end Go.AM

/- A call by a contract on shapes; functions on shapes. -/
namespace Go.AM
open Go.RowKit

section
variable {B : Base} {C : Ctx} {w : World} {a : Act} {st : St}

theorem killL_inv {ks : List Tok} (h : Inv B C w a st) : Inv B C w a (killL ks st) := (killL_sound h).1

theorem mem_fst_nodup {a k : Tok} : ∀ {τ : Sub}, (τ.map (·.1)).Nodup → (a, k) ∈ τ → subGet a τ = some k
  | (x, y) :: r, hn, hm => by
    rw [List.map_cons, List.nodup_cons] at hn
    simp only [subGet]
    rcases List.mem_cons.1 hm with e | hm
    · cases e; simp
    · split
      · rename_i e
        subst e
        exact absurd (List.mem_map_of_mem (f := (·.1)) hm) hn.1
      · exact mem_fst_nodup hn.2 hm

theorem St.eta' {st : St} {len : Nat} (h : st.len = len) : st = ⟨len, st.slots, st.heap⟩ := by subst h; rfl

theorem InvH.none {h : List (Tok × Block)} (i : InvH B C w h) : InvH B C w [] :=
  ⟨fun k b hm => (by cases hm), fun k b hm => (by cases hm), List.nodup_nil, fun k b _ _ hm => (by cases hm), fun k b hm => (by cases hm), i.imm, i.imm0, i.immNew, i.evo, i.fixed, i.fixOld⟩

/-- Behind a call. -/
theorem backK_sound (h : Inv B C w a st) {σ : Sub} {C1 C2 : Ctx} {fix : List Tok} {w' : World} {s : Sig} {y : DL s.outs.leafs} {us : Array Value} {dst : Option Tmp} {R : Type} {K : St → Option R} {r : R}
    (hs : ∀ a k, subGet a σ = some k → C1.ρ a = C.ρ k ∧ C1.around a = C.around k) (hfix : ∀ a k, subGet a σ = some k → a ∈ fix) (hn : us.size = s.nOut)
    (h2 : Inv (B.call C C1 w st.heap σ fix) C2 w' { tmps := us, defers := [] } (s.outs.to s.nOut y)) (e : backK s σ st dst y K = some r) :
    ∃ C3 st3, Inv B C3 w' (a.put dst (if h : us.size = 1 then us[0] else .tuple us)) st3 ∧ K st3 = some r := by
  unfold backK at e
  split at e
  · cases e
  rename_i τ hτ
  split at e
  · cases e
  rename_i hinj
  split at e
  · cases e
  rename_i v hv
  obtain ⟨t1, t2⟩ := outToks_spec hτ
  have hkeysEq : (BPs.to s.outs.heap (DL.snd y)).map (·.1) = τ.map (·.1) := by rw [BPs.keys, t1]
  have hnod : (τ.map (·.1)).Nodup := by rw [← hkeysEq]; exact h2.heap.nodup
  obtain ⟨i1, i2⟩ := afterCall (gone := goneT (keptT τ) σ) (kept := keptT τ) h hs h2.heap hinj
    (fun k hk => by
      have hk : k ∈ τ.map (·.1) := by rw [← hkeysEq]; exact hk
      obtain ⟨⟨a', k'⟩, h3, rfl⟩ := List.mem_map.1 hk
      exact ⟨k', mem_fst_nodup hnod h3⟩)
    (fun a' k hm => ⟨mem_fst_nodup hnod hm, by
      show a' ∈ (BPs.to s.outs.heap (DL.snd y)).map (·.1)
      rw [hkeysEq]; exact List.mem_map_of_mem (f := (·.1)) hm⟩)
    (fun a' k hm => by
      rcases t2 a' k hm with ⟨h3, h4⟩ | ⟨h3, h4⟩
      · exact .inl ⟨hfix _ _ h4, h4, keptT_mem.2 ⟨a', hm, h3⟩⟩
      · exact .inr h4)
    (fun k hk => by obtain ⟨a', h3, _⟩ := keptT_mem.1 hk; exact ⟨a', h3⟩)
    (fun a' k hk => goneT_mem (subGet_mem hk))
  have hsl : ∀ n, RelSV B.P C2 w' (sget n (SPs.to s.nOut s.outs.slots (DL.fst y))) (us.getD n undef) := fun n => h2.slots n
  have hnm : ∀ n, ∀ k ∈ (sget n (SPs.to s.nOut s.outs.slots (DL.fst y))).toks, k ∈ (BPs.to s.outs.heap (DL.snd y)).map (·.1) := fun n => h2.named n
  obtain ⟨r1, r2⟩ := resV_rel (C := C2) (C' := C.back C2 τ) (f := renT τ) rfl hsl (fun n k hk => i2 k (hnm n k hk)) hn hv
  refine ⟨_, _, i1.putD r1 (fun k hk => ?_), e⟩
  obtain ⟨k0, ⟨m, h3⟩, rfl⟩ := r2 k hk
  have h4 := hnm m k0 h3
  obtain ⟨b, hb⟩ := mem_keys.1 h4
  rw [List.map_append, List.mem_append]
  exact .inl (List.mem_map.2 ⟨_, List.mem_map.2 ⟨_, hb, rfl⟩, rfl⟩)

theorem sigRun_sound {S : Sums} (hS : S.Ok B.P) {g : FuncId} {s : Sig} {f : DL s.ins.leafs → Option (Out (DL s.outs.leafs))} (hf : FnOk B.P g s f) {R : Type} {go : DL s.ins.leafs → (DL s.outs.leafs → Option R) → Option R → Option R}
    (hgo : ∀ d kr kp r, go d kr kp = some r → (∃ y, f d = some (.ret y) ∧ kr y = some r) ∨ (f d = some .pan ∧ kp = some r))
    {args : List SVal} {vals : List Value} {dst : Option Tmp} {K : Option Value → St → Option R} {r : R} (h : Inv B C w a st) (hr : RelSVs B.P C w args vals) (hk : ∀ s ∈ args, ∀ k ∈ s.toks, k ∈ st.heap.map (·.1))
    (e : sigRun S s go args st dst K = some r) : Calls B.P g vals.toArray w (CallPost B a dst K r w s.ins.heap.isEmpty) := by
  unfold sigRun at e
  split at e
  · cases e
  rename_i args1 st1 h1
  obtain ⟨C1, i1, r1, k1, l1⟩ := frzArgs_sound h hr hk h1
  split at e
  · cases e
  rename_i hlen
  have hlen := Nat.eq_of_beq_eq_true hlen
  have r2 := fnA_svs hS r1
  have hvl : vals.length = s.nIn := by rw [r2.len]; simpa using hlen
  have hE : Inv B C1 w { tmps := vals.toArray, defers := [] } ⟨s.nIn, numbered 0 (args1.map (SVal.mapA (fnA S))), st1.heap⟩ := by
    refine ⟨by simp [hvl], rfl, fun n => numbered_get r2 n, fun n k hk => ?_, i1.heap⟩
    change k ∈ (sget n (numbered 0 (args1.map (SVal.mapA (fnA S))))).toks at hk
    rw [sget_numbered, if_pos (Nat.zero_le _), Nat.sub_zero, List.getD_eq_getElem?_getD, List.getElem?_map] at hk
    cases hx : args1[n]? with
    | none => rw [hx] at hk; cases hk
    | some x =>
      rw [hx] at hk
      have hm := List.mem_of_getElem? hx
      have hvx : ∃ u, RelSV B.P C1 w x u := by
        have := RelSVs.get r1 n
        rw [List.getD_eq_getElem?_getD, hx] at this
        exact ⟨_, this⟩
      obtain ⟨u, hu⟩ := hvx
      exact k1 x hm k ((fnA_sv hS hu).2 k hk)
  obtain ⟨C2, i2, l2, x2, ks2⟩ := nilOwn_sound (hp := s.ins.heap) (ps := s.ins.slots) hE
  generalize hst : nilOwn s.ins.heap s.ins.slots ⟨s.nIn, numbered 0 (args1.map (SVal.mapA (fnA S))), st1.heap⟩ = stE at *
  have hc : Inv B C2 w a ⟨st1.len, st1.slots, stE.heap⟩ :=
    ⟨i1.len, i1.defers, fun n => (i1.slots n).goes (x2.goes w) (fun k hk => x2.ρ k (i1.named n k hk)), fun n k hk => ks2 k (i1.named n k hk), i2.heap⟩
  unfold sigRun2 at e
  split at e
  · cases e
  rename_i d σ hd
  obtain ⟨j1, j2, j3, j4⟩ := enter_sound i2 hd
  rw [l2] at j1
  have key : ∀ o, f d = some o → Calls B.P g vals.toArray w (FnPost (B.call C2 (C2.sub σ) w stE.heap σ (s.ins.heap.map (·.1))) s o) := fun o ho => hf.calls _ _ w vals d o rfl hvl j1 ho
  have hbelow : ∀ {C3 w' hp}, InvH (B.call C2 (C2.sub σ) w stE.heap σ (s.ins.heap.map (·.1))) C3 w' hp → s.ins.heap.isEmpty = true → Below w.heap.size w w' := by
    intro C3 w' hp hi he
    refine hi.evo.below (fun x _ hF => ?_)
    obtain ⟨a', k', b', h4, _⟩ := hF
    have := j3 _ _ h4
    rw [List.isEmpty_iff] at he
    rw [he] at this; cases this
  rcases hgo _ _ _ _ e with ⟨y, hy, e⟩ | ⟨hy, e⟩
  · refine (key _ hy).mono fun en w' hp => ?_
    cases en with
    | returned rv =>
      obtain ⟨y', C3, us, ho, hn, i3, rfl⟩ := hp
      cases ho
      refine ⟨fun hq => hbelow i3.heap hq, ?_⟩
      exact backK_sound hc j2 j3 hn i3 e
    | panicked chain => cases hp.1
    | outgrown => exact hp.elim
  · refine (key _ hy).mono fun en w' hp => ?_
    cases en with
    | returned rv => obtain ⟨y', C3, us, ho, _⟩ := hp; cases ho
    | panicked chain =>
      obtain ⟨_, rfl, C3, i3⟩ := hp
      obtain ⟨i4, _⟩ := afterCall (τ := []) (gone := σ.map (·.2)) (kept := []) hc j2 i3 rfl (fun k hk => by cases hk) (fun a k hm => by cases hm) (fun a k hm => by cases hm) (fun k hk => by cases hk)
        (fun a k hk => .inl (List.mem_map_of_mem (f := (·.2)) (subGet_mem hk)))
      have hst4 := St.eta' (killL_sound (ks := σ.map (·.2)) hc).2.1
      have i5 : Inv B (C2.back C3 []) w' a (killL (σ.map (·.2)) ⟨st1.len, st1.slots, stE.heap⟩) := by rw [hst4]; exact i4
      exact ⟨_, _, _, rfl, i5, e⟩
    | outgrown => exact hp.elim
end

/-- The summary of a function that may give up. -/
def Summ.ofFn (S : Sums) (s : Sig) (fn : Option (Ty × Ty)) (f : DL s.ins.leafs → Option (Out (DL s.outs.leafs))) : Summ where
  quiet := s.ins.heap.isEmpty
  fn := fn
  run := fun _ args st dst K => sigRun S s (fun d kr kp => outK (f d) kr kp) args st dst K

theorem Summ.ofFn_ok {P : Program} {S : Sums} (hS : S.Ok P) {g : FuncId} {s : Sig} {fn : Option (Ty × Ty)} {f : DL s.ins.leafs → Option (Out (DL s.outs.leafs))} (hf : FnOk P g s f) : (Summ.ofFn S s fn f).Ok P g := by
  refine ⟨hf.enters, fun {R B C w a st args vals dst K r} hP hi hr hk e => ?_⟩
  subst hP
  refine sigRun_sound hS hf (fun d kr kp r h => ?_) hi hr hk e
  unfold outK at h
  split at h
  · rename_i y hy; exact .inl ⟨y, hy, h⟩
  · rename_i hy; exact .inr ⟨hy, h⟩
  · cases h

/-- The contract of a function that does not. -/
def FnOkN (P : Program) (g : FuncId) (s : Sig) (f : DL s.ins.leafs → Option (DL s.outs.leafs)) : Prop := FnOk P g s fun d => (f d).map Out.ret

def Summ.ofFnN (S : Sums) (s : Sig) (fn : Option (Ty × Ty)) (f : DL s.ins.leafs → Option (DL s.outs.leafs)) : Summ where
  quiet := s.ins.heap.isEmpty
  fn := fn
  run := fun _ args st dst K => sigRun S s (fun d kr _ => bindO (f d) kr) args st dst K

theorem Summ.ofFnN_ok {P : Program} {S : Sums} (hS : S.Ok P) {g : FuncId} {s : Sig} {fn : Option (Ty × Ty)} {f : DL s.ins.leafs → Option (DL s.outs.leafs)} (hf : FnOkN P g s f) : (Summ.ofFnN S s fn f).Ok P g := by
  refine ⟨hf.enters, fun {R B C w a st args vals dst K r} hP hi hr hk e => ?_⟩
  subst hP
  refine sigRun_sound hS hf (fun d kr kp r h => ?_) hi hr hk e
  obtain ⟨y, hy, h⟩ := bindO_some h
  exact .inl ⟨y, by simp [hy], h⟩

/-! The functions -/

/-- Results out of cells too. -/
def resC (E : TEnv) (st : St) : List ResultVar → Option (List SVal)
  | [] => some []
  | .tmp t :: rs => match resC E st rs with | some ss => some (st.get t :: ss) | none => none
  | .cell c T :: rs => match execLoad E.ti T (st.get c) st (fun s => some s), resC E st rs with
    | some s, some ss => some (s :: ss)
    | _, _ => none

def resF (E : TEnv) (S : Sums) (rs : List ResultVar) (s : Sig) (st : St) : Option (DL s.outs.leafs) :=
  match resC E st rs with
  | none => none
  | some ss => match Nat.beq ss.length s.nOut with
    | false => none
    | true => match s.outs.ready ⟨s.nOut, numbered 0 ss, st.heap⟩ with
      | none => none
      | some st => s.outs.of ⟨st.len, st.slots.map fun p => (p.1, p.2.mapA (fnA S)), st.heap⟩

def isPan (T : TypeId) : Value → Bool
  | .iface T' (.agg ⟨[]⟩) => Nat.beq T' T
  | _ => false

def retF (E : TEnv) (S : Sums) (rs : List ResultVar) (s : Sig) : Ex → St → Option (Out (DL s.outs.leafs))
  | .normal, st => match resF E S rs s st with | some y => some (.ret y) | none => none
  | .ret, st => match resF E S rs s st with | some y => some (.ret y) | none => none
  | .panic v, _ => match isPan s.pan v with | true => some .pan | false => none
  | .exit _, _ => none
def retN (E : TEnv) (S : Sums) (rs : List ResultVar) (s : Sig) : Ex → St → Option (DL s.outs.leafs)
  | .normal, st => resF E S rs s st
  | .ret, st => resF E S rs s st
  | _, _ => none

def inSt (s : Sig) (len : Nat) (d : DL s.ins.leafs) : St := match s.ins.to s.nIn d with | st => ⟨len, st.slots, st.heap⟩

abbrev RD := (R : Type) → Array Oper → St → (St → Option R) → (Value → St → Option R) → Option R

/-- What a function tells of data, that may give up. -/
def funF (E : TEnv) (S : Sums) (rd : RD) (an : Ann) (c : Code) (len : Nat) (rs : List ResultVar) (s : Sig) (fuel : Nat) (d : DL s.ins.leafs) : Option (Out (DL s.outs.leafs)) :=
  run E S rd fuel len an c (Out (DL s.outs.leafs)) (retF E S rs s) (inSt s len d)
/-- The same, of one that does not. -/
def funN (E : TEnv) (S : Sums) (rd : RD) (an : Ann) (c : Code) (len : Nat) (rs : List ResultVar) (s : Sig) (fuel : Nat) (d : DL s.ins.leafs) : Option (DL s.outs.leafs) :=
  run E S rd fuel len an c (DL s.outs.leafs) (retN E S rs s) (inSt s len d)

section
variable {B : Base} {C : Ctx} {w : World} {a : Act} {st : St} {E : TEnv}

theorem load_run {P : Program} {T : TypeId} {x v : Value} (h : (Instr.loadAt T x).run P w = .ok v w) : (do loadVar T (← asAddr x) : Sem Value).run P w = .ok v w := by
  cases x with
  | pointer p =>
    cases p with
    | some p => exact h
    | none => simp [Instr.loadAt, Instr.sureAddr, stuck] at h
  | _ => simp [Instr.loadAt, Instr.sureAddr, stuck] at h

theorem resC_rel (hE : TIs B.P E.ti) (h : Inv B C w a st) : ∀ {rs : List ResultVar} {ss : List SVal}, resC E st rs = some ss → ∃ vs, RelSVs B.P C w ss vs ∧ (rs.mapM (resVar a.tmps)).run B.P w = .ok vs w ∧ ∀ s ∈ ss, ∀ k ∈ s.toks, k ∈ st.heap.map (·.1)
  | [], ss, e => by cases e; exact ⟨[], rfl, rfl, fun s hs => by cases hs⟩
  | .tmp t :: rs, ss, e => by
    simp only [resC] at e
    split at e
    · rename_i ss' h'
      cases e
      obtain ⟨vs, h1, h2, h3⟩ := resC_rel hE h h'
      refine ⟨a.tmps.getD t undef :: vs, ⟨_, _, rfl, h.slots t, h1⟩, ?_, fun s hs k hk => ?_⟩
      · simp only [List.mapM_cons, resVar, pure_bind, Sem.run_bind, h2, Result.andThen_ok]
        rfl
      · rcases List.mem_cons.1 hs with rfl | hs
        · exact h.named t k hk
        · exact h3 s hs k hk
    · cases e
  | .cell c T :: rs, ss, e => by
    simp only [resC] at e
    split at e
    · rename_i s ss' hs h'
      cases e
      obtain ⟨vs, h1, h2, h3⟩ := resC_rel hE h h'
      obtain ⟨s', hs', v, h4, h5, h6⟩ := execLoad_sound hE h (h.slots c) hs
      cases hs'
      have h4 := h4 w (Below.refl _ _)
      refine ⟨v :: vs, ⟨_, _, rfl, h5, h1⟩, ?_, fun s2 hs2 k hk => ?_⟩
      · have h4' : (do loadVar T (← asAddr (a.tmps.getD c undef)) : Sem Value).run B.P w = .ok v w := load_run h4
        simp only [List.mapM_cons, resVar, Sem.run_bind] at h4' ⊢
        rw [h4']
        simp only [Result.andThen_ok, Sem.run_bind, h2]
        rfl
      · rcases List.mem_cons.1 hs2 with rfl | hs2
        · exact h6 k hk
        · exact h3 s2 hs2 k hk
    · cases e

theorem resF_sound {S : Sums} (hE : TIs B.P E.ti) (hS : S.Ok B.P) (h : Inv B C w a st) {fn : Func} {s : Sig} {y : DL s.outs.leafs} (e : resF E S fn.results.toList s st = some y) :
    ∃ us C', us.size = s.nOut ∧ Inv B C' w { tmps := us, defers := [] } (s.outs.to s.nOut y) ∧ (results fn a.tmps).run B.P w = .ok (if h : us.size = 1 then us[0] else .tuple us) w := by
  unfold resF at e
  split at e
  · cases e
  rename_i ss hss
  split at e
  · cases e
  rename_i hlen
  have hlen := Nat.eq_of_beq_eq_true hlen
  split at e
  · cases e
  rename_i st1 hst1
  obtain ⟨vs, h1, h2, h3⟩ := resC_rel hE h hss
  have hvl : vs.length = s.nOut := h1.len.trans hlen
  have hi : Inv B C w { tmps := vs.toArray, defers := [] } ⟨s.nOut, numbered 0 ss, st.heap⟩ := by
    refine ⟨by simp [hvl], rfl, fun n => numbered_get h1 n, fun n k hk => ?_, h.heap⟩
    change k ∈ (sget n (numbered 0 ss)).toks at hk
    rw [sget_numbered, if_pos (Nat.zero_le _), Nat.sub_zero, List.getD_eq_getElem?_getD] at hk
    cases hx : ss[n]? with
    | none => rw [hx] at hk; cases hk
    | some x => rw [hx] at hk; exact h3 x (List.mem_of_getElem? hx) k hk
  obtain ⟨C1, i1, l1⟩ := Shape.ready_sound hi hst1
  have i2 : Inv B C1 w { tmps := vs.toArray, defers := [] } ⟨st1.len, st1.slots.map fun p => (p.1, p.2.mapA (fnA S)), st1.heap⟩ := by
    have hg : ∀ n, sget n (st1.slots.map fun p => (p.1, p.2.mapA (fnA S))) = (sget n st1.slots).mapA (fnA S) := fun n => sget_map (SVal.mapA (fnA S)) rfl n _
    refine ⟨i1.len, rfl, fun n => ?_, fun n k hk => ?_, i1.heap⟩
    · show RelSV _ _ _ (sget n _) _
      rw [hg]; exact (fnA_sv hS (i1.slots n)).1
    · change k ∈ (sget n _).toks at hk
      rw [hg] at hk; exact i1.named n k ((fnA_sv hS (i1.slots n)).2 k hk)
  obtain ⟨C2, i3⟩ := Shape.of_sound i2 e
  refine ⟨vs.toArray, C2, by simp [hvl], ?_, ?_⟩
  · rw [l1] at i3; exact i3
  · rw [results_eq, Array.mapM_eq_mapM_toList, Sem.run_bind]
    simp only [map_eq_pure_bind, Sem.run_bind, h2, Result.andThen_ok, Sem.run_pure]

theorem inSt_inv {s : Sig} {len : Nat} {d : DL s.ins.leafs} {vs : List Value} (hl : vs.length = s.nIn) (hn : s.nIn ≤ len) (h : Inv B C w { tmps := vs.toArray, defers := [] } (s.ins.to s.nIn d)) :
    Inv B C w { tmps := vs.toArray ++ Array.replicate (len - vs.toArray.size) undef, defers := [] } (inSt s len d) := by
  refine ⟨by simp [inSt]; omega, rfl, fun n => ?_, fun n k hk => h.named n k hk, h.heap⟩
  have h1 := h.slots n
  change RelSV _ _ _ (sget n (SPs.to s.nIn s.ins.slots (DL.fst d))) _ at h1
  show RelSV _ _ _ (sget n (SPs.to s.nIn s.ins.slots (DL.fst d))) _
  rcases Nat.lt_or_ge n s.nIn with hlt | hge
  · simp only [Array.getD_eq_getD_getElem?] at h1 ⊢
    rw [Array.getElem?_append_left (by simp; omega)]
    exact h1
  · have : ∀ (ps : List (Nat × SP)) (d : DL (SPs.leafs ps)), sget n (SPs.to s.nIn ps d) = .undef := by
      intro ps
      induction ps with
      | nil => intro d; rfl
      | cons p ps ih =>
        intro d
        simp only [SPs.to]
        split
        · rename_i hb
          have hb : p.1 < s.nIn := by simpa [Nat.blt_eq] using hb
          simp only [sget]
          split
          · rename_i he
            have := Nat.eq_of_beq_eq_true he
            omega
          · exact ih _
        · exact ih _
    rw [this]
    trivial

theorem funF_ok {P : Program} {g : FuncId} {fn : Func} {c : Code} {S : Sums} {rd : RD} {an : Ann} {s : Sig} {fuel : Nat}
    (hE : E.Ok P) (hS : S.Ok P) (hD : DrawOk P E S rd) (hen : Enters P g) (hf : P.funcs[g]? = some fn) (hb : fn.body = some c) (hn : s.nIn ≤ fn.ntmps) :
    FnOk P g s (funF E S rd an c fn.ntmps fn.results.toList s fuel) := by
  refine ⟨hen, fun B C w vs d o hP hl hi ho => ?_⟩
  subst hP
  refine calls_of_wp hf hb (Code.wp_mono ?_ (run_sound (B := B) (C := C) hE hS hD an c (st := inSt s fn.ntmps d) (r := o) (K := retF E S fn.results.toList s) (inSt_inv hl hn hi) ho))
  rintro e a w' ⟨ex, C', st', hx', hi, hk⟩
  have fin : (match resF E S fn.results.toList s st' with | some y => some (Out.ret y) | none => none) = some o → a.defers = [] ∧ ∃ v, (results fn a.tmps).run B.P w' = .ok v w' ∧ FnPost B s o (.returned v) w' := by
    intro hr
    split at hr
    · rename_i y hy
      cases hr
      obtain ⟨us, C2, h1, h2, h3⟩ := resF_sound hE.ti hS hi hy
      exact ⟨hi.defers, _, h3, y, C2, us, rfl, h1, h2, rfl⟩
    · cases hr
  cases hx' with
  | normal => exact fin hk
  | ret => exact fin hk
  | exit id => cases hk
  | panic v =>
    simp only [retF] at hk
    split at hk
    · rename_i hp
      cases hk
      unfold isPan at hp
      split at hp
      · rename_i T'
        have := Nat.eq_of_beq_eq_true hp
        subst this
        refine ⟨hi.defers, rfl, rfl, C', ?_⟩
        exact hi.heap.none
      · cases hp
    · cases hk

theorem funN_ok {P : Program} {g : FuncId} {fn : Func} {c : Code} {S : Sums} {rd : RD} {an : Ann} {s : Sig} {fuel : Nat}
    (hE : E.Ok P) (hS : S.Ok P) (hD : DrawOk P E S rd) (hen : Enters P g) (hf : P.funcs[g]? = some fn) (hb : fn.body = some c) (hn : s.nIn ≤ fn.ntmps) :
    FnOkN P g s (funN E S rd an c fn.ntmps fn.results.toList s fuel) := by
  refine ⟨hen, fun B C w vs d o hP hl hi ho => ?_⟩
  subst hP
  have ho' : ∃ y, funN E S rd an c fn.ntmps fn.results.toList s fuel d = some y ∧ o = .ret y := by
    cases hz : funN E S rd an c fn.ntmps fn.results.toList s fuel d with
    | none => rw [hz] at ho; cases ho
    | some y => rw [hz] at ho; cases ho; exact ⟨y, rfl, rfl⟩
  obtain ⟨y, hy, rfl⟩ := ho'
  refine calls_of_wp hf hb (Code.wp_mono ?_ (run_sound (B := B) (C := C) hE hS hD an c (st := inSt s fn.ntmps d) (r := y) (K := retN E S fn.results.toList s) (inSt_inv hl hn hi) hy))
  rintro e a w' ⟨ex, C', st', hx', hi, hk⟩
  have fin : resF E S fn.results.toList s st' = some y → a.defers = [] ∧ ∃ v, (results fn a.tmps).run B.P w' = .ok v w' ∧ FnPost B s (.ret y) (.returned v) w' := by
    intro hr
    obtain ⟨us, C2, h1, h2, h3⟩ := resF_sound hE.ti hS hi hr
    exact ⟨hi.defers, _, h3, y, C2, us, rfl, h1, h2, rfl⟩
  cases hx' with
  | normal => exact fin hk
  | ret => exact fin hk
  | exit id => cases hk
  | panic v => cases hk
end
end Go.AM
