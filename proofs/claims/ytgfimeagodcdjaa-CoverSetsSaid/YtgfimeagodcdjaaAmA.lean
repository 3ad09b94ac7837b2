/- What it means that a value of the machine's memory holds a datum, and what one step of the machine does to such a memory. Its conditions stand at each theorem. -/
import Derived.Laws.AppendOwn
import Derived.Laws.Rows
import Derived.Below
import Derived.Calls
import Derived.Laws.BitsAllLaws
import Derived.Laws.Small
set_option linter.unusedSimpArgs false
set_option linter.unusedVariables false
set_option linter.unusedSectionVars false
/- Typed pure data, and what it means that a value of the machine's memory holds it. -/
namespace Go.AM
open Go.RowKit

/-- Codes of pure data. -/
inductive Ty where
  | unit | int (k : IntKind) | bool | str
  | pair (a b : Ty) | list (t : Ty) | arr (n : Nat) (t : Ty) | agg (t : Ty)
  | fn (a r : Ty) | opt (t : Ty) | sum (a b : Ty)
  deriving DecidableEq

@[reducible] def Ty.den : Ty → Type
  | .unit => Unit
  | .int _ => Int
  | .bool => Bool
  | .str => ByteArray
  | .pair a b => a.den × b.den
  | .list t => List t.den
  | .arr _ t => List t.den
  | .agg t => t.den
  | .fn a r => a.den → Option r.den
  | .opt t => Option t.den
  | .sum a b => a.den ⊕ b.den

/-- How many cells such a datum has. -/
def Ty.size : Ty → Nat
  | .unit => 0
  | .int _ | .bool | .str | .list _ | .fn _ _ => 1
  | .pair a b => a.size + b.size
  | .arr n t => n * t.size
  | .agg t => t.size
  | .opt _ | .sum _ _ => 0

/-- Lists laid one behind the other. -/
def concatR {α : Type} (R : α → List Value → Prop) : List α → List Value → Prop
  | [], cs => cs = []
  | x :: xs, cs => ∃ c1 c2, cs = c1 ++ c2 ∧ R x c1 ∧ concatR R xs c2

/-- What lies from an address on, in blocks that nobody writes any more. -/
def Laid (I : Nat → Prop) (w : World) (A : Option Addr) (cells : List Value) : Prop :=
  cells = [] ∨ ∃ b o, A = some ⟨b, o, none⟩ ∧ I b ∧ ∀ j v, cells[j]? = some v → w.cell? ⟨b, o + j, none⟩ = some v

structure Rels (α : Type) where
  cells : (Nat → Prop) → World → α → List Value → Prop
  val : (Nat → Prop) → World → α → Value → Prop
  vals : (Nat → Prop) → World → α → List Value → Prop

/-- The world has gone on: blocks of I are as they were. -/
structure Later (I : Nat → Prop) (w w' : World) : Prop where
  size : w.heap.size ≤ w'.heap.size
  same : ∀ b, I b → w'.heap[b]? = w.heap[b]?

theorem Later.refl (I : Nat → Prop) (w : World) : Later I w w := ⟨Nat.le_refl _, fun _ _ => rfl⟩
theorem Later.trans {I : Nat → Prop} {a b c : World} (h : Later I a b) (k : Later I b c) : Later I a c :=
  ⟨Nat.le_trans h.size k.size, fun i hi => (k.same i hi).trans (h.same i hi)⟩
theorem Later.mono {I J : Nat → Prop} {a b : World} (h : Later J a b) (hi : ∀ i, I i → J i) : Later I a b := ⟨h.size, fun i hI => h.same i (hi i hI)⟩

/-- How a call that tells a pure datum ends. -/
def RetR {α : Type} (R : (Nat → Prop) → World → α → Value → Prop) (I : Nat → Prop) (w : World) (y : α) (e : Ending) (w' : World) : Prop :=
  ∃ rv, e = .returned rv ∧ Below w.heap.size w w' ∧ ∃ J : Nat → Prop, (∀ b, I b → J b) ∧ (∀ b, J b → I b ∨ w.heap.size ≤ b) ∧ (∀ b, J b → b < w'.heap.size) ∧ R J w' y rv

/-- A call of this function enters it. -/
def Enters (P : Program) (g : FuncId) : Prop := ∀ (args : Array Value) (w : World), (callFunc g args).run P w = .ok (.enter g args) w

def rels (P : Program) : (t : Ty) → Rels t.den
  | .unit => ⟨fun _ _ _ cs => cs = [], fun _ _ _ v => v = .tuple #[], fun _ _ _ vs => vs = []⟩
  | .int k => ⟨fun _ _ x cs => cs = [.int k x], fun _ _ x v => v = .int k x, fun _ _ x vs => vs = [.int k x]⟩
  | .bool => ⟨fun _ _ x cs => cs = [.bool x], fun _ _ x v => v = .bool x, fun _ _ x vs => vs = [.bool x]⟩
  | .str => ⟨fun _ _ x cs => cs = [.string x], fun _ _ x v => v = .string x, fun _ _ x vs => vs = [.string x]⟩
  | .pair a b =>
    ⟨fun I w x cs => ∃ c1 c2, cs = c1 ++ c2 ∧ (rels P a).cells I w x.1 c1 ∧ (rels P b).cells I w x.2 c2,
     fun I w x v => ∃ vs : List Value, v = .tuple vs.toArray ∧ ∃ v1 vs2, vs = v1 :: vs2 ∧ (rels P a).val I w x.1 v1 ∧ (rels P b).vals I w x.2 vs2,
     fun I w x vs => ∃ v1 vs2, vs = v1 :: vs2 ∧ (rels P a).val I w x.1 v1 ∧ (rels P b).vals I w x.2 vs2⟩
  | .list t =>
    let V := fun (I : Nat → Prop) (w : World) (xs : List t.den) (v : Value) =>
      ∃ A n c cs, v = .slice A n c ∧ n = xs.length ∧ n ≤ c ∧ concatR ((rels P t).cells I w) xs cs ∧ Laid I w A cs
    ⟨fun I w x cs => ∃ v, cs = [v] ∧ V I w x v, V, fun I w x vs => ∃ v, vs = [v] ∧ V I w x v⟩
  | .arr n t =>
    let C := fun (I : Nat → Prop) (w : World) (xs : List t.den) (cs : List Value) => xs.length = n ∧ concatR ((rels P t).cells I w) xs cs
    ⟨C, fun I w x v => ∃ cs, v = .agg cs.toArray ∧ C I w x cs, fun I w x vs => ∃ cs, vs = [.agg cs.toArray] ∧ C I w x cs⟩
  | .agg t =>
    let V := fun (I : Nat → Prop) (w : World) (x : t.den) (v : Value) => ∃ cs : List Value, v = .agg cs.toArray ∧ (rels P t).cells I w x cs
    ⟨fun I w x cs => (rels P t).cells I w x cs, V, fun I w x vs => ∃ v, vs = [v] ∧ V I w x v⟩
  | .fn a r =>
    let V := fun (I : Nat → Prop) (w : World) (f : a.den → Option r.den) (v : Value) =>
      ∃ g caps, v = .func (.func g) #[] caps ∧ Enters P g ∧ ∀ w' (J : Nat → Prop), Later I w w' → (∀ b, I b → J b) → (∀ b, J b → b < w'.heap.size) → ∀ x vs, (rels P a).vals J w' x vs → ∀ y, f x = some y →
        Calls P g (vs.toArray ++ caps) w' (RetR (rels P r).val J w' y)
    ⟨fun I w x cs => ∃ v, cs = [v] ∧ V I w x v, V, fun I w x vs => ∃ v, vs = [v] ∧ V I w x v⟩
  | .opt _ => ⟨fun _ _ _ _ => False, fun _ _ _ _ => False, fun _ _ _ _ => False⟩
  | .sum _ _ => ⟨fun _ _ _ _ => False, fun _ _ _ _ => False, fun _ _ _ _ => False⟩

theorem concatR.imp {α : Type} {R S : α → List Value → Prop} (h : ∀ x cs, R x cs → S x cs) : ∀ {xs : List α} {cs : List Value}, concatR R xs cs → concatR S xs cs
  | [], _, hc => hc
  | _ :: _, _, ⟨c1, c2, e, h1, h2⟩ => ⟨c1, c2, e, h _ _ h1, h2.imp h⟩

theorem concatR.length {α : Type} {R : α → List Value → Prop} {n : Nat} (h : ∀ x cs, R x cs → cs.length = n) : ∀ {xs : List α} {cs : List Value}, concatR R xs cs → cs.length = xs.length * n
  | [], _, hc => by simp [show _ = [] from hc]
  | x :: xs, _, ⟨c1, c2, e, h1, h2⟩ => by
    subst e
    rw [List.length_append, h _ _ h1, h2.length h, List.length_cons, Nat.succ_mul, Nat.add_comm]

theorem concatR.append {α : Type} {R : α → List Value → Prop} : ∀ {xs ys : List α} {cs ds : List Value}, concatR R xs cs → concatR R ys ds → concatR R (xs ++ ys) (cs ++ ds)
  | [], _, _, _, h, k => by rw [show _ = [] from h]; exact k
  | _ :: _, _, _, _, ⟨c1, c2, e, h1, h2⟩, k => ⟨c1, c2 ++ _, by rw [e, List.append_assoc], h1, h2.append k⟩

theorem concatR.one {α : Type} {R : α → List Value → Prop} {x : α} {cs : List Value} (h : R x cs) : concatR R [x] cs := ⟨cs, [], by simp, h, rfl⟩

/-- The cells of one element. -/
theorem concatR.get {α : Type} {R : α → List Value → Prop} {n : Nat} (h : ∀ x cs, R x cs → cs.length = n) : ∀ {xs : List α} {cs : List Value} {i : Nat} {x : α}, concatR R xs cs → xs[i]? = some x →
    ∃ d, R x d ∧ (∀ j v, d[j]? = some v → cs[i * n + j]? = some v)
  | [], _, i, x, _, hx => by simp at hx
  | y :: ys, cs, 0, x, ⟨c1, c2, e, h1, h2⟩, hx => by
    simp at hx
    subst hx
    subst e
    refine ⟨c1, h1, fun j v hv => ?_⟩
    rw [Nat.zero_mul, Nat.zero_add, List.getElem?_append_left]
    · exact hv
    · rcases Nat.lt_or_ge j c1.length with h' | h'
      · exact h'
      · rw [List.getElem?_eq_none h'] at hv; cases hv
  | y :: ys, cs, i + 1, x, ⟨c1, c2, e, h1, h2⟩, hx => by
    subst e
    obtain ⟨d, hd, hg⟩ := h2.get h (i := i) (x := x) (by simpa using hx)
    refine ⟨d, hd, fun j v hv => ?_⟩
    have hl := h _ _ h1
    rw [List.getElem?_append_right (by rw [Nat.succ_mul]; omega), show (i + 1) * n + j - c1.length = i * n + j by rw [Nat.succ_mul]; omega]
    exact hg j v hv

/-- A list split, and put together with one element turned. -/
theorem concatR.set {α : Type} {R : α → List Value → Prop} {n : Nat} (h : ∀ x cs, R x cs → cs.length = n) : ∀ {xs : List α} {cs : List Value} {i : Nat} {y : α} {d : List Value}, concatR R xs cs → i < xs.length → R y d →
    concatR R (xs.set i y) (cs.take (i * n) ++ d ++ cs.drop (i * n + n))
  | [], _, _, _, _, _, hi, _ => by simp at hi
  | x :: xs, cs, 0, y, d, ⟨c1, c2, e, h1, h2⟩, _, hd => by
    subst e
    have hl := h _ _ h1
    refine ⟨d, c2, ?_, hd, h2⟩
    simp [← hl]
  | x :: xs, cs, i + 1, y, d, ⟨c1, c2, e, h1, h2⟩, hi, hd => by
    subst e
    have hl := h _ _ h1
    refine ⟨c1, c2.take (i * n) ++ d ++ c2.drop (i * n + n), ?_, h1, h2.set h (by simpa using hi) hd⟩
    have e1 : (i + 1) * n = c1.length + i * n := by rw [Nat.succ_mul, hl, Nat.add_comm]
    rw [e1, List.take_length_add_append, Nat.add_assoc, List.drop_length_add_append]
    simp [List.append_assoc]

theorem concatR.take {α : Type} {R : α → List Value → Prop} {n : Nat} (h : ∀ x cs, R x cs → cs.length = n) : ∀ {xs : List α} {cs : List Value} (i : Nat), concatR R xs cs → concatR R (xs.take i) (cs.take (i * n))
  | [], _, i, hc => by rw [show _ = [] from hc]; simp [concatR]
  | _ :: _, _, 0, _ => by simp [concatR]
  | x :: xs, cs, i + 1, ⟨c1, c2, e, h1, h2⟩ => by
    subst e
    have hl := h _ _ h1
    have e1 : (i + 1) * n = c1.length + i * n := by rw [Nat.succ_mul, hl, Nat.add_comm]
    rw [e1, List.take_length_add_append, List.take_succ_cons]
    exact ⟨c1, _, rfl, h1, h2.take h i⟩

theorem concatR.drop {α : Type} {R : α → List Value → Prop} {n : Nat} (h : ∀ x cs, R x cs → cs.length = n) : ∀ {xs : List α} {cs : List Value} (i : Nat), concatR R xs cs → concatR R (xs.drop i) (cs.drop (i * n))
  | [], _, i, hc => by rw [show _ = [] from hc]; simp [concatR]
  | _ :: _, _, 0, hc => by simpa using hc
  | x :: xs, cs, i + 1, ⟨c1, c2, e, h1, h2⟩ => by
    subst e
    have hl := h _ _ h1
    have e1 : (i + 1) * n = c1.length + i * n := by rw [Nat.succ_mul, hl, Nat.add_comm]
    rw [e1, List.drop_length_add_append, List.drop_succ_cons]
    exact h2.drop h i

theorem Laid.imp {I J : Nat → Prop} {w : World} {A : Option Addr} {cs : List Value} (h : Laid I w A cs) (hi : ∀ b, I b → J b) : Laid J w A cs := by
  rcases h with h | ⟨b, o, hA, hb, h⟩
  · exact .inl h
  · exact .inr ⟨b, o, hA, hi b hb, h⟩

theorem Laid.later {I : Nat → Prop} {w w' : World} {A : Option Addr} {cs : List Value} (h : Laid I w A cs) (hl : Later I w w') : Laid I w' A cs := by
  rcases h with h | ⟨b, o, hA, hb, h⟩
  · exact .inl h
  · exact .inr ⟨b, o, hA, hb, fun j v hv => (World.cell?_of_block (w := w) (hl.same b hb)).trans (h j v hv)⟩

/-- More blocks may be left alone. -/
theorem rels_imp (P : Program) {I J : Nat → Prop} (hi : ∀ b, I b → J b) (w : World) : ∀ t : Ty,
    (∀ x cs, (rels P t).cells I w x cs → (rels P t).cells J w x cs) ∧ (∀ x v, (rels P t).val I w x v → (rels P t).val J w x v) ∧ (∀ x vs, (rels P t).vals I w x vs → (rels P t).vals J w x vs) := by
  intro t
  induction t with
  | unit | int | bool | str => exact ⟨fun _ _ h => h, fun _ _ h => h, fun _ _ h => h⟩
  | pair a b iha ihb =>
    refine ⟨?_, ?_, ?_⟩
    · rintro x cs ⟨c1, c2, e, h1, h2⟩; exact ⟨c1, c2, e, iha.1 _ _ h1, ihb.1 _ _ h2⟩
    · rintro x v ⟨vs, e, v1, vs2, e2, h1, h2⟩; exact ⟨vs, e, v1, vs2, e2, iha.2.1 _ _ h1, ihb.2.2 _ _ h2⟩
    · rintro x vs ⟨v1, vs2, e2, h1, h2⟩; exact ⟨v1, vs2, e2, iha.2.1 _ _ h1, ihb.2.2 _ _ h2⟩
  | list t ih =>
    have key : ∀ x v, (rels P (.list t)).val I w x v → (rels P (.list t)).val J w x v := by
      rintro x v ⟨A, n, c, cs, e, hn, hc, h1, h2⟩
      exact ⟨A, n, c, cs, e, hn, hc, h1.imp ih.1, h2.imp hi⟩
    exact ⟨fun x cs ⟨v, e, h⟩ => ⟨v, e, key _ _ h⟩, key, fun x cs ⟨v, e, h⟩ => ⟨v, e, key _ _ h⟩⟩
  | arr n t ih =>
    have key : ∀ x cs, (rels P (.arr n t)).cells I w x cs → (rels P (.arr n t)).cells J w x cs := fun x cs h => ⟨h.1, h.2.imp ih.1⟩
    exact ⟨key, fun x v ⟨cs, e, h⟩ => ⟨cs, e, key _ _ h⟩, fun x vs ⟨cs, e, h⟩ => ⟨cs, e, key _ _ h⟩⟩
  | agg t ih =>
    have key : ∀ x v, (rels P (.agg t)).val I w x v → (rels P (.agg t)).val J w x v := fun x v ⟨cs, e, h⟩ => ⟨cs, e, ih.1 _ _ h⟩
    exact ⟨fun x cs h => ih.1 _ _ h, key, fun x vs ⟨v, e, h⟩ => ⟨v, e, key _ _ h⟩⟩
  | fn a r iha ihr =>
    have key : ∀ x v, (rels P (.fn a r)).val I w x v → (rels P (.fn a r)).val J w x v := by
      rintro x v ⟨g, caps, e, he, h⟩
      exact ⟨g, caps, e, he, fun w' K hl hJ hb => h w' K (hl.mono hi) (fun b hb => hJ b (hi b hb)) hb⟩
    exact ⟨fun x cs ⟨v, e, h⟩ => ⟨v, e, key _ _ h⟩, key, fun x cs ⟨v, e, h⟩ => ⟨v, e, key _ _ h⟩⟩
  | opt | sum => exact ⟨fun _ _ h => h.elim, fun _ _ h => h.elim, fun _ _ h => h.elim⟩

/-- What is told stays told while its blocks are left alone. -/
theorem rels_later (P : Program) {I : Nat → Prop} {w w' : World} (hl : Later I w w') : ∀ t : Ty,
    (∀ x cs, (rels P t).cells I w x cs → (rels P t).cells I w' x cs) ∧ (∀ x v, (rels P t).val I w x v → (rels P t).val I w' x v) ∧ (∀ x vs, (rels P t).vals I w x vs → (rels P t).vals I w' x vs) := by
  intro t
  induction t with
  | unit | int | bool | str => exact ⟨fun _ _ h => h, fun _ _ h => h, fun _ _ h => h⟩
  | pair a b iha ihb =>
    refine ⟨?_, ?_, ?_⟩
    · rintro x cs ⟨c1, c2, e, h1, h2⟩; exact ⟨c1, c2, e, iha.1 _ _ h1, ihb.1 _ _ h2⟩
    · rintro x v ⟨vs, e, v1, vs2, e2, h1, h2⟩; exact ⟨vs, e, v1, vs2, e2, iha.2.1 _ _ h1, ihb.2.2 _ _ h2⟩
    · rintro x vs ⟨v1, vs2, e2, h1, h2⟩; exact ⟨v1, vs2, e2, iha.2.1 _ _ h1, ihb.2.2 _ _ h2⟩
  | list t ih =>
    have key : ∀ x v, (rels P (.list t)).val I w x v → (rels P (.list t)).val I w' x v := by
      rintro x v ⟨A, n, c, cs, e, hn, hc, h1, h2⟩
      exact ⟨A, n, c, cs, e, hn, hc, h1.imp ih.1, h2.later hl⟩
    exact ⟨fun x cs ⟨v, e, h⟩ => ⟨v, e, key _ _ h⟩, key, fun x cs ⟨v, e, h⟩ => ⟨v, e, key _ _ h⟩⟩
  | arr n t ih =>
    have key : ∀ x cs, (rels P (.arr n t)).cells I w x cs → (rels P (.arr n t)).cells I w' x cs := fun x cs h => ⟨h.1, h.2.imp ih.1⟩
    exact ⟨key, fun x v ⟨cs, e, h⟩ => ⟨cs, e, key _ _ h⟩, fun x vs ⟨cs, e, h⟩ => ⟨cs, e, key _ _ h⟩⟩
  | agg t ih =>
    have key : ∀ x v, (rels P (.agg t)).val I w x v → (rels P (.agg t)).val I w' x v := fun x v ⟨cs, e, h⟩ => ⟨cs, e, ih.1 _ _ h⟩
    exact ⟨fun x cs h => ih.1 _ _ h, key, fun x vs ⟨v, e, h⟩ => ⟨v, e, key _ _ h⟩⟩
  | fn a r iha ihr =>
    have key : ∀ x v, (rels P (.fn a r)).val I w x v → (rels P (.fn a r)).val I w' x v := by
      rintro x v ⟨g, caps, e, he, h⟩
      exact ⟨g, caps, e, he, fun w'' K hl' hJ hb => h w'' K (hl.trans hl') hJ hb⟩
    exact ⟨fun x cs ⟨v, e, h⟩ => ⟨v, e, key _ _ h⟩, key, fun x cs ⟨v, e, h⟩ => ⟨v, e, key _ _ h⟩⟩
  | opt | sum => exact ⟨fun _ _ h => h.elim, fun _ _ h => h.elim, fun _ _ h => h.elim⟩

/-- A datum's cells are as many as its code says. -/
theorem rels_size (P : Program) : ∀ (t : Ty) {I : Nat → Prop} {w : World} {x : t.den} {cs : List Value}, (rels P t).cells I w x cs → cs.length = t.size := by
  intro t
  induction t with
  | unit => intro I w x cs h; rw [show cs = [] from h]; rfl
  | int => intro I w x cs h; rw [show cs = [_] from h]; rfl
  | bool => intro I w x cs h; rw [show cs = [_] from h]; rfl
  | str => intro I w x cs h; rw [show cs = [_] from h]; rfl
  | pair a b iha ihb =>
    rintro I w x cs ⟨c1, c2, e, h1, h2⟩
    rw [e, List.length_append, iha h1, ihb h2]; rfl
  | list t => rintro I w x cs ⟨v, e, _⟩; rw [e]; rfl
  | arr n t ih =>
    rintro I w x cs ⟨hn, h⟩
    rw [h.length (fun _ _ => ih), hn]; rfl
  | agg t ih => intro I w x cs h; exact ih h
  | fn => rintro I w x cs ⟨v, e, _⟩; rw [e]; rfl
  | opt => intro I w x cs h; exact h.elim
  | sum => intro I w x cs h; exact h.elim

theorem concatR.mem {α : Type} {R : α → List Value → Prop} {p : Value → Prop} (h : ∀ x cs, R x cs → ∀ u ∈ cs, p u) : ∀ {xs : List α} {cs : List Value}, concatR R xs cs → ∀ u ∈ cs, p u
  | [], _, hc, u, hu => by rw [show _ = [] from hc] at hu; cases hu
  | _ :: _, _, ⟨c1, c2, e, h1, h2⟩, u, hu => by
    rw [e, List.mem_append] at hu
    exact hu.elim (h _ _ h1 u) (h2.mem h u)
/-- Each is the value of one cell. -/
theorem rels_one (P : Program) : ∀ (t : Ty) {I : Nat → Prop} {w : World} {x : t.den} {cs : List Value}, (rels P t).cells I w x cs → ∀ u ∈ cs, u.oneCell' = true := by
  intro t
  induction t with
  | unit => intro I w x cs h u hu; rw [show cs = [] from h] at hu; cases hu
  | int => intro I w x cs h u hu; rw [show cs = [_] from h] at hu; simp at hu; subst hu; rfl
  | bool => intro I w x cs h u hu; rw [show cs = [_] from h] at hu; simp at hu; subst hu; rfl
  | str => intro I w x cs h u hu; rw [show cs = [_] from h] at hu; simp at hu; subst hu; rfl
  | pair a b iha ihb =>
    rintro I w x cs ⟨c1, c2, e, h1, h2⟩ u hu
    rw [e, List.mem_append] at hu
    exact hu.elim (iha h1 u) (ihb h2 u)
  | list t =>
    rintro I w x cs ⟨v, e, A, n, c, _, hv, _⟩ u hu
    rw [e] at hu; simp at hu; subst hu; subst hv; rfl
  | arr n t ih =>
    rintro I w x cs ⟨_, h⟩
    exact h.mem (fun _ _ hh => ih hh)
  | agg t ih => intro I w x cs h; exact ih h
  | fn =>
    rintro I w x cs ⟨v, e, g, caps, hv, _⟩ u hu
    rw [e] at hu; simp at hu; subst hu; subst hv; rfl
  | opt => intro I w x cs h; exact h.elim
  | sum => intro I w x cs h; exact h.elim

end Go.AM

/- The abstract state, and what it says of the machine's memory. -/
namespace Go.AM
open Go.RowKit

/-- A name for a block of the call's own: leaf j of slot n; the same, as a loop's or a join's shape calls it; cell j of a block. -/
inductive Tok where
  | s (n j : Nat) | h (n j : Nat) | c (k : Tok) (j : Nat)
  deriving DecidableEq

/-- A datum with its code. -/
@[reducible] def Datum := (t : Ty) × t.den

/-- Is it a name that a step may give? -/
def Tok.isNew : Tok → Bool
  | .s _ _ => true
  | .h _ _ => true
  | .c _ _ => false

inductive Cap where
  | tok (k : Tok) | imm (ps : List Datum)

/-- One cell's content (or, of 'pure' and 'dead', that of several cells). -/
inductive Atom where
  | dead (n : Nat)
  | pure (t : Ty) (x : t.den)
  | const (v : Value)
  | ptr (k : Tok) (off : Nat)
  | cptr (ps : List Datum)
  | rptr (k : Tok) (i sz sub : Nat)
  | aptr (k : Tok) (off i n sz sub : Nat)
  | e0
  | own (k : Tok)
  | seg (k : Tok) (lo n sz : Nat)
  | func (g : FuncId) (caps : List Cap)

inductive V1 where
  | one (a : Atom) | agg (as : List Atom)

inductive SVal where
  | undef | v (x : V1) | tup (xs : List V1)

inductive Block where
  | var (as : List Atom)
  | row (e : TypeId) (t : Ty) (xs : List t.den)
  | lrow (t : Ty) (xs : List t.den)

structure St where
  len : Nat
  slots : List (Nat × SVal)
  heap : List (Tok × Block)

/-- The newest stands first. -/
def sget (n : Nat) : List (Nat × SVal) → SVal
  | [] => .undef
  | (m, v) :: r => match Nat.beq m n with | true => v | false => sget n r
def St.get (st : St) (n : Nat) : SVal := sget n st.slots
def St.set (st : St) (n : Nat) (v : SVal) : St := match Nat.blt n st.len with | true => { st with slots := (n, v) :: st.slots } | false => st

def Atom.size : Atom → Nat
  | .dead n => n
  | .pure t _ => t.size
  | _ => 1

/-- What stands behind an abstract state: the blocks that are left alone, the values of the own ones, what lies around lent rows. -/
structure Ctx where
  I : Nat → Prop
  ρ : Tok → Value
  around : Tok → List Value × List Value

def blk : Value → Option Nat
  | .slice (some a) _ c => if c = 0 then none else some a.block
  | .pointer (some a) => some a.block
  | _ => none

section
variable (P : Program) (C : Ctx) (w : World)

/-- An address whose content is left alone. -/
def ImmAt (ps : List Datum) (v : Value) : Prop :=
  ∃ b o ds, v = .pointer (some ⟨b, o, none⟩) ∧ C.I b ∧ concatR (fun (p : Datum) cs => (rels P p.1).cells C.I w p.2 cs) ps ds ∧ ∀ j u, ds[j]? = some u → w.cell? ⟨b, o + j, none⟩ = some u

def RelCap : Cap → Value → Prop
  | .tok k, v => v = C.ρ k ∧ ∃ b, C.ρ k = .pointer (some ⟨b, 0, none⟩)
  | .imm ps, v => ImmAt P C w ps v

def RelCaps : List Cap → List Value → Prop
  | [], vs => vs = []
  | c :: cs, vs => ∃ v rest, vs = v :: rest ∧ RelCap P C w c v ∧ RelCaps cs rest

def RelAtom : Atom → List Value → Prop
  | .dead n, cs => cs.length = n
  | .pure t x, cs => (rels P t).cells C.I w x cs
  | .const v, cs => cs = [v]
  | .ptr k off, cs => ∃ b, C.ρ k = .pointer (some ⟨b, 0, none⟩) ∧ cs = [.pointer (some ⟨b, off, none⟩)]
  | .cptr ps, cs => ∃ v, cs = [v] ∧ ImmAt P C w ps v
  | .rptr k i sz sub, cs => ∃ b o n c, C.ρ k = .slice (some ⟨b, o, none⟩) n c ∧ i < n ∧ cs = [.pointer (some ⟨b, o + i * sz + sub, none⟩)]
  | .aptr k off i n sz sub, cs => ∃ b, C.ρ k = .pointer (some ⟨b, 0, none⟩) ∧ i < n ∧ cs = [.pointer (some ⟨b, off + i * sz + sub, none⟩)]
  | .e0, cs => ∃ A, cs = [.slice A 0 0]
  | .own k, cs => cs = [C.ρ k]
  | .seg k lo n sz, cs => ∃ A c, cs = [.slice A n c] ∧ n ≤ c ∧ (n = 0 ∨ ∃ b o m c', C.ρ k = .slice (some ⟨b, o, none⟩) m c' ∧ lo + n ≤ m ∧ A = some ⟨b, o + lo * sz, none⟩)
  | .func g caps, cs => ∃ vs, cs = [.func (.func g) #[] vs.toArray] ∧ RelCaps P C w caps vs

def RelAtoms : List Atom → List Value → Prop
  | [], cs => cs = []
  | a :: as, cs => ∃ c1 c2, cs = c1 ++ c2 ∧ RelAtom P C w a c1 ∧ RelAtoms as c2

def RelV1 : V1 → Value → Prop
  | .one a, v => RelAtom P C w a [v]
  | .agg as, v => ∃ cs : List Value, v = .agg cs.toArray ∧ RelAtoms P C w as cs

def RelV1s : List V1 → List Value → Prop
  | [], vs => vs = []
  | x :: xs, vs => ∃ v rest, vs = v :: rest ∧ RelV1 P C w x v ∧ RelV1s xs rest

def RelSV : SVal → Value → Prop
  | .undef, _ => True
  | .v x, u => RelV1 P C w x u
  | .tup xs, u => ∃ vs : List Value, u = .tuple vs.toArray ∧ RelV1s P C w xs vs

/-- The cells of a lent row: they lie between others that are to stay. -/
def Lent (k : Tok) (n : Nat) (cells : List Value) : Prop :=
  (n = 0 ∧ cells = [] ∧ ∃ A c, C.ρ k = .slice A 0 c) ∨
  ∃ b o c e, C.ρ k = .slice (some ⟨b, o, none⟩) n c ∧ n ≤ c ∧ (C.around k).1.length = o ∧
    w.heap[b]? = some (.cells ((C.around k).1 ++ cells ++ (C.around k).2).toArray e (0, 0))

def RelBlock (k : Tok) : Block → Prop
  | .var as => ∃ b cs e, C.ρ k = .pointer (some ⟨b, 0, none⟩) ∧ w.heap[b]? = some (.cells cs e (0, 0)) ∧ RelAtoms P C w as cs.toList
  | .row e t xs => (xs.length = 0 ∧ ∃ A, C.ρ k = .slice A 0 0) ∨
    ∃ g cap cur, C.ρ k = .slice (some ⟨g, 0, none⟩) xs.length cap ∧ 0 < cap ∧ w.heap[g]? = some (.cells cur e (0, 0)) ∧ xs.length ≤ cap ∧ cap ≤ maxLen ∧ cur.size = cap * t.size ∧
      concatR ((rels P t).cells C.I w) xs (cur.toList.take (xs.length * t.size))
  | .lrow t xs => ∃ cells, Lent C w k xs.length cells ∧ concatR ((rels P t).cells C.I w) xs cells

/-- The world has gone on; blocks that are not in F are as they were. -/
structure Evo (F : Nat → Prop) (w w' : World) : Prop where
  os : w'.os = w.os
  tape : w'.tape = w.tape
  output : w'.output = w.output
  size : w.heap.size ≤ w'.heap.size
  block : ∀ b, b < w.heap.size → ¬ F b → w'.heap[b]? = w.heap[b]?
end

theorem Evo.refl (F : Nat → Prop) (w : World) : Evo F w w := ⟨rfl, rfl, rfl, Nat.le_refl _, fun _ _ _ => rfl⟩
theorem Evo.trans {F G : Nat → Prop} {a b c : World} (h : Evo F a b) (k : Evo G b c) (hg : ∀ x, x < a.heap.size → G x → F x) : Evo F a c :=
  ⟨k.os.trans h.os, k.tape.trans h.tape, k.output.trans h.output, Nat.le_trans h.size k.size,
    fun x hx hn => (k.block x (Nat.lt_of_lt_of_le hx h.size) (fun hG => hn (hg x hx hG))).trans (h.block x hx hn)⟩
theorem Evo.mono {F G : Nat → Prop} {a b : World} (h : Evo F a b) (hg : ∀ x, F x → G x) : Evo G a b :=
  ⟨h.os, h.tape, h.output, h.size, fun x hx hn => h.block x hx (fun hf => hn (hg x hf))⟩
theorem Evo.below {F : Nat → Prop} {a b : World} (h : Evo F a b) (hF : ∀ x, x < a.heap.size → ¬ F x) : Below a.heap.size a b :=
  ⟨h.os, h.tape, h.output, h.size, fun k hk => h.block k hk (hF k hk)⟩
theorem Evo.of_below {a b : World} (h : Below a.heap.size a b) (F : Nat → Prop) : Evo F a b :=
  ⟨h.os, h.tape, h.output, h.size, fun k hk _ => h.block k hk⟩
theorem Evo.later {F I : Nat → Prop} {a b : World} (h : Evo F a b) (hI : ∀ x, I x → x < a.heap.size ∧ ¬ F x) : Later I a b :=
  ⟨h.size, fun x hx => h.block x (hI x hx).1 (hI x hx).2⟩

/-- What a call may lean on all the way: the world and the blocks when it began, the blocks that it was handed as its own, the tokens whose values stay. -/
structure Base where
  P : Program
  w0 : World
  I0 : Nat → Prop
  F0 : Nat → Prop
  ρ0 : Tok → Value
  around0 : Tok → List Value × List Value
  fix : List Tok

/-- The tokens that an atom names. -/
def Cap.toks : Cap → List Tok
  | .tok k => [k]
  | .imm _ => []
def Atom.toks : Atom → List Tok
  | .ptr k _ | .rptr k _ _ _ | .aptr k _ _ _ _ _ | .own k | .seg k _ _ _ => [k]
  | .func _ caps => caps.flatMap Cap.toks
  | _ => []
def V1.atoms : V1 → List Atom
  | .one a => [a]
  | .agg as => as
def SVal.atoms : SVal → List Atom
  | .undef => []
  | .v x => x.atoms
  | .tup xs => xs.flatMap V1.atoms
def SVal.toks (x : SVal) : List Tok := x.atoms.flatMap Atom.toks
def Block.toks : Block → List Tok
  | .var as => as.flatMap Atom.toks
  | _ => []

/-- The block where an own block lies. -/
def Block.at (v : Value) : Block → Option Nat
  | .lrow _ [] => none
  | _ => blk v

structure InvH (B : Base) (C : Ctx) (w : World) (heap : List (Tok × Block)) : Prop where
  blocks : ∀ k b, (k, b) ∈ heap → RelBlock B.P C w k b
  closed : ∀ k b, (k, b) ∈ heap → ∀ k' ∈ b.toks, k' ∈ heap.map (·.1)
  nodup : (heap.map (·.1)).Nodup
  apart : ∀ k b k' b', (k, b) ∈ heap → (k', b') ∈ heap → k ≠ k' → ∀ g, b.at (C.ρ k) = some g → b'.at (C.ρ k') ≠ some g
  mine : ∀ k b, (k, b) ∈ heap → ∀ g, b.at (C.ρ k) = some g → ¬ C.I g ∧ (B.w0.heap.size ≤ g ∨ B.F0 g)
  imm : ∀ b, C.I b → b < w.heap.size
  imm0 : ∀ b, B.I0 b → C.I b
  immNew : ∀ b, C.I b → B.I0 b ∨ B.w0.heap.size ≤ b ∨ B.F0 b
  evo : Evo B.F0 B.w0 w
  fixed : ∀ k, k ∈ B.fix → C.ρ k = B.ρ0 k ∧ C.around k = B.around0 k
  fixOld : ∀ k, k ∈ B.fix → k.isNew = false

structure Inv (B : Base) (C : Ctx) (w : World) (a : Act) (st : St) : Prop where
  len : st.len = a.tmps.size
  defers : a.defers = []
  slots : ∀ n, RelSV B.P C w (st.get n) (a.tmps.getD n undef)
  named : ∀ n, ∀ k ∈ (st.get n).toks, k ∈ st.heap.map (·.1)
  heap : InvH B C w st.heap

theorem RelAtom.size {P : Program} {C : Ctx} {w : World} {a : Atom} {cs : List Value} (h : RelAtom P C w a cs) : cs.length = a.size := by
  cases a with
  | dead n => exact h
  | pure t x => exact rels_size P t h
  | const v => rw [show cs = [v] from h]; rfl
  | ptr k off => obtain ⟨b, _, e⟩ := h; rw [e]; rfl
  | cptr ps => obtain ⟨v, e, _⟩ := h; rw [e]; rfl
  | rptr => obtain ⟨b, o, n, c, _, _, e⟩ := h; rw [e]; rfl
  | aptr => obtain ⟨b, _, _, e⟩ := h; rw [e]; rfl
  | e0 => obtain ⟨A, e⟩ := h; rw [e]; rfl
  | own k => rw [show cs = [_] from h]; rfl
  | seg => obtain ⟨A, c, e, _⟩ := h; rw [e]; rfl
  | func => obtain ⟨vs, e, _⟩ := h; rw [e]; rfl

/-- What a step of the machine may do to the world, and what stays told of it. -/
structure Goes (C C' : Ctx) (w w' : World) : Prop where
  I : ∀ b, C.I b → C'.I b
  later : Later C.I w w'

section
variable {P : Program} {C C' : Ctx} {w w' : World}

theorem ImmAt.goes (g : Goes C C' w w') {ps : List Datum} {v : Value} (h : ImmAt P C w ps v) : ImmAt P C' w' ps v := by
  obtain ⟨b, o, ds, e, hb, hr, hc⟩ := h
  exact ⟨b, o, ds, e, g.I b hb, hr.imp fun p cs h => (rels_imp P g.I w' p.1).1 _ _ ((rels_later P g.later p.1).1 _ _ h), fun j u hu => (World.cell?_of_block (w := w) (g.later.same b hb)).trans (hc j u hu)⟩

theorem cells_goes (g : Goes C C' w w') {t : Ty} {x : t.den} {cs : List Value} (h : (rels P t).cells C.I w x cs) : (rels P t).cells C'.I w' x cs :=
  (rels_imp P g.I w' t).1 _ _ ((rels_later P g.later t).1 _ _ h)

theorem RelCaps.goes (g : Goes C C' w w') : ∀ {caps : List Cap} {vs : List Value}, (∀ k ∈ caps.flatMap Cap.toks, C'.ρ k = C.ρ k) → RelCaps P C w caps vs → RelCaps P C' w' caps vs
  | [], _, _, h => h
  | c :: cs, vs, hk, ⟨v, rest, e, h1, h2⟩ => by
    refine ⟨v, rest, e, ?_, RelCaps.goes g (fun k hm => hk k (by simp only [List.flatMap_cons, List.mem_append]; exact .inr hm)) h2⟩
    cases c with
    | tok k =>
      have e := hk k (by simp [Cap.toks])
      obtain ⟨h1, b, hb⟩ := h1
      exact ⟨h1.trans e.symm, b, e.trans hb⟩
    | imm ps => exact ImmAt.goes g h1

theorem RelAtom.goes (g : Goes C C' w w') {a : Atom} {cs : List Value} (hk : ∀ k ∈ a.toks, C'.ρ k = C.ρ k) (h : RelAtom P C w a cs) : RelAtom P C' w' a cs := by
  cases a with
  | dead | const | e0 => exact h
  | pure t x => exact cells_goes g h
  | ptr k off => obtain ⟨b, e, hc⟩ := h; exact ⟨b, (hk k (by simp [Atom.toks])).trans e, hc⟩
  | cptr ps => obtain ⟨v, e, h⟩ := h; exact ⟨v, e, h.goes g⟩
  | rptr k => obtain ⟨b, o, n, c, e, hi, hc⟩ := h; exact ⟨b, o, n, c, (hk k (by simp [Atom.toks])).trans e, hi, hc⟩
  | aptr k => obtain ⟨b, e, hi, hc⟩ := h; exact ⟨b, (hk k (by simp [Atom.toks])).trans e, hi, hc⟩
  | own k => exact h.trans (by rw [hk k (by simp [Atom.toks])])
  | seg k =>
    obtain ⟨A, c, e, hn, h⟩ := h
    refine ⟨A, c, e, hn, h.imp_right ?_⟩
    rintro ⟨b, o, m, c', h1, h2⟩
    exact ⟨b, o, m, c', (hk k (by simp [Atom.toks])).trans h1, h2⟩
  | func f caps => obtain ⟨vs, e, h⟩ := h; exact ⟨vs, e, RelCaps.goes g (fun k hm => hk k hm) h⟩

theorem RelAtoms.goes (g : Goes C C' w w') : ∀ {as : List Atom} {cs : List Value}, (∀ k ∈ as.flatMap Atom.toks, C'.ρ k = C.ρ k) → RelAtoms P C w as cs → RelAtoms P C' w' as cs
  | [], _, _, h => h
  | a :: as, _, hk, ⟨c1, c2, e, h1, h2⟩ =>
    ⟨c1, c2, e, h1.goes g (fun k hm => hk k (by simp only [List.flatMap_cons, List.mem_append]; exact .inl hm)), RelAtoms.goes g (fun k hm => hk k (by simp only [List.flatMap_cons, List.mem_append]; exact .inr hm)) h2⟩

theorem RelV1.goes (g : Goes C C' w w') {x : V1} {v : Value} (hk : ∀ k ∈ x.atoms.flatMap Atom.toks, C'.ρ k = C.ρ k) (h : RelV1 P C w x v) : RelV1 P C' w' x v := by
  cases x with
  | one a => exact RelAtom.goes g (fun k hm => hk k (by simpa [V1.atoms] using hm)) h
  | agg as => obtain ⟨cs, e, h⟩ := h; exact ⟨cs, e, RelAtoms.goes g hk h⟩

theorem RelV1s.goes (g : Goes C C' w w') : ∀ {xs : List V1} {vs : List Value}, (∀ k ∈ (xs.flatMap V1.atoms).flatMap Atom.toks, C'.ρ k = C.ρ k) → RelV1s P C w xs vs → RelV1s P C' w' xs vs
  | [], _, _, h => h
  | x :: xs, _, hk, ⟨v, rest, e, h1, h2⟩ =>
    ⟨v, rest, e, h1.goes g (fun k hm => hk k (by simp only [List.flatMap_cons, List.flatMap_append, List.mem_append]; exact .inl hm)), RelV1s.goes g (fun k hm => hk k (by simp only [List.flatMap_cons, List.flatMap_append, List.mem_append]; exact .inr hm)) h2⟩

theorem RelSV.goes (g : Goes C C' w w') {x : SVal} {v : Value} (hk : ∀ k ∈ x.toks, C'.ρ k = C.ρ k) (h : RelSV P C w x v) : RelSV P C' w' x v := by
  cases x with
  | undef => trivial
  | v x => exact RelV1.goes g hk h
  | tup xs => obtain ⟨vs, e, h⟩ := h; exact ⟨vs, e, RelV1s.goes g hk h⟩

theorem RelBlock.goes (g : Goes C C' w w') {k : Tok} {b : Block} (hk : ∀ k' ∈ b.toks, C'.ρ k' = C.ρ k') (hρ : C'.ρ k = C.ρ k) (ha : C'.around k = C.around k)
    (hb : ∀ x, b.at (C.ρ k) = some x → w'.heap[x]? = w.heap[x]?) (h : RelBlock P C w k b) : RelBlock P C' w' k b := by
  cases b with
  | var as =>
    obtain ⟨x, cs, e, h1, h2, h3⟩ := h
    exact ⟨x, cs, e, hρ.trans h1, (hb x (by rw [h1]; rfl)).trans h2, h3.goes g hk⟩
  | row e t xs =>
    rcases h with ⟨h1, A, h2⟩ | ⟨x, cap, cur, e1, h0, h5, h6, h7, h8, h9⟩
    · exact .inl ⟨h1, A, hρ.trans h2⟩
    · exact .inr ⟨x, cap, cur, hρ.trans e1, h0, (hb x (by rw [e1]; simp [Block.at, blk, Nat.ne_of_gt h0])).trans h5, h6, h7, h8, h9.imp fun _ _ => cells_goes g⟩
  | lrow t xs =>
    obtain ⟨cells, h2, h3⟩ := h
    refine ⟨cells, ?_, h3.imp fun _ _ => cells_goes g⟩
    cases xs with
    | nil =>
      rcases h2 with ⟨h1, h2, A, c, h4⟩ | ⟨x, o, c, e, h1, h2, h4, h5⟩
      · exact .inl ⟨h1, h2, A, c, hρ.trans h4⟩
      · exact .inl ⟨rfl, h3, some ⟨x, o, none⟩, c, hρ.trans h1⟩
    | cons y ys =>
      rcases h2 with ⟨h1, h2, A, c, h4⟩ | ⟨x, o, c, e, h1, h2, h4, h5⟩
      · cases h1
      · have hc : c ≠ 0 := by simp at h2; omega
        exact .inr ⟨x, o, c, e, hρ.trans h1, h2, by rw [ha]; exact h4, by rw [ha]; exact (hb x (by rw [h1]; simp [Block.at, blk, hc])).trans h5⟩

theorem RelBlock.lt {k : Tok} {b : Block} (h : RelBlock P C w k b) {g : Nat} (hg : b.at (C.ρ k) = some g) : g < w.heap.size := by
  cases b with
  | var as =>
    obtain ⟨x, cs, e, h1, h2, _⟩ := h
    rw [h1] at hg
    simp [Block.at, blk] at hg
    subst hg
    exact (Array.getElem?_eq_some_iff.1 h2).1
  | row e t xs =>
    rcases h with ⟨_, A, h2⟩ | ⟨x, cap, cur, e1, h0, h5, _⟩
    · rw [h2] at hg; cases A <;> simp [Block.at, blk] at hg
    · rw [e1] at hg
      simp [Block.at, blk, Nat.ne_of_gt h0] at hg
      subst hg
      exact (Array.getElem?_eq_some_iff.1 h5).1
  | lrow t xs =>
    obtain ⟨cells, h2, _⟩ := h
    cases xs with
    | nil => simp [Block.at] at hg
    | cons y ys =>
      rcases h2 with ⟨h1, _⟩ | ⟨x, o, c, e, h1, h2, _, h5⟩
      · cases h1
      · rw [h1] at hg
        have hc : c ≠ 0 := by simp at h2; omega
        simp [Block.at, blk, hc] at hg
        subst hg
        exact (Array.getElem?_eq_some_iff.1 h5).1
end
end Go.AM

/- What the steps of the machine do to an abstract state. -/
namespace Go.AM
open Go.RowKit

def hget (k : Tok) : List (Tok × Block) → Option Block
  | [] => none
  | (k', b) :: r => if k' = k then some b else hget k r
def hset (k : Tok) (b : Block) : List (Tok × Block) → List (Tok × Block)
  | [] => []
  | (k', b') :: r => if k' = k then (k', b) :: hset k b r else (k', b') :: hset k b r
def hdel (k : Tok) : List (Tok × Block) → List (Tok × Block)
  | [] => []
  | (k', b') :: r => if k' = k then hdel k r else (k', b') :: hdel k r
def hhas (k : Tok) : List (Tok × Block) → Bool
  | [] => false
  | (k', _) :: r => if k' = k then true else hhas k r

theorem hget_mem {k : Tok} {b : Block} : ∀ {h : List (Tok × Block)}, hget k h = some b → (k, b) ∈ h
  | [], e => by simp [hget] at e
  | (k', b') :: r, e => by
    unfold hget at e
    split at e
    · rename_i hk; subst hk; simp at e; subst e; simp
    · exact List.mem_cons_of_mem _ (hget_mem e)

theorem hhas_iff {k : Tok} : ∀ {h : List (Tok × Block)}, hhas k h = true ↔ k ∈ h.map (·.1)
  | [] => by simp [hhas]
  | (k', b') :: r => by
    unfold hhas
    split
    · rename_i hk; subst hk; simp
    · rename_i hk; rw [hhas_iff]; simp [Ne.symm hk]

theorem hset_keys (k : Tok) (b : Block) : ∀ h : List (Tok × Block), (hset k b h).map (·.1) = h.map (·.1)
  | [] => rfl
  | (k', b') :: r => by
    unfold hset
    split <;> simp [hset_keys k b r]

theorem mem_hset {k k' : Tok} {b b' : Block} : ∀ {h : List (Tok × Block)}, (k', b') ∈ hset k b h → (k' = k ∧ b' = b) ∨ (k' ≠ k ∧ (k', b') ∈ h)
  | [], e => by simp [hset] at e
  | (k1, b1) :: r, e => by
    unfold hset at e
    split at e
    · rename_i hk
      subst hk
      simp at e
      rcases e with ⟨rfl, rfl⟩ | e
      · exact .inl ⟨rfl, rfl⟩
      · exact (mem_hset e).imp_right fun ⟨h1, h2⟩ => ⟨h1, List.mem_cons_of_mem _ h2⟩
    · rename_i hk
      simp at e
      rcases e with ⟨rfl, rfl⟩ | e
      · exact .inr ⟨hk, by simp⟩
      · exact (mem_hset e).imp_right fun ⟨h1, h2⟩ => ⟨h1, List.mem_cons_of_mem _ h2⟩

theorem mem_hdel {k k' : Tok} {b' : Block} : ∀ {h : List (Tok × Block)}, (k', b') ∈ hdel k h ↔ k' ≠ k ∧ (k', b') ∈ h
  | [] => by simp [hdel]
  | (k1, b1) :: r => by
    unfold hdel
    split
    · rename_i hk
      subst hk
      rw [mem_hdel, List.mem_cons]
      constructor
      · rintro ⟨h1, h2⟩; exact ⟨h1, .inr h2⟩
      · rintro ⟨h1, h2⟩; exact ⟨h1, h2.resolve_left (fun e => h1 (congrArg Prod.fst e))⟩
    · rename_i hk
      simp only [List.mem_cons, Prod.mk.injEq]
      rw [mem_hdel]
      constructor
      · rintro (⟨rfl, rfl⟩ | ⟨h1, h2⟩)
        · exact ⟨hk, .inl ⟨rfl, rfl⟩⟩
        · exact ⟨h1, .inr h2⟩
      · rintro ⟨h1, h2⟩
        exact h2.imp_right fun h => ⟨h1, h⟩

theorem hdel_keys {k k' : Tok} {h : List (Tok × Block)} : k' ∈ (hdel k h).map (·.1) ↔ k' ≠ k ∧ k' ∈ h.map (·.1) := by
  simp only [List.mem_map, Prod.exists, exists_and_right, exists_eq_right]
  constructor
  · rintro ⟨b, hb⟩; have := mem_hdel.1 hb; exact ⟨this.1, b, this.2⟩
  · rintro ⟨h1, b, h2⟩; exact ⟨b, mem_hdel.2 ⟨h1, h2⟩⟩

theorem hdel_sub (k : Tok) : ∀ h : List (Tok × Block), List.Sublist (hdel k h) h
  | [] => List.Sublist.slnil
  | (k', b') :: r => by
    unfold hdel
    split
    · exact (hdel_sub k r).cons _
    · exact (hdel_sub k r).cons_cons _

theorem St.set_len (st : St) (n : Nat) (v : SVal) : (st.set n v).len = st.len := by unfold St.set; split <;> rfl
theorem St.set_heap (st : St) (n : Nat) (v : SVal) : (st.set n v).heap = st.heap := by unfold St.set; split <;> rfl
theorem St.get_set (st : St) (n m : Nat) (v : SVal) : (st.set n v).get m = if m = n ∧ n < st.len then v else st.get m := by
  unfold St.set
  split
  · rename_i h
    have h : n < st.len := by simpa [Nat.blt_eq] using h
    simp only [St.get, sget]
    split
    · rename_i hb; have := Nat.eq_of_beq_eq_true hb; subst this; simp [h]
    · rename_i hb
      have : ¬ m = n := fun e => by subst e; simp at hb
      simp [this]
  · rename_i h
    have h : ¬ n < st.len := fun hl => by have : Nat.blt n st.len = true := by simpa [Nat.blt_eq] using hl
                                          rw [this] at h; cases h
    simp [h]

theorem getD_set {α : Type} (l : List α) (n m : Nat) (v d : α) : (l.set n v).getD m d = if m = n ∧ n < l.length then v else l.getD m d := by
  simp only [List.getD_eq_getElem?_getD, List.getElem?_set]
  by_cases h : n = m
  · subst h
    by_cases h2 : n < l.length
    · simp [h2]
    · simp [h2]
  · simp [h, Ne.symm h]

theorem getD_setIfInBounds {α : Type} (l : Array α) (n m : Nat) (v d : α) : (l.setIfInBounds n v).getD m d = if m = n ∧ n < l.size then v else l.getD m d := by
  simp only [Array.getD_eq_getD_getElem?, Array.getElem?_setIfInBounds]
  by_cases h : n = m
  · subst h
    by_cases h2 : n < l.size
    · simp [h2]
    · simp [h2]
  · simp [h, Ne.symm h]

section
variable {B : Base} {C : Ctx} {w w' : World} {a : Act} {st : St}

theorem Inv.set (h : Inv B C w a st) {n : Nat} {sv : SVal} {v : Value} (hr : RelSV B.P C w sv v) (hk : ∀ k ∈ sv.toks, k ∈ st.heap.map (·.1)) : Inv B C w (a.put (some n) v) (st.set n sv) := by
  refine ⟨by rw [St.set_len, h.len]; simp [Act.put], h.defers, fun m => ?_, fun m k hm => ?_, by rw [St.set_heap]; exact h.heap⟩
  · rw [St.get_set]
    simp only [Act.put]
    rw [getD_setIfInBounds, ← h.len]
    split
    · exact hr
    · exact h.slots m
  · rw [St.set_heap]
    rw [St.get_set] at hm
    split at hm
    · exact hk k hm
    · exact h.named m k hm

/-- Where nothing is put. -/
theorem Inv.put (h : Inv B C w a st) {d : Option Tmp} {sv : SVal} {v : Value} (hr : RelSV B.P C w sv v) (hk : ∀ k ∈ sv.toks, k ∈ st.heap.map (·.1)) :
    Inv B C w (a.put d v) (match d with | some n => st.set n sv | none => st) := by
  cases d with
  | none => exact h
  | some n => exact h.set hr hk

theorem goes_of_evo (h : InvH B C w st.heap) {F : Nat → Prop} (he : Evo F w w') (hF : ∀ x, F x → ¬ C.I x) {C' : Ctx} (hI : ∀ b, C.I b → C'.I b) : Goes C C' w w' :=
  ⟨hI, he.later fun x hx => ⟨h.imm x hx, fun hf => hF x hf hx⟩⟩

/-- The world has gone on, the own blocks are as they were. -/
theorem InvH.world {heap : List (Tok × Block)} (h : InvH B C w heap) (hb : Below w.heap.size w w') : InvH B C w' heap := by
  have g : Goes C C w w' := ⟨fun _ h => h, (Evo.of_below hb fun _ => False).later fun x hx => ⟨h.imm x hx, fun h => h⟩⟩
  refine ⟨fun k b hm => ?_, h.closed, h.nodup, h.apart, h.mine, fun b hI => Nat.lt_of_lt_of_le (h.imm b hI) hb.size, h.imm0, h.immNew, ?_, h.fixed, h.fixOld⟩
  · exact (h.blocks k b hm).goes g (fun _ _ => rfl) rfl rfl (fun x hx => hb.block x ((h.blocks k b hm).lt hx))
  · exact h.evo.trans (Evo.of_below hb fun _ => False) (fun _ _ h => h.elim)

theorem Inv.world (h : Inv B C w a st) (hb : Below w.heap.size w w') : Inv B C w' a st := by
  have g : Goes C C w w' := ⟨fun _ h => h, (Evo.of_below hb fun _ => False).later fun x hx => ⟨h.heap.imm x hx, fun h => h⟩⟩
  exact ⟨h.len, h.defers, fun n => (h.slots n).goes g (fun _ _ => rfl), h.named, h.heap.world hb⟩

/-- C, with a value for one more token. -/
def Ctx.with (C : Ctx) (k : Tok) (v : Value) : Ctx := { C with ρ := fun k' => if k' = k then v else C.ρ k', around := fun k' => if k' = k then ([], []) else C.around k' }

theorem Ctx.with_ρ (C : Ctx) (k : Tok) (v : Value) : (C.with k v).ρ k = v := by simp [Ctx.with]
theorem Ctx.with_other (C : Ctx) {k k' : Tok} (v : Value) (h : k' ≠ k) : (C.with k v).ρ k' = C.ρ k' := by simp [Ctx.with, h]

theorem goes_with (h : InvH B C w st.heap) (hb : Below w.heap.size w w') (k : Tok) (v : Value) : Goes C (C.with k v) w w' :=
  ⟨fun _ h => h, (Evo.of_below hb fun _ => False).later fun x hx => ⟨h.imm x hx, fun h => h⟩⟩

/-- A new block. -/
theorem InvH.new {heap : List (Tok × Block)} (h : InvH B C w heap) (hb : Below w.heap.size w w') {k : Tok} {v : Value} {b : Block} (hk : k ∉ heap.map (·.1)) (hf : k ∉ B.fix)
    (hv : ∀ g, b.at v = some g → w.heap.size ≤ g) (ht : ∀ k' ∈ b.toks, k' ∈ heap.map (·.1)) (hr : RelBlock B.P (C.with k v) w' k b) : InvH B (C.with k v) w' ((k, b) :: heap) := by
  have g : Goes C (C.with k v) w w' := ⟨fun _ h => h, (Evo.of_below hb fun _ => False).later fun x hx => ⟨h.imm x hx, fun h => h⟩⟩
  have hkey : ∀ k' b', (k', b') ∈ heap → k' ≠ k := fun k' b' hm e => hk (by rw [← e]; exact List.mem_map_of_mem (f := (·.1)) hm)
  have hne : ∀ k', k' ∈ heap.map (·.1) → k' ≠ k := fun k' hm e => hk (e ▸ hm)
  refine ⟨?_, ?_, ?_, ?_, ?_, fun x hx => Nat.lt_of_lt_of_le (h.imm x hx) hb.size, h.imm0, h.immNew, h.evo.trans (Evo.of_below hb fun _ => False) (fun _ _ h => h.elim), ?_, h.fixOld⟩
  · intro k' b' hm
    rcases List.mem_cons.1 hm with e | hm
    · cases e; exact hr
    · have hne' := hkey k' b' hm
      exact (h.blocks k' b' hm).goes g (fun k2 hk2 => C.with_other v (hne k2 (h.closed k' b' hm k2 hk2))) (C.with_other v hne') (by simp [Ctx.with, hne']) (fun x hx => hb.block x ((h.blocks k' b' hm).lt hx))
  · intro k' b' hm k2 hk2
    rcases List.mem_cons.1 hm with e | hm
    · cases e; exact List.mem_cons_of_mem _ (ht k2 hk2)
    · exact List.mem_cons_of_mem _ (h.closed k' b' hm k2 hk2)
  · simp only [List.map_cons]
    exact List.nodup_cons.2 ⟨hk, h.nodup⟩
  · intro k1 b1 k2 b2 h1 h2 hne12 x hx hy
    rcases List.mem_cons.1 h1 with e1 | h1 <;> rcases List.mem_cons.1 h2 with e2 | h2
    · cases e1; cases e2; exact hne12 rfl
    · cases e1
      rw [C.with_ρ] at hx
      rw [C.with_other v (hkey _ _ h2)] at hy
      have := hv x hx; have := (h.blocks _ _ h2).lt hy; omega
    · cases e2
      rw [C.with_ρ] at hy
      rw [C.with_other v (hkey _ _ h1)] at hx
      have := hv x hy; have := (h.blocks _ _ h1).lt hx; omega
    · rw [C.with_other v (hkey _ _ h1)] at hx
      rw [C.with_other v (hkey _ _ h2)] at hy
      exact h.apart _ _ _ _ h1 h2 hne12 x hx hy
  · intro k' b' hm x hx
    rcases List.mem_cons.1 hm with e | hm
    · cases e
      rw [C.with_ρ] at hx
      have := hv x hx
      exact ⟨fun hI => by have := h.imm x hI; omega, .inl (Nat.le_trans h.evo.size this)⟩
    · rw [C.with_other v (hkey _ _ hm)] at hx
      exact h.mine _ _ hm x hx
  · intro k' hm
    have : k' ≠ k := fun e => hf (e ▸ hm)
    exact ⟨(C.with_other v this).trans (h.fixed k' hm).1, by simp only [Ctx.with, this, if_false]; exact (h.fixed k' hm).2⟩

theorem Inv.new (h : Inv B C w a st) (hb : Below w.heap.size w w') {k : Tok} {v : Value} {b : Block} (hk : k ∉ st.heap.map (·.1)) (hf : k ∉ B.fix)
    (hv : ∀ g, b.at v = some g → w.heap.size ≤ g) (ht : ∀ k' ∈ b.toks, k' ∈ st.heap.map (·.1)) (hr : RelBlock B.P (C.with k v) w' k b) :
    Inv B (C.with k v) w' a { st with heap := (k, b) :: st.heap } := by
  have g : Goes C (C.with k v) w w' := goes_with h.heap hb k v
  exact ⟨h.len, h.defers, fun n => (h.slots n).goes g (fun k' hm => C.with_other v (fun e => hk (e ▸ h.named n k' hm))), fun n k' hm => List.mem_cons_of_mem _ (h.named n k' hm), h.heap.new hb hk hf hv ht hr⟩

/-- An own block is written. -/
theorem InvH.write {heap : List (Tok × Block)} (h : InvH B C w heap) {k : Tok} {b b' : Block} (hm : (k, b) ∈ heap) (he : Evo (fun g => b.at (C.ρ k) = some g) w w')
    (hat : ∀ g, b'.at (C.ρ k) = some g → b.at (C.ρ k) = some g) (ht : ∀ k' ∈ b'.toks, k' ∈ heap.map (·.1)) (hr : RelBlock B.P C w' k b') : InvH B C w' (hset k b' heap) := by
  have hF : ∀ x, b.at (C.ρ k) = some x → ¬ C.I x := fun x hx => (h.mine k b hm x hx).1
  have g : Goes C C w w' := ⟨fun _ h => h, he.later fun x hx => ⟨h.imm x hx, fun hf => hF x hf hx⟩⟩
  refine ⟨?_, ?_, by rw [hset_keys]; exact h.nodup, ?_, ?_, fun x hx => Nat.lt_of_lt_of_le (h.imm x hx) he.size, h.imm0, h.immNew, ?_, h.fixed, h.fixOld⟩
  · intro k1 b1 h1
    rcases mem_hset h1 with ⟨rfl, rfl⟩ | ⟨hne, h1⟩
    · exact hr
    · exact (h.blocks _ _ h1).goes g (fun _ _ => rfl) rfl rfl (fun x hx => he.block x ((h.blocks _ _ h1).lt hx) (h.apart _ _ _ _ h1 hm hne x hx))
  · intro k1 b1 h1 k2 hk2
    rw [hset_keys]
    rcases mem_hset h1 with ⟨rfl, rfl⟩ | ⟨hne, h1⟩
    · exact ht k2 hk2
    · exact h.closed _ _ h1 k2 hk2
  · intro k1 b1 k2 b2 h1 h2 hne x hx hy
    rcases mem_hset h1 with ⟨e1, e1'⟩ | ⟨hn1, m1⟩ <;> rcases mem_hset h2 with ⟨e2, e2'⟩ | ⟨hn2, m2⟩
    · exact hne (e1.trans e2.symm)
    · subst e1; subst e1'
      exact h.apart _ _ _ _ hm m2 (Ne.symm hn2) x (hat x hx) hy
    · subst e2; subst e2'
      exact h.apart _ _ _ _ m1 hm hn1 x hx (hat x hy)
    · exact h.apart _ _ _ _ m1 m2 hne x hx hy
  · intro k1 b1 h1 x hx
    rcases mem_hset h1 with ⟨rfl, rfl⟩ | ⟨hn1, h1⟩
    · exact h.mine _ _ hm x (hat x hx)
    · exact h.mine _ _ h1 x hx
  · exact h.evo.trans he (fun x hx hf => (h.mine k b hm x hf).2.resolve_left (by omega))

theorem Inv.write (h : Inv B C w a st) {k : Tok} {b b' : Block} (hm : (k, b) ∈ st.heap) (he : Evo (fun g => b.at (C.ρ k) = some g) w w')
    (hat : ∀ g, b'.at (C.ρ k) = some g → b.at (C.ρ k) = some g) (ht : ∀ k' ∈ b'.toks, k' ∈ st.heap.map (·.1)) (hr : RelBlock B.P C w' k b') : Inv B C w' a { st with heap := hset k b' st.heap } := by
  have hF : ∀ x, b.at (C.ρ k) = some x → ¬ C.I x := fun x hx => (h.heap.mine k b hm x hx).1
  have g : Goes C C w w' := ⟨fun _ h => h, he.later fun x hx => ⟨h.heap.imm x hx, fun hf => hF x hf hx⟩⟩
  exact ⟨h.len, h.defers, fun n => (h.slots n).goes g (fun _ _ => rfl), fun n k' hk => by rw [hset_keys]; exact h.named n k' hk, h.heap.write hm he hat ht hr⟩
end
end Go.AM

/- Parts of values; constants; operands; types. -/
namespace Go.AM
open Go.RowKit

def dropA (n : Nat) : List Atom → Option (List Atom)
  | [] => if n = 0 then some [] else none
  | a :: as => if n = 0 then some (a :: as) else if a.size ≤ n then dropA (n - a.size) as else none
def takeA (n : Nat) : List Atom → Option (List Atom)
  | [] => if n = 0 then some [] else none
  | a :: as => if n = 0 then some [] else if a.size ≤ n then (takeA (n - a.size) as).map (a :: ·) else none

/-- Other cells in the place of those from 'off' on. -/
def putA (off : Nat) (new : List Atom) (as : List Atom) : Option (List Atom) :=
  match takeA off as, dropA (off + (new.map Atom.size).sum) as with
  | some x, some y => some (x ++ (new ++ y))
  | _, _ => none

@[reducible] def explode : (t : Ty) → t.den → List Atom
  | .unit, _ => []
  | .pair a b, x => explode a x.1 ++ explode b x.2
  | .agg t, x => explode t x
  | .int k, x => [.pure (.int k) x]
  | .bool, x => [.pure .bool x]
  | .str, x => [.pure .str x]
  | .list t, x => [.pure (.list t) x]
  | .arr n t, x => [.pure (.arr n t) x]
  | .fn a r, x => [.pure (.fn a r) x]
  | .opt t, x => [.pure (.opt t) x]
  | .sum a b, x => [.pure (.sum a b) x]

/-- One cell's datum of a given code. -/
def asPure (t : Ty) : Atom → Option t.den
  | .pure t' x => if h : t' = t then some (h ▸ x) else none
  | .const (.slice none 0 0) => match t with | .list _ => some [] | _ => none
  | .e0 => match t with | .list _ => some [] | _ => none
  | _ => none

/-- n of them. -/
def implodeN {α : Type} (f : List Atom → Option (α × List Atom)) : Nat → List Atom → Option (List α × List Atom)
  | 0, as => some ([], as)
  | n + 1, as => match f as with
    | none => none
    | some (x, r) => match implodeN f n r with
      | none => none
      | some (xs, s) => some (x :: xs, s)

def isArr : Atom → Bool
  | .pure (.arr _ _) _ => true
  | _ => false

def implode : (t : Ty) → List Atom → Option (t.den × List Atom)
  | .unit, as => some ((), as)
  | .pair a b, as => match implode a as with
    | none => none
    | some (x, r) => match implode b r with
      | none => none
      | some (y, s) => some ((x, y), s)
  | .agg t, as => implode t as
  | .int k, as => match as with | [] => none | a :: r => (asPure (.int k) a).map (·, r)
  | .bool, as => match as with | [] => none | a :: r => (asPure .bool a).map (·, r)
  | .str, as => match as with | [] => none | a :: r => (asPure .str a).map (·, r)
  | .list t, as => match as with | [] => none | a :: r => (asPure (.list t) a).map (·, r)
  | .arr n t, as => match as with
    | [] => implodeN (implode t) n []
    | a :: r => bif isArr a then (asPure (.arr n t) a).map (·, r) else implodeN (implode t) n (a :: r)
  | .fn b c, as => match as with | [] => none | a :: r => (asPure (.fn b c) a).map (·, r)
  | .opt _, _ => none
  | .sum _ _, _ => none

/-- A datum out of all cells. -/
def implodeAll (t : Ty) (as : List Atom) : Option t.den :=
  match implode t as with
  | some (x, []) => some x
  | _ => none

section
variable {P : Program} {C : Ctx} {w : World}

theorem RelAtoms.append : ∀ {as bs : List Atom} {cs ds : List Value}, RelAtoms P C w as cs → RelAtoms P C w bs ds → RelAtoms P C w (as ++ bs) (cs ++ ds)
  | [], _, _, _, h, k => by rw [show _ = [] from h]; exact k
  | _ :: _, _, _, _, ⟨c1, c2, e, h1, h2⟩, k => ⟨c1, c2 ++ _, by rw [e, List.append_assoc], h1, h2.append k⟩

theorem RelAtoms.size : ∀ {as : List Atom} {cs : List Value}, RelAtoms P C w as cs → cs.length = (as.map Atom.size).sum
  | [], _, h => by rw [show _ = [] from h]; rfl
  | _ :: _, _, ⟨c1, c2, e, h1, h2⟩ => by rw [e, List.length_append, h1.size, h2.size]; rfl

theorem dropA_rel : ∀ {as bs : List Atom} {n : Nat} {cs : List Value}, RelAtoms P C w as cs → dropA n as = some bs → n ≤ cs.length ∧ RelAtoms P C w bs (cs.drop n)
  | [], bs, n, cs, h, e => by
    unfold dropA at e
    split at e
    · rename_i hn; subst hn; cases e; exact ⟨Nat.zero_le _, by simpa using h⟩
    · cases e
  | a :: as, bs, n, cs, h, e => by
    unfold dropA at e
    split at e
    · rename_i hn; subst hn; cases e; exact ⟨Nat.zero_le _, by simpa using h⟩
    · split at e
      · rename_i hle
        obtain ⟨c1, c2, rfl, h1, h2⟩ := h
        have hs := h1.size
        obtain ⟨h3, h4⟩ := dropA_rel h2 e
        refine ⟨by rw [List.length_append]; omega, ?_⟩
        rw [List.drop_append, List.drop_of_length_le (by omega), List.nil_append, hs]
        exact h4
      · cases e

theorem takeA_rel : ∀ {as bs : List Atom} {n : Nat} {cs : List Value}, RelAtoms P C w as cs → takeA n as = some bs → n ≤ cs.length ∧ RelAtoms P C w bs (cs.take n)
  | [], bs, n, cs, h, e => by
    unfold takeA at e
    split at e
    · rename_i hn; subst hn; cases e; exact ⟨Nat.zero_le _, by simp [RelAtoms]⟩
    · cases e
  | a :: as, bs, n, cs, h, e => by
    unfold takeA at e
    split at e
    · rename_i hn; subst hn; cases e; exact ⟨Nat.zero_le _, by simp [RelAtoms]⟩
    · split at e
      · rename_i hle
        obtain ⟨c1, c2, rfl, h1, h2⟩ := h
        have hs := h1.size
        cases ht : takeA (n - a.size) as with
        | none => rw [ht] at e; cases e
        | some ds =>
          rw [ht] at e
          cases e
          obtain ⟨h3, h4⟩ := takeA_rel h2 ht
          refine ⟨by rw [List.length_append]; omega, c1, _, ?_, h1, h4⟩
          rw [List.take_append, List.take_of_length_le (by omega), hs]
      · cases e

theorem dropA_sub : ∀ {as bs : List Atom} {n : Nat}, dropA n as = some bs → ∀ x ∈ bs, x ∈ as
  | [], bs, n, e, x, hx => by
    unfold dropA at e; split at e
    · cases e; exact hx
    · cases e
  | a :: as, bs, n, e, x, hx => by
    unfold dropA at e; split at e
    · cases e; exact hx
    · split at e
      · exact List.mem_cons_of_mem _ (dropA_sub e x hx)
      · cases e

theorem takeA_sub : ∀ {as bs : List Atom} {n : Nat}, takeA n as = some bs → ∀ x ∈ bs, x ∈ as
  | [], bs, n, e, x, hx => by
    unfold takeA at e; split at e
    · cases e; exact hx
    · cases e
  | a :: as, bs, n, e, x, hx => by
    unfold takeA at e; split at e
    · cases e; cases hx
    · split at e
      · cases ht : takeA (n - a.size) as with
        | none => rw [ht] at e; cases e
        | some ds =>
          rw [ht] at e; cases e
          rcases List.mem_cons.1 hx with rfl | hx
          · simp
          · exact List.mem_cons_of_mem _ (takeA_sub ht x hx)
      · cases e

theorem putA_rel {as bs new : List Atom} {off : Nat} {cs ds : List Value} (h : RelAtoms P C w as cs) (hn : RelAtoms P C w new ds) (e : putA off new as = some bs) :
    off + ds.length ≤ cs.length ∧ RelAtoms P C w bs (cs.take off ++ (ds ++ cs.drop (off + ds.length))) := by
  unfold putA at e
  cases h1 : takeA off as with
  | none => rw [h1] at e; cases e
  | some x =>
    cases h2 : dropA (off + (new.map Atom.size).sum) as with
    | none => rw [h1, h2] at e; cases e
    | some y =>
      rw [h1, h2] at e
      cases e
      have hs := hn.size
      rw [← hs] at h2
      exact ⟨(dropA_rel h h2).1, (takeA_rel h h1).2.append (hn.append (dropA_rel h h2).2)⟩

theorem putA_toks {as bs new : List Atom} {off : Nat} (e : putA off new as = some bs) {k : Tok} (hk : k ∈ bs.flatMap Atom.toks) : k ∈ as.flatMap Atom.toks ∨ k ∈ new.flatMap Atom.toks := by
  unfold putA at e
  cases h1 : takeA off as with
  | none => rw [h1] at e; cases e
  | some x =>
    cases h2 : dropA (off + (new.map Atom.size).sum) as with
    | none => rw [h1, h2] at e; cases e
    | some y =>
      rw [h1, h2] at e
      cases e
      simp only [List.flatMap_append, List.mem_append, List.mem_flatMap] at hk ⊢
      rcases hk with ⟨b, hb, hk⟩ | ⟨b, hb, hk⟩ | ⟨b, hb, hk⟩
      · exact .inl ⟨b, takeA_sub h1 b hb, hk⟩
      · exact .inr ⟨b, hb, hk⟩
      · exact .inl ⟨b, dropA_sub h2 b hb, hk⟩

theorem explode_rel : ∀ (t : Ty) {x : t.den} {cs : List Value}, (rels P t).cells C.I w x cs → RelAtoms P C w (explode t x) cs := by
  intro t
  induction t with
  | unit => intro x cs h; exact h
  | pair a b iha ihb => rintro x cs ⟨c1, c2, rfl, h1, h2⟩; exact (iha h1).append (ihb h2)
  | agg t ih => intro x cs h; exact ih h
  | int => intro x cs h; exact ⟨cs, [], by simp, h, rfl⟩
  | bool => intro x cs h; exact ⟨cs, [], by simp, h, rfl⟩
  | str => intro x cs h; exact ⟨cs, [], by simp, h, rfl⟩
  | list t => intro x cs h; exact ⟨cs, [], by simp, h, rfl⟩
  | arr n t => intro x cs h; exact ⟨cs, [], by simp, h, rfl⟩
  | fn a r => intro x cs h; exact ⟨cs, [], by simp, h, rfl⟩
  | opt t => intro x cs h; exact h.elim
  | sum a b => intro x cs h; exact h.elim

theorem explode_toks : ∀ (t : Ty) (x : t.den), (explode t x).flatMap Atom.toks = [] := by
  intro t
  induction t with
  | unit => intro x; rfl
  | pair a b iha ihb => intro x; simp only [explode, List.flatMap_append, iha, ihb, List.append_nil]
  | agg t ih => intro x; exact ih x
  | int | bool | str | list | arr | fn | opt | sum => intro x; rfl

theorem asPure_rel {t : Ty} {a : Atom} {x : t.den} {cs : List Value} (h : RelAtom P C w a cs) (e : asPure t a = some x) : (rels P t).cells C.I w x cs := by
  unfold asPure at e
  split at e
  · split at e
    · rename_i ht
      subst ht
      cases e
      exact h
    · cases e
  · split at e
    · cases e
      exact ⟨_, h, none, 0, 0, [], rfl, rfl, Nat.le_refl _, rfl, .inl rfl⟩
    · cases e
  · split at e
    · cases e
      obtain ⟨A, h⟩ := h
      exact ⟨_, h, A, 0, 0, [], rfl, rfl, Nat.le_refl _, rfl, .inl rfl⟩
    · cases e
  · cases e

theorem implodeN_rel {α : Type} {f : List Atom → Option (α × List Atom)} {S : α → List Value → Prop}
    (hf : ∀ as rest x cs, RelAtoms P C w as cs → f as = some (x, rest) → ∃ c1 c2, cs = c1 ++ c2 ∧ S x c1 ∧ RelAtoms P C w rest c2) :
    ∀ (n : Nat) {as rest : List Atom} {xs : List α} {cs : List Value}, RelAtoms P C w as cs → implodeN f n as = some (xs, rest) → xs.length = n ∧ ∃ c1 c2, cs = c1 ++ c2 ∧ concatR S xs c1 ∧ RelAtoms P C w rest c2
  | 0, as, rest, xs, cs, h, e => by cases e; exact ⟨rfl, [], cs, rfl, rfl, h⟩
  | n + 1, as, rest, xs, cs, h, e => by
    unfold implodeN at e
    split at e
    · cases e
    · rename_i x r he
      split at e
      · cases e
      · rename_i ys s he2
        cases e
        obtain ⟨c1, c2, rfl, h1, h2⟩ := hf _ _ _ _ h he
        obtain ⟨hl, d1, d2, rfl, h3, h4⟩ := implodeN_rel hf n h2 he2
        exact ⟨by simp [hl], c1 ++ d1, d2, by simp, ⟨c1, d1, rfl, h1, h3⟩, h4⟩

theorem implode_rel : ∀ (t : Ty) {as rest : List Atom} {x : t.den} {cs : List Value}, RelAtoms P C w as cs → implode t as = some (x, rest) → ∃ c1 c2, cs = c1 ++ c2 ∧ (rels P t).cells C.I w x c1 ∧ RelAtoms P C w rest c2 := by
  have one : ∀ (t : Ty) {as rest : List Atom} {x : t.den} {cs : List Value}, RelAtoms P C w as cs → (match as with | [] => none | a :: r => (asPure t a).map (·, r)) = some (x, rest) →
      ∃ c1 c2, cs = c1 ++ c2 ∧ (rels P t).cells C.I w x c1 ∧ RelAtoms P C w rest c2 := by
    intro t as rest x cs h e
    cases as with
    | nil => cases e
    | cons a r =>
      obtain ⟨c1, c2, rfl, h1, h2⟩ := h
      simp only [Option.map_eq_some_iff] at e
      obtain ⟨y, hy, e⟩ := e
      cases e
      exact ⟨c1, c2, rfl, asPure_rel h1 hy, h2⟩
  intro t
  induction t with
  | unit => intro as rest x cs h e; cases e; exact ⟨[], cs, rfl, rfl, h⟩
  | pair a b iha ihb =>
    intro as rest x cs h e
    unfold implode at e
    split at e
    · cases e
    · rename_i y r he
      split at e
      · cases e
      · rename_i z s he2
        cases e
        obtain ⟨c1, c2, rfl, h1, h2⟩ := iha h he
        obtain ⟨d1, d2, rfl, h3, h4⟩ := ihb h2 he2
        exact ⟨c1 ++ d1, d2, by simp, ⟨c1, d1, rfl, h1, h3⟩, h4⟩
  | agg t ih => intro as rest x cs h e; exact ih h e
  | int k => intro as rest x cs h e; exact one _ h e
  | bool => intro as rest x cs h e; exact one _ h e
  | str => intro as rest x cs h e; exact one _ h e
  | list t => intro as rest x cs h e; exact one _ h e
  | arr n t ih =>
    intro as rest x cs h e
    have key : ∀ {as : List Atom}, RelAtoms P C w as cs → implodeN (implode t) n as = some (x, rest) → ∃ c1 c2, cs = c1 ++ c2 ∧ (rels P (.arr n t)).cells C.I w x c1 ∧ RelAtoms P C w rest c2 := by
      intro as h e
      obtain ⟨hl, c1, c2, e1, h1, h2⟩ := implodeN_rel (S := fun x cs => (rels P t).cells C.I w x cs) (fun _ _ _ _ h e => ih h e) n h e
      exact ⟨c1, c2, e1, ⟨hl, h1⟩, h2⟩
    unfold implode at e
    cases as with
    | nil => exact key h e
    | cons a r =>
      cases hb : isArr a with
      | true => simp only [hb, cond_true] at e; exact one _ (as := a :: r) h e
      | false => simp only [hb, cond_false] at e; exact key h e
  | fn a r => intro as rest x cs h e; exact one _ h e
  | opt t => intro as rest x cs h e; cases e
  | sum a b => intro as rest x cs h e; cases e

theorem implodeAll_rel {t : Ty} {as : List Atom} {x : t.den} {cs : List Value} (h : RelAtoms P C w as cs) (e : implodeAll t as = some x) : (rels P t).cells C.I w x cs := by
  unfold implodeAll at e
  split at e
  · rename_i y he
    cases e
    obtain ⟨c1, c2, rfl, h1, h2⟩ := implode_rel t h he
    rw [show c2 = [] from h2, List.append_nil]
    exact h1
  · cases e
end

def Ty.dflt : (t : Ty) → t.den
  | .unit => ()
  | .int _ => 0
  | .bool => false
  | .str => ⟨#[]⟩
  | .pair a b => (a.dflt, b.dflt)
  | .list _ => []
  | .arr n t => List.replicate n t.dflt
  | .agg t => t.dflt
  | .fn _ _ => fun _ => none
  | .opt _ => none
  | .sum a _ => .inl a.dflt

/-- Data one behind the other, as atoms, and out of atoms. -/
@[reducible] def pureA (ps : List Datum) : List Atom := ps.map fun p => .pure p.1 p.2

def asDatum : Atom → Option Datum
  | .pure t x => some ⟨t, x⟩
  | _ => none
def asData : List Atom → Option (List Datum)
  | [] => some []
  | a :: as => match asDatum a, asData as with | some p, some ps => some (p :: ps) | _, _ => none

theorem pureA_rel {P : Program} {C : Ctx} {w : World} : ∀ {ps : List Datum} {cs : List Value}, concatR (fun (p : Datum) cs => (rels P p.1).cells C.I w p.2 cs) ps cs → RelAtoms P C w (pureA ps) cs
  | [], _, h => h
  | _ :: _, _, ⟨c1, c2, e, h1, h2⟩ => ⟨c1, c2, e, h1, pureA_rel h2⟩

theorem pureA_toks (ps : List Datum) : (pureA ps).flatMap Atom.toks = [] := by
  induction ps with
  | nil => rfl
  | cons p ps ih => simp [pureA, Atom.toks]

theorem asData_rel {P : Program} {C : Ctx} {w : World} : ∀ {as : List Atom} {ps : List Datum} {cs : List Value}, asData as = some ps → RelAtoms P C w as cs → concatR (fun (p : Datum) cs => (rels P p.1).cells C.I w p.2 cs) ps cs
  | [], ps, cs, e, h => by cases e; exact h
  | a :: as, ps, cs, e, h => by
    unfold asData at e
    split at e
    · rename_i p qs h1 h2
      cases e
      obtain ⟨c1, c2, e, h3, h4⟩ := h
      refine ⟨c1, c2, e, ?_, asData_rel h2 h4⟩
      unfold asDatum at h1
      split at h1
      · cases h1; exact h3
      · cases h1
    · cases e

/-! Constants -/

def litA : Value → Option Atom
  | .bool b => some (.pure .bool b)
  | .int k n => some (.pure (.int k) n)
  | .string s => some (.pure .str s)
  | .pointer none => some (.const (.pointer none))
  | .slice none 0 0 => some (.const (.slice none 0 0))
  | .map none => some (.const (.map none))
  | .nilFunc => some (.const .nilFunc)
  | .nilIface => some (.const .nilIface)
  | _ => none

def litAs : List Value → Option (List Atom)
  | [] => some []
  | v :: vs => match litA v, litAs vs with | some a, some as => some (a :: as) | _, _ => none

def litV : Value → SVal
  | .agg cs => match litAs cs.toList with | some as => .v (.agg as) | none => .undef
  | v => match litA v with | some a => .v (.one a) | none => .undef

def evalS (st : St) : Operand → SVal
  | .tmp t => st.get t
  | .const v => litV v
  | .global _ => .undef
  | .func f => .v (.one (.func f []))

section
variable {P : Program} {C : Ctx} {w : World}
theorem litA_rel {v : Value} {a : Atom} (e : litA v = some a) : RelAtom P C w a [v] ∧ a.toks = [] := by
  unfold litA at e
  split at e <;> cases e <;> exact ⟨rfl, rfl⟩

theorem litAs_rel : ∀ {vs : List Value} {as : List Atom}, litAs vs = some as → RelAtoms P C w as vs ∧ as.flatMap Atom.toks = []
  | [], as, e => by cases e; exact ⟨rfl, rfl⟩
  | v :: vs, as, e => by
    unfold litAs at e
    split at e
    · rename_i a bs h1 h2
      cases e
      obtain ⟨h3, h4⟩ := litA_rel (P := P) (C := C) (w := w) h1
      obtain ⟨h5, h6⟩ := litAs_rel h2
      exact ⟨⟨[v], vs, rfl, h3, h5⟩, by simp [h4, h6]⟩
    · cases e

theorem litV_rel (v : Value) : RelSV P C w (litV v) v ∧ (litV v).toks = [] := by
  unfold litV
  split
  · rename_i cs
    split
    · rename_i as h
      obtain ⟨h1, h2⟩ := litAs_rel (P := P) (C := C) (w := w) h
      exact ⟨⟨cs.toList, by simp, h1⟩, h2⟩
    · exact ⟨trivial, rfl⟩
  · split
    · rename_i a h
      obtain ⟨h1, h2⟩ := litA_rel (P := P) (C := C) (w := w) h
      exact ⟨h1, by simpa [SVal.toks, SVal.atoms, V1.atoms] using h2⟩
    · exact ⟨trivial, rfl⟩
end

theorem evalS_rel {B : Base} {C : Ctx} {w : World} {a : Act} {st : St} (h : Inv B C w a st) (x : Operand) :
    RelSV B.P C w (evalS st x) (a.eval x) ∧ ∀ k ∈ (evalS st x).toks, k ∈ st.heap.map (·.1) := by
  cases x with
  | tmp t => exact ⟨h.slots t, h.named t⟩
  | const v => exact ⟨(litV_rel v).1, by rw [evalS, (litV_rel (P := B.P) (C := C) (w := w) v).2]; exact fun _ h => by cases h⟩
  | global g => exact ⟨trivial, fun _ h => by cases h⟩
  | func f => exact ⟨⟨[], rfl, rfl⟩, fun _ h => by cases h⟩

/-! Types -/

inductive TD where
  | int (k : IntKind) | bool | str | slice (e : TypeId) | struct (fs : List (Nat × TypeId)) | array (n : Nat) (e : TypeId) | pointer (e : TypeId) | other

structure TI where
  d : TD
  size : Nat
  bytes : Nat
  zero : List Value
  cells : Ty

def TD.isAgg : TD → Bool
  | .struct _ | .array _ _ => true
  | _ => false

def descAgg : TypeDesc → Bool
  | .struct _ | .array _ _ => true
  | _ => false

def TD.Is : TD → TypeDesc → Prop
  | .int k, d => d = .int k
  | .bool, d => d = .bool
  | .str, d => d = .string
  | .slice e, d => d = .slice e
  | .struct fs, d => ∃ a, d = .struct a ∧ a.toList.map (fun f => (f.offset, f.type)) = fs
  | .array n e, d => d = .array n e
  | .pointer e, d => d = .pointer e
  | .other, d => descAgg d = false

def TI.Ok (P : Program) (t : TypeId) (i : TI) : Prop :=
  ∃ d ti z, P.underlying t = some d ∧ i.d.Is d ∧ P.info? t = some ti ∧ ti.size = i.size ∧ ti.bytes = i.bytes ∧ ti.zero = some z ∧ z.cells.toList = i.zero

theorem TD.Is.agg {x : TD} {d : TypeDesc} (h : x.Is d) : descAgg d = x.isAgg := by
  cases x with
  | struct fs => obtain ⟨a, rfl, _⟩ := h; rfl
  | other => exact h
  | int k => rw [show d = _ from h]; rfl
  | bool => rw [show d = _ from h]; rfl
  | str => rw [show d = _ from h]; rfl
  | slice e => rw [show d = _ from h]; rfl
  | array n e => rw [show d = _ from h]; rfl
  | pointer e => rw [show d = _ from h]; rfl

section
variable {P : Program} {t : TypeId} {i : TI}
theorem TI.Ok.run_sizeOf (h : i.Ok P t) (w : World) : (sizeOf t).run P w = .ok i.size w := by
  obtain ⟨d, ti, z, _, _, h1, h2, _⟩ := h
  simp [sizeOf, typeInfo, h1, h2]
theorem TI.Ok.run_isAgg (h : i.Ok P t) (w : World) : (isAgg t).run P w = .ok i.d.isAgg w := by
  obtain ⟨d, ti, z, h1, h2, _⟩ := h
  have := h2.agg
  unfold isAgg
  rw [Sem.run_bind, run_underlying h1 w]
  rw [← this]
  cases d <;> rfl
theorem TI.Ok.run_zero (h : i.Ok P t) (w : World) : ∃ z, (zeroValue t).run P w = .ok z w ∧ z.cells.toList = i.zero := by
  obtain ⟨d, ti, z, _, _, h1, _, _, h2, h3⟩ := h
  exact ⟨z, by simp [zeroValue, typeInfo, h1, h2], h3⟩
end

/-- A variable's value out of its cells. -/
def TI.pack (i : TI) (as : List Atom) : Option V1 :=
  if i.d.isAgg then some (.agg as) else if i.size = 1 then match as with | [a] => some (.one a) | _ => none else none
end Go.AM

/- Operations that only reckon: what they do to an abstract state, and that the machine does so. -/
namespace Go.AM
open Go.RowKit

def St.putD (st : St) : Option Tmp → SVal → St
  | some n, v => st.set n v
  | none, _ => st

@[reducible] def pI (k : IntKind) (n : Int) : SVal := .v (.one (.pure (.int k) n))
@[reducible] def pB (b : Bool) : SVal := .v (.one (.pure .bool b))
@[reducible] def pS (s : ByteArray) : SVal := .v (.one (.pure .str s))

/-- What is left when a step has been made. -/
structure Cont (B : Base) {R : Type} (r : R) (K : St → Option R) (next : Act → World → Prop) : Prop where
  go : ∀ st' C' w' a', K st' = some r → Inv B C' w' a' st' → next a' w'

theorem wp_of_run {P : Program} {o : Oper} {a : Act} {w w' : World} {v : Value} {next : Act → World → Prop} {Q : Exit → Act → World → Prop}
    (h : (execOp a.eval o).run P w = .ok (.value v) w') (hn : next (a.put o.dst v) w') : o.wp P a w next Q := by
  unfold Oper.wp; rw [h]; exact hn

theorem wp_of_skip {P : Program} {o : Oper} {a : Act} {w w' : World} {next : Act → World → Prop} {Q : Exit → Act → World → Prop}
    (h : (execOp a.eval o).run P w = .ok .skip w') (hn : next (a.put o.dst undef) w') : o.wp P a w next Q := by
  unfold Oper.wp; rw [h]; exact hn

theorem Inv.putD {B : Base} {C : Ctx} {w : World} {a : Act} {st : St} (h : Inv B C w a st) {d : Option Tmp} {sv : SVal} {v : Value} (hr : RelSV B.P C w sv v) (hk : ∀ k ∈ sv.toks, k ∈ st.heap.map (·.1)) :
    Inv B C w (a.put d v) (st.putD d sv) := by
  cases d with
  | none => exact h
  | some n => exact h.set hr hk

theorem Cont.done {B : Base} {R : Type} {r : R} {K : St → Option R} {next : Act → World → Prop} {Q : Exit → Act → World → Prop} (c : Cont B r K next) {o : Oper} {C' : Ctx} {w w' : World} {a : Act} {st' : St} {sv : SVal} {v : Value}
    (he : K (st'.putD o.dst sv) = some r) (hi : Inv B C' w' a st') (hr : RelSV B.P C' w' sv v) (hk : ∀ k ∈ sv.toks, k ∈ st'.heap.map (·.1))
    (hrun : (execOp a.eval o).run B.P w = .ok (.value v) w') : o.wp B.P a w next Q :=
  wp_of_run hrun (c.go _ _ _ _ he (hi.putD hr hk))

/-! Two operands -/

def execBin {R : Type} (isB : Bool) (op : BinOp) (x y : SVal) (K : SVal → Option R) : Option R :=
  match x, y with
  | .v (.one (.pure (.int k) a)), .v (.one (.pure (.int k') b)) =>
    match op with
    | .shl => bif decide (b < 0) then none else K (pI k (k.wrap (a * 2 ^ min b.toNat k.bits)))
    | .shr => bif decide (b < 0) then none else K (pI k (a.fdiv (2 ^ min b.toNat k.bits)))
    | op =>
      if k = k' then
        match op with
        | .add => K (pI k (k.wrap (a + b)))
        | .sub => K (pI k (k.wrap (a - b)))
        | .mul => K (pI k (k.wrap (a * b)))
        | .quo => bif b == 0 then none else K (pI k (k.wrap (a.tdiv b)))
        | .rem => bif b == 0 then none else K (pI k (a.tmod b))
        | .and => K (pI k (bits .and k a b))
        | .or => K (pI k (bits .or k a b))
        | .xor => K (pI k (bits .xor k a b))
        | .andNot => K (pI k (bits .andNot k a b))
        | .eql => K (pB (a == b))
        | .neq => K (pB (a != b))
        | .lss => K (pB (decide (a < b)))
        | .leq => K (pB (decide (a ≤ b)))
        | .gtr => K (pB (decide (a > b)))
        | .geq => K (pB (decide (a ≥ b)))
        | _ => none
      else none
  | .v (.one (.pure .str a)), .v (.one (.pure .str b)) =>
    match op with
    | .eql => K (pB (a.toList == b.toList))
    | .neq => K (pB (!(a.toList == b.toList)))
    | .lss => K (pB (Op.bytesLess a.toList b.toList))
    | .leq => K (pB (Op.bytesLess a.toList b.toList || a.toList == b.toList))
    | .gtr => K (pB (!(Op.bytesLess a.toList b.toList || a.toList == b.toList)))
    | .geq => K (pB (!Op.bytesLess a.toList b.toList))
    | .add => bif decide (((a.size + b.size : Nat) : Int) > IntKind.i64.max) then none else K (pS (a ++ b))
    | _ => none
  | .v (.one (.pure .bool a)), .v (.one (.pure .bool b)) =>
    if isB = true then
      match op with
      | .eql => K (pB (a == b))
      | .neq => K (pB (!(a == b)))
      | _ => none
    else none
  | _, _ => none

theorem run_of_bin {P : Program} {w : World} {o : Oper} {a : Act} {op : BinOp} {T T' : TypeId} {x y : Operand} {v : Value} (ho : o.op = .binOp op T x y T')
    (hg : (eqGuard op T x y (a.eval x) (a.eval y)).run P w = .ok () w) (hb : (binOp op T (a.eval x) (a.eval y)).run P w = .ok v w) : (execOp a.eval o).run P w = .ok (.value v) w := by
  simp [execOp, ho, hg, hb]

theorem bif_some {α : Type} {b : Bool} {x : Option α} {r : α} (h : (bif b then none else x) = some r) : b = false ∧ x = some r := by
  cases b
  · exact ⟨rfl, h⟩
  · cases h

theorem bif_some' {α : Type} {b : Bool} {x : Option α} {r : α} (h : (bif b then x else none) = some r) : b = true ∧ x = some r := by
  cases b
  · cases h
  · exact ⟨rfl, h⟩

theorem eqGuard_int {P : Program} {w : World} (op : BinOp) (T : TypeId) (x y : Operand) (k k' : IntKind) (a b : Int) : (eqGuard op T x y (.int k a) (.int k' b)).run P w = .ok () w := by
  unfold eqGuard
  cases op <;> simp

theorem eqGuard_str {P : Program} {w : World} (op : BinOp) (T : TypeId) (x y : Operand) (a b : ByteArray) : (eqGuard op T x y (.string a) (.string b)).run P w = .ok () w := by
  unfold eqGuard
  cases op <;> simp

theorem binOp_int_run {P : Program} {w : World} {isB : Bool} {op : BinOp} {T : TypeId} {k k' : IntKind} {a b : Int} {R : Type} {K : SVal → Option R} {r : R}
    (h : execBin isB op (pI k a) (pI k' b) K = some r) : ∃ x, K x = some r ∧ ∃ v, (∀ w', (binOp op T (.int k a) (.int k' b)).run P w' = .ok v w') ∧ (∀ C, RelSV P C w x v) ∧ x.toks = [] := by
  have fin : ∀ {x : SVal} {v : Value} {S : Sem Value}, K x = some r → (∀ C, RelSV P C w x v) → x.toks = [] → S = pure v → ∃ x, K x = some r ∧ ∃ v, (∀ w', S.run P w' = .ok v w') ∧ (∀ C, RelSV P C w x v) ∧ x.toks = [] :=
    fun h1 h2 h3 h4 => ⟨_, h1, _, fun w' => by rw [h4]; rfl, h2, h3⟩
  unfold execBin at h
  cases op <;> simp only at h
  case shl =>
    obtain ⟨h1, h2⟩ := bif_some h
    exact fin h2 (fun _ => rfl) rfl (by simp only [binOp, Op.shift]; rw [if_neg (by simpa using h1)])
  case shr =>
    obtain ⟨h1, h2⟩ := bif_some h
    exact fin h2 (fun _ => rfl) rfl (by simp only [binOp, Op.shift]; rw [if_neg (by simpa using h1)])
  case andNot =>
    split at h
    · rename_i hk
      subst hk
      exact fin h (fun _ => rfl) rfl (by simp only [binOp, ne_eq, not_true_eq_false, if_false]; rfl)
    · cases h
  all_goals
    split at h
    · rename_i hk
      subst hk
      first
      | (obtain ⟨h1, h2⟩ := bif_some h
         exact fin h2 (fun _ => rfl) rfl (by simp only [binOp, Op.intDiv, ne_eq, not_true_eq_false, if_false]; rw [if_neg (by simpa using h1)]))
      | (exact fin h (fun _ => rfl) rfl (by simp [binOp, Op.intArith, Op.intCmp, intBits_and, intBits_or, intBits_xor]; done))
    · cases h

theorem binOp_str_run {P : Program} {w : World} {isB : Bool} {op : BinOp} {T : TypeId} {a b : ByteArray} {R : Type} {K : SVal → Option R} {r : R}
    (h : execBin isB op (pS a) (pS b) K = some r) : ∃ x, K x = some r ∧ ∃ v, (∀ w', (binOp op T (.string a) (.string b)).run P w' = .ok v w') ∧ (∀ C, RelSV P C w x v) ∧ x.toks = [] := by
  have fin : ∀ {x : SVal} {v : Value} {S : Sem Value}, K x = some r → (∀ C, RelSV P C w x v) → x.toks = [] → S = pure v → ∃ x, K x = some r ∧ ∃ v, (∀ w', S.run P w' = .ok v w') ∧ (∀ C, RelSV P C w x v) ∧ x.toks = [] :=
    fun h1 h2 h3 h4 => ⟨_, h1, _, fun w' => by rw [h4]; rfl, h2, h3⟩
  unfold execBin at h
  cases op <;> simp only at h
  case add =>
    obtain ⟨h1, h2⟩ := bif_some h
    exact fin h2 (fun _ => rfl) rfl (by simp only [binOp, Op.stringOp]; rw [if_neg (by simpa using h1)])
  all_goals
    first
    | (cases h; done)
    | (exact fin h (fun _ => rfl) rfl (by simp [binOp, Op.stringOp]))

theorem rel_int {P : Program} {C : Ctx} {w : World} {k : IntKind} {n : Int} {v : Value} (h : RelSV P C w (pI k n) v) : v = .int k n := by
  have := h; simpa [RelSV, RelV1, RelAtom, rels] using this
theorem rel_str {P : Program} {C : Ctx} {w : World} {n : ByteArray} {v : Value} (h : RelSV P C w (pS n) v) : v = .string n := by
  have := h; simpa [RelSV, RelV1, RelAtom, rels] using this
theorem rel_bool {P : Program} {C : Ctx} {w : World} {n : Bool} {v : Value} (h : RelSV P C w (pB n) v) : v = .bool n := by
  have := h; simpa [RelSV, RelV1, RelAtom, rels] using this

theorem execBin_sound {P : Program} {C : Ctx} {w : World} {isB : Bool} {op : BinOp} {T : TypeId} {x y : Operand} {sx sy : SVal} {vx vy : Value} {R : Type} {K : SVal → Option R} {r : R} (hB : isB = true → P.underlying T = some .bool)
    (hx : RelSV P C w sx vx) (hy : RelSV P C w sy vy)
    (h : execBin isB op sx sy K = some r) : ∃ s, K s = some r ∧ ∃ v, (∀ w', (binOp op T vx vy).run P w' = .ok v w') ∧ (∀ w', (eqGuard op T x y vx vy).run P w' = .ok () w') ∧ RelSV P C w s v ∧ s.toks = [] := by
  have h0 := h
  unfold execBin at h
  split at h
  · rename_i k a k' b
    have ex := rel_int hx
    have ey := rel_int hy
    subst ex; subst ey
    obtain ⟨s, h1, v, h2, h3, h4⟩ := binOp_int_run (P := P) (w := w) (T := T) h0
    exact ⟨s, h1, v, h2, fun w' => eqGuard_int .., h3 C, h4⟩
  · rename_i a b
    have ex := rel_str hx
    have ey := rel_str hy
    subst ex; subst ey
    obtain ⟨s, h1, v, h2, h3, h4⟩ := binOp_str_run (P := P) (w := w) (T := T) h0
    exact ⟨s, h1, v, h2, fun w' => eqGuard_str .., h3 C, h4⟩
  · rename_i a b
    have ex := rel_bool hx
    have ey := rel_bool hy
    subst ex; subst ey
    split at h
    · rename_i hb
      have hu := hB hb
      split at h
      · exact ⟨_, h, _, fun w' => run_eql_bool w' T a b hu, fun w' => by unfold eqGuard; simp, rfl, rfl⟩
      · exact ⟨_, h, _, fun w' => run_neq_bool w' T a b hu, fun w' => by unfold eqGuard; simp, rfl, rfl⟩
      · cases h
    · cases h
  · cases h

/-! One operand -/

def execUn {R : Type} (op : UnOp) (x : SVal) (K : SVal → Option R) : Option R :=
  match op, x with
  | .not, .v (.one (.pure .bool b)) => K (pB (!b))
  | .neg, .v (.one (.pure (.int k) n)) => K (pI k (k.wrap (0 - n)))
  | .xor, .v (.one (.pure (.int k) n)) => K (pI k (bits .xor k (if k.signed then -1 else k.max) n))
  | _, _ => none

theorem execUn_sound {P : Program} {C : Ctx} {w : World} {op : UnOp} {sx : SVal} {vx : Value} {R : Type} {K : SVal → Option R} {r : R} (hx : RelSV P C w sx vx)
    (h : execUn op sx K = some r) : ∃ s, K s = some r ∧ ∃ v, (∀ w', (Op.unary op vx).run P w' = .ok v w') ∧ RelSV P C w s v ∧ s.toks = [] := by
  unfold execUn at h
  split at h
  · rename_i b
    have ex : vx = .bool b := by have := hx; simpa [RelSV, RelV1, RelAtom, rels] using this
    subst ex
    exact ⟨_, h, _, fun _ => rfl, rfl, rfl⟩
  · rename_i k n
    have ex : vx = .int k n := by have := hx; simpa [RelSV, RelV1, RelAtom, rels] using this
    subst ex
    exact ⟨_, h, _, fun _ => rfl, rfl, rfl⟩
  · rename_i k n
    have ex : vx = .int k n := by have := hx; simpa [RelSV, RelV1, RelAtom, rels] using this
    subst ex
    exact ⟨_, h, _, fun _ => rfl, rfl, rfl⟩
  · cases h
end Go.AM

/- Operations that read memory. -/
namespace Go.AM
open Go.RowKit

def TIs (P : Program) (ti : TypeId → Option TI) : Prop := ∀ t i, ti t = some i → i.Ok P t

/-- The value of the variable of a type from cell 'off' on. -/
def partA (as : List Atom) (off : Nat) (i : TI) : Option V1 :=
  match dropA off as with
  | none => none
  | some bs => match takeA i.size bs with
    | none => none
    | some cs => i.pack cs

theorem partA_toks {as : List Atom} {off : Nat} {i : TI} {x : V1} (h : partA as off i = some x) {k : Tok} (hk : k ∈ x.atoms.flatMap Atom.toks) : k ∈ as.flatMap Atom.toks := by
  unfold partA at h
  split at h
  · cases h
  · rename_i bs hb
    split at h
    · cases h
    · rename_i cs hc
      have hs : ∀ y ∈ cs, y ∈ as := fun y hy => dropA_sub hb y (takeA_sub hc y hy)
      have hx : x.atoms = cs := by
        unfold TI.pack at h
        split at h
        · cases h; rfl
        · split at h
          · split at h
            · cases h; rfl
            · cases h
          · cases h
      rw [hx, List.mem_flatMap] at hk
      obtain ⟨y, hy, hk⟩ := hk
      exact List.mem_flatMap.2 ⟨y, hs y hy, hk⟩

section
variable {P : Program} {C : Ctx} {w : World}

theorem pack_rel {i : TI} {as : List Atom} {x : V1} {cs : List Value} (h : i.pack as = some x) (hl : cs.length = i.size) (hr : RelAtoms P C w as cs) :
    RelV1 P C w x (if i.d.isAgg then .agg cs.toArray else cs.headD undef) := by
  unfold TI.pack at h
  split at h
  · rename_i ha
    cases h
    rw [if_pos ha]
    exact ⟨cs, rfl, hr⟩
  · rename_i ha
    rw [if_neg ha]
    split at h
    · rename_i h1
      split at h
      · rename_i a
        cases h
        obtain ⟨c1, c2, e, h2, h3⟩ := hr
        rw [show c2 = [] from h3, List.append_nil] at e
        subst e
        match cs, hl.trans h1 with
        | [v], _ => exact h2
      · cases h
    · cases h

theorem partA_rel {as : List Atom} {off : Nat} {i : TI} {x : V1} {cs : List Value} (h : partA as off i = some x) (hr : RelAtoms P C w as cs) :
    off + i.size ≤ cs.length ∧ RelV1 P C w x (if i.d.isAgg then .agg ((cs.drop off).take i.size).toArray else ((cs.drop off).take i.size).headD undef) := by
  unfold partA at h
  split at h
  · cases h
  · rename_i bs hb
    obtain ⟨h1, h2⟩ := dropA_rel hr hb
    split at h
    · cases h
    · rename_i ds hd
      obtain ⟨h3, h4⟩ := takeA_rel h2 hd
      rw [List.length_drop] at h3
      exact ⟨by omega, pack_rel h (by rw [List.length_take, List.length_drop]; omega) h4⟩

/-- A variable is read. -/
theorem run_loadVar {T : TypeId} {i : TI} (h : i.Ok P T) (w : World) (a : Addr) (cs : List Value) (hl : cs.length = i.size) (hone : i.d.isAgg = false → i.size = 1)
    (hc : ∀ j v, cs[j]? = some v → w.cell? (a.add j) = some v) : (loadVar T a).run P w = .ok (if i.d.isAgg then .agg cs.toArray else cs.headD undef) w := by
  unfold loadVar
  rw [Sem.run_bind, h.run_isAgg]
  simp only [Result.andThen_ok]
  cases hd : i.d.isAgg with
  | true =>
    have hl' := run_loadCells_list (P := P) w a cs hc
    rw [hl] at hl'
    simp [h.run_sizeOf, hl']
  | false =>
    match cs, hl.trans (hone hd) with
    | [v], _ =>
      have h0 := hc 0 v rfl
      simp only [Addr.add, if_pos] at h0
      simp [h0]

theorem pack_one {i : TI} {as : List Atom} {x : V1} (h : i.pack as = some x) (hd : i.d.isAgg = false) : i.size = 1 := by
  unfold TI.pack at h
  rw [if_neg (by simp [hd])] at h
  split at h
  · assumption
  · cases h

theorem partA_one {as : List Atom} {off : Nat} {i : TI} {x : V1} (h : partA as off i = some x) (hd : i.d.isAgg = false) : i.size = 1 := by
  unfold partA at h
  split at h
  · cases h
  · split at h
    · cases h
    · exact pack_one h hd
end

def execLoad {R : Type} (ti : TypeId → Option TI) (T : TypeId) (a : SVal) (st : St) (K : SVal → Option R) : Option R :=
  match ti T with
  | none => none
  | some i =>
    match a with
    | .v (.one (.ptr k off)) =>
      match hget k st.heap with
      | some (.var as) => match partA as off i with | some x => K (.v x) | none => none
      | _ => none
    | .v (.one (.rptr k j sz sub)) =>
      match hget k st.heap with
      | some (.row _ t xs) => if t.size = sz then match partA (explode t (xs.getD j t.dflt)) sub i with | some x => K (.v x) | none => none else none
      | some (.lrow t xs) => if t.size = sz then match partA (explode t (xs.getD j t.dflt)) sub i with | some x => K (.v x) | none => none else none
      | _ => none
    | .v (.one (.cptr ps)) => match partA (pureA ps) 0 i with | some x => K (.v x) | none => none
    | _ => none

theorem getD_some {α : Type} {l : List α} {j : Nat} (h : j < l.length) (d : α) : l[j]? = some (l.getD j d) := by
  simp [List.getD, List.getElem?_eq_getElem h]

section
variable {B : Base} {C : Ctx} {w : World} {a : Act} {st : St} {ti : TypeId → Option TI}

/-- The cells of element j of an own row. -/
theorem row_elem {k : Tok} {b : Block} (hb : RelBlock B.P C w k b) {t : Ty} {xs : List t.den} (he : (∃ e, b = .row e t xs) ∨ b = .lrow t xs) {x o n c : _} (hρ : C.ρ k = .slice (some ⟨x, o, none⟩) n c) {j : Nat} (hj : j < n) :
    n = xs.length ∧ ∃ d, (rels B.P t).cells C.I w (xs.getD j t.dflt) d ∧ ∀ l v, d[l]? = some v → w.cell? ⟨x, o + j * t.size + l, none⟩ = some v := by
  have sz : ∀ x cs, (rels B.P t).cells C.I w x cs → cs.length = t.size := fun _ _ h => rels_size B.P t h
  rcases he with ⟨e, rfl⟩ | rfl
  · rcases hb with ⟨_, A, h1⟩ | ⟨g, cap, cur, h1, h0, h2, h3, h4, h5, hc⟩
    · rw [hρ] at h1; injection h1 with _ h1; omega
    · rw [hρ] at h1
      injection h1 with h1 h1' h1''
      simp only [Option.some.injEq, Addr.mk.injEq] at h1
      obtain ⟨rfl, rfl, _⟩ := h1
      have hjl : j < xs.length := by omega
      obtain ⟨d, hd, hg⟩ := hc.get sz (getD_some hjl t.dflt)
      refine ⟨h1', d, hd, fun l v hv => ?_⟩
      have := hg l v hv
      rw [cell_of_row w x _ cur e (0, 0) h2, Nat.zero_add]
      have h7 := List.getElem?_eq_some_iff.1 this
      obtain ⟨h7, h8⟩ := h7
      rw [List.getElem_take] at h8
      rw [List.length_take] at h7
      have h9 : j * t.size + l < cur.size := by have := h7; simp at this; omega
      rw [Array.getElem?_eq_getElem h9]
      simpa using h8
  · obtain ⟨cells, ho, hc⟩ := hb
    rcases ho with ⟨_, _, A, c', h1⟩ | ⟨x', o', c', e, h1, _, h3, h4⟩
    · rw [hρ] at h1; injection h1 with _ h1; omega
    · rw [hρ] at h1
      injection h1 with h1 h1' h1''
      simp only [Option.some.injEq, Addr.mk.injEq] at h1
      obtain ⟨rfl, rfl, _⟩ := h1
      have hjl : j < xs.length := by omega
      obtain ⟨d, hd, hg⟩ := hc.get sz (getD_some hjl t.dflt)
      refine ⟨h1', d, hd, fun l v hv => ?_⟩
      have := hg l v hv
      rw [cell_of_row w x _ _ e (0, 0) h4]
      simp only [List.getElem?_toArray]
      have hlt : j * t.size + l < cells.length := by
        rcases Nat.lt_or_ge (j * t.size + l) cells.length with h' | h'
        · exact h'
        · rw [List.getElem?_eq_none h'] at this; cases this
      rw [List.append_assoc, List.getElem?_append_right (by omega), List.getElem?_append_left (by omega)]
      rw [← this]; congr 1; omega

theorem below_cell {w w' : World} (h : Below w.heap.size w w') {x : Addr} {v : Value} (hc : w.cell? x = some v) : w'.cell? x = some v := by
  by_cases hb : x.block < w.heap.size
  · exact (World.cell?_of_block (w := w) (h.block x.block hb)).trans hc
  · have : w.heap[x.block]? = none := by rw [Array.getElem?_eq_none]; omega
    simp [World.cell?, this] at hc

theorem execLoad_sound (hT : TIs B.P ti) (h : Inv B C w a st) {T : TypeId} {x : SVal} {vx : Value} {R : Type} {K : SVal → Option R} {r : R} (hx : RelSV B.P C w x vx)
    (he : execLoad ti T x st K = some r) : ∃ s, K s = some r ∧ ∃ v, (∀ w', Below w.heap.size w w' → (Instr.loadAt T vx).run B.P w' = .ok v w') ∧ RelSV B.P C w s v ∧ ∀ k ∈ s.toks, k ∈ st.heap.map (·.1) := by
  unfold execLoad at he
  split at he
  · cases he
  · rename_i i hi
    have hok := hT T i hi
    have fin : ∀ {as : List Atom} {off : Nat} {y : V1} {cs : List Value} {ad : Addr}, partA as off i = some y → RelAtoms B.P C w as cs → vx = .pointer (some ad) → (∀ j v, cs[j]? = some v → off ≤ j → w.cell? (ad.add (j - off)) = some v) →
        ∃ v, (∀ w', Below w.heap.size w w' → (Instr.loadAt T vx).run B.P w' = .ok v w') ∧ RelSV B.P C w (.v y) v := by
      intro as off y cs ad hp hr hv hc
      obtain ⟨h1, h2⟩ := partA_rel hp hr
      refine ⟨_, fun w' hb => ?_, h2⟩
      rw [hv]
      simp only [Instr.loadAt, Instr.sureAddr, Sem.run_bind, Sem.run_pure, Result.andThen_ok]
      refine run_loadVar hok w' ad _ (by rw [List.length_take, List.length_drop]; omega) (partA_one hp) (fun j v hj => ?_)
      have hj' := List.getElem?_eq_some_iff.1 hj
      obtain ⟨hj1, hj2⟩ := hj'
      rw [List.length_take, List.length_drop] at hj1
      rw [List.getElem_take, List.getElem_drop] at hj2
      have := hc (off + j) v (by rw [List.getElem?_eq_getElem (by omega), hj2]) (by omega)
      rw [show off + j - off = j by omega] at this
      exact below_cell hb this
    split at he
    · rename_i k off
      split at he
      · rename_i as hg
        split at he
        · rename_i y hp
          have hm := hget_mem hg
          obtain ⟨g, cs, e, h1, h2, h3⟩ := h.heap.blocks _ _ hm
          obtain ⟨g', h4, h5⟩ := hx
          rw [h1] at h4
          cases h4
          have hv : vx = .pointer (some ⟨g, off, none⟩) := by simpa using h5
          obtain ⟨v, h6, h7⟩ := fin hp h3 hv (fun j v hj hle => by
            rw [Addr.add_lit, cell_of_row w g _ cs e (0, 0) h2, show off + (j - off) = j by omega]
            simpa using hj)
          exact ⟨_, he, v, h6, h7, fun k' hk' => h.heap.closed _ _ hm k' (partA_toks hp hk')⟩
        · cases he
      · cases he
    · rename_i k j sz sub
      have key : ∀ {t : Ty} {xs : List t.den} {b : Block}, hget k st.heap = some b → ((∃ e, b = .row e t xs) ∨ b = .lrow t xs) → t.size = sz → ∀ {y}, partA (explode t (xs.getD j t.dflt)) sub i = some y → K (.v y) = some r →
          ∃ s, K s = some r ∧ ∃ v, (∀ w', Below w.heap.size w w' → (Instr.loadAt T vx).run B.P w' = .ok v w') ∧ RelSV B.P C w s v ∧ ∀ k ∈ s.toks, k ∈ st.heap.map (·.1) := by
        intro t xs b hg hb hs y hp hK
        have hm := hget_mem hg
        obtain ⟨g, o, n, c, h4, h5, h6⟩ := hx
        obtain ⟨h7, d, h8, h9⟩ := row_elem (h.heap.blocks _ _ hm) hb h4 h5
        have hv : vx = .pointer (some ⟨g, o + j * sz + sub, none⟩) := by simpa using h6
        subst hs
        obtain ⟨v, h10, h11⟩ := fin hp (explode_rel t h8) hv (fun l v hl hle => by
          rw [Addr.add_lit, show o + j * t.size + sub + (l - sub) = o + j * t.size + l by omega]
          exact h9 l v hl)
        refine ⟨_, hK, v, h10, h11, fun k' hk' => ?_⟩
        have := partA_toks hp hk'
        rw [explode_toks] at this
        cases this
      split at he
      · rename_i e t xs hg
        split at he
        · rename_i hs
          split at he
          · rename_i y hp; exact key hg (.inl ⟨e, rfl⟩) hs hp he
          · cases he
        · cases he
      · rename_i t xs hg
        split at he
        · rename_i hs
          split at he
          · rename_i y hp; exact key hg (.inr rfl) hs hp he
          · cases he
        · cases he
      · cases he
    · rename_i ps
      split at he
      · rename_i y hp
        obtain ⟨v', h1, g, o, ds, h2, h3, h4, h5⟩ := hx
        have hv : vx = .pointer (some ⟨g, o, none⟩) := by rw [← h2]; simpa using h1
        obtain ⟨v, h6, h7⟩ := fin hp (pureA_rel h4) hv (fun j v hj _ => by rw [Addr.add_lit]; exact h5 j v hj)
        refine ⟨_, he, v, h6, h7, fun k' hk' => ?_⟩
        have := partA_toks hp hk'
        rw [pureA_toks] at this
        cases this
      · cases he
    · cases he
end
end Go.AM
