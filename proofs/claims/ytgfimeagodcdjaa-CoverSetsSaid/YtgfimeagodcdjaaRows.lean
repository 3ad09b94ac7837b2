/-
  No cell of these rows narrows 'for every input' (looked for: loops, veiled, ifaces, maps, wideKeys, modest, calm, conditions, laid).
  DERIVED. THE GIVEN ROWS OF THIS SEAT. 20 by the template 'for every input the law returns true; each argument reads behind the call as it read before'; 0 by the template 'total and deterministic' (their statements: YtgfimeagodcdjaaTotals.lean).
  GIVEN WITH THE SEED: the statements are not yours to turn. If you find one false, say at which input.
  Laid BY PROGRAM, IN A SANDBOX (cutbox-rows.mjs): the forced cells as the released guide's own fill.sh prints them over the translation e6660524992d9f77… (all of the seat's roots in one cut). By AI agents, Wed Nov 11 2026. No macro, syntax, notation, axiom, sorry.
-/
import Derived.Test.YtgfimeagodcdjaaChecked
import GoSem.Claim
import GoSem.ClaimJoined
import GoSem.ClaimMapViews
import Derived.JoinedTies
import Derived.KernelRfl
namespace Go.Proofs.Ytgfimeagodcdjaa
/- THE CELL 'sum', in the pinned program and in every row, IS THE sha256 OF THE DUMP (.gsa) THAT YtgfimeagodcdjaaProg.lean LOADS. Nothing in Lean hashes anything: it is a label: what it is worth is what the hold of that sum in a sandbox is worth. -/
noncomputable def Try.pinned : Pinned := { name := "ytgfimeagodcdjaa", sum := "e6660524992d9f77cb172d914b499bc0355e7f5d52546588e069456e2ecffd2f", checked := Try.checked }
namespace Rows
def none {H : Type} : Left H := { results := [], args := [] }

/-- 'reedpenlaw10.CoverSets': WHATEVER THE INPUT: true; the input reads as it did. -/
def coverSetsSpec : ChangeSpec := { name := "coverSets", fn := fun _ => fun
  | [d1, d2, d3] => { results := [.lit (.bool true)], args := [d1, d2, d3] }
  | _ => none }
def coverSetsRow : OpenClaim := { program := "ytgfimeagodcdjaa", sum := "e6660524992d9f77cb172d914b499bc0355e7f5d52546588e069456e2ecffd2f", func := "reedpen/reedpenlaw10.CoverSets", spec := "coverSets", unfollowed := true, recurses := true, plainKeys := false, apart := false }
def CoverSetsSaid : Prop := coverSetsRow.holds Try.pinned (OpenSpec.ofChange coverSetsSpec)

/-- ITS FALSE NEIGHBOUR: 'it returns false'. Refute it at one input. -/
def coverSetsWrong : ChangeSpec := { name := "coverSets", fn := fun _ => fun
  | [d1, d2, d3] => { results := [.lit (.bool false)], args := [d1, d2, d3] }
  | _ => none }
def CoverSetsWrongFalsely : Prop := coverSetsRow.holds Try.pinned (OpenSpec.ofChange coverSetsWrong)

/-- 'reedpenlaw11.ContextReads': WHATEVER THE INPUT: true; the input reads as it did. -/
def contextReadsSpec : ChangeSpec := { name := "contextReads", fn := fun _ => fun
  | [d1, d2] => { results := [.lit (.bool true)], args := [d1, d2] }
  | _ => none }
def contextReadsRow : OpenClaim := { program := "ytgfimeagodcdjaa", sum := "e6660524992d9f77cb172d914b499bc0355e7f5d52546588e069456e2ecffd2f", func := "reedpen/reedpenlaw11.ContextReads", spec := "contextReads", unfollowed := true, recurses := true, plainKeys := false, apart := false }
def ContextReadsSaid : Prop := contextReadsRow.holds Try.pinned (OpenSpec.ofChange contextReadsSpec)

/-- ITS FALSE NEIGHBOUR: 'it returns false'. Refute it at one input. -/
def contextReadsWrong : ChangeSpec := { name := "contextReads", fn := fun _ => fun
  | [d1, d2] => { results := [.lit (.bool false)], args := [d1, d2] }
  | _ => none }
def ContextReadsWrongFalsely : Prop := contextReadsRow.holds Try.pinned (OpenSpec.ofChange contextReadsWrong)

/-- 'reedpenlaw11.ContextChains': WHATEVER THE INPUT: true; the input reads as it did. -/
def contextChainsSpec : ChangeSpec := { name := "contextChains", fn := fun _ => fun
  | [d1, d2] => { results := [.lit (.bool true)], args := [d1, d2] }
  | _ => none }
def contextChainsRow : OpenClaim := { program := "ytgfimeagodcdjaa", sum := "e6660524992d9f77cb172d914b499bc0355e7f5d52546588e069456e2ecffd2f", func := "reedpen/reedpenlaw11.ContextChains", spec := "contextChains", unfollowed := true, recurses := true, plainKeys := false, apart := false }
def ContextChainsSaid : Prop := contextChainsRow.holds Try.pinned (OpenSpec.ofChange contextChainsSpec)

/-- ITS FALSE NEIGHBOUR: 'it returns false'. Refute it at one input. -/
def contextChainsWrong : ChangeSpec := { name := "contextChains", fn := fun _ => fun
  | [d1, d2] => { results := [.lit (.bool false)], args := [d1, d2] }
  | _ => none }
def ContextChainsWrongFalsely : Prop := contextChainsRow.holds Try.pinned (OpenSpec.ofChange contextChainsWrong)

/-- 'reedpenlaw11.ContextMay': WHATEVER THE INPUT: true; the input reads as it did. -/
def contextMaySpec : ChangeSpec := { name := "contextMay", fn := fun _ => fun
  | [d1, d2, d3] => { results := [.lit (.bool true)], args := [d1, d2, d3] }
  | _ => none }
def contextMayRow : OpenClaim := { program := "ytgfimeagodcdjaa", sum := "e6660524992d9f77cb172d914b499bc0355e7f5d52546588e069456e2ecffd2f", func := "reedpen/reedpenlaw11.ContextMay", spec := "contextMay", unfollowed := true, recurses := true, plainKeys := false, apart := false }
def ContextMaySaid : Prop := contextMayRow.holds Try.pinned (OpenSpec.ofChange contextMaySpec)

/-- ITS FALSE NEIGHBOUR: 'it returns false'. Refute it at one input. -/
def contextMayWrong : ChangeSpec := { name := "contextMay", fn := fun _ => fun
  | [d1, d2, d3] => { results := [.lit (.bool false)], args := [d1, d2, d3] }
  | _ => none }
def ContextMayWrongFalsely : Prop := contextMayRow.holds Try.pinned (OpenSpec.ofChange contextMayWrong)

/-- 'reedpenlaw11.ContextBoth': WHATEVER THE INPUT: true; the input reads as it did. -/
def contextBothSpec : ChangeSpec := { name := "contextBoth", fn := fun _ => fun
  | [d1, d2] => { results := [.lit (.bool true)], args := [d1, d2] }
  | _ => none }
def contextBothRow : OpenClaim := { program := "ytgfimeagodcdjaa", sum := "e6660524992d9f77cb172d914b499bc0355e7f5d52546588e069456e2ecffd2f", func := "reedpen/reedpenlaw11.ContextBoth", spec := "contextBoth", unfollowed := true, recurses := true, plainKeys := false, apart := false }
def ContextBothSaid : Prop := contextBothRow.holds Try.pinned (OpenSpec.ofChange contextBothSpec)

/-- ITS FALSE NEIGHBOUR: 'it returns false'. Refute it at one input. -/
def contextBothWrong : ChangeSpec := { name := "contextBoth", fn := fun _ => fun
  | [d1, d2] => { results := [.lit (.bool false)], args := [d1, d2] }
  | _ => none }
def ContextBothWrongFalsely : Prop := contextBothRow.holds Try.pinned (OpenSpec.ofChange contextBothWrong)

/-- 'reedpenlaw11.ContextBehind': WHATEVER THE INPUT: true; the input reads as it did. -/
def contextBehindSpec : ChangeSpec := { name := "contextBehind", fn := fun _ => fun
  | [d1, d2, d3] => { results := [.lit (.bool true)], args := [d1, d2, d3] }
  | _ => none }
def contextBehindRow : OpenClaim := { program := "ytgfimeagodcdjaa", sum := "e6660524992d9f77cb172d914b499bc0355e7f5d52546588e069456e2ecffd2f", func := "reedpen/reedpenlaw11.ContextBehind", spec := "contextBehind", unfollowed := true, recurses := true, plainKeys := false, apart := false }
def ContextBehindSaid : Prop := contextBehindRow.holds Try.pinned (OpenSpec.ofChange contextBehindSpec)

/-- ITS FALSE NEIGHBOUR: 'it returns false'. Refute it at one input. -/
def contextBehindWrong : ChangeSpec := { name := "contextBehind", fn := fun _ => fun
  | [d1, d2, d3] => { results := [.lit (.bool false)], args := [d1, d2, d3] }
  | _ => none }
def ContextBehindWrongFalsely : Prop := contextBehindRow.holds Try.pinned (OpenSpec.ofChange contextBehindWrong)

/-- 'reedpenlaw26.OrderSorts': WHATEVER THE INPUT: true; the input reads as it did. -/
def orderSortsSpec : ChangeSpec := { name := "orderSorts", fn := fun _ => fun
  | [d1, d2, d3, d4, d5] => { results := [.lit (.bool true)], args := [d1, d2, d3, d4, d5] }
  | _ => none }
def orderSortsRow : OpenClaim := { program := "ytgfimeagodcdjaa", sum := "e6660524992d9f77cb172d914b499bc0355e7f5d52546588e069456e2ecffd2f", func := "reedpen/reedpenlaw26.OrderSorts", spec := "orderSorts", unfollowed := true, recurses := true, plainKeys := false, apart := false }
def OrderSortsSaid : Prop := orderSortsRow.holds Try.pinned (OpenSpec.ofChange orderSortsSpec)

/-- ITS FALSE NEIGHBOUR: 'it returns false'. Refute it at one input. -/
def orderSortsWrong : ChangeSpec := { name := "orderSorts", fn := fun _ => fun
  | [d1, d2, d3, d4, d5] => { results := [.lit (.bool false)], args := [d1, d2, d3, d4, d5] }
  | _ => none }
def OrderSortsWrongFalsely : Prop := orderSortsRow.holds Try.pinned (OpenSpec.ofChange orderSortsWrong)

/-- 'reedpenlaw17.BufferStays': WHATEVER THE INPUT: true; the input reads as it did. -/
def bufferStaysSpec : ChangeSpec := { name := "bufferStays", fn := fun _ => fun
  | [d1, d2] => { results := [.lit (.bool true)], args := [d1, d2] }
  | _ => none }
def bufferStaysRow : OpenClaim := { program := "ytgfimeagodcdjaa", sum := "e6660524992d9f77cb172d914b499bc0355e7f5d52546588e069456e2ecffd2f", func := "reedpen/reedpenlaw17.BufferStays", spec := "bufferStays", inPlace := ["slices.overlaps[reedpen/api.Glyph]"], unfollowed := true, recurses := true, plainKeys := false, apart := false }
def BufferStaysSaid : Prop := bufferStaysRow.holds Try.pinned (OpenSpec.ofChange bufferStaysSpec)

/-- ITS FALSE NEIGHBOUR: 'it returns false'. Refute it at one input. -/
def bufferStaysWrong : ChangeSpec := { name := "bufferStays", fn := fun _ => fun
  | [d1, d2] => { results := [.lit (.bool false)], args := [d1, d2] }
  | _ => none }
def BufferStaysWrongFalsely : Prop := bufferStaysRow.holds Try.pinned (OpenSpec.ofChange bufferStaysWrong)

/-- 'reedpenlaw21.DecompParts': WHATEVER THE INPUT: true; the input reads as it did. -/
def decompPartsSpec : ChangeSpec := { name := "decompParts", fn := fun _ => fun
  | [d1, d2, d3, d4] => { results := [.lit (.bool true)], args := [d1, d2, d3, d4] }
  | _ => none }
def decompPartsRow : OpenClaim := { program := "ytgfimeagodcdjaa", sum := "e6660524992d9f77cb172d914b499bc0355e7f5d52546588e069456e2ecffd2f", func := "reedpen/reedpenlaw21.DecompParts", spec := "decompParts", inPlace := ["sync/atomic.LoadUint32", "(*internal/sync.Mutex).Lock", "internal/race.Disable", "sync/atomic.CompareAndSwapInt32", "internal/race.Enable", "internal/race.Acquire", "(*internal/sync.Mutex).lockSlow", "internal/sync.runtime_canSpin", "internal/sync.runtime_doSpin", "internal/sync.throw", "internal/sync.runtime_nanotime", "internal/sync.runtime_SemacquireMutex", "sync/atomic.AddInt32", "(*internal/sync.Mutex).Unlock", "internal/race.ReleaseMerge", "(*internal/sync.Mutex).unlockSlow", "internal/sync.fatal", "internal/sync.runtime_Semrelease", "sync/atomic.StoreUint32", "sync/atomic.AddInt64"], unfollowed := true, recurses := true, plainKeys := false, apart := false }
def DecompPartsSaid : Prop := decompPartsRow.holds Try.pinned (OpenSpec.ofChange decompPartsSpec)

/-- ITS FALSE NEIGHBOUR: 'it returns false'. Refute it at one input. -/
def decompPartsWrong : ChangeSpec := { name := "decompParts", fn := fun _ => fun
  | [d1, d2, d3, d4] => { results := [.lit (.bool false)], args := [d1, d2, d3, d4] }
  | _ => none }
def DecompPartsWrongFalsely : Prop := decompPartsRow.holds Try.pinned (OpenSpec.ofChange decompPartsWrong)

/-- 'reedpenlaw21.DecompMarks': WHATEVER THE INPUT: true; the input reads as it did. -/
def decompMarksSpec : ChangeSpec := { name := "decompMarks", fn := fun _ => fun
  | [d1, d2, d3] => { results := [.lit (.bool true)], args := [d1, d2, d3] }
  | _ => none }
def decompMarksRow : OpenClaim := { program := "ytgfimeagodcdjaa", sum := "e6660524992d9f77cb172d914b499bc0355e7f5d52546588e069456e2ecffd2f", func := "reedpen/reedpenlaw21.DecompMarks", spec := "decompMarks", inPlace := ["sync/atomic.LoadUint32", "(*internal/sync.Mutex).Lock", "internal/race.Disable", "sync/atomic.CompareAndSwapInt32", "internal/race.Enable", "internal/race.Acquire", "(*internal/sync.Mutex).lockSlow", "internal/sync.runtime_canSpin", "internal/sync.runtime_doSpin", "internal/sync.throw", "internal/sync.runtime_nanotime", "internal/sync.runtime_SemacquireMutex", "sync/atomic.AddInt32", "(*internal/sync.Mutex).Unlock", "internal/race.ReleaseMerge", "(*internal/sync.Mutex).unlockSlow", "internal/sync.fatal", "internal/sync.runtime_Semrelease", "sync/atomic.StoreUint32", "sync/atomic.AddInt64"], unfollowed := true, recurses := true, plainKeys := false, apart := false }
def DecompMarksSaid : Prop := decompMarksRow.holds Try.pinned (OpenSpec.ofChange decompMarksSpec)

/-- ITS FALSE NEIGHBOUR: 'it returns false'. Refute it at one input. -/
def decompMarksWrong : ChangeSpec := { name := "decompMarks", fn := fun _ => fun
  | [d1, d2, d3] => { results := [.lit (.bool false)], args := [d1, d2, d3] }
  | _ => none }
def DecompMarksWrongFalsely : Prop := decompMarksRow.holds Try.pinned (OpenSpec.ofChange decompMarksWrong)

/-- 'reedpenlaw21.DecompBooks': WHATEVER THE INPUT: true; the input reads as it did. -/
def decompBooksSpec : ChangeSpec := { name := "decompBooks", fn := fun _ => fun
  | [d1, d2] => { results := [.lit (.bool true)], args := [d1, d2] }
  | _ => none }
def decompBooksRow : OpenClaim := { program := "ytgfimeagodcdjaa", sum := "e6660524992d9f77cb172d914b499bc0355e7f5d52546588e069456e2ecffd2f", func := "reedpen/reedpenlaw21.DecompBooks", spec := "decompBooks", inPlace := ["sync/atomic.LoadUint32", "(*internal/sync.Mutex).Lock", "internal/race.Disable", "sync/atomic.CompareAndSwapInt32", "internal/race.Enable", "internal/race.Acquire", "(*internal/sync.Mutex).lockSlow", "internal/sync.runtime_canSpin", "internal/sync.runtime_doSpin", "internal/sync.throw", "internal/sync.runtime_nanotime", "internal/sync.runtime_SemacquireMutex", "sync/atomic.AddInt32", "(*internal/sync.Mutex).Unlock", "internal/race.ReleaseMerge", "(*internal/sync.Mutex).unlockSlow", "internal/sync.fatal", "internal/sync.runtime_Semrelease", "sync/atomic.StoreUint32", "sync/atomic.AddInt64"], unfollowed := true, recurses := true, plainKeys := false, apart := false }
def DecompBooksSaid : Prop := decompBooksRow.holds Try.pinned (OpenSpec.ofChange decompBooksSpec)

/-- ITS FALSE NEIGHBOUR: 'it returns false'. Refute it at one input. -/
def decompBooksWrong : ChangeSpec := { name := "decompBooks", fn := fun _ => fun
  | [d1, d2] => { results := [.lit (.bool false)], args := [d1, d2] }
  | _ => none }
def DecompBooksWrongFalsely : Prop := decompBooksRow.holds Try.pinned (OpenSpec.ofChange decompBooksWrong)

/-- 'reedpenlaw21.DecompAgain': WHATEVER THE INPUT: true; the input reads as it did. -/
def decompAgainSpec : ChangeSpec := { name := "decompAgain", fn := fun _ => fun
  | [d] => { results := [.lit (.bool true)], args := [d] }
  | _ => none }
def decompAgainRow : OpenClaim := { program := "ytgfimeagodcdjaa", sum := "e6660524992d9f77cb172d914b499bc0355e7f5d52546588e069456e2ecffd2f", func := "reedpen/reedpenlaw21.DecompAgain", spec := "decompAgain", inPlace := ["sync/atomic.LoadUint32", "(*internal/sync.Mutex).Lock", "internal/race.Disable", "sync/atomic.CompareAndSwapInt32", "internal/race.Enable", "internal/race.Acquire", "(*internal/sync.Mutex).lockSlow", "internal/sync.runtime_canSpin", "internal/sync.runtime_doSpin", "internal/sync.throw", "internal/sync.runtime_nanotime", "internal/sync.runtime_SemacquireMutex", "sync/atomic.AddInt32", "(*internal/sync.Mutex).Unlock", "internal/race.ReleaseMerge", "(*internal/sync.Mutex).unlockSlow", "internal/sync.fatal", "internal/sync.runtime_Semrelease", "sync/atomic.StoreUint32", "sync/atomic.AddInt64"], unfollowed := true, recurses := true, plainKeys := false, apart := false }
def DecompAgainSaid : Prop := decompAgainRow.holds Try.pinned (OpenSpec.ofChange decompAgainSpec)

/-- ITS FALSE NEIGHBOUR: 'it returns false'. Refute it at one input. -/
def decompAgainWrong : ChangeSpec := { name := "decompAgain", fn := fun _ => fun
  | [d] => { results := [.lit (.bool false)], args := [d] }
  | _ => none }
def DecompAgainWrongFalsely : Prop := decompAgainRow.holds Try.pinned (OpenSpec.ofChange decompAgainWrong)

/-- 'reedpenlaw21.DecompBack': WHATEVER THE INPUT: true; the input reads as it did. -/
def decompBackSpec : ChangeSpec := { name := "decompBack", fn := fun _ => fun
  | [d1, d2] => { results := [.lit (.bool true)], args := [d1, d2] }
  | _ => none }
def decompBackRow : OpenClaim := { program := "ytgfimeagodcdjaa", sum := "e6660524992d9f77cb172d914b499bc0355e7f5d52546588e069456e2ecffd2f", func := "reedpen/reedpenlaw21.DecompBack", spec := "decompBack", inPlace := ["sync/atomic.LoadUint32", "(*internal/sync.Mutex).Lock", "internal/race.Disable", "sync/atomic.CompareAndSwapInt32", "internal/race.Enable", "internal/race.Acquire", "(*internal/sync.Mutex).lockSlow", "internal/sync.runtime_canSpin", "internal/sync.runtime_doSpin", "internal/sync.throw", "internal/sync.runtime_nanotime", "internal/sync.runtime_SemacquireMutex", "sync/atomic.AddInt32", "(*internal/sync.Mutex).Unlock", "internal/race.ReleaseMerge", "(*internal/sync.Mutex).unlockSlow", "internal/sync.fatal", "internal/sync.runtime_Semrelease", "sync/atomic.StoreUint32", "sync/atomic.AddInt64"], unfollowed := true, recurses := true, plainKeys := false, apart := false }
def DecompBackSaid : Prop := decompBackRow.holds Try.pinned (OpenSpec.ofChange decompBackSpec)

/-- ITS FALSE NEIGHBOUR: 'it returns false'. Refute it at one input. -/
def decompBackWrong : ChangeSpec := { name := "decompBack", fn := fun _ => fun
  | [d1, d2] => { results := [.lit (.bool false)], args := [d1, d2] }
  | _ => none }
def DecompBackWrongFalsely : Prop := decompBackRow.holds Try.pinned (OpenSpec.ofChange decompBackWrong)

/-- 'reedpenlaw12.GsubReads': WHATEVER THE INPUT: true; the input reads as it did. -/
def gsubReadsSpec : ChangeSpec := { name := "gsubReads", fn := fun _ => fun
  | [d1, d2, d3] => { results := [.lit (.bool true)], args := [d1, d2, d3] }
  | _ => none }
def gsubReadsRow : OpenClaim := { program := "ytgfimeagodcdjaa", sum := "e6660524992d9f77cb172d914b499bc0355e7f5d52546588e069456e2ecffd2f", func := "reedpen/reedpenlaw12.GsubReads", spec := "gsubReads", unfollowed := true, recurses := true, plainKeys := false, apart := false }
def GsubReadsSaid : Prop := gsubReadsRow.holds Try.pinned (OpenSpec.ofChange gsubReadsSpec)

/-- ITS FALSE NEIGHBOUR: 'it returns false'. Refute it at one input. -/
def gsubReadsWrong : ChangeSpec := { name := "gsubReads", fn := fun _ => fun
  | [d1, d2, d3] => { results := [.lit (.bool false)], args := [d1, d2, d3] }
  | _ => none }
def GsubReadsWrongFalsely : Prop := gsubReadsRow.holds Try.pinned (OpenSpec.ofChange gsubReadsWrong)

/-- 'reedpenlaw12.GsubThings': WHATEVER THE INPUT: true; the input reads as it did. -/
def gsubThingsSpec : ChangeSpec := { name := "gsubThings", fn := fun _ => fun
  | [d] => { results := [.lit (.bool true)], args := [d] }
  | _ => none }
def gsubThingsRow : OpenClaim := { program := "ytgfimeagodcdjaa", sum := "e6660524992d9f77cb172d914b499bc0355e7f5d52546588e069456e2ecffd2f", func := "reedpen/reedpenlaw12.GsubThings", spec := "gsubThings", unfollowed := true, recurses := true, plainKeys := false, apart := false }
def GsubThingsSaid : Prop := gsubThingsRow.holds Try.pinned (OpenSpec.ofChange gsubThingsSpec)

/-- ITS FALSE NEIGHBOUR: 'it returns false'. Refute it at one input. -/
def gsubThingsWrong : ChangeSpec := { name := "gsubThings", fn := fun _ => fun
  | [d] => { results := [.lit (.bool false)], args := [d] }
  | _ => none }
def GsubThingsWrongFalsely : Prop := gsubThingsRow.holds Try.pinned (OpenSpec.ofChange gsubThingsWrong)

/-- 'reedpenlaw12.GsubMay': WHATEVER THE INPUT: true; the input reads as it did. -/
def gsubMaySpec : ChangeSpec := { name := "gsubMay", fn := fun _ => fun
  | [d1, d2, d3] => { results := [.lit (.bool true)], args := [d1, d2, d3] }
  | _ => none }
def gsubMayRow : OpenClaim := { program := "ytgfimeagodcdjaa", sum := "e6660524992d9f77cb172d914b499bc0355e7f5d52546588e069456e2ecffd2f", func := "reedpen/reedpenlaw12.GsubMay", spec := "gsubMay", unfollowed := true, recurses := true, plainKeys := false, apart := false }
def GsubMaySaid : Prop := gsubMayRow.holds Try.pinned (OpenSpec.ofChange gsubMaySpec)

/-- ITS FALSE NEIGHBOUR: 'it returns false'. Refute it at one input. -/
def gsubMayWrong : ChangeSpec := { name := "gsubMay", fn := fun _ => fun
  | [d1, d2, d3] => { results := [.lit (.bool false)], args := [d1, d2, d3] }
  | _ => none }
def GsubMayWrongFalsely : Prop := gsubMayRow.holds Try.pinned (OpenSpec.ofChange gsubMayWrong)

/-- 'reedpenlaw12.GsubBehind': WHATEVER THE INPUT: true; the input reads as it did. -/
def gsubBehindSpec : ChangeSpec := { name := "gsubBehind", fn := fun _ => fun
  | [d1, d2, d3] => { results := [.lit (.bool true)], args := [d1, d2, d3] }
  | _ => none }
def gsubBehindRow : OpenClaim := { program := "ytgfimeagodcdjaa", sum := "e6660524992d9f77cb172d914b499bc0355e7f5d52546588e069456e2ecffd2f", func := "reedpen/reedpenlaw12.GsubBehind", spec := "gsubBehind", unfollowed := true, recurses := true, plainKeys := false, apart := false }
def GsubBehindSaid : Prop := gsubBehindRow.holds Try.pinned (OpenSpec.ofChange gsubBehindSpec)

/-- ITS FALSE NEIGHBOUR: 'it returns false'. Refute it at one input. -/
def gsubBehindWrong : ChangeSpec := { name := "gsubBehind", fn := fun _ => fun
  | [d1, d2, d3] => { results := [.lit (.bool false)], args := [d1, d2, d3] }
  | _ => none }
def GsubBehindWrongFalsely : Prop := gsubBehindRow.holds Try.pinned (OpenSpec.ofChange gsubBehindWrong)

/-- 'reedpenlaw13.GposThings': WHATEVER THE INPUT: true; the input reads as it did. -/
def gposThingsSpec : ChangeSpec := { name := "gposThings", fn := fun _ => fun
  | [d] => { results := [.lit (.bool true)], args := [d] }
  | _ => none }
def gposThingsRow : OpenClaim := { program := "ytgfimeagodcdjaa", sum := "e6660524992d9f77cb172d914b499bc0355e7f5d52546588e069456e2ecffd2f", func := "reedpen/reedpenlaw13.GposThings", spec := "gposThings", unfollowed := true, recurses := true, plainKeys := false, apart := false }
def GposThingsSaid : Prop := gposThingsRow.holds Try.pinned (OpenSpec.ofChange gposThingsSpec)

/-- ITS FALSE NEIGHBOUR: 'it returns false'. Refute it at one input. -/
def gposThingsWrong : ChangeSpec := { name := "gposThings", fn := fun _ => fun
  | [d] => { results := [.lit (.bool false)], args := [d] }
  | _ => none }
def GposThingsWrongFalsely : Prop := gposThingsRow.holds Try.pinned (OpenSpec.ofChange gposThingsWrong)

/-- 'reedpenlaw13.GposMay': WHATEVER THE INPUT: true; the input reads as it did. -/
def gposMaySpec : ChangeSpec := { name := "gposMay", fn := fun _ => fun
  | [d1, d2, d3] => { results := [.lit (.bool true)], args := [d1, d2, d3] }
  | _ => none }
def gposMayRow : OpenClaim := { program := "ytgfimeagodcdjaa", sum := "e6660524992d9f77cb172d914b499bc0355e7f5d52546588e069456e2ecffd2f", func := "reedpen/reedpenlaw13.GposMay", spec := "gposMay", unfollowed := true, recurses := true, plainKeys := false, apart := false }
def GposMaySaid : Prop := gposMayRow.holds Try.pinned (OpenSpec.ofChange gposMaySpec)

/-- ITS FALSE NEIGHBOUR: 'it returns false'. Refute it at one input. -/
def gposMayWrong : ChangeSpec := { name := "gposMay", fn := fun _ => fun
  | [d1, d2, d3] => { results := [.lit (.bool false)], args := [d1, d2, d3] }
  | _ => none }
def GposMayWrongFalsely : Prop := gposMayRow.holds Try.pinned (OpenSpec.ofChange gposMayWrong)

/-- 'reedpenlaw13.GposBehind': WHATEVER THE INPUT: true; the input reads as it did. -/
def gposBehindSpec : ChangeSpec := { name := "gposBehind", fn := fun _ => fun
  | [d1, d2, d3] => { results := [.lit (.bool true)], args := [d1, d2, d3] }
  | _ => none }
def gposBehindRow : OpenClaim := { program := "ytgfimeagodcdjaa", sum := "e6660524992d9f77cb172d914b499bc0355e7f5d52546588e069456e2ecffd2f", func := "reedpen/reedpenlaw13.GposBehind", spec := "gposBehind", unfollowed := true, recurses := true, plainKeys := false, apart := false }
def GposBehindSaid : Prop := gposBehindRow.holds Try.pinned (OpenSpec.ofChange gposBehindSpec)

/-- ITS FALSE NEIGHBOUR: 'it returns false'. Refute it at one input. -/
def gposBehindWrong : ChangeSpec := { name := "gposBehind", fn := fun _ => fun
  | [d1, d2, d3] => { results := [.lit (.bool false)], args := [d1, d2, d3] }
  | _ => none }
def GposBehindWrongFalsely : Prop := gposBehindRow.holds Try.pinned (OpenSpec.ofChange gposBehindWrong)

/- THE SECOND FORM. 'bulk': how many values and letters a reading holds, each counted each time it is reached (what is shared counts as often as it is met; a slice's spare places count too). A statement '..UptoSaid' is the law's where the arguments, and the package variables that the reading takes, are together of bulk at most 1048576: NARROWER than '..Said'. Prove '..Said' where nothing that the law and all that it calls make is longer than what came in: it says more and counts as full. Else prove '..UptoSaid'. A law counts once. -/
mutual
def uptoBulk {H : Type} : DataW H → Nat
  | .lit (.string bytes) => bytes.length + 1
  | .lit _ => 1
  | .nil => 1
  | .ptr d => uptoBulk d + 1
  | .slice elems spare => uptoBulkAll elems + uptoBulkAll spare + 1
  | .agg parts => uptoBulkAll parts + 1
  | .iface _ d => uptoBulk d + 1
  | .map entries => uptoBulkEntries entries + 1
  | .held _ => 1
def uptoBulkAll {H : Type} : List (DataW H) → Nat
  | [] => 0
  | d :: r => uptoBulk d + uptoBulkAll r
def uptoBulkEntries {H : Type} : List (Lit × DataW H) → Nat
  | [] => 0
  | x :: r => uptoBulkEntry x + uptoBulkEntries r
def uptoBulkEntry {H : Type} : Lit × DataW H → Nat
  | (.string bytes, d) => bytes.length + uptoBulk d + 1
  | (_, d) => uptoBulk d + 1
 end
def uptoSmall : (H : Type) → List (DataW H) → Bool := fun _ ds => decide (uptoBulkAll ds ≤ 1048576)
def OpenSpec.upto (s : _root_.Go.ChangeSpec) : _root_.Go.OpenSpec := { _root_.Go.OpenSpec.ofChange s with cond := some uptoSmall }

/-- 'reedpenlaw10.CoverSets', WHERE WHAT IT READS IS OF BULK AT MOST 1048576: true; the input reads as it did. -/
def coverSetsUptoRow : OpenClaim := { program := "ytgfimeagodcdjaa", sum := "e6660524992d9f77cb172d914b499bc0355e7f5d52546588e069456e2ecffd2f", func := "reedpen/reedpenlaw10.CoverSets", spec := "coverSets", unfollowed := true, recurses := true, plainKeys := false, apart := false, narrowed := true }
def CoverSetsUptoSaid : Prop := coverSetsUptoRow.holds Try.pinned (OpenSpec.upto coverSetsSpec)

/-- 'reedpenlaw11.ContextReads', WHERE WHAT IT READS IS OF BULK AT MOST 1048576: true; the input reads as it did. -/
def contextReadsUptoRow : OpenClaim := { program := "ytgfimeagodcdjaa", sum := "e6660524992d9f77cb172d914b499bc0355e7f5d52546588e069456e2ecffd2f", func := "reedpen/reedpenlaw11.ContextReads", spec := "contextReads", unfollowed := true, recurses := true, plainKeys := false, apart := false, narrowed := true }
def ContextReadsUptoSaid : Prop := contextReadsUptoRow.holds Try.pinned (OpenSpec.upto contextReadsSpec)

/-- 'reedpenlaw11.ContextChains', WHERE WHAT IT READS IS OF BULK AT MOST 1048576: true; the input reads as it did. -/
def contextChainsUptoRow : OpenClaim := { program := "ytgfimeagodcdjaa", sum := "e6660524992d9f77cb172d914b499bc0355e7f5d52546588e069456e2ecffd2f", func := "reedpen/reedpenlaw11.ContextChains", spec := "contextChains", unfollowed := true, recurses := true, plainKeys := false, apart := false, narrowed := true }
def ContextChainsUptoSaid : Prop := contextChainsUptoRow.holds Try.pinned (OpenSpec.upto contextChainsSpec)

/-- 'reedpenlaw11.ContextMay', WHERE WHAT IT READS IS OF BULK AT MOST 1048576: true; the input reads as it did. -/
def contextMayUptoRow : OpenClaim := { program := "ytgfimeagodcdjaa", sum := "e6660524992d9f77cb172d914b499bc0355e7f5d52546588e069456e2ecffd2f", func := "reedpen/reedpenlaw11.ContextMay", spec := "contextMay", unfollowed := true, recurses := true, plainKeys := false, apart := false, narrowed := true }
def ContextMayUptoSaid : Prop := contextMayUptoRow.holds Try.pinned (OpenSpec.upto contextMaySpec)

/-- 'reedpenlaw11.ContextBoth', WHERE WHAT IT READS IS OF BULK AT MOST 1048576: true; the input reads as it did. -/
def contextBothUptoRow : OpenClaim := { program := "ytgfimeagodcdjaa", sum := "e6660524992d9f77cb172d914b499bc0355e7f5d52546588e069456e2ecffd2f", func := "reedpen/reedpenlaw11.ContextBoth", spec := "contextBoth", unfollowed := true, recurses := true, plainKeys := false, apart := false, narrowed := true }
def ContextBothUptoSaid : Prop := contextBothUptoRow.holds Try.pinned (OpenSpec.upto contextBothSpec)

/-- 'reedpenlaw11.ContextBehind', WHERE WHAT IT READS IS OF BULK AT MOST 1048576: true; the input reads as it did. -/
def contextBehindUptoRow : OpenClaim := { program := "ytgfimeagodcdjaa", sum := "e6660524992d9f77cb172d914b499bc0355e7f5d52546588e069456e2ecffd2f", func := "reedpen/reedpenlaw11.ContextBehind", spec := "contextBehind", unfollowed := true, recurses := true, plainKeys := false, apart := false, narrowed := true }
def ContextBehindUptoSaid : Prop := contextBehindUptoRow.holds Try.pinned (OpenSpec.upto contextBehindSpec)

/-- 'reedpenlaw26.OrderSorts', WHERE WHAT IT READS IS OF BULK AT MOST 1048576: true; the input reads as it did. -/
def orderSortsUptoRow : OpenClaim := { program := "ytgfimeagodcdjaa", sum := "e6660524992d9f77cb172d914b499bc0355e7f5d52546588e069456e2ecffd2f", func := "reedpen/reedpenlaw26.OrderSorts", spec := "orderSorts", unfollowed := true, recurses := true, plainKeys := false, apart := false, narrowed := true }
def OrderSortsUptoSaid : Prop := orderSortsUptoRow.holds Try.pinned (OpenSpec.upto orderSortsSpec)

/-- 'reedpenlaw17.BufferStays', WHERE WHAT IT READS IS OF BULK AT MOST 1048576: true; the input reads as it did. -/
def bufferStaysUptoRow : OpenClaim := { program := "ytgfimeagodcdjaa", sum := "e6660524992d9f77cb172d914b499bc0355e7f5d52546588e069456e2ecffd2f", func := "reedpen/reedpenlaw17.BufferStays", spec := "bufferStays", inPlace := ["slices.overlaps[reedpen/api.Glyph]"], unfollowed := true, recurses := true, plainKeys := false, apart := false, narrowed := true }
def BufferStaysUptoSaid : Prop := bufferStaysUptoRow.holds Try.pinned (OpenSpec.upto bufferStaysSpec)

/-- 'reedpenlaw21.DecompParts', WHERE WHAT IT READS IS OF BULK AT MOST 1048576: true; the input reads as it did. -/
def decompPartsUptoRow : OpenClaim := { program := "ytgfimeagodcdjaa", sum := "e6660524992d9f77cb172d914b499bc0355e7f5d52546588e069456e2ecffd2f", func := "reedpen/reedpenlaw21.DecompParts", spec := "decompParts", inPlace := ["sync/atomic.LoadUint32", "(*internal/sync.Mutex).Lock", "internal/race.Disable", "sync/atomic.CompareAndSwapInt32", "internal/race.Enable", "internal/race.Acquire", "(*internal/sync.Mutex).lockSlow", "internal/sync.runtime_canSpin", "internal/sync.runtime_doSpin", "internal/sync.throw", "internal/sync.runtime_nanotime", "internal/sync.runtime_SemacquireMutex", "sync/atomic.AddInt32", "(*internal/sync.Mutex).Unlock", "internal/race.ReleaseMerge", "(*internal/sync.Mutex).unlockSlow", "internal/sync.fatal", "internal/sync.runtime_Semrelease", "sync/atomic.StoreUint32", "sync/atomic.AddInt64"], unfollowed := true, recurses := true, plainKeys := false, apart := false, narrowed := true }
def DecompPartsUptoSaid : Prop := decompPartsUptoRow.holds Try.pinned (OpenSpec.upto decompPartsSpec)

/-- 'reedpenlaw21.DecompMarks', WHERE WHAT IT READS IS OF BULK AT MOST 1048576: true; the input reads as it did. -/
def decompMarksUptoRow : OpenClaim := { program := "ytgfimeagodcdjaa", sum := "e6660524992d9f77cb172d914b499bc0355e7f5d52546588e069456e2ecffd2f", func := "reedpen/reedpenlaw21.DecompMarks", spec := "decompMarks", inPlace := ["sync/atomic.LoadUint32", "(*internal/sync.Mutex).Lock", "internal/race.Disable", "sync/atomic.CompareAndSwapInt32", "internal/race.Enable", "internal/race.Acquire", "(*internal/sync.Mutex).lockSlow", "internal/sync.runtime_canSpin", "internal/sync.runtime_doSpin", "internal/sync.throw", "internal/sync.runtime_nanotime", "internal/sync.runtime_SemacquireMutex", "sync/atomic.AddInt32", "(*internal/sync.Mutex).Unlock", "internal/race.ReleaseMerge", "(*internal/sync.Mutex).unlockSlow", "internal/sync.fatal", "internal/sync.runtime_Semrelease", "sync/atomic.StoreUint32", "sync/atomic.AddInt64"], unfollowed := true, recurses := true, plainKeys := false, apart := false, narrowed := true }
def DecompMarksUptoSaid : Prop := decompMarksUptoRow.holds Try.pinned (OpenSpec.upto decompMarksSpec)

/-- 'reedpenlaw21.DecompBooks', WHERE WHAT IT READS IS OF BULK AT MOST 1048576: true; the input reads as it did. -/
def decompBooksUptoRow : OpenClaim := { program := "ytgfimeagodcdjaa", sum := "e6660524992d9f77cb172d914b499bc0355e7f5d52546588e069456e2ecffd2f", func := "reedpen/reedpenlaw21.DecompBooks", spec := "decompBooks", inPlace := ["sync/atomic.LoadUint32", "(*internal/sync.Mutex).Lock", "internal/race.Disable", "sync/atomic.CompareAndSwapInt32", "internal/race.Enable", "internal/race.Acquire", "(*internal/sync.Mutex).lockSlow", "internal/sync.runtime_canSpin", "internal/sync.runtime_doSpin", "internal/sync.throw", "internal/sync.runtime_nanotime", "internal/sync.runtime_SemacquireMutex", "sync/atomic.AddInt32", "(*internal/sync.Mutex).Unlock", "internal/race.ReleaseMerge", "(*internal/sync.Mutex).unlockSlow", "internal/sync.fatal", "internal/sync.runtime_Semrelease", "sync/atomic.StoreUint32", "sync/atomic.AddInt64"], unfollowed := true, recurses := true, plainKeys := false, apart := false, narrowed := true }
def DecompBooksUptoSaid : Prop := decompBooksUptoRow.holds Try.pinned (OpenSpec.upto decompBooksSpec)

/-- 'reedpenlaw21.DecompAgain', WHERE WHAT IT READS IS OF BULK AT MOST 1048576: true; the input reads as it did. -/
def decompAgainUptoRow : OpenClaim := { program := "ytgfimeagodcdjaa", sum := "e6660524992d9f77cb172d914b499bc0355e7f5d52546588e069456e2ecffd2f", func := "reedpen/reedpenlaw21.DecompAgain", spec := "decompAgain", inPlace := ["sync/atomic.LoadUint32", "(*internal/sync.Mutex).Lock", "internal/race.Disable", "sync/atomic.CompareAndSwapInt32", "internal/race.Enable", "internal/race.Acquire", "(*internal/sync.Mutex).lockSlow", "internal/sync.runtime_canSpin", "internal/sync.runtime_doSpin", "internal/sync.throw", "internal/sync.runtime_nanotime", "internal/sync.runtime_SemacquireMutex", "sync/atomic.AddInt32", "(*internal/sync.Mutex).Unlock", "internal/race.ReleaseMerge", "(*internal/sync.Mutex).unlockSlow", "internal/sync.fatal", "internal/sync.runtime_Semrelease", "sync/atomic.StoreUint32", "sync/atomic.AddInt64"], unfollowed := true, recurses := true, plainKeys := false, apart := false, narrowed := true }
def DecompAgainUptoSaid : Prop := decompAgainUptoRow.holds Try.pinned (OpenSpec.upto decompAgainSpec)

/-- 'reedpenlaw21.DecompBack', WHERE WHAT IT READS IS OF BULK AT MOST 1048576: true; the input reads as it did. -/
def decompBackUptoRow : OpenClaim := { program := "ytgfimeagodcdjaa", sum := "e6660524992d9f77cb172d914b499bc0355e7f5d52546588e069456e2ecffd2f", func := "reedpen/reedpenlaw21.DecompBack", spec := "decompBack", inPlace := ["sync/atomic.LoadUint32", "(*internal/sync.Mutex).Lock", "internal/race.Disable", "sync/atomic.CompareAndSwapInt32", "internal/race.Enable", "internal/race.Acquire", "(*internal/sync.Mutex).lockSlow", "internal/sync.runtime_canSpin", "internal/sync.runtime_doSpin", "internal/sync.throw", "internal/sync.runtime_nanotime", "internal/sync.runtime_SemacquireMutex", "sync/atomic.AddInt32", "(*internal/sync.Mutex).Unlock", "internal/race.ReleaseMerge", "(*internal/sync.Mutex).unlockSlow", "internal/sync.fatal", "internal/sync.runtime_Semrelease", "sync/atomic.StoreUint32", "sync/atomic.AddInt64"], unfollowed := true, recurses := true, plainKeys := false, apart := false, narrowed := true }
def DecompBackUptoSaid : Prop := decompBackUptoRow.holds Try.pinned (OpenSpec.upto decompBackSpec)

/-- 'reedpenlaw12.GsubReads', WHERE WHAT IT READS IS OF BULK AT MOST 1048576: true; the input reads as it did. -/
def gsubReadsUptoRow : OpenClaim := { program := "ytgfimeagodcdjaa", sum := "e6660524992d9f77cb172d914b499bc0355e7f5d52546588e069456e2ecffd2f", func := "reedpen/reedpenlaw12.GsubReads", spec := "gsubReads", unfollowed := true, recurses := true, plainKeys := false, apart := false, narrowed := true }
def GsubReadsUptoSaid : Prop := gsubReadsUptoRow.holds Try.pinned (OpenSpec.upto gsubReadsSpec)

/-- 'reedpenlaw12.GsubThings', WHERE WHAT IT READS IS OF BULK AT MOST 1048576: true; the input reads as it did. -/
def gsubThingsUptoRow : OpenClaim := { program := "ytgfimeagodcdjaa", sum := "e6660524992d9f77cb172d914b499bc0355e7f5d52546588e069456e2ecffd2f", func := "reedpen/reedpenlaw12.GsubThings", spec := "gsubThings", unfollowed := true, recurses := true, plainKeys := false, apart := false, narrowed := true }
def GsubThingsUptoSaid : Prop := gsubThingsUptoRow.holds Try.pinned (OpenSpec.upto gsubThingsSpec)

/-- 'reedpenlaw12.GsubMay', WHERE WHAT IT READS IS OF BULK AT MOST 1048576: true; the input reads as it did. -/
def gsubMayUptoRow : OpenClaim := { program := "ytgfimeagodcdjaa", sum := "e6660524992d9f77cb172d914b499bc0355e7f5d52546588e069456e2ecffd2f", func := "reedpen/reedpenlaw12.GsubMay", spec := "gsubMay", unfollowed := true, recurses := true, plainKeys := false, apart := false, narrowed := true }
def GsubMayUptoSaid : Prop := gsubMayUptoRow.holds Try.pinned (OpenSpec.upto gsubMaySpec)

/-- 'reedpenlaw12.GsubBehind', WHERE WHAT IT READS IS OF BULK AT MOST 1048576: true; the input reads as it did. -/
def gsubBehindUptoRow : OpenClaim := { program := "ytgfimeagodcdjaa", sum := "e6660524992d9f77cb172d914b499bc0355e7f5d52546588e069456e2ecffd2f", func := "reedpen/reedpenlaw12.GsubBehind", spec := "gsubBehind", unfollowed := true, recurses := true, plainKeys := false, apart := false, narrowed := true }
def GsubBehindUptoSaid : Prop := gsubBehindUptoRow.holds Try.pinned (OpenSpec.upto gsubBehindSpec)

/-- 'reedpenlaw13.GposThings', WHERE WHAT IT READS IS OF BULK AT MOST 1048576: true; the input reads as it did. -/
def gposThingsUptoRow : OpenClaim := { program := "ytgfimeagodcdjaa", sum := "e6660524992d9f77cb172d914b499bc0355e7f5d52546588e069456e2ecffd2f", func := "reedpen/reedpenlaw13.GposThings", spec := "gposThings", unfollowed := true, recurses := true, plainKeys := false, apart := false, narrowed := true }
def GposThingsUptoSaid : Prop := gposThingsUptoRow.holds Try.pinned (OpenSpec.upto gposThingsSpec)

/-- 'reedpenlaw13.GposMay', WHERE WHAT IT READS IS OF BULK AT MOST 1048576: true; the input reads as it did. -/
def gposMayUptoRow : OpenClaim := { program := "ytgfimeagodcdjaa", sum := "e6660524992d9f77cb172d914b499bc0355e7f5d52546588e069456e2ecffd2f", func := "reedpen/reedpenlaw13.GposMay", spec := "gposMay", unfollowed := true, recurses := true, plainKeys := false, apart := false, narrowed := true }
def GposMayUptoSaid : Prop := gposMayUptoRow.holds Try.pinned (OpenSpec.upto gposMaySpec)

/-- 'reedpenlaw13.GposBehind', WHERE WHAT IT READS IS OF BULK AT MOST 1048576: true; the input reads as it did. -/
def gposBehindUptoRow : OpenClaim := { program := "ytgfimeagodcdjaa", sum := "e6660524992d9f77cb172d914b499bc0355e7f5d52546588e069456e2ecffd2f", func := "reedpen/reedpenlaw13.GposBehind", spec := "gposBehind", unfollowed := true, recurses := true, plainKeys := false, apart := false, narrowed := true }
def GposBehindUptoSaid : Prop := gposBehindUptoRow.holds Try.pinned (OpenSpec.upto gposBehindSpec)

end Rows
end Go.Proofs.Ytgfimeagodcdjaa
