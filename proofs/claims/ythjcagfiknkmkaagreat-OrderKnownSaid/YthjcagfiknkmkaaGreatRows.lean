/-
  No cell of these rows narrows 'for every input' (looked for: loops, veiled, ifaces, maps, wideKeys, modest, calm, conditions, laid).
  DERIVED. THE GIVEN ROWS OF THIS SEAT. 8 by the template 'for every input the law returns true; each argument reads behind the call as it read before'; 0 by the template 'total and deterministic' (their statements: YthjcagfiknkmkaaGreatTotals.lean).
  GIVEN WITH THE SEED: the statements are not yours to turn. If you find one false, say at which input.
  Laid BY PROGRAM, IN A SANDBOX (cutbox-rows.mjs): the forced cells as the released guide's own fill.sh prints them over the translation 49ff80e1e96668ba… (all of the seat's roots in one cut). By AI agents, Wed Nov 11 2026. No macro, syntax, notation, axiom, sorry.
-/
import Derived.Test.YthjcagfiknkmkaaGreatChecked
import GoSem.Claim
import GoSem.ClaimJoined
import GoSem.ClaimMapViews
import Derived.JoinedTies
import Derived.KernelRfl
namespace Go.Proofs.YthjcagfiknkmkaaGreat
/- THE CELL 'sum', in the pinned program and in every row, IS THE sha256 OF THE DUMP (.gsa) THAT YthjcagfiknkmkaaGreatProg.lean LOADS. Nothing in Lean hashes anything: it is a label: what it is worth is what the hold of that sum in a sandbox is worth. -/
noncomputable def Tryz.pinned : Pinned := { name := "ythjcagfiknkmkaagreat", sum := "49ff80e1e96668ba5e7e5796091bafb4beef2041007aa99ff117bac294e38dbf", checked := Tryz.checked }
namespace Rows
def none {H : Type} : Left H := { results := [], args := [] }

/-- 'suturelaw15.StepGoes': WHATEVER THE INPUT: true; the input reads as it did. -/
def stepGoesSpec : ChangeSpec := { name := "stepGoes", fn := fun _ => fun
  | [d1, d2, d3, d4, d5] => { results := [.lit (.bool true)], args := [d1, d2, d3, d4, d5] }
  | _ => none }
def stepGoesRow : OpenClaim := { program := "ythjcagfiknkmkaagreat", sum := "49ff80e1e96668ba5e7e5796091bafb4beef2041007aa99ff117bac294e38dbf", func := "suture/suturelaw15.StepGoes", spec := "stepGoes", recurses := true, apart := false }
def StepGoesSaid : Prop := stepGoesRow.holds Tryz.pinned (OpenSpec.ofChange stepGoesSpec)

/-- ITS FALSE NEIGHBOUR: 'it returns false'. Refute it at one input. -/
def stepGoesWrong : ChangeSpec := { name := "stepGoes", fn := fun _ => fun
  | [d1, d2, d3, d4, d5] => { results := [.lit (.bool false)], args := [d1, d2, d3, d4, d5] }
  | _ => none }
def StepGoesWrongFalsely : Prop := stepGoesRow.holds Tryz.pinned (OpenSpec.ofChange stepGoesWrong)

/-- 'suturelaw17.TraceDraws': WHATEVER THE INPUT: true; the input reads as it did. -/
def traceDrawsSpec : ChangeSpec := { name := "traceDraws", fn := fun _ => fun
  | [d1, d2, d3, d4, d5, d6] => { results := [.lit (.bool true)], args := [d1, d2, d3, d4, d5, d6] }
  | _ => none }
def traceDrawsRow : OpenClaim := { program := "ythjcagfiknkmkaagreat", sum := "49ff80e1e96668ba5e7e5796091bafb4beef2041007aa99ff117bac294e38dbf", func := "suture/suturelaw17.TraceDraws", spec := "traceDraws", unfollowed := true, recurses := true, apart := false }
def TraceDrawsSaid : Prop := traceDrawsRow.holds Tryz.pinned (OpenSpec.ofChange traceDrawsSpec)

/-- ITS FALSE NEIGHBOUR: 'it returns false'. Refute it at one input. -/
def traceDrawsWrong : ChangeSpec := { name := "traceDraws", fn := fun _ => fun
  | [d1, d2, d3, d4, d5, d6] => { results := [.lit (.bool false)], args := [d1, d2, d3, d4, d5, d6] }
  | _ => none }
def TraceDrawsWrongFalsely : Prop := traceDrawsRow.holds Tryz.pinned (OpenSpec.ofChange traceDrawsWrong)

/-- 'suturelaw17.TraceEnds': WHATEVER THE INPUT: true; the input reads as it did. -/
def traceEndsSpec : ChangeSpec := { name := "traceEnds", fn := fun _ => fun
  | [d1, d2, d3, d4, d5] => { results := [.lit (.bool true)], args := [d1, d2, d3, d4, d5] }
  | _ => none }
def traceEndsRow : OpenClaim := { program := "ythjcagfiknkmkaagreat", sum := "49ff80e1e96668ba5e7e5796091bafb4beef2041007aa99ff117bac294e38dbf", func := "suture/suturelaw17.TraceEnds", spec := "traceEnds", unfollowed := true, recurses := true, apart := false }
def TraceEndsSaid : Prop := traceEndsRow.holds Tryz.pinned (OpenSpec.ofChange traceEndsSpec)

/-- ITS FALSE NEIGHBOUR: 'it returns false'. Refute it at one input. -/
def traceEndsWrong : ChangeSpec := { name := "traceEnds", fn := fun _ => fun
  | [d1, d2, d3, d4, d5] => { results := [.lit (.bool false)], args := [d1, d2, d3, d4, d5] }
  | _ => none }
def TraceEndsWrongFalsely : Prop := traceEndsRow.holds Tryz.pinned (OpenSpec.ofChange traceEndsWrong)

/-- 'suturelaw19.OrderKnown': WHATEVER THE INPUT: true; the input reads as it did. -/
def orderKnownSpec : ChangeSpec := { name := "orderKnown", fn := fun _ => fun
  | [] => { results := [.lit (.bool true)], args := [] }
  | _ => none }
def orderKnownRow : OpenClaim := { program := "ythjcagfiknkmkaagreat", sum := "49ff80e1e96668ba5e7e5796091bafb4beef2041007aa99ff117bac294e38dbf", func := "suture/suturelaw19.OrderKnown", spec := "orderKnown", unfollowed := true, recurses := true, apart := false }
def OrderKnownSaid : Prop := orderKnownRow.holds Tryz.pinned (OpenSpec.ofChange orderKnownSpec)

/-- ITS FALSE NEIGHBOUR: 'it returns false'. Refute it at one input. -/
def orderKnownWrong : ChangeSpec := { name := "orderKnown", fn := fun _ => fun
  | [] => { results := [.lit (.bool false)], args := [] }
  | _ => none }
def OrderKnownWrongFalsely : Prop := orderKnownRow.holds Tryz.pinned (OpenSpec.ofChange orderKnownWrong)

/-- 'suturelaw19.OrderTells': WHATEVER THE INPUT: true; the input reads as it did. -/
def orderTellsSpec : ChangeSpec := { name := "orderTells", fn := fun _ => fun
  | [d1, d2, d3, d4, d5, d6, d7] => { results := [.lit (.bool true)], args := [d1, d2, d3, d4, d5, d6, d7] }
  | _ => none }
def orderTellsRow : OpenClaim := { program := "ythjcagfiknkmkaagreat", sum := "49ff80e1e96668ba5e7e5796091bafb4beef2041007aa99ff117bac294e38dbf", func := "suture/suturelaw19.OrderTells", spec := "orderTells", unfollowed := true, recurses := true, apart := false }
def OrderTellsSaid : Prop := orderTellsRow.holds Tryz.pinned (OpenSpec.ofChange orderTellsSpec)

/-- ITS FALSE NEIGHBOUR: 'it returns false'. Refute it at one input. -/
def orderTellsWrong : ChangeSpec := { name := "orderTells", fn := fun _ => fun
  | [d1, d2, d3, d4, d5, d6, d7] => { results := [.lit (.bool false)], args := [d1, d2, d3, d4, d5, d6, d7] }
  | _ => none }
def OrderTellsWrongFalsely : Prop := orderTellsRow.holds Tryz.pinned (OpenSpec.ofChange orderTellsWrong)

/-- 'suturelaw19.OrderGrows': WHATEVER THE INPUT: true; the input reads as it did. -/
def orderGrowsSpec : ChangeSpec := { name := "orderGrows", fn := fun _ => fun
  | [d1, d2, d3, d4, d5, d6] => { results := [.lit (.bool true)], args := [d1, d2, d3, d4, d5, d6] }
  | _ => none }
def orderGrowsRow : OpenClaim := { program := "ythjcagfiknkmkaagreat", sum := "49ff80e1e96668ba5e7e5796091bafb4beef2041007aa99ff117bac294e38dbf", func := "suture/suturelaw19.OrderGrows", spec := "orderGrows", unfollowed := true, recurses := true, apart := false }
def OrderGrowsSaid : Prop := orderGrowsRow.holds Tryz.pinned (OpenSpec.ofChange orderGrowsSpec)

/-- ITS FALSE NEIGHBOUR: 'it returns false'. Refute it at one input. -/
def orderGrowsWrong : ChangeSpec := { name := "orderGrows", fn := fun _ => fun
  | [d1, d2, d3, d4, d5, d6] => { results := [.lit (.bool false)], args := [d1, d2, d3, d4, d5, d6] }
  | _ => none }
def OrderGrowsWrongFalsely : Prop := orderGrowsRow.holds Tryz.pinned (OpenSpec.ofChange orderGrowsWrong)

/-- 'suturelaw19.OrderLocked': WHATEVER THE INPUT: true; the input reads as it did. -/
def orderLockedSpec : ChangeSpec := { name := "orderLocked", fn := fun _ => fun
  | [d1, d2] => { results := [.lit (.bool true)], args := [d1, d2] }
  | _ => none }
def orderLockedRow : OpenClaim := { program := "ythjcagfiknkmkaagreat", sum := "49ff80e1e96668ba5e7e5796091bafb4beef2041007aa99ff117bac294e38dbf", func := "suture/suturelaw19.OrderLocked", spec := "orderLocked", unfollowed := true, recurses := true, apart := false }
def OrderLockedSaid : Prop := orderLockedRow.holds Tryz.pinned (OpenSpec.ofChange orderLockedSpec)

/-- ITS FALSE NEIGHBOUR: 'it returns false'. Refute it at one input. -/
def orderLockedWrong : ChangeSpec := { name := "orderLocked", fn := fun _ => fun
  | [d1, d2] => { results := [.lit (.bool false)], args := [d1, d2] }
  | _ => none }
def OrderLockedWrongFalsely : Prop := orderLockedRow.holds Tryz.pinned (OpenSpec.ofChange orderLockedWrong)

/-- 'suturelaw19.OrderQuiet': WHATEVER THE INPUT: true; the input reads as it did. -/
def orderQuietSpec : ChangeSpec := { name := "orderQuiet", fn := fun _ => fun
  | [d1, d2, d3] => { results := [.lit (.bool true)], args := [d1, d2, d3] }
  | _ => none }
def orderQuietRow : OpenClaim := { program := "ythjcagfiknkmkaagreat", sum := "49ff80e1e96668ba5e7e5796091bafb4beef2041007aa99ff117bac294e38dbf", func := "suture/suturelaw19.OrderQuiet", spec := "orderQuiet", unfollowed := true, recurses := true, apart := false }
def OrderQuietSaid : Prop := orderQuietRow.holds Tryz.pinned (OpenSpec.ofChange orderQuietSpec)

/-- ITS FALSE NEIGHBOUR: 'it returns false'. Refute it at one input. -/
def orderQuietWrong : ChangeSpec := { name := "orderQuiet", fn := fun _ => fun
  | [d1, d2, d3] => { results := [.lit (.bool false)], args := [d1, d2, d3] }
  | _ => none }
def OrderQuietWrongFalsely : Prop := orderQuietRow.holds Tryz.pinned (OpenSpec.ofChange orderQuietWrong)

/- THE SECOND FORM. 'bulk': how many values and letters a reading holds, each counted each time it is reached (what is shared counts as often as it is met; a slice's spare places count too). A statement '..UptoSaid' is the law's where the arguments, and the package variables that the reading takes, are together of bulk at most 1048576: NARROWER than '..Said'. Prove '..Said' where nothing that the law and all that it calls make is longer than what came in: it says more and counts as full. Else prove '..UptoSaid'. A law counts once. -/
mutual
def uptoBulk {H : Type} : DataW H → Nat
  | .lit (.string bytes) => bytes.length + 1
  | .lit _ => 1
  | .nil => 1
  | .ptr d => uptoBulk d + 1
  | .slice elems spare => uptoBulkAll elems + uptoBulkAll spare + 1
  | .agg parts => uptoBulkAll parts + 1
  | .iface _ d => uptoBulk d + 1
  | .map entries => uptoBulkEntries entries + 1
  | .held _ => 1
def uptoBulkAll {H : Type} : List (DataW H) → Nat
  | [] => 0
  | d :: r => uptoBulk d + uptoBulkAll r
def uptoBulkEntries {H : Type} : List (Lit × DataW H) → Nat
  | [] => 0
  | x :: r => uptoBulkEntry x + uptoBulkEntries r
def uptoBulkEntry {H : Type} : Lit × DataW H → Nat
  | (.string bytes, d) => bytes.length + uptoBulk d + 1
  | (_, d) => uptoBulk d + 1
 end
def uptoSmall : (H : Type) → List (DataW H) → Bool := fun _ ds => decide (uptoBulkAll ds ≤ 1048576)
def OpenSpec.upto (s : _root_.Go.ChangeSpec) : _root_.Go.OpenSpec := { _root_.Go.OpenSpec.ofChange s with cond := some uptoSmall }

/-- 'suturelaw15.StepGoes', WHERE WHAT IT READS IS OF BULK AT MOST 1048576: true; the input reads as it did. -/
def stepGoesUptoRow : OpenClaim := { program := "ythjcagfiknkmkaagreat", sum := "49ff80e1e96668ba5e7e5796091bafb4beef2041007aa99ff117bac294e38dbf", func := "suture/suturelaw15.StepGoes", spec := "stepGoes", recurses := true, apart := false, narrowed := true }
def StepGoesUptoSaid : Prop := stepGoesUptoRow.holds Tryz.pinned (OpenSpec.upto stepGoesSpec)

/-- 'suturelaw17.TraceDraws', WHERE WHAT IT READS IS OF BULK AT MOST 1048576: true; the input reads as it did. -/
def traceDrawsUptoRow : OpenClaim := { program := "ythjcagfiknkmkaagreat", sum := "49ff80e1e96668ba5e7e5796091bafb4beef2041007aa99ff117bac294e38dbf", func := "suture/suturelaw17.TraceDraws", spec := "traceDraws", unfollowed := true, recurses := true, apart := false, narrowed := true }
def TraceDrawsUptoSaid : Prop := traceDrawsUptoRow.holds Tryz.pinned (OpenSpec.upto traceDrawsSpec)

/-- 'suturelaw17.TraceEnds', WHERE WHAT IT READS IS OF BULK AT MOST 1048576: true; the input reads as it did. -/
def traceEndsUptoRow : OpenClaim := { program := "ythjcagfiknkmkaagreat", sum := "49ff80e1e96668ba5e7e5796091bafb4beef2041007aa99ff117bac294e38dbf", func := "suture/suturelaw17.TraceEnds", spec := "traceEnds", unfollowed := true, recurses := true, apart := false, narrowed := true }
def TraceEndsUptoSaid : Prop := traceEndsUptoRow.holds Tryz.pinned (OpenSpec.upto traceEndsSpec)

/-- 'suturelaw19.OrderKnown', WHERE WHAT IT READS IS OF BULK AT MOST 1048576: true; the input reads as it did. -/
def orderKnownUptoRow : OpenClaim := { program := "ythjcagfiknkmkaagreat", sum := "49ff80e1e96668ba5e7e5796091bafb4beef2041007aa99ff117bac294e38dbf", func := "suture/suturelaw19.OrderKnown", spec := "orderKnown", unfollowed := true, recurses := true, apart := false, narrowed := true }
def OrderKnownUptoSaid : Prop := orderKnownUptoRow.holds Tryz.pinned (OpenSpec.upto orderKnownSpec)

/-- 'suturelaw19.OrderTells', WHERE WHAT IT READS IS OF BULK AT MOST 1048576: true; the input reads as it did. -/
def orderTellsUptoRow : OpenClaim := { program := "ythjcagfiknkmkaagreat", sum := "49ff80e1e96668ba5e7e5796091bafb4beef2041007aa99ff117bac294e38dbf", func := "suture/suturelaw19.OrderTells", spec := "orderTells", unfollowed := true, recurses := true, apart := false, narrowed := true }
def OrderTellsUptoSaid : Prop := orderTellsUptoRow.holds Tryz.pinned (OpenSpec.upto orderTellsSpec)

/-- 'suturelaw19.OrderGrows', WHERE WHAT IT READS IS OF BULK AT MOST 1048576: true; the input reads as it did. -/
def orderGrowsUptoRow : OpenClaim := { program := "ythjcagfiknkmkaagreat", sum := "49ff80e1e96668ba5e7e5796091bafb4beef2041007aa99ff117bac294e38dbf", func := "suture/suturelaw19.OrderGrows", spec := "orderGrows", unfollowed := true, recurses := true, apart := false, narrowed := true }
def OrderGrowsUptoSaid : Prop := orderGrowsUptoRow.holds Tryz.pinned (OpenSpec.upto orderGrowsSpec)

/-- 'suturelaw19.OrderLocked', WHERE WHAT IT READS IS OF BULK AT MOST 1048576: true; the input reads as it did. -/
def orderLockedUptoRow : OpenClaim := { program := "ythjcagfiknkmkaagreat", sum := "49ff80e1e96668ba5e7e5796091bafb4beef2041007aa99ff117bac294e38dbf", func := "suture/suturelaw19.OrderLocked", spec := "orderLocked", unfollowed := true, recurses := true, apart := false, narrowed := true }
def OrderLockedUptoSaid : Prop := orderLockedUptoRow.holds Tryz.pinned (OpenSpec.upto orderLockedSpec)

/-- 'suturelaw19.OrderQuiet', WHERE WHAT IT READS IS OF BULK AT MOST 1048576: true; the input reads as it did. -/
def orderQuietUptoRow : OpenClaim := { program := "ythjcagfiknkmkaagreat", sum := "49ff80e1e96668ba5e7e5796091bafb4beef2041007aa99ff117bac294e38dbf", func := "suture/suturelaw19.OrderQuiet", spec := "orderQuiet", unfollowed := true, recurses := true, apart := false, narrowed := true }
def OrderQuietUptoSaid : Prop := orderQuietUptoRow.holds Tryz.pinned (OpenSpec.upto orderQuietSpec)

end Rows
end Go.Proofs.YthjcagfiknkmkaaGreat
