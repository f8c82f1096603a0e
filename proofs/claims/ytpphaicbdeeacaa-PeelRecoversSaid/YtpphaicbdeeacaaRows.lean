/-
  No cell of these rows narrows 'for every input' (looked for: loops, veiled, ifaces, maps, wideKeys, modest, calm, conditions, laid).
  DERIVED. THE GIVEN ROWS OF THIS SEAT. 9 by the template 'for every input the law returns true; each argument reads behind the call as it read before'; 0 by the template 'total and deterministic' (their statements: YtpphaicbdeeacaaTotals.lean).
  GIVEN WITH THE SEED: the statements are not yours to turn. If you find one false, say at which input.
  Laid BY PROGRAM, IN A SANDBOX (cutbox-rows.mjs): the forced cells as the released guide's own fill.sh prints them over the translation 15417574217a0cf0… (all of the seat's roots in one cut). By AI agents, Wed Nov 11 2026. No macro, syntax, notation, axiom, sorry.
-/
import Derived.Test.YtpphaicbdeeacaaChecked
import GoSem.Claim
import GoSem.ClaimJoined
import GoSem.ClaimMapViews
import Derived.JoinedTies
import Derived.KernelRfl
namespace Go.Proofs.Ytpphaicbdeeacaa
/- THE CELL 'sum', in the pinned program and in every row, IS THE sha256 OF THE DUMP (.gsa) THAT YtpphaicbdeeacaaProg.lean LOADS. Nothing in Lean hashes anything: it is a label: what it is worth is what the hold of that sum in a sandbox is worth. -/
noncomputable def Try.pinned : Pinned := { name := "ytpphaicbdeeacaa", sum := "15417574217a0cf04faada18dca482e5cdebc57189986fca97ac4636d7f79d3a", checked := Try.checked }
namespace Rows
def none {H : Type} : Left H := { results := [], args := [] }

/-- 'codewrightlaw44.PeelGraphs': WHATEVER THE INPUT: true; the input reads as it did. -/
def peelGraphsSpec : ChangeSpec := { name := "peelGraphs", fn := fun _ => fun
  | [d1, d2] => { results := [.lit (.bool true)], args := [d1, d2] }
  | _ => none }
def peelGraphsRow : OpenClaim := { program := "ytpphaicbdeeacaa", sum := "15417574217a0cf04faada18dca482e5cdebc57189986fca97ac4636d7f79d3a", func := "codewright/codewrightlaw44.PeelGraphs", spec := "peelGraphs", unfollowed := true, recurses := true, apart := false }
def PeelGraphsSaid : Prop := peelGraphsRow.holds Try.pinned (OpenSpec.ofChange peelGraphsSpec)

/-- ITS FALSE NEIGHBOUR: 'it returns false'. Refute it at one input. -/
def peelGraphsWrong : ChangeSpec := { name := "peelGraphs", fn := fun _ => fun
  | [d1, d2] => { results := [.lit (.bool false)], args := [d1, d2] }
  | _ => none }
def PeelGraphsWrongFalsely : Prop := peelGraphsRow.holds Try.pinned (OpenSpec.ofChange peelGraphsWrong)

/-- 'codewrightlaw44.PeelChecks': WHATEVER THE INPUT: true; the input reads as it did. -/
def peelChecksSpec : ChangeSpec := { name := "peelChecks", fn := fun _ => fun
  | [d1, d2] => { results := [.lit (.bool true)], args := [d1, d2] }
  | _ => none }
def peelChecksRow : OpenClaim := { program := "ytpphaicbdeeacaa", sum := "15417574217a0cf04faada18dca482e5cdebc57189986fca97ac4636d7f79d3a", func := "codewright/codewrightlaw44.PeelChecks", spec := "peelChecks", unfollowed := true, recurses := true, apart := false }
def PeelChecksSaid : Prop := peelChecksRow.holds Try.pinned (OpenSpec.ofChange peelChecksSpec)

/-- ITS FALSE NEIGHBOUR: 'it returns false'. Refute it at one input. -/
def peelChecksWrong : ChangeSpec := { name := "peelChecks", fn := fun _ => fun
  | [d1, d2] => { results := [.lit (.bool false)], args := [d1, d2] }
  | _ => none }
def PeelChecksWrongFalsely : Prop := peelChecksRow.holds Try.pinned (OpenSpec.ofChange peelChecksWrong)

/-- 'codewrightlaw44.PeelDecodes': WHATEVER THE INPUT: true; the input reads as it did. -/
def peelDecodesSpec : ChangeSpec := { name := "peelDecodes", fn := fun _ => fun
  | [d1, d2, d3] => { results := [.lit (.bool true)], args := [d1, d2, d3] }
  | _ => none }
def peelDecodesRow : OpenClaim := { program := "ytpphaicbdeeacaa", sum := "15417574217a0cf04faada18dca482e5cdebc57189986fca97ac4636d7f79d3a", func := "codewright/codewrightlaw44.PeelDecodes", spec := "peelDecodes", unfollowed := true, recurses := true, apart := false }
def PeelDecodesSaid : Prop := peelDecodesRow.holds Try.pinned (OpenSpec.ofChange peelDecodesSpec)

/-- ITS FALSE NEIGHBOUR: 'it returns false'. Refute it at one input. -/
def peelDecodesWrong : ChangeSpec := { name := "peelDecodes", fn := fun _ => fun
  | [d1, d2, d3] => { results := [.lit (.bool false)], args := [d1, d2, d3] }
  | _ => none }
def PeelDecodesWrongFalsely : Prop := peelDecodesRow.holds Try.pinned (OpenSpec.ofChange peelDecodesWrong)

/-- 'codewrightlaw44.PeelResidual': WHATEVER THE INPUT: true; the input reads as it did. -/
def peelResidualSpec : ChangeSpec := { name := "peelResidual", fn := fun _ => fun
  | [d1, d2, d3] => { results := [.lit (.bool true)], args := [d1, d2, d3] }
  | _ => none }
def peelResidualRow : OpenClaim := { program := "ytpphaicbdeeacaa", sum := "15417574217a0cf04faada18dca482e5cdebc57189986fca97ac4636d7f79d3a", func := "codewright/codewrightlaw44.PeelResidual", spec := "peelResidual", unfollowed := true, recurses := true, apart := false }
def PeelResidualSaid : Prop := peelResidualRow.holds Try.pinned (OpenSpec.ofChange peelResidualSpec)

/-- ITS FALSE NEIGHBOUR: 'it returns false'. Refute it at one input. -/
def peelResidualWrong : ChangeSpec := { name := "peelResidual", fn := fun _ => fun
  | [d1, d2, d3] => { results := [.lit (.bool false)], args := [d1, d2, d3] }
  | _ => none }
def PeelResidualWrongFalsely : Prop := peelResidualRow.holds Try.pinned (OpenSpec.ofChange peelResidualWrong)

/-- 'codewrightlaw44.PeelOrders': WHATEVER THE INPUT: true; the input reads as it did. -/
def peelOrdersSpec : ChangeSpec := { name := "peelOrders", fn := fun _ => fun
  | [d1, d2, d3] => { results := [.lit (.bool true)], args := [d1, d2, d3] }
  | _ => none }
def peelOrdersRow : OpenClaim := { program := "ytpphaicbdeeacaa", sum := "15417574217a0cf04faada18dca482e5cdebc57189986fca97ac4636d7f79d3a", func := "codewright/codewrightlaw44.PeelOrders", spec := "peelOrders", unfollowed := true, recurses := true, apart := false }
def PeelOrdersSaid : Prop := peelOrdersRow.holds Try.pinned (OpenSpec.ofChange peelOrdersSpec)

/-- ITS FALSE NEIGHBOUR: 'it returns false'. Refute it at one input. -/
def peelOrdersWrong : ChangeSpec := { name := "peelOrders", fn := fun _ => fun
  | [d1, d2, d3] => { results := [.lit (.bool false)], args := [d1, d2, d3] }
  | _ => none }
def PeelOrdersWrongFalsely : Prop := peelOrdersRow.holds Try.pinned (OpenSpec.ofChange peelOrdersWrong)

/-- 'codewrightlaw44.PeelUnions': WHATEVER THE INPUT: true; the input reads as it did. -/
def peelUnionsSpec : ChangeSpec := { name := "peelUnions", fn := fun _ => fun
  | [d1, d2] => { results := [.lit (.bool true)], args := [d1, d2] }
  | _ => none }
def peelUnionsRow : OpenClaim := { program := "ytpphaicbdeeacaa", sum := "15417574217a0cf04faada18dca482e5cdebc57189986fca97ac4636d7f79d3a", func := "codewright/codewrightlaw44.PeelUnions", spec := "peelUnions", unfollowed := true, recurses := true, apart := false }
def PeelUnionsSaid : Prop := peelUnionsRow.holds Try.pinned (OpenSpec.ofChange peelUnionsSpec)

/-- ITS FALSE NEIGHBOUR: 'it returns false'. Refute it at one input. -/
def peelUnionsWrong : ChangeSpec := { name := "peelUnions", fn := fun _ => fun
  | [d1, d2] => { results := [.lit (.bool false)], args := [d1, d2] }
  | _ => none }
def PeelUnionsWrongFalsely : Prop := peelUnionsRow.holds Try.pinned (OpenSpec.ofChange peelUnionsWrong)

/-- 'codewrightlaw44.PeelForest': WHATEVER THE INPUT: true; the input reads as it did. -/
def peelForestSpec : ChangeSpec := { name := "peelForest", fn := fun _ => fun
  | [d] => { results := [.lit (.bool true)], args := [d] }
  | _ => none }
def peelForestRow : OpenClaim := { program := "ytpphaicbdeeacaa", sum := "15417574217a0cf04faada18dca482e5cdebc57189986fca97ac4636d7f79d3a", func := "codewright/codewrightlaw44.PeelForest", spec := "peelForest", unfollowed := true, recurses := true, apart := false }
def PeelForestSaid : Prop := peelForestRow.holds Try.pinned (OpenSpec.ofChange peelForestSpec)

/-- ITS FALSE NEIGHBOUR: 'it returns false'. Refute it at one input. -/
def peelForestWrong : ChangeSpec := { name := "peelForest", fn := fun _ => fun
  | [d] => { results := [.lit (.bool false)], args := [d] }
  | _ => none }
def PeelForestWrongFalsely : Prop := peelForestRow.holds Try.pinned (OpenSpec.ofChange peelForestWrong)

/-- 'codewrightlaw44.PeelSmallest': WHATEVER THE INPUT: true; the input reads as it did. -/
def peelSmallestSpec : ChangeSpec := { name := "peelSmallest", fn := fun _ => fun
  | [d1, d2] => { results := [.lit (.bool true)], args := [d1, d2] }
  | _ => none }
def peelSmallestRow : OpenClaim := { program := "ytpphaicbdeeacaa", sum := "15417574217a0cf04faada18dca482e5cdebc57189986fca97ac4636d7f79d3a", func := "codewright/codewrightlaw44.PeelSmallest", spec := "peelSmallest", unfollowed := true, recurses := true, apart := false }
def PeelSmallestSaid : Prop := peelSmallestRow.holds Try.pinned (OpenSpec.ofChange peelSmallestSpec)

/-- ITS FALSE NEIGHBOUR: 'it returns false'. Refute it at one input. -/
def peelSmallestWrong : ChangeSpec := { name := "peelSmallest", fn := fun _ => fun
  | [d1, d2] => { results := [.lit (.bool false)], args := [d1, d2] }
  | _ => none }
def PeelSmallestWrongFalsely : Prop := peelSmallestRow.holds Try.pinned (OpenSpec.ofChange peelSmallestWrong)

/-- 'codewrightlaw44.PeelRecovers': WHATEVER THE INPUT: true; the input reads as it did. -/
def peelRecoversSpec : ChangeSpec := { name := "peelRecovers", fn := fun _ => fun
  | [d1, d2, d3] => { results := [.lit (.bool true)], args := [d1, d2, d3] }
  | _ => none }
def peelRecoversRow : OpenClaim := { program := "ytpphaicbdeeacaa", sum := "15417574217a0cf04faada18dca482e5cdebc57189986fca97ac4636d7f79d3a", func := "codewright/codewrightlaw44.PeelRecovers", spec := "peelRecovers", unfollowed := true, recurses := true, apart := false }
def PeelRecoversSaid : Prop := peelRecoversRow.holds Try.pinned (OpenSpec.ofChange peelRecoversSpec)

/-- ITS FALSE NEIGHBOUR: 'it returns false'. Refute it at one input. -/
def peelRecoversWrong : ChangeSpec := { name := "peelRecovers", fn := fun _ => fun
  | [d1, d2, d3] => { results := [.lit (.bool false)], args := [d1, d2, d3] }
  | _ => none }
def PeelRecoversWrongFalsely : Prop := peelRecoversRow.holds Try.pinned (OpenSpec.ofChange peelRecoversWrong)

/- THE SECOND FORM. 'bulk': how many values and letters a reading holds, each counted each time it is reached (what is shared counts as often as it is met; a slice's spare places count too). A statement '..UptoSaid' is the law's where the arguments, and the package variables that the reading takes, are together of bulk at most 1048576: NARROWER than '..Said'. Prove '..Said' where nothing that the law and all that it calls make is longer than what came in: it says more and counts as full. Else prove '..UptoSaid'. A law counts once. -/
mutual
def uptoBulk {H : Type} : DataW H → Nat
  | .lit (.string bytes) => bytes.length + 1
  | .lit _ => 1
  | .nil => 1
  | .ptr d => uptoBulk d + 1
  | .slice elems spare => uptoBulkAll elems + uptoBulkAll spare + 1
  | .agg parts => uptoBulkAll parts + 1
  | .iface _ d => uptoBulk d + 1
  | .map entries => uptoBulkEntries entries + 1
  | .held _ => 1
def uptoBulkAll {H : Type} : List (DataW H) → Nat
  | [] => 0
  | d :: r => uptoBulk d + uptoBulkAll r
def uptoBulkEntries {H : Type} : List (Lit × DataW H) → Nat
  | [] => 0
  | x :: r => uptoBulkEntry x + uptoBulkEntries r
def uptoBulkEntry {H : Type} : Lit × DataW H → Nat
  | (.string bytes, d) => bytes.length + uptoBulk d + 1
  | (_, d) => uptoBulk d + 1
 end
def uptoSmall : (H : Type) → List (DataW H) → Bool := fun _ ds => decide (uptoBulkAll ds ≤ 1048576)
def OpenSpec.upto (s : _root_.Go.ChangeSpec) : _root_.Go.OpenSpec := { _root_.Go.OpenSpec.ofChange s with cond := some uptoSmall }

/-- 'codewrightlaw44.PeelGraphs', WHERE WHAT IT READS IS OF BULK AT MOST 1048576: true; the input reads as it did. -/
def peelGraphsUptoRow : OpenClaim := { program := "ytpphaicbdeeacaa", sum := "15417574217a0cf04faada18dca482e5cdebc57189986fca97ac4636d7f79d3a", func := "codewright/codewrightlaw44.PeelGraphs", spec := "peelGraphs", unfollowed := true, recurses := true, apart := false, narrowed := true }
def PeelGraphsUptoSaid : Prop := peelGraphsUptoRow.holds Try.pinned (OpenSpec.upto peelGraphsSpec)

/-- 'codewrightlaw44.PeelChecks', WHERE WHAT IT READS IS OF BULK AT MOST 1048576: true; the input reads as it did. -/
def peelChecksUptoRow : OpenClaim := { program := "ytpphaicbdeeacaa", sum := "15417574217a0cf04faada18dca482e5cdebc57189986fca97ac4636d7f79d3a", func := "codewright/codewrightlaw44.PeelChecks", spec := "peelChecks", unfollowed := true, recurses := true, apart := false, narrowed := true }
def PeelChecksUptoSaid : Prop := peelChecksUptoRow.holds Try.pinned (OpenSpec.upto peelChecksSpec)

/-- 'codewrightlaw44.PeelDecodes', WHERE WHAT IT READS IS OF BULK AT MOST 1048576: true; the input reads as it did. -/
def peelDecodesUptoRow : OpenClaim := { program := "ytpphaicbdeeacaa", sum := "15417574217a0cf04faada18dca482e5cdebc57189986fca97ac4636d7f79d3a", func := "codewright/codewrightlaw44.PeelDecodes", spec := "peelDecodes", unfollowed := true, recurses := true, apart := false, narrowed := true }
def PeelDecodesUptoSaid : Prop := peelDecodesUptoRow.holds Try.pinned (OpenSpec.upto peelDecodesSpec)

/-- 'codewrightlaw44.PeelResidual', WHERE WHAT IT READS IS OF BULK AT MOST 1048576: true; the input reads as it did. -/
def peelResidualUptoRow : OpenClaim := { program := "ytpphaicbdeeacaa", sum := "15417574217a0cf04faada18dca482e5cdebc57189986fca97ac4636d7f79d3a", func := "codewright/codewrightlaw44.PeelResidual", spec := "peelResidual", unfollowed := true, recurses := true, apart := false, narrowed := true }
def PeelResidualUptoSaid : Prop := peelResidualUptoRow.holds Try.pinned (OpenSpec.upto peelResidualSpec)

/-- 'codewrightlaw44.PeelOrders', WHERE WHAT IT READS IS OF BULK AT MOST 1048576: true; the input reads as it did. -/
def peelOrdersUptoRow : OpenClaim := { program := "ytpphaicbdeeacaa", sum := "15417574217a0cf04faada18dca482e5cdebc57189986fca97ac4636d7f79d3a", func := "codewright/codewrightlaw44.PeelOrders", spec := "peelOrders", unfollowed := true, recurses := true, apart := false, narrowed := true }
def PeelOrdersUptoSaid : Prop := peelOrdersUptoRow.holds Try.pinned (OpenSpec.upto peelOrdersSpec)

/-- 'codewrightlaw44.PeelUnions', WHERE WHAT IT READS IS OF BULK AT MOST 1048576: true; the input reads as it did. -/
def peelUnionsUptoRow : OpenClaim := { program := "ytpphaicbdeeacaa", sum := "15417574217a0cf04faada18dca482e5cdebc57189986fca97ac4636d7f79d3a", func := "codewright/codewrightlaw44.PeelUnions", spec := "peelUnions", unfollowed := true, recurses := true, apart := false, narrowed := true }
def PeelUnionsUptoSaid : Prop := peelUnionsUptoRow.holds Try.pinned (OpenSpec.upto peelUnionsSpec)

/-- 'codewrightlaw44.PeelForest', WHERE WHAT IT READS IS OF BULK AT MOST 1048576: true; the input reads as it did. -/
def peelForestUptoRow : OpenClaim := { program := "ytpphaicbdeeacaa", sum := "15417574217a0cf04faada18dca482e5cdebc57189986fca97ac4636d7f79d3a", func := "codewright/codewrightlaw44.PeelForest", spec := "peelForest", unfollowed := true, recurses := true, apart := false, narrowed := true }
def PeelForestUptoSaid : Prop := peelForestUptoRow.holds Try.pinned (OpenSpec.upto peelForestSpec)

/-- 'codewrightlaw44.PeelSmallest', WHERE WHAT IT READS IS OF BULK AT MOST 1048576: true; the input reads as it did. -/
def peelSmallestUptoRow : OpenClaim := { program := "ytpphaicbdeeacaa", sum := "15417574217a0cf04faada18dca482e5cdebc57189986fca97ac4636d7f79d3a", func := "codewright/codewrightlaw44.PeelSmallest", spec := "peelSmallest", unfollowed := true, recurses := true, apart := false, narrowed := true }
def PeelSmallestUptoSaid : Prop := peelSmallestUptoRow.holds Try.pinned (OpenSpec.upto peelSmallestSpec)

/-- 'codewrightlaw44.PeelRecovers', WHERE WHAT IT READS IS OF BULK AT MOST 1048576: true; the input reads as it did. -/
def peelRecoversUptoRow : OpenClaim := { program := "ytpphaicbdeeacaa", sum := "15417574217a0cf04faada18dca482e5cdebc57189986fca97ac4636d7f79d3a", func := "codewright/codewrightlaw44.PeelRecovers", spec := "peelRecovers", unfollowed := true, recurses := true, apart := false, narrowed := true }
def PeelRecoversUptoSaid : Prop := peelRecoversUptoRow.holds Try.pinned (OpenSpec.upto peelRecoversSpec)

end Rows
end Go.Proofs.Ytpphaicbdeeacaa
