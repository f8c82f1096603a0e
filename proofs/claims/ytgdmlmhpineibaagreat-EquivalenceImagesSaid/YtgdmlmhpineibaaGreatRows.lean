/-
  No cell of these rows narrows 'for every input' (looked for: loops, veiled, ifaces, maps, wideKeys, modest, calm, conditions, laid).
  DERIVED. THE GIVEN ROWS OF THIS SEAT. 9 by the template 'for every input the law returns true; each argument reads behind the call as it read before'; 0 by the template 'total and deterministic' (their statements: YtgdmlmhpineibaaGreatTotals.lean).
  GIVEN WITH THE SEED: the statements are not yours to turn. If you find one false, say at which input.
  Laid BY PROGRAM, IN A SANDBOX (cutbox-rows.mjs): the forced cells as the released guide's own fill.sh prints them over the translation 81d6d2c5a6b25da6… (all of the seat's roots in one cut). By AI agents, Wed Nov 11 2026. No macro, syntax, notation, axiom, sorry.
-/
import Derived.Test.YtgdmlmhpineibaaGreatChecked
import GoSem.Claim
import GoSem.ClaimJoined
import GoSem.ClaimMapViews
import Derived.JoinedTies
import Derived.KernelRfl
namespace Go.Proofs.YtgdmlmhpineibaaGreat
/- THE CELL 'sum', in the pinned program and in every row, IS THE sha256 OF THE DUMP (.gsa) THAT YtgdmlmhpineibaaGreatProg.lean LOADS. Nothing in Lean hashes anything: it is a label: what it is worth is what the hold of that sum in a sandbox is worth. -/
noncomputable def Tryz.pinned : Pinned := { name := "ytgdmlmhpineibaagreat", sum := "81d6d2c5a6b25da6b9389a52caa46db3ccaaa627b1f5347e23ada701419ffa98", checked := Tryz.checked }
namespace Rows
def none {H : Type} : Left H := { results := [], args := [] }

/-- 'codewrightlaw31.EquivalenceMaps': WHATEVER THE INPUT: true; the input reads as it did. -/
def equivalenceMapsSpec : ChangeSpec := { name := "equivalenceMaps", fn := fun _ => fun
  | [d1, d2, d3] => { results := [.lit (.bool true)], args := [d1, d2, d3] }
  | _ => none }
def equivalenceMapsRow : OpenClaim := { program := "ytgdmlmhpineibaagreat", sum := "81d6d2c5a6b25da6b9389a52caa46db3ccaaa627b1f5347e23ada701419ffa98", func := "codewright/codewrightlaw31.EquivalenceMaps", spec := "equivalenceMaps", unfollowed := true, recurses := true, apart := false }
def EquivalenceMapsSaid : Prop := equivalenceMapsRow.holds Tryz.pinned (OpenSpec.ofChange equivalenceMapsSpec)

/-- ITS FALSE NEIGHBOUR: 'it returns false'. Refute it at one input. -/
def equivalenceMapsWrong : ChangeSpec := { name := "equivalenceMaps", fn := fun _ => fun
  | [d1, d2, d3] => { results := [.lit (.bool false)], args := [d1, d2, d3] }
  | _ => none }
def EquivalenceMapsWrongFalsely : Prop := equivalenceMapsRow.holds Tryz.pinned (OpenSpec.ofChange equivalenceMapsWrong)

/-- 'codewrightlaw31.EquivalenceComposes': WHATEVER THE INPUT: true; the input reads as it did. -/
def equivalenceComposesSpec : ChangeSpec := { name := "equivalenceComposes", fn := fun _ => fun
  | [d1, d2, d3] => { results := [.lit (.bool true)], args := [d1, d2, d3] }
  | _ => none }
def equivalenceComposesRow : OpenClaim := { program := "ytgdmlmhpineibaagreat", sum := "81d6d2c5a6b25da6b9389a52caa46db3ccaaa627b1f5347e23ada701419ffa98", func := "codewright/codewrightlaw31.EquivalenceComposes", spec := "equivalenceComposes", unfollowed := true, recurses := true, apart := false }
def EquivalenceComposesSaid : Prop := equivalenceComposesRow.holds Tryz.pinned (OpenSpec.ofChange equivalenceComposesSpec)

/-- ITS FALSE NEIGHBOUR: 'it returns false'. Refute it at one input. -/
def equivalenceComposesWrong : ChangeSpec := { name := "equivalenceComposes", fn := fun _ => fun
  | [d1, d2, d3] => { results := [.lit (.bool false)], args := [d1, d2, d3] }
  | _ => none }
def EquivalenceComposesWrongFalsely : Prop := equivalenceComposesRow.holds Tryz.pinned (OpenSpec.ofChange equivalenceComposesWrong)

/-- 'codewrightlaw31.EquivalenceGroup': WHATEVER THE INPUT: true; the input reads as it did. -/
def equivalenceGroupSpec : ChangeSpec := { name := "equivalenceGroup", fn := fun _ => fun
  | [d1, d2, d3] => { results := [.lit (.bool true)], args := [d1, d2, d3] }
  | _ => none }
def equivalenceGroupRow : OpenClaim := { program := "ytgdmlmhpineibaagreat", sum := "81d6d2c5a6b25da6b9389a52caa46db3ccaaa627b1f5347e23ada701419ffa98", func := "codewright/codewrightlaw31.EquivalenceGroup", spec := "equivalenceGroup", unfollowed := true, recurses := true, apart := false }
def EquivalenceGroupSaid : Prop := equivalenceGroupRow.holds Tryz.pinned (OpenSpec.ofChange equivalenceGroupSpec)

/-- ITS FALSE NEIGHBOUR: 'it returns false'. Refute it at one input. -/
def equivalenceGroupWrong : ChangeSpec := { name := "equivalenceGroup", fn := fun _ => fun
  | [d1, d2, d3] => { results := [.lit (.bool false)], args := [d1, d2, d3] }
  | _ => none }
def EquivalenceGroupWrongFalsely : Prop := equivalenceGroupRow.holds Tryz.pinned (OpenSpec.ofChange equivalenceGroupWrong)

/-- 'codewrightlaw31.EquivalenceSearches': WHATEVER THE INPUT: true; the input reads as it did. -/
def equivalenceSearchesSpec : ChangeSpec := { name := "equivalenceSearches", fn := fun _ => fun
  | [d1, d2, d3] => { results := [.lit (.bool true)], args := [d1, d2, d3] }
  | _ => none }
def equivalenceSearchesRow : OpenClaim := { program := "ytgdmlmhpineibaagreat", sum := "81d6d2c5a6b25da6b9389a52caa46db3ccaaa627b1f5347e23ada701419ffa98", func := "codewright/codewrightlaw31.EquivalenceSearches", spec := "equivalenceSearches", unfollowed := true, recurses := true, apart := false }
def EquivalenceSearchesSaid : Prop := equivalenceSearchesRow.holds Tryz.pinned (OpenSpec.ofChange equivalenceSearchesSpec)

/-- ITS FALSE NEIGHBOUR: 'it returns false'. Refute it at one input. -/
def equivalenceSearchesWrong : ChangeSpec := { name := "equivalenceSearches", fn := fun _ => fun
  | [d1, d2, d3] => { results := [.lit (.bool false)], args := [d1, d2, d3] }
  | _ => none }
def EquivalenceSearchesWrongFalsely : Prop := equivalenceSearchesRow.holds Tryz.pinned (OpenSpec.ofChange equivalenceSearchesWrong)

/-- 'codewrightlaw31.EquivalenceChecks': WHATEVER THE INPUT: true; the input reads as it did. -/
def equivalenceChecksSpec : ChangeSpec := { name := "equivalenceChecks", fn := fun _ => fun
  | [d1, d2, d3] => { results := [.lit (.bool true)], args := [d1, d2, d3] }
  | _ => none }
def equivalenceChecksRow : OpenClaim := { program := "ytgdmlmhpineibaagreat", sum := "81d6d2c5a6b25da6b9389a52caa46db3ccaaa627b1f5347e23ada701419ffa98", func := "codewright/codewrightlaw31.EquivalenceChecks", spec := "equivalenceChecks", unfollowed := true, recurses := true, apart := false }
def EquivalenceChecksSaid : Prop := equivalenceChecksRow.holds Tryz.pinned (OpenSpec.ofChange equivalenceChecksSpec)

/-- ITS FALSE NEIGHBOUR: 'it returns false'. Refute it at one input. -/
def equivalenceChecksWrong : ChangeSpec := { name := "equivalenceChecks", fn := fun _ => fun
  | [d1, d2, d3] => { results := [.lit (.bool false)], args := [d1, d2, d3] }
  | _ => none }
def EquivalenceChecksWrongFalsely : Prop := equivalenceChecksRow.holds Tryz.pinned (OpenSpec.ofChange equivalenceChecksWrong)

/-- 'codewrightlaw31.EquivalenceSound': WHATEVER THE INPUT: true; the input reads as it did. -/
def equivalenceSoundSpec : ChangeSpec := { name := "equivalenceSound", fn := fun _ => fun
  | [d1, d2, d3] => { results := [.lit (.bool true)], args := [d1, d2, d3] }
  | _ => none }
def equivalenceSoundRow : OpenClaim := { program := "ytgdmlmhpineibaagreat", sum := "81d6d2c5a6b25da6b9389a52caa46db3ccaaa627b1f5347e23ada701419ffa98", func := "codewright/codewrightlaw31.EquivalenceSound", spec := "equivalenceSound", unfollowed := true, recurses := true, apart := false }
def EquivalenceSoundSaid : Prop := equivalenceSoundRow.holds Tryz.pinned (OpenSpec.ofChange equivalenceSoundSpec)

/-- ITS FALSE NEIGHBOUR: 'it returns false'. Refute it at one input. -/
def equivalenceSoundWrong : ChangeSpec := { name := "equivalenceSound", fn := fun _ => fun
  | [d1, d2, d3] => { results := [.lit (.bool false)], args := [d1, d2, d3] }
  | _ => none }
def EquivalenceSoundWrongFalsely : Prop := equivalenceSoundRow.holds Tryz.pinned (OpenSpec.ofChange equivalenceSoundWrong)

/-- 'codewrightlaw31.EquivalenceFound': WHATEVER THE INPUT: true; the input reads as it did. -/
def equivalenceFoundSpec : ChangeSpec := { name := "equivalenceFound", fn := fun _ => fun
  | [d1, d2, d3] => { results := [.lit (.bool true)], args := [d1, d2, d3] }
  | _ => none }
def equivalenceFoundRow : OpenClaim := { program := "ytgdmlmhpineibaagreat", sum := "81d6d2c5a6b25da6b9389a52caa46db3ccaaa627b1f5347e23ada701419ffa98", func := "codewright/codewrightlaw31.EquivalenceFound", spec := "equivalenceFound", unfollowed := true, recurses := true, apart := false }
def EquivalenceFoundSaid : Prop := equivalenceFoundRow.holds Tryz.pinned (OpenSpec.ofChange equivalenceFoundSpec)

/-- ITS FALSE NEIGHBOUR: 'it returns false'. Refute it at one input. -/
def equivalenceFoundWrong : ChangeSpec := { name := "equivalenceFound", fn := fun _ => fun
  | [d1, d2, d3] => { results := [.lit (.bool false)], args := [d1, d2, d3] }
  | _ => none }
def EquivalenceFoundWrongFalsely : Prop := equivalenceFoundRow.holds Tryz.pinned (OpenSpec.ofChange equivalenceFoundWrong)

/-- 'codewrightlaw31.EquivalenceDual': WHATEVER THE INPUT: true; the input reads as it did. -/
def equivalenceDualSpec : ChangeSpec := { name := "equivalenceDual", fn := fun _ => fun
  | [d1, d2] => { results := [.lit (.bool true)], args := [d1, d2] }
  | _ => none }
def equivalenceDualRow : OpenClaim := { program := "ytgdmlmhpineibaagreat", sum := "81d6d2c5a6b25da6b9389a52caa46db3ccaaa627b1f5347e23ada701419ffa98", func := "codewright/codewrightlaw31.EquivalenceDual", spec := "equivalenceDual", unfollowed := true, recurses := true, apart := false }
def EquivalenceDualSaid : Prop := equivalenceDualRow.holds Tryz.pinned (OpenSpec.ofChange equivalenceDualSpec)

/-- ITS FALSE NEIGHBOUR: 'it returns false'. Refute it at one input. -/
def equivalenceDualWrong : ChangeSpec := { name := "equivalenceDual", fn := fun _ => fun
  | [d1, d2] => { results := [.lit (.bool false)], args := [d1, d2] }
  | _ => none }
def EquivalenceDualWrongFalsely : Prop := equivalenceDualRow.holds Tryz.pinned (OpenSpec.ofChange equivalenceDualWrong)

/-- 'codewrightlaw31.EquivalenceImages': WHATEVER THE INPUT: true; the input reads as it did. -/
def equivalenceImagesSpec : ChangeSpec := { name := "equivalenceImages", fn := fun _ => fun
  | [d1, d2, d3] => { results := [.lit (.bool true)], args := [d1, d2, d3] }
  | _ => none }
def equivalenceImagesRow : OpenClaim := { program := "ytgdmlmhpineibaagreat", sum := "81d6d2c5a6b25da6b9389a52caa46db3ccaaa627b1f5347e23ada701419ffa98", func := "codewright/codewrightlaw31.EquivalenceImages", spec := "equivalenceImages", unfollowed := true, recurses := true, apart := false }
def EquivalenceImagesSaid : Prop := equivalenceImagesRow.holds Tryz.pinned (OpenSpec.ofChange equivalenceImagesSpec)

/-- ITS FALSE NEIGHBOUR: 'it returns false'. Refute it at one input. -/
def equivalenceImagesWrong : ChangeSpec := { name := "equivalenceImages", fn := fun _ => fun
  | [d1, d2, d3] => { results := [.lit (.bool false)], args := [d1, d2, d3] }
  | _ => none }
def EquivalenceImagesWrongFalsely : Prop := equivalenceImagesRow.holds Tryz.pinned (OpenSpec.ofChange equivalenceImagesWrong)

/- THE SECOND FORM. 'bulk': how many values and letters a reading holds, each counted each time it is reached (what is shared counts as often as it is met; a slice's spare places count too). A statement '..UptoSaid' is the law's where the arguments, and the package variables that the reading takes, are together of bulk at most 1048576: NARROWER than '..Said'. Prove '..Said' where nothing that the law and all that it calls make is longer than what came in: it says more and counts as full. Else prove '..UptoSaid'. A law counts once. -/
mutual
def uptoBulk {H : Type} : DataW H → Nat
  | .lit (.string bytes) => bytes.length + 1
  | .lit _ => 1
  | .nil => 1
  | .ptr d => uptoBulk d + 1
  | .slice elems spare => uptoBulkAll elems + uptoBulkAll spare + 1
  | .agg parts => uptoBulkAll parts + 1
  | .iface _ d => uptoBulk d + 1
  | .map entries => uptoBulkEntries entries + 1
  | .held _ => 1
def uptoBulkAll {H : Type} : List (DataW H) → Nat
  | [] => 0
  | d :: r => uptoBulk d + uptoBulkAll r
def uptoBulkEntries {H : Type} : List (Lit × DataW H) → Nat
  | [] => 0
  | x :: r => uptoBulkEntry x + uptoBulkEntries r
def uptoBulkEntry {H : Type} : Lit × DataW H → Nat
  | (.string bytes, d) => bytes.length + uptoBulk d + 1
  | (_, d) => uptoBulk d + 1
 end
def uptoSmall : (H : Type) → List (DataW H) → Bool := fun _ ds => decide (uptoBulkAll ds ≤ 1048576)
def OpenSpec.upto (s : _root_.Go.ChangeSpec) : _root_.Go.OpenSpec := { _root_.Go.OpenSpec.ofChange s with cond := some uptoSmall }

/-- 'codewrightlaw31.EquivalenceMaps', WHERE WHAT IT READS IS OF BULK AT MOST 1048576: true; the input reads as it did. -/
def equivalenceMapsUptoRow : OpenClaim := { program := "ytgdmlmhpineibaagreat", sum := "81d6d2c5a6b25da6b9389a52caa46db3ccaaa627b1f5347e23ada701419ffa98", func := "codewright/codewrightlaw31.EquivalenceMaps", spec := "equivalenceMaps", unfollowed := true, recurses := true, apart := false, narrowed := true }
def EquivalenceMapsUptoSaid : Prop := equivalenceMapsUptoRow.holds Tryz.pinned (OpenSpec.upto equivalenceMapsSpec)

/-- 'codewrightlaw31.EquivalenceComposes', WHERE WHAT IT READS IS OF BULK AT MOST 1048576: true; the input reads as it did. -/
def equivalenceComposesUptoRow : OpenClaim := { program := "ytgdmlmhpineibaagreat", sum := "81d6d2c5a6b25da6b9389a52caa46db3ccaaa627b1f5347e23ada701419ffa98", func := "codewright/codewrightlaw31.EquivalenceComposes", spec := "equivalenceComposes", unfollowed := true, recurses := true, apart := false, narrowed := true }
def EquivalenceComposesUptoSaid : Prop := equivalenceComposesUptoRow.holds Tryz.pinned (OpenSpec.upto equivalenceComposesSpec)

/-- 'codewrightlaw31.EquivalenceGroup', WHERE WHAT IT READS IS OF BULK AT MOST 1048576: true; the input reads as it did. -/
def equivalenceGroupUptoRow : OpenClaim := { program := "ytgdmlmhpineibaagreat", sum := "81d6d2c5a6b25da6b9389a52caa46db3ccaaa627b1f5347e23ada701419ffa98", func := "codewright/codewrightlaw31.EquivalenceGroup", spec := "equivalenceGroup", unfollowed := true, recurses := true, apart := false, narrowed := true }
def EquivalenceGroupUptoSaid : Prop := equivalenceGroupUptoRow.holds Tryz.pinned (OpenSpec.upto equivalenceGroupSpec)

/-- 'codewrightlaw31.EquivalenceSearches', WHERE WHAT IT READS IS OF BULK AT MOST 1048576: true; the input reads as it did. -/
def equivalenceSearchesUptoRow : OpenClaim := { program := "ytgdmlmhpineibaagreat", sum := "81d6d2c5a6b25da6b9389a52caa46db3ccaaa627b1f5347e23ada701419ffa98", func := "codewright/codewrightlaw31.EquivalenceSearches", spec := "equivalenceSearches", unfollowed := true, recurses := true, apart := false, narrowed := true }
def EquivalenceSearchesUptoSaid : Prop := equivalenceSearchesUptoRow.holds Tryz.pinned (OpenSpec.upto equivalenceSearchesSpec)

/-- 'codewrightlaw31.EquivalenceChecks', WHERE WHAT IT READS IS OF BULK AT MOST 1048576: true; the input reads as it did. -/
def equivalenceChecksUptoRow : OpenClaim := { program := "ytgdmlmhpineibaagreat", sum := "81d6d2c5a6b25da6b9389a52caa46db3ccaaa627b1f5347e23ada701419ffa98", func := "codewright/codewrightlaw31.EquivalenceChecks", spec := "equivalenceChecks", unfollowed := true, recurses := true, apart := false, narrowed := true }
def EquivalenceChecksUptoSaid : Prop := equivalenceChecksUptoRow.holds Tryz.pinned (OpenSpec.upto equivalenceChecksSpec)

/-- 'codewrightlaw31.EquivalenceSound', WHERE WHAT IT READS IS OF BULK AT MOST 1048576: true; the input reads as it did. -/
def equivalenceSoundUptoRow : OpenClaim := { program := "ytgdmlmhpineibaagreat", sum := "81d6d2c5a6b25da6b9389a52caa46db3ccaaa627b1f5347e23ada701419ffa98", func := "codewright/codewrightlaw31.EquivalenceSound", spec := "equivalenceSound", unfollowed := true, recurses := true, apart := false, narrowed := true }
def EquivalenceSoundUptoSaid : Prop := equivalenceSoundUptoRow.holds Tryz.pinned (OpenSpec.upto equivalenceSoundSpec)

/-- 'codewrightlaw31.EquivalenceFound', WHERE WHAT IT READS IS OF BULK AT MOST 1048576: true; the input reads as it did. -/
def equivalenceFoundUptoRow : OpenClaim := { program := "ytgdmlmhpineibaagreat", sum := "81d6d2c5a6b25da6b9389a52caa46db3ccaaa627b1f5347e23ada701419ffa98", func := "codewright/codewrightlaw31.EquivalenceFound", spec := "equivalenceFound", unfollowed := true, recurses := true, apart := false, narrowed := true }
def EquivalenceFoundUptoSaid : Prop := equivalenceFoundUptoRow.holds Tryz.pinned (OpenSpec.upto equivalenceFoundSpec)

/-- 'codewrightlaw31.EquivalenceDual', WHERE WHAT IT READS IS OF BULK AT MOST 1048576: true; the input reads as it did. -/
def equivalenceDualUptoRow : OpenClaim := { program := "ytgdmlmhpineibaagreat", sum := "81d6d2c5a6b25da6b9389a52caa46db3ccaaa627b1f5347e23ada701419ffa98", func := "codewright/codewrightlaw31.EquivalenceDual", spec := "equivalenceDual", unfollowed := true, recurses := true, apart := false, narrowed := true }
def EquivalenceDualUptoSaid : Prop := equivalenceDualUptoRow.holds Tryz.pinned (OpenSpec.upto equivalenceDualSpec)

/-- 'codewrightlaw31.EquivalenceImages', WHERE WHAT IT READS IS OF BULK AT MOST 1048576: true; the input reads as it did. -/
def equivalenceImagesUptoRow : OpenClaim := { program := "ytgdmlmhpineibaagreat", sum := "81d6d2c5a6b25da6b9389a52caa46db3ccaaa627b1f5347e23ada701419ffa98", func := "codewright/codewrightlaw31.EquivalenceImages", spec := "equivalenceImages", unfollowed := true, recurses := true, apart := false, narrowed := true }
def EquivalenceImagesUptoSaid : Prop := equivalenceImagesUptoRow.holds Tryz.pinned (OpenSpec.upto equivalenceImagesSpec)

end Rows
end Go.Proofs.YtgdmlmhpineibaaGreat
