/-
  No cell of these rows narrows 'for every input' (looked for: loops, veiled, ifaces, maps, wideKeys, modest, calm, conditions, laid).
  DERIVED. THE GIVEN ROWS OF THIS SEAT. 9 by the template 'for every input the law returns true; each argument reads behind the call as it read before'; 0 by the template 'total and deterministic' (their statements: YtgfdhclpffakfaaTotals.lean).
  GIVEN WITH THE SEED: the statements are not yours to turn. If you find one false, say at which input.
  Laid BY PROGRAM, IN A SANDBOX (cutbox-rows.mjs): the forced cells as the released guide's own fill.sh prints them over the translation d68c1f6a11e93356… (all of the seat's roots in one cut). By AI agents, Wed Nov 11 2026. No macro, syntax, notation, axiom, sorry.
-/
import Derived.Test.YtgfdhclpffakfaaChecked
import GoSem.Claim
import GoSem.ClaimJoined
import GoSem.ClaimMapViews
import Derived.JoinedTies
import Derived.KernelRfl
namespace Go.Proofs.Ytgfdhclpffakfaa
/- THE CELL 'sum', in the pinned program and in every row, IS THE sha256 OF THE DUMP (.gsa) THAT YtgfdhclpffakfaaProg.lean LOADS. Nothing in Lean hashes anything: it is a label: what it is worth is what the hold of that sum in a sandbox is worth. -/
noncomputable def Try.pinned : Pinned := { name := "ytgfdhclpffakfaa", sum := "d68c1f6a11e93356734acbc347322fbaf9a7f2ea291c7e07175a44bd5c3a33b6", checked := Try.checked }
namespace Rows
def none {H : Type} : Left H := { results := [], args := [] }

/-- 'codewrightlaw30.PermChecks': WHATEVER THE INPUT: true; the input reads as it did. -/
def permChecksSpec : ChangeSpec := { name := "permChecks", fn := fun _ => fun
  | [d1, d2] => { results := [.lit (.bool true)], args := [d1, d2] }
  | _ => none }
def permChecksRow : OpenClaim := { program := "ytgfdhclpffakfaa", sum := "d68c1f6a11e93356734acbc347322fbaf9a7f2ea291c7e07175a44bd5c3a33b6", func := "codewright/codewrightlaw30.PermChecks", spec := "permChecks", unfollowed := true, recurses := true, apart := false }
def PermChecksSaid : Prop := permChecksRow.holds Try.pinned (OpenSpec.ofChange permChecksSpec)

/-- ITS FALSE NEIGHBOUR: 'it returns false'. Refute it at one input. -/
def permChecksWrong : ChangeSpec := { name := "permChecks", fn := fun _ => fun
  | [d1, d2] => { results := [.lit (.bool false)], args := [d1, d2] }
  | _ => none }
def PermChecksWrongFalsely : Prop := permChecksRow.holds Try.pinned (OpenSpec.ofChange permChecksWrong)

/-- 'codewrightlaw30.PermGroup': WHATEVER THE INPUT: true; the input reads as it did. -/
def permGroupSpec : ChangeSpec := { name := "permGroup", fn := fun _ => fun
  | [d1, d2, d3] => { results := [.lit (.bool true)], args := [d1, d2, d3] }
  | _ => none }
def permGroupRow : OpenClaim := { program := "ytgfdhclpffakfaa", sum := "d68c1f6a11e93356734acbc347322fbaf9a7f2ea291c7e07175a44bd5c3a33b6", func := "codewright/codewrightlaw30.PermGroup", spec := "permGroup", unfollowed := true, recurses := true, apart := false }
def PermGroupSaid : Prop := permGroupRow.holds Try.pinned (OpenSpec.ofChange permGroupSpec)

/-- ITS FALSE NEIGHBOUR: 'it returns false'. Refute it at one input. -/
def permGroupWrong : ChangeSpec := { name := "permGroup", fn := fun _ => fun
  | [d1, d2, d3] => { results := [.lit (.bool false)], args := [d1, d2, d3] }
  | _ => none }
def PermGroupWrongFalsely : Prop := permGroupRow.holds Try.pinned (OpenSpec.ofChange permGroupWrong)

/-- 'codewrightlaw30.PermOrbits': WHATEVER THE INPUT: true; the input reads as it did. -/
def permOrbitsSpec : ChangeSpec := { name := "permOrbits", fn := fun _ => fun
  | [d1, d2] => { results := [.lit (.bool true)], args := [d1, d2] }
  | _ => none }
def permOrbitsRow : OpenClaim := { program := "ytgfdhclpffakfaa", sum := "d68c1f6a11e93356734acbc347322fbaf9a7f2ea291c7e07175a44bd5c3a33b6", func := "codewright/codewrightlaw30.PermOrbits", spec := "permOrbits", unfollowed := true, recurses := true, apart := false }
def PermOrbitsSaid : Prop := permOrbitsRow.holds Try.pinned (OpenSpec.ofChange permOrbitsSpec)

/-- ITS FALSE NEIGHBOUR: 'it returns false'. Refute it at one input. -/
def permOrbitsWrong : ChangeSpec := { name := "permOrbits", fn := fun _ => fun
  | [d1, d2] => { results := [.lit (.bool false)], args := [d1, d2] }
  | _ => none }
def PermOrbitsWrongFalsely : Prop := permOrbitsRow.holds Try.pinned (OpenSpec.ofChange permOrbitsWrong)

/-- 'codewrightlaw30.PermBuild': WHATEVER THE INPUT: true; the input reads as it did. -/
def permBuildSpec : ChangeSpec := { name := "permBuild", fn := fun _ => fun
  | [d1, d2] => { results := [.lit (.bool true)], args := [d1, d2] }
  | _ => none }
def permBuildRow : OpenClaim := { program := "ytgfdhclpffakfaa", sum := "d68c1f6a11e93356734acbc347322fbaf9a7f2ea291c7e07175a44bd5c3a33b6", func := "codewright/codewrightlaw30.PermBuild", spec := "permBuild", unfollowed := true, recurses := true, apart := false }
def PermBuildSaid : Prop := permBuildRow.holds Try.pinned (OpenSpec.ofChange permBuildSpec)

/-- ITS FALSE NEIGHBOUR: 'it returns false'. Refute it at one input. -/
def permBuildWrong : ChangeSpec := { name := "permBuild", fn := fun _ => fun
  | [d1, d2] => { results := [.lit (.bool false)], args := [d1, d2] }
  | _ => none }
def PermBuildWrongFalsely : Prop := permBuildRow.holds Try.pinned (OpenSpec.ofChange permBuildWrong)

/-- 'codewrightlaw30.PermChains': WHATEVER THE INPUT: true; the input reads as it did. -/
def permChainsSpec : ChangeSpec := { name := "permChains", fn := fun _ => fun
  | [d] => { results := [.lit (.bool true)], args := [d] }
  | _ => none }
def permChainsRow : OpenClaim := { program := "ytgfdhclpffakfaa", sum := "d68c1f6a11e93356734acbc347322fbaf9a7f2ea291c7e07175a44bd5c3a33b6", func := "codewright/codewrightlaw30.PermChains", spec := "permChains", unfollowed := true, recurses := true, apart := false }
def PermChainsSaid : Prop := permChainsRow.holds Try.pinned (OpenSpec.ofChange permChainsSpec)

/-- ITS FALSE NEIGHBOUR: 'it returns false'. Refute it at one input. -/
def permChainsWrong : ChangeSpec := { name := "permChains", fn := fun _ => fun
  | [d] => { results := [.lit (.bool false)], args := [d] }
  | _ => none }
def PermChainsWrongFalsely : Prop := permChainsRow.holds Try.pinned (OpenSpec.ofChange permChainsWrong)

/-- 'codewrightlaw30.PermSifts': WHATEVER THE INPUT: true; the input reads as it did. -/
def permSiftsSpec : ChangeSpec := { name := "permSifts", fn := fun _ => fun
  | [d1, d2] => { results := [.lit (.bool true)], args := [d1, d2] }
  | _ => none }
def permSiftsRow : OpenClaim := { program := "ytgfdhclpffakfaa", sum := "d68c1f6a11e93356734acbc347322fbaf9a7f2ea291c7e07175a44bd5c3a33b6", func := "codewright/codewrightlaw30.PermSifts", spec := "permSifts", unfollowed := true, recurses := true, apart := false }
def PermSiftsSaid : Prop := permSiftsRow.holds Try.pinned (OpenSpec.ofChange permSiftsSpec)

/-- ITS FALSE NEIGHBOUR: 'it returns false'. Refute it at one input. -/
def permSiftsWrong : ChangeSpec := { name := "permSifts", fn := fun _ => fun
  | [d1, d2] => { results := [.lit (.bool false)], args := [d1, d2] }
  | _ => none }
def PermSiftsWrongFalsely : Prop := permSiftsRow.holds Try.pinned (OpenSpec.ofChange permSiftsWrong)

/-- 'codewrightlaw30.PermMembers': WHATEVER THE INPUT: true; the input reads as it did. -/
def permMembersSpec : ChangeSpec := { name := "permMembers", fn := fun _ => fun
  | [d1, d2, d3] => { results := [.lit (.bool true)], args := [d1, d2, d3] }
  | _ => none }
def permMembersRow : OpenClaim := { program := "ytgfdhclpffakfaa", sum := "d68c1f6a11e93356734acbc347322fbaf9a7f2ea291c7e07175a44bd5c3a33b6", func := "codewright/codewrightlaw30.PermMembers", spec := "permMembers", unfollowed := true, recurses := true, apart := false }
def PermMembersSaid : Prop := permMembersRow.holds Try.pinned (OpenSpec.ofChange permMembersSpec)

/-- ITS FALSE NEIGHBOUR: 'it returns false'. Refute it at one input. -/
def permMembersWrong : ChangeSpec := { name := "permMembers", fn := fun _ => fun
  | [d1, d2, d3] => { results := [.lit (.bool false)], args := [d1, d2, d3] }
  | _ => none }
def PermMembersWrongFalsely : Prop := permMembersRow.holds Try.pinned (OpenSpec.ofChange permMembersWrong)

/-- 'codewrightlaw30.PermCanonical': WHATEVER THE INPUT: true; the input reads as it did. -/
def permCanonicalSpec : ChangeSpec := { name := "permCanonical", fn := fun _ => fun
  | [d1, d2, d3] => { results := [.lit (.bool true)], args := [d1, d2, d3] }
  | _ => none }
def permCanonicalRow : OpenClaim := { program := "ytgfdhclpffakfaa", sum := "d68c1f6a11e93356734acbc347322fbaf9a7f2ea291c7e07175a44bd5c3a33b6", func := "codewright/codewrightlaw30.PermCanonical", spec := "permCanonical", unfollowed := true, recurses := true, apart := false }
def PermCanonicalSaid : Prop := permCanonicalRow.holds Try.pinned (OpenSpec.ofChange permCanonicalSpec)

/-- ITS FALSE NEIGHBOUR: 'it returns false'. Refute it at one input. -/
def permCanonicalWrong : ChangeSpec := { name := "permCanonical", fn := fun _ => fun
  | [d1, d2, d3] => { results := [.lit (.bool false)], args := [d1, d2, d3] }
  | _ => none }
def PermCanonicalWrongFalsely : Prop := permCanonicalRow.holds Try.pinned (OpenSpec.ofChange permCanonicalWrong)

/-- 'codewrightlaw30.PermStabilizers': WHATEVER THE INPUT: true; the input reads as it did. -/
def permStabilizersSpec : ChangeSpec := { name := "permStabilizers", fn := fun _ => fun
  | [d1, d2] => { results := [.lit (.bool true)], args := [d1, d2] }
  | _ => none }
def permStabilizersRow : OpenClaim := { program := "ytgfdhclpffakfaa", sum := "d68c1f6a11e93356734acbc347322fbaf9a7f2ea291c7e07175a44bd5c3a33b6", func := "codewright/codewrightlaw30.PermStabilizers", spec := "permStabilizers", unfollowed := true, recurses := true, apart := false }
def PermStabilizersSaid : Prop := permStabilizersRow.holds Try.pinned (OpenSpec.ofChange permStabilizersSpec)

/-- ITS FALSE NEIGHBOUR: 'it returns false'. Refute it at one input. -/
def permStabilizersWrong : ChangeSpec := { name := "permStabilizers", fn := fun _ => fun
  | [d1, d2] => { results := [.lit (.bool false)], args := [d1, d2] }
  | _ => none }
def PermStabilizersWrongFalsely : Prop := permStabilizersRow.holds Try.pinned (OpenSpec.ofChange permStabilizersWrong)

/- THE SECOND FORM. 'bulk': how many values and letters a reading holds, each counted each time it is reached (what is shared counts as often as it is met; a slice's spare places count too). A statement '..UptoSaid' is the law's where the arguments, and the package variables that the reading takes, are together of bulk at most 1048576: NARROWER than '..Said'. Prove '..Said' where nothing that the law and all that it calls make is longer than what came in: it says more and counts as full. Else prove '..UptoSaid'. A law counts once. -/
mutual
def uptoBulk {H : Type} : DataW H → Nat
  | .lit (.string bytes) => bytes.length + 1
  | .lit _ => 1
  | .nil => 1
  | .ptr d => uptoBulk d + 1
  | .slice elems spare => uptoBulkAll elems + uptoBulkAll spare + 1
  | .agg parts => uptoBulkAll parts + 1
  | .iface _ d => uptoBulk d + 1
  | .map entries => uptoBulkEntries entries + 1
  | .held _ => 1
def uptoBulkAll {H : Type} : List (DataW H) → Nat
  | [] => 0
  | d :: r => uptoBulk d + uptoBulkAll r
def uptoBulkEntries {H : Type} : List (Lit × DataW H) → Nat
  | [] => 0
  | x :: r => uptoBulkEntry x + uptoBulkEntries r
def uptoBulkEntry {H : Type} : Lit × DataW H → Nat
  | (.string bytes, d) => bytes.length + uptoBulk d + 1
  | (_, d) => uptoBulk d + 1
 end
def uptoSmall : (H : Type) → List (DataW H) → Bool := fun _ ds => decide (uptoBulkAll ds ≤ 1048576)
def OpenSpec.upto (s : _root_.Go.ChangeSpec) : _root_.Go.OpenSpec := { _root_.Go.OpenSpec.ofChange s with cond := some uptoSmall }

/-- 'codewrightlaw30.PermChecks', WHERE WHAT IT READS IS OF BULK AT MOST 1048576: true; the input reads as it did. -/
def permChecksUptoRow : OpenClaim := { program := "ytgfdhclpffakfaa", sum := "d68c1f6a11e93356734acbc347322fbaf9a7f2ea291c7e07175a44bd5c3a33b6", func := "codewright/codewrightlaw30.PermChecks", spec := "permChecks", unfollowed := true, recurses := true, apart := false, narrowed := true }
def PermChecksUptoSaid : Prop := permChecksUptoRow.holds Try.pinned (OpenSpec.upto permChecksSpec)

/-- 'codewrightlaw30.PermGroup', WHERE WHAT IT READS IS OF BULK AT MOST 1048576: true; the input reads as it did. -/
def permGroupUptoRow : OpenClaim := { program := "ytgfdhclpffakfaa", sum := "d68c1f6a11e93356734acbc347322fbaf9a7f2ea291c7e07175a44bd5c3a33b6", func := "codewright/codewrightlaw30.PermGroup", spec := "permGroup", unfollowed := true, recurses := true, apart := false, narrowed := true }
def PermGroupUptoSaid : Prop := permGroupUptoRow.holds Try.pinned (OpenSpec.upto permGroupSpec)

/-- 'codewrightlaw30.PermOrbits', WHERE WHAT IT READS IS OF BULK AT MOST 1048576: true; the input reads as it did. -/
def permOrbitsUptoRow : OpenClaim := { program := "ytgfdhclpffakfaa", sum := "d68c1f6a11e93356734acbc347322fbaf9a7f2ea291c7e07175a44bd5c3a33b6", func := "codewright/codewrightlaw30.PermOrbits", spec := "permOrbits", unfollowed := true, recurses := true, apart := false, narrowed := true }
def PermOrbitsUptoSaid : Prop := permOrbitsUptoRow.holds Try.pinned (OpenSpec.upto permOrbitsSpec)

/-- 'codewrightlaw30.PermBuild', WHERE WHAT IT READS IS OF BULK AT MOST 1048576: true; the input reads as it did. -/
def permBuildUptoRow : OpenClaim := { program := "ytgfdhclpffakfaa", sum := "d68c1f6a11e93356734acbc347322fbaf9a7f2ea291c7e07175a44bd5c3a33b6", func := "codewright/codewrightlaw30.PermBuild", spec := "permBuild", unfollowed := true, recurses := true, apart := false, narrowed := true }
def PermBuildUptoSaid : Prop := permBuildUptoRow.holds Try.pinned (OpenSpec.upto permBuildSpec)

/-- 'codewrightlaw30.PermChains', WHERE WHAT IT READS IS OF BULK AT MOST 1048576: true; the input reads as it did. -/
def permChainsUptoRow : OpenClaim := { program := "ytgfdhclpffakfaa", sum := "d68c1f6a11e93356734acbc347322fbaf9a7f2ea291c7e07175a44bd5c3a33b6", func := "codewright/codewrightlaw30.PermChains", spec := "permChains", unfollowed := true, recurses := true, apart := false, narrowed := true }
def PermChainsUptoSaid : Prop := permChainsUptoRow.holds Try.pinned (OpenSpec.upto permChainsSpec)

/-- 'codewrightlaw30.PermSifts', WHERE WHAT IT READS IS OF BULK AT MOST 1048576: true; the input reads as it did. -/
def permSiftsUptoRow : OpenClaim := { program := "ytgfdhclpffakfaa", sum := "d68c1f6a11e93356734acbc347322fbaf9a7f2ea291c7e07175a44bd5c3a33b6", func := "codewright/codewrightlaw30.PermSifts", spec := "permSifts", unfollowed := true, recurses := true, apart := false, narrowed := true }
def PermSiftsUptoSaid : Prop := permSiftsUptoRow.holds Try.pinned (OpenSpec.upto permSiftsSpec)

/-- 'codewrightlaw30.PermMembers', WHERE WHAT IT READS IS OF BULK AT MOST 1048576: true; the input reads as it did. -/
def permMembersUptoRow : OpenClaim := { program := "ytgfdhclpffakfaa", sum := "d68c1f6a11e93356734acbc347322fbaf9a7f2ea291c7e07175a44bd5c3a33b6", func := "codewright/codewrightlaw30.PermMembers", spec := "permMembers", unfollowed := true, recurses := true, apart := false, narrowed := true }
def PermMembersUptoSaid : Prop := permMembersUptoRow.holds Try.pinned (OpenSpec.upto permMembersSpec)

/-- 'codewrightlaw30.PermCanonical', WHERE WHAT IT READS IS OF BULK AT MOST 1048576: true; the input reads as it did. -/
def permCanonicalUptoRow : OpenClaim := { program := "ytgfdhclpffakfaa", sum := "d68c1f6a11e93356734acbc347322fbaf9a7f2ea291c7e07175a44bd5c3a33b6", func := "codewright/codewrightlaw30.PermCanonical", spec := "permCanonical", unfollowed := true, recurses := true, apart := false, narrowed := true }
def PermCanonicalUptoSaid : Prop := permCanonicalUptoRow.holds Try.pinned (OpenSpec.upto permCanonicalSpec)

/-- 'codewrightlaw30.PermStabilizers', WHERE WHAT IT READS IS OF BULK AT MOST 1048576: true; the input reads as it did. -/
def permStabilizersUptoRow : OpenClaim := { program := "ytgfdhclpffakfaa", sum := "d68c1f6a11e93356734acbc347322fbaf9a7f2ea291c7e07175a44bd5c3a33b6", func := "codewright/codewrightlaw30.PermStabilizers", spec := "permStabilizers", unfollowed := true, recurses := true, apart := false, narrowed := true }
def PermStabilizersUptoSaid : Prop := permStabilizersUptoRow.holds Try.pinned (OpenSpec.upto permStabilizersSpec)

end Rows
end Go.Proofs.Ytgfdhclpffakfaa
