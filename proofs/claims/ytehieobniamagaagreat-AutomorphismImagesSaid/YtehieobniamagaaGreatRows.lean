/-
  No cell of these rows narrows 'for every input' (looked for: loops, veiled, ifaces, maps, wideKeys, modest, calm, conditions, laid).
  DERIVED. THE GIVEN ROWS OF THIS SEAT. 10 by the template 'for every input the law returns true; each argument reads behind the call as it read before'; 0 by the template 'total and deterministic' (their statements: YtehieobniamagaaGreatTotals.lean).
  GIVEN WITH THE SEED: the statements are not yours to turn. If you find one false, say at which input.
  Laid BY PROGRAM, IN A SANDBOX (cutbox-rows.mjs): the forced cells as the released guide's own fill.sh prints them over the translation f589852eff0838e7… (all of the seat's roots in one cut). By AI agents, Wed Nov 11 2026. No macro, syntax, notation, axiom, sorry.
-/
import Derived.Test.YtehieobniamagaaGreatChecked
import GoSem.Claim
import GoSem.ClaimJoined
import GoSem.ClaimMapViews
import Derived.JoinedTies
import Derived.KernelRfl
namespace Go.Proofs.YtehieobniamagaaGreat
/- THE CELL 'sum', in the pinned program and in every row, IS THE sha256 OF THE DUMP (.gsa) THAT YtehieobniamagaaGreatProg.lean LOADS. Nothing in Lean hashes anything: it is a label: what it is worth is what the hold of that sum in a sandbox is worth. -/
noncomputable def Tryz.pinned : Pinned := { name := "ytehieobniamagaagreat", sum := "f589852eff0838e750c85b249214de56a1752761b7832c7ec116d4e7cc364789", checked := Tryz.checked }
namespace Rows
def none {H : Type} : Left H := { results := [], args := [] }

/-- 'codewrightlaw32.AutomorphismPoints': WHATEVER THE INPUT: true; the input reads as it did. -/
def automorphismPointsSpec : ChangeSpec := { name := "automorphismPoints", fn := fun _ => fun
  | [d1, d2, d3] => { results := [.lit (.bool true)], args := [d1, d2, d3] }
  | _ => none }
def automorphismPointsRow : OpenClaim := { program := "ytehieobniamagaagreat", sum := "f589852eff0838e750c85b249214de56a1752761b7832c7ec116d4e7cc364789", func := "codewright/codewrightlaw32.AutomorphismPoints", spec := "automorphismPoints", unfollowed := true, recurses := true, apart := false }
def AutomorphismPointsSaid : Prop := automorphismPointsRow.holds Tryz.pinned (OpenSpec.ofChange automorphismPointsSpec)

/-- ITS FALSE NEIGHBOUR: 'it returns false'. Refute it at one input. -/
def automorphismPointsWrong : ChangeSpec := { name := "automorphismPoints", fn := fun _ => fun
  | [d1, d2, d3] => { results := [.lit (.bool false)], args := [d1, d2, d3] }
  | _ => none }
def AutomorphismPointsWrongFalsely : Prop := automorphismPointsRow.holds Tryz.pinned (OpenSpec.ofChange automorphismPointsWrong)

/-- 'codewrightlaw32.AutomorphismGroups': WHATEVER THE INPUT: true; the input reads as it did. -/
def automorphismGroupsSpec : ChangeSpec := { name := "automorphismGroups", fn := fun _ => fun
  | [d] => { results := [.lit (.bool true)], args := [d] }
  | _ => none }
def automorphismGroupsRow : OpenClaim := { program := "ytehieobniamagaagreat", sum := "f589852eff0838e750c85b249214de56a1752761b7832c7ec116d4e7cc364789", func := "codewright/codewrightlaw32.AutomorphismGroups", spec := "automorphismGroups", unfollowed := true, recurses := true, apart := false }
def AutomorphismGroupsSaid : Prop := automorphismGroupsRow.holds Tryz.pinned (OpenSpec.ofChange automorphismGroupsSpec)

/-- ITS FALSE NEIGHBOUR: 'it returns false'. Refute it at one input. -/
def automorphismGroupsWrong : ChangeSpec := { name := "automorphismGroups", fn := fun _ => fun
  | [d] => { results := [.lit (.bool false)], args := [d] }
  | _ => none }
def AutomorphismGroupsWrongFalsely : Prop := automorphismGroupsRow.holds Tryz.pinned (OpenSpec.ofChange automorphismGroupsWrong)

/-- 'codewrightlaw32.AutomorphismChecks': WHATEVER THE INPUT: true; the input reads as it did. -/
def automorphismChecksSpec : ChangeSpec := { name := "automorphismChecks", fn := fun _ => fun
  | [d1, d2] => { results := [.lit (.bool true)], args := [d1, d2] }
  | _ => none }
def automorphismChecksRow : OpenClaim := { program := "ytehieobniamagaagreat", sum := "f589852eff0838e750c85b249214de56a1752761b7832c7ec116d4e7cc364789", func := "codewright/codewrightlaw32.AutomorphismChecks", spec := "automorphismChecks", unfollowed := true, recurses := true, apart := false }
def AutomorphismChecksSaid : Prop := automorphismChecksRow.holds Tryz.pinned (OpenSpec.ofChange automorphismChecksSpec)

/-- ITS FALSE NEIGHBOUR: 'it returns false'. Refute it at one input. -/
def automorphismChecksWrong : ChangeSpec := { name := "automorphismChecks", fn := fun _ => fun
  | [d1, d2] => { results := [.lit (.bool false)], args := [d1, d2] }
  | _ => none }
def AutomorphismChecksWrongFalsely : Prop := automorphismChecksRow.holds Tryz.pinned (OpenSpec.ofChange automorphismChecksWrong)

/-- 'codewrightlaw32.AutomorphismCertify': WHATEVER THE INPUT: true; the input reads as it did. -/
def automorphismCertifySpec : ChangeSpec := { name := "automorphismCertify", fn := fun _ => fun
  | [d] => { results := [.lit (.bool true)], args := [d] }
  | _ => none }
def automorphismCertifyRow : OpenClaim := { program := "ytehieobniamagaagreat", sum := "f589852eff0838e750c85b249214de56a1752761b7832c7ec116d4e7cc364789", func := "codewright/codewrightlaw32.AutomorphismCertify", spec := "automorphismCertify", unfollowed := true, recurses := true, apart := false }
def AutomorphismCertifySaid : Prop := automorphismCertifyRow.holds Tryz.pinned (OpenSpec.ofChange automorphismCertifySpec)

/-- ITS FALSE NEIGHBOUR: 'it returns false'. Refute it at one input. -/
def automorphismCertifyWrong : ChangeSpec := { name := "automorphismCertify", fn := fun _ => fun
  | [d] => { results := [.lit (.bool false)], args := [d] }
  | _ => none }
def AutomorphismCertifyWrongFalsely : Prop := automorphismCertifyRow.holds Tryz.pinned (OpenSpec.ofChange automorphismCertifyWrong)

/-- 'codewrightlaw32.AutomorphismImages': WHATEVER THE INPUT: true; the input reads as it did. -/
def automorphismImagesSpec : ChangeSpec := { name := "automorphismImages", fn := fun _ => fun
  | [d] => { results := [.lit (.bool true)], args := [d] }
  | _ => none }
def automorphismImagesRow : OpenClaim := { program := "ytehieobniamagaagreat", sum := "f589852eff0838e750c85b249214de56a1752761b7832c7ec116d4e7cc364789", func := "codewright/codewrightlaw32.AutomorphismImages", spec := "automorphismImages", unfollowed := true, recurses := true, apart := false }
def AutomorphismImagesSaid : Prop := automorphismImagesRow.holds Tryz.pinned (OpenSpec.ofChange automorphismImagesSpec)

/-- ITS FALSE NEIGHBOUR: 'it returns false'. Refute it at one input. -/
def automorphismImagesWrong : ChangeSpec := { name := "automorphismImages", fn := fun _ => fun
  | [d] => { results := [.lit (.bool false)], args := [d] }
  | _ => none }
def AutomorphismImagesWrongFalsely : Prop := automorphismImagesRow.holds Tryz.pinned (OpenSpec.ofChange automorphismImagesWrong)

/-- 'codewrightlaw32.AutomorphismMembers': WHATEVER THE INPUT: true; the input reads as it did. -/
def automorphismMembersSpec : ChangeSpec := { name := "automorphismMembers", fn := fun _ => fun
  | [d1, d2] => { results := [.lit (.bool true)], args := [d1, d2] }
  | _ => none }
def automorphismMembersRow : OpenClaim := { program := "ytehieobniamagaagreat", sum := "f589852eff0838e750c85b249214de56a1752761b7832c7ec116d4e7cc364789", func := "codewright/codewrightlaw32.AutomorphismMembers", spec := "automorphismMembers", unfollowed := true, recurses := true, apart := false }
def AutomorphismMembersSaid : Prop := automorphismMembersRow.holds Tryz.pinned (OpenSpec.ofChange automorphismMembersSpec)

/-- ITS FALSE NEIGHBOUR: 'it returns false'. Refute it at one input. -/
def automorphismMembersWrong : ChangeSpec := { name := "automorphismMembers", fn := fun _ => fun
  | [d1, d2] => { results := [.lit (.bool false)], args := [d1, d2] }
  | _ => none }
def AutomorphismMembersWrongFalsely : Prop := automorphismMembersRow.holds Tryz.pinned (OpenSpec.ofChange automorphismMembersWrong)

/-- 'codewrightlaw32.AutomorphismSound': WHATEVER THE INPUT: true; the input reads as it did. -/
def automorphismSoundSpec : ChangeSpec := { name := "automorphismSound", fn := fun _ => fun
  | [d1, d2, d3] => { results := [.lit (.bool true)], args := [d1, d2, d3] }
  | _ => none }
def automorphismSoundRow : OpenClaim := { program := "ytehieobniamagaagreat", sum := "f589852eff0838e750c85b249214de56a1752761b7832c7ec116d4e7cc364789", func := "codewright/codewrightlaw32.AutomorphismSound", spec := "automorphismSound", unfollowed := true, recurses := true, apart := false }
def AutomorphismSoundSaid : Prop := automorphismSoundRow.holds Tryz.pinned (OpenSpec.ofChange automorphismSoundSpec)

/-- ITS FALSE NEIGHBOUR: 'it returns false'. Refute it at one input. -/
def automorphismSoundWrong : ChangeSpec := { name := "automorphismSound", fn := fun _ => fun
  | [d1, d2, d3] => { results := [.lit (.bool false)], args := [d1, d2, d3] }
  | _ => none }
def AutomorphismSoundWrongFalsely : Prop := automorphismSoundRow.holds Tryz.pinned (OpenSpec.ofChange automorphismSoundWrong)

/-- 'codewrightlaw32.AutomorphismDual': WHATEVER THE INPUT: true; the input reads as it did. -/
def automorphismDualSpec : ChangeSpec := { name := "automorphismDual", fn := fun _ => fun
  | [d] => { results := [.lit (.bool true)], args := [d] }
  | _ => none }
def automorphismDualRow : OpenClaim := { program := "ytehieobniamagaagreat", sum := "f589852eff0838e750c85b249214de56a1752761b7832c7ec116d4e7cc364789", func := "codewright/codewrightlaw32.AutomorphismDual", spec := "automorphismDual", unfollowed := true, recurses := true, apart := false }
def AutomorphismDualSaid : Prop := automorphismDualRow.holds Tryz.pinned (OpenSpec.ofChange automorphismDualSpec)

/-- ITS FALSE NEIGHBOUR: 'it returns false'. Refute it at one input. -/
def automorphismDualWrong : ChangeSpec := { name := "automorphismDual", fn := fun _ => fun
  | [d] => { results := [.lit (.bool false)], args := [d] }
  | _ => none }
def AutomorphismDualWrongFalsely : Prop := automorphismDualRow.holds Tryz.pinned (OpenSpec.ofChange automorphismDualWrong)

/-- 'codewrightlaw32.AutomorphismAction': WHATEVER THE INPUT: true; the input reads as it did. -/
def automorphismActionSpec : ChangeSpec := { name := "automorphismAction", fn := fun _ => fun
  | [d1, d2, d3] => { results := [.lit (.bool true)], args := [d1, d2, d3] }
  | _ => none }
def automorphismActionRow : OpenClaim := { program := "ytehieobniamagaagreat", sum := "f589852eff0838e750c85b249214de56a1752761b7832c7ec116d4e7cc364789", func := "codewright/codewrightlaw32.AutomorphismAction", spec := "automorphismAction", unfollowed := true, recurses := true, apart := false }
def AutomorphismActionSaid : Prop := automorphismActionRow.holds Tryz.pinned (OpenSpec.ofChange automorphismActionSpec)

/-- ITS FALSE NEIGHBOUR: 'it returns false'. Refute it at one input. -/
def automorphismActionWrong : ChangeSpec := { name := "automorphismAction", fn := fun _ => fun
  | [d1, d2, d3] => { results := [.lit (.bool false)], args := [d1, d2, d3] }
  | _ => none }
def AutomorphismActionWrongFalsely : Prop := automorphismActionRow.holds Tryz.pinned (OpenSpec.ofChange automorphismActionWrong)

/-- 'codewrightlaw32.AutomorphismConjugates': WHATEVER THE INPUT: true; the input reads as it did. -/
def automorphismConjugatesSpec : ChangeSpec := { name := "automorphismConjugates", fn := fun _ => fun
  | [d1, d2] => { results := [.lit (.bool true)], args := [d1, d2] }
  | _ => none }
def automorphismConjugatesRow : OpenClaim := { program := "ytehieobniamagaagreat", sum := "f589852eff0838e750c85b249214de56a1752761b7832c7ec116d4e7cc364789", func := "codewright/codewrightlaw32.AutomorphismConjugates", spec := "automorphismConjugates", unfollowed := true, recurses := true, apart := false }
def AutomorphismConjugatesSaid : Prop := automorphismConjugatesRow.holds Tryz.pinned (OpenSpec.ofChange automorphismConjugatesSpec)

/-- ITS FALSE NEIGHBOUR: 'it returns false'. Refute it at one input. -/
def automorphismConjugatesWrong : ChangeSpec := { name := "automorphismConjugates", fn := fun _ => fun
  | [d1, d2] => { results := [.lit (.bool false)], args := [d1, d2] }
  | _ => none }
def AutomorphismConjugatesWrongFalsely : Prop := automorphismConjugatesRow.holds Tryz.pinned (OpenSpec.ofChange automorphismConjugatesWrong)

/- THE SECOND FORM. 'bulk': how many values and letters a reading holds, each counted each time it is reached (what is shared counts as often as it is met; a slice's spare places count too). A statement '..UptoSaid' is the law's where the arguments, and the package variables that the reading takes, are together of bulk at most 1048576: NARROWER than '..Said'. Prove '..Said' where nothing that the law and all that it calls make is longer than what came in: it says more and counts as full. Else prove '..UptoSaid'. A law counts once. -/
mutual
def uptoBulk {H : Type} : DataW H → Nat
  | .lit (.string bytes) => bytes.length + 1
  | .lit _ => 1
  | .nil => 1
  | .ptr d => uptoBulk d + 1
  | .slice elems spare => uptoBulkAll elems + uptoBulkAll spare + 1
  | .agg parts => uptoBulkAll parts + 1
  | .iface _ d => uptoBulk d + 1
  | .map entries => uptoBulkEntries entries + 1
  | .held _ => 1
def uptoBulkAll {H : Type} : List (DataW H) → Nat
  | [] => 0
  | d :: r => uptoBulk d + uptoBulkAll r
def uptoBulkEntries {H : Type} : List (Lit × DataW H) → Nat
  | [] => 0
  | x :: r => uptoBulkEntry x + uptoBulkEntries r
def uptoBulkEntry {H : Type} : Lit × DataW H → Nat
  | (.string bytes, d) => bytes.length + uptoBulk d + 1
  | (_, d) => uptoBulk d + 1
 end
def uptoSmall : (H : Type) → List (DataW H) → Bool := fun _ ds => decide (uptoBulkAll ds ≤ 1048576)
def OpenSpec.upto (s : _root_.Go.ChangeSpec) : _root_.Go.OpenSpec := { _root_.Go.OpenSpec.ofChange s with cond := some uptoSmall }

/-- 'codewrightlaw32.AutomorphismPoints', WHERE WHAT IT READS IS OF BULK AT MOST 1048576: true; the input reads as it did. -/
def automorphismPointsUptoRow : OpenClaim := { program := "ytehieobniamagaagreat", sum := "f589852eff0838e750c85b249214de56a1752761b7832c7ec116d4e7cc364789", func := "codewright/codewrightlaw32.AutomorphismPoints", spec := "automorphismPoints", unfollowed := true, recurses := true, apart := false, narrowed := true }
def AutomorphismPointsUptoSaid : Prop := automorphismPointsUptoRow.holds Tryz.pinned (OpenSpec.upto automorphismPointsSpec)

/-- 'codewrightlaw32.AutomorphismGroups', WHERE WHAT IT READS IS OF BULK AT MOST 1048576: true; the input reads as it did. -/
def automorphismGroupsUptoRow : OpenClaim := { program := "ytehieobniamagaagreat", sum := "f589852eff0838e750c85b249214de56a1752761b7832c7ec116d4e7cc364789", func := "codewright/codewrightlaw32.AutomorphismGroups", spec := "automorphismGroups", unfollowed := true, recurses := true, apart := false, narrowed := true }
def AutomorphismGroupsUptoSaid : Prop := automorphismGroupsUptoRow.holds Tryz.pinned (OpenSpec.upto automorphismGroupsSpec)

/-- 'codewrightlaw32.AutomorphismChecks', WHERE WHAT IT READS IS OF BULK AT MOST 1048576: true; the input reads as it did. -/
def automorphismChecksUptoRow : OpenClaim := { program := "ytehieobniamagaagreat", sum := "f589852eff0838e750c85b249214de56a1752761b7832c7ec116d4e7cc364789", func := "codewright/codewrightlaw32.AutomorphismChecks", spec := "automorphismChecks", unfollowed := true, recurses := true, apart := false, narrowed := true }
def AutomorphismChecksUptoSaid : Prop := automorphismChecksUptoRow.holds Tryz.pinned (OpenSpec.upto automorphismChecksSpec)

/-- 'codewrightlaw32.AutomorphismCertify', WHERE WHAT IT READS IS OF BULK AT MOST 1048576: true; the input reads as it did. -/
def automorphismCertifyUptoRow : OpenClaim := { program := "ytehieobniamagaagreat", sum := "f589852eff0838e750c85b249214de56a1752761b7832c7ec116d4e7cc364789", func := "codewright/codewrightlaw32.AutomorphismCertify", spec := "automorphismCertify", unfollowed := true, recurses := true, apart := false, narrowed := true }
def AutomorphismCertifyUptoSaid : Prop := automorphismCertifyUptoRow.holds Tryz.pinned (OpenSpec.upto automorphismCertifySpec)

/-- 'codewrightlaw32.AutomorphismImages', WHERE WHAT IT READS IS OF BULK AT MOST 1048576: true; the input reads as it did. -/
def automorphismImagesUptoRow : OpenClaim := { program := "ytehieobniamagaagreat", sum := "f589852eff0838e750c85b249214de56a1752761b7832c7ec116d4e7cc364789", func := "codewright/codewrightlaw32.AutomorphismImages", spec := "automorphismImages", unfollowed := true, recurses := true, apart := false, narrowed := true }
def AutomorphismImagesUptoSaid : Prop := automorphismImagesUptoRow.holds Tryz.pinned (OpenSpec.upto automorphismImagesSpec)

/-- 'codewrightlaw32.AutomorphismMembers', WHERE WHAT IT READS IS OF BULK AT MOST 1048576: true; the input reads as it did. -/
def automorphismMembersUptoRow : OpenClaim := { program := "ytehieobniamagaagreat", sum := "f589852eff0838e750c85b249214de56a1752761b7832c7ec116d4e7cc364789", func := "codewright/codewrightlaw32.AutomorphismMembers", spec := "automorphismMembers", unfollowed := true, recurses := true, apart := false, narrowed := true }
def AutomorphismMembersUptoSaid : Prop := automorphismMembersUptoRow.holds Tryz.pinned (OpenSpec.upto automorphismMembersSpec)

/-- 'codewrightlaw32.AutomorphismSound', WHERE WHAT IT READS IS OF BULK AT MOST 1048576: true; the input reads as it did. -/
def automorphismSoundUptoRow : OpenClaim := { program := "ytehieobniamagaagreat", sum := "f589852eff0838e750c85b249214de56a1752761b7832c7ec116d4e7cc364789", func := "codewright/codewrightlaw32.AutomorphismSound", spec := "automorphismSound", unfollowed := true, recurses := true, apart := false, narrowed := true }
def AutomorphismSoundUptoSaid : Prop := automorphismSoundUptoRow.holds Tryz.pinned (OpenSpec.upto automorphismSoundSpec)

/-- 'codewrightlaw32.AutomorphismDual', WHERE WHAT IT READS IS OF BULK AT MOST 1048576: true; the input reads as it did. -/
def automorphismDualUptoRow : OpenClaim := { program := "ytehieobniamagaagreat", sum := "f589852eff0838e750c85b249214de56a1752761b7832c7ec116d4e7cc364789", func := "codewright/codewrightlaw32.AutomorphismDual", spec := "automorphismDual", unfollowed := true, recurses := true, apart := false, narrowed := true }
def AutomorphismDualUptoSaid : Prop := automorphismDualUptoRow.holds Tryz.pinned (OpenSpec.upto automorphismDualSpec)

/-- 'codewrightlaw32.AutomorphismAction', WHERE WHAT IT READS IS OF BULK AT MOST 1048576: true; the input reads as it did. -/
def automorphismActionUptoRow : OpenClaim := { program := "ytehieobniamagaagreat", sum := "f589852eff0838e750c85b249214de56a1752761b7832c7ec116d4e7cc364789", func := "codewright/codewrightlaw32.AutomorphismAction", spec := "automorphismAction", unfollowed := true, recurses := true, apart := false, narrowed := true }
def AutomorphismActionUptoSaid : Prop := automorphismActionUptoRow.holds Tryz.pinned (OpenSpec.upto automorphismActionSpec)

/-- 'codewrightlaw32.AutomorphismConjugates', WHERE WHAT IT READS IS OF BULK AT MOST 1048576: true; the input reads as it did. -/
def automorphismConjugatesUptoRow : OpenClaim := { program := "ytehieobniamagaagreat", sum := "f589852eff0838e750c85b249214de56a1752761b7832c7ec116d4e7cc364789", func := "codewright/codewrightlaw32.AutomorphismConjugates", spec := "automorphismConjugates", unfollowed := true, recurses := true, apart := false, narrowed := true }
def AutomorphismConjugatesUptoSaid : Prop := automorphismConjugatesUptoRow.holds Tryz.pinned (OpenSpec.upto automorphismConjugatesSpec)

end Rows
end Go.Proofs.YtehieobniamagaaGreat
