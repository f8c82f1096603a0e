/-
  No cell of these rows narrows 'for every input' (looked for: loops, veiled, ifaces, maps, wideKeys, modest, calm, conditions, laid).
  DERIVED. THE GIVEN ROWS OF THIS SEAT. 13 by the template 'for every input the law returns true; each argument reads behind the call as it read before'; 0 by the template 'total and deterministic' (their statements: YtdnmhjpeklaijaaTotals.lean).
  GIVEN WITH THE SEED: the statements are not yours to turn. If you find one false, say at which input.
  Laid BY PROGRAM, IN A SANDBOX (cutbox-rows.mjs): the forced cells as the released guide's own fill.sh prints them over the translation 5adbcee4de26c51f… (all of the seat's roots in one cut). By AI agents, Wed Nov 11 2026. No macro, syntax, notation, axiom, sorry.
-/
import Derived.Test.YtdnmhjpeklaijaaChecked
import GoSem.Claim
import GoSem.ClaimJoined
import GoSem.ClaimMapViews
import Derived.JoinedTies
import Derived.KernelRfl
namespace Go.Proofs.Ytdnmhjpeklaijaa
/- THE CELL 'sum', in the pinned program and in every row, IS THE sha256 OF THE DUMP (.gsa) THAT YtdnmhjpeklaijaaProg.lean LOADS. Nothing in Lean hashes anything: it is a label: what it is worth is what the hold of that sum in a sandbox is worth. -/
noncomputable def Try.pinned : Pinned := { name := "ytdnmhjpeklaijaa", sum := "5adbcee4de26c51f7d23491ed0fa8256f1295c8743d6154e8bd3382f56cc2960", checked := Try.checked }
namespace Rows
def none {H : Type} : Left H := { results := [], args := [] }

/-- 'codewrightlaw03.NumberProducts': WHATEVER THE INPUT: true; the input reads as it did. -/
def numberProductsSpec : ChangeSpec := { name := "numberProducts", fn := fun _ => fun
  | [d] => { results := [.lit (.bool true)], args := [d] }
  | _ => none }
def numberProductsRow : OpenClaim := { program := "ytdnmhjpeklaijaa", sum := "5adbcee4de26c51f7d23491ed0fa8256f1295c8743d6154e8bd3382f56cc2960", func := "codewright/codewrightlaw03.NumberProducts", spec := "numberProducts", unfollowed := true, recurses := true, named := ["math/bits.divideError", "math/bits.overflowError"], apart := false }
def NumberProductsSaid : Prop := numberProductsRow.holds Try.pinned (OpenSpec.ofChange numberProductsSpec)

/-- ITS FALSE NEIGHBOUR: 'it returns false'. Refute it at one input. -/
def numberProductsWrong : ChangeSpec := { name := "numberProducts", fn := fun _ => fun
  | [d] => { results := [.lit (.bool false)], args := [d] }
  | _ => none }
def NumberProductsWrongFalsely : Prop := numberProductsRow.holds Try.pinned (OpenSpec.ofChange numberProductsWrong)

/-- 'codewrightlaw03.NumberPrimes': WHATEVER THE INPUT: true; the input reads as it did. -/
def numberPrimesSpec : ChangeSpec := { name := "numberPrimes", fn := fun _ => fun
  | [d1, d2, d3] => { results := [.lit (.bool true)], args := [d1, d2, d3] }
  | _ => none }
def numberPrimesRow : OpenClaim := { program := "ytdnmhjpeklaijaa", sum := "5adbcee4de26c51f7d23491ed0fa8256f1295c8743d6154e8bd3382f56cc2960", func := "codewright/codewrightlaw03.NumberPrimes", spec := "numberPrimes", unfollowed := true, recurses := true, named := ["math/bits.divideError", "math/bits.overflowError"], apart := false }
def NumberPrimesSaid : Prop := numberPrimesRow.holds Try.pinned (OpenSpec.ofChange numberPrimesSpec)

/-- ITS FALSE NEIGHBOUR: 'it returns false'. Refute it at one input. -/
def numberPrimesWrong : ChangeSpec := { name := "numberPrimes", fn := fun _ => fun
  | [d1, d2, d3] => { results := [.lit (.bool false)], args := [d1, d2, d3] }
  | _ => none }
def NumberPrimesWrongFalsely : Prop := numberPrimesRow.holds Try.pinned (OpenSpec.ofChange numberPrimesWrong)

/-- 'codewrightlaw03.NumberModular': WHATEVER THE INPUT: true; the input reads as it did. -/
def numberModularSpec : ChangeSpec := { name := "numberModular", fn := fun _ => fun
  | [d1, d2, d3] => { results := [.lit (.bool true)], args := [d1, d2, d3] }
  | _ => none }
def numberModularRow : OpenClaim := { program := "ytdnmhjpeklaijaa", sum := "5adbcee4de26c51f7d23491ed0fa8256f1295c8743d6154e8bd3382f56cc2960", func := "codewright/codewrightlaw03.NumberModular", spec := "numberModular", unfollowed := true, recurses := true, named := ["math/bits.divideError", "math/bits.overflowError"], apart := false }
def NumberModularSaid : Prop := numberModularRow.holds Try.pinned (OpenSpec.ofChange numberModularSpec)

/-- ITS FALSE NEIGHBOUR: 'it returns false'. Refute it at one input. -/
def numberModularWrong : ChangeSpec := { name := "numberModular", fn := fun _ => fun
  | [d1, d2, d3] => { results := [.lit (.bool false)], args := [d1, d2, d3] }
  | _ => none }
def NumberModularWrongFalsely : Prop := numberModularRow.holds Try.pinned (OpenSpec.ofChange numberModularWrong)

/-- 'codewrightlaw03.NumberChinese': WHATEVER THE INPUT: true; the input reads as it did. -/
def numberChineseSpec : ChangeSpec := { name := "numberChinese", fn := fun _ => fun
  | [d1, d2] => { results := [.lit (.bool true)], args := [d1, d2] }
  | _ => none }
def numberChineseRow : OpenClaim := { program := "ytdnmhjpeklaijaa", sum := "5adbcee4de26c51f7d23491ed0fa8256f1295c8743d6154e8bd3382f56cc2960", func := "codewright/codewrightlaw03.NumberChinese", spec := "numberChinese", unfollowed := true, recurses := true, named := ["math/bits.divideError", "math/bits.overflowError"], apart := false }
def NumberChineseSaid : Prop := numberChineseRow.holds Try.pinned (OpenSpec.ofChange numberChineseSpec)

/-- ITS FALSE NEIGHBOUR: 'it returns false'. Refute it at one input. -/
def numberChineseWrong : ChangeSpec := { name := "numberChinese", fn := fun _ => fun
  | [d1, d2] => { results := [.lit (.bool false)], args := [d1, d2] }
  | _ => none }
def NumberChineseWrongFalsely : Prop := numberChineseRow.holds Try.pinned (OpenSpec.ofChange numberChineseWrong)

/-- 'codewrightlaw03.NumberCongruent': WHATEVER THE INPUT: true; the input reads as it did. -/
def numberCongruentSpec : ChangeSpec := { name := "numberCongruent", fn := fun _ => fun
  | [d1, d2, d3] => { results := [.lit (.bool true)], args := [d1, d2, d3] }
  | _ => none }
def numberCongruentRow : OpenClaim := { program := "ytdnmhjpeklaijaa", sum := "5adbcee4de26c51f7d23491ed0fa8256f1295c8743d6154e8bd3382f56cc2960", func := "codewright/codewrightlaw03.NumberCongruent", spec := "numberCongruent", unfollowed := true, recurses := true, named := ["math/bits.divideError", "math/bits.overflowError"], apart := false }
def NumberCongruentSaid : Prop := numberCongruentRow.holds Try.pinned (OpenSpec.ofChange numberCongruentSpec)

/-- ITS FALSE NEIGHBOUR: 'it returns false'. Refute it at one input. -/
def numberCongruentWrong : ChangeSpec := { name := "numberCongruent", fn := fun _ => fun
  | [d1, d2, d3] => { results := [.lit (.bool false)], args := [d1, d2, d3] }
  | _ => none }
def NumberCongruentWrongFalsely : Prop := numberCongruentRow.holds Try.pinned (OpenSpec.ofChange numberCongruentWrong)

/-- 'codewrightlaw03.NumberChecked': WHATEVER THE INPUT: true; the input reads as it did. -/
def numberCheckedSpec : ChangeSpec := { name := "numberChecked", fn := fun _ => fun
  | [d1, d2, d3] => { results := [.lit (.bool true)], args := [d1, d2, d3] }
  | _ => none }
def numberCheckedRow : OpenClaim := { program := "ytdnmhjpeklaijaa", sum := "5adbcee4de26c51f7d23491ed0fa8256f1295c8743d6154e8bd3382f56cc2960", func := "codewright/codewrightlaw03.NumberChecked", spec := "numberChecked", unfollowed := true, recurses := true, named := ["math/bits.divideError", "math/bits.overflowError"], apart := false }
def NumberCheckedSaid : Prop := numberCheckedRow.holds Try.pinned (OpenSpec.ofChange numberCheckedSpec)

/-- ITS FALSE NEIGHBOUR: 'it returns false'. Refute it at one input. -/
def numberCheckedWrong : ChangeSpec := { name := "numberChecked", fn := fun _ => fun
  | [d1, d2, d3] => { results := [.lit (.bool false)], args := [d1, d2, d3] }
  | _ => none }
def NumberCheckedWrongFalsely : Prop := numberCheckedRow.holds Try.pinned (OpenSpec.ofChange numberCheckedWrong)

/-- 'codewrightlaw03.NumberFactored': WHATEVER THE INPUT: true; the input reads as it did. -/
def numberFactoredSpec : ChangeSpec := { name := "numberFactored", fn := fun _ => fun
  | [d1, d2] => { results := [.lit (.bool true)], args := [d1, d2] }
  | _ => none }
def numberFactoredRow : OpenClaim := { program := "ytdnmhjpeklaijaa", sum := "5adbcee4de26c51f7d23491ed0fa8256f1295c8743d6154e8bd3382f56cc2960", func := "codewright/codewrightlaw03.NumberFactored", spec := "numberFactored", unfollowed := true, recurses := true, named := ["math/bits.divideError", "math/bits.overflowError"], apart := false }
def NumberFactoredSaid : Prop := numberFactoredRow.holds Try.pinned (OpenSpec.ofChange numberFactoredSpec)

/-- ITS FALSE NEIGHBOUR: 'it returns false'. Refute it at one input. -/
def numberFactoredWrong : ChangeSpec := { name := "numberFactored", fn := fun _ => fun
  | [d1, d2] => { results := [.lit (.bool false)], args := [d1, d2] }
  | _ => none }
def NumberFactoredWrongFalsely : Prop := numberFactoredRow.holds Try.pinned (OpenSpec.ofChange numberFactoredWrong)

/-- 'codewrightlaw03.NumberPascal': WHATEVER THE INPUT: true; the input reads as it did. -/
def numberPascalSpec : ChangeSpec := { name := "numberPascal", fn := fun _ => fun
  | [d1, d2] => { results := [.lit (.bool true)], args := [d1, d2] }
  | _ => none }
def numberPascalRow : OpenClaim := { program := "ytdnmhjpeklaijaa", sum := "5adbcee4de26c51f7d23491ed0fa8256f1295c8743d6154e8bd3382f56cc2960", func := "codewright/codewrightlaw03.NumberPascal", spec := "numberPascal", unfollowed := true, recurses := true, named := ["math/bits.divideError", "math/bits.overflowError"], apart := false }
def NumberPascalSaid : Prop := numberPascalRow.holds Try.pinned (OpenSpec.ofChange numberPascalSpec)

/-- ITS FALSE NEIGHBOUR: 'it returns false'. Refute it at one input. -/
def numberPascalWrong : ChangeSpec := { name := "numberPascal", fn := fun _ => fun
  | [d1, d2] => { results := [.lit (.bool false)], args := [d1, d2] }
  | _ => none }
def NumberPascalWrongFalsely : Prop := numberPascalRow.holds Try.pinned (OpenSpec.ofChange numberPascalWrong)

/-- 'codewrightlaw03.NumberBezout': WHATEVER THE INPUT: true; the input reads as it did. -/
def numberBezoutSpec : ChangeSpec := { name := "numberBezout", fn := fun _ => fun
  | [d1, d2] => { results := [.lit (.bool true)], args := [d1, d2] }
  | _ => none }
def numberBezoutRow : OpenClaim := { program := "ytdnmhjpeklaijaa", sum := "5adbcee4de26c51f7d23491ed0fa8256f1295c8743d6154e8bd3382f56cc2960", func := "codewright/codewrightlaw03.NumberBezout", spec := "numberBezout", unfollowed := true, recurses := true, named := ["math/bits.divideError", "math/bits.overflowError"], apart := false }
def NumberBezoutSaid : Prop := numberBezoutRow.holds Try.pinned (OpenSpec.ofChange numberBezoutSpec)

/-- ITS FALSE NEIGHBOUR: 'it returns false'. Refute it at one input. -/
def numberBezoutWrong : ChangeSpec := { name := "numberBezout", fn := fun _ => fun
  | [d1, d2] => { results := [.lit (.bool false)], args := [d1, d2] }
  | _ => none }
def NumberBezoutWrongFalsely : Prop := numberBezoutRow.holds Try.pinned (OpenSpec.ofChange numberBezoutWrong)

/-- 'codewrightlaw03.NumberGcd': WHATEVER THE INPUT: true; the input reads as it did. -/
def numberGcdSpec : ChangeSpec := { name := "numberGcd", fn := fun _ => fun
  | [d1, d2, d3] => { results := [.lit (.bool true)], args := [d1, d2, d3] }
  | _ => none }
def numberGcdRow : OpenClaim := { program := "ytdnmhjpeklaijaa", sum := "5adbcee4de26c51f7d23491ed0fa8256f1295c8743d6154e8bd3382f56cc2960", func := "codewright/codewrightlaw03.NumberGcd", spec := "numberGcd", unfollowed := true, recurses := true, named := ["math/bits.divideError", "math/bits.overflowError"], apart := false }
def NumberGcdSaid : Prop := numberGcdRow.holds Try.pinned (OpenSpec.ofChange numberGcdSpec)

/-- ITS FALSE NEIGHBOUR: 'it returns false'. Refute it at one input. -/
def numberGcdWrong : ChangeSpec := { name := "numberGcd", fn := fun _ => fun
  | [d1, d2, d3] => { results := [.lit (.bool false)], args := [d1, d2, d3] }
  | _ => none }
def NumberGcdWrongFalsely : Prop := numberGcdRow.holds Try.pinned (OpenSpec.ofChange numberGcdWrong)

/-- 'codewrightlaw03.NumberEuler': WHATEVER THE INPUT: true; the input reads as it did. -/
def numberEulerSpec : ChangeSpec := { name := "numberEuler", fn := fun _ => fun
  | [d1, d2, d3] => { results := [.lit (.bool true)], args := [d1, d2, d3] }
  | _ => none }
def numberEulerRow : OpenClaim := { program := "ytdnmhjpeklaijaa", sum := "5adbcee4de26c51f7d23491ed0fa8256f1295c8743d6154e8bd3382f56cc2960", func := "codewright/codewrightlaw03.NumberEuler", spec := "numberEuler", unfollowed := true, recurses := true, named := ["math/bits.divideError", "math/bits.overflowError"], apart := false }
def NumberEulerSaid : Prop := numberEulerRow.holds Try.pinned (OpenSpec.ofChange numberEulerSpec)

/-- ITS FALSE NEIGHBOUR: 'it returns false'. Refute it at one input. -/
def numberEulerWrong : ChangeSpec := { name := "numberEuler", fn := fun _ => fun
  | [d1, d2, d3] => { results := [.lit (.bool false)], args := [d1, d2, d3] }
  | _ => none }
def NumberEulerWrongFalsely : Prop := numberEulerRow.holds Try.pinned (OpenSpec.ofChange numberEulerWrong)

/-- 'codewrightlaw03.NumberFactors': WHATEVER THE INPUT: true; the input reads as it did. -/
def numberFactorsSpec : ChangeSpec := { name := "numberFactors", fn := fun _ => fun
  | [d] => { results := [.lit (.bool true)], args := [d] }
  | _ => none }
def numberFactorsRow : OpenClaim := { program := "ytdnmhjpeklaijaa", sum := "5adbcee4de26c51f7d23491ed0fa8256f1295c8743d6154e8bd3382f56cc2960", func := "codewright/codewrightlaw03.NumberFactors", spec := "numberFactors", unfollowed := true, recurses := true, named := ["math/bits.divideError", "math/bits.overflowError"], apart := false }
def NumberFactorsSaid : Prop := numberFactorsRow.holds Try.pinned (OpenSpec.ofChange numberFactorsSpec)

/-- ITS FALSE NEIGHBOUR: 'it returns false'. Refute it at one input. -/
def numberFactorsWrong : ChangeSpec := { name := "numberFactors", fn := fun _ => fun
  | [d] => { results := [.lit (.bool false)], args := [d] }
  | _ => none }
def NumberFactorsWrongFalsely : Prop := numberFactorsRow.holds Try.pinned (OpenSpec.ofChange numberFactorsWrong)

/-- 'codewrightlaw03.NumberSums': WHATEVER THE INPUT: true; the input reads as it did. -/
def numberSumsSpec : ChangeSpec := { name := "numberSums", fn := fun _ => fun
  | [d] => { results := [.lit (.bool true)], args := [d] }
  | _ => none }
def numberSumsRow : OpenClaim := { program := "ytdnmhjpeklaijaa", sum := "5adbcee4de26c51f7d23491ed0fa8256f1295c8743d6154e8bd3382f56cc2960", func := "codewright/codewrightlaw03.NumberSums", spec := "numberSums", unfollowed := true, recurses := true, named := ["math/bits.divideError", "math/bits.overflowError"], apart := false }
def NumberSumsSaid : Prop := numberSumsRow.holds Try.pinned (OpenSpec.ofChange numberSumsSpec)

/-- ITS FALSE NEIGHBOUR: 'it returns false'. Refute it at one input. -/
def numberSumsWrong : ChangeSpec := { name := "numberSums", fn := fun _ => fun
  | [d] => { results := [.lit (.bool false)], args := [d] }
  | _ => none }
def NumberSumsWrongFalsely : Prop := numberSumsRow.holds Try.pinned (OpenSpec.ofChange numberSumsWrong)

/- THE SECOND FORM. 'bulk': how many values and letters a reading holds, each counted each time it is reached (what is shared counts as often as it is met; a slice's spare places count too). A statement '..UptoSaid' is the law's where the arguments, and the package variables that the reading takes, are together of bulk at most 1048576: NARROWER than '..Said'. Prove '..Said' where nothing that the law and all that it calls make is longer than what came in: it says more and counts as full. Else prove '..UptoSaid'. A law counts once. -/
mutual
def uptoBulk {H : Type} : DataW H → Nat
  | .lit (.string bytes) => bytes.length + 1
  | .lit _ => 1
  | .nil => 1
  | .ptr d => uptoBulk d + 1
  | .slice elems spare => uptoBulkAll elems + uptoBulkAll spare + 1
  | .agg parts => uptoBulkAll parts + 1
  | .iface _ d => uptoBulk d + 1
  | .map entries => uptoBulkEntries entries + 1
  | .held _ => 1
def uptoBulkAll {H : Type} : List (DataW H) → Nat
  | [] => 0
  | d :: r => uptoBulk d + uptoBulkAll r
def uptoBulkEntries {H : Type} : List (Lit × DataW H) → Nat
  | [] => 0
  | x :: r => uptoBulkEntry x + uptoBulkEntries r
def uptoBulkEntry {H : Type} : Lit × DataW H → Nat
  | (.string bytes, d) => bytes.length + uptoBulk d + 1
  | (_, d) => uptoBulk d + 1
 end
def uptoSmall : (H : Type) → List (DataW H) → Bool := fun _ ds => decide (uptoBulkAll ds ≤ 1048576)
def OpenSpec.upto (s : _root_.Go.ChangeSpec) : _root_.Go.OpenSpec := { _root_.Go.OpenSpec.ofChange s with cond := some uptoSmall }

/-- 'codewrightlaw03.NumberProducts', WHERE WHAT IT READS IS OF BULK AT MOST 1048576: true; the input reads as it did. -/
def numberProductsUptoRow : OpenClaim := { program := "ytdnmhjpeklaijaa", sum := "5adbcee4de26c51f7d23491ed0fa8256f1295c8743d6154e8bd3382f56cc2960", func := "codewright/codewrightlaw03.NumberProducts", spec := "numberProducts", unfollowed := true, recurses := true, named := ["math/bits.divideError", "math/bits.overflowError"], apart := false, narrowed := true }
def NumberProductsUptoSaid : Prop := numberProductsUptoRow.holds Try.pinned (OpenSpec.upto numberProductsSpec)

/-- 'codewrightlaw03.NumberPrimes', WHERE WHAT IT READS IS OF BULK AT MOST 1048576: true; the input reads as it did. -/
def numberPrimesUptoRow : OpenClaim := { program := "ytdnmhjpeklaijaa", sum := "5adbcee4de26c51f7d23491ed0fa8256f1295c8743d6154e8bd3382f56cc2960", func := "codewright/codewrightlaw03.NumberPrimes", spec := "numberPrimes", unfollowed := true, recurses := true, named := ["math/bits.divideError", "math/bits.overflowError"], apart := false, narrowed := true }
def NumberPrimesUptoSaid : Prop := numberPrimesUptoRow.holds Try.pinned (OpenSpec.upto numberPrimesSpec)

/-- 'codewrightlaw03.NumberModular', WHERE WHAT IT READS IS OF BULK AT MOST 1048576: true; the input reads as it did. -/
def numberModularUptoRow : OpenClaim := { program := "ytdnmhjpeklaijaa", sum := "5adbcee4de26c51f7d23491ed0fa8256f1295c8743d6154e8bd3382f56cc2960", func := "codewright/codewrightlaw03.NumberModular", spec := "numberModular", unfollowed := true, recurses := true, named := ["math/bits.divideError", "math/bits.overflowError"], apart := false, narrowed := true }
def NumberModularUptoSaid : Prop := numberModularUptoRow.holds Try.pinned (OpenSpec.upto numberModularSpec)

/-- 'codewrightlaw03.NumberChinese', WHERE WHAT IT READS IS OF BULK AT MOST 1048576: true; the input reads as it did. -/
def numberChineseUptoRow : OpenClaim := { program := "ytdnmhjpeklaijaa", sum := "5adbcee4de26c51f7d23491ed0fa8256f1295c8743d6154e8bd3382f56cc2960", func := "codewright/codewrightlaw03.NumberChinese", spec := "numberChinese", unfollowed := true, recurses := true, named := ["math/bits.divideError", "math/bits.overflowError"], apart := false, narrowed := true }
def NumberChineseUptoSaid : Prop := numberChineseUptoRow.holds Try.pinned (OpenSpec.upto numberChineseSpec)

/-- 'codewrightlaw03.NumberCongruent', WHERE WHAT IT READS IS OF BULK AT MOST 1048576: true; the input reads as it did. -/
def numberCongruentUptoRow : OpenClaim := { program := "ytdnmhjpeklaijaa", sum := "5adbcee4de26c51f7d23491ed0fa8256f1295c8743d6154e8bd3382f56cc2960", func := "codewright/codewrightlaw03.NumberCongruent", spec := "numberCongruent", unfollowed := true, recurses := true, named := ["math/bits.divideError", "math/bits.overflowError"], apart := false, narrowed := true }
def NumberCongruentUptoSaid : Prop := numberCongruentUptoRow.holds Try.pinned (OpenSpec.upto numberCongruentSpec)

/-- 'codewrightlaw03.NumberChecked', WHERE WHAT IT READS IS OF BULK AT MOST 1048576: true; the input reads as it did. -/
def numberCheckedUptoRow : OpenClaim := { program := "ytdnmhjpeklaijaa", sum := "5adbcee4de26c51f7d23491ed0fa8256f1295c8743d6154e8bd3382f56cc2960", func := "codewright/codewrightlaw03.NumberChecked", spec := "numberChecked", unfollowed := true, recurses := true, named := ["math/bits.divideError", "math/bits.overflowError"], apart := false, narrowed := true }
def NumberCheckedUptoSaid : Prop := numberCheckedUptoRow.holds Try.pinned (OpenSpec.upto numberCheckedSpec)

/-- 'codewrightlaw03.NumberFactored', WHERE WHAT IT READS IS OF BULK AT MOST 1048576: true; the input reads as it did. -/
def numberFactoredUptoRow : OpenClaim := { program := "ytdnmhjpeklaijaa", sum := "5adbcee4de26c51f7d23491ed0fa8256f1295c8743d6154e8bd3382f56cc2960", func := "codewright/codewrightlaw03.NumberFactored", spec := "numberFactored", unfollowed := true, recurses := true, named := ["math/bits.divideError", "math/bits.overflowError"], apart := false, narrowed := true }
def NumberFactoredUptoSaid : Prop := numberFactoredUptoRow.holds Try.pinned (OpenSpec.upto numberFactoredSpec)

/-- 'codewrightlaw03.NumberPascal', WHERE WHAT IT READS IS OF BULK AT MOST 1048576: true; the input reads as it did. -/
def numberPascalUptoRow : OpenClaim := { program := "ytdnmhjpeklaijaa", sum := "5adbcee4de26c51f7d23491ed0fa8256f1295c8743d6154e8bd3382f56cc2960", func := "codewright/codewrightlaw03.NumberPascal", spec := "numberPascal", unfollowed := true, recurses := true, named := ["math/bits.divideError", "math/bits.overflowError"], apart := false, narrowed := true }
def NumberPascalUptoSaid : Prop := numberPascalUptoRow.holds Try.pinned (OpenSpec.upto numberPascalSpec)

/-- 'codewrightlaw03.NumberBezout', WHERE WHAT IT READS IS OF BULK AT MOST 1048576: true; the input reads as it did. -/
def numberBezoutUptoRow : OpenClaim := { program := "ytdnmhjpeklaijaa", sum := "5adbcee4de26c51f7d23491ed0fa8256f1295c8743d6154e8bd3382f56cc2960", func := "codewright/codewrightlaw03.NumberBezout", spec := "numberBezout", unfollowed := true, recurses := true, named := ["math/bits.divideError", "math/bits.overflowError"], apart := false, narrowed := true }
def NumberBezoutUptoSaid : Prop := numberBezoutUptoRow.holds Try.pinned (OpenSpec.upto numberBezoutSpec)

/-- 'codewrightlaw03.NumberGcd', WHERE WHAT IT READS IS OF BULK AT MOST 1048576: true; the input reads as it did. -/
def numberGcdUptoRow : OpenClaim := { program := "ytdnmhjpeklaijaa", sum := "5adbcee4de26c51f7d23491ed0fa8256f1295c8743d6154e8bd3382f56cc2960", func := "codewright/codewrightlaw03.NumberGcd", spec := "numberGcd", unfollowed := true, recurses := true, named := ["math/bits.divideError", "math/bits.overflowError"], apart := false, narrowed := true }
def NumberGcdUptoSaid : Prop := numberGcdUptoRow.holds Try.pinned (OpenSpec.upto numberGcdSpec)

/-- 'codewrightlaw03.NumberEuler', WHERE WHAT IT READS IS OF BULK AT MOST 1048576: true; the input reads as it did. -/
def numberEulerUptoRow : OpenClaim := { program := "ytdnmhjpeklaijaa", sum := "5adbcee4de26c51f7d23491ed0fa8256f1295c8743d6154e8bd3382f56cc2960", func := "codewright/codewrightlaw03.NumberEuler", spec := "numberEuler", unfollowed := true, recurses := true, named := ["math/bits.divideError", "math/bits.overflowError"], apart := false, narrowed := true }
def NumberEulerUptoSaid : Prop := numberEulerUptoRow.holds Try.pinned (OpenSpec.upto numberEulerSpec)

/-- 'codewrightlaw03.NumberFactors', WHERE WHAT IT READS IS OF BULK AT MOST 1048576: true; the input reads as it did. -/
def numberFactorsUptoRow : OpenClaim := { program := "ytdnmhjpeklaijaa", sum := "5adbcee4de26c51f7d23491ed0fa8256f1295c8743d6154e8bd3382f56cc2960", func := "codewright/codewrightlaw03.NumberFactors", spec := "numberFactors", unfollowed := true, recurses := true, named := ["math/bits.divideError", "math/bits.overflowError"], apart := false, narrowed := true }
def NumberFactorsUptoSaid : Prop := numberFactorsUptoRow.holds Try.pinned (OpenSpec.upto numberFactorsSpec)

/-- 'codewrightlaw03.NumberSums', WHERE WHAT IT READS IS OF BULK AT MOST 1048576: true; the input reads as it did. -/
def numberSumsUptoRow : OpenClaim := { program := "ytdnmhjpeklaijaa", sum := "5adbcee4de26c51f7d23491ed0fa8256f1295c8743d6154e8bd3382f56cc2960", func := "codewright/codewrightlaw03.NumberSums", spec := "numberSums", unfollowed := true, recurses := true, named := ["math/bits.divideError", "math/bits.overflowError"], apart := false, narrowed := true }
def NumberSumsUptoSaid : Prop := numberSumsUptoRow.holds Try.pinned (OpenSpec.upto numberSumsSpec)

end Rows
end Go.Proofs.Ytdnmhjpeklaijaa
