/-
  No cell of these rows narrows 'for every input' (looked for: loops, veiled, ifaces, maps, wideKeys, modest, calm, conditions, laid).
  DERIVED. THE GIVEN ROWS OF THIS SEAT. 6 by the template 'for every input the law returns true; each argument reads behind the call as it read before'; 0 by the template 'total and deterministic' (their statements: YtmfjfjjdmgjoaaaTotals.lean).
  GIVEN WITH THE SEED: the statements are not yours to turn. If you find one false, say at which input.
  Laid BY PROGRAM, IN A SANDBOX (cutbox-rows.mjs): the forced cells as the released guide's own fill.sh prints them over the translation 5d960920e16284ce… (all of the seat's roots in one cut). By AI agents, Wed Nov 11 2026. No macro, syntax, notation, axiom, sorry.
-/
import Derived.Test.YtmfjfjjdmgjoaaaChecked
import GoSem.Claim
import GoSem.ClaimJoined
import GoSem.ClaimMapViews
import Derived.JoinedTies
import Derived.KernelRfl
namespace Go.Proofs.Ytmfjfjjdmgjoaaa
/- THE CELL 'sum', in the pinned program and in every row, IS THE sha256 OF THE DUMP (.gsa) THAT YtmfjfjjdmgjoaaaProg.lean LOADS. Nothing in Lean hashes anything: it is a label: what it is worth is what the hold of that sum in a sandbox is worth. -/
noncomputable def Try.pinned : Pinned := { name := "ytmfjfjjdmgjoaaa", sum := "5d960920e16284ceb24d5224f85b7681ab0e57aa5d09f6e88aec2084d63a1ac0", checked := Try.checked }
namespace Rows
def none {H : Type} : Left H := { results := [], args := [] }

/-- 'guipurelaw04.WideAdds': WHATEVER THE INPUT: true; the input reads as it did. -/
def wideAddsSpec : ChangeSpec := { name := "wideAdds", fn := fun _ => fun
  | [d1, d2] => { results := [.lit (.bool true)], args := [d1, d2] }
  | _ => none }
def wideAddsRow : OpenClaim := { program := "ytmfjfjjdmgjoaaa", sum := "5d960920e16284ceb24d5224f85b7681ab0e57aa5d09f6e88aec2084d63a1ac0", func := "guipure/guipurelaw04.WideAdds", spec := "wideAdds", inPlace := ["math/bits.Add64"], apart := false }
def WideAddsSaid : Prop := wideAddsRow.holds Try.pinned (OpenSpec.ofChange wideAddsSpec)

/-- ITS FALSE NEIGHBOUR: 'it returns false'. Refute it at one input. -/
def wideAddsWrong : ChangeSpec := { name := "wideAdds", fn := fun _ => fun
  | [d1, d2] => { results := [.lit (.bool false)], args := [d1, d2] }
  | _ => none }
def WideAddsWrongFalsely : Prop := wideAddsRow.holds Try.pinned (OpenSpec.ofChange wideAddsWrong)

/-- 'guipurelaw04.WideTimes': WHATEVER THE INPUT: true; the input reads as it did. -/
def wideTimesSpec : ChangeSpec := { name := "wideTimes", fn := fun _ => fun
  | [d1, d2, d3] => { results := [.lit (.bool true)], args := [d1, d2, d3] }
  | _ => none }
def wideTimesRow : OpenClaim := { program := "ytmfjfjjdmgjoaaa", sum := "5d960920e16284ceb24d5224f85b7681ab0e57aa5d09f6e88aec2084d63a1ac0", func := "guipure/guipurelaw04.WideTimes", spec := "wideTimes", inPlace := ["math/bits.Add64"], apart := false }
def WideTimesSaid : Prop := wideTimesRow.holds Try.pinned (OpenSpec.ofChange wideTimesSpec)

/-- ITS FALSE NEIGHBOUR: 'it returns false'. Refute it at one input. -/
def wideTimesWrong : ChangeSpec := { name := "wideTimes", fn := fun _ => fun
  | [d1, d2, d3] => { results := [.lit (.bool false)], args := [d1, d2, d3] }
  | _ => none }
def WideTimesWrongFalsely : Prop := wideTimesRow.holds Try.pinned (OpenSpec.ofChange wideTimesWrong)

/-- 'guipurelaw04.WideSolves': WHATEVER THE INPUT: true; the input reads as it did. -/
def wideSolvesSpec : ChangeSpec := { name := "wideSolves", fn := fun _ => fun
  | [d1, d2, d3] => { results := [.lit (.bool true)], args := [d1, d2, d3] }
  | _ => none }
def wideSolvesRow : OpenClaim := { program := "ytmfjfjjdmgjoaaa", sum := "5d960920e16284ceb24d5224f85b7681ab0e57aa5d09f6e88aec2084d63a1ac0", func := "guipure/guipurelaw04.WideSolves", spec := "wideSolves", inPlace := ["math/bits.Add64"], apart := false }
def WideSolvesSaid : Prop := wideSolvesRow.holds Try.pinned (OpenSpec.ofChange wideSolvesSpec)

/-- ITS FALSE NEIGHBOUR: 'it returns false'. Refute it at one input. -/
def wideSolvesWrong : ChangeSpec := { name := "wideSolves", fn := fun _ => fun
  | [d1, d2, d3] => { results := [.lit (.bool false)], args := [d1, d2, d3] }
  | _ => none }
def WideSolvesWrongFalsely : Prop := wideSolvesRow.holds Try.pinned (OpenSpec.ofChange wideSolvesWrong)

/-- 'guipurelaw04.WideTexts': WHATEVER THE INPUT: true; the input reads as it did. -/
def wideTextsSpec : ChangeSpec := { name := "wideTexts", fn := fun _ => fun
  | [d1, d2] => { results := [.lit (.bool true)], args := [d1, d2] }
  | _ => none }
def wideTextsRow : OpenClaim := { program := "ytmfjfjjdmgjoaaa", sum := "5d960920e16284ceb24d5224f85b7681ab0e57aa5d09f6e88aec2084d63a1ac0", func := "guipure/guipurelaw04.WideTexts", spec := "wideTexts", inPlace := ["math/bits.Add64"], apart := false }
def WideTextsSaid : Prop := wideTextsRow.holds Try.pinned (OpenSpec.ofChange wideTextsSpec)

/-- ITS FALSE NEIGHBOUR: 'it returns false'. Refute it at one input. -/
def wideTextsWrong : ChangeSpec := { name := "wideTexts", fn := fun _ => fun
  | [d1, d2] => { results := [.lit (.bool false)], args := [d1, d2] }
  | _ => none }
def WideTextsWrongFalsely : Prop := wideTextsRow.holds Try.pinned (OpenSpec.ofChange wideTextsWrong)

/-- 'guipurelaw04.WideInts': WHATEVER THE INPUT: true; the input reads as it did. -/
def wideIntsSpec : ChangeSpec := { name := "wideInts", fn := fun _ => fun
  | [d1, d2, d3] => { results := [.lit (.bool true)], args := [d1, d2, d3] }
  | _ => none }
def wideIntsRow : OpenClaim := { program := "ytmfjfjjdmgjoaaa", sum := "5d960920e16284ceb24d5224f85b7681ab0e57aa5d09f6e88aec2084d63a1ac0", func := "guipure/guipurelaw04.WideInts", spec := "wideInts", inPlace := ["math/bits.Add64"], apart := false }
def WideIntsSaid : Prop := wideIntsRow.holds Try.pinned (OpenSpec.ofChange wideIntsSpec)

/-- ITS FALSE NEIGHBOUR: 'it returns false'. Refute it at one input. -/
def wideIntsWrong : ChangeSpec := { name := "wideInts", fn := fun _ => fun
  | [d1, d2, d3] => { results := [.lit (.bool false)], args := [d1, d2, d3] }
  | _ => none }
def WideIntsWrongFalsely : Prop := wideIntsRow.holds Try.pinned (OpenSpec.ofChange wideIntsWrong)

/-- 'guipurelaw04.WideSums': WHATEVER THE INPUT: true; the input reads as it did. -/
def wideSumsSpec : ChangeSpec := { name := "wideSums", fn := fun _ => fun
  | [d] => { results := [.lit (.bool true)], args := [d] }
  | _ => none }
def wideSumsRow : OpenClaim := { program := "ytmfjfjjdmgjoaaa", sum := "5d960920e16284ceb24d5224f85b7681ab0e57aa5d09f6e88aec2084d63a1ac0", func := "guipure/guipurelaw04.WideSums", spec := "wideSums", inPlace := ["math/bits.Add64"], apart := false }
def WideSumsSaid : Prop := wideSumsRow.holds Try.pinned (OpenSpec.ofChange wideSumsSpec)

/-- ITS FALSE NEIGHBOUR: 'it returns false'. Refute it at one input. -/
def wideSumsWrong : ChangeSpec := { name := "wideSums", fn := fun _ => fun
  | [d] => { results := [.lit (.bool false)], args := [d] }
  | _ => none }
def WideSumsWrongFalsely : Prop := wideSumsRow.holds Try.pinned (OpenSpec.ofChange wideSumsWrong)

/- THE SECOND FORM. 'bulk': how many values and letters a reading holds, each counted each time it is reached (what is shared counts as often as it is met; a slice's spare places count too). A statement '..UptoSaid' is the law's where the arguments, and the package variables that the reading takes, are together of bulk at most 1048576: NARROWER than '..Said'. Prove '..Said' where nothing that the law and all that it calls make is longer than what came in: it says more and counts as full. Else prove '..UptoSaid'. A law counts once. -/
mutual
def uptoBulk {H : Type} : DataW H → Nat
  | .lit (.string bytes) => bytes.length + 1
  | .lit _ => 1
  | .nil => 1
  | .ptr d => uptoBulk d + 1
  | .slice elems spare => uptoBulkAll elems + uptoBulkAll spare + 1
  | .agg parts => uptoBulkAll parts + 1
  | .iface _ d => uptoBulk d + 1
  | .map entries => uptoBulkEntries entries + 1
  | .held _ => 1
def uptoBulkAll {H : Type} : List (DataW H) → Nat
  | [] => 0
  | d :: r => uptoBulk d + uptoBulkAll r
def uptoBulkEntries {H : Type} : List (Lit × DataW H) → Nat
  | [] => 0
  | x :: r => uptoBulkEntry x + uptoBulkEntries r
def uptoBulkEntry {H : Type} : Lit × DataW H → Nat
  | (.string bytes, d) => bytes.length + uptoBulk d + 1
  | (_, d) => uptoBulk d + 1
 end
def uptoSmall : (H : Type) → List (DataW H) → Bool := fun _ ds => decide (uptoBulkAll ds ≤ 1048576)
def OpenSpec.upto (s : _root_.Go.ChangeSpec) : _root_.Go.OpenSpec := { _root_.Go.OpenSpec.ofChange s with cond := some uptoSmall }

/-- 'guipurelaw04.WideAdds', WHERE WHAT IT READS IS OF BULK AT MOST 1048576: true; the input reads as it did. -/
def wideAddsUptoRow : OpenClaim := { program := "ytmfjfjjdmgjoaaa", sum := "5d960920e16284ceb24d5224f85b7681ab0e57aa5d09f6e88aec2084d63a1ac0", func := "guipure/guipurelaw04.WideAdds", spec := "wideAdds", inPlace := ["math/bits.Add64"], apart := false, narrowed := true }
def WideAddsUptoSaid : Prop := wideAddsUptoRow.holds Try.pinned (OpenSpec.upto wideAddsSpec)

/-- 'guipurelaw04.WideTimes', WHERE WHAT IT READS IS OF BULK AT MOST 1048576: true; the input reads as it did. -/
def wideTimesUptoRow : OpenClaim := { program := "ytmfjfjjdmgjoaaa", sum := "5d960920e16284ceb24d5224f85b7681ab0e57aa5d09f6e88aec2084d63a1ac0", func := "guipure/guipurelaw04.WideTimes", spec := "wideTimes", inPlace := ["math/bits.Add64"], apart := false, narrowed := true }
def WideTimesUptoSaid : Prop := wideTimesUptoRow.holds Try.pinned (OpenSpec.upto wideTimesSpec)

/-- 'guipurelaw04.WideSolves', WHERE WHAT IT READS IS OF BULK AT MOST 1048576: true; the input reads as it did. -/
def wideSolvesUptoRow : OpenClaim := { program := "ytmfjfjjdmgjoaaa", sum := "5d960920e16284ceb24d5224f85b7681ab0e57aa5d09f6e88aec2084d63a1ac0", func := "guipure/guipurelaw04.WideSolves", spec := "wideSolves", inPlace := ["math/bits.Add64"], apart := false, narrowed := true }
def WideSolvesUptoSaid : Prop := wideSolvesUptoRow.holds Try.pinned (OpenSpec.upto wideSolvesSpec)

/-- 'guipurelaw04.WideTexts', WHERE WHAT IT READS IS OF BULK AT MOST 1048576: true; the input reads as it did. -/
def wideTextsUptoRow : OpenClaim := { program := "ytmfjfjjdmgjoaaa", sum := "5d960920e16284ceb24d5224f85b7681ab0e57aa5d09f6e88aec2084d63a1ac0", func := "guipure/guipurelaw04.WideTexts", spec := "wideTexts", inPlace := ["math/bits.Add64"], apart := false, narrowed := true }
def WideTextsUptoSaid : Prop := wideTextsUptoRow.holds Try.pinned (OpenSpec.upto wideTextsSpec)

/-- 'guipurelaw04.WideInts', WHERE WHAT IT READS IS OF BULK AT MOST 1048576: true; the input reads as it did. -/
def wideIntsUptoRow : OpenClaim := { program := "ytmfjfjjdmgjoaaa", sum := "5d960920e16284ceb24d5224f85b7681ab0e57aa5d09f6e88aec2084d63a1ac0", func := "guipure/guipurelaw04.WideInts", spec := "wideInts", inPlace := ["math/bits.Add64"], apart := false, narrowed := true }
def WideIntsUptoSaid : Prop := wideIntsUptoRow.holds Try.pinned (OpenSpec.upto wideIntsSpec)

/-- 'guipurelaw04.WideSums', WHERE WHAT IT READS IS OF BULK AT MOST 1048576: true; the input reads as it did. -/
def wideSumsUptoRow : OpenClaim := { program := "ytmfjfjjdmgjoaaa", sum := "5d960920e16284ceb24d5224f85b7681ab0e57aa5d09f6e88aec2084d63a1ac0", func := "guipure/guipurelaw04.WideSums", spec := "wideSums", inPlace := ["math/bits.Add64"], apart := false, narrowed := true }
def WideSumsUptoSaid : Prop := wideSumsUptoRow.holds Try.pinned (OpenSpec.upto wideSumsSpec)

end Rows
end Go.Proofs.Ytmfjfjjdmgjoaaa
