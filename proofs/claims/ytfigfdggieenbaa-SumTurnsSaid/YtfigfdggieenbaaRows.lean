/-
  No cell of these rows narrows 'for every input' (looked for: loops, veiled, ifaces, maps, wideKeys, modest, calm, conditions, laid).
  DERIVED. THE GIVEN ROWS OF THIS SEAT. 12 by the template 'for every input the law returns true; each argument reads behind the call as it read before'; 0 by the template 'total and deterministic' (their statements: YtfigfdggieenbaaTotals.lean).
  GIVEN WITH THE SEED: the statements are not yours to turn. If you find one false, say at which input.
  Laid BY PROGRAM, IN A SANDBOX (cutbox-rows.mjs): the forced cells as the released guide's own fill.sh prints them over the translation 1836b75b1b8ccbe1… (all of the seat's roots in one cut). By AI agents, Wed Nov 11 2026. No macro, syntax, notation, axiom, sorry.
-/
import Derived.Test.YtfigfdggieenbaaChecked
import GoSem.Claim
import GoSem.ClaimJoined
import GoSem.ClaimMapViews
import Derived.JoinedTies
import Derived.KernelRfl
namespace Go.Proofs.Ytfigfdggieenbaa
/- THE CELL 'sum', in the pinned program and in every row, IS THE sha256 OF THE DUMP (.gsa) THAT YtfigfdggieenbaaProg.lean LOADS. Nothing in Lean hashes anything: it is a label: what it is worth is what the hold of that sum in a sandbox is worth. -/
noncomputable def Try.pinned : Pinned := { name := "ytfigfdggieenbaa", sum := "1836b75b1b8ccbe1321d517180580d774eb92594dafc71bb54eff875c8ebbd6e", checked := Try.checked }
namespace Rows
def none {H : Type} : Left H := { results := [], args := [] }

/-- 'engramlaw6.SpaceNumbers': WHATEVER THE INPUT: true; the input reads as it did. -/
def spaceNumbersSpec : ChangeSpec := { name := "spaceNumbers", fn := fun _ => fun
  | [] => { results := [.lit (.bool true)], args := [] }
  | _ => none }
def spaceNumbersRow : OpenClaim := { program := "ytfigfdggieenbaa", sum := "1836b75b1b8ccbe1321d517180580d774eb92594dafc71bb54eff875c8ebbd6e", func := "engram/engramlaw6.SpaceNumbers", spec := "spaceNumbers", apart := false }
def SpaceNumbersSaid : Prop := spaceNumbersRow.holds Try.pinned (OpenSpec.ofChange spaceNumbersSpec)

/-- ITS FALSE NEIGHBOUR: 'it returns false'. Refute it at one input. -/
def spaceNumbersWrong : ChangeSpec := { name := "spaceNumbers", fn := fun _ => fun
  | [] => { results := [.lit (.bool false)], args := [] }
  | _ => none }
def SpaceNumbersWrongFalsely : Prop := spaceNumbersRow.holds Try.pinned (OpenSpec.ofChange spaceNumbersWrong)

/-- 'engramlaw6.SpaceTells': WHATEVER THE INPUT: true; the input reads as it did. -/
def spaceTellsSpec : ChangeSpec := { name := "spaceTells", fn := fun _ => fun
  | [d1, d2, d3] => { results := [.lit (.bool true)], args := [d1, d2, d3] }
  | _ => none }
def spaceTellsRow : OpenClaim := { program := "ytfigfdggieenbaa", sum := "1836b75b1b8ccbe1321d517180580d774eb92594dafc71bb54eff875c8ebbd6e", func := "engram/engramlaw6.SpaceTells", spec := "spaceTells", apart := false }
def SpaceTellsSaid : Prop := spaceTellsRow.holds Try.pinned (OpenSpec.ofChange spaceTellsSpec)

/-- ITS FALSE NEIGHBOUR: 'it returns false'. Refute it at one input. -/
def spaceTellsWrong : ChangeSpec := { name := "spaceTells", fn := fun _ => fun
  | [d1, d2, d3] => { results := [.lit (.bool false)], args := [d1, d2, d3] }
  | _ => none }
def SpaceTellsWrongFalsely : Prop := spaceTellsRow.holds Try.pinned (OpenSpec.ofChange spaceTellsWrong)

/-- 'engramlaw6.SpaceMost': WHATEVER THE INPUT: true; the input reads as it did. -/
def spaceMostSpec : ChangeSpec := { name := "spaceMost", fn := fun _ => fun
  | [d1, d2, d3] => { results := [.lit (.bool true)], args := [d1, d2, d3] }
  | _ => none }
def spaceMostRow : OpenClaim := { program := "ytfigfdggieenbaa", sum := "1836b75b1b8ccbe1321d517180580d774eb92594dafc71bb54eff875c8ebbd6e", func := "engram/engramlaw6.SpaceMost", spec := "spaceMost", apart := false }
def SpaceMostSaid : Prop := spaceMostRow.holds Try.pinned (OpenSpec.ofChange spaceMostSpec)

/-- ITS FALSE NEIGHBOUR: 'it returns false'. Refute it at one input. -/
def spaceMostWrong : ChangeSpec := { name := "spaceMost", fn := fun _ => fun
  | [d1, d2, d3] => { results := [.lit (.bool false)], args := [d1, d2, d3] }
  | _ => none }
def SpaceMostWrongFalsely : Prop := spaceMostRow.holds Try.pinned (OpenSpec.ofChange spaceMostWrong)

/-- 'engramlaw6.SpaceAdds': WHATEVER THE INPUT: true; the input reads as it did. -/
def spaceAddsSpec : ChangeSpec := { name := "spaceAdds", fn := fun _ => fun
  | [d1, d2] => { results := [.lit (.bool true)], args := [d1, d2] }
  | _ => none }
def spaceAddsRow : OpenClaim := { program := "ytfigfdggieenbaa", sum := "1836b75b1b8ccbe1321d517180580d774eb92594dafc71bb54eff875c8ebbd6e", func := "engram/engramlaw6.SpaceAdds", spec := "spaceAdds", apart := false }
def SpaceAddsSaid : Prop := spaceAddsRow.holds Try.pinned (OpenSpec.ofChange spaceAddsSpec)

/-- ITS FALSE NEIGHBOUR: 'it returns false'. Refute it at one input. -/
def spaceAddsWrong : ChangeSpec := { name := "spaceAdds", fn := fun _ => fun
  | [d1, d2] => { results := [.lit (.bool false)], args := [d1, d2] }
  | _ => none }
def SpaceAddsWrongFalsely : Prop := spaceAddsRow.holds Try.pinned (OpenSpec.ofChange spaceAddsWrong)

/-- 'engramlaw2.SumNumbers': WHATEVER THE INPUT: true; the input reads as it did. -/
def sumNumbersSpec : ChangeSpec := { name := "sumNumbers", fn := fun _ => fun
  | [] => { results := [.lit (.bool true)], args := [] }
  | _ => none }
def sumNumbersRow : OpenClaim := { program := "ytfigfdggieenbaa", sum := "1836b75b1b8ccbe1321d517180580d774eb92594dafc71bb54eff875c8ebbd6e", func := "engram/engramlaw2.SumNumbers", spec := "sumNumbers", apart := false }
def SumNumbersSaid : Prop := sumNumbersRow.holds Try.pinned (OpenSpec.ofChange sumNumbersSpec)

/-- ITS FALSE NEIGHBOUR: 'it returns false'. Refute it at one input. -/
def sumNumbersWrong : ChangeSpec := { name := "sumNumbers", fn := fun _ => fun
  | [] => { results := [.lit (.bool false)], args := [] }
  | _ => none }
def SumNumbersWrongFalsely : Prop := sumNumbersRow.holds Try.pinned (OpenSpec.ofChange sumNumbersWrong)

/-- 'engramlaw2.SumTells': WHATEVER THE INPUT: true; the input reads as it did. -/
def sumTellsSpec : ChangeSpec := { name := "sumTells", fn := fun _ => fun
  | [d1, d2, d3, d4] => { results := [.lit (.bool true)], args := [d1, d2, d3, d4] }
  | _ => none }
def sumTellsRow : OpenClaim := { program := "ytfigfdggieenbaa", sum := "1836b75b1b8ccbe1321d517180580d774eb92594dafc71bb54eff875c8ebbd6e", func := "engram/engramlaw2.SumTells", spec := "sumTells", apart := false }
def SumTellsSaid : Prop := sumTellsRow.holds Try.pinned (OpenSpec.ofChange sumTellsSpec)

/-- ITS FALSE NEIGHBOUR: 'it returns false'. Refute it at one input. -/
def sumTellsWrong : ChangeSpec := { name := "sumTells", fn := fun _ => fun
  | [d1, d2, d3, d4] => { results := [.lit (.bool false)], args := [d1, d2, d3, d4] }
  | _ => none }
def SumTellsWrongFalsely : Prop := sumTellsRow.holds Try.pinned (OpenSpec.ofChange sumTellsWrong)

/-- 'engramlaw2.SumBack': WHATEVER THE INPUT: true; the input reads as it did. -/
def sumBackSpec : ChangeSpec := { name := "sumBack", fn := fun _ => fun
  | [d1, d2, d3] => { results := [.lit (.bool true)], args := [d1, d2, d3] }
  | _ => none }
def sumBackRow : OpenClaim := { program := "ytfigfdggieenbaa", sum := "1836b75b1b8ccbe1321d517180580d774eb92594dafc71bb54eff875c8ebbd6e", func := "engram/engramlaw2.SumBack", spec := "sumBack", apart := false }
def SumBackSaid : Prop := sumBackRow.holds Try.pinned (OpenSpec.ofChange sumBackSpec)

/-- ITS FALSE NEIGHBOUR: 'it returns false'. Refute it at one input. -/
def sumBackWrong : ChangeSpec := { name := "sumBack", fn := fun _ => fun
  | [d1, d2, d3] => { results := [.lit (.bool false)], args := [d1, d2, d3] }
  | _ => none }
def SumBackWrongFalsely : Prop := sumBackRow.holds Try.pinned (OpenSpec.ofChange sumBackWrong)

/-- 'engramlaw2.SumTurns': WHATEVER THE INPUT: true; the input reads as it did. -/
def sumTurnsSpec : ChangeSpec := { name := "sumTurns", fn := fun _ => fun
  | [d1, d2, d3, d4] => { results := [.lit (.bool true)], args := [d1, d2, d3, d4] }
  | _ => none }
def sumTurnsRow : OpenClaim := { program := "ytfigfdggieenbaa", sum := "1836b75b1b8ccbe1321d517180580d774eb92594dafc71bb54eff875c8ebbd6e", func := "engram/engramlaw2.SumTurns", spec := "sumTurns", apart := false }
def SumTurnsSaid : Prop := sumTurnsRow.holds Try.pinned (OpenSpec.ofChange sumTurnsSpec)

/-- ITS FALSE NEIGHBOUR: 'it returns false'. Refute it at one input. -/
def sumTurnsWrong : ChangeSpec := { name := "sumTurns", fn := fun _ => fun
  | [d1, d2, d3, d4] => { results := [.lit (.bool false)], args := [d1, d2, d3, d4] }
  | _ => none }
def SumTurnsWrongFalsely : Prop := sumTurnsRow.holds Try.pinned (OpenSpec.ofChange sumTurnsWrong)

/-- 'engramlaw10.WordNumbers': WHATEVER THE INPUT: true; the input reads as it did. -/
def wordNumbersSpec : ChangeSpec := { name := "wordNumbers", fn := fun _ => fun
  | [] => { results := [.lit (.bool true)], args := [] }
  | _ => none }
def wordNumbersRow : OpenClaim := { program := "ytfigfdggieenbaa", sum := "1836b75b1b8ccbe1321d517180580d774eb92594dafc71bb54eff875c8ebbd6e", func := "engram/engramlaw10.WordNumbers", spec := "wordNumbers", apart := false }
def WordNumbersSaid : Prop := wordNumbersRow.holds Try.pinned (OpenSpec.ofChange wordNumbersSpec)

/-- ITS FALSE NEIGHBOUR: 'it returns false'. Refute it at one input. -/
def wordNumbersWrong : ChangeSpec := { name := "wordNumbers", fn := fun _ => fun
  | [] => { results := [.lit (.bool false)], args := [] }
  | _ => none }
def WordNumbersWrongFalsely : Prop := wordNumbersRow.holds Try.pinned (OpenSpec.ofChange wordNumbersWrong)

/-- 'engramlaw10.WordTells': WHATEVER THE INPUT: true; the input reads as it did. -/
def wordTellsSpec : ChangeSpec := { name := "wordTells", fn := fun _ => fun
  | [d1, d2, d3, d4] => { results := [.lit (.bool true)], args := [d1, d2, d3, d4] }
  | _ => none }
def wordTellsRow : OpenClaim := { program := "ytfigfdggieenbaa", sum := "1836b75b1b8ccbe1321d517180580d774eb92594dafc71bb54eff875c8ebbd6e", func := "engram/engramlaw10.WordTells", spec := "wordTells", apart := false }
def WordTellsSaid : Prop := wordTellsRow.holds Try.pinned (OpenSpec.ofChange wordTellsSpec)

/-- ITS FALSE NEIGHBOUR: 'it returns false'. Refute it at one input. -/
def wordTellsWrong : ChangeSpec := { name := "wordTells", fn := fun _ => fun
  | [d1, d2, d3, d4] => { results := [.lit (.bool false)], args := [d1, d2, d3, d4] }
  | _ => none }
def WordTellsWrongFalsely : Prop := wordTellsRow.holds Try.pinned (OpenSpec.ofChange wordTellsWrong)

/-- 'engramlaw10.WordPairs': WHATEVER THE INPUT: true; the input reads as it did. -/
def wordPairsSpec : ChangeSpec := { name := "wordPairs", fn := fun _ => fun
  | [d1, d2] => { results := [.lit (.bool true)], args := [d1, d2] }
  | _ => none }
def wordPairsRow : OpenClaim := { program := "ytfigfdggieenbaa", sum := "1836b75b1b8ccbe1321d517180580d774eb92594dafc71bb54eff875c8ebbd6e", func := "engram/engramlaw10.WordPairs", spec := "wordPairs", apart := false }
def WordPairsSaid : Prop := wordPairsRow.holds Try.pinned (OpenSpec.ofChange wordPairsSpec)

/-- ITS FALSE NEIGHBOUR: 'it returns false'. Refute it at one input. -/
def wordPairsWrong : ChangeSpec := { name := "wordPairs", fn := fun _ => fun
  | [d1, d2] => { results := [.lit (.bool false)], args := [d1, d2] }
  | _ => none }
def WordPairsWrongFalsely : Prop := wordPairsRow.holds Try.pinned (OpenSpec.ofChange wordPairsWrong)

/-- 'engramlaw10.WordBits': WHATEVER THE INPUT: true; the input reads as it did. -/
def wordBitsSpec : ChangeSpec := { name := "wordBits", fn := fun _ => fun
  | [d1, d2] => { results := [.lit (.bool true)], args := [d1, d2] }
  | _ => none }
def wordBitsRow : OpenClaim := { program := "ytfigfdggieenbaa", sum := "1836b75b1b8ccbe1321d517180580d774eb92594dafc71bb54eff875c8ebbd6e", func := "engram/engramlaw10.WordBits", spec := "wordBits", apart := false }
def WordBitsSaid : Prop := wordBitsRow.holds Try.pinned (OpenSpec.ofChange wordBitsSpec)

/-- ITS FALSE NEIGHBOUR: 'it returns false'. Refute it at one input. -/
def wordBitsWrong : ChangeSpec := { name := "wordBits", fn := fun _ => fun
  | [d1, d2] => { results := [.lit (.bool false)], args := [d1, d2] }
  | _ => none }
def WordBitsWrongFalsely : Prop := wordBitsRow.holds Try.pinned (OpenSpec.ofChange wordBitsWrong)

/- THE SECOND FORM. 'bulk': how many values and letters a reading holds, each counted each time it is reached (what is shared counts as often as it is met; a slice's spare places count too). A statement '..UptoSaid' is the law's where the arguments, and the package variables that the reading takes, are together of bulk at most 1048576: NARROWER than '..Said'. Prove '..Said' where nothing that the law and all that it calls make is longer than what came in: it says more and counts as full. Else prove '..UptoSaid'. A law counts once. -/
mutual
def uptoBulk {H : Type} : DataW H → Nat
  | .lit (.string bytes) => bytes.length + 1
  | .lit _ => 1
  | .nil => 1
  | .ptr d => uptoBulk d + 1
  | .slice elems spare => uptoBulkAll elems + uptoBulkAll spare + 1
  | .agg parts => uptoBulkAll parts + 1
  | .iface _ d => uptoBulk d + 1
  | .map entries => uptoBulkEntries entries + 1
  | .held _ => 1
def uptoBulkAll {H : Type} : List (DataW H) → Nat
  | [] => 0
  | d :: r => uptoBulk d + uptoBulkAll r
def uptoBulkEntries {H : Type} : List (Lit × DataW H) → Nat
  | [] => 0
  | x :: r => uptoBulkEntry x + uptoBulkEntries r
def uptoBulkEntry {H : Type} : Lit × DataW H → Nat
  | (.string bytes, d) => bytes.length + uptoBulk d + 1
  | (_, d) => uptoBulk d + 1
 end
def uptoSmall : (H : Type) → List (DataW H) → Bool := fun _ ds => decide (uptoBulkAll ds ≤ 1048576)
def OpenSpec.upto (s : _root_.Go.ChangeSpec) : _root_.Go.OpenSpec := { _root_.Go.OpenSpec.ofChange s with cond := some uptoSmall }

/-- 'engramlaw6.SpaceNumbers', WHERE WHAT IT READS IS OF BULK AT MOST 1048576: true; the input reads as it did. -/
def spaceNumbersUptoRow : OpenClaim := { program := "ytfigfdggieenbaa", sum := "1836b75b1b8ccbe1321d517180580d774eb92594dafc71bb54eff875c8ebbd6e", func := "engram/engramlaw6.SpaceNumbers", spec := "spaceNumbers", apart := false, narrowed := true }
def SpaceNumbersUptoSaid : Prop := spaceNumbersUptoRow.holds Try.pinned (OpenSpec.upto spaceNumbersSpec)

/-- 'engramlaw6.SpaceTells', WHERE WHAT IT READS IS OF BULK AT MOST 1048576: true; the input reads as it did. -/
def spaceTellsUptoRow : OpenClaim := { program := "ytfigfdggieenbaa", sum := "1836b75b1b8ccbe1321d517180580d774eb92594dafc71bb54eff875c8ebbd6e", func := "engram/engramlaw6.SpaceTells", spec := "spaceTells", apart := false, narrowed := true }
def SpaceTellsUptoSaid : Prop := spaceTellsUptoRow.holds Try.pinned (OpenSpec.upto spaceTellsSpec)

/-- 'engramlaw6.SpaceMost', WHERE WHAT IT READS IS OF BULK AT MOST 1048576: true; the input reads as it did. -/
def spaceMostUptoRow : OpenClaim := { program := "ytfigfdggieenbaa", sum := "1836b75b1b8ccbe1321d517180580d774eb92594dafc71bb54eff875c8ebbd6e", func := "engram/engramlaw6.SpaceMost", spec := "spaceMost", apart := false, narrowed := true }
def SpaceMostUptoSaid : Prop := spaceMostUptoRow.holds Try.pinned (OpenSpec.upto spaceMostSpec)

/-- 'engramlaw6.SpaceAdds', WHERE WHAT IT READS IS OF BULK AT MOST 1048576: true; the input reads as it did. -/
def spaceAddsUptoRow : OpenClaim := { program := "ytfigfdggieenbaa", sum := "1836b75b1b8ccbe1321d517180580d774eb92594dafc71bb54eff875c8ebbd6e", func := "engram/engramlaw6.SpaceAdds", spec := "spaceAdds", apart := false, narrowed := true }
def SpaceAddsUptoSaid : Prop := spaceAddsUptoRow.holds Try.pinned (OpenSpec.upto spaceAddsSpec)

/-- 'engramlaw2.SumNumbers', WHERE WHAT IT READS IS OF BULK AT MOST 1048576: true; the input reads as it did. -/
def sumNumbersUptoRow : OpenClaim := { program := "ytfigfdggieenbaa", sum := "1836b75b1b8ccbe1321d517180580d774eb92594dafc71bb54eff875c8ebbd6e", func := "engram/engramlaw2.SumNumbers", spec := "sumNumbers", apart := false, narrowed := true }
def SumNumbersUptoSaid : Prop := sumNumbersUptoRow.holds Try.pinned (OpenSpec.upto sumNumbersSpec)

/-- 'engramlaw2.SumTells', WHERE WHAT IT READS IS OF BULK AT MOST 1048576: true; the input reads as it did. -/
def sumTellsUptoRow : OpenClaim := { program := "ytfigfdggieenbaa", sum := "1836b75b1b8ccbe1321d517180580d774eb92594dafc71bb54eff875c8ebbd6e", func := "engram/engramlaw2.SumTells", spec := "sumTells", apart := false, narrowed := true }
def SumTellsUptoSaid : Prop := sumTellsUptoRow.holds Try.pinned (OpenSpec.upto sumTellsSpec)

/-- 'engramlaw2.SumBack', WHERE WHAT IT READS IS OF BULK AT MOST 1048576: true; the input reads as it did. -/
def sumBackUptoRow : OpenClaim := { program := "ytfigfdggieenbaa", sum := "1836b75b1b8ccbe1321d517180580d774eb92594dafc71bb54eff875c8ebbd6e", func := "engram/engramlaw2.SumBack", spec := "sumBack", apart := false, narrowed := true }
def SumBackUptoSaid : Prop := sumBackUptoRow.holds Try.pinned (OpenSpec.upto sumBackSpec)

/-- 'engramlaw2.SumTurns', WHERE WHAT IT READS IS OF BULK AT MOST 1048576: true; the input reads as it did. -/
def sumTurnsUptoRow : OpenClaim := { program := "ytfigfdggieenbaa", sum := "1836b75b1b8ccbe1321d517180580d774eb92594dafc71bb54eff875c8ebbd6e", func := "engram/engramlaw2.SumTurns", spec := "sumTurns", apart := false, narrowed := true }
def SumTurnsUptoSaid : Prop := sumTurnsUptoRow.holds Try.pinned (OpenSpec.upto sumTurnsSpec)

/-- 'engramlaw10.WordNumbers', WHERE WHAT IT READS IS OF BULK AT MOST 1048576: true; the input reads as it did. -/
def wordNumbersUptoRow : OpenClaim := { program := "ytfigfdggieenbaa", sum := "1836b75b1b8ccbe1321d517180580d774eb92594dafc71bb54eff875c8ebbd6e", func := "engram/engramlaw10.WordNumbers", spec := "wordNumbers", apart := false, narrowed := true }
def WordNumbersUptoSaid : Prop := wordNumbersUptoRow.holds Try.pinned (OpenSpec.upto wordNumbersSpec)

/-- 'engramlaw10.WordTells', WHERE WHAT IT READS IS OF BULK AT MOST 1048576: true; the input reads as it did. -/
def wordTellsUptoRow : OpenClaim := { program := "ytfigfdggieenbaa", sum := "1836b75b1b8ccbe1321d517180580d774eb92594dafc71bb54eff875c8ebbd6e", func := "engram/engramlaw10.WordTells", spec := "wordTells", apart := false, narrowed := true }
def WordTellsUptoSaid : Prop := wordTellsUptoRow.holds Try.pinned (OpenSpec.upto wordTellsSpec)

/-- 'engramlaw10.WordPairs', WHERE WHAT IT READS IS OF BULK AT MOST 1048576: true; the input reads as it did. -/
def wordPairsUptoRow : OpenClaim := { program := "ytfigfdggieenbaa", sum := "1836b75b1b8ccbe1321d517180580d774eb92594dafc71bb54eff875c8ebbd6e", func := "engram/engramlaw10.WordPairs", spec := "wordPairs", apart := false, narrowed := true }
def WordPairsUptoSaid : Prop := wordPairsUptoRow.holds Try.pinned (OpenSpec.upto wordPairsSpec)

/-- 'engramlaw10.WordBits', WHERE WHAT IT READS IS OF BULK AT MOST 1048576: true; the input reads as it did. -/
def wordBitsUptoRow : OpenClaim := { program := "ytfigfdggieenbaa", sum := "1836b75b1b8ccbe1321d517180580d774eb92594dafc71bb54eff875c8ebbd6e", func := "engram/engramlaw10.WordBits", spec := "wordBits", apart := false, narrowed := true }
def WordBitsUptoSaid : Prop := wordBitsUptoRow.holds Try.pinned (OpenSpec.upto wordBitsSpec)

end Rows
end Go.Proofs.Ytfigfdggieenbaa
