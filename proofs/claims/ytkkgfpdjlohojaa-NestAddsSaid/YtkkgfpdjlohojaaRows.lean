/-
  No cell of these rows narrows 'for every input' (looked for: loops, veiled, ifaces, maps, wideKeys, modest, calm, conditions, laid).
  DERIVED. THE GIVEN ROWS OF THIS SEAT. 4 by the template 'for every input the law returns true; each argument reads behind the call as it read before'; 0 by the template 'total and deterministic' (their statements: YtkkgfpdjlohojaaTotals.lean).
  GIVEN WITH THE SEED: the statements are not yours to turn. If you find one false, say at which input.
  Laid BY PROGRAM, IN A SANDBOX (cutbox-rows.mjs): the forced cells as the released guide's own fill.sh prints them over the translation f7a45909224b006a… (all of the seat's roots in one cut). By AI agents, Wed Nov 11 2026. No macro, syntax, notation, axiom, sorry.
-/
import Derived.Test.YtkkgfpdjlohojaaChecked
import GoSem.Claim
import GoSem.ClaimJoined
import GoSem.ClaimMapViews
import Derived.JoinedTies
import Derived.KernelRfl
namespace Go.Proofs.Ytkkgfpdjlohojaa
/- THE CELL 'sum', in the pinned program and in every row, IS THE sha256 OF THE DUMP (.gsa) THAT YtkkgfpdjlohojaaProg.lean LOADS. Nothing in Lean hashes anything: it is a label: what it is worth is what the hold of that sum in a sandbox is worth. -/
noncomputable def Try.pinned : Pinned := { name := "ytkkgfpdjlohojaa", sum := "f7a45909224b006ac5a9a3eb5916b1d83bb147c148bf44df05d2b8fd4894df4a", checked := Try.checked }
namespace Rows
def none {H : Type} : Left H := { results := [], args := [] }

/-- 'engramlaw8.NestNumbers': WHATEVER THE INPUT: true; the input reads as it did. -/
def nestNumbersSpec : ChangeSpec := { name := "nestNumbers", fn := fun _ => fun
  | [] => { results := [.lit (.bool true)], args := [] }
  | _ => none }
def nestNumbersRow : OpenClaim := { program := "ytkkgfpdjlohojaa", sum := "f7a45909224b006ac5a9a3eb5916b1d83bb147c148bf44df05d2b8fd4894df4a", func := "engram/engramlaw8.NestNumbers", spec := "nestNumbers", apart := false }
def NestNumbersSaid : Prop := nestNumbersRow.holds Try.pinned (OpenSpec.ofChange nestNumbersSpec)

/-- ITS FALSE NEIGHBOUR: 'it returns false'. Refute it at one input. -/
def nestNumbersWrong : ChangeSpec := { name := "nestNumbers", fn := fun _ => fun
  | [] => { results := [.lit (.bool false)], args := [] }
  | _ => none }
def NestNumbersWrongFalsely : Prop := nestNumbersRow.holds Try.pinned (OpenSpec.ofChange nestNumbersWrong)

/-- 'engramlaw8.NestTells': WHATEVER THE INPUT: true; the input reads as it did. -/
def nestTellsSpec : ChangeSpec := { name := "nestTells", fn := fun _ => fun
  | [d1, d2, d3] => { results := [.lit (.bool true)], args := [d1, d2, d3] }
  | _ => none }
def nestTellsRow : OpenClaim := { program := "ytkkgfpdjlohojaa", sum := "f7a45909224b006ac5a9a3eb5916b1d83bb147c148bf44df05d2b8fd4894df4a", func := "engram/engramlaw8.NestTells", spec := "nestTells", recurses := true, apart := false }
def NestTellsSaid : Prop := nestTellsRow.holds Try.pinned (OpenSpec.ofChange nestTellsSpec)

/-- ITS FALSE NEIGHBOUR: 'it returns false'. Refute it at one input. -/
def nestTellsWrong : ChangeSpec := { name := "nestTells", fn := fun _ => fun
  | [d1, d2, d3] => { results := [.lit (.bool false)], args := [d1, d2, d3] }
  | _ => none }
def NestTellsWrongFalsely : Prop := nestTellsRow.holds Try.pinned (OpenSpec.ofChange nestTellsWrong)

/-- 'engramlaw8.NestWithin': WHATEVER THE INPUT: true; the input reads as it did. -/
def nestWithinSpec : ChangeSpec := { name := "nestWithin", fn := fun _ => fun
  | [d] => { results := [.lit (.bool true)], args := [d] }
  | _ => none }
def nestWithinRow : OpenClaim := { program := "ytkkgfpdjlohojaa", sum := "f7a45909224b006ac5a9a3eb5916b1d83bb147c148bf44df05d2b8fd4894df4a", func := "engram/engramlaw8.NestWithin", spec := "nestWithin", recurses := true, apart := false }
def NestWithinSaid : Prop := nestWithinRow.holds Try.pinned (OpenSpec.ofChange nestWithinSpec)

/-- ITS FALSE NEIGHBOUR: 'it returns false'. Refute it at one input. -/
def nestWithinWrong : ChangeSpec := { name := "nestWithin", fn := fun _ => fun
  | [d] => { results := [.lit (.bool false)], args := [d] }
  | _ => none }
def NestWithinWrongFalsely : Prop := nestWithinRow.holds Try.pinned (OpenSpec.ofChange nestWithinWrong)

/-- 'engramlaw8.NestAdds': WHATEVER THE INPUT: true; the input reads as it did. -/
def nestAddsSpec : ChangeSpec := { name := "nestAdds", fn := fun _ => fun
  | [d1, d2] => { results := [.lit (.bool true)], args := [d1, d2] }
  | _ => none }
def nestAddsRow : OpenClaim := { program := "ytkkgfpdjlohojaa", sum := "f7a45909224b006ac5a9a3eb5916b1d83bb147c148bf44df05d2b8fd4894df4a", func := "engram/engramlaw8.NestAdds", spec := "nestAdds", recurses := true, apart := false }
def NestAddsSaid : Prop := nestAddsRow.holds Try.pinned (OpenSpec.ofChange nestAddsSpec)

/-- ITS FALSE NEIGHBOUR: 'it returns false'. Refute it at one input. -/
def nestAddsWrong : ChangeSpec := { name := "nestAdds", fn := fun _ => fun
  | [d1, d2] => { results := [.lit (.bool false)], args := [d1, d2] }
  | _ => none }
def NestAddsWrongFalsely : Prop := nestAddsRow.holds Try.pinned (OpenSpec.ofChange nestAddsWrong)

/- THE SECOND FORM. 'bulk': how many values and letters a reading holds, each counted each time it is reached (what is shared counts as often as it is met; a slice's spare places count too). A statement '..UptoSaid' is the law's where the arguments, and the package variables that the reading takes, are together of bulk at most 1048576: NARROWER than '..Said'. Prove '..Said' where nothing that the law and all that it calls make is longer than what came in: it says more and counts as full. Else prove '..UptoSaid'. A law counts once. -/
mutual
def uptoBulk {H : Type} : DataW H → Nat
  | .lit (.string bytes) => bytes.length + 1
  | .lit _ => 1
  | .nil => 1
  | .ptr d => uptoBulk d + 1
  | .slice elems spare => uptoBulkAll elems + uptoBulkAll spare + 1
  | .agg parts => uptoBulkAll parts + 1
  | .iface _ d => uptoBulk d + 1
  | .map entries => uptoBulkEntries entries + 1
  | .held _ => 1
def uptoBulkAll {H : Type} : List (DataW H) → Nat
  | [] => 0
  | d :: r => uptoBulk d + uptoBulkAll r
def uptoBulkEntries {H : Type} : List (Lit × DataW H) → Nat
  | [] => 0
  | x :: r => uptoBulkEntry x + uptoBulkEntries r
def uptoBulkEntry {H : Type} : Lit × DataW H → Nat
  | (.string bytes, d) => bytes.length + uptoBulk d + 1
  | (_, d) => uptoBulk d + 1
 end
def uptoSmall : (H : Type) → List (DataW H) → Bool := fun _ ds => decide (uptoBulkAll ds ≤ 1048576)
def OpenSpec.upto (s : _root_.Go.ChangeSpec) : _root_.Go.OpenSpec := { _root_.Go.OpenSpec.ofChange s with cond := some uptoSmall }

/-- 'engramlaw8.NestNumbers', WHERE WHAT IT READS IS OF BULK AT MOST 1048576: true; the input reads as it did. -/
def nestNumbersUptoRow : OpenClaim := { program := "ytkkgfpdjlohojaa", sum := "f7a45909224b006ac5a9a3eb5916b1d83bb147c148bf44df05d2b8fd4894df4a", func := "engram/engramlaw8.NestNumbers", spec := "nestNumbers", apart := false, narrowed := true }
def NestNumbersUptoSaid : Prop := nestNumbersUptoRow.holds Try.pinned (OpenSpec.upto nestNumbersSpec)

/-- 'engramlaw8.NestTells', WHERE WHAT IT READS IS OF BULK AT MOST 1048576: true; the input reads as it did. -/
def nestTellsUptoRow : OpenClaim := { program := "ytkkgfpdjlohojaa", sum := "f7a45909224b006ac5a9a3eb5916b1d83bb147c148bf44df05d2b8fd4894df4a", func := "engram/engramlaw8.NestTells", spec := "nestTells", recurses := true, apart := false, narrowed := true }
def NestTellsUptoSaid : Prop := nestTellsUptoRow.holds Try.pinned (OpenSpec.upto nestTellsSpec)

/-- 'engramlaw8.NestWithin', WHERE WHAT IT READS IS OF BULK AT MOST 1048576: true; the input reads as it did. -/
def nestWithinUptoRow : OpenClaim := { program := "ytkkgfpdjlohojaa", sum := "f7a45909224b006ac5a9a3eb5916b1d83bb147c148bf44df05d2b8fd4894df4a", func := "engram/engramlaw8.NestWithin", spec := "nestWithin", recurses := true, apart := false, narrowed := true }
def NestWithinUptoSaid : Prop := nestWithinUptoRow.holds Try.pinned (OpenSpec.upto nestWithinSpec)

/-- 'engramlaw8.NestAdds', WHERE WHAT IT READS IS OF BULK AT MOST 1048576: true; the input reads as it did. -/
def nestAddsUptoRow : OpenClaim := { program := "ytkkgfpdjlohojaa", sum := "f7a45909224b006ac5a9a3eb5916b1d83bb147c148bf44df05d2b8fd4894df4a", func := "engram/engramlaw8.NestAdds", spec := "nestAdds", recurses := true, apart := false, narrowed := true }
def NestAddsUptoSaid : Prop := nestAddsUptoRow.holds Try.pinned (OpenSpec.upto nestAddsSpec)

end Rows
end Go.Proofs.Ytkkgfpdjlohojaa
