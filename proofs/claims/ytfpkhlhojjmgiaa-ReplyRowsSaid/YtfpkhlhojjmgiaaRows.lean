/-
  No cell of these rows narrows 'for every input' (looked for: loops, veiled, ifaces, maps, wideKeys, modest, calm, conditions, laid).
  DERIVED. THE GIVEN ROWS OF THIS SEAT. 8 by the template 'for every input the law returns true; each argument reads behind the call as it read before'; 0 by the template 'total and deterministic' (their statements: YtfpkhlhojjmgiaaTotals.lean).
  GIVEN WITH THE SEED: the statements are not yours to turn. If you find one false, say at which input.
  Laid BY PROGRAM, IN A SANDBOX (cutbox-rows.mjs): the forced cells as the released guide's own fill.sh prints them over the translation 1242a2800ef31442… (all of the seat's roots in one cut). By AI agents, Wed Nov 11 2026. No macro, syntax, notation, axiom, sorry.
-/
import Derived.Test.YtfpkhlhojjmgiaaChecked
import GoSem.Claim
import GoSem.ClaimJoined
import GoSem.ClaimMapViews
import Derived.JoinedTies
import Derived.KernelRfl
namespace Go.Proofs.Ytfpkhlhojjmgiaa
/- THE CELL 'sum', in the pinned program and in every row, IS THE sha256 OF THE DUMP (.gsa) THAT YtfpkhlhojjmgiaaProg.lean LOADS. Nothing in Lean hashes anything: it is a label: what it is worth is what the hold of that sum in a sandbox is worth. -/
noncomputable def Try.pinned : Pinned := { name := "ytfpkhlhojjmgiaa", sum := "1242a2800ef31442e8e128cde0b13d9eba9ac6326e699f74841c4b5d947ae250", checked := Try.checked }
namespace Rows
def none {H : Type} : Left H := { results := [], args := [] }

/-- 'engramlaw11.CellsBack': WHATEVER THE INPUT: true; the input reads as it did. -/
def cellsBackSpec : ChangeSpec := { name := "cellsBack", fn := fun _ => fun
  | [d1, d2, d3] => { results := [.lit (.bool true)], args := [d1, d2, d3] }
  | _ => none }
def cellsBackRow : OpenClaim := { program := "ytfpkhlhojjmgiaa", sum := "1242a2800ef31442e8e128cde0b13d9eba9ac6326e699f74841c4b5d947ae250", func := "engram/engramlaw11.CellsBack", spec := "cellsBack", apart := false }
def CellsBackSaid : Prop := cellsBackRow.holds Try.pinned (OpenSpec.ofChange cellsBackSpec)

/-- ITS FALSE NEIGHBOUR: 'it returns false'. Refute it at one input. -/
def cellsBackWrong : ChangeSpec := { name := "cellsBack", fn := fun _ => fun
  | [d1, d2, d3] => { results := [.lit (.bool false)], args := [d1, d2, d3] }
  | _ => none }
def CellsBackWrongFalsely : Prop := cellsBackRow.holds Try.pinned (OpenSpec.ofChange cellsBackWrong)

/-- 'engramlaw11.CellsCopies': WHATEVER THE INPUT: true; the input reads as it did. -/
def cellsCopiesSpec : ChangeSpec := { name := "cellsCopies", fn := fun _ => fun
  | [d] => { results := [.lit (.bool true)], args := [d] }
  | _ => none }
def cellsCopiesRow : OpenClaim := { program := "ytfpkhlhojjmgiaa", sum := "1242a2800ef31442e8e128cde0b13d9eba9ac6326e699f74841c4b5d947ae250", func := "engram/engramlaw11.CellsCopies", spec := "cellsCopies", apart := false }
def CellsCopiesSaid : Prop := cellsCopiesRow.holds Try.pinned (OpenSpec.ofChange cellsCopiesSpec)

/-- ITS FALSE NEIGHBOUR: 'it returns false'. Refute it at one input. -/
def cellsCopiesWrong : ChangeSpec := { name := "cellsCopies", fn := fun _ => fun
  | [d] => { results := [.lit (.bool false)], args := [d] }
  | _ => none }
def CellsCopiesWrongFalsely : Prop := cellsCopiesRow.holds Try.pinned (OpenSpec.ofChange cellsCopiesWrong)

/-- 'engramlaw12.ReplyNumbers': WHATEVER THE INPUT: true; the input reads as it did. -/
def replyNumbersSpec : ChangeSpec := { name := "replyNumbers", fn := fun _ => fun
  | [] => { results := [.lit (.bool true)], args := [] }
  | _ => none }
def replyNumbersRow : OpenClaim := { program := "ytfpkhlhojjmgiaa", sum := "1242a2800ef31442e8e128cde0b13d9eba9ac6326e699f74841c4b5d947ae250", func := "engram/engramlaw12.ReplyNumbers", spec := "replyNumbers", unfollowed := true, recurses := true, apart := false }
def ReplyNumbersSaid : Prop := replyNumbersRow.holds Try.pinned (OpenSpec.ofChange replyNumbersSpec)

/-- ITS FALSE NEIGHBOUR: 'it returns false'. Refute it at one input. -/
def replyNumbersWrong : ChangeSpec := { name := "replyNumbers", fn := fun _ => fun
  | [] => { results := [.lit (.bool false)], args := [] }
  | _ => none }
def ReplyNumbersWrongFalsely : Prop := replyNumbersRow.holds Try.pinned (OpenSpec.ofChange replyNumbersWrong)

/-- 'engramlaw12.ReplyTells': WHATEVER THE INPUT: true; the input reads as it did. -/
def replyTellsSpec : ChangeSpec := { name := "replyTells", fn := fun _ => fun
  | [d1, d2, d3, d4, d5] => { results := [.lit (.bool true)], args := [d1, d2, d3, d4, d5] }
  | _ => none }
def replyTellsRow : OpenClaim := { program := "ytfpkhlhojjmgiaa", sum := "1242a2800ef31442e8e128cde0b13d9eba9ac6326e699f74841c4b5d947ae250", func := "engram/engramlaw12.ReplyTells", spec := "replyTells", unfollowed := true, recurses := true, apart := false }
def ReplyTellsSaid : Prop := replyTellsRow.holds Try.pinned (OpenSpec.ofChange replyTellsSpec)

/-- ITS FALSE NEIGHBOUR: 'it returns false'. Refute it at one input. -/
def replyTellsWrong : ChangeSpec := { name := "replyTells", fn := fun _ => fun
  | [d1, d2, d3, d4, d5] => { results := [.lit (.bool false)], args := [d1, d2, d3, d4, d5] }
  | _ => none }
def ReplyTellsWrongFalsely : Prop := replyTellsRow.holds Try.pinned (OpenSpec.ofChange replyTellsWrong)

/-- 'engramlaw12.ReplyRows': WHATEVER THE INPUT: true; the input reads as it did. -/
def replyRowsSpec : ChangeSpec := { name := "replyRows", fn := fun _ => fun
  | [d1, d2, d3] => { results := [.lit (.bool true)], args := [d1, d2, d3] }
  | _ => none }
def replyRowsRow : OpenClaim := { program := "ytfpkhlhojjmgiaa", sum := "1242a2800ef31442e8e128cde0b13d9eba9ac6326e699f74841c4b5d947ae250", func := "engram/engramlaw12.ReplyRows", spec := "replyRows", unfollowed := true, recurses := true, apart := false }
def ReplyRowsSaid : Prop := replyRowsRow.holds Try.pinned (OpenSpec.ofChange replyRowsSpec)

/-- ITS FALSE NEIGHBOUR: 'it returns false'. Refute it at one input. -/
def replyRowsWrong : ChangeSpec := { name := "replyRows", fn := fun _ => fun
  | [d1, d2, d3] => { results := [.lit (.bool false)], args := [d1, d2, d3] }
  | _ => none }
def ReplyRowsWrongFalsely : Prop := replyRowsRow.holds Try.pinned (OpenSpec.ofChange replyRowsWrong)

/-- 'engramlaw12.ReplyAll': WHATEVER THE INPUT: true; the input reads as it did. -/
def replyAllSpec : ChangeSpec := { name := "replyAll", fn := fun _ => fun
  | [d1, d2, d3] => { results := [.lit (.bool true)], args := [d1, d2, d3] }
  | _ => none }
def replyAllRow : OpenClaim := { program := "ytfpkhlhojjmgiaa", sum := "1242a2800ef31442e8e128cde0b13d9eba9ac6326e699f74841c4b5d947ae250", func := "engram/engramlaw12.ReplyAll", spec := "replyAll", unfollowed := true, recurses := true, apart := false }
def ReplyAllSaid : Prop := replyAllRow.holds Try.pinned (OpenSpec.ofChange replyAllSpec)

/-- ITS FALSE NEIGHBOUR: 'it returns false'. Refute it at one input. -/
def replyAllWrong : ChangeSpec := { name := "replyAll", fn := fun _ => fun
  | [d1, d2, d3] => { results := [.lit (.bool false)], args := [d1, d2, d3] }
  | _ => none }
def ReplyAllWrongFalsely : Prop := replyAllRow.holds Try.pinned (OpenSpec.ofChange replyAllWrong)

/-- 'engramlaw15.ShadeNone': WHATEVER THE INPUT: true; the input reads as it did. -/
def shadeNoneSpec : ChangeSpec := { name := "shadeNone", fn := fun _ => fun
  | [d1, d2, d3, d4] => { results := [.lit (.bool true)], args := [d1, d2, d3, d4] }
  | _ => none }
def shadeNoneRow : OpenClaim := { program := "ytfpkhlhojjmgiaa", sum := "1242a2800ef31442e8e128cde0b13d9eba9ac6326e699f74841c4b5d947ae250", func := "engram/engramlaw15.ShadeNone", spec := "shadeNone", apart := false }
def ShadeNoneSaid : Prop := shadeNoneRow.holds Try.pinned (OpenSpec.ofChange shadeNoneSpec)

/-- ITS FALSE NEIGHBOUR: 'it returns false'. Refute it at one input. -/
def shadeNoneWrong : ChangeSpec := { name := "shadeNone", fn := fun _ => fun
  | [d1, d2, d3, d4] => { results := [.lit (.bool false)], args := [d1, d2, d3, d4] }
  | _ => none }
def ShadeNoneWrongFalsely : Prop := shadeNoneRow.holds Try.pinned (OpenSpec.ofChange shadeNoneWrong)

/-- 'engramlaw15.ShadeBack': WHATEVER THE INPUT: true; the input reads as it did. -/
def shadeBackSpec : ChangeSpec := { name := "shadeBack", fn := fun _ => fun
  | [d1, d2] => { results := [.lit (.bool true)], args := [d1, d2] }
  | _ => none }
def shadeBackRow : OpenClaim := { program := "ytfpkhlhojjmgiaa", sum := "1242a2800ef31442e8e128cde0b13d9eba9ac6326e699f74841c4b5d947ae250", func := "engram/engramlaw15.ShadeBack", spec := "shadeBack", apart := false }
def ShadeBackSaid : Prop := shadeBackRow.holds Try.pinned (OpenSpec.ofChange shadeBackSpec)

/-- ITS FALSE NEIGHBOUR: 'it returns false'. Refute it at one input. -/
def shadeBackWrong : ChangeSpec := { name := "shadeBack", fn := fun _ => fun
  | [d1, d2] => { results := [.lit (.bool false)], args := [d1, d2] }
  | _ => none }
def ShadeBackWrongFalsely : Prop := shadeBackRow.holds Try.pinned (OpenSpec.ofChange shadeBackWrong)

/- THE SECOND FORM. 'bulk': how many values and letters a reading holds, each counted each time it is reached (what is shared counts as often as it is met; a slice's spare places count too). A statement '..UptoSaid' is the law's where the arguments, and the package variables that the reading takes, are together of bulk at most 1048576: NARROWER than '..Said'. Prove '..Said' where nothing that the law and all that it calls make is longer than what came in: it says more and counts as full. Else prove '..UptoSaid'. A law counts once. -/
mutual
def uptoBulk {H : Type} : DataW H → Nat
  | .lit (.string bytes) => bytes.length + 1
  | .lit _ => 1
  | .nil => 1
  | .ptr d => uptoBulk d + 1
  | .slice elems spare => uptoBulkAll elems + uptoBulkAll spare + 1
  | .agg parts => uptoBulkAll parts + 1
  | .iface _ d => uptoBulk d + 1
  | .map entries => uptoBulkEntries entries + 1
  | .held _ => 1
def uptoBulkAll {H : Type} : List (DataW H) → Nat
  | [] => 0
  | d :: r => uptoBulk d + uptoBulkAll r
def uptoBulkEntries {H : Type} : List (Lit × DataW H) → Nat
  | [] => 0
  | x :: r => uptoBulkEntry x + uptoBulkEntries r
def uptoBulkEntry {H : Type} : Lit × DataW H → Nat
  | (.string bytes, d) => bytes.length + uptoBulk d + 1
  | (_, d) => uptoBulk d + 1
 end
def uptoSmall : (H : Type) → List (DataW H) → Bool := fun _ ds => decide (uptoBulkAll ds ≤ 1048576)
def OpenSpec.upto (s : _root_.Go.ChangeSpec) : _root_.Go.OpenSpec := { _root_.Go.OpenSpec.ofChange s with cond := some uptoSmall }

/-- 'engramlaw11.CellsBack', WHERE WHAT IT READS IS OF BULK AT MOST 1048576: true; the input reads as it did. -/
def cellsBackUptoRow : OpenClaim := { program := "ytfpkhlhojjmgiaa", sum := "1242a2800ef31442e8e128cde0b13d9eba9ac6326e699f74841c4b5d947ae250", func := "engram/engramlaw11.CellsBack", spec := "cellsBack", apart := false, narrowed := true }
def CellsBackUptoSaid : Prop := cellsBackUptoRow.holds Try.pinned (OpenSpec.upto cellsBackSpec)

/-- 'engramlaw11.CellsCopies', WHERE WHAT IT READS IS OF BULK AT MOST 1048576: true; the input reads as it did. -/
def cellsCopiesUptoRow : OpenClaim := { program := "ytfpkhlhojjmgiaa", sum := "1242a2800ef31442e8e128cde0b13d9eba9ac6326e699f74841c4b5d947ae250", func := "engram/engramlaw11.CellsCopies", spec := "cellsCopies", apart := false, narrowed := true }
def CellsCopiesUptoSaid : Prop := cellsCopiesUptoRow.holds Try.pinned (OpenSpec.upto cellsCopiesSpec)

/-- 'engramlaw12.ReplyNumbers', WHERE WHAT IT READS IS OF BULK AT MOST 1048576: true; the input reads as it did. -/
def replyNumbersUptoRow : OpenClaim := { program := "ytfpkhlhojjmgiaa", sum := "1242a2800ef31442e8e128cde0b13d9eba9ac6326e699f74841c4b5d947ae250", func := "engram/engramlaw12.ReplyNumbers", spec := "replyNumbers", unfollowed := true, recurses := true, apart := false, narrowed := true }
def ReplyNumbersUptoSaid : Prop := replyNumbersUptoRow.holds Try.pinned (OpenSpec.upto replyNumbersSpec)

/-- 'engramlaw12.ReplyTells', WHERE WHAT IT READS IS OF BULK AT MOST 1048576: true; the input reads as it did. -/
def replyTellsUptoRow : OpenClaim := { program := "ytfpkhlhojjmgiaa", sum := "1242a2800ef31442e8e128cde0b13d9eba9ac6326e699f74841c4b5d947ae250", func := "engram/engramlaw12.ReplyTells", spec := "replyTells", unfollowed := true, recurses := true, apart := false, narrowed := true }
def ReplyTellsUptoSaid : Prop := replyTellsUptoRow.holds Try.pinned (OpenSpec.upto replyTellsSpec)

/-- 'engramlaw12.ReplyRows', WHERE WHAT IT READS IS OF BULK AT MOST 1048576: true; the input reads as it did. -/
def replyRowsUptoRow : OpenClaim := { program := "ytfpkhlhojjmgiaa", sum := "1242a2800ef31442e8e128cde0b13d9eba9ac6326e699f74841c4b5d947ae250", func := "engram/engramlaw12.ReplyRows", spec := "replyRows", unfollowed := true, recurses := true, apart := false, narrowed := true }
def ReplyRowsUptoSaid : Prop := replyRowsUptoRow.holds Try.pinned (OpenSpec.upto replyRowsSpec)

/-- 'engramlaw12.ReplyAll', WHERE WHAT IT READS IS OF BULK AT MOST 1048576: true; the input reads as it did. -/
def replyAllUptoRow : OpenClaim := { program := "ytfpkhlhojjmgiaa", sum := "1242a2800ef31442e8e128cde0b13d9eba9ac6326e699f74841c4b5d947ae250", func := "engram/engramlaw12.ReplyAll", spec := "replyAll", unfollowed := true, recurses := true, apart := false, narrowed := true }
def ReplyAllUptoSaid : Prop := replyAllUptoRow.holds Try.pinned (OpenSpec.upto replyAllSpec)

/-- 'engramlaw15.ShadeNone', WHERE WHAT IT READS IS OF BULK AT MOST 1048576: true; the input reads as it did. -/
def shadeNoneUptoRow : OpenClaim := { program := "ytfpkhlhojjmgiaa", sum := "1242a2800ef31442e8e128cde0b13d9eba9ac6326e699f74841c4b5d947ae250", func := "engram/engramlaw15.ShadeNone", spec := "shadeNone", apart := false, narrowed := true }
def ShadeNoneUptoSaid : Prop := shadeNoneUptoRow.holds Try.pinned (OpenSpec.upto shadeNoneSpec)

/-- 'engramlaw15.ShadeBack', WHERE WHAT IT READS IS OF BULK AT MOST 1048576: true; the input reads as it did. -/
def shadeBackUptoRow : OpenClaim := { program := "ytfpkhlhojjmgiaa", sum := "1242a2800ef31442e8e128cde0b13d9eba9ac6326e699f74841c4b5d947ae250", func := "engram/engramlaw15.ShadeBack", spec := "shadeBack", apart := false, narrowed := true }
def ShadeBackUptoSaid : Prop := shadeBackUptoRow.holds Try.pinned (OpenSpec.upto shadeBackSpec)

end Rows
end Go.Proofs.Ytfpkhlhojjmgiaa
