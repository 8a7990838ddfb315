/-
  No cell of these rows narrows 'for every input' (looked for: loops, veiled, ifaces, maps, wideKeys, modest, calm, conditions, laid).
  DERIVED. THE GIVEN ROWS OF THIS SEAT. 7 by the template 'for every input the law returns true; each argument reads behind the call as it read before'; 0 by the template 'total and deterministic' (their statements: YtjngnigelkgekaaGreatTotals.lean).
  GIVEN WITH THE SEED: the statements are not yours to turn. If you find one false, say at which input.
  Laid BY PROGRAM, IN A SANDBOX (cutbox-rows.mjs): the forced cells as the released guide's own fill.sh prints them over the translation eca484ca43ba7c09… (all of the seat's roots in one cut). By AI agents, Wed Nov 11 2026. No macro, syntax, notation, axiom, sorry.
-/
import Derived.Test.YtjngnigelkgekaaGreatChecked
import GoSem.Claim
import GoSem.ClaimJoined
import GoSem.ClaimMapViews
import Derived.JoinedTies
import Derived.KernelRfl
namespace Go.Proofs.YtjngnigelkgekaaGreat
/- THE CELL 'sum', in the pinned program and in every row, IS THE sha256 OF THE DUMP (.gsa) THAT YtjngnigelkgekaaGreatProg.lean LOADS. Nothing in Lean hashes anything: it is a label: what it is worth is what the hold of that sum in a sandbox is worth. -/
noncomputable def Tryz.pinned : Pinned := { name := "ytjngnigelkgekaagreat", sum := "eca484ca43ba7c092c58028589e735307e280659998a74ff98688bab6ec71f2f", checked := Tryz.checked }
namespace Rows
def none {H : Type} : Left H := { results := [], args := [] }

/-- 'engramlaw18.StorePlays': WHATEVER THE INPUT: true; the input reads as it did. -/
def storePlaysSpec : ChangeSpec := { name := "storePlays", fn := fun _ => fun
  | [d1, d2, d3, d4, d5] => { results := [.lit (.bool true)], args := [d1, d2, d3, d4, d5] }
  | _ => none }
def storePlaysRow : OpenClaim := { program := "ytjngnigelkgekaagreat", sum := "eca484ca43ba7c092c58028589e735307e280659998a74ff98688bab6ec71f2f", func := "engram/engramlaw18.StorePlays", spec := "storePlays", unfollowed := true, recurses := true, apart := false }
def StorePlaysSaid : Prop := storePlaysRow.holds Tryz.pinned (OpenSpec.ofChange storePlaysSpec)

/-- ITS FALSE NEIGHBOUR: 'it returns false'. Refute it at one input. -/
def storePlaysWrong : ChangeSpec := { name := "storePlays", fn := fun _ => fun
  | [d1, d2, d3, d4, d5] => { results := [.lit (.bool false)], args := [d1, d2, d3, d4, d5] }
  | _ => none }
def StorePlaysWrongFalsely : Prop := storePlaysRow.holds Tryz.pinned (OpenSpec.ofChange storePlaysWrong)

/-- 'engramlaw19.HealNumbers': WHATEVER THE INPUT: true; the input reads as it did. -/
def healNumbersSpec : ChangeSpec := { name := "healNumbers", fn := fun _ => fun
  | [] => { results := [.lit (.bool true)], args := [] }
  | _ => none }
def healNumbersRow : OpenClaim := { program := "ytjngnigelkgekaagreat", sum := "eca484ca43ba7c092c58028589e735307e280659998a74ff98688bab6ec71f2f", func := "engram/engramlaw19.HealNumbers", spec := "healNumbers", unfollowed := true, recurses := true, apart := false }
def HealNumbersSaid : Prop := healNumbersRow.holds Tryz.pinned (OpenSpec.ofChange healNumbersSpec)

/-- ITS FALSE NEIGHBOUR: 'it returns false'. Refute it at one input. -/
def healNumbersWrong : ChangeSpec := { name := "healNumbers", fn := fun _ => fun
  | [] => { results := [.lit (.bool false)], args := [] }
  | _ => none }
def HealNumbersWrongFalsely : Prop := healNumbersRow.holds Tryz.pinned (OpenSpec.ofChange healNumbersWrong)

/-- 'engramlaw19.HealTells': WHATEVER THE INPUT: true; the input reads as it did. -/
def healTellsSpec : ChangeSpec := { name := "healTells", fn := fun _ => fun
  | [d1, d2, d3, d4, d5, d6] => { results := [.lit (.bool true)], args := [d1, d2, d3, d4, d5, d6] }
  | _ => none }
def healTellsRow : OpenClaim := { program := "ytjngnigelkgekaagreat", sum := "eca484ca43ba7c092c58028589e735307e280659998a74ff98688bab6ec71f2f", func := "engram/engramlaw19.HealTells", spec := "healTells", unfollowed := true, recurses := true, apart := false }
def HealTellsSaid : Prop := healTellsRow.holds Tryz.pinned (OpenSpec.ofChange healTellsSpec)

/-- ITS FALSE NEIGHBOUR: 'it returns false'. Refute it at one input. -/
def healTellsWrong : ChangeSpec := { name := "healTells", fn := fun _ => fun
  | [d1, d2, d3, d4, d5, d6] => { results := [.lit (.bool false)], args := [d1, d2, d3, d4, d5, d6] }
  | _ => none }
def HealTellsWrongFalsely : Prop := healTellsRow.holds Tryz.pinned (OpenSpec.ofChange healTellsWrong)

/-- 'engramlaw19.HealCounts': WHATEVER THE INPUT: true; the input reads as it did. -/
def healCountsSpec : ChangeSpec := { name := "healCounts", fn := fun _ => fun
  | [d1, d2] => { results := [.lit (.bool true)], args := [d1, d2] }
  | _ => none }
def healCountsRow : OpenClaim := { program := "ytjngnigelkgekaagreat", sum := "eca484ca43ba7c092c58028589e735307e280659998a74ff98688bab6ec71f2f", func := "engram/engramlaw19.HealCounts", spec := "healCounts", unfollowed := true, recurses := true, apart := false }
def HealCountsSaid : Prop := healCountsRow.holds Tryz.pinned (OpenSpec.ofChange healCountsSpec)

/-- ITS FALSE NEIGHBOUR: 'it returns false'. Refute it at one input. -/
def healCountsWrong : ChangeSpec := { name := "healCounts", fn := fun _ => fun
  | [d1, d2] => { results := [.lit (.bool false)], args := [d1, d2] }
  | _ => none }
def HealCountsWrongFalsely : Prop := healCountsRow.holds Tryz.pinned (OpenSpec.ofChange healCountsWrong)

/-- 'engramlaw19.HealTwice': WHATEVER THE INPUT: true; the input reads as it did. -/
def healTwiceSpec : ChangeSpec := { name := "healTwice", fn := fun _ => fun
  | [d1, d2, d3, d4] => { results := [.lit (.bool true)], args := [d1, d2, d3, d4] }
  | _ => none }
def healTwiceRow : OpenClaim := { program := "ytjngnigelkgekaagreat", sum := "eca484ca43ba7c092c58028589e735307e280659998a74ff98688bab6ec71f2f", func := "engram/engramlaw19.HealTwice", spec := "healTwice", unfollowed := true, recurses := true, apart := false }
def HealTwiceSaid : Prop := healTwiceRow.holds Tryz.pinned (OpenSpec.ofChange healTwiceSpec)

/-- ITS FALSE NEIGHBOUR: 'it returns false'. Refute it at one input. -/
def healTwiceWrong : ChangeSpec := { name := "healTwice", fn := fun _ => fun
  | [d1, d2, d3, d4] => { results := [.lit (.bool false)], args := [d1, d2, d3, d4] }
  | _ => none }
def HealTwiceWrongFalsely : Prop := healTwiceRow.holds Tryz.pinned (OpenSpec.ofChange healTwiceWrong)

/-- 'engramlaw18.StoreKeeps': WHATEVER THE INPUT: true; the input reads as it did. -/
def storeKeepsSpec : ChangeSpec := { name := "storeKeeps", fn := fun _ => fun
  | [d1, d2, d3] => { results := [.lit (.bool true)], args := [d1, d2, d3] }
  | _ => none }
def storeKeepsRow : OpenClaim := { program := "ytjngnigelkgekaagreat", sum := "eca484ca43ba7c092c58028589e735307e280659998a74ff98688bab6ec71f2f", func := "engram/engramlaw18.StoreKeeps", spec := "storeKeeps", unfollowed := true, recurses := true, apart := false }
def StoreKeepsSaid : Prop := storeKeepsRow.holds Tryz.pinned (OpenSpec.ofChange storeKeepsSpec)

/-- ITS FALSE NEIGHBOUR: 'it returns false'. Refute it at one input. -/
def storeKeepsWrong : ChangeSpec := { name := "storeKeeps", fn := fun _ => fun
  | [d1, d2, d3] => { results := [.lit (.bool false)], args := [d1, d2, d3] }
  | _ => none }
def StoreKeepsWrongFalsely : Prop := storeKeepsRow.holds Tryz.pinned (OpenSpec.ofChange storeKeepsWrong)

/-- 'engramlaw18.StoreNumbers': WHATEVER THE INPUT: true; the input reads as it did. -/
def storeNumbersSpec : ChangeSpec := { name := "storeNumbers", fn := fun _ => fun
  | [] => { results := [.lit (.bool true)], args := [] }
  | _ => none }
def storeNumbersRow : OpenClaim := { program := "ytjngnigelkgekaagreat", sum := "eca484ca43ba7c092c58028589e735307e280659998a74ff98688bab6ec71f2f", func := "engram/engramlaw18.StoreNumbers", spec := "storeNumbers", unfollowed := true, recurses := true, apart := false }
def StoreNumbersSaid : Prop := storeNumbersRow.holds Tryz.pinned (OpenSpec.ofChange storeNumbersSpec)

/-- ITS FALSE NEIGHBOUR: 'it returns false'. Refute it at one input. -/
def storeNumbersWrong : ChangeSpec := { name := "storeNumbers", fn := fun _ => fun
  | [] => { results := [.lit (.bool false)], args := [] }
  | _ => none }
def StoreNumbersWrongFalsely : Prop := storeNumbersRow.holds Tryz.pinned (OpenSpec.ofChange storeNumbersWrong)

/- THE SECOND FORM. 'bulk': how many values and letters a reading holds, each counted each time it is reached (what is shared counts as often as it is met; a slice's spare places count too). A statement '..UptoSaid' is the law's where the arguments, and the package variables that the reading takes, are together of bulk at most 1048576: NARROWER than '..Said'. Prove '..Said' where nothing that the law and all that it calls make is longer than what came in: it says more and counts as full. Else prove '..UptoSaid'. A law counts once. -/
mutual
def uptoBulk {H : Type} : DataW H → Nat
  | .lit (.string bytes) => bytes.length + 1
  | .lit _ => 1
  | .nil => 1
  | .ptr d => uptoBulk d + 1
  | .slice elems spare => uptoBulkAll elems + uptoBulkAll spare + 1
  | .agg parts => uptoBulkAll parts + 1
  | .iface _ d => uptoBulk d + 1
  | .map entries => uptoBulkEntries entries + 1
  | .held _ => 1
def uptoBulkAll {H : Type} : List (DataW H) → Nat
  | [] => 0
  | d :: r => uptoBulk d + uptoBulkAll r
def uptoBulkEntries {H : Type} : List (Lit × DataW H) → Nat
  | [] => 0
  | x :: r => uptoBulkEntry x + uptoBulkEntries r
def uptoBulkEntry {H : Type} : Lit × DataW H → Nat
  | (.string bytes, d) => bytes.length + uptoBulk d + 1
  | (_, d) => uptoBulk d + 1
 end
def uptoSmall : (H : Type) → List (DataW H) → Bool := fun _ ds => decide (uptoBulkAll ds ≤ 1048576)
def OpenSpec.upto (s : _root_.Go.ChangeSpec) : _root_.Go.OpenSpec := { _root_.Go.OpenSpec.ofChange s with cond := some uptoSmall }

/-- 'engramlaw18.StorePlays', WHERE WHAT IT READS IS OF BULK AT MOST 1048576: true; the input reads as it did. -/
def storePlaysUptoRow : OpenClaim := { program := "ytjngnigelkgekaagreat", sum := "eca484ca43ba7c092c58028589e735307e280659998a74ff98688bab6ec71f2f", func := "engram/engramlaw18.StorePlays", spec := "storePlays", unfollowed := true, recurses := true, apart := false, narrowed := true }
def StorePlaysUptoSaid : Prop := storePlaysUptoRow.holds Tryz.pinned (OpenSpec.upto storePlaysSpec)

/-- 'engramlaw19.HealNumbers', WHERE WHAT IT READS IS OF BULK AT MOST 1048576: true; the input reads as it did. -/
def healNumbersUptoRow : OpenClaim := { program := "ytjngnigelkgekaagreat", sum := "eca484ca43ba7c092c58028589e735307e280659998a74ff98688bab6ec71f2f", func := "engram/engramlaw19.HealNumbers", spec := "healNumbers", unfollowed := true, recurses := true, apart := false, narrowed := true }
def HealNumbersUptoSaid : Prop := healNumbersUptoRow.holds Tryz.pinned (OpenSpec.upto healNumbersSpec)

/-- 'engramlaw19.HealTells', WHERE WHAT IT READS IS OF BULK AT MOST 1048576: true; the input reads as it did. -/
def healTellsUptoRow : OpenClaim := { program := "ytjngnigelkgekaagreat", sum := "eca484ca43ba7c092c58028589e735307e280659998a74ff98688bab6ec71f2f", func := "engram/engramlaw19.HealTells", spec := "healTells", unfollowed := true, recurses := true, apart := false, narrowed := true }
def HealTellsUptoSaid : Prop := healTellsUptoRow.holds Tryz.pinned (OpenSpec.upto healTellsSpec)

/-- 'engramlaw19.HealCounts', WHERE WHAT IT READS IS OF BULK AT MOST 1048576: true; the input reads as it did. -/
def healCountsUptoRow : OpenClaim := { program := "ytjngnigelkgekaagreat", sum := "eca484ca43ba7c092c58028589e735307e280659998a74ff98688bab6ec71f2f", func := "engram/engramlaw19.HealCounts", spec := "healCounts", unfollowed := true, recurses := true, apart := false, narrowed := true }
def HealCountsUptoSaid : Prop := healCountsUptoRow.holds Tryz.pinned (OpenSpec.upto healCountsSpec)

/-- 'engramlaw19.HealTwice', WHERE WHAT IT READS IS OF BULK AT MOST 1048576: true; the input reads as it did. -/
def healTwiceUptoRow : OpenClaim := { program := "ytjngnigelkgekaagreat", sum := "eca484ca43ba7c092c58028589e735307e280659998a74ff98688bab6ec71f2f", func := "engram/engramlaw19.HealTwice", spec := "healTwice", unfollowed := true, recurses := true, apart := false, narrowed := true }
def HealTwiceUptoSaid : Prop := healTwiceUptoRow.holds Tryz.pinned (OpenSpec.upto healTwiceSpec)

/-- 'engramlaw18.StoreKeeps', WHERE WHAT IT READS IS OF BULK AT MOST 1048576: true; the input reads as it did. -/
def storeKeepsUptoRow : OpenClaim := { program := "ytjngnigelkgekaagreat", sum := "eca484ca43ba7c092c58028589e735307e280659998a74ff98688bab6ec71f2f", func := "engram/engramlaw18.StoreKeeps", spec := "storeKeeps", unfollowed := true, recurses := true, apart := false, narrowed := true }
def StoreKeepsUptoSaid : Prop := storeKeepsUptoRow.holds Tryz.pinned (OpenSpec.upto storeKeepsSpec)

/-- 'engramlaw18.StoreNumbers', WHERE WHAT IT READS IS OF BULK AT MOST 1048576: true; the input reads as it did. -/
def storeNumbersUptoRow : OpenClaim := { program := "ytjngnigelkgekaagreat", sum := "eca484ca43ba7c092c58028589e735307e280659998a74ff98688bab6ec71f2f", func := "engram/engramlaw18.StoreNumbers", spec := "storeNumbers", unfollowed := true, recurses := true, apart := false, narrowed := true }
def StoreNumbersUptoSaid : Prop := storeNumbersUptoRow.holds Tryz.pinned (OpenSpec.upto storeNumbersSpec)

end Rows
end Go.Proofs.YtjngnigelkgekaaGreat
