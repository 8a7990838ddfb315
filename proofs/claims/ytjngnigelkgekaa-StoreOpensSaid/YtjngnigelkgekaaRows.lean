/-
  No cell of these rows narrows 'for every input' (looked for: loops, veiled, ifaces, maps, wideKeys, modest, calm, conditions, laid).
  DERIVED. THE GIVEN ROWS OF THIS SEAT. 16 by the template 'for every input the law returns true; each argument reads behind the call as it read before'; 0 by the template 'total and deterministic' (their statements: YtjngnigelkgekaaTotals.lean).
  GIVEN WITH THE SEED: the statements are not yours to turn. If you find one false, say at which input.
  Laid BY PROGRAM, IN A SANDBOX (cutbox-rows.mjs): the forced cells as the released guide's own fill.sh prints them over the translation 9075cb8a9fa6c72c… (all of the seat's roots in one cut). By AI agents, Wed Nov 11 2026. No macro, syntax, notation, axiom, sorry.
-/
import Derived.Test.YtjngnigelkgekaaChecked
import GoSem.Claim
import GoSem.ClaimJoined
import GoSem.ClaimMapViews
import Derived.JoinedTies
import Derived.KernelRfl
namespace Go.Proofs.Ytjngnigelkgekaa
/- THE CELL 'sum', in the pinned program and in every row, IS THE sha256 OF THE DUMP (.gsa) THAT YtjngnigelkgekaaProg.lean LOADS. Nothing in Lean hashes anything: it is a label: what it is worth is what the hold of that sum in a sandbox is worth. -/
noncomputable def Try.pinned : Pinned := { name := "ytjngnigelkgekaa", sum := "9075cb8a9fa6c72cc266fb6af6789e34e27677d9fcb5ec0db92fe4d58ea74262", checked := Try.checked }
namespace Rows
def none {H : Type} : Left H := { results := [], args := [] }

/-- 'engramlaw17.HomeBack': WHATEVER THE INPUT: true; the input reads as it did. -/
def homeBackSpec : ChangeSpec := { name := "homeBack", fn := fun _ => fun
  | [d1, d2] => { results := [.lit (.bool true)], args := [d1, d2] }
  | _ => none }
def homeBackRow : OpenClaim := { program := "ytjngnigelkgekaa", sum := "9075cb8a9fa6c72cc266fb6af6789e34e27677d9fcb5ec0db92fe4d58ea74262", func := "engram/engramlaw17.HomeBack", spec := "homeBack", apart := false }
def HomeBackSaid : Prop := homeBackRow.holds Try.pinned (OpenSpec.ofChange homeBackSpec)

/-- ITS FALSE NEIGHBOUR: 'it returns false'. Refute it at one input. -/
def homeBackWrong : ChangeSpec := { name := "homeBack", fn := fun _ => fun
  | [d1, d2] => { results := [.lit (.bool false)], args := [d1, d2] }
  | _ => none }
def HomeBackWrongFalsely : Prop := homeBackRow.holds Try.pinned (OpenSpec.ofChange homeBackWrong)

/-- 'engramlaw18.StoreFull': WHATEVER THE INPUT: true; the input reads as it did. -/
def storeFullSpec : ChangeSpec := { name := "storeFull", fn := fun _ => fun
  | [d1, d2] => { results := [.lit (.bool true)], args := [d1, d2] }
  | _ => none }
def storeFullRow : OpenClaim := { program := "ytjngnigelkgekaa", sum := "9075cb8a9fa6c72cc266fb6af6789e34e27677d9fcb5ec0db92fe4d58ea74262", func := "engram/engramlaw18.StoreFull", spec := "storeFull", unfollowed := true, recurses := true, apart := false }
def StoreFullSaid : Prop := storeFullRow.holds Try.pinned (OpenSpec.ofChange storeFullSpec)

/-- ITS FALSE NEIGHBOUR: 'it returns false'. Refute it at one input. -/
def storeFullWrong : ChangeSpec := { name := "storeFull", fn := fun _ => fun
  | [d1, d2] => { results := [.lit (.bool false)], args := [d1, d2] }
  | _ => none }
def StoreFullWrongFalsely : Prop := storeFullRow.holds Try.pinned (OpenSpec.ofChange storeFullWrong)

/-- 'engramlaw5.RootNumbers': WHATEVER THE INPUT: true; the input reads as it did. -/
def rootNumbersSpec : ChangeSpec := { name := "rootNumbers", fn := fun _ => fun
  | [] => { results := [.lit (.bool true)], args := [] }
  | _ => none }
def rootNumbersRow : OpenClaim := { program := "ytjngnigelkgekaa", sum := "9075cb8a9fa6c72cc266fb6af6789e34e27677d9fcb5ec0db92fe4d58ea74262", func := "engram/engramlaw5.RootNumbers", spec := "rootNumbers", apart := false }
def RootNumbersSaid : Prop := rootNumbersRow.holds Try.pinned (OpenSpec.ofChange rootNumbersSpec)

/-- ITS FALSE NEIGHBOUR: 'it returns false'. Refute it at one input. -/
def rootNumbersWrong : ChangeSpec := { name := "rootNumbers", fn := fun _ => fun
  | [] => { results := [.lit (.bool false)], args := [] }
  | _ => none }
def RootNumbersWrongFalsely : Prop := rootNumbersRow.holds Try.pinned (OpenSpec.ofChange rootNumbersWrong)

/-- 'engramlaw5.RootTells': WHATEVER THE INPUT: true; the input reads as it did. -/
def rootTellsSpec : ChangeSpec := { name := "rootTells", fn := fun _ => fun
  | [d1, d2, d3, d4, d5, d6, d7] => { results := [.lit (.bool true)], args := [d1, d2, d3, d4, d5, d6, d7] }
  | _ => none }
def rootTellsRow : OpenClaim := { program := "ytjngnigelkgekaa", sum := "9075cb8a9fa6c72cc266fb6af6789e34e27677d9fcb5ec0db92fe4d58ea74262", func := "engram/engramlaw5.RootTells", spec := "rootTells", apart := false }
def RootTellsSaid : Prop := rootTellsRow.holds Try.pinned (OpenSpec.ofChange rootTellsSpec)

/-- ITS FALSE NEIGHBOUR: 'it returns false'. Refute it at one input. -/
def rootTellsWrong : ChangeSpec := { name := "rootTells", fn := fun _ => fun
  | [d1, d2, d3, d4, d5, d6, d7] => { results := [.lit (.bool false)], args := [d1, d2, d3, d4, d5, d6, d7] }
  | _ => none }
def RootTellsWrongFalsely : Prop := rootTellsRow.holds Try.pinned (OpenSpec.ofChange rootTellsWrong)

/-- 'engramlaw5.RootBack': WHATEVER THE INPUT: true; the input reads as it did. -/
def rootBackSpec : ChangeSpec := { name := "rootBack", fn := fun _ => fun
  | [d1, d2, d3, d4, d5, d6] => { results := [.lit (.bool true)], args := [d1, d2, d3, d4, d5, d6] }
  | _ => none }
def rootBackRow : OpenClaim := { program := "ytjngnigelkgekaa", sum := "9075cb8a9fa6c72cc266fb6af6789e34e27677d9fcb5ec0db92fe4d58ea74262", func := "engram/engramlaw5.RootBack", spec := "rootBack", apart := false }
def RootBackSaid : Prop := rootBackRow.holds Try.pinned (OpenSpec.ofChange rootBackSpec)

/-- ITS FALSE NEIGHBOUR: 'it returns false'. Refute it at one input. -/
def rootBackWrong : ChangeSpec := { name := "rootBack", fn := fun _ => fun
  | [d1, d2, d3, d4, d5, d6] => { results := [.lit (.bool false)], args := [d1, d2, d3, d4, d5, d6] }
  | _ => none }
def RootBackWrongFalsely : Prop := rootBackRow.holds Try.pinned (OpenSpec.ofChange rootBackWrong)

/-- 'engramlaw1.DiskOf': WHATEVER THE INPUT: true; the input reads as it did. -/
def diskOfSpec : ChangeSpec := { name := "diskOf", fn := fun _ => fun
  | [d1, d2] => { results := [.lit (.bool true)], args := [d1, d2] }
  | _ => none }
def diskOfRow : OpenClaim := { program := "ytjngnigelkgekaa", sum := "9075cb8a9fa6c72cc266fb6af6789e34e27677d9fcb5ec0db92fe4d58ea74262", func := "engram/engramlaw1.DiskOf", spec := "diskOf", unfollowed := true, recurses := true, apart := false }
def DiskOfSaid : Prop := diskOfRow.holds Try.pinned (OpenSpec.ofChange diskOfSpec)

/-- ITS FALSE NEIGHBOUR: 'it returns false'. Refute it at one input. -/
def diskOfWrong : ChangeSpec := { name := "diskOf", fn := fun _ => fun
  | [d1, d2] => { results := [.lit (.bool false)], args := [d1, d2] }
  | _ => none }
def DiskOfWrongFalsely : Prop := diskOfRow.holds Try.pinned (OpenSpec.ofChange diskOfWrong)

/-- 'engramlaw1.DiskNumbers': WHATEVER THE INPUT: true; the input reads as it did. -/
def diskNumbersSpec : ChangeSpec := { name := "diskNumbers", fn := fun _ => fun
  | [] => { results := [.lit (.bool true)], args := [] }
  | _ => none }
def diskNumbersRow : OpenClaim := { program := "ytjngnigelkgekaa", sum := "9075cb8a9fa6c72cc266fb6af6789e34e27677d9fcb5ec0db92fe4d58ea74262", func := "engram/engramlaw1.DiskNumbers", spec := "diskNumbers", unfollowed := true, recurses := true, apart := false }
def DiskNumbersSaid : Prop := diskNumbersRow.holds Try.pinned (OpenSpec.ofChange diskNumbersSpec)

/-- ITS FALSE NEIGHBOUR: 'it returns false'. Refute it at one input. -/
def diskNumbersWrong : ChangeSpec := { name := "diskNumbers", fn := fun _ => fun
  | [] => { results := [.lit (.bool false)], args := [] }
  | _ => none }
def DiskNumbersWrongFalsely : Prop := diskNumbersRow.holds Try.pinned (OpenSpec.ofChange diskNumbersWrong)

/-- 'engramlaw1.DiskPlays': WHATEVER THE INPUT: true; the input reads as it did. -/
def diskPlaysSpec : ChangeSpec := { name := "diskPlays", fn := fun _ => fun
  | [d1, d2, d3] => { results := [.lit (.bool true)], args := [d1, d2, d3] }
  | _ => none }
def diskPlaysRow : OpenClaim := { program := "ytjngnigelkgekaa", sum := "9075cb8a9fa6c72cc266fb6af6789e34e27677d9fcb5ec0db92fe4d58ea74262", func := "engram/engramlaw1.DiskPlays", spec := "diskPlays", unfollowed := true, recurses := true, apart := false }
def DiskPlaysSaid : Prop := diskPlaysRow.holds Try.pinned (OpenSpec.ofChange diskPlaysSpec)

/-- ITS FALSE NEIGHBOUR: 'it returns false'. Refute it at one input. -/
def diskPlaysWrong : ChangeSpec := { name := "diskPlays", fn := fun _ => fun
  | [d1, d2, d3] => { results := [.lit (.bool false)], args := [d1, d2, d3] }
  | _ => none }
def DiskPlaysWrongFalsely : Prop := diskPlaysRow.holds Try.pinned (OpenSpec.ofChange diskPlaysWrong)

/-- 'engramlaw1.DiskKeeps': WHATEVER THE INPUT: true; the input reads as it did. -/
def diskKeepsSpec : ChangeSpec := { name := "diskKeeps", fn := fun _ => fun
  | [d1, d2, d3, d4] => { results := [.lit (.bool true)], args := [d1, d2, d3, d4] }
  | _ => none }
def diskKeepsRow : OpenClaim := { program := "ytjngnigelkgekaa", sum := "9075cb8a9fa6c72cc266fb6af6789e34e27677d9fcb5ec0db92fe4d58ea74262", func := "engram/engramlaw1.DiskKeeps", spec := "diskKeeps", unfollowed := true, recurses := true, apart := false }
def DiskKeepsSaid : Prop := diskKeepsRow.holds Try.pinned (OpenSpec.ofChange diskKeepsSpec)

/-- ITS FALSE NEIGHBOUR: 'it returns false'. Refute it at one input. -/
def diskKeepsWrong : ChangeSpec := { name := "diskKeeps", fn := fun _ => fun
  | [d1, d2, d3, d4] => { results := [.lit (.bool false)], args := [d1, d2, d3, d4] }
  | _ => none }
def DiskKeepsWrongFalsely : Prop := diskKeepsRow.holds Try.pinned (OpenSpec.ofChange diskKeepsWrong)

/-- 'engramlaw1.DiskWaits': WHATEVER THE INPUT: true; the input reads as it did. -/
def diskWaitsSpec : ChangeSpec := { name := "diskWaits", fn := fun _ => fun
  | [d1, d2] => { results := [.lit (.bool true)], args := [d1, d2] }
  | _ => none }
def diskWaitsRow : OpenClaim := { program := "ytjngnigelkgekaa", sum := "9075cb8a9fa6c72cc266fb6af6789e34e27677d9fcb5ec0db92fe4d58ea74262", func := "engram/engramlaw1.DiskWaits", spec := "diskWaits", unfollowed := true, recurses := true, apart := false }
def DiskWaitsSaid : Prop := diskWaitsRow.holds Try.pinned (OpenSpec.ofChange diskWaitsSpec)

/-- ITS FALSE NEIGHBOUR: 'it returns false'. Refute it at one input. -/
def diskWaitsWrong : ChangeSpec := { name := "diskWaits", fn := fun _ => fun
  | [d1, d2] => { results := [.lit (.bool false)], args := [d1, d2] }
  | _ => none }
def DiskWaitsWrongFalsely : Prop := diskWaitsRow.holds Try.pinned (OpenSpec.ofChange diskWaitsWrong)

/-- 'engramlaw17.HomeNumbers': WHATEVER THE INPUT: true; the input reads as it did. -/
def homeNumbersSpec : ChangeSpec := { name := "homeNumbers", fn := fun _ => fun
  | [] => { results := [.lit (.bool true)], args := [] }
  | _ => none }
def homeNumbersRow : OpenClaim := { program := "ytjngnigelkgekaa", sum := "9075cb8a9fa6c72cc266fb6af6789e34e27677d9fcb5ec0db92fe4d58ea74262", func := "engram/engramlaw17.HomeNumbers", spec := "homeNumbers", unfollowed := true, recurses := true, apart := false }
def HomeNumbersSaid : Prop := homeNumbersRow.holds Try.pinned (OpenSpec.ofChange homeNumbersSpec)

/-- ITS FALSE NEIGHBOUR: 'it returns false'. Refute it at one input. -/
def homeNumbersWrong : ChangeSpec := { name := "homeNumbers", fn := fun _ => fun
  | [] => { results := [.lit (.bool false)], args := [] }
  | _ => none }
def HomeNumbersWrongFalsely : Prop := homeNumbersRow.holds Try.pinned (OpenSpec.ofChange homeNumbersWrong)

/-- 'engramlaw17.HomeTells': WHATEVER THE INPUT: true; the input reads as it did. -/
def homeTellsSpec : ChangeSpec := { name := "homeTells", fn := fun _ => fun
  | [d1, d2, d3, d4] => { results := [.lit (.bool true)], args := [d1, d2, d3, d4] }
  | _ => none }
def homeTellsRow : OpenClaim := { program := "ytjngnigelkgekaa", sum := "9075cb8a9fa6c72cc266fb6af6789e34e27677d9fcb5ec0db92fe4d58ea74262", func := "engram/engramlaw17.HomeTells", spec := "homeTells", unfollowed := true, recurses := true, apart := false }
def HomeTellsSaid : Prop := homeTellsRow.holds Try.pinned (OpenSpec.ofChange homeTellsSpec)

/-- ITS FALSE NEIGHBOUR: 'it returns false'. Refute it at one input. -/
def homeTellsWrong : ChangeSpec := { name := "homeTells", fn := fun _ => fun
  | [d1, d2, d3, d4] => { results := [.lit (.bool false)], args := [d1, d2, d3, d4] }
  | _ => none }
def HomeTellsWrongFalsely : Prop := homeTellsRow.holds Try.pinned (OpenSpec.ofChange homeTellsWrong)

/-- 'engramlaw16.RedoNumbers': WHATEVER THE INPUT: true; the input reads as it did. -/
def redoNumbersSpec : ChangeSpec := { name := "redoNumbers", fn := fun _ => fun
  | [] => { results := [.lit (.bool true)], args := [] }
  | _ => none }
def redoNumbersRow : OpenClaim := { program := "ytjngnigelkgekaa", sum := "9075cb8a9fa6c72cc266fb6af6789e34e27677d9fcb5ec0db92fe4d58ea74262", func := "engram/engramlaw16.RedoNumbers", spec := "redoNumbers", unfollowed := true, recurses := true, apart := false }
def RedoNumbersSaid : Prop := redoNumbersRow.holds Try.pinned (OpenSpec.ofChange redoNumbersSpec)

/-- ITS FALSE NEIGHBOUR: 'it returns false'. Refute it at one input. -/
def redoNumbersWrong : ChangeSpec := { name := "redoNumbers", fn := fun _ => fun
  | [] => { results := [.lit (.bool false)], args := [] }
  | _ => none }
def RedoNumbersWrongFalsely : Prop := redoNumbersRow.holds Try.pinned (OpenSpec.ofChange redoNumbersWrong)

/-- 'engramlaw16.RedoTells': WHATEVER THE INPUT: true; the input reads as it did. -/
def redoTellsSpec : ChangeSpec := { name := "redoTells", fn := fun _ => fun
  | [d1, d2, d3, d4, d5, d6] => { results := [.lit (.bool true)], args := [d1, d2, d3, d4, d5, d6] }
  | _ => none }
def redoTellsRow : OpenClaim := { program := "ytjngnigelkgekaa", sum := "9075cb8a9fa6c72cc266fb6af6789e34e27677d9fcb5ec0db92fe4d58ea74262", func := "engram/engramlaw16.RedoTells", spec := "redoTells", unfollowed := true, recurses := true, apart := false }
def RedoTellsSaid : Prop := redoTellsRow.holds Try.pinned (OpenSpec.ofChange redoTellsSpec)

/-- ITS FALSE NEIGHBOUR: 'it returns false'. Refute it at one input. -/
def redoTellsWrong : ChangeSpec := { name := "redoTells", fn := fun _ => fun
  | [d1, d2, d3, d4, d5, d6] => { results := [.lit (.bool false)], args := [d1, d2, d3, d4, d5, d6] }
  | _ => none }
def RedoTellsWrongFalsely : Prop := redoTellsRow.holds Try.pinned (OpenSpec.ofChange redoTellsWrong)

/-- 'engramlaw16.RedoBack': WHATEVER THE INPUT: true; the input reads as it did. -/
def redoBackSpec : ChangeSpec := { name := "redoBack", fn := fun _ => fun
  | [d1, d2, d3] => { results := [.lit (.bool true)], args := [d1, d2, d3] }
  | _ => none }
def redoBackRow : OpenClaim := { program := "ytjngnigelkgekaa", sum := "9075cb8a9fa6c72cc266fb6af6789e34e27677d9fcb5ec0db92fe4d58ea74262", func := "engram/engramlaw16.RedoBack", spec := "redoBack", unfollowed := true, recurses := true, apart := false }
def RedoBackSaid : Prop := redoBackRow.holds Try.pinned (OpenSpec.ofChange redoBackSpec)

/-- ITS FALSE NEIGHBOUR: 'it returns false'. Refute it at one input. -/
def redoBackWrong : ChangeSpec := { name := "redoBack", fn := fun _ => fun
  | [d1, d2, d3] => { results := [.lit (.bool false)], args := [d1, d2, d3] }
  | _ => none }
def RedoBackWrongFalsely : Prop := redoBackRow.holds Try.pinned (OpenSpec.ofChange redoBackWrong)

/-- 'engramlaw18.StoreOpens': WHATEVER THE INPUT: true; the input reads as it did. -/
def storeOpensSpec : ChangeSpec := { name := "storeOpens", fn := fun _ => fun
  | [d1, d2] => { results := [.lit (.bool true)], args := [d1, d2] }
  | _ => none }
def storeOpensRow : OpenClaim := { program := "ytjngnigelkgekaa", sum := "9075cb8a9fa6c72cc266fb6af6789e34e27677d9fcb5ec0db92fe4d58ea74262", func := "engram/engramlaw18.StoreOpens", spec := "storeOpens", unfollowed := true, recurses := true, apart := false }
def StoreOpensSaid : Prop := storeOpensRow.holds Try.pinned (OpenSpec.ofChange storeOpensSpec)

/-- ITS FALSE NEIGHBOUR: 'it returns false'. Refute it at one input. -/
def storeOpensWrong : ChangeSpec := { name := "storeOpens", fn := fun _ => fun
  | [d1, d2] => { results := [.lit (.bool false)], args := [d1, d2] }
  | _ => none }
def StoreOpensWrongFalsely : Prop := storeOpensRow.holds Try.pinned (OpenSpec.ofChange storeOpensWrong)

/- THE SECOND FORM. 'bulk': how many values and letters a reading holds, each counted each time it is reached (what is shared counts as often as it is met; a slice's spare places count too). A statement '..UptoSaid' is the law's where the arguments, and the package variables that the reading takes, are together of bulk at most 1048576: NARROWER than '..Said'. Prove '..Said' where nothing that the law and all that it calls make is longer than what came in: it says more and counts as full. Else prove '..UptoSaid'. A law counts once. -/
mutual
def uptoBulk {H : Type} : DataW H → Nat
  | .lit (.string bytes) => bytes.length + 1
  | .lit _ => 1
  | .nil => 1
  | .ptr d => uptoBulk d + 1
  | .slice elems spare => uptoBulkAll elems + uptoBulkAll spare + 1
  | .agg parts => uptoBulkAll parts + 1
  | .iface _ d => uptoBulk d + 1
  | .map entries => uptoBulkEntries entries + 1
  | .held _ => 1
def uptoBulkAll {H : Type} : List (DataW H) → Nat
  | [] => 0
  | d :: r => uptoBulk d + uptoBulkAll r
def uptoBulkEntries {H : Type} : List (Lit × DataW H) → Nat
  | [] => 0
  | x :: r => uptoBulkEntry x + uptoBulkEntries r
def uptoBulkEntry {H : Type} : Lit × DataW H → Nat
  | (.string bytes, d) => bytes.length + uptoBulk d + 1
  | (_, d) => uptoBulk d + 1
 end
def uptoSmall : (H : Type) → List (DataW H) → Bool := fun _ ds => decide (uptoBulkAll ds ≤ 1048576)
def OpenSpec.upto (s : _root_.Go.ChangeSpec) : _root_.Go.OpenSpec := { _root_.Go.OpenSpec.ofChange s with cond := some uptoSmall }

/-- 'engramlaw17.HomeBack', WHERE WHAT IT READS IS OF BULK AT MOST 1048576: true; the input reads as it did. -/
def homeBackUptoRow : OpenClaim := { program := "ytjngnigelkgekaa", sum := "9075cb8a9fa6c72cc266fb6af6789e34e27677d9fcb5ec0db92fe4d58ea74262", func := "engram/engramlaw17.HomeBack", spec := "homeBack", apart := false, narrowed := true }
def HomeBackUptoSaid : Prop := homeBackUptoRow.holds Try.pinned (OpenSpec.upto homeBackSpec)

/-- 'engramlaw18.StoreFull', WHERE WHAT IT READS IS OF BULK AT MOST 1048576: true; the input reads as it did. -/
def storeFullUptoRow : OpenClaim := { program := "ytjngnigelkgekaa", sum := "9075cb8a9fa6c72cc266fb6af6789e34e27677d9fcb5ec0db92fe4d58ea74262", func := "engram/engramlaw18.StoreFull", spec := "storeFull", unfollowed := true, recurses := true, apart := false, narrowed := true }
def StoreFullUptoSaid : Prop := storeFullUptoRow.holds Try.pinned (OpenSpec.upto storeFullSpec)

/-- 'engramlaw5.RootNumbers', WHERE WHAT IT READS IS OF BULK AT MOST 1048576: true; the input reads as it did. -/
def rootNumbersUptoRow : OpenClaim := { program := "ytjngnigelkgekaa", sum := "9075cb8a9fa6c72cc266fb6af6789e34e27677d9fcb5ec0db92fe4d58ea74262", func := "engram/engramlaw5.RootNumbers", spec := "rootNumbers", apart := false, narrowed := true }
def RootNumbersUptoSaid : Prop := rootNumbersUptoRow.holds Try.pinned (OpenSpec.upto rootNumbersSpec)

/-- 'engramlaw5.RootTells', WHERE WHAT IT READS IS OF BULK AT MOST 1048576: true; the input reads as it did. -/
def rootTellsUptoRow : OpenClaim := { program := "ytjngnigelkgekaa", sum := "9075cb8a9fa6c72cc266fb6af6789e34e27677d9fcb5ec0db92fe4d58ea74262", func := "engram/engramlaw5.RootTells", spec := "rootTells", apart := false, narrowed := true }
def RootTellsUptoSaid : Prop := rootTellsUptoRow.holds Try.pinned (OpenSpec.upto rootTellsSpec)

/-- 'engramlaw5.RootBack', WHERE WHAT IT READS IS OF BULK AT MOST 1048576: true; the input reads as it did. -/
def rootBackUptoRow : OpenClaim := { program := "ytjngnigelkgekaa", sum := "9075cb8a9fa6c72cc266fb6af6789e34e27677d9fcb5ec0db92fe4d58ea74262", func := "engram/engramlaw5.RootBack", spec := "rootBack", apart := false, narrowed := true }
def RootBackUptoSaid : Prop := rootBackUptoRow.holds Try.pinned (OpenSpec.upto rootBackSpec)

/-- 'engramlaw1.DiskOf', WHERE WHAT IT READS IS OF BULK AT MOST 1048576: true; the input reads as it did. -/
def diskOfUptoRow : OpenClaim := { program := "ytjngnigelkgekaa", sum := "9075cb8a9fa6c72cc266fb6af6789e34e27677d9fcb5ec0db92fe4d58ea74262", func := "engram/engramlaw1.DiskOf", spec := "diskOf", unfollowed := true, recurses := true, apart := false, narrowed := true }
def DiskOfUptoSaid : Prop := diskOfUptoRow.holds Try.pinned (OpenSpec.upto diskOfSpec)

/-- 'engramlaw1.DiskNumbers', WHERE WHAT IT READS IS OF BULK AT MOST 1048576: true; the input reads as it did. -/
def diskNumbersUptoRow : OpenClaim := { program := "ytjngnigelkgekaa", sum := "9075cb8a9fa6c72cc266fb6af6789e34e27677d9fcb5ec0db92fe4d58ea74262", func := "engram/engramlaw1.DiskNumbers", spec := "diskNumbers", unfollowed := true, recurses := true, apart := false, narrowed := true }
def DiskNumbersUptoSaid : Prop := diskNumbersUptoRow.holds Try.pinned (OpenSpec.upto diskNumbersSpec)

/-- 'engramlaw1.DiskPlays', WHERE WHAT IT READS IS OF BULK AT MOST 1048576: true; the input reads as it did. -/
def diskPlaysUptoRow : OpenClaim := { program := "ytjngnigelkgekaa", sum := "9075cb8a9fa6c72cc266fb6af6789e34e27677d9fcb5ec0db92fe4d58ea74262", func := "engram/engramlaw1.DiskPlays", spec := "diskPlays", unfollowed := true, recurses := true, apart := false, narrowed := true }
def DiskPlaysUptoSaid : Prop := diskPlaysUptoRow.holds Try.pinned (OpenSpec.upto diskPlaysSpec)

/-- 'engramlaw1.DiskKeeps', WHERE WHAT IT READS IS OF BULK AT MOST 1048576: true; the input reads as it did. -/
def diskKeepsUptoRow : OpenClaim := { program := "ytjngnigelkgekaa", sum := "9075cb8a9fa6c72cc266fb6af6789e34e27677d9fcb5ec0db92fe4d58ea74262", func := "engram/engramlaw1.DiskKeeps", spec := "diskKeeps", unfollowed := true, recurses := true, apart := false, narrowed := true }
def DiskKeepsUptoSaid : Prop := diskKeepsUptoRow.holds Try.pinned (OpenSpec.upto diskKeepsSpec)

/-- 'engramlaw1.DiskWaits', WHERE WHAT IT READS IS OF BULK AT MOST 1048576: true; the input reads as it did. -/
def diskWaitsUptoRow : OpenClaim := { program := "ytjngnigelkgekaa", sum := "9075cb8a9fa6c72cc266fb6af6789e34e27677d9fcb5ec0db92fe4d58ea74262", func := "engram/engramlaw1.DiskWaits", spec := "diskWaits", unfollowed := true, recurses := true, apart := false, narrowed := true }
def DiskWaitsUptoSaid : Prop := diskWaitsUptoRow.holds Try.pinned (OpenSpec.upto diskWaitsSpec)

/-- 'engramlaw17.HomeNumbers', WHERE WHAT IT READS IS OF BULK AT MOST 1048576: true; the input reads as it did. -/
def homeNumbersUptoRow : OpenClaim := { program := "ytjngnigelkgekaa", sum := "9075cb8a9fa6c72cc266fb6af6789e34e27677d9fcb5ec0db92fe4d58ea74262", func := "engram/engramlaw17.HomeNumbers", spec := "homeNumbers", unfollowed := true, recurses := true, apart := false, narrowed := true }
def HomeNumbersUptoSaid : Prop := homeNumbersUptoRow.holds Try.pinned (OpenSpec.upto homeNumbersSpec)

/-- 'engramlaw17.HomeTells', WHERE WHAT IT READS IS OF BULK AT MOST 1048576: true; the input reads as it did. -/
def homeTellsUptoRow : OpenClaim := { program := "ytjngnigelkgekaa", sum := "9075cb8a9fa6c72cc266fb6af6789e34e27677d9fcb5ec0db92fe4d58ea74262", func := "engram/engramlaw17.HomeTells", spec := "homeTells", unfollowed := true, recurses := true, apart := false, narrowed := true }
def HomeTellsUptoSaid : Prop := homeTellsUptoRow.holds Try.pinned (OpenSpec.upto homeTellsSpec)

/-- 'engramlaw16.RedoNumbers', WHERE WHAT IT READS IS OF BULK AT MOST 1048576: true; the input reads as it did. -/
def redoNumbersUptoRow : OpenClaim := { program := "ytjngnigelkgekaa", sum := "9075cb8a9fa6c72cc266fb6af6789e34e27677d9fcb5ec0db92fe4d58ea74262", func := "engram/engramlaw16.RedoNumbers", spec := "redoNumbers", unfollowed := true, recurses := true, apart := false, narrowed := true }
def RedoNumbersUptoSaid : Prop := redoNumbersUptoRow.holds Try.pinned (OpenSpec.upto redoNumbersSpec)

/-- 'engramlaw16.RedoTells', WHERE WHAT IT READS IS OF BULK AT MOST 1048576: true; the input reads as it did. -/
def redoTellsUptoRow : OpenClaim := { program := "ytjngnigelkgekaa", sum := "9075cb8a9fa6c72cc266fb6af6789e34e27677d9fcb5ec0db92fe4d58ea74262", func := "engram/engramlaw16.RedoTells", spec := "redoTells", unfollowed := true, recurses := true, apart := false, narrowed := true }
def RedoTellsUptoSaid : Prop := redoTellsUptoRow.holds Try.pinned (OpenSpec.upto redoTellsSpec)

/-- 'engramlaw16.RedoBack', WHERE WHAT IT READS IS OF BULK AT MOST 1048576: true; the input reads as it did. -/
def redoBackUptoRow : OpenClaim := { program := "ytjngnigelkgekaa", sum := "9075cb8a9fa6c72cc266fb6af6789e34e27677d9fcb5ec0db92fe4d58ea74262", func := "engram/engramlaw16.RedoBack", spec := "redoBack", unfollowed := true, recurses := true, apart := false, narrowed := true }
def RedoBackUptoSaid : Prop := redoBackUptoRow.holds Try.pinned (OpenSpec.upto redoBackSpec)

/-- 'engramlaw18.StoreOpens', WHERE WHAT IT READS IS OF BULK AT MOST 1048576: true; the input reads as it did. -/
def storeOpensUptoRow : OpenClaim := { program := "ytjngnigelkgekaa", sum := "9075cb8a9fa6c72cc266fb6af6789e34e27677d9fcb5ec0db92fe4d58ea74262", func := "engram/engramlaw18.StoreOpens", spec := "storeOpens", unfollowed := true, recurses := true, apart := false, narrowed := true }
def StoreOpensUptoSaid : Prop := storeOpensUptoRow.holds Try.pinned (OpenSpec.upto storeOpensSpec)

end Rows
end Go.Proofs.Ytjngnigelkgekaa
