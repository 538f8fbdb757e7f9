/-
  No cell of these rows narrows 'for every input' (looked for: loops, veiled, ifaces, maps, wideKeys, modest, calm, conditions, laid).
  DERIVED. THE GIVEN ROWS OF THIS SEAT. 8 by the template 'for every input the law returns true; each argument reads behind the call as it read before'; 0 by the template 'total and deterministic' (their statements: YtfmlgeeogbhppaaTotals.lean).
  GIVEN WITH THE SEED: the statements are not yours to turn. If you find one false, say at which input.
  Laid BY PROGRAM, IN A SANDBOX (cutbox-rows.mjs): the forced cells as the released guide's own fill.sh prints them over the translation a3b6cb3983d8043b… (all of the seat's roots in one cut). By AI agents, Wed Nov 11 2026. No macro, syntax, notation, axiom, sorry.
-/
import Derived.Test.YtfmlgeeogbhppaaChecked
import GoSem.Claim
import GoSem.ClaimJoined
import GoSem.ClaimMapViews
import Derived.JoinedTies
import Derived.KernelRfl
namespace Go.Proofs.Ytfmlgeeogbhppaa
/- THE CELL 'sum', in the pinned program and in every row, IS THE sha256 OF THE DUMP (.gsa) THAT YtfmlgeeogbhppaaProg.lean LOADS. Nothing in Lean hashes anything: it is a label: what it is worth is what the hold of that sum in a sandbox is worth. -/
noncomputable def Try.pinned : Pinned := { name := "ytfmlgeeogbhppaa", sum := "a3b6cb3983d8043b470c738ecbd076b1fb95f126c706e35422bf0b97fdeabdc6", checked := Try.checked }
namespace Rows
def none {H : Type} : Left H := { results := [], args := [] }

/-- 'coraclelaw05.CommandPuts': WHATEVER THE INPUT: true; the input reads as it did. -/
def commandPutsSpec : ChangeSpec := { name := "commandPuts", fn := fun _ => fun
  | [d1, d2, d3] => { results := [.lit (.bool true)], args := [d1, d2, d3] }
  | _ => none }
def commandPutsRow : OpenClaim := { program := "ytfmlgeeogbhppaa", sum := "a3b6cb3983d8043b470c738ecbd076b1fb95f126c706e35422bf0b97fdeabdc6", func := "coracle/coraclelaw05.CommandPuts", spec := "commandPuts", unfollowed := true, recurses := true, apart := false }
def CommandPutsSaid : Prop := commandPutsRow.holds Try.pinned (OpenSpec.ofChange commandPutsSpec)

/-- ITS FALSE NEIGHBOUR: 'it returns false'. Refute it at one input. -/
def commandPutsWrong : ChangeSpec := { name := "commandPuts", fn := fun _ => fun
  | [d1, d2, d3] => { results := [.lit (.bool false)], args := [d1, d2, d3] }
  | _ => none }
def CommandPutsWrongFalsely : Prop := commandPutsRow.holds Try.pinned (OpenSpec.ofChange commandPutsWrong)

/-- 'coraclelaw05.CommandSame': WHATEVER THE INPUT: true; the input reads as it did. -/
def commandSameSpec : ChangeSpec := { name := "commandSame", fn := fun _ => fun
  | [d1, d2, d3] => { results := [.lit (.bool true)], args := [d1, d2, d3] }
  | _ => none }
def commandSameRow : OpenClaim := { program := "ytfmlgeeogbhppaa", sum := "a3b6cb3983d8043b470c738ecbd076b1fb95f126c706e35422bf0b97fdeabdc6", func := "coracle/coraclelaw05.CommandSame", spec := "commandSame", unfollowed := true, recurses := true, apart := false }
def CommandSameSaid : Prop := commandSameRow.holds Try.pinned (OpenSpec.ofChange commandSameSpec)

/-- ITS FALSE NEIGHBOUR: 'it returns false'. Refute it at one input. -/
def commandSameWrong : ChangeSpec := { name := "commandSame", fn := fun _ => fun
  | [d1, d2, d3] => { results := [.lit (.bool false)], args := [d1, d2, d3] }
  | _ => none }
def CommandSameWrongFalsely : Prop := commandSameRow.holds Try.pinned (OpenSpec.ofChange commandSameWrong)

/-- 'coraclelaw05.CommandGrows': WHATEVER THE INPUT: true; the input reads as it did. -/
def commandGrowsSpec : ChangeSpec := { name := "commandGrows", fn := fun _ => fun
  | [d1, d2] => { results := [.lit (.bool true)], args := [d1, d2] }
  | _ => none }
def commandGrowsRow : OpenClaim := { program := "ytfmlgeeogbhppaa", sum := "a3b6cb3983d8043b470c738ecbd076b1fb95f126c706e35422bf0b97fdeabdc6", func := "coracle/coraclelaw05.CommandGrows", spec := "commandGrows", unfollowed := true, recurses := true, apart := false }
def CommandGrowsSaid : Prop := commandGrowsRow.holds Try.pinned (OpenSpec.ofChange commandGrowsSpec)

/-- ITS FALSE NEIGHBOUR: 'it returns false'. Refute it at one input. -/
def commandGrowsWrong : ChangeSpec := { name := "commandGrows", fn := fun _ => fun
  | [d1, d2] => { results := [.lit (.bool false)], args := [d1, d2] }
  | _ => none }
def CommandGrowsWrongFalsely : Prop := commandGrowsRow.holds Try.pinned (OpenSpec.ofChange commandGrowsWrong)

/-- 'coraclelaw05.CommandChunks': WHATEVER THE INPUT: true; the input reads as it did. -/
def commandChunksSpec : ChangeSpec := { name := "commandChunks", fn := fun _ => fun
  | [d] => { results := [.lit (.bool true)], args := [d] }
  | _ => none }
def commandChunksRow : OpenClaim := { program := "ytfmlgeeogbhppaa", sum := "a3b6cb3983d8043b470c738ecbd076b1fb95f126c706e35422bf0b97fdeabdc6", func := "coracle/coraclelaw05.CommandChunks", spec := "commandChunks", unfollowed := true, recurses := true, apart := false }
def CommandChunksSaid : Prop := commandChunksRow.holds Try.pinned (OpenSpec.ofChange commandChunksSpec)

/-- ITS FALSE NEIGHBOUR: 'it returns false'. Refute it at one input. -/
def commandChunksWrong : ChangeSpec := { name := "commandChunks", fn := fun _ => fun
  | [d] => { results := [.lit (.bool false)], args := [d] }
  | _ => none }
def CommandChunksWrongFalsely : Prop := commandChunksRow.holds Try.pinned (OpenSpec.ofChange commandChunksWrong)

/-- 'coraclelaw05.CommandMay': WHATEVER THE INPUT: true; the input reads as it did. -/
def commandMaySpec : ChangeSpec := { name := "commandMay", fn := fun _ => fun
  | [d1, d2, d3] => { results := [.lit (.bool true)], args := [d1, d2, d3] }
  | _ => none }
def commandMayRow : OpenClaim := { program := "ytfmlgeeogbhppaa", sum := "a3b6cb3983d8043b470c738ecbd076b1fb95f126c706e35422bf0b97fdeabdc6", func := "coracle/coraclelaw05.CommandMay", spec := "commandMay", unfollowed := true, recurses := true, apart := false }
def CommandMaySaid : Prop := commandMayRow.holds Try.pinned (OpenSpec.ofChange commandMaySpec)

/-- ITS FALSE NEIGHBOUR: 'it returns false'. Refute it at one input. -/
def commandMayWrong : ChangeSpec := { name := "commandMay", fn := fun _ => fun
  | [d1, d2, d3] => { results := [.lit (.bool false)], args := [d1, d2, d3] }
  | _ => none }
def CommandMayWrongFalsely : Prop := commandMayRow.holds Try.pinned (OpenSpec.ofChange commandMayWrong)

/-- 'coraclelaw05.CommandTakes': WHATEVER THE INPUT: true; the input reads as it did. -/
def commandTakesSpec : ChangeSpec := { name := "commandTakes", fn := fun _ => fun
  | [d1, d2] => { results := [.lit (.bool true)], args := [d1, d2] }
  | _ => none }
def commandTakesRow : OpenClaim := { program := "ytfmlgeeogbhppaa", sum := "a3b6cb3983d8043b470c738ecbd076b1fb95f126c706e35422bf0b97fdeabdc6", func := "coracle/coraclelaw05.CommandTakes", spec := "commandTakes", unfollowed := true, recurses := true, apart := false }
def CommandTakesSaid : Prop := commandTakesRow.holds Try.pinned (OpenSpec.ofChange commandTakesSpec)

/-- ITS FALSE NEIGHBOUR: 'it returns false'. Refute it at one input. -/
def commandTakesWrong : ChangeSpec := { name := "commandTakes", fn := fun _ => fun
  | [d1, d2] => { results := [.lit (.bool false)], args := [d1, d2] }
  | _ => none }
def CommandTakesWrongFalsely : Prop := commandTakesRow.holds Try.pinned (OpenSpec.ofChange commandTakesWrong)

/-- 'coraclelaw05.CommandBack': WHATEVER THE INPUT: true; the input reads as it did. -/
def commandBackSpec : ChangeSpec := { name := "commandBack", fn := fun _ => fun
  | [d1, d2, d3] => { results := [.lit (.bool true)], args := [d1, d2, d3] }
  | _ => none }
def commandBackRow : OpenClaim := { program := "ytfmlgeeogbhppaa", sum := "a3b6cb3983d8043b470c738ecbd076b1fb95f126c706e35422bf0b97fdeabdc6", func := "coracle/coraclelaw05.CommandBack", spec := "commandBack", unfollowed := true, recurses := true, apart := false }
def CommandBackSaid : Prop := commandBackRow.holds Try.pinned (OpenSpec.ofChange commandBackSpec)

/-- ITS FALSE NEIGHBOUR: 'it returns false'. Refute it at one input. -/
def commandBackWrong : ChangeSpec := { name := "commandBack", fn := fun _ => fun
  | [d1, d2, d3] => { results := [.lit (.bool false)], args := [d1, d2, d3] }
  | _ => none }
def CommandBackWrongFalsely : Prop := commandBackRow.holds Try.pinned (OpenSpec.ofChange commandBackWrong)

/-- 'coraclelaw05.CommandOlder': WHATEVER THE INPUT: true; the input reads as it did. -/
def commandOlderSpec : ChangeSpec := { name := "commandOlder", fn := fun _ => fun
  | [d1, d2, d3] => { results := [.lit (.bool true)], args := [d1, d2, d3] }
  | _ => none }
def commandOlderRow : OpenClaim := { program := "ytfmlgeeogbhppaa", sum := "a3b6cb3983d8043b470c738ecbd076b1fb95f126c706e35422bf0b97fdeabdc6", func := "coracle/coraclelaw05.CommandOlder", spec := "commandOlder", unfollowed := true, recurses := true, apart := false }
def CommandOlderSaid : Prop := commandOlderRow.holds Try.pinned (OpenSpec.ofChange commandOlderSpec)

/-- ITS FALSE NEIGHBOUR: 'it returns false'. Refute it at one input. -/
def commandOlderWrong : ChangeSpec := { name := "commandOlder", fn := fun _ => fun
  | [d1, d2, d3] => { results := [.lit (.bool false)], args := [d1, d2, d3] }
  | _ => none }
def CommandOlderWrongFalsely : Prop := commandOlderRow.holds Try.pinned (OpenSpec.ofChange commandOlderWrong)

/- THE SECOND FORM. 'bulk': how many values and letters a reading holds, each counted each time it is reached (what is shared counts as often as it is met; a slice's spare places count too). A statement '..UptoSaid' is the law's where the arguments, and the package variables that the reading takes, are together of bulk at most 1048576: NARROWER than '..Said'. Prove '..Said' where nothing that the law and all that it calls make is longer than what came in: it says more and counts as full. Else prove '..UptoSaid'. A law counts once. -/
mutual
def uptoBulk {H : Type} : DataW H → Nat
  | .lit (.string bytes) => bytes.length + 1
  | .lit _ => 1
  | .nil => 1
  | .ptr d => uptoBulk d + 1
  | .slice elems spare => uptoBulkAll elems + uptoBulkAll spare + 1
  | .agg parts => uptoBulkAll parts + 1
  | .iface _ d => uptoBulk d + 1
  | .map entries => uptoBulkEntries entries + 1
  | .held _ => 1
def uptoBulkAll {H : Type} : List (DataW H) → Nat
  | [] => 0
  | d :: r => uptoBulk d + uptoBulkAll r
def uptoBulkEntries {H : Type} : List (Lit × DataW H) → Nat
  | [] => 0
  | x :: r => uptoBulkEntry x + uptoBulkEntries r
def uptoBulkEntry {H : Type} : Lit × DataW H → Nat
  | (.string bytes, d) => bytes.length + uptoBulk d + 1
  | (_, d) => uptoBulk d + 1
 end
def uptoSmall : (H : Type) → List (DataW H) → Bool := fun _ ds => decide (uptoBulkAll ds ≤ 1048576)
def OpenSpec.upto (s : _root_.Go.ChangeSpec) : _root_.Go.OpenSpec := { _root_.Go.OpenSpec.ofChange s with cond := some uptoSmall }

/-- 'coraclelaw05.CommandPuts', WHERE WHAT IT READS IS OF BULK AT MOST 1048576: true; the input reads as it did. -/
def commandPutsUptoRow : OpenClaim := { program := "ytfmlgeeogbhppaa", sum := "a3b6cb3983d8043b470c738ecbd076b1fb95f126c706e35422bf0b97fdeabdc6", func := "coracle/coraclelaw05.CommandPuts", spec := "commandPuts", unfollowed := true, recurses := true, apart := false, narrowed := true }
def CommandPutsUptoSaid : Prop := commandPutsUptoRow.holds Try.pinned (OpenSpec.upto commandPutsSpec)

/-- 'coraclelaw05.CommandSame', WHERE WHAT IT READS IS OF BULK AT MOST 1048576: true; the input reads as it did. -/
def commandSameUptoRow : OpenClaim := { program := "ytfmlgeeogbhppaa", sum := "a3b6cb3983d8043b470c738ecbd076b1fb95f126c706e35422bf0b97fdeabdc6", func := "coracle/coraclelaw05.CommandSame", spec := "commandSame", unfollowed := true, recurses := true, apart := false, narrowed := true }
def CommandSameUptoSaid : Prop := commandSameUptoRow.holds Try.pinned (OpenSpec.upto commandSameSpec)

/-- 'coraclelaw05.CommandGrows', WHERE WHAT IT READS IS OF BULK AT MOST 1048576: true; the input reads as it did. -/
def commandGrowsUptoRow : OpenClaim := { program := "ytfmlgeeogbhppaa", sum := "a3b6cb3983d8043b470c738ecbd076b1fb95f126c706e35422bf0b97fdeabdc6", func := "coracle/coraclelaw05.CommandGrows", spec := "commandGrows", unfollowed := true, recurses := true, apart := false, narrowed := true }
def CommandGrowsUptoSaid : Prop := commandGrowsUptoRow.holds Try.pinned (OpenSpec.upto commandGrowsSpec)

/-- 'coraclelaw05.CommandChunks', WHERE WHAT IT READS IS OF BULK AT MOST 1048576: true; the input reads as it did. -/
def commandChunksUptoRow : OpenClaim := { program := "ytfmlgeeogbhppaa", sum := "a3b6cb3983d8043b470c738ecbd076b1fb95f126c706e35422bf0b97fdeabdc6", func := "coracle/coraclelaw05.CommandChunks", spec := "commandChunks", unfollowed := true, recurses := true, apart := false, narrowed := true }
def CommandChunksUptoSaid : Prop := commandChunksUptoRow.holds Try.pinned (OpenSpec.upto commandChunksSpec)

/-- 'coraclelaw05.CommandMay', WHERE WHAT IT READS IS OF BULK AT MOST 1048576: true; the input reads as it did. -/
def commandMayUptoRow : OpenClaim := { program := "ytfmlgeeogbhppaa", sum := "a3b6cb3983d8043b470c738ecbd076b1fb95f126c706e35422bf0b97fdeabdc6", func := "coracle/coraclelaw05.CommandMay", spec := "commandMay", unfollowed := true, recurses := true, apart := false, narrowed := true }
def CommandMayUptoSaid : Prop := commandMayUptoRow.holds Try.pinned (OpenSpec.upto commandMaySpec)

/-- 'coraclelaw05.CommandTakes', WHERE WHAT IT READS IS OF BULK AT MOST 1048576: true; the input reads as it did. -/
def commandTakesUptoRow : OpenClaim := { program := "ytfmlgeeogbhppaa", sum := "a3b6cb3983d8043b470c738ecbd076b1fb95f126c706e35422bf0b97fdeabdc6", func := "coracle/coraclelaw05.CommandTakes", spec := "commandTakes", unfollowed := true, recurses := true, apart := false, narrowed := true }
def CommandTakesUptoSaid : Prop := commandTakesUptoRow.holds Try.pinned (OpenSpec.upto commandTakesSpec)

/-- 'coraclelaw05.CommandBack', WHERE WHAT IT READS IS OF BULK AT MOST 1048576: true; the input reads as it did. -/
def commandBackUptoRow : OpenClaim := { program := "ytfmlgeeogbhppaa", sum := "a3b6cb3983d8043b470c738ecbd076b1fb95f126c706e35422bf0b97fdeabdc6", func := "coracle/coraclelaw05.CommandBack", spec := "commandBack", unfollowed := true, recurses := true, apart := false, narrowed := true }
def CommandBackUptoSaid : Prop := commandBackUptoRow.holds Try.pinned (OpenSpec.upto commandBackSpec)

/-- 'coraclelaw05.CommandOlder', WHERE WHAT IT READS IS OF BULK AT MOST 1048576: true; the input reads as it did. -/
def commandOlderUptoRow : OpenClaim := { program := "ytfmlgeeogbhppaa", sum := "a3b6cb3983d8043b470c738ecbd076b1fb95f126c706e35422bf0b97fdeabdc6", func := "coracle/coraclelaw05.CommandOlder", spec := "commandOlder", unfollowed := true, recurses := true, apart := false, narrowed := true }
def CommandOlderUptoSaid : Prop := commandOlderUptoRow.holds Try.pinned (OpenSpec.upto commandOlderSpec)

end Rows
end Go.Proofs.Ytfmlgeeogbhppaa
