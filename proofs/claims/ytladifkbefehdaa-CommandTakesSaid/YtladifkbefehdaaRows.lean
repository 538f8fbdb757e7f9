/-
  No cell of these rows narrows 'for every input' (looked for: loops, veiled, ifaces, maps, wideKeys, modest, calm, conditions, laid).
  DERIVED. THE GIVEN ROWS OF THIS SEAT. 3 by the template 'for every input the law returns true; each argument reads behind the call as it read before'; 0 by the template 'total and deterministic' (their statements: YtladifkbefehdaaTotals.lean).
  GIVEN WITH THE SEED: the statements are not yours to turn. If you find one false, say at which input.
  Laid BY PROGRAM, IN A SANDBOX (cutbox-rows.mjs): the forced cells as the released guide's own fill.sh prints them over the translation 7a5321783ba9485c… (all of the seat's roots in one cut). By AI agents, Wed Nov 11 2026. No macro, syntax, notation, axiom, sorry.
-/
import Derived.Test.YtladifkbefehdaaChecked
import GoSem.Claim
import GoSem.ClaimJoined
import GoSem.ClaimMapViews
import Derived.JoinedTies
import Derived.KernelRfl
namespace Go.Proofs.Ytladifkbefehdaa
/- THE CELL 'sum', in the pinned program and in every row, IS THE sha256 OF THE DUMP (.gsa) THAT YtladifkbefehdaaProg.lean LOADS. Nothing in Lean hashes anything: it is a label: what it is worth is what the hold of that sum in a sandbox is worth. -/
noncomputable def Try.pinned : Pinned := { name := "ytladifkbefehdaa", sum := "7a5321783ba9485c4c4ce62f77eb5ee3515b2b37821f47f5a2d23eb1758749f3", checked := Try.checked }
namespace Rows
def none {H : Type} : Left H := { results := [], args := [] }

/-- 'coraclelaw05.CommandTakes': WHATEVER THE INPUT: true; the input reads as it did. -/
def commandTakesSpec : ChangeSpec := { name := "commandTakes", fn := fun _ => fun
  | [d1, d2] => { results := [.lit (.bool true)], args := [d1, d2] }
  | _ => none }
def commandTakesRow : OpenClaim := { program := "ytladifkbefehdaa", sum := "7a5321783ba9485c4c4ce62f77eb5ee3515b2b37821f47f5a2d23eb1758749f3", func := "coracle/coraclelaw05.CommandTakes", spec := "commandTakes", unfollowed := true, recurses := true, apart := false }
def CommandTakesSaid : Prop := commandTakesRow.holds Try.pinned (OpenSpec.ofChange commandTakesSpec)

/-- ITS FALSE NEIGHBOUR: 'it returns false'. Refute it at one input. -/
def commandTakesWrong : ChangeSpec := { name := "commandTakes", fn := fun _ => fun
  | [d1, d2] => { results := [.lit (.bool false)], args := [d1, d2] }
  | _ => none }
def CommandTakesWrongFalsely : Prop := commandTakesRow.holds Try.pinned (OpenSpec.ofChange commandTakesWrong)

/-- 'coraclelaw05.CommandBack': WHATEVER THE INPUT: true; the input reads as it did. -/
def commandBackSpec : ChangeSpec := { name := "commandBack", fn := fun _ => fun
  | [d1, d2, d3] => { results := [.lit (.bool true)], args := [d1, d2, d3] }
  | _ => none }
def commandBackRow : OpenClaim := { program := "ytladifkbefehdaa", sum := "7a5321783ba9485c4c4ce62f77eb5ee3515b2b37821f47f5a2d23eb1758749f3", func := "coracle/coraclelaw05.CommandBack", spec := "commandBack", unfollowed := true, recurses := true, apart := false }
def CommandBackSaid : Prop := commandBackRow.holds Try.pinned (OpenSpec.ofChange commandBackSpec)

/-- ITS FALSE NEIGHBOUR: 'it returns false'. Refute it at one input. -/
def commandBackWrong : ChangeSpec := { name := "commandBack", fn := fun _ => fun
  | [d1, d2, d3] => { results := [.lit (.bool false)], args := [d1, d2, d3] }
  | _ => none }
def CommandBackWrongFalsely : Prop := commandBackRow.holds Try.pinned (OpenSpec.ofChange commandBackWrong)

/-- 'coraclelaw05.CommandOlder': WHATEVER THE INPUT: true; the input reads as it did. -/
def commandOlderSpec : ChangeSpec := { name := "commandOlder", fn := fun _ => fun
  | [d1, d2, d3] => { results := [.lit (.bool true)], args := [d1, d2, d3] }
  | _ => none }
def commandOlderRow : OpenClaim := { program := "ytladifkbefehdaa", sum := "7a5321783ba9485c4c4ce62f77eb5ee3515b2b37821f47f5a2d23eb1758749f3", func := "coracle/coraclelaw05.CommandOlder", spec := "commandOlder", unfollowed := true, recurses := true, apart := false }
def CommandOlderSaid : Prop := commandOlderRow.holds Try.pinned (OpenSpec.ofChange commandOlderSpec)

/-- ITS FALSE NEIGHBOUR: 'it returns false'. Refute it at one input. -/
def commandOlderWrong : ChangeSpec := { name := "commandOlder", fn := fun _ => fun
  | [d1, d2, d3] => { results := [.lit (.bool false)], args := [d1, d2, d3] }
  | _ => none }
def CommandOlderWrongFalsely : Prop := commandOlderRow.holds Try.pinned (OpenSpec.ofChange commandOlderWrong)

/- THE SECOND FORM. 'bulk': how many values and letters a reading holds, each counted each time it is reached (what is shared counts as often as it is met; a slice's spare places count too). A statement '..UptoSaid' is the law's where the arguments, and the package variables that the reading takes, are together of bulk at most 1048576: NARROWER than '..Said'. Prove '..Said' where nothing that the law and all that it calls make is longer than what came in: it says more and counts as full. Else prove '..UptoSaid'. A law counts once. -/
mutual
def uptoBulk {H : Type} : DataW H → Nat
  | .lit (.string bytes) => bytes.length + 1
  | .lit _ => 1
  | .nil => 1
  | .ptr d => uptoBulk d + 1
  | .slice elems spare => uptoBulkAll elems + uptoBulkAll spare + 1
  | .agg parts => uptoBulkAll parts + 1
  | .iface _ d => uptoBulk d + 1
  | .map entries => uptoBulkEntries entries + 1
  | .held _ => 1
def uptoBulkAll {H : Type} : List (DataW H) → Nat
  | [] => 0
  | d :: r => uptoBulk d + uptoBulkAll r
def uptoBulkEntries {H : Type} : List (Lit × DataW H) → Nat
  | [] => 0
  | x :: r => uptoBulkEntry x + uptoBulkEntries r
def uptoBulkEntry {H : Type} : Lit × DataW H → Nat
  | (.string bytes, d) => bytes.length + uptoBulk d + 1
  | (_, d) => uptoBulk d + 1
 end
def uptoSmall : (H : Type) → List (DataW H) → Bool := fun _ ds => decide (uptoBulkAll ds ≤ 1048576)
def OpenSpec.upto (s : _root_.Go.ChangeSpec) : _root_.Go.OpenSpec := { _root_.Go.OpenSpec.ofChange s with cond := some uptoSmall }

/-- 'coraclelaw05.CommandTakes', WHERE WHAT IT READS IS OF BULK AT MOST 1048576: true; the input reads as it did. -/
def commandTakesUptoRow : OpenClaim := { program := "ytladifkbefehdaa", sum := "7a5321783ba9485c4c4ce62f77eb5ee3515b2b37821f47f5a2d23eb1758749f3", func := "coracle/coraclelaw05.CommandTakes", spec := "commandTakes", unfollowed := true, recurses := true, apart := false, narrowed := true }
def CommandTakesUptoSaid : Prop := commandTakesUptoRow.holds Try.pinned (OpenSpec.upto commandTakesSpec)

/-- 'coraclelaw05.CommandBack', WHERE WHAT IT READS IS OF BULK AT MOST 1048576: true; the input reads as it did. -/
def commandBackUptoRow : OpenClaim := { program := "ytladifkbefehdaa", sum := "7a5321783ba9485c4c4ce62f77eb5ee3515b2b37821f47f5a2d23eb1758749f3", func := "coracle/coraclelaw05.CommandBack", spec := "commandBack", unfollowed := true, recurses := true, apart := false, narrowed := true }
def CommandBackUptoSaid : Prop := commandBackUptoRow.holds Try.pinned (OpenSpec.upto commandBackSpec)

/-- 'coraclelaw05.CommandOlder', WHERE WHAT IT READS IS OF BULK AT MOST 1048576: true; the input reads as it did. -/
def commandOlderUptoRow : OpenClaim := { program := "ytladifkbefehdaa", sum := "7a5321783ba9485c4c4ce62f77eb5ee3515b2b37821f47f5a2d23eb1758749f3", func := "coracle/coraclelaw05.CommandOlder", spec := "commandOlder", unfollowed := true, recurses := true, apart := false, narrowed := true }
def CommandOlderUptoSaid : Prop := commandOlderUptoRow.holds Try.pinned (OpenSpec.upto commandOlderSpec)

end Rows
end Go.Proofs.Ytladifkbefehdaa
