/-
  No cell of these rows narrows 'for every input' (looked for: loops, veiled, ifaces, maps, wideKeys, modest, calm, conditions, laid).
  DERIVED. THE GIVEN ROWS OF THIS SEAT. 7 by the template 'for every input the law returns true; each argument reads behind the call as it read before'; 0 by the template 'total and deterministic' (their statements: YtmmbibcfkdabeaaTotals.lean).
  GIVEN WITH THE SEED: the statements are not yours to turn. If you find one false, say at which input.
  Laid BY PROGRAM, IN A SANDBOX (cutbox-rows.mjs): the forced cells as the released guide's own fill.sh prints them over the translation 2874ef8802f0d94e… (all of the seat's roots in one cut). By AI agents, Wed Nov 11 2026. No macro, syntax, notation, axiom, sorry.
-/
import Derived.Test.YtmmbibcfkdabeaaChecked
import GoSem.Claim
import GoSem.ClaimJoined
import GoSem.ClaimMapViews
import Derived.JoinedTies
import Derived.KernelRfl
namespace Go.Proofs.Ytmmbibcfkdabeaa
/- THE CELL 'sum', in the pinned program and in every row, IS THE sha256 OF THE DUMP (.gsa) THAT YtmmbibcfkdabeaaProg.lean LOADS. Nothing in Lean hashes anything: it is a label: what it is worth is what the hold of that sum in a sandbox is worth. -/
noncomputable def Try.pinned : Pinned := { name := "ytmmbibcfkdabeaa", sum := "2874ef8802f0d94e2571de8210e50fe6aa5babc9334dda6fa2c589689a60fe85", checked := Try.checked }
namespace Rows
def none {H : Type} : Left H := { results := [], args := [] }

/-- 'coraclelaw08.ApplyMay': WHATEVER THE INPUT: true; the input reads as it did. -/
def applyMaySpec : ChangeSpec := { name := "applyMay", fn := fun _ => fun
  | [d1, d2] => { results := [.lit (.bool true)], args := [d1, d2] }
  | _ => none }
def applyMayRow : OpenClaim := { program := "ytmmbibcfkdabeaa", sum := "2874ef8802f0d94e2571de8210e50fe6aa5babc9334dda6fa2c589689a60fe85", func := "coracle/coraclelaw08.ApplyMay", spec := "applyMay", inPlace := ["slices.overlaps[coracle/api.Sess]", "slices.overlaps[coracle/api.Open]"], unfollowed := true, recurses := true, apart := false }
def ApplyMaySaid : Prop := applyMayRow.holds Try.pinned (OpenSpec.ofChange applyMaySpec)

/-- ITS FALSE NEIGHBOUR: 'it returns false'. Refute it at one input. -/
def applyMayWrong : ChangeSpec := { name := "applyMay", fn := fun _ => fun
  | [d1, d2] => { results := [.lit (.bool false)], args := [d1, d2] }
  | _ => none }
def ApplyMayWrongFalsely : Prop := applyMayRow.holds Try.pinned (OpenSpec.ofChange applyMayWrong)

/-- 'coraclelaw08.ApplyTwice': WHATEVER THE INPUT: true; the input reads as it did. -/
def applyTwiceSpec : ChangeSpec := { name := "applyTwice", fn := fun _ => fun
  | [d1, d2] => { results := [.lit (.bool true)], args := [d1, d2] }
  | _ => none }
def applyTwiceRow : OpenClaim := { program := "ytmmbibcfkdabeaa", sum := "2874ef8802f0d94e2571de8210e50fe6aa5babc9334dda6fa2c589689a60fe85", func := "coracle/coraclelaw08.ApplyTwice", spec := "applyTwice", inPlace := ["slices.overlaps[coracle/api.Sess]", "slices.overlaps[coracle/api.Open]"], unfollowed := true, recurses := true, apart := false }
def ApplyTwiceSaid : Prop := applyTwiceRow.holds Try.pinned (OpenSpec.ofChange applyTwiceSpec)

/-- ITS FALSE NEIGHBOUR: 'it returns false'. Refute it at one input. -/
def applyTwiceWrong : ChangeSpec := { name := "applyTwice", fn := fun _ => fun
  | [d1, d2] => { results := [.lit (.bool false)], args := [d1, d2] }
  | _ => none }
def ApplyTwiceWrongFalsely : Prop := applyTwiceRow.holds Try.pinned (OpenSpec.ofChange applyTwiceWrong)

/-- 'coraclelaw08.ApplyRefuses': WHATEVER THE INPUT: true; the input reads as it did. -/
def applyRefusesSpec : ChangeSpec := { name := "applyRefuses", fn := fun _ => fun
  | [d1, d2] => { results := [.lit (.bool true)], args := [d1, d2] }
  | _ => none }
def applyRefusesRow : OpenClaim := { program := "ytmmbibcfkdabeaa", sum := "2874ef8802f0d94e2571de8210e50fe6aa5babc9334dda6fa2c589689a60fe85", func := "coracle/coraclelaw08.ApplyRefuses", spec := "applyRefuses", inPlace := ["slices.overlaps[coracle/api.Sess]", "slices.overlaps[coracle/api.Open]"], unfollowed := true, recurses := true, apart := false }
def ApplyRefusesSaid : Prop := applyRefusesRow.holds Try.pinned (OpenSpec.ofChange applyRefusesSpec)

/-- ITS FALSE NEIGHBOUR: 'it returns false'. Refute it at one input. -/
def applyRefusesWrong : ChangeSpec := { name := "applyRefuses", fn := fun _ => fun
  | [d1, d2] => { results := [.lit (.bool false)], args := [d1, d2] }
  | _ => none }
def ApplyRefusesWrongFalsely : Prop := applyRefusesRow.holds Try.pinned (OpenSpec.ofChange applyRefusesWrong)

/-- 'coraclelaw08.ApplyKeeps': WHATEVER THE INPUT: true; the input reads as it did. -/
def applyKeepsSpec : ChangeSpec := { name := "applyKeeps", fn := fun _ => fun
  | [d1, d2] => { results := [.lit (.bool true)], args := [d1, d2] }
  | _ => none }
def applyKeepsRow : OpenClaim := { program := "ytmmbibcfkdabeaa", sum := "2874ef8802f0d94e2571de8210e50fe6aa5babc9334dda6fa2c589689a60fe85", func := "coracle/coraclelaw08.ApplyKeeps", spec := "applyKeeps", inPlace := ["slices.overlaps[coracle/api.Sess]", "slices.overlaps[coracle/api.Open]"], unfollowed := true, recurses := true, apart := false }
def ApplyKeepsSaid : Prop := applyKeepsRow.holds Try.pinned (OpenSpec.ofChange applyKeepsSpec)

/-- ITS FALSE NEIGHBOUR: 'it returns false'. Refute it at one input. -/
def applyKeepsWrong : ChangeSpec := { name := "applyKeeps", fn := fun _ => fun
  | [d1, d2] => { results := [.lit (.bool false)], args := [d1, d2] }
  | _ => none }
def ApplyKeepsWrongFalsely : Prop := applyKeepsRow.holds Try.pinned (OpenSpec.ofChange applyKeepsWrong)

/-- 'coraclelaw08.ApplyOpens': WHATEVER THE INPUT: true; the input reads as it did. -/
def applyOpensSpec : ChangeSpec := { name := "applyOpens", fn := fun _ => fun
  | [d1, d2] => { results := [.lit (.bool true)], args := [d1, d2] }
  | _ => none }
def applyOpensRow : OpenClaim := { program := "ytmmbibcfkdabeaa", sum := "2874ef8802f0d94e2571de8210e50fe6aa5babc9334dda6fa2c589689a60fe85", func := "coracle/coraclelaw08.ApplyOpens", spec := "applyOpens", inPlace := ["slices.overlaps[coracle/api.Sess]", "slices.overlaps[coracle/api.Open]"], unfollowed := true, recurses := true, apart := false }
def ApplyOpensSaid : Prop := applyOpensRow.holds Try.pinned (OpenSpec.ofChange applyOpensSpec)

/-- ITS FALSE NEIGHBOUR: 'it returns false'. Refute it at one input. -/
def applyOpensWrong : ChangeSpec := { name := "applyOpens", fn := fun _ => fun
  | [d1, d2] => { results := [.lit (.bool false)], args := [d1, d2] }
  | _ => none }
def ApplyOpensWrongFalsely : Prop := applyOpensRow.holds Try.pinned (OpenSpec.ofChange applyOpensWrong)

/-- 'coraclelaw08.ApplyApart': WHATEVER THE INPUT: true; the input reads as it did. -/
def applyApartSpec : ChangeSpec := { name := "applyApart", fn := fun _ => fun
  | [d1, d2, d3] => { results := [.lit (.bool true)], args := [d1, d2, d3] }
  | _ => none }
def applyApartRow : OpenClaim := { program := "ytmmbibcfkdabeaa", sum := "2874ef8802f0d94e2571de8210e50fe6aa5babc9334dda6fa2c589689a60fe85", func := "coracle/coraclelaw08.ApplyApart", spec := "applyApart", inPlace := ["slices.overlaps[coracle/api.Sess]", "slices.overlaps[coracle/api.Open]"], unfollowed := true, recurses := true, apart := false }
def ApplyApartSaid : Prop := applyApartRow.holds Try.pinned (OpenSpec.ofChange applyApartSpec)

/-- ITS FALSE NEIGHBOUR: 'it returns false'. Refute it at one input. -/
def applyApartWrong : ChangeSpec := { name := "applyApart", fn := fun _ => fun
  | [d1, d2, d3] => { results := [.lit (.bool false)], args := [d1, d2, d3] }
  | _ => none }
def ApplyApartWrongFalsely : Prop := applyApartRow.holds Try.pinned (OpenSpec.ofChange applyApartWrong)

/-- 'coraclelaw08.ApplyHolds': WHATEVER THE INPUT: true; the input reads as it did. -/
def applyHoldsSpec : ChangeSpec := { name := "applyHolds", fn := fun _ => fun
  | [d1, d2] => { results := [.lit (.bool true)], args := [d1, d2] }
  | _ => none }
def applyHoldsRow : OpenClaim := { program := "ytmmbibcfkdabeaa", sum := "2874ef8802f0d94e2571de8210e50fe6aa5babc9334dda6fa2c589689a60fe85", func := "coracle/coraclelaw08.ApplyHolds", spec := "applyHolds", inPlace := ["slices.overlaps[coracle/api.Sess]", "slices.overlaps[coracle/api.Open]"], unfollowed := true, recurses := true, apart := false }
def ApplyHoldsSaid : Prop := applyHoldsRow.holds Try.pinned (OpenSpec.ofChange applyHoldsSpec)

/-- ITS FALSE NEIGHBOUR: 'it returns false'. Refute it at one input. -/
def applyHoldsWrong : ChangeSpec := { name := "applyHolds", fn := fun _ => fun
  | [d1, d2] => { results := [.lit (.bool false)], args := [d1, d2] }
  | _ => none }
def ApplyHoldsWrongFalsely : Prop := applyHoldsRow.holds Try.pinned (OpenSpec.ofChange applyHoldsWrong)

/- THE SECOND FORM. 'bulk': how many values and letters a reading holds, each counted each time it is reached (what is shared counts as often as it is met; a slice's spare places count too). A statement '..UptoSaid' is the law's where the arguments, and the package variables that the reading takes, are together of bulk at most 1048576: NARROWER than '..Said'. Prove '..Said' where nothing that the law and all that it calls make is longer than what came in: it says more and counts as full. Else prove '..UptoSaid'. A law counts once. -/
mutual
def uptoBulk {H : Type} : DataW H → Nat
  | .lit (.string bytes) => bytes.length + 1
  | .lit _ => 1
  | .nil => 1
  | .ptr d => uptoBulk d + 1
  | .slice elems spare => uptoBulkAll elems + uptoBulkAll spare + 1
  | .agg parts => uptoBulkAll parts + 1
  | .iface _ d => uptoBulk d + 1
  | .map entries => uptoBulkEntries entries + 1
  | .held _ => 1
def uptoBulkAll {H : Type} : List (DataW H) → Nat
  | [] => 0
  | d :: r => uptoBulk d + uptoBulkAll r
def uptoBulkEntries {H : Type} : List (Lit × DataW H) → Nat
  | [] => 0
  | x :: r => uptoBulkEntry x + uptoBulkEntries r
def uptoBulkEntry {H : Type} : Lit × DataW H → Nat
  | (.string bytes, d) => bytes.length + uptoBulk d + 1
  | (_, d) => uptoBulk d + 1
 end
def uptoSmall : (H : Type) → List (DataW H) → Bool := fun _ ds => decide (uptoBulkAll ds ≤ 1048576)
def OpenSpec.upto (s : _root_.Go.ChangeSpec) : _root_.Go.OpenSpec := { _root_.Go.OpenSpec.ofChange s with cond := some uptoSmall }

/-- 'coraclelaw08.ApplyMay', WHERE WHAT IT READS IS OF BULK AT MOST 1048576: true; the input reads as it did. -/
def applyMayUptoRow : OpenClaim := { program := "ytmmbibcfkdabeaa", sum := "2874ef8802f0d94e2571de8210e50fe6aa5babc9334dda6fa2c589689a60fe85", func := "coracle/coraclelaw08.ApplyMay", spec := "applyMay", inPlace := ["slices.overlaps[coracle/api.Sess]", "slices.overlaps[coracle/api.Open]"], unfollowed := true, recurses := true, apart := false, narrowed := true }
def ApplyMayUptoSaid : Prop := applyMayUptoRow.holds Try.pinned (OpenSpec.upto applyMaySpec)

/-- 'coraclelaw08.ApplyTwice', WHERE WHAT IT READS IS OF BULK AT MOST 1048576: true; the input reads as it did. -/
def applyTwiceUptoRow : OpenClaim := { program := "ytmmbibcfkdabeaa", sum := "2874ef8802f0d94e2571de8210e50fe6aa5babc9334dda6fa2c589689a60fe85", func := "coracle/coraclelaw08.ApplyTwice", spec := "applyTwice", inPlace := ["slices.overlaps[coracle/api.Sess]", "slices.overlaps[coracle/api.Open]"], unfollowed := true, recurses := true, apart := false, narrowed := true }
def ApplyTwiceUptoSaid : Prop := applyTwiceUptoRow.holds Try.pinned (OpenSpec.upto applyTwiceSpec)

/-- 'coraclelaw08.ApplyRefuses', WHERE WHAT IT READS IS OF BULK AT MOST 1048576: true; the input reads as it did. -/
def applyRefusesUptoRow : OpenClaim := { program := "ytmmbibcfkdabeaa", sum := "2874ef8802f0d94e2571de8210e50fe6aa5babc9334dda6fa2c589689a60fe85", func := "coracle/coraclelaw08.ApplyRefuses", spec := "applyRefuses", inPlace := ["slices.overlaps[coracle/api.Sess]", "slices.overlaps[coracle/api.Open]"], unfollowed := true, recurses := true, apart := false, narrowed := true }
def ApplyRefusesUptoSaid : Prop := applyRefusesUptoRow.holds Try.pinned (OpenSpec.upto applyRefusesSpec)

/-- 'coraclelaw08.ApplyKeeps', WHERE WHAT IT READS IS OF BULK AT MOST 1048576: true; the input reads as it did. -/
def applyKeepsUptoRow : OpenClaim := { program := "ytmmbibcfkdabeaa", sum := "2874ef8802f0d94e2571de8210e50fe6aa5babc9334dda6fa2c589689a60fe85", func := "coracle/coraclelaw08.ApplyKeeps", spec := "applyKeeps", inPlace := ["slices.overlaps[coracle/api.Sess]", "slices.overlaps[coracle/api.Open]"], unfollowed := true, recurses := true, apart := false, narrowed := true }
def ApplyKeepsUptoSaid : Prop := applyKeepsUptoRow.holds Try.pinned (OpenSpec.upto applyKeepsSpec)

/-- 'coraclelaw08.ApplyOpens', WHERE WHAT IT READS IS OF BULK AT MOST 1048576: true; the input reads as it did. -/
def applyOpensUptoRow : OpenClaim := { program := "ytmmbibcfkdabeaa", sum := "2874ef8802f0d94e2571de8210e50fe6aa5babc9334dda6fa2c589689a60fe85", func := "coracle/coraclelaw08.ApplyOpens", spec := "applyOpens", inPlace := ["slices.overlaps[coracle/api.Sess]", "slices.overlaps[coracle/api.Open]"], unfollowed := true, recurses := true, apart := false, narrowed := true }
def ApplyOpensUptoSaid : Prop := applyOpensUptoRow.holds Try.pinned (OpenSpec.upto applyOpensSpec)

/-- 'coraclelaw08.ApplyApart', WHERE WHAT IT READS IS OF BULK AT MOST 1048576: true; the input reads as it did. -/
def applyApartUptoRow : OpenClaim := { program := "ytmmbibcfkdabeaa", sum := "2874ef8802f0d94e2571de8210e50fe6aa5babc9334dda6fa2c589689a60fe85", func := "coracle/coraclelaw08.ApplyApart", spec := "applyApart", inPlace := ["slices.overlaps[coracle/api.Sess]", "slices.overlaps[coracle/api.Open]"], unfollowed := true, recurses := true, apart := false, narrowed := true }
def ApplyApartUptoSaid : Prop := applyApartUptoRow.holds Try.pinned (OpenSpec.upto applyApartSpec)

/-- 'coraclelaw08.ApplyHolds', WHERE WHAT IT READS IS OF BULK AT MOST 1048576: true; the input reads as it did. -/
def applyHoldsUptoRow : OpenClaim := { program := "ytmmbibcfkdabeaa", sum := "2874ef8802f0d94e2571de8210e50fe6aa5babc9334dda6fa2c589689a60fe85", func := "coracle/coraclelaw08.ApplyHolds", spec := "applyHolds", inPlace := ["slices.overlaps[coracle/api.Sess]", "slices.overlaps[coracle/api.Open]"], unfollowed := true, recurses := true, apart := false, narrowed := true }
def ApplyHoldsUptoSaid : Prop := applyHoldsUptoRow.holds Try.pinned (OpenSpec.upto applyHoldsSpec)

end Rows
end Go.Proofs.Ytmmbibcfkdabeaa
