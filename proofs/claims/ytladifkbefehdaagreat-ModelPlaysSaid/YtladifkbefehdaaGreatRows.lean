/-
  No cell of these rows narrows 'for every input' (looked for: loops, veiled, ifaces, maps, wideKeys, modest, calm, conditions, laid).
  DERIVED. THE GIVEN ROWS OF THIS SEAT. 4 by the template 'for every input the law returns true; each argument reads behind the call as it read before'; 0 by the template 'total and deterministic' (their statements: YtladifkbefehdaaGreatTotals.lean).
  GIVEN WITH THE SEED: the statements are not yours to turn. If you find one false, say at which input.
  Laid BY PROGRAM, IN A SANDBOX (cutbox-rows.mjs): the forced cells as the released guide's own fill.sh prints them over the translation a05cf55c6f8e9646… (all of the seat's roots in one cut). By AI agents, Wed Nov 11 2026. No macro, syntax, notation, axiom, sorry.
-/
import Derived.Test.YtladifkbefehdaaGreatChecked
import GoSem.Claim
import GoSem.ClaimJoined
import GoSem.ClaimMapViews
import Derived.JoinedTies
import Derived.KernelRfl
namespace Go.Proofs.YtladifkbefehdaaGreat
/- THE CELL 'sum', in the pinned program and in every row, IS THE sha256 OF THE DUMP (.gsa) THAT YtladifkbefehdaaGreatProg.lean LOADS. Nothing in Lean hashes anything: it is a label: what it is worth is what the hold of that sum in a sandbox is worth. -/
noncomputable def Tryz.pinned : Pinned := { name := "ytladifkbefehdaagreat", sum := "a05cf55c6f8e9646a195a3bfbcc7911485bc4dade0dbbb7db8660898022d61df", checked := Tryz.checked }
namespace Rows
def none {H : Type} : Left H := { results := [], args := [] }

/-- 'coraclelaw11.ModelEntries': WHATEVER THE INPUT: true; the input reads as it did. -/
def modelEntriesSpec : ChangeSpec := { name := "modelEntries", fn := fun _ => fun
  | [d1, d2, d3] => { results := [.lit (.bool true)], args := [d1, d2, d3] }
  | _ => none }
def modelEntriesRow : OpenClaim := { program := "ytladifkbefehdaagreat", sum := "a05cf55c6f8e9646a195a3bfbcc7911485bc4dade0dbbb7db8660898022d61df", func := "coracle/coraclelaw11.ModelEntries", spec := "modelEntries", inPlace := ["slices.overlaps[coracle/api.Sess]", "slices.overlaps[coracle/api.Open]"], unfollowed := true, recurses := true, apart := false }
def ModelEntriesSaid : Prop := modelEntriesRow.holds Tryz.pinned (OpenSpec.ofChange modelEntriesSpec)

/-- ITS FALSE NEIGHBOUR: 'it returns false'. Refute it at one input. -/
def modelEntriesWrong : ChangeSpec := { name := "modelEntries", fn := fun _ => fun
  | [d1, d2, d3] => { results := [.lit (.bool false)], args := [d1, d2, d3] }
  | _ => none }
def ModelEntriesWrongFalsely : Prop := modelEntriesRow.holds Tryz.pinned (OpenSpec.ofChange modelEntriesWrong)

/-- 'coraclelaw11.ModelPlays': WHATEVER THE INPUT: true; the input reads as it did. -/
def modelPlaysSpec : ChangeSpec := { name := "modelPlays", fn := fun _ => fun
  | [d1, d2, d3] => { results := [.lit (.bool true)], args := [d1, d2, d3] }
  | _ => none }
def modelPlaysRow : OpenClaim := { program := "ytladifkbefehdaagreat", sum := "a05cf55c6f8e9646a195a3bfbcc7911485bc4dade0dbbb7db8660898022d61df", func := "coracle/coraclelaw11.ModelPlays", spec := "modelPlays", inPlace := ["slices.overlaps[coracle/api.Sess]", "slices.overlaps[coracle/api.Open]"], unfollowed := true, recurses := true, apart := false }
def ModelPlaysSaid : Prop := modelPlaysRow.holds Tryz.pinned (OpenSpec.ofChange modelPlaysSpec)

/-- ITS FALSE NEIGHBOUR: 'it returns false'. Refute it at one input. -/
def modelPlaysWrong : ChangeSpec := { name := "modelPlays", fn := fun _ => fun
  | [d1, d2, d3] => { results := [.lit (.bool false)], args := [d1, d2, d3] }
  | _ => none }
def ModelPlaysWrongFalsely : Prop := modelPlaysRow.holds Tryz.pinned (OpenSpec.ofChange modelPlaysWrong)

/-- 'coraclelaw11.ModelParts': WHATEVER THE INPUT: true; the input reads as it did. -/
def modelPartsSpec : ChangeSpec := { name := "modelParts", fn := fun _ => fun
  | [d1, d2, d3] => { results := [.lit (.bool true)], args := [d1, d2, d3] }
  | _ => none }
def modelPartsRow : OpenClaim := { program := "ytladifkbefehdaagreat", sum := "a05cf55c6f8e9646a195a3bfbcc7911485bc4dade0dbbb7db8660898022d61df", func := "coracle/coraclelaw11.ModelParts", spec := "modelParts", inPlace := ["slices.overlaps[coracle/api.Sess]", "slices.overlaps[coracle/api.Open]"], unfollowed := true, recurses := true, apart := false }
def ModelPartsSaid : Prop := modelPartsRow.holds Tryz.pinned (OpenSpec.ofChange modelPartsSpec)

/-- ITS FALSE NEIGHBOUR: 'it returns false'. Refute it at one input. -/
def modelPartsWrong : ChangeSpec := { name := "modelParts", fn := fun _ => fun
  | [d1, d2, d3] => { results := [.lit (.bool false)], args := [d1, d2, d3] }
  | _ => none }
def ModelPartsWrongFalsely : Prop := modelPartsRow.holds Tryz.pinned (OpenSpec.ofChange modelPartsWrong)

/-- 'coraclelaw11.ModelBlank': WHATEVER THE INPUT: true; the input reads as it did. -/
def modelBlankSpec : ChangeSpec := { name := "modelBlank", fn := fun _ => fun
  | [d1, d2, d3] => { results := [.lit (.bool true)], args := [d1, d2, d3] }
  | _ => none }
def modelBlankRow : OpenClaim := { program := "ytladifkbefehdaagreat", sum := "a05cf55c6f8e9646a195a3bfbcc7911485bc4dade0dbbb7db8660898022d61df", func := "coracle/coraclelaw11.ModelBlank", spec := "modelBlank", inPlace := ["slices.overlaps[coracle/api.Sess]", "slices.overlaps[coracle/api.Open]"], unfollowed := true, recurses := true, apart := false }
def ModelBlankSaid : Prop := modelBlankRow.holds Tryz.pinned (OpenSpec.ofChange modelBlankSpec)

/-- ITS FALSE NEIGHBOUR: 'it returns false'. Refute it at one input. -/
def modelBlankWrong : ChangeSpec := { name := "modelBlank", fn := fun _ => fun
  | [d1, d2, d3] => { results := [.lit (.bool false)], args := [d1, d2, d3] }
  | _ => none }
def ModelBlankWrongFalsely : Prop := modelBlankRow.holds Tryz.pinned (OpenSpec.ofChange modelBlankWrong)

/- THE SECOND FORM. 'bulk': how many values and letters a reading holds, each counted each time it is reached (what is shared counts as often as it is met; a slice's spare places count too). A statement '..UptoSaid' is the law's where the arguments, and the package variables that the reading takes, are together of bulk at most 1048576: NARROWER than '..Said'. Prove '..Said' where nothing that the law and all that it calls make is longer than what came in: it says more and counts as full. Else prove '..UptoSaid'. A law counts once. -/
mutual
def uptoBulk {H : Type} : DataW H → Nat
  | .lit (.string bytes) => bytes.length + 1
  | .lit _ => 1
  | .nil => 1
  | .ptr d => uptoBulk d + 1
  | .slice elems spare => uptoBulkAll elems + uptoBulkAll spare + 1
  | .agg parts => uptoBulkAll parts + 1
  | .iface _ d => uptoBulk d + 1
  | .map entries => uptoBulkEntries entries + 1
  | .held _ => 1
def uptoBulkAll {H : Type} : List (DataW H) → Nat
  | [] => 0
  | d :: r => uptoBulk d + uptoBulkAll r
def uptoBulkEntries {H : Type} : List (Lit × DataW H) → Nat
  | [] => 0
  | x :: r => uptoBulkEntry x + uptoBulkEntries r
def uptoBulkEntry {H : Type} : Lit × DataW H → Nat
  | (.string bytes, d) => bytes.length + uptoBulk d + 1
  | (_, d) => uptoBulk d + 1
 end
def uptoSmall : (H : Type) → List (DataW H) → Bool := fun _ ds => decide (uptoBulkAll ds ≤ 1048576)
def OpenSpec.upto (s : _root_.Go.ChangeSpec) : _root_.Go.OpenSpec := { _root_.Go.OpenSpec.ofChange s with cond := some uptoSmall }

/-- 'coraclelaw11.ModelEntries', WHERE WHAT IT READS IS OF BULK AT MOST 1048576: true; the input reads as it did. -/
def modelEntriesUptoRow : OpenClaim := { program := "ytladifkbefehdaagreat", sum := "a05cf55c6f8e9646a195a3bfbcc7911485bc4dade0dbbb7db8660898022d61df", func := "coracle/coraclelaw11.ModelEntries", spec := "modelEntries", inPlace := ["slices.overlaps[coracle/api.Sess]", "slices.overlaps[coracle/api.Open]"], unfollowed := true, recurses := true, apart := false, narrowed := true }
def ModelEntriesUptoSaid : Prop := modelEntriesUptoRow.holds Tryz.pinned (OpenSpec.upto modelEntriesSpec)

/-- 'coraclelaw11.ModelPlays', WHERE WHAT IT READS IS OF BULK AT MOST 1048576: true; the input reads as it did. -/
def modelPlaysUptoRow : OpenClaim := { program := "ytladifkbefehdaagreat", sum := "a05cf55c6f8e9646a195a3bfbcc7911485bc4dade0dbbb7db8660898022d61df", func := "coracle/coraclelaw11.ModelPlays", spec := "modelPlays", inPlace := ["slices.overlaps[coracle/api.Sess]", "slices.overlaps[coracle/api.Open]"], unfollowed := true, recurses := true, apart := false, narrowed := true }
def ModelPlaysUptoSaid : Prop := modelPlaysUptoRow.holds Tryz.pinned (OpenSpec.upto modelPlaysSpec)

/-- 'coraclelaw11.ModelParts', WHERE WHAT IT READS IS OF BULK AT MOST 1048576: true; the input reads as it did. -/
def modelPartsUptoRow : OpenClaim := { program := "ytladifkbefehdaagreat", sum := "a05cf55c6f8e9646a195a3bfbcc7911485bc4dade0dbbb7db8660898022d61df", func := "coracle/coraclelaw11.ModelParts", spec := "modelParts", inPlace := ["slices.overlaps[coracle/api.Sess]", "slices.overlaps[coracle/api.Open]"], unfollowed := true, recurses := true, apart := false, narrowed := true }
def ModelPartsUptoSaid : Prop := modelPartsUptoRow.holds Tryz.pinned (OpenSpec.upto modelPartsSpec)

/-- 'coraclelaw11.ModelBlank', WHERE WHAT IT READS IS OF BULK AT MOST 1048576: true; the input reads as it did. -/
def modelBlankUptoRow : OpenClaim := { program := "ytladifkbefehdaagreat", sum := "a05cf55c6f8e9646a195a3bfbcc7911485bc4dade0dbbb7db8660898022d61df", func := "coracle/coraclelaw11.ModelBlank", spec := "modelBlank", inPlace := ["slices.overlaps[coracle/api.Sess]", "slices.overlaps[coracle/api.Open]"], unfollowed := true, recurses := true, apart := false, narrowed := true }
def ModelBlankUptoSaid : Prop := modelBlankUptoRow.holds Tryz.pinned (OpenSpec.upto modelBlankSpec)

end Rows
end Go.Proofs.YtladifkbefehdaaGreat
