/-
  No cell of these rows narrows 'for every input' (looked for: loops, veiled, ifaces, maps, wideKeys, modest, calm, conditions, laid).
  DERIVED. THE GIVEN ROWS OF THIS SEAT. 8 by the template 'for every input the law returns true; each argument reads behind the call as it read before'; 0 by the template 'total and deterministic' (their statements: YticbaadnibdbkaaGreatTotals.lean).
  GIVEN WITH THE SEED: the statements are not yours to turn. If you find one false, say at which input.
  Laid BY PROGRAM, IN A SANDBOX (cutbox-rows.mjs): the forced cells as the released guide's own fill.sh prints them over the translation 10c65dcbc4b06af1… (all of the seat's roots in one cut). By AI agents, Wed Nov 11 2026. No macro, syntax, notation, axiom, sorry.
-/
import Derived.Test.YticbaadnibdbkaaGreatChecked
import GoSem.Claim
import GoSem.ClaimJoined
import GoSem.ClaimMapViews
import Derived.JoinedTies
import Derived.KernelRfl
namespace Go.Proofs.YticbaadnibdbkaaGreat
/- THE CELL 'sum', in the pinned program and in every row, IS THE sha256 OF THE DUMP (.gsa) THAT YticbaadnibdbkaaGreatProg.lean LOADS. Nothing in Lean hashes anything: it is a label: what it is worth is what the hold of that sum in a sandbox is worth. -/
noncomputable def Tryz.pinned : Pinned := { name := "yticbaadnibdbkaagreat", sum := "10c65dcbc4b06af1407fd70790a8f5f89107417a0460c11f0d3de52845511ab5", checked := Tryz.checked }
namespace Rows
def none {H : Type} : Left H := { results := [], args := [] }

/-- 'coraclelaw20.NodeLeads': WHATEVER THE INPUT: true; the input reads as it did. -/
def nodeLeadsSpec : ChangeSpec := { name := "nodeLeads", fn := fun _ => fun
  | [d1, d2, d3] => { results := [.lit (.bool true)], args := [d1, d2, d3] }
  | _ => none }
def nodeLeadsRow : OpenClaim := { program := "yticbaadnibdbkaagreat", sum := "10c65dcbc4b06af1407fd70790a8f5f89107417a0460c11f0d3de52845511ab5", func := "coracle/coraclelaw20.NodeLeads", spec := "nodeLeads", inPlace := ["slices.overlaps[coracle/api.Sess]", "slices.overlaps[coracle/api.Open]"], unfollowed := true, recurses := true, apart := false }
def NodeLeadsSaid : Prop := nodeLeadsRow.holds Tryz.pinned (OpenSpec.ofChange nodeLeadsSpec)

/-- ITS FALSE NEIGHBOUR: 'it returns false'. Refute it at one input. -/
def nodeLeadsWrong : ChangeSpec := { name := "nodeLeads", fn := fun _ => fun
  | [d1, d2, d3] => { results := [.lit (.bool false)], args := [d1, d2, d3] }
  | _ => none }
def NodeLeadsWrongFalsely : Prop := nodeLeadsRow.holds Tryz.pinned (OpenSpec.ofChange nodeLeadsWrong)

/-- 'coraclelaw20.NodeVotes': WHATEVER THE INPUT: true; the input reads as it did. -/
def nodeVotesSpec : ChangeSpec := { name := "nodeVotes", fn := fun _ => fun
  | [d] => { results := [.lit (.bool true)], args := [d] }
  | _ => none }
def nodeVotesRow : OpenClaim := { program := "yticbaadnibdbkaagreat", sum := "10c65dcbc4b06af1407fd70790a8f5f89107417a0460c11f0d3de52845511ab5", func := "coracle/coraclelaw20.NodeVotes", spec := "nodeVotes", inPlace := ["slices.overlaps[coracle/api.Sess]", "slices.overlaps[coracle/api.Open]"], unfollowed := true, recurses := true, apart := false }
def NodeVotesSaid : Prop := nodeVotesRow.holds Tryz.pinned (OpenSpec.ofChange nodeVotesSpec)

/-- ITS FALSE NEIGHBOUR: 'it returns false'. Refute it at one input. -/
def nodeVotesWrong : ChangeSpec := { name := "nodeVotes", fn := fun _ => fun
  | [d] => { results := [.lit (.bool false)], args := [d] }
  | _ => none }
def NodeVotesWrongFalsely : Prop := nodeVotesRow.holds Tryz.pinned (OpenSpec.ofChange nodeVotesWrong)

/-- 'coraclelaw20.NodeRises': WHATEVER THE INPUT: true; the input reads as it did. -/
def nodeRisesSpec : ChangeSpec := { name := "nodeRises", fn := fun _ => fun
  | [d] => { results := [.lit (.bool true)], args := [d] }
  | _ => none }
def nodeRisesRow : OpenClaim := { program := "yticbaadnibdbkaagreat", sum := "10c65dcbc4b06af1407fd70790a8f5f89107417a0460c11f0d3de52845511ab5", func := "coracle/coraclelaw20.NodeRises", spec := "nodeRises", inPlace := ["slices.overlaps[coracle/api.Sess]", "slices.overlaps[coracle/api.Open]"], unfollowed := true, recurses := true, apart := false }
def NodeRisesSaid : Prop := nodeRisesRow.holds Tryz.pinned (OpenSpec.ofChange nodeRisesSpec)

/-- ITS FALSE NEIGHBOUR: 'it returns false'. Refute it at one input. -/
def nodeRisesWrong : ChangeSpec := { name := "nodeRises", fn := fun _ => fun
  | [d] => { results := [.lit (.bool false)], args := [d] }
  | _ => none }
def NodeRisesWrongFalsely : Prop := nodeRisesRow.holds Tryz.pinned (OpenSpec.ofChange nodeRisesWrong)

/-- 'coraclelaw20.NodeTwice': WHATEVER THE INPUT: true; the input reads as it did. -/
def nodeTwiceSpec : ChangeSpec := { name := "nodeTwice", fn := fun _ => fun
  | [d1, d2] => { results := [.lit (.bool true)], args := [d1, d2] }
  | _ => none }
def nodeTwiceRow : OpenClaim := { program := "yticbaadnibdbkaagreat", sum := "10c65dcbc4b06af1407fd70790a8f5f89107417a0460c11f0d3de52845511ab5", func := "coracle/coraclelaw20.NodeTwice", spec := "nodeTwice", inPlace := ["slices.overlaps[coracle/api.Sess]", "slices.overlaps[coracle/api.Open]"], unfollowed := true, recurses := true, apart := false }
def NodeTwiceSaid : Prop := nodeTwiceRow.holds Tryz.pinned (OpenSpec.ofChange nodeTwiceSpec)

/-- ITS FALSE NEIGHBOUR: 'it returns false'. Refute it at one input. -/
def nodeTwiceWrong : ChangeSpec := { name := "nodeTwice", fn := fun _ => fun
  | [d1, d2] => { results := [.lit (.bool false)], args := [d1, d2] }
  | _ => none }
def NodeTwiceWrongFalsely : Prop := nodeTwiceRow.holds Tryz.pinned (OpenSpec.ofChange nodeTwiceWrong)

/-- 'coraclelaw20.NodeState': WHATEVER THE INPUT: true; the input reads as it did. -/
def nodeStateSpec : ChangeSpec := { name := "nodeState", fn := fun _ => fun
  | [d] => { results := [.lit (.bool true)], args := [d] }
  | _ => none }
def nodeStateRow : OpenClaim := { program := "yticbaadnibdbkaagreat", sum := "10c65dcbc4b06af1407fd70790a8f5f89107417a0460c11f0d3de52845511ab5", func := "coracle/coraclelaw20.NodeState", spec := "nodeState", inPlace := ["slices.overlaps[coracle/api.Sess]", "slices.overlaps[coracle/api.Open]"], unfollowed := true, recurses := true, apart := false }
def NodeStateSaid : Prop := nodeStateRow.holds Tryz.pinned (OpenSpec.ofChange nodeStateSpec)

/-- ITS FALSE NEIGHBOUR: 'it returns false'. Refute it at one input. -/
def nodeStateWrong : ChangeSpec := { name := "nodeState", fn := fun _ => fun
  | [d] => { results := [.lit (.bool false)], args := [d] }
  | _ => none }
def NodeStateWrongFalsely : Prop := nodeStateRow.holds Tryz.pinned (OpenSpec.ofChange nodeStateWrong)

/-- 'coraclelaw20.NodeDown': WHATEVER THE INPUT: true; the input reads as it did. -/
def nodeDownSpec : ChangeSpec := { name := "nodeDown", fn := fun _ => fun
  | [d1, d2, d3] => { results := [.lit (.bool true)], args := [d1, d2, d3] }
  | _ => none }
def nodeDownRow : OpenClaim := { program := "yticbaadnibdbkaagreat", sum := "10c65dcbc4b06af1407fd70790a8f5f89107417a0460c11f0d3de52845511ab5", func := "coracle/coraclelaw20.NodeDown", spec := "nodeDown", inPlace := ["slices.overlaps[coracle/api.Sess]", "slices.overlaps[coracle/api.Open]"], unfollowed := true, recurses := true, apart := false }
def NodeDownSaid : Prop := nodeDownRow.holds Tryz.pinned (OpenSpec.ofChange nodeDownSpec)

/-- ITS FALSE NEIGHBOUR: 'it returns false'. Refute it at one input. -/
def nodeDownWrong : ChangeSpec := { name := "nodeDown", fn := fun _ => fun
  | [d1, d2, d3] => { results := [.lit (.bool false)], args := [d1, d2, d3] }
  | _ => none }
def NodeDownWrongFalsely : Prop := nodeDownRow.holds Tryz.pinned (OpenSpec.ofChange nodeDownWrong)

/-- 'coraclelaw20.NodeRoles': WHATEVER THE INPUT: true; the input reads as it did. -/
def nodeRolesSpec : ChangeSpec := { name := "nodeRoles", fn := fun _ => fun
  | [d] => { results := [.lit (.bool true)], args := [d] }
  | _ => none }
def nodeRolesRow : OpenClaim := { program := "yticbaadnibdbkaagreat", sum := "10c65dcbc4b06af1407fd70790a8f5f89107417a0460c11f0d3de52845511ab5", func := "coracle/coraclelaw20.NodeRoles", spec := "nodeRoles", inPlace := ["slices.overlaps[coracle/api.Sess]", "slices.overlaps[coracle/api.Open]"], unfollowed := true, recurses := true, apart := false }
def NodeRolesSaid : Prop := nodeRolesRow.holds Tryz.pinned (OpenSpec.ofChange nodeRolesSpec)

/-- ITS FALSE NEIGHBOUR: 'it returns false'. Refute it at one input. -/
def nodeRolesWrong : ChangeSpec := { name := "nodeRoles", fn := fun _ => fun
  | [d] => { results := [.lit (.bool false)], args := [d] }
  | _ => none }
def NodeRolesWrongFalsely : Prop := nodeRolesRow.holds Tryz.pinned (OpenSpec.ofChange nodeRolesWrong)

/-- 'coraclelaw20.NodePlays': WHATEVER THE INPUT: true; the input reads as it did. -/
def nodePlaysSpec : ChangeSpec := { name := "nodePlays", fn := fun _ => fun
  | [d1, d2, d3] => { results := [.lit (.bool true)], args := [d1, d2, d3] }
  | _ => none }
def nodePlaysRow : OpenClaim := { program := "yticbaadnibdbkaagreat", sum := "10c65dcbc4b06af1407fd70790a8f5f89107417a0460c11f0d3de52845511ab5", func := "coracle/coraclelaw20.NodePlays", spec := "nodePlays", inPlace := ["slices.overlaps[coracle/api.Sess]", "slices.overlaps[coracle/api.Open]"], unfollowed := true, recurses := true, apart := false }
def NodePlaysSaid : Prop := nodePlaysRow.holds Tryz.pinned (OpenSpec.ofChange nodePlaysSpec)

/-- ITS FALSE NEIGHBOUR: 'it returns false'. Refute it at one input. -/
def nodePlaysWrong : ChangeSpec := { name := "nodePlays", fn := fun _ => fun
  | [d1, d2, d3] => { results := [.lit (.bool false)], args := [d1, d2, d3] }
  | _ => none }
def NodePlaysWrongFalsely : Prop := nodePlaysRow.holds Tryz.pinned (OpenSpec.ofChange nodePlaysWrong)

/- THE SECOND FORM. 'bulk': how many values and letters a reading holds, each counted each time it is reached (what is shared counts as often as it is met; a slice's spare places count too). A statement '..UptoSaid' is the law's where the arguments, and the package variables that the reading takes, are together of bulk at most 1048576: NARROWER than '..Said'. Prove '..Said' where nothing that the law and all that it calls make is longer than what came in: it says more and counts as full. Else prove '..UptoSaid'. A law counts once. -/
mutual
def uptoBulk {H : Type} : DataW H → Nat
  | .lit (.string bytes) => bytes.length + 1
  | .lit _ => 1
  | .nil => 1
  | .ptr d => uptoBulk d + 1
  | .slice elems spare => uptoBulkAll elems + uptoBulkAll spare + 1
  | .agg parts => uptoBulkAll parts + 1
  | .iface _ d => uptoBulk d + 1
  | .map entries => uptoBulkEntries entries + 1
  | .held _ => 1
def uptoBulkAll {H : Type} : List (DataW H) → Nat
  | [] => 0
  | d :: r => uptoBulk d + uptoBulkAll r
def uptoBulkEntries {H : Type} : List (Lit × DataW H) → Nat
  | [] => 0
  | x :: r => uptoBulkEntry x + uptoBulkEntries r
def uptoBulkEntry {H : Type} : Lit × DataW H → Nat
  | (.string bytes, d) => bytes.length + uptoBulk d + 1
  | (_, d) => uptoBulk d + 1
 end
def uptoSmall : (H : Type) → List (DataW H) → Bool := fun _ ds => decide (uptoBulkAll ds ≤ 1048576)
def OpenSpec.upto (s : _root_.Go.ChangeSpec) : _root_.Go.OpenSpec := { _root_.Go.OpenSpec.ofChange s with cond := some uptoSmall }

/-- 'coraclelaw20.NodeLeads', WHERE WHAT IT READS IS OF BULK AT MOST 1048576: true; the input reads as it did. -/
def nodeLeadsUptoRow : OpenClaim := { program := "yticbaadnibdbkaagreat", sum := "10c65dcbc4b06af1407fd70790a8f5f89107417a0460c11f0d3de52845511ab5", func := "coracle/coraclelaw20.NodeLeads", spec := "nodeLeads", inPlace := ["slices.overlaps[coracle/api.Sess]", "slices.overlaps[coracle/api.Open]"], unfollowed := true, recurses := true, apart := false, narrowed := true }
def NodeLeadsUptoSaid : Prop := nodeLeadsUptoRow.holds Tryz.pinned (OpenSpec.upto nodeLeadsSpec)

/-- 'coraclelaw20.NodeVotes', WHERE WHAT IT READS IS OF BULK AT MOST 1048576: true; the input reads as it did. -/
def nodeVotesUptoRow : OpenClaim := { program := "yticbaadnibdbkaagreat", sum := "10c65dcbc4b06af1407fd70790a8f5f89107417a0460c11f0d3de52845511ab5", func := "coracle/coraclelaw20.NodeVotes", spec := "nodeVotes", inPlace := ["slices.overlaps[coracle/api.Sess]", "slices.overlaps[coracle/api.Open]"], unfollowed := true, recurses := true, apart := false, narrowed := true }
def NodeVotesUptoSaid : Prop := nodeVotesUptoRow.holds Tryz.pinned (OpenSpec.upto nodeVotesSpec)

/-- 'coraclelaw20.NodeRises', WHERE WHAT IT READS IS OF BULK AT MOST 1048576: true; the input reads as it did. -/
def nodeRisesUptoRow : OpenClaim := { program := "yticbaadnibdbkaagreat", sum := "10c65dcbc4b06af1407fd70790a8f5f89107417a0460c11f0d3de52845511ab5", func := "coracle/coraclelaw20.NodeRises", spec := "nodeRises", inPlace := ["slices.overlaps[coracle/api.Sess]", "slices.overlaps[coracle/api.Open]"], unfollowed := true, recurses := true, apart := false, narrowed := true }
def NodeRisesUptoSaid : Prop := nodeRisesUptoRow.holds Tryz.pinned (OpenSpec.upto nodeRisesSpec)

/-- 'coraclelaw20.NodeTwice', WHERE WHAT IT READS IS OF BULK AT MOST 1048576: true; the input reads as it did. -/
def nodeTwiceUptoRow : OpenClaim := { program := "yticbaadnibdbkaagreat", sum := "10c65dcbc4b06af1407fd70790a8f5f89107417a0460c11f0d3de52845511ab5", func := "coracle/coraclelaw20.NodeTwice", spec := "nodeTwice", inPlace := ["slices.overlaps[coracle/api.Sess]", "slices.overlaps[coracle/api.Open]"], unfollowed := true, recurses := true, apart := false, narrowed := true }
def NodeTwiceUptoSaid : Prop := nodeTwiceUptoRow.holds Tryz.pinned (OpenSpec.upto nodeTwiceSpec)

/-- 'coraclelaw20.NodeState', WHERE WHAT IT READS IS OF BULK AT MOST 1048576: true; the input reads as it did. -/
def nodeStateUptoRow : OpenClaim := { program := "yticbaadnibdbkaagreat", sum := "10c65dcbc4b06af1407fd70790a8f5f89107417a0460c11f0d3de52845511ab5", func := "coracle/coraclelaw20.NodeState", spec := "nodeState", inPlace := ["slices.overlaps[coracle/api.Sess]", "slices.overlaps[coracle/api.Open]"], unfollowed := true, recurses := true, apart := false, narrowed := true }
def NodeStateUptoSaid : Prop := nodeStateUptoRow.holds Tryz.pinned (OpenSpec.upto nodeStateSpec)

/-- 'coraclelaw20.NodeDown', WHERE WHAT IT READS IS OF BULK AT MOST 1048576: true; the input reads as it did. -/
def nodeDownUptoRow : OpenClaim := { program := "yticbaadnibdbkaagreat", sum := "10c65dcbc4b06af1407fd70790a8f5f89107417a0460c11f0d3de52845511ab5", func := "coracle/coraclelaw20.NodeDown", spec := "nodeDown", inPlace := ["slices.overlaps[coracle/api.Sess]", "slices.overlaps[coracle/api.Open]"], unfollowed := true, recurses := true, apart := false, narrowed := true }
def NodeDownUptoSaid : Prop := nodeDownUptoRow.holds Tryz.pinned (OpenSpec.upto nodeDownSpec)

/-- 'coraclelaw20.NodeRoles', WHERE WHAT IT READS IS OF BULK AT MOST 1048576: true; the input reads as it did. -/
def nodeRolesUptoRow : OpenClaim := { program := "yticbaadnibdbkaagreat", sum := "10c65dcbc4b06af1407fd70790a8f5f89107417a0460c11f0d3de52845511ab5", func := "coracle/coraclelaw20.NodeRoles", spec := "nodeRoles", inPlace := ["slices.overlaps[coracle/api.Sess]", "slices.overlaps[coracle/api.Open]"], unfollowed := true, recurses := true, apart := false, narrowed := true }
def NodeRolesUptoSaid : Prop := nodeRolesUptoRow.holds Tryz.pinned (OpenSpec.upto nodeRolesSpec)

/-- 'coraclelaw20.NodePlays', WHERE WHAT IT READS IS OF BULK AT MOST 1048576: true; the input reads as it did. -/
def nodePlaysUptoRow : OpenClaim := { program := "yticbaadnibdbkaagreat", sum := "10c65dcbc4b06af1407fd70790a8f5f89107417a0460c11f0d3de52845511ab5", func := "coracle/coraclelaw20.NodePlays", spec := "nodePlays", inPlace := ["slices.overlaps[coracle/api.Sess]", "slices.overlaps[coracle/api.Open]"], unfollowed := true, recurses := true, apart := false, narrowed := true }
def NodePlaysUptoSaid : Prop := nodePlaysUptoRow.holds Tryz.pinned (OpenSpec.upto nodePlaysSpec)

end Rows
end Go.Proofs.YticbaadnibdbkaaGreat
