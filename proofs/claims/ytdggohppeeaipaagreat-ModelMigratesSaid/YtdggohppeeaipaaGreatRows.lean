/-
  No cell of these rows narrows 'for every input' (looked for: loops, veiled, ifaces, maps, wideKeys, modest, calm, conditions, laid).
  DERIVED. THE GIVEN ROWS OF THIS SEAT. 6 by the template 'for every input the law returns true; each argument reads behind the call as it read before'; 0 by the template 'total and deterministic' (their statements: YtdggohppeeaipaaGreatTotals.lean).
  GIVEN WITH THE SEED: the statements are not yours to turn. If you find one false, say at which input.
  Laid BY PROGRAM, IN A SANDBOX (cutbox-rows.mjs): the forced cells as the released guide's own fill.sh prints them over the translation feea6206495d7fd4… (all of the seat's roots in one cut). By AI agents, Wed Nov 11 2026. No macro, syntax, notation, axiom, sorry.
-/
import Derived.Test.YtdggohppeeaipaaGreatChecked
import GoSem.Claim
import GoSem.ClaimJoined
import GoSem.ClaimMapViews
import Derived.JoinedTies
import Derived.KernelRfl
namespace Go.Proofs.YtdggohppeeaipaaGreat
/- THE CELL 'sum', in the pinned program and in every row, IS THE sha256 OF THE DUMP (.gsa) THAT YtdggohppeeaipaaGreatProg.lean LOADS. Nothing in Lean hashes anything: it is a label: what it is worth is what the hold of that sum in a sandbox is worth. -/
noncomputable def Tryz.pinned : Pinned := { name := "ytdggohppeeaipaagreat", sum := "feea6206495d7fd410bf1b210bf67c4a57f7ee3004e52bbc0f756fa9fc3f60e3", checked := Tryz.checked }
namespace Rows
def none {H : Type} : Left H := { results := [], args := [] }

/-- 'coraclelaw08.ApplyDoes': WHATEVER THE INPUT: true; the input reads as it did. -/
def applyDoesSpec : ChangeSpec := { name := "applyDoes", fn := fun _ => fun
  | [d1, d2] => { results := [.lit (.bool true)], args := [d1, d2] }
  | _ => none }
def applyDoesRow : OpenClaim := { program := "ytdggohppeeaipaagreat", sum := "feea6206495d7fd410bf1b210bf67c4a57f7ee3004e52bbc0f756fa9fc3f60e3", func := "coracle/coraclelaw08.ApplyDoes", spec := "applyDoes", inPlace := ["slices.overlaps[coracle/api.Sess]", "slices.overlaps[coracle/api.Open]"], unfollowed := true, recurses := true, apart := false }
def ApplyDoesSaid : Prop := applyDoesRow.holds Tryz.pinned (OpenSpec.ofChange applyDoesSpec)

/-- ITS FALSE NEIGHBOUR: 'it returns false'. Refute it at one input. -/
def applyDoesWrong : ChangeSpec := { name := "applyDoes", fn := fun _ => fun
  | [d1, d2] => { results := [.lit (.bool false)], args := [d1, d2] }
  | _ => none }
def ApplyDoesWrongFalsely : Prop := applyDoesRow.holds Tryz.pinned (OpenSpec.ofChange applyDoesWrong)

/-- 'coraclelaw08.ApplyActs': WHATEVER THE INPUT: true; the input reads as it did. -/
def applyActsSpec : ChangeSpec := { name := "applyActs", fn := fun _ => fun
  | [d1, d2] => { results := [.lit (.bool true)], args := [d1, d2] }
  | _ => none }
def applyActsRow : OpenClaim := { program := "ytdggohppeeaipaagreat", sum := "feea6206495d7fd410bf1b210bf67c4a57f7ee3004e52bbc0f756fa9fc3f60e3", func := "coracle/coraclelaw08.ApplyActs", spec := "applyActs", inPlace := ["slices.overlaps[coracle/api.Sess]", "slices.overlaps[coracle/api.Open]"], unfollowed := true, recurses := true, apart := false }
def ApplyActsSaid : Prop := applyActsRow.holds Tryz.pinned (OpenSpec.ofChange applyActsSpec)

/-- ITS FALSE NEIGHBOUR: 'it returns false'. Refute it at one input. -/
def applyActsWrong : ChangeSpec := { name := "applyActs", fn := fun _ => fun
  | [d1, d2] => { results := [.lit (.bool false)], args := [d1, d2] }
  | _ => none }
def ApplyActsWrongFalsely : Prop := applyActsRow.holds Tryz.pinned (OpenSpec.ofChange applyActsWrong)

/-- 'coraclelaw09.MigrateDoes': WHATEVER THE INPUT: true; the input reads as it did. -/
def migrateDoesSpec : ChangeSpec := { name := "migrateDoes", fn := fun _ => fun
  | [d1, d2, d3] => { results := [.lit (.bool true)], args := [d1, d2, d3] }
  | _ => none }
def migrateDoesRow : OpenClaim := { program := "ytdggohppeeaipaagreat", sum := "feea6206495d7fd410bf1b210bf67c4a57f7ee3004e52bbc0f756fa9fc3f60e3", func := "coracle/coraclelaw09.MigrateDoes", spec := "migrateDoes", inPlace := ["slices.overlaps[coracle/api.Sess]", "slices.overlaps[coracle/api.Open]"], unfollowed := true, recurses := true, apart := false }
def MigrateDoesSaid : Prop := migrateDoesRow.holds Tryz.pinned (OpenSpec.ofChange migrateDoesSpec)

/-- ITS FALSE NEIGHBOUR: 'it returns false'. Refute it at one input. -/
def migrateDoesWrong : ChangeSpec := { name := "migrateDoes", fn := fun _ => fun
  | [d1, d2, d3] => { results := [.lit (.bool false)], args := [d1, d2, d3] }
  | _ => none }
def MigrateDoesWrongFalsely : Prop := migrateDoesRow.holds Tryz.pinned (OpenSpec.ofChange migrateDoesWrong)

/-- 'coraclelaw09.MigrateBumps': WHATEVER THE INPUT: true; the input reads as it did. -/
def migrateBumpsSpec : ChangeSpec := { name := "migrateBumps", fn := fun _ => fun
  | [d] => { results := [.lit (.bool true)], args := [d] }
  | _ => none }
def migrateBumpsRow : OpenClaim := { program := "ytdggohppeeaipaagreat", sum := "feea6206495d7fd410bf1b210bf67c4a57f7ee3004e52bbc0f756fa9fc3f60e3", func := "coracle/coraclelaw09.MigrateBumps", spec := "migrateBumps", inPlace := ["slices.overlaps[coracle/api.Sess]", "slices.overlaps[coracle/api.Open]"], unfollowed := true, recurses := true, apart := false }
def MigrateBumpsSaid : Prop := migrateBumpsRow.holds Tryz.pinned (OpenSpec.ofChange migrateBumpsSpec)

/-- ITS FALSE NEIGHBOUR: 'it returns false'. Refute it at one input. -/
def migrateBumpsWrong : ChangeSpec := { name := "migrateBumps", fn := fun _ => fun
  | [d] => { results := [.lit (.bool false)], args := [d] }
  | _ => none }
def MigrateBumpsWrongFalsely : Prop := migrateBumpsRow.holds Tryz.pinned (OpenSpec.ofChange migrateBumpsWrong)

/-- 'coraclelaw11.ModelRuns': WHATEVER THE INPUT: true; the input reads as it did. -/
def modelRunsSpec : ChangeSpec := { name := "modelRuns", fn := fun _ => fun
  | [d1, d2] => { results := [.lit (.bool true)], args := [d1, d2] }
  | _ => none }
def modelRunsRow : OpenClaim := { program := "ytdggohppeeaipaagreat", sum := "feea6206495d7fd410bf1b210bf67c4a57f7ee3004e52bbc0f756fa9fc3f60e3", func := "coracle/coraclelaw11.ModelRuns", spec := "modelRuns", inPlace := ["slices.overlaps[coracle/api.Sess]", "slices.overlaps[coracle/api.Open]"], unfollowed := true, recurses := true, apart := false }
def ModelRunsSaid : Prop := modelRunsRow.holds Tryz.pinned (OpenSpec.ofChange modelRunsSpec)

/-- ITS FALSE NEIGHBOUR: 'it returns false'. Refute it at one input. -/
def modelRunsWrong : ChangeSpec := { name := "modelRuns", fn := fun _ => fun
  | [d1, d2] => { results := [.lit (.bool false)], args := [d1, d2] }
  | _ => none }
def ModelRunsWrongFalsely : Prop := modelRunsRow.holds Tryz.pinned (OpenSpec.ofChange modelRunsWrong)

/-- 'coraclelaw11.ModelMigrates': WHATEVER THE INPUT: true; the input reads as it did. -/
def modelMigratesSpec : ChangeSpec := { name := "modelMigrates", fn := fun _ => fun
  | [d1, d2, d3] => { results := [.lit (.bool true)], args := [d1, d2, d3] }
  | _ => none }
def modelMigratesRow : OpenClaim := { program := "ytdggohppeeaipaagreat", sum := "feea6206495d7fd410bf1b210bf67c4a57f7ee3004e52bbc0f756fa9fc3f60e3", func := "coracle/coraclelaw11.ModelMigrates", spec := "modelMigrates", inPlace := ["slices.overlaps[coracle/api.Sess]", "slices.overlaps[coracle/api.Open]"], unfollowed := true, recurses := true, apart := false }
def ModelMigratesSaid : Prop := modelMigratesRow.holds Tryz.pinned (OpenSpec.ofChange modelMigratesSpec)

/-- ITS FALSE NEIGHBOUR: 'it returns false'. Refute it at one input. -/
def modelMigratesWrong : ChangeSpec := { name := "modelMigrates", fn := fun _ => fun
  | [d1, d2, d3] => { results := [.lit (.bool false)], args := [d1, d2, d3] }
  | _ => none }
def ModelMigratesWrongFalsely : Prop := modelMigratesRow.holds Tryz.pinned (OpenSpec.ofChange modelMigratesWrong)

/- THE SECOND FORM. 'bulk': how many values and letters a reading holds, each counted each time it is reached (what is shared counts as often as it is met; a slice's spare places count too). A statement '..UptoSaid' is the law's where the arguments, and the package variables that the reading takes, are together of bulk at most 1048576: NARROWER than '..Said'. Prove '..Said' where nothing that the law and all that it calls make is longer than what came in: it says more and counts as full. Else prove '..UptoSaid'. A law counts once. -/
mutual
def uptoBulk {H : Type} : DataW H → Nat
  | .lit (.string bytes) => bytes.length + 1
  | .lit _ => 1
  | .nil => 1
  | .ptr d => uptoBulk d + 1
  | .slice elems spare => uptoBulkAll elems + uptoBulkAll spare + 1
  | .agg parts => uptoBulkAll parts + 1
  | .iface _ d => uptoBulk d + 1
  | .map entries => uptoBulkEntries entries + 1
  | .held _ => 1
def uptoBulkAll {H : Type} : List (DataW H) → Nat
  | [] => 0
  | d :: r => uptoBulk d + uptoBulkAll r
def uptoBulkEntries {H : Type} : List (Lit × DataW H) → Nat
  | [] => 0
  | x :: r => uptoBulkEntry x + uptoBulkEntries r
def uptoBulkEntry {H : Type} : Lit × DataW H → Nat
  | (.string bytes, d) => bytes.length + uptoBulk d + 1
  | (_, d) => uptoBulk d + 1
 end
def uptoSmall : (H : Type) → List (DataW H) → Bool := fun _ ds => decide (uptoBulkAll ds ≤ 1048576)
def OpenSpec.upto (s : _root_.Go.ChangeSpec) : _root_.Go.OpenSpec := { _root_.Go.OpenSpec.ofChange s with cond := some uptoSmall }

/-- 'coraclelaw08.ApplyDoes', WHERE WHAT IT READS IS OF BULK AT MOST 1048576: true; the input reads as it did. -/
def applyDoesUptoRow : OpenClaim := { program := "ytdggohppeeaipaagreat", sum := "feea6206495d7fd410bf1b210bf67c4a57f7ee3004e52bbc0f756fa9fc3f60e3", func := "coracle/coraclelaw08.ApplyDoes", spec := "applyDoes", inPlace := ["slices.overlaps[coracle/api.Sess]", "slices.overlaps[coracle/api.Open]"], unfollowed := true, recurses := true, apart := false, narrowed := true }
def ApplyDoesUptoSaid : Prop := applyDoesUptoRow.holds Tryz.pinned (OpenSpec.upto applyDoesSpec)

/-- 'coraclelaw08.ApplyActs', WHERE WHAT IT READS IS OF BULK AT MOST 1048576: true; the input reads as it did. -/
def applyActsUptoRow : OpenClaim := { program := "ytdggohppeeaipaagreat", sum := "feea6206495d7fd410bf1b210bf67c4a57f7ee3004e52bbc0f756fa9fc3f60e3", func := "coracle/coraclelaw08.ApplyActs", spec := "applyActs", inPlace := ["slices.overlaps[coracle/api.Sess]", "slices.overlaps[coracle/api.Open]"], unfollowed := true, recurses := true, apart := false, narrowed := true }
def ApplyActsUptoSaid : Prop := applyActsUptoRow.holds Tryz.pinned (OpenSpec.upto applyActsSpec)

/-- 'coraclelaw09.MigrateDoes', WHERE WHAT IT READS IS OF BULK AT MOST 1048576: true; the input reads as it did. -/
def migrateDoesUptoRow : OpenClaim := { program := "ytdggohppeeaipaagreat", sum := "feea6206495d7fd410bf1b210bf67c4a57f7ee3004e52bbc0f756fa9fc3f60e3", func := "coracle/coraclelaw09.MigrateDoes", spec := "migrateDoes", inPlace := ["slices.overlaps[coracle/api.Sess]", "slices.overlaps[coracle/api.Open]"], unfollowed := true, recurses := true, apart := false, narrowed := true }
def MigrateDoesUptoSaid : Prop := migrateDoesUptoRow.holds Tryz.pinned (OpenSpec.upto migrateDoesSpec)

/-- 'coraclelaw09.MigrateBumps', WHERE WHAT IT READS IS OF BULK AT MOST 1048576: true; the input reads as it did. -/
def migrateBumpsUptoRow : OpenClaim := { program := "ytdggohppeeaipaagreat", sum := "feea6206495d7fd410bf1b210bf67c4a57f7ee3004e52bbc0f756fa9fc3f60e3", func := "coracle/coraclelaw09.MigrateBumps", spec := "migrateBumps", inPlace := ["slices.overlaps[coracle/api.Sess]", "slices.overlaps[coracle/api.Open]"], unfollowed := true, recurses := true, apart := false, narrowed := true }
def MigrateBumpsUptoSaid : Prop := migrateBumpsUptoRow.holds Tryz.pinned (OpenSpec.upto migrateBumpsSpec)

/-- 'coraclelaw11.ModelRuns', WHERE WHAT IT READS IS OF BULK AT MOST 1048576: true; the input reads as it did. -/
def modelRunsUptoRow : OpenClaim := { program := "ytdggohppeeaipaagreat", sum := "feea6206495d7fd410bf1b210bf67c4a57f7ee3004e52bbc0f756fa9fc3f60e3", func := "coracle/coraclelaw11.ModelRuns", spec := "modelRuns", inPlace := ["slices.overlaps[coracle/api.Sess]", "slices.overlaps[coracle/api.Open]"], unfollowed := true, recurses := true, apart := false, narrowed := true }
def ModelRunsUptoSaid : Prop := modelRunsUptoRow.holds Tryz.pinned (OpenSpec.upto modelRunsSpec)

/-- 'coraclelaw11.ModelMigrates', WHERE WHAT IT READS IS OF BULK AT MOST 1048576: true; the input reads as it did. -/
def modelMigratesUptoRow : OpenClaim := { program := "ytdggohppeeaipaagreat", sum := "feea6206495d7fd410bf1b210bf67c4a57f7ee3004e52bbc0f756fa9fc3f60e3", func := "coracle/coraclelaw11.ModelMigrates", spec := "modelMigrates", inPlace := ["slices.overlaps[coracle/api.Sess]", "slices.overlaps[coracle/api.Open]"], unfollowed := true, recurses := true, apart := false, narrowed := true }
def ModelMigratesUptoSaid : Prop := modelMigratesUptoRow.holds Tryz.pinned (OpenSpec.upto modelMigratesSpec)

end Rows
end Go.Proofs.YtdggohppeeaipaaGreat
