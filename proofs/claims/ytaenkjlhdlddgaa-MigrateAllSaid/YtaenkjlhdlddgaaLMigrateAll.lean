/- The law MigrateAll: for every input it returns true, and each argument reads behind the call as it read before. Conditions: none. -/
import Derived.Test.YtaenkjlhdlddgaaC2
import Derived.Test.YtaenkjlhdlddgaaArg
import Derived.Test.YtaenkjlhdlddgaaRows
namespace Go.Proofs.Ytaenkjlhdlddgaa
open Go.RowKit Go.ChangeShapes Go.WideShapes

theorem own_knob : ownKnob Try.prog.godebug = none := by kernel_rfl
theorem laid_out : laidOutB Try.prog = true := by kernel_rfl
theorem tr46 : Tr Try.prog 46 Snap := Tr.via (fun y => ⟨y.1, y.2.1, y.2.2.1, y.2.2.2.1, y.2.2.2.2⟩) (fun _ => rfl) (Tr.struct Try.underlying46 (by kernel_rfl) (TrF.cons (Tr.int Try.underlying3) rfl (by kernel_rfl) (TrF.cons (Tr.int Try.underlying3) rfl (by kernel_rfl) (TrF.cons (Tr.list Try.underlying24 (by kernel_rfl) (by kernel_rfl) (by decide) (Tr.int Try.underlying3)) rfl (by kernel_rfl) (TrF.cons (Tr.bool Try.underlying4) rfl (by kernel_rfl) (TrF.one (Tr.str Try.underlying9) rfl (by kernel_rfl)))))))
theorem tr53 : Tr Try.prog 53 Opn := Tr.via (fun y => ⟨y.1, y.2⟩) (fun _ => rfl) (Tr.struct Try.underlying53 (by kernel_rfl) (TrF.cons (Tr.int Try.underlying3) rfl (by kernel_rfl) (TrF.one (Tr.int Try.underlying3) rfl (by kernel_rfl))))
theorem tr49 : Tr Try.prog 49 Reply := Tr.via (fun y => ⟨y.1, y.2⟩) (fun _ => rfl) (Tr.struct Try.underlying49 (by kernel_rfl) (TrF.cons (Tr.int Try.underlying27) rfl (by kernel_rfl) (TrF.one (Tr.int Try.underlying3) rfl (by kernel_rfl))))
theorem tr51 : Tr Try.prog 51 Sess := Tr.via (fun y => ⟨y.1, y.2.1, y.2.2⟩) (fun _ => rfl) (Tr.struct Try.underlying51 (by kernel_rfl) (TrF.cons (Tr.int Try.underlying3) rfl (by kernel_rfl) (TrF.cons (Tr.int Try.underlying3) rfl (by kernel_rfl) (TrF.one (tr49) rfl (by kernel_rfl)))))
theorem tr34 : Tr Try.prog 34 State := Tr.via (fun y => ⟨y.1, y.2.1, y.2.2.1, y.2.2.2.1, y.2.2.2.2.1, y.2.2.2.2.2.1, y.2.2.2.2.2.2⟩) (fun _ => rfl) (Tr.struct Try.underlying34 (by kernel_rfl) (TrF.cons (Tr.int Try.underlying3) rfl (by kernel_rfl) (TrF.cons (Tr.int Try.underlying3) rfl (by kernel_rfl) (TrF.cons (Tr.int Try.underlying3) rfl (by kernel_rfl) (TrF.cons (Tr.int Try.underlying3) rfl (by kernel_rfl) (TrF.cons (Tr.list Try.underlying30 (by kernel_rfl) (by kernel_rfl) (by decide) (tr51)) rfl (by kernel_rfl) (TrF.cons (Tr.list Try.underlying31 (by kernel_rfl) (by kernel_rfl) (by decide) (tr53)) rfl (by kernel_rfl) (TrF.one (Tr.list Try.underlying32 (by kernel_rfl) (by kernel_rfl) (by decide) (tr46)) rfl (by kernel_rfl)))))))))
set_option maxRecDepth 100000 in
theorem migrateAll_lift (os : Os) (started : os.Started) (H : Type) (enc : TypeId × Value → H) :
    ReturnsInHanded {} Try.checked os 6 .any (Rows.migrateAllSpec.pre6 enc Try.prog Try.f6 Rows.migrateAllRow.domain false) (Rows.migrateAllSpec.post enc Try.prog Try.f6 false true false false) := by
  refine law_lift (C := Try.checked) own_knob started (by kernel_rfl) Try.func6 (ChangeSpec.witness6 (enc := enc) (C := Try.checked) false ⟨#[], #[.agg #[.int .i64 0, .int .i64 0, .int .i64 0, .int .i64 0, .slice none 0 0, .slice none 0 0, .slice none 0 0], .int .i64 0, .slice none 0 0], []⟩ 8 (by kernel_rfl) (by kernel_rfl) (by kernel_rfl) (by kernel_rfl)) laid_out (by kernel_rfl) (by kernel_rfl) Try.underlying4 rfl (fun ds h => ?_) ?_
  · match ds, h with
    | [d0, d1, d2], _ => rfl
  · intro W args hs ha
    obtain ⟨l⟩ := args
    match l, hs with
    | [v0, v1, v2], _ =>
      obtain ⟨x0, s0, rfl, h0⟩ := Ar.struct (ha 0 34 _ rfl rfl) Try.underlying34 (tr34)
      obtain ⟨x1, rfl, h1⟩ := Ar.int (ha 1 3 _ rfl rfl) Try.underlying3
      obtain ⟨x2, a2, c2, rfl, h2⟩ := Ar.list (ha 2 24 _ rfl rfl) Try.underlying24 (Tr.list Try.underlying24 (by kernel_rfl) (by kernel_rfl) (by decide) (Tr.int Try.underlying3))
      exact all_s x1 h0 h1 h2

theorem migrateAll_holds : Rows.MigrateAllSaid :=
  OpenClaim.holds_of_wide 6 Try.f6 rfl rfl rfl rfl rfl rfl rfl ⟨rfl, rfl, rfl, rfl, rfl⟩ rfl rfl rfl rfl rfl (by kernel_rfl) Try.func6 (by kernel_rfl)
    (of_decide_eq_true (by kernel_rfl)) (by unfold Func.isWrapper; first | (rw [if_pos (by decide +kernel)]; kernel_rfl) | (rw [if_neg (by decide +kernel)]; exact ⟨rfl, rfl⟩))
    (fun os started H enc _ => migrateAll_lift os started H enc)

end Go.Proofs.Ytaenkjlhdlddgaa
