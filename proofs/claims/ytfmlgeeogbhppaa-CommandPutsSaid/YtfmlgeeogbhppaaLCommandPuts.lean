/- The law CommandPuts: for every input it returns true, and each argument reads behind the call as it read before. Conditions: none. -/
import Derived.Test.YtfmlgeeogbhppaaE13
import Derived.Test.YtfmlgeeogbhppaaArg
import Derived.Test.YtfmlgeeogbhppaaRows
namespace Go.Proofs.Ytfmlgeeogbhppaa
open Go.RowKit Go.ChangeShapes Go.WideShapes

theorem own_knob : ownKnob Try.prog.godebug = none := by kernel_rfl
theorem laid_out : laidOutB Try.prog = true := by kernel_rfl
theorem tr24 : Tr Try.prog 24 Command := Tr.via (fun y => ⟨y.1, y.2.1, y.2.2.1, y.2.2.2.1, y.2.2.2.2.1, y.2.2.2.2.2.1, y.2.2.2.2.2.2.1, y.2.2.2.2.2.2.2⟩) (fun _ => rfl) (Tr.struct Try.underlying24 (by kernel_rfl) (TrF.cons (Tr.int Try.underlying3) rfl (by kernel_rfl) (TrF.cons (Tr.int Try.underlying3) rfl (by kernel_rfl) (TrF.cons (Tr.int Try.underlying3) rfl (by kernel_rfl) (TrF.cons (Tr.int Try.underlying3) rfl (by kernel_rfl) (TrF.cons (Tr.int Try.underlying3) rfl (by kernel_rfl) (TrF.cons (Tr.int Try.underlying3) rfl (by kernel_rfl) (TrF.cons (Tr.list Try.underlying22 (by kernel_rfl) (by kernel_rfl) (by decide) (Tr.int Try.underlying3)) rfl (by kernel_rfl) (TrF.one (Tr.str Try.underlying9) rfl (by kernel_rfl))))))))))
theorem tr37 : Tr Try.prog 37 Field := Tr.via (fun y => ⟨y.1, y.2.1, y.2.2.1, y.2.2.2⟩) (fun _ => rfl) (Tr.struct Try.underlying37 (by kernel_rfl) (TrF.cons (Tr.int Try.underlying3) rfl (by kernel_rfl) (TrF.cons (Tr.int Try.underlying3) rfl (by kernel_rfl) (TrF.cons (Tr.u64 Try.underlying35) rfl (by kernel_rfl) (TrF.one (Tr.list Try.underlying27 (by kernel_rfl) (by kernel_rfl) (by decide) (Tr.u8 Try.underlying5)) rfl (by kernel_rfl))))))
set_option maxRecDepth 100000 in
theorem commandPuts_lift (os : Os) (started : os.Started) (H : Type) (enc : TypeId × Value → H) :
    ReturnsInHanded {} Try.checked os 3 .any (Rows.commandPutsSpec.pre6 enc Try.prog Try.f3 Rows.commandPutsRow.domain false) (Rows.commandPutsSpec.post enc Try.prog Try.f3 false true false false) := by
  refine law_lift (C := Try.checked) own_knob started (by kernel_rfl) Try.func3 (ChangeSpec.witness6 (enc := enc) (C := Try.checked) false ⟨#[], #[.agg #[.int .i64 0, .int .i64 0, .int .i64 0, .int .i64 0, .int .i64 0, .int .i64 0, .slice none 0 0, .string ⟨#[]⟩], .slice none 0 0, .int .i64 0], []⟩ 8 (by kernel_rfl) (by kernel_rfl) (by kernel_rfl) (by kernel_rfl)) laid_out (by kernel_rfl) (by kernel_rfl) Try.underlying4 rfl (fun ds h => ?_) ?_
  · match ds, h with
    | [d0, d1, d2], _ => rfl
  · intro W args hs ha
    obtain ⟨l⟩ := args
    match l, hs with
    | [v0, v1, v2], _ =>
      obtain ⟨x0, s0, rfl, h0⟩ := Ar.struct (ha 0 24 _ rfl rfl) Try.underlying24 (tr24)
      obtain ⟨x1, a1, c1, rfl, h1⟩ := Ar.list (ha 1 25 _ rfl rfl) Try.underlying25 (Tr.list Try.underlying25 (by kernel_rfl) (by kernel_rfl) (by decide) (tr37))
      obtain ⟨x2, rfl, h2⟩ := Ar.int (ha 2 3 _ rfl rfl) Try.underlying3
      exact cmdputs_s x2 h0 h1

theorem commandPuts_holds : Rows.CommandPutsSaid :=
  OpenClaim.holds_of_wide 3 Try.f3 rfl rfl rfl rfl rfl rfl rfl ⟨rfl, rfl, rfl, rfl, rfl⟩ rfl rfl rfl rfl rfl (by kernel_rfl) Try.func3 (by kernel_rfl)
    (of_decide_eq_true (by kernel_rfl)) (by unfold Func.isWrapper; first | (rw [if_pos (by decide +kernel)]; kernel_rfl) | (rw [if_neg (by decide +kernel)]; exact ⟨rfl, rfl⟩))
    (fun os started H enc _ => commandPuts_lift os started H enc)

end Go.Proofs.Ytfmlgeeogbhppaa
