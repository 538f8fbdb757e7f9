/- The law CommandSame: for every input it returns true, and each argument reads behind the call as it read before. Conditions: none. -/
import Derived.Test.YtfmlgeeogbhppaaE1
import Derived.Test.YtfmlgeeogbhppaaArg
import Derived.Test.YtfmlgeeogbhppaaRows
namespace Go.Proofs.Ytfmlgeeogbhppaa
open Go.RowKit Go.ChangeShapes Go.WideShapes

theorem own_knob : ownKnob Try.prog.godebug = none := by kernel_rfl
theorem laid_out : laidOutB Try.prog = true := by kernel_rfl
theorem tr24 : Tr Try.prog 24 Command := Tr.via (fun y => ⟨y.1, y.2.1, y.2.2.1, y.2.2.2.1, y.2.2.2.2.1, y.2.2.2.2.2.1, y.2.2.2.2.2.2.1, y.2.2.2.2.2.2.2⟩) (fun _ => rfl) (Tr.struct Try.underlying24 (by kernel_rfl) (TrF.cons (Tr.int Try.underlying3) rfl (by kernel_rfl) (TrF.cons (Tr.int Try.underlying3) rfl (by kernel_rfl) (TrF.cons (Tr.int Try.underlying3) rfl (by kernel_rfl) (TrF.cons (Tr.int Try.underlying3) rfl (by kernel_rfl) (TrF.cons (Tr.int Try.underlying3) rfl (by kernel_rfl) (TrF.cons (Tr.int Try.underlying3) rfl (by kernel_rfl) (TrF.cons (Tr.list Try.underlying22 (by kernel_rfl) (by kernel_rfl) (by decide) (Tr.int Try.underlying3)) rfl (by kernel_rfl) (TrF.one (Tr.str Try.underlying9) rfl (by kernel_rfl))))))))))
set_option maxRecDepth 100000 in
theorem commandSame_lift (os : Os) (started : os.Started) (H : Type) (enc : TypeId × Value → H) :
    ReturnsInHanded {} Try.checked os 4 .any (Rows.commandSameSpec.pre6 enc Try.prog Try.f4 Rows.commandSameRow.domain false) (Rows.commandSameSpec.post enc Try.prog Try.f4 false true false false) := by
  refine law_lift (C := Try.checked) own_knob started (by kernel_rfl) Try.func4 (ChangeSpec.witness6 (enc := enc) (C := Try.checked) false ⟨#[], #[.agg #[.int .i64 0, .int .i64 0, .int .i64 0, .int .i64 0, .int .i64 0, .int .i64 0, .slice none 0 0, .string ⟨#[]⟩], .agg #[.int .i64 0, .int .i64 0, .int .i64 0, .int .i64 0, .int .i64 0, .int .i64 0, .slice none 0 0, .string ⟨#[]⟩], .int .u8 0], []⟩ 8 (by kernel_rfl) (by kernel_rfl) (by kernel_rfl) (by kernel_rfl)) laid_out (by kernel_rfl) (by kernel_rfl) Try.underlying4 rfl (fun ds h => ?_) ?_
  · match ds, h with
    | [d0, d1, d2], _ => rfl
  · intro W args hs ha
    obtain ⟨l⟩ := args
    match l, hs with
    | [v0, v1, v2], _ =>
      obtain ⟨x0, s0, rfl, h0⟩ := Ar.struct (ha 0 24 _ rfl rfl) Try.underlying24 (tr24)
      obtain ⟨x1, s1, rfl, h1⟩ := Ar.struct (ha 1 24 _ rfl rfl) Try.underlying24 (tr24)
      obtain ⟨x2, rfl⟩ := Ar.u8 (ha 2 5 _ rfl rfl) Try.underlying5
      exact cmdsame_s x2 h0 h1

theorem commandSame_holds : Rows.CommandSameSaid :=
  OpenClaim.holds_of_wide 4 Try.f4 rfl rfl rfl rfl rfl rfl rfl ⟨rfl, rfl, rfl, rfl, rfl⟩ rfl rfl rfl rfl rfl (by kernel_rfl) Try.func4 (by kernel_rfl)
    (of_decide_eq_true (by kernel_rfl)) (by unfold Func.isWrapper; first | (rw [if_pos (by decide +kernel)]; kernel_rfl) | (rw [if_neg (by decide +kernel)]; exact ⟨rfl, rfl⟩))
    (fun os started H enc _ => commandSame_lift os started H enc)

end Go.Proofs.Ytfmlgeeogbhppaa
