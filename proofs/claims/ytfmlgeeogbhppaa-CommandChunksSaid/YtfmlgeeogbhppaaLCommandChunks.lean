/- The law CommandChunks: for every input it returns true, and each argument reads behind the call as it read before. Conditions: none. -/
import Derived.Test.YtfmlgeeogbhppaaE4
import Derived.Test.YtfmlgeeogbhppaaArg
import Derived.Test.YtfmlgeeogbhppaaRows
namespace Go.Proofs.Ytfmlgeeogbhppaa
open Go.RowKit Go.ChangeShapes Go.WideShapes

theorem own_knob : ownKnob Try.prog.godebug = none := by kernel_rfl
theorem laid_out : laidOutB Try.prog = true := by kernel_rfl
set_option maxRecDepth 100000 in
theorem commandChunks_lift (os : Os) (started : os.Started) (H : Type) (enc : TypeId × Value → H) :
    ReturnsInHanded {} Try.checked os 6 .any (Rows.commandChunksSpec.pre6 enc Try.prog Try.f6 Rows.commandChunksRow.domain false) (Rows.commandChunksSpec.post enc Try.prog Try.f6 false true false false) := by
  refine law_lift (C := Try.checked) own_knob started (by kernel_rfl) Try.func6 (ChangeSpec.witness6 (enc := enc) (C := Try.checked) false ⟨#[], #[.slice none 0 0], []⟩ 8 (by kernel_rfl) (by kernel_rfl) (by kernel_rfl) (by kernel_rfl)) laid_out (by kernel_rfl) (by kernel_rfl) Try.underlying4 rfl (fun ds h => ?_) ?_
  · match ds, h with
    | [d0], _ => rfl
  · intro W args hs ha
    obtain ⟨l⟩ := args
    match l, hs with
    | [v0], _ =>
      obtain ⟨x0, a0, c0, rfl, h0⟩ := Ar.list (ha 0 22 _ rfl rfl) Try.underlying22 (Tr.list Try.underlying22 (by kernel_rfl) (by kernel_rfl) (by decide) (Tr.int Try.underlying3))
      exact cmdchunks_s h0

theorem commandChunks_holds : Rows.CommandChunksSaid :=
  OpenClaim.holds_of_wide 6 Try.f6 rfl rfl rfl rfl rfl rfl rfl ⟨rfl, rfl, rfl, rfl, rfl⟩ rfl rfl rfl rfl rfl (by kernel_rfl) Try.func6 (by kernel_rfl)
    (of_decide_eq_true (by kernel_rfl)) (by unfold Func.isWrapper; first | (rw [if_pos (by decide +kernel)]; kernel_rfl) | (rw [if_neg (by decide +kernel)]; exact ⟨rfl, rfl⟩))
    (fun os started H enc _ => commandChunks_lift os started H enc)

end Go.Proofs.Ytfmlgeeogbhppaa
