/- The law: for every input it returns true, and each argument reads behind the call as it read before; and what leads there. Conditions: each lemma's own. -/
import Derived.ProofKit
import Derived.SizedLaws
import Derived.Test.YtbgkcbjebflmbaaChecked
import Derived.Test.YtbgkcbjebflmbaaRows
import Derived.Test.YtbgkcbjebflmbaaKHM5
set_option linter.unusedVariables false
set_option linter.unusedSimpArgs false
namespace Go.Proofs.Ytbgkcbjebflmbaa
open Go.RowKit
def snapDoF (f : State -> Nat -> State × Reply) (c : Command) (s : State) : State × Reply := if placeF Snap.id c.id s.snaps < 0 then (s, ⟨15, 0⟩) else f s (placeF Snap.id c.id s.snaps).toNat
section
variable {v nx kp qt : Int} {se : List Sess} {op : List Opn} {sn : List Snap} {c : Command} {f : State -> Nat -> State × Reply}
theorem sdY (h : placeF Snap.id c.id sn < 0) : snapDoF f c (State.mk v nx kp qt se op sn) = (State.mk v nx kp qt se op sn, ⟨15, 0⟩) := by
  simp only [snapDoF, if_pos h]
theorem sdN (h : 0 <= placeF Snap.id c.id sn) : snapDoF f c (State.mk v nx kp qt se op sn) = f (State.mk v nx kp qt se op sn) (placeF Snap.id c.id sn).toNat := by
  have h1 : ¬ placeF Snap.id c.id sn < 0 := by omega
  simp only [snapDoF, if_neg h1]
end
theorem act3_t (v : Int) (nx : Int) (kp : Int) (qt : Int) (se : List Sess) (op : List Opn) (sn : List Snap) (c : Command) (r0 : Reply) (r1 : Int) (r2 : Int) (r3 : Int) (r4 : Int) (r5 : List Sess) (r6 : List Opn) (r7 : List Snap) (r8 : Command) : wpE tyT O_P19 [] Try.f46 [.c (.ptr 0 0), .c (.ptr 4 0)] [.box 26 ([.int (v), .int (nx), .int (kp), .int (qt), .own 1, .own 2, .own 3]), .row 42 (.nm .sess) (se), .row 51 (.nm .opn) (op), .row 46 (.nm .snap) (sn), .box 29 (cellsOf (.nm .command) (c))] [.agg (cellsOf (.nm .reply) r0)] [.box 26 ([.int (r1), .int (r2), .int (r3), .int (r4), .own 1, .own 2, .own 3]), .row 42 (.nm .sess) (r5), .row 51 (.nm .opn) (r6), .row 46 (.nm .snap) (r7), .box 29 (cellsOf (.nm .command) (r8))] = (op.length < (1048576 : Nat) /\ (I64 (beginF (State.mk v nx kp qt se op sn) c).snd.code -> I64 (beginF (State.mk v nx kp qt se op sn) c).snd.n -> (beginF (State.mk v nx kp qt se op sn) c).snd.code = r0.code /\ (beginF (State.mk v nx kp qt se op sn) c).snd.n = r0.n /\ (beginF (State.mk v nx kp qt se op sn) c).fst.version = r1 /\ (beginF (State.mk v nx kp qt se op sn) c).fst.next = r2 /\ (beginF (State.mk v nx kp qt se op sn) c).fst.keep = r3 /\ (beginF (State.mk v nx kp qt se op sn) c).fst.quota = r4 /\ (beginF (State.mk v nx kp qt se op sn) c).fst.sess = r5 /\ (beginF (State.mk v nx kp qt se op sn) c).fst.opens = r6 /\ (beginF (State.mk v nx kp qt se op sn) c).fst.snaps = r7 /\ c.kind = r8.kind /\ c.client = r8.client /\ c.seq = r8.seq /\ c.set = r8.set /\ c.id = r8.id /\ c.n = r8.n /\ c.chunks = r8.chunks /\ c.text = r8.text)) := by kernel_rfl
theorem act3_s (v : Int) (nx : Int) (kp : Int) (qt : Int) (se : List Sess) (op : List Opn) (sn : List Snap) (c : Command) (h0 : op.length < 1048576) : Sat Try.prog (shpOf tyT) 46 [.c (.ptr 0 0), .c (.ptr 4 0)] [.box 26 ([.int (v), .int (nx), .int (kp), .int (qt), .own 1, .own 2, .own 3]), .row 42 (.nm .sess) (se), .row 51 (.nm .opn) (op), .row 46 (.nm .snap) (sn), .box 29 (cellsOf (.nm .command) (c))] ⟨[op.length < 1048576], [.agg (cellsOf (.nm .reply) ((beginF (State.mk v nx kp qt se op sn) c).2))], some ([.box 26 ([.int ((((beginF (State.mk v nx kp qt se op sn) c).1).version)), .int ((((beginF (State.mk v nx kp qt se op sn) c).1).next)), .int ((((beginF (State.mk v nx kp qt se op sn) c).1).keep)), .int ((((beginF (State.mk v nx kp qt se op sn) c).1).quota)), .own 1, .own 2, .own 3]), .row 42 (.nm .sess) ((((beginF (State.mk v nx kp qt se op sn) c).1).sess)), .row 51 (.nm .opn) ((((beginF (State.mk v nx kp qt se op sn) c).1).opens)), .row 46 (.nm .snap) ((((beginF (State.mk v nx kp qt se op sn) c).1).snaps)), .box 29 (cellsOf (.nm .command) ((c)))]), false⟩ := by
  refine sat_e O_P19_ok [] Try.func46 (by decide) (by kernel_rfl) ?_
  rw [act3_t]
  (repeat' (first | with_reducible refine And.intro ?_ ?_ | with_reducible refine and_imp.2 ?_ | intro))
  all_goals (first | (first | with_reducible rfl | with_reducible assumption | omega | (refine I64_of ?_ ?_ <;> omega)) | exact rfl)
theorem act4_t (v : Int) (nx : Int) (kp : Int) (qt : Int) (se : List Sess) (op : List Opn) (sn : List Snap) (c : Command) (r0 : Reply) (r1 : Int) (r2 : Int) (r3 : Int) (r4 : Int) (r5 : List Sess) (r6 : List Opn) (r7 : List Snap) (r8 : Command) : wpE tyT O_P19 [] Try.f48 [.c (.ptr 0 0), .c (.ptr 4 0)] [.box 26 ([.int (v), .int (nx), .int (kp), .int (qt), .own 1, .own 2, .own 3]), .row 42 (.nm .sess) (se), .row 51 (.nm .opn) (op), .row 46 (.nm .snap) (sn), .box 29 (cellsOf (.nm .command) (c))] [.agg (cellsOf (.nm .reply) r0)] [.box 26 ([.int (r1), .int (r2), .int (r3), .int (r4), .own 1, .own 2, .own 3]), .row 42 (.nm .sess) (r5), .row 51 (.nm .opn) (r6), .row 46 (.nm .snap) (r7), .box 29 (cellsOf (.nm .command) (r8))] = (nch sn <= (1048576 : Nat) /\ sn.length < (1048576 : Nat) /\ op.length < (1048576 : Nat) /\ (0 : Int) <= nx /\ (I64 (commitF (State.mk v nx kp qt se op sn) c).snd.code -> I64 (commitF (State.mk v nx kp qt se op sn) c).snd.n -> (commitF (State.mk v nx kp qt se op sn) c).snd.code = r0.code /\ (commitF (State.mk v nx kp qt se op sn) c).snd.n = r0.n /\ (commitF (State.mk v nx kp qt se op sn) c).fst.version = r1 /\ (commitF (State.mk v nx kp qt se op sn) c).fst.next = r2 /\ (commitF (State.mk v nx kp qt se op sn) c).fst.keep = r3 /\ (commitF (State.mk v nx kp qt se op sn) c).fst.quota = r4 /\ (commitF (State.mk v nx kp qt se op sn) c).fst.sess = r5 /\ (commitF (State.mk v nx kp qt se op sn) c).fst.opens = r6 /\ (commitF (State.mk v nx kp qt se op sn) c).fst.snaps = r7 /\ c.kind = r8.kind /\ c.client = r8.client /\ c.seq = r8.seq /\ c.set = r8.set /\ c.id = r8.id /\ c.n = r8.n /\ c.chunks = r8.chunks /\ c.text = r8.text)) := by kernel_rfl
theorem act4_s (v : Int) (nx : Int) (kp : Int) (qt : Int) (se : List Sess) (op : List Opn) (sn : List Snap) (c : Command) (h0 : nch sn <= 1048576) (h1 : sn.length < 1048576) (h2 : op.length < 1048576) (h3 : 0 <= nx) : Sat Try.prog (shpOf tyT) 48 [.c (.ptr 0 0), .c (.ptr 4 0)] [.box 26 ([.int (v), .int (nx), .int (kp), .int (qt), .own 1, .own 2, .own 3]), .row 42 (.nm .sess) (se), .row 51 (.nm .opn) (op), .row 46 (.nm .snap) (sn), .box 29 (cellsOf (.nm .command) (c))] ⟨[nch sn <= 1048576, sn.length < 1048576, op.length < 1048576, 0 <= nx], [.agg (cellsOf (.nm .reply) ((commitF (State.mk v nx kp qt se op sn) c).2))], some ([.box 26 ([.int ((((commitF (State.mk v nx kp qt se op sn) c).1).version)), .int ((((commitF (State.mk v nx kp qt se op sn) c).1).next)), .int ((((commitF (State.mk v nx kp qt se op sn) c).1).keep)), .int ((((commitF (State.mk v nx kp qt se op sn) c).1).quota)), .own 1, .own 2, .own 3]), .row 42 (.nm .sess) ((((commitF (State.mk v nx kp qt se op sn) c).1).sess)), .row 51 (.nm .opn) ((((commitF (State.mk v nx kp qt se op sn) c).1).opens)), .row 46 (.nm .snap) ((((commitF (State.mk v nx kp qt se op sn) c).1).snaps)), .box 29 (cellsOf (.nm .command) ((c)))]), false⟩ := by
  refine sat_e O_P19_ok [] Try.func48 (by decide) (by kernel_rfl) ?_
  rw [act4_t]
  (repeat' (first | with_reducible refine And.intro ?_ ?_ | with_reducible refine and_imp.2 ?_ | intro))
  all_goals (first | (first | with_reducible rfl | with_reducible assumption | omega | (refine I64_of ?_ ?_ <;> omega)) | exact rfl)
theorem act5_t (v : Int) (nx : Int) (kp : Int) (qt : Int) (se : List Sess) (op : List Opn) (sn : List Snap) (c : Command) (r0 : Reply) (r1 : Int) (r2 : Int) (r3 : Int) (r4 : Int) (r5 : List Sess) (r6 : List Opn) (r7 : List Snap) (r8 : Command) : wpE tyT O_P19 [] Try.f50 [.c (.ptr 0 0), .c (.ptr 4 0)] [.box 26 ([.int (v), .int (nx), .int (kp), .int (qt), .own 1, .own 2, .own 3]), .row 42 (.nm .sess) (se), .row 51 (.nm .opn) (op), .row 46 (.nm .snap) (sn), .box 29 (cellsOf (.nm .command) (c))] [.agg (cellsOf (.nm .reply) r0)] [.box 26 ([.int (r1), .int (r2), .int (r3), .int (r4), .own 1, .own 2, .own 3]), .row 42 (.nm .sess) (r5), .row 51 (.nm .opn) (r6), .row 46 (.nm .snap) (r7), .box 29 (cellsOf (.nm .command) (r8))] = (op.length < (1048576 : Nat) /\ (I64 (abortF (State.mk v nx kp qt se op sn) c).snd.code -> I64 (abortF (State.mk v nx kp qt se op sn) c).snd.n -> (abortF (State.mk v nx kp qt se op sn) c).snd.code = r0.code /\ (abortF (State.mk v nx kp qt se op sn) c).snd.n = r0.n /\ (abortF (State.mk v nx kp qt se op sn) c).fst.version = r1 /\ (abortF (State.mk v nx kp qt se op sn) c).fst.next = r2 /\ (abortF (State.mk v nx kp qt se op sn) c).fst.keep = r3 /\ (abortF (State.mk v nx kp qt se op sn) c).fst.quota = r4 /\ (abortF (State.mk v nx kp qt se op sn) c).fst.sess = r5 /\ (abortF (State.mk v nx kp qt se op sn) c).fst.opens = r6 /\ (abortF (State.mk v nx kp qt se op sn) c).fst.snaps = r7 /\ c.kind = r8.kind /\ c.client = r8.client /\ c.seq = r8.seq /\ c.set = r8.set /\ c.id = r8.id /\ c.n = r8.n /\ c.chunks = r8.chunks /\ c.text = r8.text)) := by kernel_rfl
theorem act5_s (v : Int) (nx : Int) (kp : Int) (qt : Int) (se : List Sess) (op : List Opn) (sn : List Snap) (c : Command) (h0 : op.length < 1048576) : Sat Try.prog (shpOf tyT) 50 [.c (.ptr 0 0), .c (.ptr 4 0)] [.box 26 ([.int (v), .int (nx), .int (kp), .int (qt), .own 1, .own 2, .own 3]), .row 42 (.nm .sess) (se), .row 51 (.nm .opn) (op), .row 46 (.nm .snap) (sn), .box 29 (cellsOf (.nm .command) (c))] ⟨[op.length < 1048576], [.agg (cellsOf (.nm .reply) ((abortF (State.mk v nx kp qt se op sn) c).2))], some ([.box 26 ([.int ((((abortF (State.mk v nx kp qt se op sn) c).1).version)), .int ((((abortF (State.mk v nx kp qt se op sn) c).1).next)), .int ((((abortF (State.mk v nx kp qt se op sn) c).1).keep)), .int ((((abortF (State.mk v nx kp qt se op sn) c).1).quota)), .own 1, .own 2, .own 3]), .row 42 (.nm .sess) ((((abortF (State.mk v nx kp qt se op sn) c).1).sess)), .row 51 (.nm .opn) ((((abortF (State.mk v nx kp qt se op sn) c).1).opens)), .row 46 (.nm .snap) ((((abortF (State.mk v nx kp qt se op sn) c).1).snaps)), .box 29 (cellsOf (.nm .command) ((c)))]), false⟩ := by
  refine sat_e O_P19_ok [] Try.func50 (by decide) (by kernel_rfl) ?_
  rw [act5_t]
  (repeat' (first | with_reducible refine And.intro ?_ ?_ | with_reducible refine and_imp.2 ?_ | intro))
  all_goals (first | (first | with_reducible rfl | with_reducible assumption | omega | (refine I64_of ?_ ?_ <;> omega)) | exact rfl)
theorem act1_prune_t (v : Int) (nx : Int) (kp : Int) (qt : Int) (se : List Sess) (op : List Opn) (sn : List Snap) (c : Command) (r0 : Int) (r1 : Int) (r2 : Int) (r3 : Int) (r4 : List Sess) (r5 : List Opn) (r6 : List Snap) (r7 : Command) : wpN tyT O_P19 [] Try.f41 [.c (.fn 55 [] [(0, 0)]), .c (.ptr 0 0), .c (.ptr 4 0)] [.box 26 ([.int (v), .int (nx), .int (kp), .int (qt), .own 1, .own 2, .own 3]), .row 42 (.nm .sess) (se), .row 51 (.nm .opn) (op), .row 46 (.nm .snap) (sn), .box 29 (cellsOf (.nm .command) (c))] [.c (.fn 42 [] [(0, 0), (4, 0), (5, 0)])] [.box 26 ([.int (r0), .int (r1), .int (r2), .int (r3), .own 1, .own 2, .own 3]), .row 42 (.nm .sess) (r4), .row 51 (.nm .opn) (r5), .row 46 (.nm .snap) (r6), .box 29 (cellsOf (.nm .command) (r7)), .box 66 ([.fn 55 [] [(0, 0)]])] = (v = r0 /\ nx = r1 /\ kp = r2 /\ qt = r3 /\ se = r4 /\ op = r5 /\ sn = r6 /\ c.kind = r7.kind /\ c.client = r7.client /\ c.seq = r7.seq /\ c.set = r7.set /\ c.id = r7.id /\ c.n = r7.n /\ c.chunks = r7.chunks /\ c.text = r7.text) := by kernel_rfl
theorem act1_prune_s (v : Int) (nx : Int) (kp : Int) (qt : Int) (se : List Sess) (op : List Opn) (sn : List Snap) (c : Command) : Sat Try.prog (shpOf tyT) 41 [.c (.fn 55 [] [(0, 0)]), .c (.ptr 0 0), .c (.ptr 4 0)] [.box 26 ([.int (v), .int (nx), .int (kp), .int (qt), .own 1, .own 2, .own 3]), .row 42 (.nm .sess) (se), .row 51 (.nm .opn) (op), .row 46 (.nm .snap) (sn), .box 29 (cellsOf (.nm .command) (c))] ⟨[], [.c (.fn 42 [] [(0, 0), (4, 0), (5, 0)])], some ([.box 26 ([.int ((v)), .int ((nx)), .int ((kp)), .int ((qt)), .own 1, .own 2, .own 3]), .row 42 (.nm .sess) ((se)), .row 51 (.nm .opn) ((op)), .row 46 (.nm .snap) ((sn)), .box 29 (cellsOf (.nm .command) ((c))), .box 66 ([.fn 55 [] [(0, 0)]])]), true⟩ := by
  refine sat_n O_P19_ok [] Try.func41 (by decide) (by kernel_rfl) ?_
  rw [act1_prune_t]
  (repeat' (first | with_reducible refine And.intro ?_ ?_ | with_reducible refine and_imp.2 ?_ | intro))
  all_goals (first | (first | with_reducible rfl | with_reducible assumption | omega | (refine I64_of ?_ ?_ <;> omega)) | exact rfl)
theorem act1_look_t (v : Int) (nx : Int) (kp : Int) (qt : Int) (se : List Sess) (op : List Opn) (sn : List Snap) (c : Command) (r0 : Int) (r1 : Int) (r2 : Int) (r3 : Int) (r4 : List Sess) (r5 : List Opn) (r6 : List Snap) (r7 : Command) : wpN tyT O_P19 [] Try.f41 [.c (.fn 57 [] [(0, 0)]), .c (.ptr 0 0), .c (.ptr 4 0)] [.box 26 ([.int (v), .int (nx), .int (kp), .int (qt), .own 1, .own 2, .own 3]), .row 42 (.nm .sess) (se), .row 51 (.nm .opn) (op), .row 46 (.nm .snap) (sn), .box 29 (cellsOf (.nm .command) (c))] [.c (.fn 42 [] [(0, 0), (4, 0), (5, 0)])] [.box 26 ([.int (r0), .int (r1), .int (r2), .int (r3), .own 1, .own 2, .own 3]), .row 42 (.nm .sess) (r4), .row 51 (.nm .opn) (r5), .row 46 (.nm .snap) (r6), .box 29 (cellsOf (.nm .command) (r7)), .box 66 ([.fn 57 [] [(0, 0)]])] = (v = r0 /\ nx = r1 /\ kp = r2 /\ qt = r3 /\ se = r4 /\ op = r5 /\ sn = r6 /\ c.kind = r7.kind /\ c.client = r7.client /\ c.seq = r7.seq /\ c.set = r7.set /\ c.id = r7.id /\ c.n = r7.n /\ c.chunks = r7.chunks /\ c.text = r7.text) := by kernel_rfl
theorem act1_look_s (v : Int) (nx : Int) (kp : Int) (qt : Int) (se : List Sess) (op : List Opn) (sn : List Snap) (c : Command) : Sat Try.prog (shpOf tyT) 41 [.c (.fn 57 [] [(0, 0)]), .c (.ptr 0 0), .c (.ptr 4 0)] [.box 26 ([.int (v), .int (nx), .int (kp), .int (qt), .own 1, .own 2, .own 3]), .row 42 (.nm .sess) (se), .row 51 (.nm .opn) (op), .row 46 (.nm .snap) (sn), .box 29 (cellsOf (.nm .command) (c))] ⟨[], [.c (.fn 42 [] [(0, 0), (4, 0), (5, 0)])], some ([.box 26 ([.int ((v)), .int ((nx)), .int ((kp)), .int ((qt)), .own 1, .own 2, .own 3]), .row 42 (.nm .sess) ((se)), .row 51 (.nm .opn) ((op)), .row 46 (.nm .snap) ((sn)), .box 29 (cellsOf (.nm .command) ((c))), .box 66 ([.fn 57 [] [(0, 0)]])]), true⟩ := by
  refine sat_n O_P19_ok [] Try.func41 (by decide) (by kernel_rfl) ?_
  rw [act1_look_t]
  (repeat' (first | with_reducible refine And.intro ?_ ?_ | with_reducible refine and_imp.2 ?_ | intro))
  all_goals (first | (first | with_reducible rfl | with_reducible assumption | omega | (refine I64_of ?_ ?_ <;> omega)) | exact rfl)
theorem act1_tag_t (c : Command) (v : Int) (nx : Int) (kp : Int) (qt : Int) (se : List Sess) (op : List Opn) (sn : List Snap) (r0 : Command) (r1 : Int) (r2 : Int) (r3 : Int) (r4 : Int) (r5 : List Sess) (r6 : List Opn) (r7 : List Snap) : wpN tyT O_P19 [] Try.f41 [.c (.fn 58 [] [(0, 0), (1, 0)]), .c (.ptr 1 0), .c (.ptr 0 0)] [.box 29 (cellsOf (.nm .command) (c)), .box 26 ([.int (v), .int (nx), .int (kp), .int (qt), .own 2, .own 3, .own 4]), .row 42 (.nm .sess) (se), .row 51 (.nm .opn) (op), .row 46 (.nm .snap) (sn)] [.c (.fn 42 [] [(1, 0), (0, 0), (5, 0)])] [.box 29 (cellsOf (.nm .command) (r0)), .box 26 ([.int (r1), .int (r2), .int (r3), .int (r4), .own 2, .own 3, .own 4]), .row 42 (.nm .sess) (r5), .row 51 (.nm .opn) (r6), .row 46 (.nm .snap) (r7), .box 66 ([.fn 58 [] [(0, 0), (1, 0)]])] = (c.kind = r0.kind /\ c.client = r0.client /\ c.seq = r0.seq /\ c.set = r0.set /\ c.id = r0.id /\ c.n = r0.n /\ c.chunks = r0.chunks /\ c.text = r0.text /\ v = r1 /\ nx = r2 /\ kp = r3 /\ qt = r4 /\ se = r5 /\ op = r6 /\ sn = r7) := by kernel_rfl
theorem act1_tag_s (c : Command) (v : Int) (nx : Int) (kp : Int) (qt : Int) (se : List Sess) (op : List Opn) (sn : List Snap) : Sat Try.prog (shpOf tyT) 41 [.c (.fn 58 [] [(0, 0), (1, 0)]), .c (.ptr 1 0), .c (.ptr 0 0)] [.box 29 (cellsOf (.nm .command) (c)), .box 26 ([.int (v), .int (nx), .int (kp), .int (qt), .own 2, .own 3, .own 4]), .row 42 (.nm .sess) (se), .row 51 (.nm .opn) (op), .row 46 (.nm .snap) (sn)] ⟨[], [.c (.fn 42 [] [(1, 0), (0, 0), (5, 0)])], some ([.box 29 (cellsOf (.nm .command) ((c))), .box 26 ([.int ((v)), .int ((nx)), .int ((kp)), .int ((qt)), .own 2, .own 3, .own 4]), .row 42 (.nm .sess) ((se)), .row 51 (.nm .opn) ((op)), .row 46 (.nm .snap) ((sn)), .box 66 ([.fn 58 [] [(0, 0), (1, 0)]])]), true⟩ := by
  refine sat_n O_P19_ok [] Try.func41 (by decide) (by kernel_rfl) ?_
  rw [act1_tag_t]
  (repeat' (first | with_reducible refine And.intro ?_ ?_ | with_reducible refine and_imp.2 ?_ | intro))
  all_goals (first | (first | with_reducible rfl | with_reducible assumption | omega | (refine I64_of ?_ ?_ <;> omega)) | exact rfl)
theorem act1_hold_t (v : Int) (nx : Int) (kp : Int) (qt : Int) (se : List Sess) (op : List Opn) (sn : List Snap) (b : Bool) (c : Command) (r0 : Int) (r1 : Int) (r2 : Int) (r3 : Int) (r4 : List Sess) (r5 : List Opn) (r6 : List Snap) (r7 : Bool) (r8 : Command) : wpN tyT O_P19 [] Try.f41 [.c (.fn 45 [] [(0, 0), (4, 0)]), .c (.ptr 0 0), .c (.ptr 5 0)] [.box 26 ([.int (v), .int (nx), .int (kp), .int (qt), .own 1, .own 2, .own 3]), .row 42 (.nm .sess) (se), .row 51 (.nm .opn) (op), .row 46 (.nm .snap) (sn), .box 4 ([.bool (.atom (b))]), .box 29 (cellsOf (.nm .command) (c))] [.c (.fn 42 [] [(0, 0), (5, 0), (6, 0)])] [.box 26 ([.int (r0), .int (r1), .int (r2), .int (r3), .own 1, .own 2, .own 3]), .row 42 (.nm .sess) (r4), .row 51 (.nm .opn) (r5), .row 46 (.nm .snap) (r6), .box 4 ([.bool (.atom (r7))]), .box 29 (cellsOf (.nm .command) (r8)), .box 66 ([.fn 45 [] [(0, 0), (4, 0)]])] = (v = r0 /\ nx = r1 /\ kp = r2 /\ qt = r3 /\ se = r4 /\ op = r5 /\ sn = r6 /\ b = r7 /\ c.kind = r8.kind /\ c.client = r8.client /\ c.seq = r8.seq /\ c.set = r8.set /\ c.id = r8.id /\ c.n = r8.n /\ c.chunks = r8.chunks /\ c.text = r8.text) := by kernel_rfl
theorem act1_hold_s (v : Int) (nx : Int) (kp : Int) (qt : Int) (se : List Sess) (op : List Opn) (sn : List Snap) (b : Bool) (c : Command) : Sat Try.prog (shpOf tyT) 41 [.c (.fn 45 [] [(0, 0), (4, 0)]), .c (.ptr 0 0), .c (.ptr 5 0)] [.box 26 ([.int (v), .int (nx), .int (kp), .int (qt), .own 1, .own 2, .own 3]), .row 42 (.nm .sess) (se), .row 51 (.nm .opn) (op), .row 46 (.nm .snap) (sn), .box 4 ([.bool (.atom (b))]), .box 29 (cellsOf (.nm .command) (c))] ⟨[], [.c (.fn 42 [] [(0, 0), (5, 0), (6, 0)])], some ([.box 26 ([.int ((v)), .int ((nx)), .int ((kp)), .int ((qt)), .own 1, .own 2, .own 3]), .row 42 (.nm .sess) ((se)), .row 51 (.nm .opn) ((op)), .row 46 (.nm .snap) ((sn)), .box 4 ([.bool (.atom ((b)))]), .box 29 (cellsOf (.nm .command) ((c))), .box 66 ([.fn 45 [] [(0, 0), (4, 0)]])]), true⟩ := by
  refine sat_n O_P19_ok [] Try.func41 (by decide) (by kernel_rfl) ?_
  rw [act1_hold_t]
  (repeat' (first | with_reducible refine And.intro ?_ ?_ | with_reducible refine and_imp.2 ?_ | intro))
  all_goals (first | (first | with_reducible rfl | with_reducible assumption | omega | (refine I64_of ?_ ?_ <;> omega)) | exact rfl)
def O_P20 : Orc := (orc 41 (con (tCons (kC (cFn 45 [] [(0, 0), (4, 0)])) (tCons (kC (cPtr 0 0)) (tCons (kC (cPtr 5 0)) tNil))) (hCons (oBox 26 (lCons cI (lCons cI (lCons cI (lCons cI (lCons (cOwn 1) (lCons (cOwn 2) (lCons (cOwn 3) lNil)))))))) (hCons (oRow 42 (.nm .sess)) (hCons (oRow 51 (.nm .opn)) (hCons (oRow 46 (.nm .snap)) (hCons (oBox 4 (lCons cB lNil)) (hCons (oBox 29 (lSt (.nm .command) lNil)) hNil)))))) fun (_, _, _, _) ((v, nx, kp, qt, _, _, _, _), se, op, sn, (b, _), (c, _), _) => ⟨[], [.c (.fn 42 [] [(0, 0), (5, 0), (6, 0)])], some ([.box 26 ([.int ((v)), .int ((nx)), .int ((kp)), .int ((qt)), .own 1, .own 2, .own 3]), .row 42 (.nm .sess) ((se)), .row 51 (.nm .opn) ((op)), .row 46 (.nm .snap) ((sn)), .box 4 ([.bool (.atom ((b)))]), .box 29 (cellsOf (.nm .command) ((c))), .box 66 ([.fn 45 [] [(0, 0), (4, 0)]])]), true⟩) (orc 41 (con (tCons (kC (cFn 58 [] [(0, 0), (1, 0)])) (tCons (kC (cPtr 1 0)) (tCons (kC (cPtr 0 0)) tNil))) (hCons (oBox 29 (lSt (.nm .command) lNil)) (hCons (oBox 26 (lCons cI (lCons cI (lCons cI (lCons cI (lCons (cOwn 2) (lCons (cOwn 3) (lCons (cOwn 4) lNil)))))))) (hCons (oRow 42 (.nm .sess)) (hCons (oRow 51 (.nm .opn)) (hCons (oRow 46 (.nm .snap)) hNil))))) fun (_, _, _, _) ((c, _), (v, nx, kp, qt, _, _, _, _), se, op, sn, _) => ⟨[], [.c (.fn 42 [] [(1, 0), (0, 0), (5, 0)])], some ([.box 29 (cellsOf (.nm .command) ((c))), .box 26 ([.int ((v)), .int ((nx)), .int ((kp)), .int ((qt)), .own 2, .own 3, .own 4]), .row 42 (.nm .sess) ((se)), .row 51 (.nm .opn) ((op)), .row 46 (.nm .snap) ((sn)), .box 66 ([.fn 58 [] [(0, 0), (1, 0)]])]), true⟩) (orc 41 (con (tCons (kC (cFn 57 [] [(0, 0)])) (tCons (kC (cPtr 0 0)) (tCons (kC (cPtr 4 0)) tNil))) (hCons (oBox 26 (lCons cI (lCons cI (lCons cI (lCons cI (lCons (cOwn 1) (lCons (cOwn 2) (lCons (cOwn 3) lNil)))))))) (hCons (oRow 42 (.nm .sess)) (hCons (oRow 51 (.nm .opn)) (hCons (oRow 46 (.nm .snap)) (hCons (oBox 29 (lSt (.nm .command) lNil)) hNil))))) fun (_, _, _, _) ((v, nx, kp, qt, _, _, _, _), se, op, sn, (c, _), _) => ⟨[], [.c (.fn 42 [] [(0, 0), (4, 0), (5, 0)])], some ([.box 26 ([.int ((v)), .int ((nx)), .int ((kp)), .int ((qt)), .own 1, .own 2, .own 3]), .row 42 (.nm .sess) ((se)), .row 51 (.nm .opn) ((op)), .row 46 (.nm .snap) ((sn)), .box 29 (cellsOf (.nm .command) ((c))), .box 66 ([.fn 57 [] [(0, 0)]])]), true⟩) (orc 41 (con (tCons (kC (cFn 55 [] [(0, 0)])) (tCons (kC (cPtr 0 0)) (tCons (kC (cPtr 4 0)) tNil))) (hCons (oBox 26 (lCons cI (lCons cI (lCons cI (lCons cI (lCons (cOwn 1) (lCons (cOwn 2) (lCons (cOwn 3) lNil)))))))) (hCons (oRow 42 (.nm .sess)) (hCons (oRow 51 (.nm .opn)) (hCons (oRow 46 (.nm .snap)) (hCons (oBox 29 (lSt (.nm .command) lNil)) hNil))))) fun (_, _, _, _) ((v, nx, kp, qt, _, _, _, _), se, op, sn, (c, _), _) => ⟨[], [.c (.fn 42 [] [(0, 0), (4, 0), (5, 0)])], some ([.box 26 ([.int ((v)), .int ((nx)), .int ((kp)), .int ((qt)), .own 1, .own 2, .own 3]), .row 42 (.nm .sess) ((se)), .row 51 (.nm .opn) ((op)), .row 46 (.nm .snap) ((sn)), .box 29 (cellsOf (.nm .command) ((c))), .box 66 ([.fn 55 [] [(0, 0)]])]), true⟩) (orc 50 (con (tCons (kC (cPtr 0 0)) (tCons (kC (cPtr 4 0)) tNil)) (hCons (oBox 26 (lCons cI (lCons cI (lCons cI (lCons cI (lCons (cOwn 1) (lCons (cOwn 2) (lCons (cOwn 3) lNil)))))))) (hCons (oRow 42 (.nm .sess)) (hCons (oRow 51 (.nm .opn)) (hCons (oRow 46 (.nm .snap)) (hCons (oBox 29 (lSt (.nm .command) lNil)) hNil))))) fun (_, _, _) ((v, nx, kp, qt, _, _, _, _), se, op, sn, (c, _), _) => ⟨[op.length < 1048576], [.agg (cellsOf (.nm .reply) ((abortF (State.mk v nx kp qt se op sn) c).2))], some ([.box 26 ([.int ((((abortF (State.mk v nx kp qt se op sn) c).1).version)), .int ((((abortF (State.mk v nx kp qt se op sn) c).1).next)), .int ((((abortF (State.mk v nx kp qt se op sn) c).1).keep)), .int ((((abortF (State.mk v nx kp qt se op sn) c).1).quota)), .own 1, .own 2, .own 3]), .row 42 (.nm .sess) ((((abortF (State.mk v nx kp qt se op sn) c).1).sess)), .row 51 (.nm .opn) ((((abortF (State.mk v nx kp qt se op sn) c).1).opens)), .row 46 (.nm .snap) ((((abortF (State.mk v nx kp qt se op sn) c).1).snaps)), .box 29 (cellsOf (.nm .command) ((c)))]), false⟩) (orc 48 (con (tCons (kC (cPtr 0 0)) (tCons (kC (cPtr 4 0)) tNil)) (hCons (oBox 26 (lCons cI (lCons cI (lCons cI (lCons cI (lCons (cOwn 1) (lCons (cOwn 2) (lCons (cOwn 3) lNil)))))))) (hCons (oRow 42 (.nm .sess)) (hCons (oRow 51 (.nm .opn)) (hCons (oRow 46 (.nm .snap)) (hCons (oBox 29 (lSt (.nm .command) lNil)) hNil))))) fun (_, _, _) ((v, nx, kp, qt, _, _, _, _), se, op, sn, (c, _), _) => ⟨[nch sn <= 1048576, sn.length < 1048576, op.length < 1048576, 0 <= nx], [.agg (cellsOf (.nm .reply) ((commitF (State.mk v nx kp qt se op sn) c).2))], some ([.box 26 ([.int ((((commitF (State.mk v nx kp qt se op sn) c).1).version)), .int ((((commitF (State.mk v nx kp qt se op sn) c).1).next)), .int ((((commitF (State.mk v nx kp qt se op sn) c).1).keep)), .int ((((commitF (State.mk v nx kp qt se op sn) c).1).quota)), .own 1, .own 2, .own 3]), .row 42 (.nm .sess) ((((commitF (State.mk v nx kp qt se op sn) c).1).sess)), .row 51 (.nm .opn) ((((commitF (State.mk v nx kp qt se op sn) c).1).opens)), .row 46 (.nm .snap) ((((commitF (State.mk v nx kp qt se op sn) c).1).snaps)), .box 29 (cellsOf (.nm .command) ((c)))]), false⟩) (orc 46 (con (tCons (kC (cPtr 0 0)) (tCons (kC (cPtr 4 0)) tNil)) (hCons (oBox 26 (lCons cI (lCons cI (lCons cI (lCons cI (lCons (cOwn 1) (lCons (cOwn 2) (lCons (cOwn 3) lNil)))))))) (hCons (oRow 42 (.nm .sess)) (hCons (oRow 51 (.nm .opn)) (hCons (oRow 46 (.nm .snap)) (hCons (oBox 29 (lSt (.nm .command) lNil)) hNil))))) fun (_, _, _) ((v, nx, kp, qt, _, _, _, _), se, op, sn, (c, _), _) => ⟨[op.length < 1048576], [.agg (cellsOf (.nm .reply) ((beginF (State.mk v nx kp qt se op sn) c).2))], some ([.box 26 ([.int ((((beginF (State.mk v nx kp qt se op sn) c).1).version)), .int ((((beginF (State.mk v nx kp qt se op sn) c).1).next)), .int ((((beginF (State.mk v nx kp qt se op sn) c).1).keep)), .int ((((beginF (State.mk v nx kp qt se op sn) c).1).quota)), .own 1, .own 2, .own 3]), .row 42 (.nm .sess) ((((beginF (State.mk v nx kp qt se op sn) c).1).sess)), .row 51 (.nm .opn) ((((beginF (State.mk v nx kp qt se op sn) c).1).opens)), .row 46 (.nm .snap) ((((beginF (State.mk v nx kp qt se op sn) c).1).snaps)), .box 29 (cellsOf (.nm .command) ((c)))]), false⟩) O_P19)))))))
theorem O_P20_ok : OrcOK Try.prog (shpOf tyT) O_P20 := (orc_ok (con_ok (tCons_ok (kC_ok cFn_ok) (tCons_ok (kC_ok cPtr_ok) (tCons_ok (kC_ok cPtr_ok) tNil_ok))) (hCons_ok (oBox_ok (lCons_ok cI_ok (lCons_ok cI_ok (lCons_ok cI_ok (lCons_ok cI_ok (lCons_ok cOwn_ok (lCons_ok cOwn_ok (lCons_ok cOwn_ok lNil_ok)))))))) (hCons_ok oRow_ok (hCons_ok oRow_ok (hCons_ok oRow_ok (hCons_ok (oBox_ok (lCons_ok cB_ok lNil_ok)) (hCons_ok (oBox_ok (lSt_ok lNil_ok)) hNil_ok)))))) fun (_, _, _, _) ((v, nx, kp, qt, _, _, _, _), se, op, sn, (b, _), (c, _), _) _ => act1_hold_s v nx kp qt se op sn b c ) (orc_ok (con_ok (tCons_ok (kC_ok cFn_ok) (tCons_ok (kC_ok cPtr_ok) (tCons_ok (kC_ok cPtr_ok) tNil_ok))) (hCons_ok (oBox_ok (lSt_ok lNil_ok)) (hCons_ok (oBox_ok (lCons_ok cI_ok (lCons_ok cI_ok (lCons_ok cI_ok (lCons_ok cI_ok (lCons_ok cOwn_ok (lCons_ok cOwn_ok (lCons_ok cOwn_ok lNil_ok)))))))) (hCons_ok oRow_ok (hCons_ok oRow_ok (hCons_ok oRow_ok hNil_ok))))) fun (_, _, _, _) ((c, _), (v, nx, kp, qt, _, _, _, _), se, op, sn, _) _ => act1_tag_s c v nx kp qt se op sn ) (orc_ok (con_ok (tCons_ok (kC_ok cFn_ok) (tCons_ok (kC_ok cPtr_ok) (tCons_ok (kC_ok cPtr_ok) tNil_ok))) (hCons_ok (oBox_ok (lCons_ok cI_ok (lCons_ok cI_ok (lCons_ok cI_ok (lCons_ok cI_ok (lCons_ok cOwn_ok (lCons_ok cOwn_ok (lCons_ok cOwn_ok lNil_ok)))))))) (hCons_ok oRow_ok (hCons_ok oRow_ok (hCons_ok oRow_ok (hCons_ok (oBox_ok (lSt_ok lNil_ok)) hNil_ok))))) fun (_, _, _, _) ((v, nx, kp, qt, _, _, _, _), se, op, sn, (c, _), _) _ => act1_look_s v nx kp qt se op sn c ) (orc_ok (con_ok (tCons_ok (kC_ok cFn_ok) (tCons_ok (kC_ok cPtr_ok) (tCons_ok (kC_ok cPtr_ok) tNil_ok))) (hCons_ok (oBox_ok (lCons_ok cI_ok (lCons_ok cI_ok (lCons_ok cI_ok (lCons_ok cI_ok (lCons_ok cOwn_ok (lCons_ok cOwn_ok (lCons_ok cOwn_ok lNil_ok)))))))) (hCons_ok oRow_ok (hCons_ok oRow_ok (hCons_ok oRow_ok (hCons_ok (oBox_ok (lSt_ok lNil_ok)) hNil_ok))))) fun (_, _, _, _) ((v, nx, kp, qt, _, _, _, _), se, op, sn, (c, _), _) _ => act1_prune_s v nx kp qt se op sn c ) (orc_ok (con_ok (tCons_ok (kC_ok cPtr_ok) (tCons_ok (kC_ok cPtr_ok) tNil_ok)) (hCons_ok (oBox_ok (lCons_ok cI_ok (lCons_ok cI_ok (lCons_ok cI_ok (lCons_ok cI_ok (lCons_ok cOwn_ok (lCons_ok cOwn_ok (lCons_ok cOwn_ok lNil_ok)))))))) (hCons_ok oRow_ok (hCons_ok oRow_ok (hCons_ok oRow_ok (hCons_ok (oBox_ok (lSt_ok lNil_ok)) hNil_ok))))) fun (_, _, _) ((v, nx, kp, qt, _, _, _, _), se, op, sn, (c, _), _) hp => act5_s v nx kp qt se op sn c (pr0 hp)) (orc_ok (con_ok (tCons_ok (kC_ok cPtr_ok) (tCons_ok (kC_ok cPtr_ok) tNil_ok)) (hCons_ok (oBox_ok (lCons_ok cI_ok (lCons_ok cI_ok (lCons_ok cI_ok (lCons_ok cI_ok (lCons_ok cOwn_ok (lCons_ok cOwn_ok (lCons_ok cOwn_ok lNil_ok)))))))) (hCons_ok oRow_ok (hCons_ok oRow_ok (hCons_ok oRow_ok (hCons_ok (oBox_ok (lSt_ok lNil_ok)) hNil_ok))))) fun (_, _, _) ((v, nx, kp, qt, _, _, _, _), se, op, sn, (c, _), _) hp => act4_s v nx kp qt se op sn c (pr0 hp) (pr0 (prn hp)) (pr0 (prn (prn hp))) (pr0 (prn (prn (prn hp))))) (orc_ok (con_ok (tCons_ok (kC_ok cPtr_ok) (tCons_ok (kC_ok cPtr_ok) tNil_ok)) (hCons_ok (oBox_ok (lCons_ok cI_ok (lCons_ok cI_ok (lCons_ok cI_ok (lCons_ok cI_ok (lCons_ok cOwn_ok (lCons_ok cOwn_ok (lCons_ok cOwn_ok lNil_ok)))))))) (hCons_ok oRow_ok (hCons_ok oRow_ok (hCons_ok oRow_ok (hCons_ok (oBox_ok (lSt_ok lNil_ok)) hNil_ok))))) fun (_, _, _) ((v, nx, kp, qt, _, _, _, _), se, op, sn, (c, _), _) hp => act3_s v nx kp qt se op sn c (pr0 hp)) O_P19_ok)))))))
end Go.Proofs.Ytbgkcbjebflmbaa
namespace Go.Proofs.Ytbgkcbjebflmbaa
open Go.RowKit
theorem act2_t (b : Bool) (v : Int) (nx : Int) (kp : Int) (qt : Int) (se : List Sess) (op : List Opn) (sn : List Snap) (c : Command) (r0 : Int) (r1 : Int) (r2 : Int) (r3 : Int) (r4 : List Sess) (r5 : List Opn) (r6 : List Snap) (r7 : Command) (r8 : Bool) : wpN tyT O_P20 [] Try.f44 [.c (.bool (.atom (b))), .c (.ptr 0 0), .c (.ptr 1 0)] [.box 68 ([.fn 41 [] [(1, 0), (5, 0)]]), .box 26 ([.int (v), .int (nx), .int (kp), .int (qt), .own 2, .own 3, .own 4]), .row 42 (.nm .sess) (se), .row 51 (.nm .opn) (op), .row 46 (.nm .snap) (sn), .box 29 (cellsOf (.nm .command) (c))] [.c (.fn 42 [] [(1, 0), (5, 0), (7, 0)])] [.box 68 ([.fn 41 [] [(1, 0), (5, 0)]]), .box 26 ([.int (r0), .int (r1), .int (r2), .int (r3), .own 2, .own 3, .own 4]), .row 42 (.nm .sess) (r4), .row 51 (.nm .opn) (r5), .row 46 (.nm .snap) (r6), .box 29 (cellsOf (.nm .command) (r7)), .box 4 ([.bool (.atom (r8))]), .box 66 ([.fn 45 [] [(1, 0), (6, 0)]])] = (v = r0 /\ nx = r1 /\ kp = r2 /\ qt = r3 /\ se = r4 /\ op = r5 /\ sn = r6 /\ c.kind = r7.kind /\ c.client = r7.client /\ c.seq = r7.seq /\ c.set = r7.set /\ c.id = r7.id /\ c.n = r7.n /\ c.chunks = r7.chunks /\ c.text = r7.text /\ b = r8) := by kernel_rfl
theorem act2_s (b : Bool) (v : Int) (nx : Int) (kp : Int) (qt : Int) (se : List Sess) (op : List Opn) (sn : List Snap) (c : Command) : Sat Try.prog (shpOf tyT) 44 [.c (.bool (.atom (b))), .c (.ptr 0 0), .c (.ptr 1 0)] [.box 68 ([.fn 41 [] [(1, 0), (5, 0)]]), .box 26 ([.int (v), .int (nx), .int (kp), .int (qt), .own 2, .own 3, .own 4]), .row 42 (.nm .sess) (se), .row 51 (.nm .opn) (op), .row 46 (.nm .snap) (sn), .box 29 (cellsOf (.nm .command) (c))] ⟨[], [.c (.fn 42 [] [(1, 0), (5, 0), (7, 0)])], some ([.box 68 ([.fn 41 [] [(1, 0), (5, 0)]]), .box 26 ([.int ((v)), .int ((nx)), .int ((kp)), .int ((qt)), .own 2, .own 3, .own 4]), .row 42 (.nm .sess) ((se)), .row 51 (.nm .opn) ((op)), .row 46 (.nm .snap) ((sn)), .box 29 (cellsOf (.nm .command) ((c))), .box 4 ([.bool (.atom ((b)))]), .box 66 ([.fn 45 [] [(1, 0), (6, 0)]])]), true⟩ := by
  refine sat_n O_P20_ok [] Try.func44 (by decide) (by kernel_rfl) ?_
  rw [act2_t]
  (repeat' (first | with_reducible refine And.intro ?_ ?_ | with_reducible refine and_imp.2 ?_ | intro))
  all_goals (first | (first | with_reducible rfl | with_reducible assumption | omega | (refine I64_of ?_ ?_ <;> omega)) | exact rfl)
theorem do_prune_t (v : Int) (nx : Int) (kp : Int) (qt : Int) (se : List Sess) (op : List Opn) (sn : List Snap) (c : Command) (r0 : Reply) (r1 : Int) (r2 : Int) (r3 : Int) (r4 : Int) (r5 : List Sess) (r6 : List Opn) (r7 : List Snap) (r8 : Command) : wpE tyT O_P20 [] Try.f42 [.c (.ptr 0 0), .c (.ptr 4 0), .c (.ptr 5 0)] [.box 26 ([.int (v), .int (nx), .int (kp), .int (qt), .own 1, .own 2, .own 3]), .row 42 (.nm .sess) (se), .row 51 (.nm .opn) (op), .row 46 (.nm .snap) (sn), .box 29 (cellsOf (.nm .command) (c)), .box 66 ([.fn 55 [] [(0, 0)]])] [.agg (cellsOf (.nm .reply) r0)] [.box 26 ([.int (r1), .int (r2), .int (r3), .int (r4), .own 1, .own 2, .own 3]), .row 42 (.nm .sess) (r5), .row 51 (.nm .opn) (r6), .row 46 (.nm .snap) (r7), .box 29 (cellsOf (.nm .command) (r8)), .box 66 ([.fn 55 [] [(0, 0)]])] = (I64 (placeF Snap.id c.id sn) -> (placeF Snap.id c.id sn < (0 : Int) -> I64 (15 : Int) -> I64 (0 : Int) -> (15 : Int) = r0.code /\ (0 : Int) = r0.n /\ v = r1 /\ nx = r2 /\ kp = r3 /\ qt = r4 /\ se = r5 /\ op = r6 /\ sn = r7 /\ c.kind = r8.kind /\ c.client = r8.client /\ c.seq = r8.seq /\ c.set = r8.set /\ c.id = r8.id /\ c.n = r8.n /\ c.chunks = r8.chunks /\ c.text = r8.text) /\ ((0 : Int) <= placeF Snap.id c.id sn -> ((0 : Int) <= placeF Snap.id c.id sn /\ placeF Snap.id c.id sn < (↑sn.length : Int)) /\ nch sn <= (1048576 : Nat) /\ (I64 (pruneF (State.mk v nx kp qt se op sn) (placeF Snap.id c.id sn).toNat).snd.code -> I64 (pruneF (State.mk v nx kp qt se op sn) (placeF Snap.id c.id sn).toNat).snd.n -> (pruneF (State.mk v nx kp qt se op sn) (placeF Snap.id c.id sn).toNat).snd.code = r0.code /\ (pruneF (State.mk v nx kp qt se op sn) (placeF Snap.id c.id sn).toNat).snd.n = r0.n /\ (pruneF (State.mk v nx kp qt se op sn) (placeF Snap.id c.id sn).toNat).fst.version = r1 /\ (pruneF (State.mk v nx kp qt se op sn) (placeF Snap.id c.id sn).toNat).fst.next = r2 /\ (pruneF (State.mk v nx kp qt se op sn) (placeF Snap.id c.id sn).toNat).fst.keep = r3 /\ (pruneF (State.mk v nx kp qt se op sn) (placeF Snap.id c.id sn).toNat).fst.quota = r4 /\ (pruneF (State.mk v nx kp qt se op sn) (placeF Snap.id c.id sn).toNat).fst.sess = r5 /\ (pruneF (State.mk v nx kp qt se op sn) (placeF Snap.id c.id sn).toNat).fst.opens = r6 /\ (pruneF (State.mk v nx kp qt se op sn) (placeF Snap.id c.id sn).toNat).fst.snaps = r7 /\ c.kind = r8.kind /\ c.client = r8.client /\ c.seq = r8.seq /\ c.set = r8.set /\ c.id = r8.id /\ c.n = r8.n /\ c.chunks = r8.chunks /\ c.text = r8.text))) := by kernel_rfl
theorem do_prune_s (v : Int) (nx : Int) (kp : Int) (qt : Int) (se : List Sess) (op : List Opn) (sn : List Snap) (c : Command) (h0 : nch sn <= 1048576) : Sat Try.prog (shpOf tyT) 42 [.c (.ptr 0 0), .c (.ptr 4 0), .c (.ptr 5 0)] [.box 26 ([.int (v), .int (nx), .int (kp), .int (qt), .own 1, .own 2, .own 3]), .row 42 (.nm .sess) (se), .row 51 (.nm .opn) (op), .row 46 (.nm .snap) (sn), .box 29 (cellsOf (.nm .command) (c)), .box 66 ([.fn 55 [] [(0, 0)]])] ⟨[nch sn <= 1048576], [.agg (cellsOf (.nm .reply) ((snapDoF pruneF c (State.mk v nx kp qt se op sn)).2))], some ([.box 26 ([.int ((((snapDoF pruneF c (State.mk v nx kp qt se op sn)).1).version)), .int ((((snapDoF pruneF c (State.mk v nx kp qt se op sn)).1).next)), .int ((((snapDoF pruneF c (State.mk v nx kp qt se op sn)).1).keep)), .int ((((snapDoF pruneF c (State.mk v nx kp qt se op sn)).1).quota)), .own 1, .own 2, .own 3]), .row 42 (.nm .sess) ((((snapDoF pruneF c (State.mk v nx kp qt se op sn)).1).sess)), .row 51 (.nm .opn) ((((snapDoF pruneF c (State.mk v nx kp qt se op sn)).1).opens)), .row 46 (.nm .snap) ((((snapDoF pruneF c (State.mk v nx kp qt se op sn)).1).snaps)), .box 29 (cellsOf (.nm .command) ((c))), .box 66 ([.fn 55 [] [(0, 0)]])]), false⟩ := by
  refine sat_e O_P20_ok [] Try.func42 (by decide) (by kernel_rfl) ?_
  rw [do_prune_t]
  (repeat' (first | with_reducible refine And.intro ?_ ?_ | with_reducible refine and_imp.2 ?_ | intro))
  all_goals (first | (first | with_reducible rfl | with_reducible assumption | omega | (refine I64_of ?_ ?_ <;> omega)) | exact placeF_lt (by with_reducible assumption) | (rw [sdY] <;> first | rfl | omega) | (rw [sdN] <;> first | rfl | omega))
theorem do_look_t (v : Int) (nx : Int) (kp : Int) (qt : Int) (se : List Sess) (op : List Opn) (sn : List Snap) (c : Command) (r0 : Reply) (r1 : Int) (r2 : Int) (r3 : Int) (r4 : Int) (r5 : List Sess) (r6 : List Opn) (r7 : List Snap) (r8 : Command) : wpE tyT O_P20 [] Try.f42 [.c (.ptr 0 0), .c (.ptr 4 0), .c (.ptr 5 0)] [.box 26 ([.int (v), .int (nx), .int (kp), .int (qt), .own 1, .own 2, .own 3]), .row 42 (.nm .sess) (se), .row 51 (.nm .opn) (op), .row 46 (.nm .snap) (sn), .box 29 (cellsOf (.nm .command) (c)), .box 66 ([.fn 57 [] [(0, 0)]])] [.agg (cellsOf (.nm .reply) r0)] [.box 26 ([.int (r1), .int (r2), .int (r3), .int (r4), .own 1, .own 2, .own 3]), .row 42 (.nm .sess) (r5), .row 51 (.nm .opn) (r6), .row 46 (.nm .snap) (r7), .box 29 (cellsOf (.nm .command) (r8)), .box 66 ([.fn 57 [] [(0, 0)]])] = (I64 (placeF Snap.id c.id sn) -> (placeF Snap.id c.id sn < (0 : Int) -> I64 (15 : Int) -> I64 (0 : Int) -> (15 : Int) = r0.code /\ (0 : Int) = r0.n /\ v = r1 /\ nx = r2 /\ kp = r3 /\ qt = r4 /\ se = r5 /\ op = r6 /\ sn = r7 /\ c.kind = r8.kind /\ c.client = r8.client /\ c.seq = r8.seq /\ c.set = r8.set /\ c.id = r8.id /\ c.n = r8.n /\ c.chunks = r8.chunks /\ c.text = r8.text) /\ ((0 : Int) <= placeF Snap.id c.id sn -> ((0 : Int) <= placeF Snap.id c.id sn /\ placeF Snap.id c.id sn < (↑sn.length : Int)) /\ (I64 (lookF_ (State.mk v nx kp qt se op sn) (placeF Snap.id c.id sn).toNat).snd.code -> I64 (lookF_ (State.mk v nx kp qt se op sn) (placeF Snap.id c.id sn).toNat).snd.n -> (lookF_ (State.mk v nx kp qt se op sn) (placeF Snap.id c.id sn).toNat).snd.code = r0.code /\ (lookF_ (State.mk v nx kp qt se op sn) (placeF Snap.id c.id sn).toNat).snd.n = r0.n /\ (lookF_ (State.mk v nx kp qt se op sn) (placeF Snap.id c.id sn).toNat).fst.version = r1 /\ (lookF_ (State.mk v nx kp qt se op sn) (placeF Snap.id c.id sn).toNat).fst.next = r2 /\ (lookF_ (State.mk v nx kp qt se op sn) (placeF Snap.id c.id sn).toNat).fst.keep = r3 /\ (lookF_ (State.mk v nx kp qt se op sn) (placeF Snap.id c.id sn).toNat).fst.quota = r4 /\ (lookF_ (State.mk v nx kp qt se op sn) (placeF Snap.id c.id sn).toNat).fst.sess = r5 /\ (lookF_ (State.mk v nx kp qt se op sn) (placeF Snap.id c.id sn).toNat).fst.opens = r6 /\ (lookF_ (State.mk v nx kp qt se op sn) (placeF Snap.id c.id sn).toNat).fst.snaps = r7 /\ c.kind = r8.kind /\ c.client = r8.client /\ c.seq = r8.seq /\ c.set = r8.set /\ c.id = r8.id /\ c.n = r8.n /\ c.chunks = r8.chunks /\ c.text = r8.text))) := by kernel_rfl
theorem do_look_s (v : Int) (nx : Int) (kp : Int) (qt : Int) (se : List Sess) (op : List Opn) (sn : List Snap) (c : Command) : Sat Try.prog (shpOf tyT) 42 [.c (.ptr 0 0), .c (.ptr 4 0), .c (.ptr 5 0)] [.box 26 ([.int (v), .int (nx), .int (kp), .int (qt), .own 1, .own 2, .own 3]), .row 42 (.nm .sess) (se), .row 51 (.nm .opn) (op), .row 46 (.nm .snap) (sn), .box 29 (cellsOf (.nm .command) (c)), .box 66 ([.fn 57 [] [(0, 0)]])] ⟨[], [.agg (cellsOf (.nm .reply) ((snapDoF lookF_ c (State.mk v nx kp qt se op sn)).2))], some ([.box 26 ([.int ((((snapDoF lookF_ c (State.mk v nx kp qt se op sn)).1).version)), .int ((((snapDoF lookF_ c (State.mk v nx kp qt se op sn)).1).next)), .int ((((snapDoF lookF_ c (State.mk v nx kp qt se op sn)).1).keep)), .int ((((snapDoF lookF_ c (State.mk v nx kp qt se op sn)).1).quota)), .own 1, .own 2, .own 3]), .row 42 (.nm .sess) ((((snapDoF lookF_ c (State.mk v nx kp qt se op sn)).1).sess)), .row 51 (.nm .opn) ((((snapDoF lookF_ c (State.mk v nx kp qt se op sn)).1).opens)), .row 46 (.nm .snap) ((((snapDoF lookF_ c (State.mk v nx kp qt se op sn)).1).snaps)), .box 29 (cellsOf (.nm .command) ((c))), .box 66 ([.fn 57 [] [(0, 0)]])]), false⟩ := by
  refine sat_e O_P20_ok [] Try.func42 (by decide) (by kernel_rfl) ?_
  rw [do_look_t]
  (repeat' (first | with_reducible refine And.intro ?_ ?_ | with_reducible refine and_imp.2 ?_ | intro))
  all_goals (first | (first | with_reducible rfl | with_reducible assumption | omega | (refine I64_of ?_ ?_ <;> omega)) | exact placeF_lt (by with_reducible assumption) | (rw [sdY] <;> first | rfl | omega) | (rw [sdN] <;> first | rfl | omega))
theorem do_tag_t (v : Int) (nx : Int) (kp : Int) (qt : Int) (se : List Sess) (op : List Opn) (sn : List Snap) (c : Command) (r0 : Reply) (r1 : Int) (r2 : Int) (r3 : Int) (r4 : Int) (r5 : List Sess) (r6 : List Opn) (r7 : List Snap) (r8 : Command) : wpE tyT O_P20 [] Try.f42 [.c (.ptr 0 0), .c (.ptr 4 0), .c (.ptr 5 0)] [.box 26 ([.int (v), .int (nx), .int (kp), .int (qt), .own 1, .own 2, .own 3]), .row 42 (.nm .sess) (se), .row 51 (.nm .opn) (op), .row 46 (.nm .snap) (sn), .box 29 (cellsOf (.nm .command) (c)), .box 66 ([.fn 58 [] [(4, 0), (0, 0)]])] [.agg (cellsOf (.nm .reply) r0)] [.box 26 ([.int (r1), .int (r2), .int (r3), .int (r4), .own 1, .own 2, .own 3]), .row 42 (.nm .sess) (r5), .row 51 (.nm .opn) (r6), .row 46 (.nm .snap) (r7), .box 29 (cellsOf (.nm .command) (r8)), .box 66 ([.fn 58 [] [(4, 0), (0, 0)]])] = (I64 (placeF Snap.id c.id sn) -> (placeF Snap.id c.id sn < (0 : Int) -> I64 (15 : Int) -> I64 (0 : Int) -> (15 : Int) = r0.code /\ (0 : Int) = r0.n /\ v = r1 /\ nx = r2 /\ kp = r3 /\ qt = r4 /\ se = r5 /\ op = r6 /\ sn = r7 /\ c.kind = r8.kind /\ c.client = r8.client /\ c.seq = r8.seq /\ c.set = r8.set /\ c.id = r8.id /\ c.n = r8.n /\ c.chunks = r8.chunks /\ c.text = r8.text) /\ ((0 : Int) <= placeF Snap.id c.id sn -> ((0 : Int) <= placeF Snap.id c.id sn /\ placeF Snap.id c.id sn < (↑sn.length : Int)) /\ (I64 (tagF c (State.mk v nx kp qt se op sn) (placeF Snap.id c.id sn).toNat).snd.code -> I64 (tagF c (State.mk v nx kp qt se op sn) (placeF Snap.id c.id sn).toNat).snd.n -> (tagF c (State.mk v nx kp qt se op sn) (placeF Snap.id c.id sn).toNat).snd.code = r0.code /\ (tagF c (State.mk v nx kp qt se op sn) (placeF Snap.id c.id sn).toNat).snd.n = r0.n /\ (tagF c (State.mk v nx kp qt se op sn) (placeF Snap.id c.id sn).toNat).fst.version = r1 /\ (tagF c (State.mk v nx kp qt se op sn) (placeF Snap.id c.id sn).toNat).fst.next = r2 /\ (tagF c (State.mk v nx kp qt se op sn) (placeF Snap.id c.id sn).toNat).fst.keep = r3 /\ (tagF c (State.mk v nx kp qt se op sn) (placeF Snap.id c.id sn).toNat).fst.quota = r4 /\ (tagF c (State.mk v nx kp qt se op sn) (placeF Snap.id c.id sn).toNat).fst.sess = r5 /\ (tagF c (State.mk v nx kp qt se op sn) (placeF Snap.id c.id sn).toNat).fst.opens = r6 /\ (tagF c (State.mk v nx kp qt se op sn) (placeF Snap.id c.id sn).toNat).fst.snaps = r7 /\ c.kind = r8.kind /\ c.client = r8.client /\ c.seq = r8.seq /\ c.set = r8.set /\ c.id = r8.id /\ c.n = r8.n /\ c.chunks = r8.chunks /\ c.text = r8.text))) := by kernel_rfl
theorem do_tag_s (v : Int) (nx : Int) (kp : Int) (qt : Int) (se : List Sess) (op : List Opn) (sn : List Snap) (c : Command) : Sat Try.prog (shpOf tyT) 42 [.c (.ptr 0 0), .c (.ptr 4 0), .c (.ptr 5 0)] [.box 26 ([.int (v), .int (nx), .int (kp), .int (qt), .own 1, .own 2, .own 3]), .row 42 (.nm .sess) (se), .row 51 (.nm .opn) (op), .row 46 (.nm .snap) (sn), .box 29 (cellsOf (.nm .command) (c)), .box 66 ([.fn 58 [] [(4, 0), (0, 0)]])] ⟨[], [.agg (cellsOf (.nm .reply) ((snapDoF (tagF c) c (State.mk v nx kp qt se op sn)).2))], some ([.box 26 ([.int ((((snapDoF (tagF c) c (State.mk v nx kp qt se op sn)).1).version)), .int ((((snapDoF (tagF c) c (State.mk v nx kp qt se op sn)).1).next)), .int ((((snapDoF (tagF c) c (State.mk v nx kp qt se op sn)).1).keep)), .int ((((snapDoF (tagF c) c (State.mk v nx kp qt se op sn)).1).quota)), .own 1, .own 2, .own 3]), .row 42 (.nm .sess) ((((snapDoF (tagF c) c (State.mk v nx kp qt se op sn)).1).sess)), .row 51 (.nm .opn) ((((snapDoF (tagF c) c (State.mk v nx kp qt se op sn)).1).opens)), .row 46 (.nm .snap) ((((snapDoF (tagF c) c (State.mk v nx kp qt se op sn)).1).snaps)), .box 29 (cellsOf (.nm .command) ((c))), .box 66 ([.fn 58 [] [(4, 0), (0, 0)]])]), false⟩ := by
  refine sat_e O_P20_ok [] Try.func42 (by decide) (by kernel_rfl) ?_
  rw [do_tag_t]
  (repeat' (first | with_reducible refine And.intro ?_ ?_ | with_reducible refine and_imp.2 ?_ | intro))
  all_goals (first | (first | with_reducible rfl | with_reducible assumption | omega | (refine I64_of ?_ ?_ <;> omega)) | exact placeF_lt (by with_reducible assumption) | (rw [sdY] <;> first | rfl | omega) | (rw [sdN] <;> first | rfl | omega))
theorem do_hold_t (v : Int) (nx : Int) (kp : Int) (qt : Int) (se : List Sess) (op : List Opn) (sn : List Snap) (c : Command) (b : Bool) (r0 : Reply) (r1 : Int) (r2 : Int) (r3 : Int) (r4 : Int) (r5 : List Sess) (r6 : List Opn) (r7 : List Snap) (r8 : Command) (r9 : Bool) : wpE tyT O_P20 [] Try.f42 [.c (.ptr 0 0), .c (.ptr 4 0), .c (.ptr 5 0)] [.box 26 ([.int (v), .int (nx), .int (kp), .int (qt), .own 1, .own 2, .own 3]), .row 42 (.nm .sess) (se), .row 51 (.nm .opn) (op), .row 46 (.nm .snap) (sn), .box 29 (cellsOf (.nm .command) (c)), .box 66 ([.fn 45 [] [(0, 0), (6, 0)]]), .box 4 ([.bool (.atom (b))])] [.agg (cellsOf (.nm .reply) r0)] [.box 26 ([.int (r1), .int (r2), .int (r3), .int (r4), .own 1, .own 2, .own 3]), .row 42 (.nm .sess) (r5), .row 51 (.nm .opn) (r6), .row 46 (.nm .snap) (r7), .box 29 (cellsOf (.nm .command) (r8)), .box 66 ([.fn 45 [] [(0, 0), (6, 0)]]), .box 4 ([.bool (.atom (r9))])] = (I64 (placeF Snap.id c.id sn) -> (placeF Snap.id c.id sn < (0 : Int) -> I64 (15 : Int) -> I64 (0 : Int) -> (15 : Int) = r0.code /\ (0 : Int) = r0.n /\ v = r1 /\ nx = r2 /\ kp = r3 /\ qt = r4 /\ se = r5 /\ op = r6 /\ sn = r7 /\ c.kind = r8.kind /\ c.client = r8.client /\ c.seq = r8.seq /\ c.set = r8.set /\ c.id = r8.id /\ c.n = r8.n /\ c.chunks = r8.chunks /\ c.text = r8.text /\ b = r9) /\ ((0 : Int) <= placeF Snap.id c.id sn -> ((0 : Int) <= placeF Snap.id c.id sn /\ placeF Snap.id c.id sn < (↑sn.length : Int)) /\ (I64 (holdF b (State.mk v nx kp qt se op sn) (placeF Snap.id c.id sn).toNat).snd.code -> I64 (holdF b (State.mk v nx kp qt se op sn) (placeF Snap.id c.id sn).toNat).snd.n -> (holdF b (State.mk v nx kp qt se op sn) (placeF Snap.id c.id sn).toNat).snd.code = r0.code /\ (holdF b (State.mk v nx kp qt se op sn) (placeF Snap.id c.id sn).toNat).snd.n = r0.n /\ (holdF b (State.mk v nx kp qt se op sn) (placeF Snap.id c.id sn).toNat).fst.version = r1 /\ (holdF b (State.mk v nx kp qt se op sn) (placeF Snap.id c.id sn).toNat).fst.next = r2 /\ (holdF b (State.mk v nx kp qt se op sn) (placeF Snap.id c.id sn).toNat).fst.keep = r3 /\ (holdF b (State.mk v nx kp qt se op sn) (placeF Snap.id c.id sn).toNat).fst.quota = r4 /\ (holdF b (State.mk v nx kp qt se op sn) (placeF Snap.id c.id sn).toNat).fst.sess = r5 /\ (holdF b (State.mk v nx kp qt se op sn) (placeF Snap.id c.id sn).toNat).fst.opens = r6 /\ (holdF b (State.mk v nx kp qt se op sn) (placeF Snap.id c.id sn).toNat).fst.snaps = r7 /\ c.kind = r8.kind /\ c.client = r8.client /\ c.seq = r8.seq /\ c.set = r8.set /\ c.id = r8.id /\ c.n = r8.n /\ c.chunks = r8.chunks /\ c.text = r8.text /\ b = r9))) := by kernel_rfl
theorem do_hold_s (v : Int) (nx : Int) (kp : Int) (qt : Int) (se : List Sess) (op : List Opn) (sn : List Snap) (c : Command) (b : Bool) : Sat Try.prog (shpOf tyT) 42 [.c (.ptr 0 0), .c (.ptr 4 0), .c (.ptr 5 0)] [.box 26 ([.int (v), .int (nx), .int (kp), .int (qt), .own 1, .own 2, .own 3]), .row 42 (.nm .sess) (se), .row 51 (.nm .opn) (op), .row 46 (.nm .snap) (sn), .box 29 (cellsOf (.nm .command) (c)), .box 66 ([.fn 45 [] [(0, 0), (6, 0)]]), .box 4 ([.bool (.atom (b))])] ⟨[], [.agg (cellsOf (.nm .reply) ((snapDoF (holdF b) c (State.mk v nx kp qt se op sn)).2))], some ([.box 26 ([.int ((((snapDoF (holdF b) c (State.mk v nx kp qt se op sn)).1).version)), .int ((((snapDoF (holdF b) c (State.mk v nx kp qt se op sn)).1).next)), .int ((((snapDoF (holdF b) c (State.mk v nx kp qt se op sn)).1).keep)), .int ((((snapDoF (holdF b) c (State.mk v nx kp qt se op sn)).1).quota)), .own 1, .own 2, .own 3]), .row 42 (.nm .sess) ((((snapDoF (holdF b) c (State.mk v nx kp qt se op sn)).1).sess)), .row 51 (.nm .opn) ((((snapDoF (holdF b) c (State.mk v nx kp qt se op sn)).1).opens)), .row 46 (.nm .snap) ((((snapDoF (holdF b) c (State.mk v nx kp qt se op sn)).1).snaps)), .box 29 (cellsOf (.nm .command) ((c))), .box 66 ([.fn 45 [] [(0, 0), (6, 0)]]), .box 4 ([.bool (.atom ((b)))])]), false⟩ := by
  refine sat_e O_P20_ok [] Try.func42 (by decide) (by kernel_rfl) ?_
  rw [do_hold_t]
  (repeat' (first | with_reducible refine And.intro ?_ ?_ | with_reducible refine and_imp.2 ?_ | intro))
  all_goals (first | (first | with_reducible rfl | with_reducible assumption | omega | (refine I64_of ?_ ?_ <;> omega)) | exact placeF_lt (by with_reducible assumption) | (rw [sdY] <;> first | rfl | omega) | (rw [sdN] <;> first | rfl | omega))
def O_P21 : Orc := (orc 42 (con (tCons (kC (cPtr 0 0)) (tCons (kC (cPtr 4 0)) (tCons (kC (cPtr 5 0)) tNil))) (hCons (oBox 26 (lCons cI (lCons cI (lCons cI (lCons cI (lCons (cOwn 1) (lCons (cOwn 2) (lCons (cOwn 3) lNil)))))))) (hCons (oRow 42 (.nm .sess)) (hCons (oRow 51 (.nm .opn)) (hCons (oRow 46 (.nm .snap)) (hCons (oBox 29 (lSt (.nm .command) lNil)) (hCons (oBox 66 (lCons (cFn 45 [] [(0, 0), (6, 0)]) lNil)) (hCons (oBox 4 (lCons cB lNil)) hNil))))))) fun (_, _, _, _) ((v, nx, kp, qt, _, _, _, _), se, op, sn, (c, _), (_, _), (b, _), _) => ⟨[], [.agg (cellsOf (.nm .reply) ((snapDoF (holdF b) c (State.mk v nx kp qt se op sn)).2))], some ([.box 26 ([.int ((((snapDoF (holdF b) c (State.mk v nx kp qt se op sn)).1).version)), .int ((((snapDoF (holdF b) c (State.mk v nx kp qt se op sn)).1).next)), .int ((((snapDoF (holdF b) c (State.mk v nx kp qt se op sn)).1).keep)), .int ((((snapDoF (holdF b) c (State.mk v nx kp qt se op sn)).1).quota)), .own 1, .own 2, .own 3]), .row 42 (.nm .sess) ((((snapDoF (holdF b) c (State.mk v nx kp qt se op sn)).1).sess)), .row 51 (.nm .opn) ((((snapDoF (holdF b) c (State.mk v nx kp qt se op sn)).1).opens)), .row 46 (.nm .snap) ((((snapDoF (holdF b) c (State.mk v nx kp qt se op sn)).1).snaps)), .box 29 (cellsOf (.nm .command) ((c))), .box 66 ([.fn 45 [] [(0, 0), (6, 0)]]), .box 4 ([.bool (.atom ((b)))])]), false⟩) (orc 42 (con (tCons (kC (cPtr 0 0)) (tCons (kC (cPtr 4 0)) (tCons (kC (cPtr 5 0)) tNil))) (hCons (oBox 26 (lCons cI (lCons cI (lCons cI (lCons cI (lCons (cOwn 1) (lCons (cOwn 2) (lCons (cOwn 3) lNil)))))))) (hCons (oRow 42 (.nm .sess)) (hCons (oRow 51 (.nm .opn)) (hCons (oRow 46 (.nm .snap)) (hCons (oBox 29 (lSt (.nm .command) lNil)) (hCons (oBox 66 (lCons (cFn 58 [] [(4, 0), (0, 0)]) lNil)) hNil)))))) fun (_, _, _, _) ((v, nx, kp, qt, _, _, _, _), se, op, sn, (c, _), (_, _), _) => ⟨[], [.agg (cellsOf (.nm .reply) ((snapDoF (tagF c) c (State.mk v nx kp qt se op sn)).2))], some ([.box 26 ([.int ((((snapDoF (tagF c) c (State.mk v nx kp qt se op sn)).1).version)), .int ((((snapDoF (tagF c) c (State.mk v nx kp qt se op sn)).1).next)), .int ((((snapDoF (tagF c) c (State.mk v nx kp qt se op sn)).1).keep)), .int ((((snapDoF (tagF c) c (State.mk v nx kp qt se op sn)).1).quota)), .own 1, .own 2, .own 3]), .row 42 (.nm .sess) ((((snapDoF (tagF c) c (State.mk v nx kp qt se op sn)).1).sess)), .row 51 (.nm .opn) ((((snapDoF (tagF c) c (State.mk v nx kp qt se op sn)).1).opens)), .row 46 (.nm .snap) ((((snapDoF (tagF c) c (State.mk v nx kp qt se op sn)).1).snaps)), .box 29 (cellsOf (.nm .command) ((c))), .box 66 ([.fn 58 [] [(4, 0), (0, 0)]])]), false⟩) (orc 42 (con (tCons (kC (cPtr 0 0)) (tCons (kC (cPtr 4 0)) (tCons (kC (cPtr 5 0)) tNil))) (hCons (oBox 26 (lCons cI (lCons cI (lCons cI (lCons cI (lCons (cOwn 1) (lCons (cOwn 2) (lCons (cOwn 3) lNil)))))))) (hCons (oRow 42 (.nm .sess)) (hCons (oRow 51 (.nm .opn)) (hCons (oRow 46 (.nm .snap)) (hCons (oBox 29 (lSt (.nm .command) lNil)) (hCons (oBox 66 (lCons (cFn 57 [] [(0, 0)]) lNil)) hNil)))))) fun (_, _, _, _) ((v, nx, kp, qt, _, _, _, _), se, op, sn, (c, _), (_, _), _) => ⟨[], [.agg (cellsOf (.nm .reply) ((snapDoF lookF_ c (State.mk v nx kp qt se op sn)).2))], some ([.box 26 ([.int ((((snapDoF lookF_ c (State.mk v nx kp qt se op sn)).1).version)), .int ((((snapDoF lookF_ c (State.mk v nx kp qt se op sn)).1).next)), .int ((((snapDoF lookF_ c (State.mk v nx kp qt se op sn)).1).keep)), .int ((((snapDoF lookF_ c (State.mk v nx kp qt se op sn)).1).quota)), .own 1, .own 2, .own 3]), .row 42 (.nm .sess) ((((snapDoF lookF_ c (State.mk v nx kp qt se op sn)).1).sess)), .row 51 (.nm .opn) ((((snapDoF lookF_ c (State.mk v nx kp qt se op sn)).1).opens)), .row 46 (.nm .snap) ((((snapDoF lookF_ c (State.mk v nx kp qt se op sn)).1).snaps)), .box 29 (cellsOf (.nm .command) ((c))), .box 66 ([.fn 57 [] [(0, 0)]])]), false⟩) (orc 42 (con (tCons (kC (cPtr 0 0)) (tCons (kC (cPtr 4 0)) (tCons (kC (cPtr 5 0)) tNil))) (hCons (oBox 26 (lCons cI (lCons cI (lCons cI (lCons cI (lCons (cOwn 1) (lCons (cOwn 2) (lCons (cOwn 3) lNil)))))))) (hCons (oRow 42 (.nm .sess)) (hCons (oRow 51 (.nm .opn)) (hCons (oRow 46 (.nm .snap)) (hCons (oBox 29 (lSt (.nm .command) lNil)) (hCons (oBox 66 (lCons (cFn 55 [] [(0, 0)]) lNil)) hNil)))))) fun (_, _, _, _) ((v, nx, kp, qt, _, _, _, _), se, op, sn, (c, _), (_, _), _) => ⟨[nch sn <= 1048576], [.agg (cellsOf (.nm .reply) ((snapDoF pruneF c (State.mk v nx kp qt se op sn)).2))], some ([.box 26 ([.int ((((snapDoF pruneF c (State.mk v nx kp qt se op sn)).1).version)), .int ((((snapDoF pruneF c (State.mk v nx kp qt se op sn)).1).next)), .int ((((snapDoF pruneF c (State.mk v nx kp qt se op sn)).1).keep)), .int ((((snapDoF pruneF c (State.mk v nx kp qt se op sn)).1).quota)), .own 1, .own 2, .own 3]), .row 42 (.nm .sess) ((((snapDoF pruneF c (State.mk v nx kp qt se op sn)).1).sess)), .row 51 (.nm .opn) ((((snapDoF pruneF c (State.mk v nx kp qt se op sn)).1).opens)), .row 46 (.nm .snap) ((((snapDoF pruneF c (State.mk v nx kp qt se op sn)).1).snaps)), .box 29 (cellsOf (.nm .command) ((c))), .box 66 ([.fn 55 [] [(0, 0)]])]), false⟩) (orc 44 (con (tCons (kC cB) (tCons (kC (cPtr 0 0)) (tCons (kC (cPtr 1 0)) tNil))) (hCons (oBox 68 (lCons (cFn 41 [] [(1, 0), (5, 0)]) lNil)) (hCons (oBox 26 (lCons cI (lCons cI (lCons cI (lCons cI (lCons (cOwn 2) (lCons (cOwn 3) (lCons (cOwn 4) lNil)))))))) (hCons (oRow 42 (.nm .sess)) (hCons (oRow 51 (.nm .opn)) (hCons (oRow 46 (.nm .snap)) (hCons (oBox 29 (lSt (.nm .command) lNil)) hNil)))))) fun (b, _, _, _) ((_, _), (v, nx, kp, qt, _, _, _, _), se, op, sn, (c, _), _) => ⟨[], [.c (.fn 42 [] [(1, 0), (5, 0), (7, 0)])], some ([.box 68 ([.fn 41 [] [(1, 0), (5, 0)]]), .box 26 ([.int ((v)), .int ((nx)), .int ((kp)), .int ((qt)), .own 2, .own 3, .own 4]), .row 42 (.nm .sess) ((se)), .row 51 (.nm .opn) ((op)), .row 46 (.nm .snap) ((sn)), .box 29 (cellsOf (.nm .command) ((c))), .box 4 ([.bool (.atom ((b)))]), .box 66 ([.fn 45 [] [(1, 0), (6, 0)]])]), true⟩) O_P20)))))
theorem O_P21_ok : OrcOK Try.prog (shpOf tyT) O_P21 := (orc_ok (con_ok (tCons_ok (kC_ok cPtr_ok) (tCons_ok (kC_ok cPtr_ok) (tCons_ok (kC_ok cPtr_ok) tNil_ok))) (hCons_ok (oBox_ok (lCons_ok cI_ok (lCons_ok cI_ok (lCons_ok cI_ok (lCons_ok cI_ok (lCons_ok cOwn_ok (lCons_ok cOwn_ok (lCons_ok cOwn_ok lNil_ok)))))))) (hCons_ok oRow_ok (hCons_ok oRow_ok (hCons_ok oRow_ok (hCons_ok (oBox_ok (lSt_ok lNil_ok)) (hCons_ok (oBox_ok (lCons_ok cFn_ok lNil_ok)) (hCons_ok (oBox_ok (lCons_ok cB_ok lNil_ok)) hNil_ok))))))) fun (_, _, _, _) ((v, nx, kp, qt, _, _, _, _), se, op, sn, (c, _), (_, _), (b, _), _) _ => do_hold_s v nx kp qt se op sn c b ) (orc_ok (con_ok (tCons_ok (kC_ok cPtr_ok) (tCons_ok (kC_ok cPtr_ok) (tCons_ok (kC_ok cPtr_ok) tNil_ok))) (hCons_ok (oBox_ok (lCons_ok cI_ok (lCons_ok cI_ok (lCons_ok cI_ok (lCons_ok cI_ok (lCons_ok cOwn_ok (lCons_ok cOwn_ok (lCons_ok cOwn_ok lNil_ok)))))))) (hCons_ok oRow_ok (hCons_ok oRow_ok (hCons_ok oRow_ok (hCons_ok (oBox_ok (lSt_ok lNil_ok)) (hCons_ok (oBox_ok (lCons_ok cFn_ok lNil_ok)) hNil_ok)))))) fun (_, _, _, _) ((v, nx, kp, qt, _, _, _, _), se, op, sn, (c, _), (_, _), _) _ => do_tag_s v nx kp qt se op sn c ) (orc_ok (con_ok (tCons_ok (kC_ok cPtr_ok) (tCons_ok (kC_ok cPtr_ok) (tCons_ok (kC_ok cPtr_ok) tNil_ok))) (hCons_ok (oBox_ok (lCons_ok cI_ok (lCons_ok cI_ok (lCons_ok cI_ok (lCons_ok cI_ok (lCons_ok cOwn_ok (lCons_ok cOwn_ok (lCons_ok cOwn_ok lNil_ok)))))))) (hCons_ok oRow_ok (hCons_ok oRow_ok (hCons_ok oRow_ok (hCons_ok (oBox_ok (lSt_ok lNil_ok)) (hCons_ok (oBox_ok (lCons_ok cFn_ok lNil_ok)) hNil_ok)))))) fun (_, _, _, _) ((v, nx, kp, qt, _, _, _, _), se, op, sn, (c, _), (_, _), _) _ => do_look_s v nx kp qt se op sn c ) (orc_ok (con_ok (tCons_ok (kC_ok cPtr_ok) (tCons_ok (kC_ok cPtr_ok) (tCons_ok (kC_ok cPtr_ok) tNil_ok))) (hCons_ok (oBox_ok (lCons_ok cI_ok (lCons_ok cI_ok (lCons_ok cI_ok (lCons_ok cI_ok (lCons_ok cOwn_ok (lCons_ok cOwn_ok (lCons_ok cOwn_ok lNil_ok)))))))) (hCons_ok oRow_ok (hCons_ok oRow_ok (hCons_ok oRow_ok (hCons_ok (oBox_ok (lSt_ok lNil_ok)) (hCons_ok (oBox_ok (lCons_ok cFn_ok lNil_ok)) hNil_ok)))))) fun (_, _, _, _) ((v, nx, kp, qt, _, _, _, _), se, op, sn, (c, _), (_, _), _) hp => do_prune_s v nx kp qt se op sn c (pr0 hp)) (orc_ok (con_ok (tCons_ok (kC_ok cB_ok) (tCons_ok (kC_ok cPtr_ok) (tCons_ok (kC_ok cPtr_ok) tNil_ok))) (hCons_ok (oBox_ok (lCons_ok cFn_ok lNil_ok)) (hCons_ok (oBox_ok (lCons_ok cI_ok (lCons_ok cI_ok (lCons_ok cI_ok (lCons_ok cI_ok (lCons_ok cOwn_ok (lCons_ok cOwn_ok (lCons_ok cOwn_ok lNil_ok)))))))) (hCons_ok oRow_ok (hCons_ok oRow_ok (hCons_ok oRow_ok (hCons_ok (oBox_ok (lSt_ok lNil_ok)) hNil_ok)))))) fun (b, _, _, _) ((_, _), (v, nx, kp, qt, _, _, _, _), se, op, sn, (c, _), _) _ => act2_s b v nx kp qt se op sn c ) O_P20_ok)))))
end Go.Proofs.Ytbgkcbjebflmbaa
namespace Go.Proofs.Ytbgkcbjebflmbaa
open Go.RowKit
def mayAF (s : State) (c : Command) : Int := if mayF s s.version = 0 then mayC c s.version else 1
def actK (s : State) (c : Command) : State × Reply :=
  if c.kind = 11 then snapDoF (tagF c) c s
  else if c.kind = 10 then snapDoF (holdF false) c s
  else if c.kind = 9 then snapDoF (holdF true) c s
  else if c.kind = 7 then snapDoF lookF_ c s
  else if c.kind = 5 then snapDoF pruneF c s
  else if c.kind = 12 then quotaF c s
  else if c.kind = 6 then keepF c s
  else if c.kind = 4 then abortF s c
  else if c.kind = 3 then commitF s c
  else if c.kind = 2 then beginF s c
  else (s, ⟨1, 0⟩)
def actF (s : State) (c : Command) : State × Reply := if ¬ mayAF s c = 0 then (s, ⟨mayAF s c, 0⟩) else actK s c
theorem ris_len {α : Type} {key : α -> Int} {most : Int} : ∀ {l : List α} {a : Int}, risingF key most a l = true -> l = [] \/ a + (l.length : Int) <= most
  | [], _, _ => .inl rfl
  | x :: l, a, h => by
    simp only [risingF, Bool.and_eq_true] at h
    have h1 := inT h.1
    rcases ris_len h.2 with h2 | h2
    · subst h2; right; simp only [List.length_cons, List.length_nil]; omega
    · right; simp only [List.length_cons]; omega
theorem may_parts {s : State} {v : Int} (h : mayF s v = 0) : inB v 1 3 = true /\ numbersF s v = true /\ sessF s = true /\ opensF s = true /\ snapsF s v = true := by
  unfold mayF at h
  split at h
  · omega
  · rename_i h1
    split at h
    · omega
    · rename_i h2
      simp at h1 h2
      exact ⟨h1, h2.1.1.1, h2.1.1.2, h2.1.2, h2.2⟩
theorem may_op {s : State} {v : Int} (h : mayF s v = 0) : s.opens.length <= 8 := by
  have h1 := (may_parts h).2.2.2.1
  simp only [opensF, Bool.and_eq_true] at h1
  rcases ris_len h1.1 with h2 | h2
  · rw [h2]; simp
  · omega
theorem may_se {s : State} {v : Int} (h : mayF s v = 0) : s.sess.length <= 8 := by
  have h1 := (may_parts h).2.2.1
  simp only [sessF, Bool.and_eq_true] at h1
  rcases ris_len h1.1 with h2 | h2
  · rw [h2]; simp
  · omega
theorem may_sn {s : State} {v : Int} (h : mayF s v = 0) : s.snaps.length <= 16 /\ risingF Snap.id (s.next - 1) 0 s.snaps = true /\ ∀ x ∈ s.snaps, snapOk v (tagMax v) x = true := by
  have h1 := (may_parts h).2.2.2.2
  simp only [snapsF, Bool.and_eq_true, Bool.not_eq_true', Bool.or_eq_false_iff, decide_eq_false_iff_not, Bool.not_eq_false', List.all_eq_true] at h1
  exact ⟨by omega, h1.1.2, h1.2⟩
theorem sn_row {x : Snap} {v t : Int} (h : snapOk v t x = true) : rowF x.chunks = true := by
  simp only [snapOk, Bool.and_eq_true, decide_eq_true_eq] at h
  cases hr : rowF x.chunks with
  | true => rfl
  | false => have := chunksE_no (l := x.chunks) hr; omega
theorem nch_le : ∀ {l : List Snap}, (∀ x ∈ l, rowF x.chunks = true) -> nch l <= 8 * l.length
  | [], _ => Nat.le_refl _
  | x :: l, h => by
    have h1 := nch_le (l := l) fun y hy => h y (List.mem_cons_of_mem _ hy)
    have h2 := (row_len (h x (List.mem_cons_self))).2
    have e : nch (x :: l) = x.chunks.length + nch l := by simp [nch]
    rw [e, List.length_cons]; omega
theorem may_nch {s : State} {v : Int} (h : mayF s v = 0) : nch s.snaps <= 128 := by
  have h1 := may_sn h
  have := nch_le (l := s.snaps) fun x hx => sn_row (h1.2.2 x hx)
  omega
theorem may_nx {s : State} {v : Int} (h : mayF s v = 0) : 1 <= s.next /\ s.next <= 1048576 := by
  have h1 := (may_parts h).2.1
  simp only [numbersF, Bool.and_eq_true] at h1
  exact inT h1.1.1.2
theorem ma_f {s : State} {c : Command} (h : (if mayF s s.version = 0 then mayC c s.version else 1) = 0) : mayF s s.version = 0 := by
  split at h
  · assumption
  · omega
theorem ma_nch {s : State} {c : Command} (h : (if mayF s s.version = 0 then mayC c s.version else 1) = 0) : nch s.snaps <= 1048576 := by have := may_nch (ma_f h); omega
theorem ma_op {s : State} {c : Command} (h : (if mayF s s.version = 0 then mayC c s.version else 1) = 0) : s.opens.length < 1048576 := by have := may_op (ma_f h); omega
theorem ma_se {s : State} {c : Command} (h : (if mayF s s.version = 0 then mayC c s.version else 1) = 0) : s.sess.length < 1048576 := by have := may_se (ma_f h); omega
theorem ma_sn {s : State} {c : Command} (h : (if mayF s s.version = 0 then mayC c s.version else 1) = 0) : s.snaps.length < 1048576 := by have := (may_sn (ma_f h)).1; omega
theorem ma_nx {s : State} {c : Command} (h : (if mayF s s.version = 0 then mayC c s.version else 1) = 0) : 0 <= s.next := by have := may_nx (ma_f h); omega
theorem actM {s : State} {c : Command} (h : (if mayF s s.version = 0 then mayC c s.version else 1) = 0) : actF s c = actK s c := by
  have h : mayAF s c = 0 := h
  rw [actF, h]; rfl
theorem actE {s : State} {c : Command} (h : ¬ (if mayF s s.version = 0 then mayC c s.version else 1) = 0) : actF s c = (s, ⟨(if mayF s s.version = 0 then mayC c s.version else 1), 0⟩) := by
  have h : ¬ mayAF s c = 0 := h
  rw [actF, if_pos h]; rfl
theorem actA_t (st : State) (c : Command) (r0 : Int) (r1 : Int) (r2 : Int) (r3 : Int) (r4 : Reply) (r5 : List Sess) (r6 : List Opn) (r7 : List Snap) : wpN tyT O_P21 [] Try.f24 [.agg (cellsOf (.nm .state) st), .agg (cellsOf (.nm .command) c)] [] [.agg ([.int (r0), .int (r1), .int (r2), .int (r3), .own 0, .own 1, .own 2]), .agg (cellsOf (.nm .reply) r4)] [.row 42 (.nm .sess) (r5), .row 51 (.nm .opn) (r6), .row 46 (.nm .snap) (r7)] = (I64 st.version -> I64 st.next -> I64 st.keep -> I64 st.quota -> st.sess.length * (32 : Nat) <= (140737488355328 : Nat) -> st.opens.length * (16 : Nat) <= (140737488355328 : Nat) -> st.snaps.length * (64 : Nat) <= (140737488355328 : Nat) -> I64 c.kind -> I64 c.client -> I64 c.seq -> I64 c.set -> I64 c.id -> I64 c.n -> c.chunks.length * (8 : Nat) <= (140737488355328 : Nat) -> c.text.b.length <= (140737488355328 : Nat) -> I64 st.version -> I64 st.next -> I64 st.keep -> I64 st.quota -> I64 (if mayF st st.version = (0 : Int) then mayC c st.version else (1 : Int)) -> (¬(if mayF st st.version = (0 : Int) then mayC c st.version else (1 : Int)) = (0 : Int) -> I64 (if mayF st st.version = (0 : Int) then mayC c st.version else (1 : Int)) -> I64 (0 : Int) -> st.version = r0 /\ st.next = r1 /\ st.keep = r2 /\ st.quota = r3 /\ (if mayF st st.version = (0 : Int) then mayC c st.version else (1 : Int)) = r4.code /\ (0 : Int) = r4.n /\ st.sess = r5 /\ st.opens = r6 /\ st.snaps = r7) /\ ((if mayF st st.version = (0 : Int) then mayC c st.version else (1 : Int)) = (0 : Int) -> (c.kind = (11 : Int) -> I64 (snapDoF (tagF c) c st).snd.code -> I64 (snapDoF (tagF c) c st).snd.n -> (snapDoF (tagF c) c st).fst.version = r0 /\ (snapDoF (tagF c) c st).fst.next = r1 /\ (snapDoF (tagF c) c st).fst.keep = r2 /\ (snapDoF (tagF c) c st).fst.quota = r3 /\ (snapDoF (tagF c) c st).snd.code = r4.code /\ (snapDoF (tagF c) c st).snd.n = r4.n /\ (snapDoF (tagF c) c st).fst.sess = r5 /\ (snapDoF (tagF c) c st).fst.opens = r6 /\ (snapDoF (tagF c) c st).fst.snaps = r7) /\ (¬c.kind = (11 : Int) -> (c.kind = (10 : Int) -> I64 (snapDoF (holdF false) c st).snd.code -> I64 (snapDoF (holdF false) c st).snd.n -> (snapDoF (holdF false) c st).fst.version = r0 /\ (snapDoF (holdF false) c st).fst.next = r1 /\ (snapDoF (holdF false) c st).fst.keep = r2 /\ (snapDoF (holdF false) c st).fst.quota = r3 /\ (snapDoF (holdF false) c st).snd.code = r4.code /\ (snapDoF (holdF false) c st).snd.n = r4.n /\ (snapDoF (holdF false) c st).fst.sess = r5 /\ (snapDoF (holdF false) c st).fst.opens = r6 /\ (snapDoF (holdF false) c st).fst.snaps = r7) /\ (¬c.kind = (10 : Int) -> (c.kind = (9 : Int) -> I64 (snapDoF (holdF true) c st).snd.code -> I64 (snapDoF (holdF true) c st).snd.n -> (snapDoF (holdF true) c st).fst.version = r0 /\ (snapDoF (holdF true) c st).fst.next = r1 /\ (snapDoF (holdF true) c st).fst.keep = r2 /\ (snapDoF (holdF true) c st).fst.quota = r3 /\ (snapDoF (holdF true) c st).snd.code = r4.code /\ (snapDoF (holdF true) c st).snd.n = r4.n /\ (snapDoF (holdF true) c st).fst.sess = r5 /\ (snapDoF (holdF true) c st).fst.opens = r6 /\ (snapDoF (holdF true) c st).fst.snaps = r7) /\ (¬c.kind = (9 : Int) -> (c.kind = (7 : Int) -> I64 (snapDoF lookF_ c st).snd.code -> I64 (snapDoF lookF_ c st).snd.n -> (snapDoF lookF_ c st).fst.version = r0 /\ (snapDoF lookF_ c st).fst.next = r1 /\ (snapDoF lookF_ c st).fst.keep = r2 /\ (snapDoF lookF_ c st).fst.quota = r3 /\ (snapDoF lookF_ c st).snd.code = r4.code /\ (snapDoF lookF_ c st).snd.n = r4.n /\ (snapDoF lookF_ c st).fst.sess = r5 /\ (snapDoF lookF_ c st).fst.opens = r6 /\ (snapDoF lookF_ c st).fst.snaps = r7) /\ (¬c.kind = (7 : Int) -> (c.kind = (5 : Int) -> nch st.snaps <= (1048576 : Nat) /\ (I64 (snapDoF pruneF c st).snd.code -> I64 (snapDoF pruneF c st).snd.n -> (snapDoF pruneF c st).fst.version = r0 /\ (snapDoF pruneF c st).fst.next = r1 /\ (snapDoF pruneF c st).fst.keep = r2 /\ (snapDoF pruneF c st).fst.quota = r3 /\ (snapDoF pruneF c st).snd.code = r4.code /\ (snapDoF pruneF c st).snd.n = r4.n /\ (snapDoF pruneF c st).fst.sess = r5 /\ (snapDoF pruneF c st).fst.opens = r6 /\ (snapDoF pruneF c st).fst.snaps = r7)) /\ (¬c.kind = (5 : Int) -> (c.kind = (12 : Int) -> nch st.snaps <= (1048576 : Nat) /\ (I64 (quotaF c st).snd.code -> I64 (quotaF c st).snd.n -> (quotaF c st).fst.version = r0 /\ (quotaF c st).fst.next = r1 /\ (quotaF c st).fst.keep = r2 /\ (quotaF c st).fst.quota = r3 /\ (quotaF c st).snd.code = r4.code /\ (quotaF c st).snd.n = r4.n /\ (quotaF c st).fst.sess = r5 /\ (quotaF c st).fst.opens = r6 /\ (quotaF c st).fst.snaps = r7)) /\ (¬c.kind = (12 : Int) -> (c.kind = (6 : Int) -> I64 (keepF c st).snd.code -> I64 (keepF c st).snd.n -> (keepF c st).fst.version = r0 /\ (keepF c st).fst.next = r1 /\ (keepF c st).fst.keep = r2 /\ (keepF c st).fst.quota = r3 /\ (keepF c st).snd.code = r4.code /\ (keepF c st).snd.n = r4.n /\ (keepF c st).fst.sess = r5 /\ (keepF c st).fst.opens = r6 /\ (keepF c st).fst.snaps = r7) /\ (¬c.kind = (6 : Int) -> (c.kind = (4 : Int) -> st.opens.length < (1048576 : Nat) /\ (I64 (abortF st c).snd.code -> I64 (abortF st c).snd.n -> (abortF st c).fst.version = r0 /\ (abortF st c).fst.next = r1 /\ (abortF st c).fst.keep = r2 /\ (abortF st c).fst.quota = r3 /\ (abortF st c).snd.code = r4.code /\ (abortF st c).snd.n = r4.n /\ (abortF st c).fst.sess = r5 /\ (abortF st c).fst.opens = r6 /\ (abortF st c).fst.snaps = r7)) /\ (¬c.kind = (4 : Int) -> (c.kind = (3 : Int) -> nch st.snaps <= (1048576 : Nat) /\ st.snaps.length < (1048576 : Nat) /\ st.opens.length < (1048576 : Nat) /\ (0 : Int) <= st.next /\ (I64 (commitF st c).snd.code -> I64 (commitF st c).snd.n -> (commitF st c).fst.version = r0 /\ (commitF st c).fst.next = r1 /\ (commitF st c).fst.keep = r2 /\ (commitF st c).fst.quota = r3 /\ (commitF st c).snd.code = r4.code /\ (commitF st c).snd.n = r4.n /\ (commitF st c).fst.sess = r5 /\ (commitF st c).fst.opens = r6 /\ (commitF st c).fst.snaps = r7)) /\ (¬c.kind = (3 : Int) -> (c.kind = (2 : Int) -> st.opens.length < (1048576 : Nat) /\ (I64 (beginF st c).snd.code -> I64 (beginF st c).snd.n -> (beginF st c).fst.version = r0 /\ (beginF st c).fst.next = r1 /\ (beginF st c).fst.keep = r2 /\ (beginF st c).fst.quota = r3 /\ (beginF st c).snd.code = r4.code /\ (beginF st c).snd.n = r4.n /\ (beginF st c).fst.sess = r5 /\ (beginF st c).fst.opens = r6 /\ (beginF st c).fst.snaps = r7)) /\ (¬c.kind = (2 : Int) -> I64 (1 : Int) -> I64 (0 : Int) -> st.version = r0 /\ st.next = r1 /\ st.keep = r2 /\ st.quota = r3 /\ (1 : Int) = r4.code /\ (0 : Int) = r4.n /\ st.sess = r5 /\ st.opens = r6 /\ st.snaps = r7)))))))))))) := by kernel_rfl
theorem actA_s (st : State) (c : Command) : Sat Try.prog (shpOf tyT) 24 [.agg (cellsOf (.nm .state) st), .agg (cellsOf (.nm .command) c)] [] ⟨[], [.agg ([.int (((actF st c).1.version)), .int (((actF st c).1.next)), .int (((actF st c).1.keep)), .int (((actF st c).1.quota)), .own 0, .own 1, .own 2]), .agg (cellsOf (.nm .reply) ((actF st c).2))], some ([.row 42 (.nm .sess) (((actF st c).1.sess)), .row 51 (.nm .opn) (((actF st c).1.opens)), .row 46 (.nm .snap) (((actF st c).1.snaps))]), true⟩ := by
  refine sat_n O_P21_ok [] Try.func24 (by decide) (by kernel_rfl) ?_
  rw [actA_t]
  (repeat' (first | with_reducible refine And.intro ?_ ?_ | with_reducible refine and_imp.2 ?_ | intro))
  all_goals (first | (first | with_reducible rfl | with_reducible assumption | omega | (refine I64_of ?_ ?_ <;> omega)) | exact (ma_nch (by with_reducible assumption)) | exact (ma_op (by with_reducible assumption)) | exact (ma_se (by with_reducible assumption)) | exact (ma_sn (by with_reducible assumption)) | exact (ma_nx (by with_reducible assumption)) | (rw [actE (by with_reducible assumption)]; done) | (rw [actM (by with_reducible assumption)]; simp only [actK, *]; done) | (rw [actM (by with_reducible assumption)]; simp [actK, *]; done))
def O_P22 : Orc := (orc 24 (con (tCons (kT (.nm .state)) (tCons (kT (.nm .command)) tNil)) hNil fun (st, c, _) (_) => ⟨[], [.agg ([.int (((actF st c).1.version)), .int (((actF st c).1.next)), .int (((actF st c).1.keep)), .int (((actF st c).1.quota)), .own 0, .own 1, .own 2]), .agg (cellsOf (.nm .reply) ((actF st c).2))], some ([.row 42 (.nm .sess) (((actF st c).1.sess)), .row 51 (.nm .opn) (((actF st c).1.opens)), .row 46 (.nm .snap) (((actF st c).1.snaps))]), true⟩) O_P21)
theorem O_P22_ok : OrcOK Try.prog (shpOf tyT) O_P22 := (orc_ok (con_ok (tCons_ok kT_ok (tCons_ok kT_ok tNil_ok)) hNil_ok fun (st, c, _) (_) _ => actA_s st c ) O_P21_ok)
end Go.Proofs.Ytbgkcbjebflmbaa
namespace Go.Proofs.Ytbgkcbjebflmbaa
open Go.RowKit
def askedF (s : State) (c : Command) : State × Reply :=
  if placeF Sess.client c.client s.sess < 0 then (s, ⟨11, 0⟩)
  else if c.seq = (s.sess.getD (placeF Sess.client c.client s.sess).toNat (dflt (.nm .sess))).seq then (s, (s.sess.getD (placeF Sess.client c.client s.sess).toNat (dflt (.nm .sess))).last)
  else if c.seq < (s.sess.getD (placeF Sess.client c.client s.sess).toNat (dflt (.nm .sess))).seq then (s, ⟨13, 0⟩)
  else if (s.sess.getD (placeF Sess.client c.client s.sess).toNat (dflt (.nm .sess))).seq + 1 < c.seq then (s, ⟨14, 0⟩)
  else ({ (actF s c).1 with sess := (actF s c).1.sess.set (placeF Sess.client c.client s.sess).toNat { (actF s c).1.sess.getD (placeF Sess.client c.client s.sess).toNat (dflt (.nm .sess)) with seq := c.seq, last := (actF s c).2 } }, (actF s c).2)
def doF (s : State) (c : Command) : State × Reply :=
  if ¬ mayAF s c = 0 then (s, ⟨mayAF s c, 0⟩)
  else if c.kind = 8 then (if ¬ c.n = s.version + 1 then (s, ⟨1, 0⟩) else ({ s with version := c.n }, ⟨0, c.n⟩))
  else if c.kind = 1 then (if 0 <= placeF Sess.client c.client s.sess then (s, ⟨12, 0⟩) else ({ s with sess := insF s.sess (s.sess.takeWhile fun y => decide (y.client < c.client)).length ⟨c.client, 0, ⟨0, 0⟩⟩ }, ⟨0, 0⟩))
  else askedF s c
theorem actF_by {Q : State × Reply -> Prop} {s : State} {c : Command} (h0 : ∀ e : Int, ¬ e = 0 -> Q (s, ⟨e, 0⟩))
    (hs : ∀ f : State -> Nat -> State × Reply, mayAF s c = 0 -> (f = tagF c \/ (∃ b, f = holdF b) \/ f = lookF_ \/ f = pruneF) -> Q (snapDoF f c s))
    (hq : mayAF s c = 0 -> Q (quotaF c s)) (hk : mayAF s c = 0 -> Q (keepF c s)) (ha : mayAF s c = 0 -> Q (abortF s c)) (hc : mayAF s c = 0 -> Q (commitF s c)) (hb : mayAF s c = 0 -> Q (beginF s c)) : Q (actF s c) := by
  unfold actF
  split
  · exact h0 _ (by assumption)
  · rename_i h
    have h : mayAF s c = 0 := Classical.not_not.1 h
    unfold actK
    split
    · exact hs _ h (.inl rfl)
    split
    · exact hs _ h (.inr (.inl ⟨_, rfl⟩))
    split
    · exact hs _ h (.inr (.inl ⟨_, rfl⟩))
    split
    · exact hs _ h (.inr (.inr (.inl rfl)))
    split
    · exact hs _ h (.inr (.inr (.inr rfl)))
    split
    · exact hq h
    split
    · exact hk h
    split
    · exact ha h
    split
    · exact hc h
    split
    · exact hb h
    · exact h0 1 (by decide)
theorem snapDo_by {Q : State × Reply -> Prop} {f : State -> Nat -> State × Reply} {s : State} {c : Command} (h0 : ∀ e : Int, ¬ e = 0 -> Q (s, ⟨e, 0⟩)) (h : ∀ n : Nat, (n : Int) = placeF Snap.id c.id s.snaps -> Q (f s n)) : Q (snapDoF f c s) := by
  unfold snapDoF
  split
  · exact h0 15 (by decide)
  · exact h _ (by omega)
theorem actF_sess {s : State} {c : Command} : (actF s c).1.sess = s.sess := by
  refine actF_by (Q := fun r => r.1.sess = s.sess) (fun _ _ => rfl) (fun f _ hf => ?_) (fun _ => rfl) (fun _ => rfl) (fun _ => ?_) (fun _ => ?_) (fun _ => ?_)
  · refine snapDo_by (Q := fun r => r.1.sess = s.sess) (fun _ _ => rfl) fun n _ => ?_
    rcases hf with rfl | ⟨b, rfl⟩ | rfl | rfl
    · rfl
    · unfold holdF; split <;> rfl
    · rfl
    · unfold pruneF; split; rfl; split <;> rfl
  · unfold abortF; split <;> rfl
  · unfold commitF; split; rfl; split; rfl; split <;> rfl
  · unfold beginF; split <;> rfl
theorem ask_l {l : List Sess} {k : Nat} {q : Int} {R : Reply} (h : k < l.length) : (l.set k (Sess.mk (l.getD k (dflt (.nm .sess))).client q (l.getD k (dflt (.nm .sess))).last)).set k (Sess.mk ((l.set k (Sess.mk (l.getD k (dflt (.nm .sess))).client q (l.getD k (dflt (.nm .sess))).last)).getD k (dflt (.nm .sess))).client ((l.set k (Sess.mk (l.getD k (dflt (.nm .sess))).client q (l.getD k (dflt (.nm .sess))).last)).getD k (dflt (.nm .sess))).seq R) = l.set k { l.getD k (dflt (.nm .sess)) with seq := q, last := R } := by
  have e : ∀ x : Sess, (l.set k x).getD k (dflt (.nm .sess)) = x := fun x => by
    rw [List.getD_eq_getElem?_getD, List.getElem?_set_self h]; rfl
  rw [e, List.set_set]
section
variable {v nx kp qt : Int} {se : List Sess} {op : List Opn} {sn : List Snap} {c : Command}
theorem as1 (h : placeF Sess.client c.client se < 0) : askedF (State.mk v nx kp qt se op sn) c = (State.mk v nx kp qt se op sn, ⟨11, 0⟩) := by
  simp only [askedF, if_pos h]
theorem as2 (h : 0 <= placeF Sess.client c.client se) (e : c.seq = (se.getD (placeF Sess.client c.client se).toNat (dflt (.nm .sess))).seq) : askedF (State.mk v nx kp qt se op sn) c = (State.mk v nx kp qt se op sn, (se.getD (placeF Sess.client c.client se).toNat (dflt (.nm .sess))).last) := by
  have h1 : ¬ placeF Sess.client c.client se < 0 := by omega
  simp only [askedF, if_neg h1, if_pos e]
theorem as3 (h : 0 <= placeF Sess.client c.client se) (e : ¬ c.seq = (se.getD (placeF Sess.client c.client se).toNat (dflt (.nm .sess))).seq) (l : c.seq < (se.getD (placeF Sess.client c.client se).toNat (dflt (.nm .sess))).seq) : askedF (State.mk v nx kp qt se op sn) c = (State.mk v nx kp qt se op sn, ⟨13, 0⟩) := by
  have h1 : ¬ placeF Sess.client c.client se < 0 := by omega
  simp only [askedF, if_neg h1, if_neg e, if_pos l]
theorem as4 (h : 0 <= placeF Sess.client c.client se) (e : ¬ c.seq = (se.getD (placeF Sess.client c.client se).toNat (dflt (.nm .sess))).seq) (l : (se.getD (placeF Sess.client c.client se).toNat (dflt (.nm .sess))).seq <= c.seq) (g : (se.getD (placeF Sess.client c.client se).toNat (dflt (.nm .sess))).seq + 1 < c.seq) : askedF (State.mk v nx kp qt se op sn) c = (State.mk v nx kp qt se op sn, ⟨14, 0⟩) := by
  have h1 : ¬ placeF Sess.client c.client se < 0 := by omega
  have h2 : ¬ c.seq < (se.getD (placeF Sess.client c.client se).toNat (dflt (.nm .sess))).seq := by omega
  simp only [askedF, if_neg h1, if_neg e, if_neg h2, if_pos g]
theorem as5 (h : 0 <= placeF Sess.client c.client se) (e : ¬ c.seq = (se.getD (placeF Sess.client c.client se).toNat (dflt (.nm .sess))).seq) (l : (se.getD (placeF Sess.client c.client se).toNat (dflt (.nm .sess))).seq <= c.seq) (g : c.seq <= (se.getD (placeF Sess.client c.client se).toNat (dflt (.nm .sess))).seq + 1) : askedF (State.mk v nx kp qt se op sn) c = ({ (actF (State.mk v nx kp qt se op sn) c).1 with sess := (actF (State.mk v nx kp qt se op sn) c).1.sess.set (placeF Sess.client c.client se).toNat { (actF (State.mk v nx kp qt se op sn) c).1.sess.getD (placeF Sess.client c.client se).toNat (dflt (.nm .sess)) with seq := c.seq, last := (actF (State.mk v nx kp qt se op sn) c).2 } }, (actF (State.mk v nx kp qt se op sn) c).2) := by
  have h1 : ¬ placeF Sess.client c.client se < 0 := by omega
  have h2 : ¬ c.seq < (se.getD (placeF Sess.client c.client se).toNat (dflt (.nm .sess))).seq := by omega
  have h3 : ¬ (se.getD (placeF Sess.client c.client se).toNat (dflt (.nm .sess))).seq + 1 < c.seq := by omega
  simp only [askedF, if_neg h1, if_neg e, if_neg h2, if_neg h3]
theorem as_lt (h : 0 <= placeF Sess.client c.client se) : placeF Sess.client c.client se < ((actF (State.mk v nx kp qt se op sn) c).1.sess.length : Int) := by rw [actF_sess]; exact placeF_lt h
theorem as_nt (h : 0 <= placeF Sess.client c.client se) : (placeF Sess.client c.client se).toNat < (actF (State.mk v nx kp qt se op sn) c).1.sess.length := by have := as_lt (v := v) (nx := nx) (kp := kp) (qt := qt) (op := op) (sn := sn) h; omega
theorem as_ls {x : Sess} (h : 0 <= placeF Sess.client c.client se) : placeF Sess.client c.client se < (((actF (State.mk v nx kp qt se op sn) c).1.sess.set (placeF Sess.client c.client se).toNat x).length : Int) := by rw [List.length_set]; exact as_lt h
theorem as_i (h : mayAF (State.mk v nx kp qt se op sn) c = 0) (h0 : 0 <= placeF Sess.client c.client se) : I64 ((se.getD (placeF Sess.client c.client se).toNat (dflt (.nm .sess))).seq + 1) := by
  have h1 := (may_parts (ma_f h)).2.2.1
  simp only [sessF, Bool.and_eq_true, List.all_eq_true] at h1
  have h2 := h1.2 _ (List.mem_of_getElem? (gd (d := dflt (.nm .sess)) (k := (placeF Sess.client c.client se).toNat) (l := se) (by have := placeF_lt h0; omega)))
  simp only [sessOk, Bool.and_eq_true] at h2
  have h3 := inT h2.1.1
  constructor <;> omega
end
theorem askedA_t (v : Int) (nx : Int) (kp : Int) (qt : Int) (c : Command) (se : List Sess) (op : List Opn) (sn : List Snap) (r0 : Int) (r1 : Int) (r2 : Int) (r3 : Int) (r4 : Reply) (r5 : List Sess) (r6 : List Opn) (r7 : List Snap) : wpE tyT O_P22 [] Try.f32 [.agg ([.int (v), .int (nx), .int (kp), .int (qt), .own 0, .own 1, .own 2]), .agg (cellsOf (.nm .command) c)] [.row 42 (.nm .sess) (se), .row 51 (.nm .opn) (op), .row 46 (.nm .snap) (sn)] [.agg ([.int (r0), .int (r1), .int (r2), .int (r3), .own 0, .own 1, .own 2]), .agg (cellsOf (.nm .reply) r4)] [.row 42 (.nm .sess) (r5), .row 51 (.nm .opn) (r6), .row 46 (.nm .snap) (r7)] = (I64 v -> I64 nx -> I64 kp -> I64 qt -> I64 c.kind -> I64 c.client -> I64 c.seq -> I64 c.set -> I64 c.id -> I64 c.n -> c.chunks.length * (8 : Nat) <= (140737488355328 : Nat) -> c.text.b.length <= (140737488355328 : Nat) -> I64 (placeF Sess.client c.client se) -> (placeF Sess.client c.client se < (0 : Int) -> I64 (11 : Int) -> I64 (0 : Int) -> v = r0 /\ nx = r1 /\ kp = r2 /\ qt = r3 /\ (11 : Int) = r4.code /\ (0 : Int) = r4.n /\ se = r5 /\ op = r6 /\ sn = r7) /\ ((0 : Int) <= placeF Sess.client c.client se -> (0 : Int) <= placeF Sess.client c.client se /\ placeF Sess.client c.client se < (↑se.length : Int) /\ (I64 (se.getD (placeF Sess.client c.client se).toNat (dflt (Sh.nm NT.sess))).client -> I64 (se.getD (placeF Sess.client c.client se).toNat (dflt (Sh.nm NT.sess))).seq -> I64 (se.getD (placeF Sess.client c.client se).toNat (dflt (Sh.nm NT.sess))).last.code -> I64 (se.getD (placeF Sess.client c.client se).toNat (dflt (Sh.nm NT.sess))).last.n -> (c.seq = (se.getD (placeF Sess.client c.client se).toNat (dflt (Sh.nm NT.sess))).seq -> v = r0 /\ nx = r1 /\ kp = r2 /\ qt = r3 /\ (se.getD (placeF Sess.client c.client se).toNat (dflt (Sh.nm NT.sess))).last.code = r4.code /\ (se.getD (placeF Sess.client c.client se).toNat (dflt (Sh.nm NT.sess))).last.n = r4.n /\ se = r5 /\ op = r6 /\ sn = r7) /\ (¬c.seq = (se.getD (placeF Sess.client c.client se).toNat (dflt (Sh.nm NT.sess))).seq -> (c.seq < (se.getD (placeF Sess.client c.client se).toNat (dflt (Sh.nm NT.sess))).seq -> I64 (13 : Int) -> I64 (0 : Int) -> v = r0 /\ nx = r1 /\ kp = r2 /\ qt = r3 /\ (13 : Int) = r4.code /\ (0 : Int) = r4.n /\ se = r5 /\ op = r6 /\ sn = r7) /\ ((se.getD (placeF Sess.client c.client se).toNat (dflt (Sh.nm NT.sess))).seq <= c.seq -> I64 ((se.getD (placeF Sess.client c.client se).toNat (dflt (Sh.nm NT.sess))).seq + (1 : Int)) /\ ((se.getD (placeF Sess.client c.client se).toNat (dflt (Sh.nm NT.sess))).seq + (1 : Int) < c.seq -> I64 (14 : Int) -> I64 (0 : Int) -> v = r0 /\ nx = r1 /\ kp = r2 /\ qt = r3 /\ (14 : Int) = r4.code /\ (0 : Int) = r4.n /\ se = r5 /\ op = r6 /\ sn = r7) /\ (c.seq <= (se.getD (placeF Sess.client c.client se).toNat (dflt (Sh.nm NT.sess))).seq + (1 : Int) -> I64 (actF (State.mk v nx kp qt se op sn) c).fst.version -> I64 (actF (State.mk v nx kp qt se op sn) c).fst.next -> I64 (actF (State.mk v nx kp qt se op sn) c).fst.keep -> I64 (actF (State.mk v nx kp qt se op sn) c).fst.quota -> I64 (actF (State.mk v nx kp qt se op sn) c).snd.code -> I64 (actF (State.mk v nx kp qt se op sn) c).snd.n -> ((0 : Int) <= placeF Sess.client c.client se /\ placeF Sess.client c.client se < (↑(actF (State.mk v nx kp qt se op sn) c).fst.sess.length : Int)) /\ (I64 ((actF (State.mk v nx kp qt se op sn) c).fst.sess.getD (placeF Sess.client c.client se).toNat (dflt (Sh.nm NT.sess))).client -> I64 ((actF (State.mk v nx kp qt se op sn) c).fst.sess.getD (placeF Sess.client c.client se).toNat (dflt (Sh.nm NT.sess))).seq -> I64 ((actF (State.mk v nx kp qt se op sn) c).fst.sess.getD (placeF Sess.client c.client se).toNat (dflt (Sh.nm NT.sess))).last.code -> I64 ((actF (State.mk v nx kp qt se op sn) c).fst.sess.getD (placeF Sess.client c.client se).toNat (dflt (Sh.nm NT.sess))).last.n -> (0 : Int) <= placeF Sess.client c.client se /\ placeF Sess.client c.client se < (↑((actF (State.mk v nx kp qt se op sn) c).fst.sess.set (placeF Sess.client c.client se).toNat (Sess.mk ((actF (State.mk v nx kp qt se op sn) c).fst.sess.getD (placeF Sess.client c.client se).toNat (dflt (Sh.nm NT.sess))).client c.seq ((actF (State.mk v nx kp qt se op sn) c).fst.sess.getD (placeF Sess.client c.client se).toNat (dflt (Sh.nm NT.sess))).last)).length : Int)) /\ (I64 ((actF (State.mk v nx kp qt se op sn) c).fst.sess.getD (placeF Sess.client c.client se).toNat (dflt (Sh.nm NT.sess))).client -> I64 ((actF (State.mk v nx kp qt se op sn) c).fst.sess.getD (placeF Sess.client c.client se).toNat (dflt (Sh.nm NT.sess))).seq -> I64 ((actF (State.mk v nx kp qt se op sn) c).fst.sess.getD (placeF Sess.client c.client se).toNat (dflt (Sh.nm NT.sess))).last.code -> I64 ((actF (State.mk v nx kp qt se op sn) c).fst.sess.getD (placeF Sess.client c.client se).toNat (dflt (Sh.nm NT.sess))).last.n -> I64 (((actF (State.mk v nx kp qt se op sn) c).fst.sess.set (placeF Sess.client c.client se).toNat (Sess.mk ((actF (State.mk v nx kp qt se op sn) c).fst.sess.getD (placeF Sess.client c.client se).toNat (dflt (Sh.nm NT.sess))).client c.seq ((actF (State.mk v nx kp qt se op sn) c).fst.sess.getD (placeF Sess.client c.client se).toNat (dflt (Sh.nm NT.sess))).last)).getD (placeF Sess.client c.client se).toNat (dflt (Sh.nm NT.sess))).client -> I64 (((actF (State.mk v nx kp qt se op sn) c).fst.sess.set (placeF Sess.client c.client se).toNat (Sess.mk ((actF (State.mk v nx kp qt se op sn) c).fst.sess.getD (placeF Sess.client c.client se).toNat (dflt (Sh.nm NT.sess))).client c.seq ((actF (State.mk v nx kp qt se op sn) c).fst.sess.getD (placeF Sess.client c.client se).toNat (dflt (Sh.nm NT.sess))).last)).getD (placeF Sess.client c.client se).toNat (dflt (Sh.nm NT.sess))).seq -> I64 (((actF (State.mk v nx kp qt se op sn) c).fst.sess.set (placeF Sess.client c.client se).toNat (Sess.mk ((actF (State.mk v nx kp qt se op sn) c).fst.sess.getD (placeF Sess.client c.client se).toNat (dflt (Sh.nm NT.sess))).client c.seq ((actF (State.mk v nx kp qt se op sn) c).fst.sess.getD (placeF Sess.client c.client se).toNat (dflt (Sh.nm NT.sess))).last)).getD (placeF Sess.client c.client se).toNat (dflt (Sh.nm NT.sess))).last.code -> I64 (((actF (State.mk v nx kp qt se op sn) c).fst.sess.set (placeF Sess.client c.client se).toNat (Sess.mk ((actF (State.mk v nx kp qt se op sn) c).fst.sess.getD (placeF Sess.client c.client se).toNat (dflt (Sh.nm NT.sess))).client c.seq ((actF (State.mk v nx kp qt se op sn) c).fst.sess.getD (placeF Sess.client c.client se).toNat (dflt (Sh.nm NT.sess))).last)).getD (placeF Sess.client c.client se).toNat (dflt (Sh.nm NT.sess))).last.n -> (actF (State.mk v nx kp qt se op sn) c).fst.version = r0 /\ (actF (State.mk v nx kp qt se op sn) c).fst.next = r1 /\ (actF (State.mk v nx kp qt se op sn) c).fst.keep = r2 /\ (actF (State.mk v nx kp qt se op sn) c).fst.quota = r3 /\ (actF (State.mk v nx kp qt se op sn) c).snd.code = r4.code /\ (actF (State.mk v nx kp qt se op sn) c).snd.n = r4.n /\ ((actF (State.mk v nx kp qt se op sn) c).fst.sess.set (placeF Sess.client c.client se).toNat (Sess.mk ((actF (State.mk v nx kp qt se op sn) c).fst.sess.getD (placeF Sess.client c.client se).toNat (dflt (Sh.nm NT.sess))).client c.seq ((actF (State.mk v nx kp qt se op sn) c).fst.sess.getD (placeF Sess.client c.client se).toNat (dflt (Sh.nm NT.sess))).last)).set (placeF Sess.client c.client se).toNat (Sess.mk (((actF (State.mk v nx kp qt se op sn) c).fst.sess.set (placeF Sess.client c.client se).toNat (Sess.mk ((actF (State.mk v nx kp qt se op sn) c).fst.sess.getD (placeF Sess.client c.client se).toNat (dflt (Sh.nm NT.sess))).client c.seq ((actF (State.mk v nx kp qt se op sn) c).fst.sess.getD (placeF Sess.client c.client se).toNat (dflt (Sh.nm NT.sess))).last)).getD (placeF Sess.client c.client se).toNat (dflt (Sh.nm NT.sess))).client (((actF (State.mk v nx kp qt se op sn) c).fst.sess.set (placeF Sess.client c.client se).toNat (Sess.mk ((actF (State.mk v nx kp qt se op sn) c).fst.sess.getD (placeF Sess.client c.client se).toNat (dflt (Sh.nm NT.sess))).client c.seq ((actF (State.mk v nx kp qt se op sn) c).fst.sess.getD (placeF Sess.client c.client se).toNat (dflt (Sh.nm NT.sess))).last)).getD (placeF Sess.client c.client se).toNat (dflt (Sh.nm NT.sess))).seq (actF (State.mk v nx kp qt se op sn) c).snd) = r5 /\ (actF (State.mk v nx kp qt se op sn) c).fst.opens = r6 /\ (actF (State.mk v nx kp qt se op sn) c).fst.snaps = r7))))))) := by kernel_rfl
theorem askedA_s (v : Int) (nx : Int) (kp : Int) (qt : Int) (c : Command) (se : List Sess) (op : List Opn) (sn : List Snap) (h0 : mayAF (State.mk v nx kp qt se op sn) c = 0) : Sat Try.prog (shpOf tyT) 32 [.agg ([.int (v), .int (nx), .int (kp), .int (qt), .own 0, .own 1, .own 2]), .agg (cellsOf (.nm .command) c)] [.row 42 (.nm .sess) (se), .row 51 (.nm .opn) (op), .row 46 (.nm .snap) (sn)] ⟨[mayAF (State.mk v nx kp qt se op sn) c = 0], [.agg ([.int (((askedF (State.mk v nx kp qt se op sn) c).1.version)), .int (((askedF (State.mk v nx kp qt se op sn) c).1.next)), .int (((askedF (State.mk v nx kp qt se op sn) c).1.keep)), .int (((askedF (State.mk v nx kp qt se op sn) c).1.quota)), .own 0, .own 1, .own 2]), .agg (cellsOf (.nm .reply) ((askedF (State.mk v nx kp qt se op sn) c).2))], some ([.row 42 (.nm .sess) (((askedF (State.mk v nx kp qt se op sn) c).1.sess)), .row 51 (.nm .opn) (((askedF (State.mk v nx kp qt se op sn) c).1.opens)), .row 46 (.nm .snap) (((askedF (State.mk v nx kp qt se op sn) c).1.snaps))]), false⟩ := by
  refine sat_e O_P22_ok [] Try.func32 (by decide) (by kernel_rfl) ?_
  rw [askedA_t]
  (repeat' (first | with_reducible refine And.intro ?_ ?_ | with_reducible refine and_imp.2 ?_ | intro))
  all_goals (first | (first | with_reducible rfl | with_reducible assumption | omega | (refine I64_of ?_ ?_ <;> omega)) | exact placeF_lt (by with_reducible assumption) | exact as_lt (by with_reducible assumption) | exact as_ls (by with_reducible assumption) | exact as_i (by with_reducible assumption) (by with_reducible assumption) | (rw [as1] <;> first | rfl | with_reducible assumption | exact ask_l (as_nt (by with_reducible assumption))) | (rw [as2] <;> first | rfl | with_reducible assumption | exact ask_l (as_nt (by with_reducible assumption))) | (rw [as3] <;> first | rfl | with_reducible assumption | exact ask_l (as_nt (by with_reducible assumption))) | (rw [as4] <;> first | rfl | with_reducible assumption | exact ask_l (as_nt (by with_reducible assumption))) | (rw [as5] <;> first | rfl | with_reducible assumption | exact ask_l (as_nt (by with_reducible assumption))))
def O_P23 : Orc := (orc 32 (con (tCons (kG (lCons cI (lCons cI (lCons cI (lCons cI (lCons (cOwn 0) (lCons (cOwn 1) (lCons (cOwn 2) lNil)))))))) (tCons (kT (.nm .command)) tNil)) (hCons (oRow 42 (.nm .sess)) (hCons (oRow 51 (.nm .opn)) (hCons (oRow 46 (.nm .snap)) hNil))) fun ((v, nx, kp, qt, _, _, _, _), c, _) (se, op, sn, _) => ⟨[mayAF (State.mk v nx kp qt se op sn) c = 0], [.agg ([.int (((askedF (State.mk v nx kp qt se op sn) c).1.version)), .int (((askedF (State.mk v nx kp qt se op sn) c).1.next)), .int (((askedF (State.mk v nx kp qt se op sn) c).1.keep)), .int (((askedF (State.mk v nx kp qt se op sn) c).1.quota)), .own 0, .own 1, .own 2]), .agg (cellsOf (.nm .reply) ((askedF (State.mk v nx kp qt se op sn) c).2))], some ([.row 42 (.nm .sess) (((askedF (State.mk v nx kp qt se op sn) c).1.sess)), .row 51 (.nm .opn) (((askedF (State.mk v nx kp qt se op sn) c).1.opens)), .row 46 (.nm .snap) (((askedF (State.mk v nx kp qt se op sn) c).1.snaps))]), false⟩) O_P22)
theorem O_P23_ok : OrcOK Try.prog (shpOf tyT) O_P23 := (orc_ok (con_ok (tCons_ok (kG_ok (lCons_ok cI_ok (lCons_ok cI_ok (lCons_ok cI_ok (lCons_ok cI_ok (lCons_ok cOwn_ok (lCons_ok cOwn_ok (lCons_ok cOwn_ok lNil_ok)))))))) (tCons_ok kT_ok tNil_ok)) (hCons_ok oRow_ok (hCons_ok oRow_ok (hCons_ok oRow_ok hNil_ok))) fun ((v, nx, kp, qt, _, _, _, _), c, _) (se, op, sn, _) hp => askedA_s v nx kp qt c se op sn (pr0 hp)) O_P22_ok)
end Go.Proofs.Ytbgkcbjebflmbaa
namespace Go.Proofs.Ytbgkcbjebflmbaa
open Go.RowKit
section
variable {s : State} {c : Command}
theorem ma_a (h : (if mayF s s.version = 0 then mayC c s.version else 1) = 0) : mayAF s c = 0 := h
theorem ma_v (h : (if mayF s s.version = 0 then mayC c s.version else 1) = 0) : I64 (s.version + 1) := by
  have h1 := (may_parts (ma_f h)).2.1
  simp only [numbersF, Bool.and_eq_true] at h1
  have := inT h1.1.1.1
  constructor <;> omega
theorem doE (h : ¬ (if mayF s s.version = 0 then mayC c s.version else 1) = 0) : doF s c = (s, ⟨(if mayF s s.version = 0 then mayC c s.version else 1), 0⟩) := by
  have h : ¬ mayAF s c = 0 := h
  rw [doF, if_pos h]; rfl
theorem doM (h : (if mayF s s.version = 0 then mayC c s.version else 1) = 0) : doF s c = if c.kind = 8 then (if ¬ c.n = s.version + 1 then (s, ⟨1, 0⟩) else ({ s with version := c.n }, ⟨0, c.n⟩))
  else if c.kind = 1 then (if 0 <= placeF Sess.client c.client s.sess then (s, ⟨12, 0⟩) else ({ s with sess := insF s.sess (s.sess.takeWhile fun y => decide (y.client < c.client)).length ⟨c.client, 0, ⟨0, 0⟩⟩ }, ⟨0, 0⟩))
  else askedF s c := by
  have h : ¬ ¬ mayAF s c = 0 := fun k => k h
  rw [doF, if_neg h]
theorem do8a (h : (if mayF s s.version = 0 then mayC c s.version else 1) = 0) (k : c.kind = 8) (n : ¬ c.n = s.version + 1) : doF s c = (s, ⟨1, 0⟩) := by rw [doM h, if_pos k, if_pos n]
theorem do8b (h : (if mayF s s.version = 0 then mayC c s.version else 1) = 0) (k : c.kind = 8) (n : c.n = s.version + 1) : doF s c = ({ s with version := c.n }, ⟨0, c.n⟩) := by rw [doM h, if_pos k, if_neg (fun h => h n)]
theorem do1a (h : (if mayF s s.version = 0 then mayC c s.version else 1) = 0) (k : c.kind = 1) (n : 0 <= placeF Sess.client c.client s.sess) : doF s c = (s, ⟨12, 0⟩) := by rw [doM h, if_neg (by omega), if_pos k, if_pos n]
theorem do1b (h : (if mayF s s.version = 0 then mayC c s.version else 1) = 0) (k : c.kind = 1) (n : placeF Sess.client c.client s.sess < 0) : doF s c = ({ s with sess := insF s.sess (s.sess.takeWhile fun y => decide (y.client < c.client)).length ⟨c.client, 0, ⟨0, 0⟩⟩ }, ⟨0, 0⟩) := by rw [doM h, if_neg (by omega), if_pos k, if_neg (by omega)]
theorem doX (h : (if mayF s s.version = 0 then mayC c s.version else 1) = 0) (k : ¬ c.kind = 8) (n : ¬ c.kind = 1) : doF s c = askedF s c := by rw [doM h, if_neg k, if_neg n]
theorem do_ins {l : List Sess} {k : Nat} {x : Sess} (hs : k <= l.length) (ha : (l.take k).all (fun y => decide (y.client < c.client)) = true) (hb : (l.length : Int) <= k \/ c.client <= (l.getD k (dflt (.nm .sess))).client) : l.take k ++ [x] ++ l.drop k = insF l (l.takeWhile fun y => decide (y.client < c.client)).length x := by
  have : k = (l.takeWhile fun y => decide (y.client < c.client)).length := by
    refine tw_len ha hs ?_
    by_cases hl : (l.length : Int) <= k
    · exact .inl hl
    · refine .inr ⟨by omega, _, gd (d := dflt (.nm .sess)) (by omega), ?_⟩
      rcases hb with hb | hb
      · omega
      · exact decide_eq_false (by omega)
  rw [<- this]; simp [insF]
theorem do_nx {l : List Sess} {k : Nat} (ha : (l.take k).all (fun y => decide (y.client < c.client)) = true) (h : (k : Int) < l.length) (hb : (l.getD k (dflt (.nm .sess))).client < c.client) : (l.take (k + 1)).all (fun y => decide (y.client < c.client)) = true := by
  rw [take_succ_get (gd (d := dflt (.nm .sess)) h), List.all_append, ha]; simp only [List.all_cons, List.all_nil, decide_eq_true hb]; rfl
end
def LdoA (st : State) (c : Command) : List (Nat × LI) := [(15, { σ := Nat, F := fun k => ([(2, one (.ptr 0 0)), (3, one (.ptr 1 0)), (4, one (.ptr 2 0)), (5, one (.ptr 3 0)), (7, one (.int k))], [.box 26 ([.int ((st.version)), .int ((st.next)), .int ((st.keep)), .int ((st.quota)), .own 4, .own 5, .own 6]), .box 29 (cellsOf (.nm .command) ((c))), .box 26 ([.int ((0)), .int ((0)), .int ((0)), .int ((0)), .em true, .em true, .em true]), .box 35 ([.int ((0)), .int ((0))]), .row 42 (.nm .sess) ((st.sess)), .row 51 (.nm .opn) ((st.opens)), .row 46 (.nm .snap) ((st.snaps))]), J := fun k => k <= st.sess.length /\ (st.sess.take k).all (fun y => decide (y.client < c.client)) = true, μ := fun k => st.sess.length - k })]
theorem doA_t (st : State) (c : Command) (r0 : Int) (r1 : Int) (r2 : Int) (r3 : Int) (r4 : Reply) (r5 : List Sess) (r6 : List Opn) (r7 : List Snap) : wpN tyT O_P23 (LdoA st c) Try.f13 [.agg (cellsOf (.nm .state) st), .agg (cellsOf (.nm .command) c)] [] [.agg ([.int (r0), .int (r1), .int (r2), .int (r3), .own 0, .own 1, .own 2]), .agg (cellsOf (.nm .reply) r4)] [.row 42 (.nm .sess) (r5), .row 51 (.nm .opn) (r6), .row 46 (.nm .snap) (r7)] = (I64 st.version -> I64 st.next -> I64 st.keep -> I64 st.quota -> st.sess.length * (32 : Nat) <= (140737488355328 : Nat) -> st.opens.length * (16 : Nat) <= (140737488355328 : Nat) -> st.snaps.length * (64 : Nat) <= (140737488355328 : Nat) -> I64 c.kind -> I64 c.client -> I64 c.seq -> I64 c.set -> I64 c.id -> I64 c.n -> c.chunks.length * (8 : Nat) <= (140737488355328 : Nat) -> c.text.b.length <= (140737488355328 : Nat) -> I64 st.version -> I64 st.next -> I64 st.keep -> I64 st.quota -> I64 (if mayF st st.version = (0 : Int) then mayC c st.version else (1 : Int)) -> (¬(if mayF st st.version = (0 : Int) then mayC c st.version else (1 : Int)) = (0 : Int) -> I64 (if mayF st st.version = (0 : Int) then mayC c st.version else (1 : Int)) -> I64 (0 : Int) -> st.version = r0 /\ st.next = r1 /\ st.keep = r2 /\ st.quota = r3 /\ (if mayF st st.version = (0 : Int) then mayC c st.version else (1 : Int)) = r4.code /\ (0 : Int) = r4.n /\ st.sess = r5 /\ st.opens = r6 /\ st.snaps = r7) /\ ((if mayF st st.version = (0 : Int) then mayC c st.version else (1 : Int)) = (0 : Int) -> (c.kind = (8 : Int) -> I64 (st.version + (1 : Int)) /\ (¬c.n = st.version + (1 : Int) -> I64 (1 : Int) -> I64 (0 : Int) -> st.version = r0 /\ st.next = r1 /\ st.keep = r2 /\ st.quota = r3 /\ (1 : Int) = r4.code /\ (0 : Int) = r4.n /\ st.sess = r5 /\ st.opens = r6 /\ st.snaps = r7) /\ (c.n = st.version + (1 : Int) -> c.n = r0 /\ st.next = r1 /\ st.keep = r2 /\ st.quota = r3 /\ (0 : Int) = r4.code /\ c.n = r4.n /\ st.sess = r5 /\ st.opens = r6 /\ st.snaps = r7)) /\ (¬c.kind = (8 : Int) -> (c.kind = (1 : Int) -> I64 (placeF Sess.client c.client st.sess) -> ((0 : Int) <= placeF Sess.client c.client st.sess -> I64 (12 : Int) -> I64 (0 : Int) -> st.version = r0 /\ st.next = r1 /\ st.keep = r2 /\ st.quota = r3 /\ (12 : Int) = r4.code /\ (0 : Int) = r4.n /\ st.sess = r5 /\ st.opens = r6 /\ st.snaps = r7) /\ (placeF Sess.client c.client st.sess < (0 : Int) -> ∃ (s0 : Nat), ((0 : Int) = (↑s0 : Int) /\ st.version = st.version /\ st.next = st.next /\ st.keep = st.keep /\ st.quota = st.quota /\ c.kind = c.kind /\ c.client = c.client /\ c.seq = c.seq /\ c.set = c.set /\ c.id = c.id /\ c.n = c.n /\ c.chunks = c.chunks /\ c.text = c.text /\ (0 : Int) = (0 : Int) /\ (0 : Int) = (0 : Int) /\ (0 : Int) = (0 : Int) /\ (0 : Int) = (0 : Int) /\ (0 : Int) = (0 : Int) /\ (0 : Int) = (0 : Int) /\ st.sess = st.sess /\ st.opens = st.opens /\ st.snaps = st.snaps) /\ (s0 <= st.sess.length /\ ((List.take s0 st.sess).all fun (y : Sess) => decide (y.client < c.client)) = true) /\ ∀ (s : Nat), s <= st.sess.length /\ ((List.take s st.sess).all fun (y : Sess) => decide (y.client < c.client)) = true -> ((↑s : Int) < (↑st.sess.length : Int) -> (0 : Int) <= (↑s : Int) /\ (↑s : Int) < (↑st.sess.length : Int)) /\ (((↑s : Int) < (↑st.sess.length : Int) -> I64 (st.sess.getD s (dflt (Sh.nm NT.sess))).client /\ I64 (st.sess.getD s (dflt (Sh.nm NT.sess))).seq /\ I64 (st.sess.getD s (dflt (Sh.nm NT.sess))).last.code /\ I64 (st.sess.getD s (dflt (Sh.nm NT.sess))).last.n) -> ((↑s : Int) < (↑st.sess.length : Int) /\ (st.sess.getD s (dflt (Sh.nm NT.sess))).client < c.client -> I64 ((↑s : Int) + (1 : Int)) /\ ∃ (s' : Nat), ((↑s : Int) + (1 : Int) = (↑s' : Int) /\ st.version = st.version /\ st.next = st.next /\ st.keep = st.keep /\ st.quota = st.quota /\ c.kind = c.kind /\ c.client = c.client /\ c.seq = c.seq /\ c.set = c.set /\ c.id = c.id /\ c.n = c.n /\ c.chunks = c.chunks /\ c.text = c.text /\ (0 : Int) = (0 : Int) /\ (0 : Int) = (0 : Int) /\ (0 : Int) = (0 : Int) /\ (0 : Int) = (0 : Int) /\ (0 : Int) = (0 : Int) /\ (0 : Int) = (0 : Int) /\ st.sess = st.sess /\ st.opens = st.opens /\ st.snaps = st.snaps) /\ (s' <= st.sess.length /\ ((List.take s' st.sess).all fun (y : Sess) => decide (y.client < c.client)) = true) /\ st.sess.length - s' < st.sess.length - s) /\ ((↑st.sess.length : Int) <= (↑s : Int) \/ c.client <= (st.sess.getD s (dflt (Sh.nm NT.sess))).client -> ((0 : Int) <= (↑s : Int) /\ (↑s : Int) <= (↑st.sess.length : Int)) /\ st.sess.length < (1048576 : Nat) /\ [Sess.mk c.client (0 : Int) (Reply.mk (0 : Int) (0 : Int))].length = (1 : Nat) /\ st.version = r0 /\ st.next = r1 /\ st.keep = r2 /\ st.quota = r3 /\ (0 : Int) = r4.code /\ (0 : Int) = r4.n /\ List.take s st.sess ++ [Sess.mk c.client (0 : Int) (Reply.mk (0 : Int) (0 : Int))] ++ List.drop s st.sess = r5 /\ st.opens = r6 /\ st.snaps = r7)))) /\ (¬c.kind = (1 : Int) -> mayAF st c = (0 : Int) /\ (I64 (askedF st c).fst.version -> I64 (askedF st c).fst.next -> I64 (askedF st c).fst.keep -> I64 (askedF st c).fst.quota -> I64 (askedF st c).snd.code -> I64 (askedF st c).snd.n -> (askedF st c).fst.version = r0 /\ (askedF st c).fst.next = r1 /\ (askedF st c).fst.keep = r2 /\ (askedF st c).fst.quota = r3 /\ (askedF st c).snd.code = r4.code /\ (askedF st c).snd.n = r4.n /\ (askedF st c).fst.sess = r5 /\ (askedF st c).fst.opens = r6 /\ (askedF st c).fst.snaps = r7))))) := by kernel_rfl
theorem doA_s (st : State) (c : Command) : Sat Try.prog (shpOf tyT) 13 [.agg (cellsOf (.nm .state) st), .agg (cellsOf (.nm .command) c)] [] ⟨[], [.agg ([.int (((doF st c).1.version)), .int (((doF st c).1.next)), .int (((doF st c).1.keep)), .int (((doF st c).1.quota)), .own 0, .own 1, .own 2]), .agg (cellsOf (.nm .reply) ((doF st c).2))], some ([.row 42 (.nm .sess) (((doF st c).1.sess)), .row 51 (.nm .opn) (((doF st c).1.opens)), .row 46 (.nm .snap) (((doF st c).1.snaps))]), true⟩ := by
  refine sat_n O_P23_ok (LdoA st c) Try.func13 (by decide) (by kernel_rfl) ?_
  rw [doA_t]
  (repeat' (first | with_reducible refine And.intro ?_ ?_ | with_reducible refine and_imp.2 ?_ | intro))
  all_goals try (first | (first | with_reducible rfl | with_reducible assumption | omega | (refine I64_of ?_ ?_ <;> omega)) | exact rfl | exact ma_a (by with_reducible assumption) | exact ma_v (by with_reducible assumption) | exact ma_se (by with_reducible assumption) | exact do_nx (by with_reducible assumption) (by with_reducible assumption) (by with_reducible assumption) | (rw [doE] <;> first | rfl | with_reducible assumption | exact do_ins (by omega) (by with_reducible assumption) (by assumption)) | (rw [do8a] <;> first | rfl | with_reducible assumption | exact do_ins (by omega) (by with_reducible assumption) (by assumption)) | (rw [do8b] <;> first | rfl | with_reducible assumption | exact do_ins (by omega) (by with_reducible assumption) (by assumption)) | (rw [do1a] <;> first | rfl | with_reducible assumption | exact do_ins (by omega) (by with_reducible assumption) (by assumption)) | (rw [do1b] <;> first | rfl | with_reducible assumption | exact do_ins (by omega) (by with_reducible assumption) (by assumption)) | (rw [doX] <;> first | rfl | with_reducible assumption | exact do_ins (by omega) (by with_reducible assumption) (by assumption)))
  all_goals try (refine ⟨0, ?_⟩; (repeat' (first | with_reducible refine And.intro ?_ ?_ | with_reducible refine and_imp.2 ?_ | intro)))
  all_goals try (first | (first | with_reducible rfl | with_reducible assumption | omega | (refine I64_of ?_ ?_ <;> omega)) | exact rfl | exact ma_a (by with_reducible assumption) | exact ma_v (by with_reducible assumption) | exact ma_se (by with_reducible assumption) | exact do_nx (by with_reducible assumption) (by with_reducible assumption) (by with_reducible assumption) | (rw [doE] <;> first | rfl | with_reducible assumption | exact do_ins (by omega) (by with_reducible assumption) (by assumption)) | (rw [do8a] <;> first | rfl | with_reducible assumption | exact do_ins (by omega) (by with_reducible assumption) (by assumption)) | (rw [do8b] <;> first | rfl | with_reducible assumption | exact do_ins (by omega) (by with_reducible assumption) (by assumption)) | (rw [do1a] <;> first | rfl | with_reducible assumption | exact do_ins (by omega) (by with_reducible assumption) (by assumption)) | (rw [do1b] <;> first | rfl | with_reducible assumption | exact do_ins (by omega) (by with_reducible assumption) (by assumption)) | (rw [doX] <;> first | rfl | with_reducible assumption | exact do_ins (by omega) (by with_reducible assumption) (by assumption)))
  all_goals try (refine ⟨‹Nat› + 1, ?_⟩; (repeat' (first | with_reducible refine And.intro ?_ ?_ | with_reducible refine and_imp.2 ?_ | intro)))
  all_goals (first | (first | with_reducible rfl | with_reducible assumption | omega | (refine I64_of ?_ ?_ <;> omega)) | exact rfl | exact ma_a (by with_reducible assumption) | exact ma_v (by with_reducible assumption) | exact ma_se (by with_reducible assumption) | exact do_nx (by with_reducible assumption) (by with_reducible assumption) (by with_reducible assumption) | (rw [doE] <;> first | rfl | with_reducible assumption | exact do_ins (by omega) (by with_reducible assumption) (by assumption)) | (rw [do8a] <;> first | rfl | with_reducible assumption | exact do_ins (by omega) (by with_reducible assumption) (by assumption)) | (rw [do8b] <;> first | rfl | with_reducible assumption | exact do_ins (by omega) (by with_reducible assumption) (by assumption)) | (rw [do1a] <;> first | rfl | with_reducible assumption | exact do_ins (by omega) (by with_reducible assumption) (by assumption)) | (rw [do1b] <;> first | rfl | with_reducible assumption | exact do_ins (by omega) (by with_reducible assumption) (by assumption)) | (rw [doX] <;> first | rfl | with_reducible assumption | exact do_ins (by omega) (by with_reducible assumption) (by assumption)))
def O_P24 : Orc := (orc 13 (con (tCons (kT (.nm .state)) (tCons (kT (.nm .command)) tNil)) hNil fun (st, c, _) (_) => ⟨[], [.agg ([.int (((doF st c).1.version)), .int (((doF st c).1.next)), .int (((doF st c).1.keep)), .int (((doF st c).1.quota)), .own 0, .own 1, .own 2]), .agg (cellsOf (.nm .reply) ((doF st c).2))], some ([.row 42 (.nm .sess) (((doF st c).1.sess)), .row 51 (.nm .opn) (((doF st c).1.opens)), .row 46 (.nm .snap) (((doF st c).1.snaps))]), true⟩) O_P23)
theorem O_P24_ok : OrcOK Try.prog (shpOf tyT) O_P24 := (orc_ok (con_ok (tCons_ok kT_ok (tCons_ok kT_ok tNil_ok)) hNil_ok fun (st, c, _) (_) _ => doA_s st c ) O_P23_ok)
end Go.Proofs.Ytbgkcbjebflmbaa
namespace Go.Proofs.Ytbgkcbjebflmbaa
open Go.RowKit
theorem fresh7_t  (r0 : State) : wpP tyT O_P24 [] Try.f26 [] [] [.agg (cellsOf (.nm .state) r0)] = ((1 : Int) = r0.version /\ (1 : Int) = r0.next /\ (0 : Int) = r0.keep /\ (0 : Int) = r0.quota /\ r0.sess = [] /\ r0.opens = [] /\ r0.snaps = []) := by kernel_rfl
theorem fresh7_s  : Sat Try.prog (shpOf tyT) 26 [] [] ⟨[], [.agg (cellsOf (.nm .state) (⟨1, 1, 0, 0, [], [], []⟩))], none, false⟩ := by
  refine sat_p O_P24_ok [] Try.func26 (by decide) (by kernel_rfl) ?_
  rw [fresh7_t]
  (repeat' (first | with_reducible refine And.intro ?_ ?_ | with_reducible refine and_imp.2 ?_ | intro))
  all_goals (first | (first | with_reducible rfl | with_reducible assumption | omega | (refine I64_of ?_ ?_ <;> omega)) | exact rfl)
def O_P25 : Orc := (orc 26 (con tNil hNil fun (_) (_) => ⟨[], [.agg (cellsOf (.nm .state) (⟨1, 1, 0, 0, [], [], []⟩))], none, false⟩) O_P24)
theorem O_P25_ok : OrcOK Try.prog (shpOf tyT) O_P25 := (orc_ok (con_ok tNil_ok hNil_ok fun (_) (_) _ => fresh7_s  ) O_P24_ok)
end Go.Proofs.Ytbgkcbjebflmbaa
namespace Go.Proofs.Ytbgkcbjebflmbaa
open Go.RowKit
theorem sh_1 : doF (State.mk 1 1 0 0 [] [] []) (Command.mk 1 3 0 0 0 0 [] (Str.mk [])) = (State.mk 1 1 0 0 [Sess.mk 3 0 (Reply.mk 0 0)] [] [], Reply.mk 0 0) := by kernel_rfl
theorem sh_2 : (doF (State.mk 1 1 0 0 [Sess.mk 3 0 (Reply.mk 0 0)] [] []) (Command.mk 2 3 2 1 0 0 [] (Str.mk []))).2 = Reply.mk 14 0 := by kernel_rfl
theorem shown8_t  (r0 : Bool) : wpP tyT O_P25 [] Try.f10 [] [] [.c (.bool (.atom (r0)))] = (I64 (1 : Int) -> I64 (1 : Int) -> I64 (0 : Int) -> I64 (0 : Int) -> (0 : Nat) * (32 : Nat) <= (140737488355328 : Nat) -> (0 : Nat) * (16 : Nat) <= (140737488355328 : Nat) -> (0 : Nat) * (64 : Nat) <= (140737488355328 : Nat) -> I64 (doF (State.mk (1 : Int) (1 : Int) (0 : Int) (0 : Int) [] [] []) (Command.mk (1 : Int) (3 : Int) (0 : Int) (0 : Int) (0 : Int) (0 : Int) [] (Str.mk []))).fst.version -> I64 (doF (State.mk (1 : Int) (1 : Int) (0 : Int) (0 : Int) [] [] []) (Command.mk (1 : Int) (3 : Int) (0 : Int) (0 : Int) (0 : Int) (0 : Int) [] (Str.mk []))).fst.next -> I64 (doF (State.mk (1 : Int) (1 : Int) (0 : Int) (0 : Int) [] [] []) (Command.mk (1 : Int) (3 : Int) (0 : Int) (0 : Int) (0 : Int) (0 : Int) [] (Str.mk []))).fst.keep -> I64 (doF (State.mk (1 : Int) (1 : Int) (0 : Int) (0 : Int) [] [] []) (Command.mk (1 : Int) (3 : Int) (0 : Int) (0 : Int) (0 : Int) (0 : Int) [] (Str.mk []))).fst.quota -> I64 (doF (State.mk (1 : Int) (1 : Int) (0 : Int) (0 : Int) [] [] []) (Command.mk (1 : Int) (3 : Int) (0 : Int) (0 : Int) (0 : Int) (0 : Int) [] (Str.mk []))).snd.code -> I64 (doF (State.mk (1 : Int) (1 : Int) (0 : Int) (0 : Int) [] [] []) (Command.mk (1 : Int) (3 : Int) (0 : Int) (0 : Int) (0 : Int) (0 : Int) [] (Str.mk []))).snd.n -> I64 (doF (doF (State.mk (1 : Int) (1 : Int) (0 : Int) (0 : Int) [] [] []) (Command.mk (1 : Int) (3 : Int) (0 : Int) (0 : Int) (0 : Int) (0 : Int) [] (Str.mk []))).fst (Command.mk (2 : Int) (3 : Int) (2 : Int) (1 : Int) (0 : Int) (0 : Int) [] (Str.mk []))).fst.version -> I64 (doF (doF (State.mk (1 : Int) (1 : Int) (0 : Int) (0 : Int) [] [] []) (Command.mk (1 : Int) (3 : Int) (0 : Int) (0 : Int) (0 : Int) (0 : Int) [] (Str.mk []))).fst (Command.mk (2 : Int) (3 : Int) (2 : Int) (1 : Int) (0 : Int) (0 : Int) [] (Str.mk []))).fst.next -> I64 (doF (doF (State.mk (1 : Int) (1 : Int) (0 : Int) (0 : Int) [] [] []) (Command.mk (1 : Int) (3 : Int) (0 : Int) (0 : Int) (0 : Int) (0 : Int) [] (Str.mk []))).fst (Command.mk (2 : Int) (3 : Int) (2 : Int) (1 : Int) (0 : Int) (0 : Int) [] (Str.mk []))).fst.keep -> I64 (doF (doF (State.mk (1 : Int) (1 : Int) (0 : Int) (0 : Int) [] [] []) (Command.mk (1 : Int) (3 : Int) (0 : Int) (0 : Int) (0 : Int) (0 : Int) [] (Str.mk []))).fst (Command.mk (2 : Int) (3 : Int) (2 : Int) (1 : Int) (0 : Int) (0 : Int) [] (Str.mk []))).fst.quota -> I64 (doF (doF (State.mk (1 : Int) (1 : Int) (0 : Int) (0 : Int) [] [] []) (Command.mk (1 : Int) (3 : Int) (0 : Int) (0 : Int) (0 : Int) (0 : Int) [] (Str.mk []))).fst (Command.mk (2 : Int) (3 : Int) (2 : Int) (1 : Int) (0 : Int) (0 : Int) [] (Str.mk []))).snd.code -> I64 (doF (doF (State.mk (1 : Int) (1 : Int) (0 : Int) (0 : Int) [] [] []) (Command.mk (1 : Int) (3 : Int) (0 : Int) (0 : Int) (0 : Int) (0 : Int) [] (Str.mk []))).fst (Command.mk (2 : Int) (3 : Int) (2 : Int) (1 : Int) (0 : Int) (0 : Int) [] (Str.mk []))).snd.n -> (((doF (State.mk (1 : Int) (1 : Int) (0 : Int) (0 : Int) [] [] []) (Command.mk (1 : Int) (3 : Int) (0 : Int) (0 : Int) (0 : Int) (0 : Int) [] (Str.mk []))).snd.code = (0 : Int) /\ (doF (State.mk (1 : Int) (1 : Int) (0 : Int) (0 : Int) [] [] []) (Command.mk (1 : Int) (3 : Int) (0 : Int) (0 : Int) (0 : Int) (0 : Int) [] (Str.mk []))).snd.n = (0 : Int)) /\ (↑(doF (State.mk (1 : Int) (1 : Int) (0 : Int) (0 : Int) [] [] []) (Command.mk (1 : Int) (3 : Int) (0 : Int) (0 : Int) (0 : Int) (0 : Int) [] (Str.mk []))).fst.sess.length : Int) = (1 : Int) -> (0 : Int) <= (0 : Int) /\ (0 : Int) < (↑(doF (State.mk (1 : Int) (1 : Int) (0 : Int) (0 : Int) [] [] []) (Command.mk (1 : Int) (3 : Int) (0 : Int) (0 : Int) (0 : Int) (0 : Int) [] (Str.mk []))).fst.sess.length : Int)) /\ ((((doF (State.mk (1 : Int) (1 : Int) (0 : Int) (0 : Int) [] [] []) (Command.mk (1 : Int) (3 : Int) (0 : Int) (0 : Int) (0 : Int) (0 : Int) [] (Str.mk []))).snd.code = (0 : Int) /\ (doF (State.mk (1 : Int) (1 : Int) (0 : Int) (0 : Int) [] [] []) (Command.mk (1 : Int) (3 : Int) (0 : Int) (0 : Int) (0 : Int) (0 : Int) [] (Str.mk []))).snd.n = (0 : Int)) /\ (↑(doF (State.mk (1 : Int) (1 : Int) (0 : Int) (0 : Int) [] [] []) (Command.mk (1 : Int) (3 : Int) (0 : Int) (0 : Int) (0 : Int) (0 : Int) [] (Str.mk []))).fst.sess.length : Int) = (1 : Int) -> I64 ((doF (State.mk (1 : Int) (1 : Int) (0 : Int) (0 : Int) [] [] []) (Command.mk (1 : Int) (3 : Int) (0 : Int) (0 : Int) (0 : Int) (0 : Int) [] (Str.mk []))).fst.sess.getD (0 : Nat) (dflt (Sh.nm NT.sess))).client /\ I64 ((doF (State.mk (1 : Int) (1 : Int) (0 : Int) (0 : Int) [] [] []) (Command.mk (1 : Int) (3 : Int) (0 : Int) (0 : Int) (0 : Int) (0 : Int) [] (Str.mk []))).fst.sess.getD (0 : Nat) (dflt (Sh.nm NT.sess))).seq /\ I64 ((doF (State.mk (1 : Int) (1 : Int) (0 : Int) (0 : Int) [] [] []) (Command.mk (1 : Int) (3 : Int) (0 : Int) (0 : Int) (0 : Int) (0 : Int) [] (Str.mk []))).fst.sess.getD (0 : Nat) (dflt (Sh.nm NT.sess))).last.code /\ I64 ((doF (State.mk (1 : Int) (1 : Int) (0 : Int) (0 : Int) [] [] []) (Command.mk (1 : Int) (3 : Int) (0 : Int) (0 : Int) (0 : Int) (0 : Int) [] (Str.mk []))).fst.sess.getD (0 : Nat) (dflt (Sh.nm NT.sess))).last.n) -> (decide ((doF (State.mk (1 : Int) (1 : Int) (0 : Int) (0 : Int) [] [] []) (Command.mk (1 : Int) (3 : Int) (0 : Int) (0 : Int) (0 : Int) (0 : Int) [] (Str.mk []))).snd.code = (0 : Int)) && decide ((doF (State.mk (1 : Int) (1 : Int) (0 : Int) (0 : Int) [] [] []) (Command.mk (1 : Int) (3 : Int) (0 : Int) (0 : Int) (0 : Int) (0 : Int) [] (Str.mk []))).snd.n = (0 : Int)) && decide ((↑(doF (State.mk (1 : Int) (1 : Int) (0 : Int) (0 : Int) [] [] []) (Command.mk (1 : Int) (3 : Int) (0 : Int) (0 : Int) (0 : Int) (0 : Int) [] (Str.mk []))).fst.sess.length : Int) = (1 : Int)) && decide (((doF (State.mk (1 : Int) (1 : Int) (0 : Int) (0 : Int) [] [] []) (Command.mk (1 : Int) (3 : Int) (0 : Int) (0 : Int) (0 : Int) (0 : Int) [] (Str.mk []))).fst.sess.getD (0 : Nat) (dflt (Sh.nm NT.sess))).client = (3 : Int)) && decide ((doF (doF (State.mk (1 : Int) (1 : Int) (0 : Int) (0 : Int) [] [] []) (Command.mk (1 : Int) (3 : Int) (0 : Int) (0 : Int) (0 : Int) (0 : Int) [] (Str.mk []))).fst (Command.mk (2 : Int) (3 : Int) (2 : Int) (1 : Int) (0 : Int) (0 : Int) [] (Str.mk []))).snd.code = (14 : Int))) = r0)) := by kernel_rfl
theorem shown8_s  : Sat Try.prog (shpOf tyT) 10 [] [] ⟨[], [.c (.bool (.atom ((true))))], none, false⟩ := by
  refine sat_p O_P25_ok [] Try.func10 (by decide) (by kernel_rfl) ?_
  rw [shown8_t]
  simp only [sh_1, sh_2]
  (repeat' (first | with_reducible refine And.intro ?_ ?_ | with_reducible refine and_imp.2 ?_ | intro))
  all_goals first | (first | with_reducible rfl | with_reducible assumption | omega | (refine I64_of ?_ ?_ <;> omega)) | decide | rfl
def O_P26 : Orc := (orc 10 (con tNil hNil fun (_) (_) => ⟨[], [.c (.bool (.atom ((true))))], none, false⟩) O_P25)
theorem O_P26_ok : OrcOK Try.prog (shpOf tyT) O_P26 := (orc_ok (con_ok tNil_ok hNil_ok fun (_) (_) _ => shown8_s  ) O_P25_ok)
end Go.Proofs.Ytbgkcbjebflmbaa
namespace Go.Proofs.Ytbgkcbjebflmbaa
open Go.RowKit
section
variable {s : State} {c : Command}
theorem map_set_self {α : Type} {key : α -> Int} {l : List α} {k : Nat} {x d : α} (hk : k < l.length) (h : key x = key (l.getD k d)) : (l.set k x).map key = l.map key := by
  rw [List.map_set, h, List.getD_eq_getElem?_getD, List.getElem?_eq_getElem hk, Option.getD_some]
  have : key l[k] = (l.map key)[k]'(by rw [List.length_map]; exact hk) := by rw [List.getElem_map]
  rw [this, List.set_getElem_self]
end
def O_R1 : Orc := (orc 5 (con (tCons (kT (.nm .state)) (tCons (kT (.nm .command)) tNil)) hNil fun (st, c, _) (_) => ⟨[], [.c (.bool (.atom ((true))))], none, false⟩) O_P26)
end Go.Proofs.Ytbgkcbjebflmbaa
namespace Go.Proofs.Ytbgkcbjebflmbaa
open Go.RowKit
theorem mayC_ok {c : Command} {v : Int} (h : mayC c v = 0) : (1 <= v /\ v <= 3) /\ ¬ needF c.kind = 0 /\ needF c.kind <= v /\ fitsF c = true := by
  unfold mayC at h
  split at h
  · cases h
  · rename_i h1
    rw [Bool.or_eq_true, not_or] at h1
    simp only [Bool.not_eq_true', Bool.not_eq_false, decide_eq_true_eq] at h1
    split at h
    · cases h
    · split at h
      · cases h
      · rename_i h2 h3
        exact ⟨inT h1.1, h1.2, by omega, by simpa using h3⟩
theorem mayC_rng {c : Command} {v : Int} : 0 <= mayC c v /\ mayC c v <= 99 := by
  unfold mayC; (repeat' split) <;> omega
theorem mayAF_rng {s : State} {c : Command} : 0 <= mayAF s c /\ mayAF s c <= 99 := by
  unfold mayAF; split
  · exact mayC_rng
  · omega
theorem mayAF_ok {s : State} {c : Command} (h : mayAF s c = 0) : mayF s s.version = 0 /\ mayC c s.version = 0 := by
  have h1 := ma_f (s := s) (c := c) h
  refine ⟨h1, ?_⟩
  unfold mayAF at h; rwa [if_pos h1] at h
theorem may_of {s : State} {v : Int} (h1 : inB v 1 3 = true) (h2 : numbersF s v = true) (h3 : sessF s = true) (h4 : opensF s = true) (h5 : snapsF s v = true) : mayF s v = 0 := by
  unfold mayF; simp [h1, h2, h3, h4, h5]
theorem snapsF_of {s : State} {v : Int} (h1 : s.snaps.length <= 16) (h2 : risingF Snap.id (s.next - 1) 0 s.snaps = true) (h3 : ∀ x ∈ s.snaps, snapOk v (tagMax v) x = true) : snapsF s v = true := by
  unfold snapsF
  rw [h2, decide_eq_false (by omega), List.all_eq_true.2 h3]; rfl
section
variable {α : Type} {key : α -> Int} {most : Int}
theorem ris_weak : ∀ {l : List α} {a b : Int}, a <= b -> risingF key most b l = true -> risingF key most a l = true
  | [], _, _, _, _ => rfl
  | x :: l, a, b, h, k => by
    simp only [risingF, Bool.and_eq_true] at k ⊢
    have := inT k.1
    exact ⟨by unfold inB; rw [Bool.and_eq_true, decide_eq_true_eq, decide_eq_true_eq]; omega, k.2⟩
theorem ris_sub {l l' : List α} (h : l'.Sublist l) : ∀ {a : Int}, risingF key most a l = true -> risingF key most a l' = true := by
  induction h with
  | slnil => intro a _; rfl
  | cons x _ ih =>
    intro a k
    simp only [risingF, Bool.and_eq_true] at k
    have := inT k.1
    exact ih (ris_weak (by omega) k.2)
  | cons_cons x _ ih =>
    intro a k
    simp only [risingF, Bool.and_eq_true] at k ⊢
    exact ⟨k.1, ih k.2⟩
theorem ris_map : ∀ {l : List α} {a : Int}, risingF key most a l = risingF id most a (l.map key)
  | [], _ => rfl
  | x :: l, a => by
    show (inB (key x) (a + 1) most && risingF key most (key x) l) = (inB (key x) (a + 1) most && risingF id most (key x) (l.map key))
    rw [ris_map (l := l)]
theorem ris_most {m2 : Int} (hm : most <= m2) : ∀ {l : List α} {a : Int}, risingF key most a l = true -> risingF key m2 a l = true
  | [], _, _ => rfl
  | x :: l, a, k => by
    simp only [risingF, Bool.and_eq_true] at k ⊢
    have := inT k.1
    exact ⟨by unfold inB; rw [Bool.and_eq_true, decide_eq_true_eq, decide_eq_true_eq]; omega, ris_most hm k.2⟩
theorem ris_end {x : α} {m2 : Int} (hx : most < key x) (hm : key x <= m2) : ∀ {l : List α} {a : Int}, a <= most -> risingF key most a l = true -> risingF key m2 a (l ++ [x]) = true
  | [], a, ha, _ => by
    simp only [List.nil_append, risingF, Bool.and_true]
    unfold inB; rw [Bool.and_eq_true, decide_eq_true_eq, decide_eq_true_eq]; omega
  | y :: l, a, _, k => by
    simp only [List.cons_append, risingF, Bool.and_eq_true] at k ⊢
    have := inT k.1
    exact ⟨by unfold inB; rw [Bool.and_eq_true, decide_eq_true_eq, decide_eq_true_eq]; omega, ris_end hx hm (by omega) k.2⟩
theorem ris_ins {x : α} : ∀ {l : List α} {a : Int}, risingF key most a l = true -> a < key x -> key x <= most -> (∀ y ∈ l, ¬ key y = key x) -> risingF key most a (insF l (l.takeWhile fun y => decide (key y < key x)).length x) = true
  | [], a, _, h1, h2, _ => by
    show (inB (key x) (a + 1) most && true) = true
    unfold inB; simp; omega
  | y :: l, a, k, h1, h2, hn => by
    simp only [risingF, Bool.and_eq_true] at k
    have h3 := inT k.1
    have h4 := hn y (List.mem_cons_self)
    by_cases h : key y < key x
    · have e : insF (y :: l) ((y :: l).takeWhile fun y => decide (key y < key x)).length x = y :: insF l (l.takeWhile fun y => decide (key y < key x)).length x := by
        rw [List.takeWhile_cons, decide_eq_true h, if_pos rfl]; rfl
      rw [e]
      simp only [risingF, Bool.and_eq_true]
      exact ⟨k.1, ris_ins k.2 h h2 fun z hz => hn z (List.mem_cons_of_mem _ hz)⟩
    · have e : insF (y :: l) ((y :: l).takeWhile fun y => decide (key y < key x)).length x = x :: y :: l := by
        rw [List.takeWhile_cons, decide_eq_false h]; rfl
      rw [e]
      simp only [risingF, Bool.and_eq_true]
      refine ⟨?_, ?_, k.2⟩
      · unfold inB; rw [Bool.and_eq_true, decide_eq_true_eq, decide_eq_true_eq]; omega
      · unfold inB; rw [Bool.and_eq_true, decide_eq_true_eq, decide_eq_true_eq]; omega
theorem ins_mem {l : List α} {i : Nat} {x y : α} (h : y ∈ insF l i x) : y = x \/ y ∈ l := by
  unfold insF at h
  rcases List.mem_append.1 h with h | h
  · exact .inr (List.mem_of_mem_take h)
  · rcases List.mem_cons.1 h with h | h
    · exact .inl h
    · exact .inr (List.mem_of_mem_drop h)
theorem del_sub {l : List α} {i : Int} (h : 0 <= i) : (delI l i).Sublist l := by
  unfold delI
  rw [show (i + 1).toNat = i.toNat + 1 by omega]
  have h1 : (l.drop (i.toNat + 1)).Sublist (l.drop i.toNat) := by
    rw [<- List.drop_drop]; exact List.drop_sublist 1 _
  have h2 := (List.Sublist.refl (l.take i.toNat)).append h1
  rwa [List.take_append_drop] at h2
theorem place_none {want : Int} {l : List α} (h : placeF key want l < 0) : ∀ x ∈ l, ¬ key x = want := by
  refine placeF_neg.1 ?_
  unfold placeF at *
  split
  · rename_i i hi; rw [hi] at h; dsimp only at h; omega
  · rfl
end
theorem fits_ok {c : Command} (h : fitsF c = true) : (spanF c.kind).1 <= c.n /\ c.n <= (spanF c.kind).2 /\ chF c = true /\ txF c = true /\ wthF c.client 8 (!([(8 : Int)].contains c.kind)) = true /\ wthF c.seq 1048576 (!([(1 : Int), 8].contains c.kind)) = true /\ wthF c.set 8 ([(2 : Int), 3, 4].contains c.kind) = true := by
  unfold fitsF at h
  simp only [Bool.and_eq_true, decide_eq_true_eq] at h
  obtain ⟨⟨⟨⟨⟨⟨⟨h1, h2⟩, h3⟩, h4⟩, h5⟩, h6⟩, h7⟩, h8⟩ := h
  exact ⟨h1, h2, h3, h4, h5, h6, h7⟩
theorem fit_client {c : Command} (h : fitsF c = true) (k : ¬ c.kind = 8) : 1 <= c.client /\ c.client <= 8 := by
  have h1 := (fits_ok h).2.2.2.2.1
  have e : (!([(8 : Int)].contains c.kind)) = true := by simp [k]
  rw [e] at h1; unfold wthF at h1; simpa using h1
theorem fit_set {c : Command} (h : fitsF c = true) (k : c.kind = 2 \/ c.kind = 3 \/ c.kind = 4) : 1 <= c.set /\ c.set <= 8 := by
  have h1 := (fits_ok h).2.2.2.2.2.2
  have e : ([(2 : Int), 3, 4].contains c.kind) = true := by rcases k with k | k | k <;> rw [k] <;> decide
  rw [e] at h1; unfold wthF at h1; simpa using h1
theorem fit_n {c : Command} (h : fitsF c = true) : (c.kind = 8 -> 2 <= c.n /\ c.n <= 3) /\ (c.kind = 6 -> 0 <= c.n /\ c.n <= 8) /\ (c.kind = 12 -> 0 <= c.n /\ c.n <= 64) := by
  obtain ⟨h1, h2, _⟩ := fits_ok h
  refine ⟨fun k => ?_, fun k => ?_, fun k => ?_⟩ <;> (rw [k] at h1 h2; exact ⟨h1, h2⟩)
theorem fit_tag {c : Command} (h : fitsF c = true) (k : c.kind = 11) : (c.text.b.length : Int) <= 16 := by
  have h1 := (fits_ok h).2.2.2.1
  unfold txF at h1; rw [if_pos k] at h1; simpa using h1
theorem fit_chunks {c : Command} (h : fitsF c = true) (k : c.kind = 3) : chunksE c.chunks = 0 := by
  have h1 := (fits_ok h).2.2.1
  unfold chF at h1; rw [if_pos k] at h1; exact (chunksE_yes h1).symm
theorem dist_le64 {l : List Snap} : distF l <= 64 := dist_le
theorem freed_le {l : List Snap} {id : Int} : (freedF l id).length <= 64 := by
  have := fr_len (l := l) (id := id) (k := 64) (n := 0) (Nat.le_refl _)
  unfold freedF freedTo
  rw [List.length_map]
  refine Nat.le_trans (List.length_filter_le _ _) ?_
  simp
def O_R2 : Orc := (orc 26 (con tNil hNil fun (_) (_) => ⟨[], [.agg (cellsOf (.nm .state) (⟨1, 1, 0, 0, [], [], []⟩))], none, false⟩) O_P26)
end Go.Proofs.Ytbgkcbjebflmbaa
namespace Go.Proofs.Ytbgkcbjebflmbaa
open Go.RowKit
theorem num_of {s : State} {v : Int} (a : inB s.version 1 3 = true) (b : inB s.next 1 1048576 = true) (c : inB s.keep 0 8 = true) (d : inB s.quota 0 (if v < 3 then 0 else 64) = true) : numbersF s v = true := by
  unfold numbersF; rw [a, b, c, d]; rfl
theorem num_parts {s : State} {v : Int} (h : numbersF s v = true) : inB s.version 1 3 = true /\ inB s.next 1 1048576 = true /\ inB s.keep 0 8 = true /\ inB s.quota 0 (if v < 3 then 0 else 64) = true := by
  unfold numbersF at h; simp only [Bool.and_eq_true] at h; exact ⟨h.1.1.1, h.1.1.2, h.1.2, h.2⟩
theorem inI {n a b : Int} (h1 : a <= n) (h2 : n <= b) : inB n a b = true := by unfold inB; rw [decide_eq_true h1, decide_eq_true h2]; rfl
theorem may_snaps {s : State} (M : mayF s s.version = 0) {nx : Int} {op : List Opn} {sn : List Snap} (hn : 1 <= nx /\ nx <= 1048576) (ho : risingF Opn.set 8 0 op = true /\ ∀ x ∈ op, openOk x = true) (h1 : sn.length <= 16) (h2 : risingF Snap.id (nx - 1) 0 sn = true) (h3 : ∀ x ∈ sn, snapOk s.version (tagMax s.version) x = true) : mayF (State.mk s.version nx s.keep s.quota s.sess op sn) s.version = 0 := by
  obtain ⟨k1, k2, k3, k4, k5⟩ := may_parts M
  obtain ⟨n1, n2, n3, n4⟩ := num_parts k2
  refine may_of k1 (num_of n1 (inI hn.1 hn.2) n3 n4) k3 ?_ (snapsF_of h1 h2 h3)
  show (risingF Opn.set 8 0 op && op.all openOk) = true
  rw [ho.1, List.all_eq_true.2 ho.2]; rfl
theorem may_opens {s : State} (M : mayF s s.version = 0) : risingF Opn.set 8 0 s.opens = true /\ ∀ x ∈ s.opens, openOk x = true := by
  have h := (may_parts M).2.2.2.1
  simp only [opensF, Bool.and_eq_true, List.all_eq_true] at h
  exact h
theorem snap_parts {v t : Int} {x : Snap} (h : snapOk v t x = true) : chunksE x.chunks = 0 /\ inB x.set 1 8 = true /\ (x.held = false \/ 2 <= v) /\ ((x.tag.b.length : Nat) : Int) <= t := by
  simp only [snapOk, Bool.and_eq_true, decide_eq_true_eq, Bool.or_eq_true, Bool.not_eq_true'] at h
  exact ⟨h.1.1.1, h.1.1.2, h.1.2, h.2⟩
theorem snap_of {v t : Int} {x : Snap} (h1 : chunksE x.chunks = 0) (h2 : inB x.set 1 8 = true) (h3 : x.held = false \/ 2 <= v) (h4 : ((x.tag.b.length : Nat) : Int) <= t) : snapOk v t x = true := by
  simp only [snapOk, Bool.and_eq_true, decide_eq_true_eq, Bool.or_eq_true, Bool.not_eq_true']
  exact ⟨⟨⟨h1, h2⟩, h3⟩, h4⟩
theorem snap_get {s : State} (M : mayF s s.version = 0) {n : Nat} (h : n < s.snaps.length) : snapOk s.version (tagMax s.version) (s.snaps.getD n (dflt (.nm .snap))) = true :=
  (may_sn M).2.2 _ (List.mem_of_getElem? (gd (d := dflt (.nm .snap)) (by omega)))
theorem may_set {s : State} (M : mayF s s.version = 0) {n : Nat} (h : n < s.snaps.length) {x : Snap} (hi : x.id = (s.snaps.getD n (dflt (.nm .snap))).id) (hx : snapOk s.version (tagMax s.version) x = true) : mayF (State.mk s.version s.next s.keep s.quota s.sess s.opens (s.snaps.set n x)) s.version = 0 := by
  obtain ⟨k1, k2, k3⟩ := may_sn M
  refine may_snaps M (may_nx M) (may_opens M) (by rw [List.length_set]; exact k1) ?_ fun y hy => ?_
  · rw [ris_map, map_set_self (d := dflt (.nm .snap)) h hi, <- ris_map]; exact k2
  · rcases List.mem_or_eq_of_mem_set hy with hy | rfl
    · exact k3 y hy
    · exact hx
structure ActOk (s : State) (r : State × Reply) : Prop where
  may : mayF r.1 r.1.version = 0
  ver : r.1.version = s.version
  nxt : s.next <= r.1.next /\ r.1.next <= s.next + 1
  code : 0 <= r.2.code /\ r.2.code <= 99
  n : 0 <= r.2.n /\ r.2.n <= 1048576
theorem ActOk.refl {s : State} (M : mayF s s.version = 0) {e n : Int} (h1 : 0 <= e /\ e <= 99) (h2 : 0 <= n /\ n <= 1048576) : ActOk s (s, ⟨e, n⟩) := ⟨M, rfl, ⟨Int.le_refl _, by show s.next <= s.next + 1; omega⟩, h1, h2⟩
theorem actF_byK {Q : State × Reply -> Prop} {s : State} {c : Command} (h0 : ∀ e : Int, ¬ e = 0 -> 0 <= e -> e <= 99 -> Q (s, ⟨e, 0⟩))
    (ht : mayAF s c = 0 -> c.kind = 11 -> Q (snapDoF (tagF c) c s)) (hh : ∀ b, mayAF s c = 0 -> (b = true -> c.kind = 9) -> (c.kind = 9 \/ c.kind = 10) -> Q (snapDoF (holdF b) c s)) (hl : mayAF s c = 0 -> c.kind = 7 -> Q (snapDoF lookF_ c s)) (hp : mayAF s c = 0 -> c.kind = 5 -> Q (snapDoF pruneF c s))
    (hq : mayAF s c = 0 -> c.kind = 12 -> Q (quotaF c s)) (hk : mayAF s c = 0 -> c.kind = 6 -> Q (keepF c s)) (ha : mayAF s c = 0 -> c.kind = 4 -> Q (abortF s c)) (hc : mayAF s c = 0 -> c.kind = 3 -> Q (commitF s c)) (hb : mayAF s c = 0 -> c.kind = 2 -> Q (beginF s c)) : Q (actF s c) := by
  unfold actF
  split
  · exact h0 _ (by assumption) mayAF_rng.1 mayAF_rng.2
  · rename_i h
    have h : mayAF s c = 0 := Classical.not_not.1 h
    unfold actK
    split
    · exact ht h (by assumption)
    split
    · rename_i _ k; exact hh _ h (fun e => by cases e) (.inr k)
    split
    · rename_i _ _ k; exact hh _ h (fun _ => k) (.inl k)
    split
    · exact hl h (by assumption)
    split
    · exact hp h (by assumption)
    split
    · exact hq h (by assumption)
    split
    · exact hk h (by assumption)
    split
    · exact ha h (by assumption)
    split
    · exact hc h (by assumption)
    split
    · exact hb h (by assumption)
    · exact h0 1 (by decide) (by decide) (by decide)
theorem snapDo_by0 {Q : State × Reply -> Prop} {f : State -> Nat -> State × Reply} {s : State} {c : Command} (h0 : Q (s, ⟨15, 0⟩)) (h : ∀ n : Nat, (n : Int) = placeF Snap.id c.id s.snaps -> n < s.snaps.length -> Q (f s n)) : Q (snapDoF f c s) := by
  unfold snapDoF
  split
  · exact h0
  · rename_i hp
    have := placeF_lt (key := Snap.id) (want := c.id) (l := s.snaps) (by omega)
    exact h _ (by omega) (by omega)
theorem act_ok {s : State} {c : Command} (M : mayF s s.version = 0) : ActOk s (actF s c) := by
  have mk : ∀ {e : Int}, 0 <= e -> e <= 99 -> ActOk s (s, ⟨e, 0⟩) := fun h1 h2 => ActOk.refl M ⟨h1, h2⟩ ⟨Int.le_refl _, by decide⟩
  have one : s.next <= s.next + 1 := by omega
  have z : (0 : Int) <= 0 /\ (0 : Int) <= 99 := by decide
  have zn : (0 : Int) <= 0 /\ (0 : Int) <= 1048576 := by decide
  have z1 : (0 : Int) <= 1 /\ (1 : Int) <= 1048576 := by decide
  refine actF_byK (fun e _ h1 h2 => mk h1 h2) (fun A k => ?_) (fun b A kb k => ?_) (fun A k => ?_) (fun A k => ?_) (fun A k => ?_) (fun A k => ?_) (fun A k => ?_) (fun A k => ?_) (fun A k => ?_)
  · -- a tag
    obtain ⟨⟨v1, v2⟩, _, nv, F⟩ := mayC_ok (mayAF_ok A).2
    refine snapDo_by0 (Q := ActOk s) (mk (by decide) (by decide)) fun n hn hl => ?_
    obtain ⟨p1, p2, p3, p4⟩ := snap_parts (snap_get M hl)
    rw [k, show needF 11 = 3 from rfl] at nv
    have tm : tagMax s.version = 16 := by unfold tagMax; rw [if_neg (by omega)]
    refine ⟨may_set M hl rfl (snap_of p1 p2 p3 ?_), rfl, ⟨Int.le_refl _, one⟩, z, zn⟩
    rw [tm]; exact fit_tag F k
  · -- a hold
    obtain ⟨⟨v1, v2⟩, _, nv, F⟩ := mayC_ok (mayAF_ok A).2
    refine snapDo_by0 (Q := ActOk s) (mk (by decide) (by decide)) fun n hn hl => ?_
    obtain ⟨p1, p2, p3, p4⟩ := snap_parts (snap_get M hl)
    unfold holdF
    split
    · exact mk (by decide) (by decide)
    · refine ⟨may_set M hl rfl (snap_of p1 p2 (.inr ?_) p4), rfl, ⟨Int.le_refl _, one⟩, z, z1⟩
      rcases k with k | k
      · rw [k, show needF 9 = 2 from rfl] at nv; exact nv
      · rw [k, show needF 10 = 2 from rfl] at nv; exact nv
  · -- a look
    refine snapDo_by0 (Q := ActOk s) (mk (by decide) (by decide)) fun n hn hl => ?_
    have h1 := row_len (sn_row (snap_get M hl))
    exact ActOk.refl M ⟨by decide, by decide⟩ ⟨by omega, by omega⟩
  · -- a prune
    refine snapDo_by0 (Q := ActOk s) (mk (by decide) (by decide)) fun n hn hl => ?_
    unfold pruneF
    split
    · exact mk (by decide) (by decide)
    split
    · exact mk (by decide) (by decide)
    · obtain ⟨k1, k2, k3⟩ := may_sn M
      have hs : (withoutF (s.snaps.getD n (dflt (.nm .snap))).id s.snaps).Sublist s.snaps := List.filter_sublist
      have hf := freed_le (l := s.snaps) (id := (s.snaps.getD n (dflt (.nm .snap))).id)
      exact ⟨may_snaps M (may_nx M) (may_opens M) (Nat.le_trans hs.length_le k1) (ris_sub hs k2) fun x hx => k3 x (hs.subset hx), rfl, ⟨Int.le_refl _, one⟩, z, ⟨by dsimp only; omega, by dsimp only; omega⟩⟩
  · -- a quota
    obtain ⟨⟨v1, v2⟩, _, nv, F⟩ := mayC_ok (mayAF_ok A).2
    rw [k, show needF 12 = 3 from rfl] at nv
    obtain ⟨k1, k2, k3, k4, k5⟩ := may_parts M
    obtain ⟨n1, n2, n3, n4⟩ := num_parts k2
    have hn := (fit_n F).2.2 k
    have hd := dist_le64 (l := s.snaps)
    refine ⟨may_of k1 (num_of n1 n2 n3 ?_) k3 k4 k5, rfl, ⟨Int.le_refl _, one⟩, z, ⟨by show (0 : Int) <= (distF s.snaps : Int); omega, by show (distF s.snaps : Int) <= 1048576; omega⟩⟩
    show inB c.n 0 (if s.version < 3 then 0 else 64) = true
    rw [if_neg (by omega)]; exact inI hn.1 hn.2
  · -- a keep
    obtain ⟨_, _, _, F⟩ := mayC_ok (mayAF_ok A).2
    obtain ⟨k1, k2, k3, k4, k5⟩ := may_parts M
    obtain ⟨n1, n2, n3, n4⟩ := num_parts k2
    have hn := (fit_n F).2.1 k
    exact ⟨may_of k1 (num_of n1 n2 (inI hn.1 hn.2) n4) k3 k4 k5, rfl, ⟨Int.le_refl _, one⟩, z, zn⟩
  · -- an abort
    unfold abortF
    split
    · exact mk (by decide) (by decide)
    · obtain ⟨k1, k2, k3⟩ := may_sn M
      have hs := del_sub (l := s.opens) (i := openedF s c) (by omega)
      exact ⟨may_snaps M (may_nx M) ⟨ris_sub hs (may_opens M).1, fun x hx => (may_opens M).2 x (hs.subset hx)⟩ k1 k2 k3, rfl, ⟨Int.le_refl _, one⟩, z, zn⟩
  · -- a commit
    obtain ⟨⟨v1, v2⟩, _, nv, F⟩ := mayC_ok (mayAF_ok A).2
    unfold commitF
    split
    · exact mk (by decide) (by decide)
    split
    · exact mk (by decide) (by decide)
    split
    · exact mk (by decide) (by decide)
    · rename_i o1 o2 o3
      obtain ⟨k1, k2, k3⟩ := may_sn M
      have hnx := may_nx M
      have hs := del_sub (l := s.opens) (i := openedF s c) (by omega)
      have hset := fit_set F (.inr (.inl k))
      refine ⟨may_snaps M ⟨by omega, by omega⟩ ⟨ris_sub hs (may_opens M).1, fun x hx => (may_opens M).2 x (hs.subset hx)⟩ (by rw [List.length_append]; simp only [List.length_cons, List.length_nil]; omega) ?_ fun x hx => ?_, rfl, ⟨by dsimp only; omega, by dsimp only; omega⟩, z, ⟨by dsimp only; omega, by dsimp only; omega⟩⟩
      · exact ris_end (most := s.next - 1) (by dsimp only; omega) (by dsimp only; omega) (by omega) k2
      · rcases List.mem_append.1 hx with hx | hx
        · exact k3 x hx
        · rw [List.mem_singleton] at hx; subst hx
          refine snap_of (fit_chunks F k) (inI hset.1 hset.2) (.inl rfl) ?_
          show (0 : Int) <= tagMax s.version
          unfold tagMax; split <;> decide
  · -- a begin
    obtain ⟨⟨v1, v2⟩, _, nv, F⟩ := mayC_ok (mayAF_ok A).2
    have hset := fit_set F (.inl k)
    have hcl := fit_client F (by omega)
    unfold beginF
    split
    · rename_i hp
      have hl := placeF_lt hp
      have ho := (may_opens M).2 _ (List.mem_of_getElem? (gd (d := dflt (.nm .opn)) (k := (placeF Opn.set c.set s.opens).toNat) (l := s.opens) (by omega)))
      have := inT (show inB _ 1 8 = true from ho)
      exact ActOk.refl M ⟨by decide, by decide⟩ ⟨by omega, by omega⟩
    · rename_i hp
      obtain ⟨k1, k2, k3⟩ := may_sn M
      refine ⟨may_snaps M (may_nx M) ⟨ris_ins (x := Opn.mk c.set c.client) (may_opens M).1 (by dsimp only; omega) (by dsimp only; omega) fun y hy => place_none (key := Opn.set) (want := c.set) (l := s.opens) (by omega) y hy, fun x hx => ?_⟩ k1 k2 k3, rfl, ⟨Int.le_refl _, one⟩, z, zn⟩
      rcases ins_mem hx with rfl | hx
      · exact inI hcl.1 hcl.2
      · exact (may_opens M).2 x hx
def O_R3 : Orc := (orc 26 (con tNil hNil fun (_) (_) => ⟨[], [.agg (cellsOf (.nm .state) (⟨1, 1, 0, 0, [], [], []⟩))], none, false⟩) O_P26)
end Go.Proofs.Ytbgkcbjebflmbaa
namespace Go.Proofs.Ytbgkcbjebflmbaa
open Go.RowKit
def O_R4 : Orc := (orc 4 (con (tCons (kT (.nm .state)) (tCons (kT (.nm .command)) tNil)) hNil fun (st, c, _) (_) => ⟨[], [.c (.bool (.atom ((true))))], none, false⟩) O_P26)
end Go.Proofs.Ytbgkcbjebflmbaa
namespace Go.Proofs.Ytbgkcbjebflmbaa
open Go.RowKit
section
variable {α : Type} {key : α -> Int} {most : Int}
theorem ris_gt : ∀ {l : List α} {a : Int}, risingF key most a l = true -> ∀ x ∈ l, a < key x
  | [], _, _, _, h => by cases h
  | y :: l, a, k, x, h => by
    simp only [risingF, Bool.and_eq_true] at k
    have h3 := inT k.1
    rcases List.mem_cons.1 h with rfl | h
    · omega
    · have := ris_gt k.2 x h; omega
theorem ris_le : ∀ {l : List α} {a : Int}, risingF key most a l = true -> ∀ x ∈ l, key x <= most
  | [], _, _, _, h => by cases h
  | y :: l, a, k, x, h => by
    simp only [risingF, Bool.and_eq_true] at k
    have h3 := inT k.1
    rcases List.mem_cons.1 h with rfl | h
    · omega
    · exact ris_le k.2 x h
end
structure DoOk (s : State) (c : Command) (r : State × Reply) : Prop where
  may : mayF r.1 r.1.version = 0
  ver : r.1.version = if c.kind = 8 /\ r.2.code = 0 then s.version + 1 else s.version
  nxt : s.next <= r.1.next /\ r.1.next <= s.next + 1
  len : s.sess.length <= r.1.sess.length
  seq : ∀ x ∈ s.sess, ∃ y ∈ r.1.sess, y.client = x.client /\ x.seq <= y.seq /\ y.seq <= x.seq + 1
def O_R5 : Orc := (orc 26 (con tNil hNil fun (_) (_) => ⟨[], [.agg (cellsOf (.nm .state) (⟨1, 1, 0, 0, [], [], []⟩))], none, false⟩) O_P26)
end Go.Proofs.Ytbgkcbjebflmbaa
namespace Go.Proofs.Ytbgkcbjebflmbaa
open Go.RowKit
section
variable {s : State} {c : Command}
end
def LlawM (st : State) (c : Command) : List (Nat × LI) := [(11, { σ := Nat, F := fun k => ([(2, one (.ptr 0 0)), (5, one (.bool (.atom true))), (6, one (.ptr 5 0)), (9, one (.int k))], [.box 26 (cellsOf (.nm .state) ((lessF st))), .box 29 (cellsOf (.nm .command) ((fewF c))), .row 42 (.nm .sess) (((doF (lessF st) (fewF c)).1.sess)), .row 51 (.nm .opn) (((doF (lessF st) (fewF c)).1.opens)), .row 46 (.nm .snap) (((doF (lessF st) (fewF c)).1.snaps)), .box 26 ([.int (((doF (lessF st) (fewF c)).1.version)), .int (((doF (lessF st) (fewF c)).1.next)), .int (((doF (lessF st) (fewF c)).1.keep)), .int (((doF (lessF st) (fewF c)).1.quota)), .own 2, .own 3, .own 4]), .box 35 ([.int (((doF (lessF st) (fewF c)).2.code)), .int (((doF (lessF st) (fewF c)).2.n))])]), J := fun k => k <= (lessF st).sess.length, μ := fun k => (lessF st).sess.length - k })]
def O_R6 : Orc := (orc 3 (con (tCons (kT (.nm .state)) (tCons (kT (.nm .command)) tNil)) hNil fun (st, c, _) (_) => ⟨[], [.c (.bool (.atom ((true))))], none, false⟩) O_P26)
end Go.Proofs.Ytbgkcbjebflmbaa
namespace Go.Proofs.Ytbgkcbjebflmbaa
open Go.RowKit
section
variable {α : Type} {key : α -> Int} {most : Int}
theorem ris_lt : ∀ {l : List α} {a : Int} {i : Nat} {x : α}, risingF key most a l = true -> l[i]? = some x -> ∀ y ∈ l.take i, key y < key x
  | [], _, _, _, _, h, _, _ => by simp at h
  | z :: l, a, 0, x, _, _, y, hy => by simp at hy
  | z :: l, a, i + 1, x, k, h, y, hy => by
    simp only [risingF, Bool.and_eq_true] at k
    rw [List.getElem?_cons_succ] at h
    rw [List.take_succ_cons] at hy
    rcases List.mem_cons.1 hy with rfl | hy
    · exact ris_gt k.2 x (List.mem_of_getElem? h)
    · exact ris_lt k.2 h y hy
theorem place_ix {l : List α} {a : Int} {i : Nat} {x : α} (k : risingF key most a l = true) (h : l[i]? = some x) : placeF key (key x) l = (i : Int) :=
  (place_yes (placeF_neg.2 fun y hy e => by have := ris_lt k h y hy; omega) h rfl).symm
end
theorem id_rng {s : State} {v : Int} {x : Snap} (M : mayF s v = 0) (hx : x ∈ s.snaps) : 1 <= x.id /\ x.id <= 1048576 := by
  have h := (may_parts M).2.2.2.2
  have n := may_nx M
  simp only [snapsF, Bool.and_eq_true, Bool.not_eq_true', Bool.or_eq_false_iff, Bool.not_eq_false'] at h
  have g := ris_gt h.1.2 x hx
  have l := (ris_most (m2 := s.next - 1) (Int.le_refl _) h.1.2)
  have t := ris_le h.1.2 x hx
  omega
def cmdI (k id : Int) : Command := Command.mk k 1 1 0 id 0 [] (Str.mk [])
theorem cmd_may {k id v : Int} (hk : k = 5 \/ k = 9 \/ k = 10) (h1 : 1 <= id) (h2 : id <= 1048576) (hv : v = 2 \/ v = 3) : mayC (cmdI k id) v = 0 := by
  have e1 : decide (1 <= id) = true := decide_eq_true h1
  have e2 : decide (id <= 1048576) = true := decide_eq_true h2
  rcases hk with rfl | rfl | rfl <;> rcases hv with rfl | rfl <;> simp [mayC, cmdI, fitsF, wthF, spanF, chF, txF, inB, needF, mgetA, e1, e2, h1, h2]
theorem wo_one : ∀ {l : List Snap} {most a : Int} {i : Nat} {x : Snap}, risingF Snap.id most a l = true -> l[i]? = some x -> (withoutF x.id l).length + 1 = l.length
  | [], _, _, _, _, _, h => by simp at h
  | z :: l, most, a, 0, x, k, h => by
    simp only [risingF, Bool.and_eq_true] at k
    simp only [List.getElem?_cons_zero, Option.some.injEq] at h
    subst h
    have e : withoutF z.id (z :: l) = l := by
      unfold withoutF
      rw [List.filter_cons_of_neg (by simp)]
      exact List.filter_eq_self.2 fun y hy => by have := ris_gt k.2 y hy; simp; omega
    rw [e]; rfl
  | z :: l, most, a, i + 1, x, k, h => by
    simp only [risingF, Bool.and_eq_true] at k
    rw [List.getElem?_cons_succ] at h
    have g := ris_gt k.2 x (List.mem_of_getElem? h)
    have e : withoutF x.id (z :: l) = z :: withoutF x.id l := List.filter_cons_of_pos (by simp; omega)
    rw [e, List.length_cons, List.length_cons, wo_one k.2 h]
theorem wo_gone {l : List Snap} {id : Int} : placeF Snap.id id (withoutF id l) < 0 := by
  have : placeF Snap.id id (withoutF id l) = -1 := placeF_neg.2 fun y hy => by
    have := (List.mem_filter.1 hy).2
    simpa using this
  omega
section
variable {s : State} {x : Snap} {i : Nat}
theorem snaps_ris {v : Int} (M : mayF s v = 0) : risingF Snap.id (s.next - 1) 0 s.snaps = true := by
  have h := (may_parts M).2.2.2.2
  simp only [snapsF, Bool.and_eq_true, Bool.not_eq_true', Bool.or_eq_false_iff, Bool.not_eq_false'] at h
  exact h.1.2
theorem act_I {k : Int} (M : mayF s s.version = 0) (v2 : 2 <= s.version) (hx : s.snaps[i]? = some x) (hk : k = 5 \/ k = 9 \/ k = 10) : actF s (cmdI k x.id) = actK s (cmdI k x.id) := by
  have r := id_rng M (List.mem_of_getElem? hx)
  have v := inT (may_parts M).1
  exact actM (by rw [if_pos M]; exact cmd_may hk r.1 r.2 (by omega))
theorem snap_I {k : Int} {f : State -> Nat -> State × Reply} (M : mayF s s.version = 0) (hx : s.snaps[i]? = some x) : snapDoF f (cmdI k x.id) s = f s i := by
  unfold snapDoF
  rw [show (cmdI k x.id).id = x.id from rfl, place_ix (snaps_ris M) hx, if_neg (by omega), Int.toNat_natCast]
theorem hold_I (M : mayF s s.version = 0) (v2 : 2 <= s.version) (hx : s.snaps[i]? = some x) : actF s (cmdI 9 x.id) = holdF true s i := (act_I M v2 hx (by omega)).trans (snap_I (k := 9) (f := holdF true) M hx)
theorem free_I (M : mayF s s.version = 0) (v2 : 2 <= s.version) (hx : s.snaps[i]? = some x) : actF s (cmdI 10 x.id) = holdF false s i := (act_I M v2 hx (by omega)).trans (snap_I (k := 10) (f := holdF false) M hx)
theorem prune_I (M : mayF s s.version = 0) (v2 : 2 <= s.version) (hx : s.snaps[i]? = some x) : actF s (cmdI 5 x.id) = pruneF s i := (act_I M v2 hx (by omega)).trans (snap_I (k := 5) (f := pruneF) M hx)
end
def heldS (s : State) (i : Nat) (x : Snap) (b : Bool) : State := State.mk s.version s.next s.keep s.quota s.sess s.opens (s.snaps.set i (Snap.mk x.id x.set x.chunks b x.tag))
section
variable {s : State} {x : Snap} {i : Nat}
theorem getD_of (hx : s.snaps[i]? = some x) : s.snaps.getD i (dflt (.nm .snap)) = x := by rw [List.getD_eq_getElem?_getD, hx]; rfl
theorem hold_st (hx : s.snaps[i]? = some x) (b : Bool) : (holdF b s i).1 = heldS s i x b := by
  unfold holdF heldS
  rw [getD_of hx]
  split
  · rename_i h
    subst h
    obtain ⟨hi, e⟩ := List.getElem?_eq_some_iff.1 hx
    show s = State.mk s.version s.next s.keep s.quota s.sess s.opens (s.snaps.set i x)
    subst e
    rw [List.set_getElem_self]
  · rfl
theorem held_at {b : Bool} (hx : s.snaps[i]? = some x) : (heldS s i x b).snaps[i]? = some (Snap.mk x.id x.set x.chunks b x.tag) := by
  obtain ⟨hi, _⟩ := List.getElem?_eq_some_iff.1 hx
  exact List.getElem?_set_self hi
theorem held_held {b d : Bool} : heldS (heldS s i x b) i (Snap.mk x.id x.set x.chunks b x.tag) d = heldS s i x d := by
  unfold heldS; dsimp only; rw [List.set_set]
theorem held_kept {b : Bool} (hx : s.snaps[i]? = some x) : keptF (heldS s i x b) (i : Int) = keptF s (i : Int) := by
  unfold keptF keptN
  rw [Int.toNat_natCast, getD_of (held_at hx), getD_of hx]
  unfold heldS
  dsimp only
  rw [List.length_set, List.drop_set_of_lt (by omega)]
end
theorem map_set_g {β : Type} {f : Snap -> β} {l : List Snap} {i : Nat} {x y : Snap} (hx : l[i]? = some x) (e : f y = f x) : (l.set i y).map f = l.map f := by
  obtain ⟨hi, rfl⟩ := List.getElem?_eq_some_iff.1 hx
  rw [List.map_set, e]
  have : f l[i] = (l.map f)[i]'(by rw [List.length_map]; exact hi) := by rw [List.getElem_map]
  rw [this, List.set_getElem_self]
theorem wo_set {x y : Snap} (e : y.id = x.id) : ∀ {l : List Snap} {i : Nat}, l[i]? = some x -> withoutF x.id (l.set i y) = withoutF x.id l
  | [], _, h => by simp at h
  | z :: l, 0, h => by
    simp only [List.getElem?_cons_zero, Option.some.injEq] at h
    subst h
    unfold withoutF
    rw [List.set_cons_zero, List.filter_cons_of_neg (by simp [e]), List.filter_cons_of_neg (by simp)]
  | z :: l, i + 1, h => by
    rw [List.getElem?_cons_succ] at h
    have ih := wo_set e h
    unfold withoutF at ih ⊢
    rw [List.set_cons_succ, List.filter_cons, List.filter_cons, ih]
section
variable {s : State} {x : Snap} {i : Nat}
theorem held_wo {b : Bool} (hx : s.snaps[i]? = some x) : withoutF x.id (heldS s i x b).snaps = withoutF x.id s.snaps := wo_set (x := x) (y := Snap.mk x.id x.set x.chunks b x.tag) rfl hx
theorem held_free {b : Bool} (hx : s.snaps[i]? = some x) : freedF (heldS s i x b).snaps x.id = freedF s.snaps x.id := by
  have c : ∀ n : Int, cntF n (heldS s i x b).snaps = cntF n s.snaps := fun n => by
    unfold cntF heldS
    dsimp only
    rw [List.flatMap_def, List.flatMap_def, map_set_g (f := Snap.chunks) (y := Snap.mk x.id x.set x.chunks b x.tag) hx rfl]
  unfold freedF freedTo
  simp only [held_wo hx, c]
theorem held_may {k : Int} {b : Bool} (M : mayF s s.version = 0) (h : (actF s (cmdI k x.id)).1 = heldS s i x b) : mayF (heldS s i x b) (heldS s i x b).version = 0 := by
  have := (act_ok (c := cmdI k x.id) M).may
  rwa [h] at this
theorem held_prune {b : Bool} (hx : s.snaps[i]? = some x) : pruneF (heldS s i x b) i = if b = true then (heldS s i x b, ⟨17, 0⟩) else if keptF s i = true then (heldS s i x b, ⟨18, 0⟩) else (State.mk s.version s.next s.keep s.quota s.sess s.opens (withoutF x.id s.snaps), ⟨0, (freedF s.snaps x.id).length⟩) := by
  unfold pruneF
  rw [getD_of (held_at hx), held_kept hx]
  dsimp only
  rw [held_wo hx, held_free hx]
  rfl
theorem holds_all (M : mayF s s.version = 0) (v2 : 2 <= s.version) (hx : s.snaps[i]? = some x) :
    ((actF (actF s (cmdI 9 x.id)).1 (cmdI 5 x.id)).2.code = 17 /\ placeF Snap.id x.id (actF (actF s (cmdI 9 x.id)).1 (cmdI 5 x.id)).1.snaps = (i : Int)) /\
    actF (actF (actF (actF s (cmdI 9 x.id)).1 (cmdI 5 x.id)).1 (cmdI 10 x.id)).1 (cmdI 5 x.id) = if keptF s i = true then (heldS s i x false, ⟨18, 0⟩) else (State.mk s.version s.next s.keep s.quota s.sess s.opens (withoutF x.id s.snaps), ⟨0, (freedF s.snaps x.id).length⟩) := by
  have e1 : (actF s (cmdI 9 x.id)).1 = heldS s i x true := by rw [hold_I M v2 hx]; exact hold_st hx true
  have M1 := held_may M e1
  have a1 := held_at (b := true) hx
  have e2 : actF (heldS s i x true) (cmdI 5 x.id) = (heldS s i x true, ⟨17, 0⟩) := (prune_I M1 v2 a1).trans ((held_prune hx).trans (if_pos rfl))
  have e3 : (actF (heldS s i x true) (cmdI 10 x.id)).1 = heldS s i x false := by
    have := free_I M1 v2 a1
    exact (congrArg Prod.fst this).trans ((hold_st a1 false).trans held_held)
  have M3 : mayF (heldS s i x false) (heldS s i x false).version = 0 := by
    have := (act_ok (c := cmdI 10 x.id) M1).may
    rwa [e3] at this
  have e4 := (prune_I M3 v2 (held_at (b := false) hx)).trans (held_prune hx)
  rw [if_neg (by decide)] at e4
  rw [e1, e2]
  dsimp only
  rw [e3]
  exact ⟨⟨rfl, place_ix (x := Snap.mk x.id x.set x.chunks true x.tag) (snaps_ris M1) a1⟩, e4⟩
end
theorem hd_1 {s : State} {x : Snap} {t : Int} (M : mayF s s.version = 0) (v2 : 2 <= s.version) (hx : s.snaps[t.toNat]? = some x) (t0 : 0 <= t) (h : ¬ (actF (actF s (cmdI 9 x.id)).1 (cmdI 5 x.id)).2.code = 17 \/ ¬ placeF Snap.id x.id (actF (actF s (cmdI 9 x.id)).1 (cmdI 5 x.id)).1.snaps = t) : False := by
  obtain ⟨⟨a, b⟩, _⟩ := holds_all M v2 hx
  rcases h with h | h
  · exact h a
  · exact h (b.trans (by omega))
theorem hd_2 {s : State} {x : Snap} {t : Int} (M : mayF s s.version = 0) (v2 : 2 <= s.version) (hx : s.snaps[t.toNat]? = some x) (t0 : 0 <= t) (k : keptF s t = true) : actF (actF (actF (actF s (cmdI 9 x.id)).1 (cmdI 5 x.id)).1 (cmdI 10 x.id)).1 (cmdI 5 x.id) = (heldS s t.toNat x false, ⟨18, 0⟩) := by
  rw [(holds_all M v2 hx).2, Int.toNat_of_nonneg t0, if_pos k]
theorem hd_3 {s : State} {x : Snap} {t : Int} (M : mayF s s.version = 0) (v2 : 2 <= s.version) (hx : s.snaps[t.toNat]? = some x) (t0 : 0 <= t) (k : keptF s t = false) : actF (actF (actF (actF s (cmdI 9 x.id)).1 (cmdI 5 x.id)).1 (cmdI 10 x.id)).1 (cmdI 5 x.id) = (State.mk s.version s.next s.keep s.quota s.sess s.opens (withoutF x.id s.snaps), ⟨0, (freedF s.snaps x.id).length⟩) := by
  rw [(holds_all M v2 hx).2, Int.toNat_of_nonneg t0, if_neg (by rw [k]; decide)]
theorem hd_4 {s : State} {x : Snap} {t : Int} (M : mayF s s.version = 0) (v2 : 2 <= s.version) (hx : s.snaps[t.toNat]? = some x) (t0 : 0 <= t) (k : keptF s t = false) : (actF (actF (actF (actF s (cmdI 9 x.id)).1 (cmdI 5 x.id)).1 (cmdI 10 x.id)).1 (cmdI 5 x.id)).2.code = 0 /\ ((actF (actF (actF (actF s (cmdI 9 x.id)).1 (cmdI 5 x.id)).1 (cmdI 10 x.id)).1 (cmdI 5 x.id)).1.snaps.length : Int) = (s.snaps.length : Int) - 1 /\ placeF Snap.id x.id (actF (actF (actF (actF s (cmdI 9 x.id)).1 (cmdI 5 x.id)).1 (cmdI 10 x.id)).1 (cmdI 5 x.id)).1.snaps < 0 /\ (actF (actF (actF (actF s (cmdI 9 x.id)).1 (cmdI 5 x.id)).1 (cmdI 10 x.id)).1 (cmdI 5 x.id)).2.n = ((freedF s.snaps x.id).length : Int) := by
  rw [hd_3 M v2 hx t0 k]
  have := wo_one (snaps_ris M) hx
  exact ⟨rfl, by dsimp only; omega, wo_gone, rfl⟩
theorem hd_5 {s : State} {x : Snap} {t : Int} (M : mayF s s.version = 0) (v2 : 2 <= s.version) (hx : s.snaps[t.toNat]? = some x) (t0 : 0 <= t) (k : keptF s t = true) : (true && decide ((actF (actF (actF (actF s (cmdI 9 x.id)).1 (cmdI 5 x.id)).1 (cmdI 10 x.id)).1 (cmdI 5 x.id)).2.code = 18) && decide (((actF (actF (actF (actF s (cmdI 9 x.id)).1 (cmdI 5 x.id)).1 (cmdI 10 x.id)).1 (cmdI 5 x.id)).1.snaps.length : Int) = (s.snaps.length : Int))) = true := by
  rw [hd_2 M v2 hx t0 k]
  simp [heldS]
theorem lawH_t (st : State) (b : UInt8) (r0 : Bool) : wpP tyT O_P26 [] Try.f9 [.agg (cellsOf (.nm .state) st), .c (.u8 (b))] [] [.c (.bool (.atom (r0)))] = (I64 st.version -> I64 st.next -> I64 st.keep -> I64 st.quota -> st.sess.length * (32 : Nat) <= (140737488355328 : Nat) -> st.opens.length * (16 : Nat) <= (140737488355328 : Nat) -> st.snaps.length * (64 : Nat) <= (140737488355328 : Nat) -> I64 (lessF st).version -> I64 (lessF st).next -> I64 (lessF st).keep -> I64 (lessF st).quota -> (lessF st).sess.length * (32 : Nat) <= (140737488355328 : Nat) -> (lessF st).opens.length * (16 : Nat) <= (140737488355328 : Nat) -> (lessF st).snaps.length * (64 : Nat) <= (140737488355328 : Nat) -> I64 (mayF (lessF st) (lessF st).version) -> ((¬mayF (lessF st) (lessF st).version = (0 : Int) \/ (lessF st).version < (2 : Int)) \/ (↑(lessF st).snaps.length : Int) = (0 : Int) -> true = r0) /\ ((mayF (lessF st) (lessF st).version = (0 : Int) /\ (2 : Int) <= (lessF st).version) /\ ¬(↑(lessF st).snaps.length : Int) = (0 : Int) -> (0 : Int) <= (↑b.toNat : Int) /\ (0 : Int) < (↑(lessF st).snaps.length : Int) /\ (0 : Int) <= (↑b.toNat : Int).tmod (↑(lessF st).snaps.length : Int) /\ (↑b.toNat : Int).tmod (↑(lessF st).snaps.length : Int) < (↑(lessF st).snaps.length : Int) /\ ∀ (x : Snap), (lessF st).snaps[((↑b.toNat : Int).tmod (↑(lessF st).snaps.length : Int)).toNat]? = some x -> I64 x.id -> I64 x.set -> x.chunks.length * (8 : Nat) <= (140737488355328 : Nat) -> x.tag.b.length <= (140737488355328 : Nat) -> I64 (actF (lessF st) (Command.mk (9 : Int) (1 : Int) (1 : Int) (0 : Int) x.id (0 : Int) [] (Str.mk []))).fst.version -> I64 (actF (lessF st) (Command.mk (9 : Int) (1 : Int) (1 : Int) (0 : Int) x.id (0 : Int) [] (Str.mk []))).fst.next -> I64 (actF (lessF st) (Command.mk (9 : Int) (1 : Int) (1 : Int) (0 : Int) x.id (0 : Int) [] (Str.mk []))).fst.keep -> I64 (actF (lessF st) (Command.mk (9 : Int) (1 : Int) (1 : Int) (0 : Int) x.id (0 : Int) [] (Str.mk []))).fst.quota -> I64 (actF (lessF st) (Command.mk (9 : Int) (1 : Int) (1 : Int) (0 : Int) x.id (0 : Int) [] (Str.mk []))).snd.code -> I64 (actF (lessF st) (Command.mk (9 : Int) (1 : Int) (1 : Int) (0 : Int) x.id (0 : Int) [] (Str.mk []))).snd.n -> I64 (actF (actF (lessF st) (Command.mk (9 : Int) (1 : Int) (1 : Int) (0 : Int) x.id (0 : Int) [] (Str.mk []))).fst (Command.mk (5 : Int) (1 : Int) (1 : Int) (0 : Int) x.id (0 : Int) [] (Str.mk []))).fst.version -> I64 (actF (actF (lessF st) (Command.mk (9 : Int) (1 : Int) (1 : Int) (0 : Int) x.id (0 : Int) [] (Str.mk []))).fst (Command.mk (5 : Int) (1 : Int) (1 : Int) (0 : Int) x.id (0 : Int) [] (Str.mk []))).fst.next -> I64 (actF (actF (lessF st) (Command.mk (9 : Int) (1 : Int) (1 : Int) (0 : Int) x.id (0 : Int) [] (Str.mk []))).fst (Command.mk (5 : Int) (1 : Int) (1 : Int) (0 : Int) x.id (0 : Int) [] (Str.mk []))).fst.keep -> I64 (actF (actF (lessF st) (Command.mk (9 : Int) (1 : Int) (1 : Int) (0 : Int) x.id (0 : Int) [] (Str.mk []))).fst (Command.mk (5 : Int) (1 : Int) (1 : Int) (0 : Int) x.id (0 : Int) [] (Str.mk []))).fst.quota -> I64 (actF (actF (lessF st) (Command.mk (9 : Int) (1 : Int) (1 : Int) (0 : Int) x.id (0 : Int) [] (Str.mk []))).fst (Command.mk (5 : Int) (1 : Int) (1 : Int) (0 : Int) x.id (0 : Int) [] (Str.mk []))).snd.code -> I64 (actF (actF (lessF st) (Command.mk (9 : Int) (1 : Int) (1 : Int) (0 : Int) x.id (0 : Int) [] (Str.mk []))).fst (Command.mk (5 : Int) (1 : Int) (1 : Int) (0 : Int) x.id (0 : Int) [] (Str.mk []))).snd.n -> I64 (actF (actF (actF (lessF st) (Command.mk (9 : Int) (1 : Int) (1 : Int) (0 : Int) x.id (0 : Int) [] (Str.mk []))).fst (Command.mk (5 : Int) (1 : Int) (1 : Int) (0 : Int) x.id (0 : Int) [] (Str.mk []))).fst (Command.mk (10 : Int) (1 : Int) (1 : Int) (0 : Int) x.id (0 : Int) [] (Str.mk []))).fst.version -> I64 (actF (actF (actF (lessF st) (Command.mk (9 : Int) (1 : Int) (1 : Int) (0 : Int) x.id (0 : Int) [] (Str.mk []))).fst (Command.mk (5 : Int) (1 : Int) (1 : Int) (0 : Int) x.id (0 : Int) [] (Str.mk []))).fst (Command.mk (10 : Int) (1 : Int) (1 : Int) (0 : Int) x.id (0 : Int) [] (Str.mk []))).fst.next -> I64 (actF (actF (actF (lessF st) (Command.mk (9 : Int) (1 : Int) (1 : Int) (0 : Int) x.id (0 : Int) [] (Str.mk []))).fst (Command.mk (5 : Int) (1 : Int) (1 : Int) (0 : Int) x.id (0 : Int) [] (Str.mk []))).fst (Command.mk (10 : Int) (1 : Int) (1 : Int) (0 : Int) x.id (0 : Int) [] (Str.mk []))).fst.keep -> I64 (actF (actF (actF (lessF st) (Command.mk (9 : Int) (1 : Int) (1 : Int) (0 : Int) x.id (0 : Int) [] (Str.mk []))).fst (Command.mk (5 : Int) (1 : Int) (1 : Int) (0 : Int) x.id (0 : Int) [] (Str.mk []))).fst (Command.mk (10 : Int) (1 : Int) (1 : Int) (0 : Int) x.id (0 : Int) [] (Str.mk []))).fst.quota -> I64 (actF (actF (actF (lessF st) (Command.mk (9 : Int) (1 : Int) (1 : Int) (0 : Int) x.id (0 : Int) [] (Str.mk []))).fst (Command.mk (5 : Int) (1 : Int) (1 : Int) (0 : Int) x.id (0 : Int) [] (Str.mk []))).fst (Command.mk (10 : Int) (1 : Int) (1 : Int) (0 : Int) x.id (0 : Int) [] (Str.mk []))).snd.code -> I64 (actF (actF (actF (lessF st) (Command.mk (9 : Int) (1 : Int) (1 : Int) (0 : Int) x.id (0 : Int) [] (Str.mk []))).fst (Command.mk (5 : Int) (1 : Int) (1 : Int) (0 : Int) x.id (0 : Int) [] (Str.mk []))).fst (Command.mk (10 : Int) (1 : Int) (1 : Int) (0 : Int) x.id (0 : Int) [] (Str.mk []))).snd.n -> I64 (actF (actF (actF (actF (lessF st) (Command.mk (9 : Int) (1 : Int) (1 : Int) (0 : Int) x.id (0 : Int) [] (Str.mk []))).fst (Command.mk (5 : Int) (1 : Int) (1 : Int) (0 : Int) x.id (0 : Int) [] (Str.mk []))).fst (Command.mk (10 : Int) (1 : Int) (1 : Int) (0 : Int) x.id (0 : Int) [] (Str.mk []))).fst (Command.mk (5 : Int) (1 : Int) (1 : Int) (0 : Int) x.id (0 : Int) [] (Str.mk []))).fst.version -> I64 (actF (actF (actF (actF (lessF st) (Command.mk (9 : Int) (1 : Int) (1 : Int) (0 : Int) x.id (0 : Int) [] (Str.mk []))).fst (Command.mk (5 : Int) (1 : Int) (1 : Int) (0 : Int) x.id (0 : Int) [] (Str.mk []))).fst (Command.mk (10 : Int) (1 : Int) (1 : Int) (0 : Int) x.id (0 : Int) [] (Str.mk []))).fst (Command.mk (5 : Int) (1 : Int) (1 : Int) (0 : Int) x.id (0 : Int) [] (Str.mk []))).fst.next -> I64 (actF (actF (actF (actF (lessF st) (Command.mk (9 : Int) (1 : Int) (1 : Int) (0 : Int) x.id (0 : Int) [] (Str.mk []))).fst (Command.mk (5 : Int) (1 : Int) (1 : Int) (0 : Int) x.id (0 : Int) [] (Str.mk []))).fst (Command.mk (10 : Int) (1 : Int) (1 : Int) (0 : Int) x.id (0 : Int) [] (Str.mk []))).fst (Command.mk (5 : Int) (1 : Int) (1 : Int) (0 : Int) x.id (0 : Int) [] (Str.mk []))).fst.keep -> I64 (actF (actF (actF (actF (lessF st) (Command.mk (9 : Int) (1 : Int) (1 : Int) (0 : Int) x.id (0 : Int) [] (Str.mk []))).fst (Command.mk (5 : Int) (1 : Int) (1 : Int) (0 : Int) x.id (0 : Int) [] (Str.mk []))).fst (Command.mk (10 : Int) (1 : Int) (1 : Int) (0 : Int) x.id (0 : Int) [] (Str.mk []))).fst (Command.mk (5 : Int) (1 : Int) (1 : Int) (0 : Int) x.id (0 : Int) [] (Str.mk []))).fst.quota -> I64 (actF (actF (actF (actF (lessF st) (Command.mk (9 : Int) (1 : Int) (1 : Int) (0 : Int) x.id (0 : Int) [] (Str.mk []))).fst (Command.mk (5 : Int) (1 : Int) (1 : Int) (0 : Int) x.id (0 : Int) [] (Str.mk []))).fst (Command.mk (10 : Int) (1 : Int) (1 : Int) (0 : Int) x.id (0 : Int) [] (Str.mk []))).fst (Command.mk (5 : Int) (1 : Int) (1 : Int) (0 : Int) x.id (0 : Int) [] (Str.mk []))).snd.code -> I64 (actF (actF (actF (actF (lessF st) (Command.mk (9 : Int) (1 : Int) (1 : Int) (0 : Int) x.id (0 : Int) [] (Str.mk []))).fst (Command.mk (5 : Int) (1 : Int) (1 : Int) (0 : Int) x.id (0 : Int) [] (Str.mk []))).fst (Command.mk (10 : Int) (1 : Int) (1 : Int) (0 : Int) x.id (0 : Int) [] (Str.mk []))).fst (Command.mk (5 : Int) (1 : Int) (1 : Int) (0 : Int) x.id (0 : Int) [] (Str.mk []))).snd.n -> ((actF (actF (lessF st) (Command.mk (9 : Int) (1 : Int) (1 : Int) (0 : Int) x.id (0 : Int) [] (Str.mk []))).fst (Command.mk (5 : Int) (1 : Int) (1 : Int) (0 : Int) x.id (0 : Int) [] (Str.mk []))).snd.code = (17 : Int) -> I64 (placeF Snap.id x.id (actF (actF (lessF st) (Command.mk (9 : Int) (1 : Int) (1 : Int) (0 : Int) x.id (0 : Int) [] (Str.mk []))).fst (Command.mk (5 : Int) (1 : Int) (1 : Int) (0 : Int) x.id (0 : Int) [] (Str.mk []))).fst.snaps)) -> (¬(actF (actF (lessF st) (Command.mk (9 : Int) (1 : Int) (1 : Int) (0 : Int) x.id (0 : Int) [] (Str.mk []))).fst (Command.mk (5 : Int) (1 : Int) (1 : Int) (0 : Int) x.id (0 : Int) [] (Str.mk []))).snd.code = (17 : Int) \/ ¬placeF Snap.id x.id (actF (actF (lessF st) (Command.mk (9 : Int) (1 : Int) (1 : Int) (0 : Int) x.id (0 : Int) [] (Str.mk []))).fst (Command.mk (5 : Int) (1 : Int) (1 : Int) (0 : Int) x.id (0 : Int) [] (Str.mk []))).fst.snaps = (↑b.toNat : Int).tmod (↑(lessF st).snaps.length : Int) -> false = r0) /\ ((actF (actF (lessF st) (Command.mk (9 : Int) (1 : Int) (1 : Int) (0 : Int) x.id (0 : Int) [] (Str.mk []))).fst (Command.mk (5 : Int) (1 : Int) (1 : Int) (0 : Int) x.id (0 : Int) [] (Str.mk []))).snd.code = (17 : Int) /\ placeF Snap.id x.id (actF (actF (lessF st) (Command.mk (9 : Int) (1 : Int) (1 : Int) (0 : Int) x.id (0 : Int) [] (Str.mk []))).fst (Command.mk (5 : Int) (1 : Int) (1 : Int) (0 : Int) x.id (0 : Int) [] (Str.mk []))).fst.snaps = (↑b.toNat : Int).tmod (↑(lessF st).snaps.length : Int) -> (keptF (lessF st) ((↑b.toNat : Int).tmod (↑(lessF st).snaps.length : Int)) = true -> (true && decide ((actF (actF (actF (actF (lessF st) (Command.mk (9 : Int) (1 : Int) (1 : Int) (0 : Int) x.id (0 : Int) [] (Str.mk []))).fst (Command.mk (5 : Int) (1 : Int) (1 : Int) (0 : Int) x.id (0 : Int) [] (Str.mk []))).fst (Command.mk (10 : Int) (1 : Int) (1 : Int) (0 : Int) x.id (0 : Int) [] (Str.mk []))).fst (Command.mk (5 : Int) (1 : Int) (1 : Int) (0 : Int) x.id (0 : Int) [] (Str.mk []))).snd.code = (18 : Int)) && decide ((↑(actF (actF (actF (actF (lessF st) (Command.mk (9 : Int) (1 : Int) (1 : Int) (0 : Int) x.id (0 : Int) [] (Str.mk []))).fst (Command.mk (5 : Int) (1 : Int) (1 : Int) (0 : Int) x.id (0 : Int) [] (Str.mk []))).fst (Command.mk (10 : Int) (1 : Int) (1 : Int) (0 : Int) x.id (0 : Int) [] (Str.mk []))).fst (Command.mk (5 : Int) (1 : Int) (1 : Int) (0 : Int) x.id (0 : Int) [] (Str.mk []))).fst.snaps.length : Int) = (↑(lessF st).snaps.length : Int))) = r0) /\ (keptF (lessF st) ((↑b.toNat : Int).tmod (↑(lessF st).snaps.length : Int)) = false -> (true = true -> ((actF (actF (actF (actF (lessF st) (Command.mk (9 : Int) (1 : Int) (1 : Int) (0 : Int) x.id (0 : Int) [] (Str.mk []))).fst (Command.mk (5 : Int) (1 : Int) (1 : Int) (0 : Int) x.id (0 : Int) [] (Str.mk []))).fst (Command.mk (10 : Int) (1 : Int) (1 : Int) (0 : Int) x.id (0 : Int) [] (Str.mk []))).fst (Command.mk (5 : Int) (1 : Int) (1 : Int) (0 : Int) x.id (0 : Int) [] (Str.mk []))).snd.code = (0 : Int) -> ((↑(actF (actF (actF (actF (lessF st) (Command.mk (9 : Int) (1 : Int) (1 : Int) (0 : Int) x.id (0 : Int) [] (Str.mk []))).fst (Command.mk (5 : Int) (1 : Int) (1 : Int) (0 : Int) x.id (0 : Int) [] (Str.mk []))).fst (Command.mk (10 : Int) (1 : Int) (1 : Int) (0 : Int) x.id (0 : Int) [] (Str.mk []))).fst (Command.mk (5 : Int) (1 : Int) (1 : Int) (0 : Int) x.id (0 : Int) [] (Str.mk []))).fst.snaps.length : Int) = (↑(lessF st).snaps.length : Int) - (1 : Int) -> (placeF Snap.id x.id (actF (actF (actF (actF (lessF st) (Command.mk (9 : Int) (1 : Int) (1 : Int) (0 : Int) x.id (0 : Int) [] (Str.mk []))).fst (Command.mk (5 : Int) (1 : Int) (1 : Int) (0 : Int) x.id (0 : Int) [] (Str.mk []))).fst (Command.mk (10 : Int) (1 : Int) (1 : Int) (0 : Int) x.id (0 : Int) [] (Str.mk []))).fst (Command.mk (5 : Int) (1 : Int) (1 : Int) (0 : Int) x.id (0 : Int) [] (Str.mk []))).fst.snaps < (0 : Int) -> I64 ((↑(lessF st).snaps.length : Int) - (1 : Int)) /\ (I64 (placeF Snap.id x.id (actF (actF (actF (actF (lessF st) (Command.mk (9 : Int) (1 : Int) (1 : Int) (0 : Int) x.id (0 : Int) [] (Str.mk []))).fst (Command.mk (5 : Int) (1 : Int) (1 : Int) (0 : Int) x.id (0 : Int) [] (Str.mk []))).fst (Command.mk (10 : Int) (1 : Int) (1 : Int) (0 : Int) x.id (0 : Int) [] (Str.mk []))).fst (Command.mk (5 : Int) (1 : Int) (1 : Int) (0 : Int) x.id (0 : Int) [] (Str.mk []))).fst.snaps) -> nch (lessF st).snaps <= (1048576 : Nat)) /\ (I64 (placeF Snap.id x.id (actF (actF (actF (actF (lessF st) (Command.mk (9 : Int) (1 : Int) (1 : Int) (0 : Int) x.id (0 : Int) [] (Str.mk []))).fst (Command.mk (5 : Int) (1 : Int) (1 : Int) (0 : Int) x.id (0 : Int) [] (Str.mk []))).fst (Command.mk (10 : Int) (1 : Int) (1 : Int) (0 : Int) x.id (0 : Int) [] (Str.mk []))).fst (Command.mk (5 : Int) (1 : Int) (1 : Int) (0 : Int) x.id (0 : Int) [] (Str.mk []))).fst.snaps) -> (freedF (lessF st).snaps x.id).length * (8 : Nat) <= (140737488355328 : Nat) -> decide ((actF (actF (actF (actF (lessF st) (Command.mk (9 : Int) (1 : Int) (1 : Int) (0 : Int) x.id (0 : Int) [] (Str.mk []))).fst (Command.mk (5 : Int) (1 : Int) (1 : Int) (0 : Int) x.id (0 : Int) [] (Str.mk []))).fst (Command.mk (10 : Int) (1 : Int) (1 : Int) (0 : Int) x.id (0 : Int) [] (Str.mk []))).fst (Command.mk (5 : Int) (1 : Int) (1 : Int) (0 : Int) x.id (0 : Int) [] (Str.mk []))).snd.n = (↑(freedF (lessF st).snaps x.id).length : Int)) = r0)) /\ ((0 : Int) <= placeF Snap.id x.id (actF (actF (actF (actF (lessF st) (Command.mk (9 : Int) (1 : Int) (1 : Int) (0 : Int) x.id (0 : Int) [] (Str.mk []))).fst (Command.mk (5 : Int) (1 : Int) (1 : Int) (0 : Int) x.id (0 : Int) [] (Str.mk []))).fst (Command.mk (10 : Int) (1 : Int) (1 : Int) (0 : Int) x.id (0 : Int) [] (Str.mk []))).fst (Command.mk (5 : Int) (1 : Int) (1 : Int) (0 : Int) x.id (0 : Int) [] (Str.mk []))).fst.snaps -> I64 ((↑(lessF st).snaps.length : Int) - (1 : Int)) /\ (I64 (placeF Snap.id x.id (actF (actF (actF (actF (lessF st) (Command.mk (9 : Int) (1 : Int) (1 : Int) (0 : Int) x.id (0 : Int) [] (Str.mk []))).fst (Command.mk (5 : Int) (1 : Int) (1 : Int) (0 : Int) x.id (0 : Int) [] (Str.mk []))).fst (Command.mk (10 : Int) (1 : Int) (1 : Int) (0 : Int) x.id (0 : Int) [] (Str.mk []))).fst (Command.mk (5 : Int) (1 : Int) (1 : Int) (0 : Int) x.id (0 : Int) [] (Str.mk []))).fst.snaps) -> false = r0))) /\ (¬(↑(actF (actF (actF (actF (lessF st) (Command.mk (9 : Int) (1 : Int) (1 : Int) (0 : Int) x.id (0 : Int) [] (Str.mk []))).fst (Command.mk (5 : Int) (1 : Int) (1 : Int) (0 : Int) x.id (0 : Int) [] (Str.mk []))).fst (Command.mk (10 : Int) (1 : Int) (1 : Int) (0 : Int) x.id (0 : Int) [] (Str.mk []))).fst (Command.mk (5 : Int) (1 : Int) (1 : Int) (0 : Int) x.id (0 : Int) [] (Str.mk []))).fst.snaps.length : Int) = (↑(lessF st).snaps.length : Int) - (1 : Int) -> I64 ((↑(lessF st).snaps.length : Int) - (1 : Int)) /\ false = r0)) /\ (¬(actF (actF (actF (actF (lessF st) (Command.mk (9 : Int) (1 : Int) (1 : Int) (0 : Int) x.id (0 : Int) [] (Str.mk []))).fst (Command.mk (5 : Int) (1 : Int) (1 : Int) (0 : Int) x.id (0 : Int) [] (Str.mk []))).fst (Command.mk (10 : Int) (1 : Int) (1 : Int) (0 : Int) x.id (0 : Int) [] (Str.mk []))).fst (Command.mk (5 : Int) (1 : Int) (1 : Int) (0 : Int) x.id (0 : Int) [] (Str.mk []))).snd.code = (0 : Int) -> false = r0)) /\ (true = false -> false = r0))))) := by kernel_rfl
theorem lawH_s (st : State) (b : UInt8) : Sat Try.prog (shpOf tyT) 9 [.agg (cellsOf (.nm .state) st), .c (.u8 (b))] [] ⟨[], [.c (.bool (.atom ((true))))], none, false⟩ := by
  refine sat_p O_P26_ok [] Try.func9 (by decide) (by kernel_rfl) ?_
  rw [lawH_t]
  (repeat' (first | with_reducible refine And.intro ?_ ?_ | with_reducible refine and_imp.2 ?_ | intro))
  all_goals (first | (first | with_reducible rfl | with_reducible assumption | omega | (refine I64_of ?_ ?_ <;> omega)) | exact Int.tmod_nonneg _ (by omega) | exact Int.tmod_lt_of_pos _ (by omega) | exact (hd_1 (s := lessF st) (by assumption) (by assumption) (by assumption) (Int.tmod_nonneg _ (by omega)) (by assumption)).elim | exact hd_5 (s := lessF st) (by assumption) (by assumption) (by assumption) (Int.tmod_nonneg _ (by omega)) (by assumption) | (constructor <;> omega) | exact decide_eq_true (hd_4 (s := lessF st) (by assumption) (by assumption) (by assumption) (Int.tmod_nonneg _ (by omega)) (by assumption)).2.2.2 | exact absurd (hd_4 (s := lessF st) (by assumption) (by assumption) (by assumption) (Int.tmod_nonneg _ (by omega)) (by assumption)).1 (by assumption) | exact absurd (hd_4 (s := lessF st) (by assumption) (by assumption) (by assumption) (Int.tmod_nonneg _ (by omega)) (by assumption)).2.1 (by assumption) | (have := (hd_4 (s := lessF st) (by assumption) (by assumption) (by assumption) (Int.tmod_nonneg _ (by omega)) (by assumption)).2.2.1; simp only [cmdI] at this; omega) | (have := may_nch (s := lessF st) (v := (lessF st).version) (by assumption); omega) | contradiction)
def O_R7 : Orc := (orc 9 (con (tCons (kT (.nm .state)) (tCons (kC cY) tNil)) hNil fun (st, b, _) (_) => ⟨[], [.c (.bool (.atom ((true))))], none, false⟩) O_P26)
end Go.Proofs.Ytbgkcbjebflmbaa
namespace Go.Proofs.Ytbgkcbjebflmbaa
open Go.RowKit Go.ChangeShapes Go.WideShapes
def cxL (shp : TypeId -> Option Sh) (w : World) : Cx := cx ⟨shp, w.heap.size, fun _ => False⟩ [] w
theorem cxL_at {shp : TypeId -> Option Sh} {w : World} {s : Sh} {b : Nat} (h : b < w.heap.size) : (cxL shp w).at s b := ⟨⟨h, fun ⟨_, _, h, _⟩ => by simp at h, fun h => h⟩, .inl h⟩
def Tr (P : Program) (shp : TypeId -> Option Sh) (t : TypeId) (s : Sh) : Prop :=
  ∀ (H : Type) (enc : TypeId × Value -> H) (w : World) (fuel : Nat) (cs : List Value) (x : DataW H × List MemPlace),
    DataW.trod enc P w 0 (fun _ => true) true fuel t cs = some x -> (∀ n ∈ x.1.weights P t, n <= 140737488351232) -> (∀ q ∈ x.2, q.block < w.heap.size) -> ∃ y : den s, Pds (cxL shp w) (cellsOf s y) cs
def FitL : List Sh -> List AV -> Prop
  | [], asx => asx = []
  | s :: r, asx => ∃ (y : den s) (l : List AV), asx = cellsOf s y ++ l /\ FitL r l
def szL : List Sh -> Nat
  | [] => 0
  | s :: r => s.size + szL r
def TrF (P : Program) (shp : TypeId -> Option Sh) (fs : List Go.Field) (o : Nat) (ss : List Sh) : Prop :=
  ∀ (H : Type) (enc : TypeId × Value -> H) (w : World) (fuel : Nat) (cs : List Value) (xs : List (DataW H × List MemPlace)),
    cs.length = o + szL ss -> xs.length = fs.length -> (∀ (i : Nat) (f : Go.Field), fs[i]? = some f -> DataW.trod enc P w 0 (fun _ => true) true fuel f.type ((cs.drop f.offset).take (P.cellsOf f.type)) = xs[i]?) ->
    (∀ n ∈ DataW.weightsEach P (fs.map (·.type)) (xs.map (·.1)), n <= 140737488351232) -> (∀ q ∈ xs.flatMap (·.2), q.block < w.heap.size) -> ∃ asx, FitL ss asx /\ Pds (cxL shp w) asx (cs.drop o)
section
variable {P : Program} {shp : TypeId -> Option Sh} {t : TypeId}
theorem Tr.int (h : P.underlying t = some (.int .i64)) : Tr P shp t .int := fun _ enc w fuel cs x hx _ _ => by
  obtain ⟨n, rfl, _, hw⟩ := DataW.trod_int h hx
  have h1 : IntKind.i64.min = -9223372036854775808 := rfl
  have h2 : IntKind.i64.max = 9223372036854775807 := rfl
  simp only [Lit.wf, Bool.and_eq_true, decide_eq_true_eq] at hw
  exact ⟨n, .cons (.int ⟨by omega, by omega⟩) .nil⟩
theorem Tr.bool (h : P.underlying t = some .bool) : Tr P shp t .bool := fun _ enc w fuel cs x hx _ _ => by
  obtain ⟨n, rfl, _⟩ := DataW.trod_bool h hx
  exact ⟨n, .cons (Pd.bool (e := .atom n)) .nil⟩
theorem Tr.u8 (h : P.underlying t = some (.int .u8)) : Tr P shp t .u8 := fun _ enc w fuel cs x hx _ _ => by
  obtain ⟨n, rfl, _, hw⟩ := DataW.trod_int h hx
  have h1 : IntKind.u8.min = 0 := rfl
  have h2 : IntKind.u8.max = 255 := rfl
  simp only [Lit.wf, Bool.and_eq_true, decide_eq_true_eq] at hw
  refine ⟨UInt8.ofNat n.toNat, ?_⟩
  have : n = ((UInt8.ofNat n.toNat).toNat : Int) := by
    rw [UInt8.toNat_ofNat']; omega
  generalize hg : UInt8.ofNat n.toNat = b at this
  subst this
  exact .cons .u8 .nil
theorem Tr.u64 (h : P.underlying t = some (.int .u64)) : Tr P shp t .u64 := fun _ enc w fuel cs x hx _ _ => by
  obtain ⟨n, rfl, _, hw⟩ := DataW.trod_int h hx
  have h1 : IntKind.u64.min = 0 := rfl
  have h2 : IntKind.u64.max = 18446744073709551615 := rfl
  simp only [Lit.wf, Bool.and_eq_true, decide_eq_true_eq] at hw
  refine ⟨⟨n.toNat⟩, ?_⟩
  have : n = (n.toNat : Int) := by omega
  generalize hg : n.toNat = b at this
  subst this
  exact .cons (.u64 (by show b < _; omega)) .nil
theorem Tr.str (h : P.underlying t = some .string) : Tr P shp t .str := fun _ enc w fuel cs x hx hw _ => by
  obtain ⟨s, rfl, hx, _⟩ := DataW.trod_string h hx
  refine ⟨⟨s.data.toList⟩, ?_⟩
  have := hw s.data.toList.length (by rw [hx]; simp [DataW.weights])
  have e := Pd.str (c := cxL shp w) (s := ⟨s.data.toList⟩) (by show s.data.toList.length <= _; omega)
  have e2 : (⟨s.data.toList⟩ : Str).val = .string s := by simp [Str.val]
  rw [e2] at e
  exact .cons e .nil
theorem weightsAll_mem {H : Type} {e : TypeId} : ∀ {ds : List (DataW H)} {d : DataW H}, d ∈ ds -> ∀ n ∈ d.weights P e, n ∈ DataW.weightsAll P e ds
  | [], _, h, _, _ => by cases h
  | d0 :: ds, d, h, n, hn => by
    rw [DataW.weightsAll, List.mem_append]
    rcases List.mem_cons.1 h with rfl | h
    · exact .inl hn
    · exact .inr (weightsAll_mem h n hn)
theorem flat_snoc {s : Sh} {xs : List (den s)} {y : den s} : (xs ++ [y]).flatMap (cellsOf s) = xs.flatMap (cellsOf s) ++ cellsOf s y := by simp
theorem Tr.list {e : TypeId} {s : Sh} (ht : P.underlying t = some (.slice e)) (hC : P.cellsOf e = s.size) (hB : P.bytesOf e = s.bytes) (he : Tr P shp e s) : Tr P shp t (.lst s) := fun H enc w fuel cs x hx hw hlt => by
  have hp := size_pos s
  rcases DataW.trod_slice ht hx with ⟨rfl, _⟩ | ⟨a, len, cap, elems, rest, n, rfl, rfl, rfl, _, hl, hc, hel, hget, hrest, _⟩
  · exact ⟨([] : List (den s)), .cons (Pd.nil_fz (.em (a := none) (b := true) rfl)) .nil⟩
  · rw [hC] at *
    have step : ∀ m, m <= len -> ∃ (cells : List Value) (xs : List (den s)), Pds (cxL shp w) (xs.flatMap (cellsOf s)) cells /\ xs.length = m /\ CellsAt w a cells := by
      intro m
      induction m with
      | zero => intro _; exact ⟨[], [], .nil, rfl, CellsAt.nil⟩
      | succ m ih =>
        intro hm
        obtain ⟨cells, xs, h1, h2, h3⟩ := ih (by omega)
        have hg := hget m (by omega)
        have hem : elems[m]? = some (elems[m]'(by omega)) := List.getElem?_eq_getElem (by omega)
        rw [hem, Option.bind_eq_some_iff] at hg
        obtain ⟨cs, hcs, htr⟩ := hg
        have hmem : elems[m]'(by omega) ∈ elems := List.getElem_mem _
        obtain ⟨y, hy⟩ := he H enc w n cs _ htr
          (fun k hk => hw k (by
            simp only [DataW.weights, ht, List.mem_cons, List.mem_append]
            exact .inr (.inl (weightsAll_mem (List.mem_map_of_mem hmem) k hk))))
          (fun q hq => hlt q (by
            simp only [List.mem_append, List.mem_flatMap]
            exact .inr ⟨_, .inl hmem, hq⟩))
        obtain ⟨_, hcl, hat⟩ := World.cells?_some hcs
        refine ⟨cells ++ cs, xs ++ [y], by rw [flat_snoc]; exact h1.append hy, by simp [h2], fun j v hv => ?_⟩
        have hfl : cells.length = m * s.size := by rw [<- h1.length, flatS_len, h2]
        by_cases hj : j < m * s.size
        · rw [List.getElem?_append_left (by omega)] at hv
          exact h3 j v hv
        · rw [List.getElem?_append_right (by omega), hfl] at hv
          have hj2 := get_lt hv
          have := hat (j - m * s.size) (by omega)
          rw [hv, add_add, show m * s.size + (j - m * s.size) = j by omega] at this
          exact this
    obtain ⟨cells, xs, h1, h2, h3⟩ := step len (Nat.le_refl _)
    have hwt : (elems.length + rest.length) * P.bytesOf e <= 140737488351232 := hw _ (by simp [DataW.weights, ht])
    refine ⟨xs, .cons ?_ .nil⟩
    subst h2
    refine .fz (by omega) hc ?_ h1 ?_
    · rw [hB] at hwt
      have : xs.length * s.bytes <= (elems.length + rest.length) * s.bytes := Nat.mul_le_mul_right _ (by omega)
      omega
    · by_cases h0 : xs.length = 0
      · left; exact List.eq_nil_of_length_eq_zero h0
      · right
        refine ⟨a, rfl, cxL_at ?_, h3⟩
        have : MemPlace.cell a.block (a.off + 0) ∈ MemPlace.row a ((elems.length + rest.length) * s.size) := MemPlace.mem_row.2 ⟨0, Nat.mul_pos (by omega) hp, rfl⟩
        exact hlt _ (List.mem_append_left _ this)
theorem TrF.nil {o : Nat} : TrF P shp [] o [] := fun H enc w fuel cs xs hl _ _ _ _ => ⟨[], rfl, by rw [List.drop_eq_nil_of_le (by simp only [szL] at hl; omega)]; exact .nil⟩
theorem TrF.cons {f : Go.Field} {fs : List Go.Field} {o : Nat} {s : Sh} {ss : List Sh} (h : Tr P shp f.type s) (ho : f.offset = o) (hC : P.cellsOf f.type = s.size) (hr : TrF P shp fs (o + s.size) ss) : TrF P shp (f :: fs) o (s :: ss) := fun H enc w fuel cs xs hl hx hf hw hlt => by
  match xs, hx with
  | x :: xs, hx =>
    have hl' : cs.length = o + (s.size + szL ss) := hl
    have h1 := hf 0 f rfl
    rw [ho, hC] at h1
    obtain ⟨y, hy⟩ := h H enc w fuel _ x h1 (fun n hn => hw n (by simp [DataW.weightsEach, hn])) (fun q hq => hlt q (by simp [hq]))
    obtain ⟨z, hz1, hz2⟩ := hr H enc w fuel cs xs (by omega) (by simpa using hx) (fun i f' hi => by simpa using hf (i + 1) f' (by simpa using hi)) (fun n hn => hw n (by simp only [List.map_cons, DataW.weightsEach, List.mem_append]; exact .inr hn)) (fun q hq => hlt q (by simp only [List.flatMap_cons, List.mem_append]; exact .inr hq))
    refine ⟨cellsOf s y ++ z, ⟨y, z, rfl, hz1⟩, ?_⟩
    have := hy.append hz2
    rwa [<- List.drop_drop, List.take_append_drop] at this
theorem Tr.struct {s : Sh} {ss : List Sh} {fs : Array Go.Field} (ht : P.underlying t = some (.struct fs)) (hC : P.cellsOf t = szL ss) (hs : ∀ asx, FitL ss asx -> ∃ y : den s, asx = cellsOf s y) (h : TrF P shp fs.toList 0 ss) : Tr P shp t s := fun H enc w fuel cs x hx hw hlt => by
  obtain ⟨xs, n, _, rfl, hl, hxl, hf⟩ := DataW.trod_struct ht hx
  obtain ⟨asx, h1, h2⟩ := h H enc w n cs xs (by omega) (by simpa using hxl) (fun i f hi => hf i f (by simpa using hi)) (fun k hk => hw k (by simpa [DataW.weights, ht] using hk)) hlt
  obtain ⟨y, rfl⟩ := hs asx h1
  exact ⟨y, by simpa using h2⟩
end
section
variable {H : Type} {enc : TypeId × Value -> H} {P : Program} {shp : TypeId -> Option Sh}
structure Ar (enc : TypeId × Value -> H) (P : Program) (W : World) (t : TypeId) (v : Value) : Prop where
  form : ∃ base, Value.okWide P W .any base t v
  read : ∃ d p fuel, DataW.trod enc P W 0 (fun _ => true) true fuel t v.cells.toList = some (d, p) /\ (∀ n ∈ d.weights P t, n <= 140737488351232) /\ (∀ q ∈ p, q.block < W.heap.size)
variable {W : World} {t : TypeId} {v : Value}
theorem Ar.rp {s : Sh} (h : Ar enc P W t v) (ht : Tr P shp t s) : ∃ y : den s, Pds (cxL shp W) (cellsOf s y) v.cells.toList := by
  obtain ⟨d, p, fuel, h1, h2, h3⟩ := h.read
  exact ht H enc W fuel _ _ h1 h2 h3
theorem rd_one {a : AV} {u : Value} (h : Pds (cxL shp W) [a] [u]) : Rt1 (cxL shp W) [] (.c a) u := by cases h with | cons h1 _ => exact Rd_pd h1
theorem Ar.int (h : Ar enc P W t v) (ht : P.underlying t = some (.int .i64)) : ∃ y : Int, Rt1 (cxL shp W) [] (.c (.int y)) v := by
  obtain ⟨base, hf⟩ := h.form
  obtain ⟨n, rfl⟩ := okWide_int ht hf
  obtain ⟨y, h1⟩ := h.rp (shp := shp) (Tr.int ht)
  exact ⟨y, rd_one (by simpa [Value.cells, cellsOf] using h1)⟩
theorem Ar.u8 (h : Ar enc P W t v) (ht : P.underlying t = some (.int .u8)) : ∃ y : UInt8, Rt1 (cxL shp W) [] (.c (.u8 y)) v := by
  obtain ⟨base, hf⟩ := h.form
  obtain ⟨n, rfl⟩ := okWide_int ht hf
  obtain ⟨y, h1⟩ := h.rp (shp := shp) (Tr.u8 ht)
  exact ⟨y, rd_one (by simpa [Value.cells, cellsOf] using h1)⟩
theorem Ar.bool (h : Ar enc P W t v) (ht : P.underlying t = some .bool) : ∃ y : Bool, Rt1 (cxL shp W) [] (.c (.bool (.atom y))) v := by
  obtain ⟨base, hf⟩ := h.form
  obtain ⟨b, rfl⟩ := okWide_bool ht hf
  exact ⟨b, Pd.bool (e := .atom b)⟩
theorem Ar.struct {s : Sh} {fs : Array Go.Field} (h : Ar enc P W t v) (hu : P.underlying t = some (.struct fs)) (ht : Tr P shp t s) : ∃ x : den s, Rt1 (cxL shp W) [] (.agg (cellsOf s x)) v := by
  obtain ⟨base, hf⟩ := h.form
  obtain ⟨cs, rfl, _⟩ := okWide_struct hu hf
  obtain ⟨y, h1⟩ := h.rp ht
  exact ⟨y, cs.toList, by simp, Rds_pds (by simpa [Value.cells] using h1)⟩
theorem law_sat {f : Nat} {args : List TV1} {pre : List Prop} {e : BE} {vs : List Value} (h : Sat P shp f args [] ⟨pre, [.c (.bool e)], none, false⟩) (he : e.val = true) (hv : All2 (Rt1 (cxL shp W) []) args vs) : Ret P f vs.toArray W fun r W' => r = .bool true /\ Kp [] W W' := by
  refine (h.2 ⟨shp, W.heap.size, fun _ => False⟩ [] W vs rfl ⟨.nil, fun _ _ _ _ _ h => by simp at h, fun _ _ _ h => by simp at h, fun _ h => h.elim, Nat.le_refl _⟩ hv).mono fun v w' ⟨us, h1, h2, h3⟩ => ⟨?_, h2⟩
  cases h3 with | cons h4 h5 =>
  cases h5
  have h4 : Pd _ (.bool e) _ := h4
  cases h4
  rw [h1, he]; rfl
theorem args_ar {base : Nat} {ts : List TypeId} {args : Array Value} {ds : List (DataW H)} {p : List MemPlace} (hf : ∀ (j : Nat) t v, ts[j]? = some t -> args[j]? = some v -> Value.okWide P W .any base t v)
    (h : DataW.TrodAll enc P W 0 (fun _ => true) true ts args.toList ds p) (hw : ∀ n ∈ DataW.weightsEach P ts ds, n <= 140737488351232) (hlt : ∀ q ∈ p, q.block < W.heap.size) :
    args.size = ts.length /\ ∀ (j : Nat) t v, ts[j]? = some t -> args[j]? = some v -> Ar enc P W t v := by
  have key : ∀ (ts : List TypeId) (vs : List Value) (ds : List (DataW H)) (p : List MemPlace), DataW.TrodAll enc P W 0 (fun _ => true) true ts vs ds p -> (∀ n ∈ DataW.weightsEach P ts ds, n <= 140737488351232) -> (∀ q ∈ p, q.block < W.heap.size) ->
      vs.length = ts.length /\ ∀ (j : Nat) t v, ts[j]? = some t -> vs[j]? = some v -> ∃ d p fuel, DataW.trod enc P W 0 (fun _ => true) true fuel t v.cells.toList = some (d, p) /\ (∀ n ∈ d.weights P t, n <= 140737488351232) /\ (∀ q ∈ p, q.block < W.heap.size) := by
    intro ts
    induction ts with
    | nil => intro vs ds p h _ _; obtain ⟨rfl, _, _⟩ := trodAll_nil h; exact ⟨rfl, fun j t v h => by simp at h⟩
    | cons t ts ih =>
      intro vs ds p h hw hlt
      obtain ⟨v, vs, d, ds, p1, p2, rfl, rfl, rfl, h1, h2⟩ := trodAll_cons h
      obtain ⟨k1, k2⟩ := ih vs ds p2 h2 (fun n hn => hw n (by rw [DataW.weightsEach, List.mem_append]; exact .inr hn)) (fun q hq => hlt q (List.mem_append_right _ hq))
      refine ⟨by simp [k1], fun j t' v' ht hv => ?_⟩
      cases j with
      | zero =>
        simp at ht hv
        subst ht; subst hv
        obtain ⟨fuel, hf⟩ := h1
        exact ⟨d, p1, fuel, hf, fun n hn => hw n (by rw [DataW.weightsEach, List.mem_append]; exact .inl hn), fun q hq => hlt q (List.mem_append_left _ hq)⟩
      | succ j => exact k2 j t' v' (by simpa using ht) (by simpa using hv)
  obtain ⟨k1, k2⟩ := key ts args.toList ds p h hw hlt
  exact ⟨by simpa using k1, fun j t v ht hv => ⟨⟨base, hf j t v ht hv⟩, k2 j t v ht (by simpa using hv)⟩⟩
theorem below_all (hl : laidOutB P = true) {W' : World} (hb : Below W.heap.size W W') : ∀ (ts : List TypeId) (vs : List Value) (ds : List (DataW H)) (p : List MemPlace), ts.all (fun t => P.readableRec t && decide (t < P.types.size)) = true -> DataW.TrodAll enc P W 0 (fun _ => true) true ts vs ds p -> (∀ q ∈ p, q.block < W.heap.size) ->
    DataW.TrodAll enc P W' 0 (fun b => decide (b < W.heap.size)) true ts vs ds p := by
  intro ts
  induction ts with
  | nil => intro vs ds p _ h _; obtain ⟨rfl, rfl, rfl⟩ := trodAll_nil h; rfl
  | cons t ts ih =>
    intro vs ds p hr h hlt
    obtain ⟨v, vs, d, ds, p1, p2, rfl, rfl, rfl, h1, h2⟩ := trodAll_cons h
    rw [List.all_cons, Bool.and_eq_true, Bool.and_eq_true, decide_eq_true_eq] at hr
    exact ⟨p1, p2, Below.trod hl hr.1.1 hr.1.2 h1 hb fun q hq => hlt q (List.mem_append_left _ hq), ih vs ds p2 hr.2 h2 fun q hq => hlt q (List.mem_append_right _ hq), rfl⟩
theorem law_post {fn : Func} {s : ChangeSpec} {tb : TypeId} {W' : World} {args : Array Value} {ds : List (DataW H)} {p : List MemPlace} (hl : laidOutB P = true)
    (hrow : fn.params.toList.all (fun t => P.readableRec t && decide (t < P.types.size)) = true) (hr : fn.resultTypes = #[tb]) (hb : P.underlying tb = some .bool) (hv : s.vars = [])
    (hs : s.fn H (ds ++ []) = { results := [.lit (.bool true)], args := ds }) (hW : DataW.Whole enc P fn.params.toList s.vars false W args.toList ds [] p) (hA : DataW.TrodAll enc P W 0 (fun _ => true) true fn.params.toList args.toList ds p) (hlt : ∀ q ∈ p, q.block < W.heap.size) (hk : Kp [] W W') :
    s.post enc P fn false true false false W args (.bool true) W' := by
  refine ⟨ds, [], p, [], p, [], hW, ?_, ?_, ?_, hk.below.frame _, fun h => by cases h⟩
  · rw [hs, hr]
    exact trodAll_mk1 ⟨1, by simp [DataW.trod, Value.cells, hb]⟩
  · rw [hs]
    exact below_all hl hk.below _ _ _ _ hrow hA hlt
  · rw [hs, hv]; rfl
theorem law_lift {C : Checked} {os : Os} {f : FuncId} {fn : Func} {s : ChangeSpec} {conds : List PathCond} {tb : TypeId} (own : ownKnob C.prog.godebug = none) (started : os.Started) (noInit : C.prog.inits.idxOf? f = none) (hfn : C.prog.funcs[f]? = some fn)
    (witness : ∃ (w : World) (tape : Tape) (i : Input), w.os = os /\ (w.forCall tape i).Shaped C.prog /\ i.vars = [] /\ Input.okWide C.prog (w.forCall tape i) .any w.heap.size f i /\
      s.pre6 enc C.prog fn conds false (w.forCall tape i).memory i.args /\ ({} : Assume).holds C.prog (lone (Frame.enter C.prog f i.args .normal) [] (w.forCall tape i)))
    (hl : laidOutB C.prog = true) (hrow : fn.params.toList.all (fun t => C.prog.readableRec t && decide (t < C.prog.types.size)) = true) (hr : fn.resultTypes = #[tb]) (hb : C.prog.underlying tb = some .bool) (hv : s.vars = [])
    (hs : ∀ ds : List (DataW H), ds.length = fn.params.size -> s.fn H ds = { results := [.lit (.bool true)], args := ds })
    (law : ∀ (W : World) (args : Array Value), args.size = fn.params.toList.length -> (∀ (j : Nat) t v, fn.params.toList[j]? = some t -> args[j]? = some v -> Ar enc C.prog W t v) -> Ret C.prog f args W fun r W' => r = .bool true /\ Kp [] W W') :
    ReturnsInHanded {} C os f .any (s.pre6 enc C.prog fn conds false) (s.post enc C.prog fn false true false false) := by
  refine returnsInHanded_of_change_sized own started noInit hfn witness ?_
  intro W base args ds gs before hval hW _ hsz _
  have hW0 := hW
  obtain ⟨p, q, hA, hV, rfl, _, _⟩ := hW
  rw [hv] at hV
  obtain ⟨rfl, rfl⟩ := trodVars_none hV
  simp only [List.append_nil] at hW0 hsz
  have hlt : ∀ x ∈ p, x.block < W.heap.size := fun x hx => by simpa using hW0.lt x hx
  have hwt : ∀ n ∈ DataW.weightsEach C.prog fn.params.toList ds, n <= 140737488351232 := fun n hn => by
    have hmem : n ∈ DataW.weightsEach C.prog (fn.params.toList ++ s.plain.varTypes C.prog) ds := by
      have : ∀ (ts us : List TypeId) (ds : List (DataW H)), n ∈ DataW.weightsEach C.prog ts ds -> n ∈ DataW.weightsEach C.prog (ts ++ us) ds := by
        intro ts
        induction ts with
        | nil => intro us ds h; simp [DataW.weightsEach] at h
        | cons t ts ih =>
          intro us ds h
          cases ds with
          | nil => simp [DataW.weightsEach] at h
          | cons d ds =>
            rw [DataW.weightsEach, List.mem_append] at h
            rw [List.cons_append, DataW.weightsEach, List.mem_append]
            exact h.imp id (ih us ds)
      exact this _ _ _ hn
    exact of_decide_eq_true (List.all_eq_true.1 hsz n hmem)
  obtain ⟨hsize, har⟩ := args_ar (fun j t v ht hv => hval j t v (by simpa using ht) hv) hA hwt hlt
  have hdl : ds.length = fn.params.size := by
    have : ∀ (ts : List TypeId) (vs : List Value) (ds : List (DataW H)) (p : List MemPlace), DataW.TrodAll enc C.prog W 0 (fun _ => true) true ts vs ds p -> ds.length = ts.length := by
      intro ts
      induction ts with
      | nil => intro vs ds p h; obtain ⟨_, rfl, _⟩ := trodAll_nil h; rfl
      | cons t ts ih => intro vs ds p h; obtain ⟨v, vs, d, ds, p1, p2, rfl, rfl, rfl, _, h2⟩ := trodAll_cons h; simp [ih vs ds p2 h2]
    simpa using this _ _ _ _ hA
  refine Calls.mono (law W args hsize har) fun e W' ⟨v, he, hv', hk⟩ => ⟨v, he, ?_⟩
  subst hv'
  exact law_post hl hrow hr hb hv (by rw [List.append_nil]; exact hs ds hdl) hW0 hA hlt hk
end
end Go.Proofs.Ytbgkcbjebflmbaa
namespace Go.Proofs.Ytbgkcbjebflmbaa
open Go.RowKit Go.ChangeShapes Go.WideShapes
theorem own_knob : ownKnob Try.prog.godebug = none := by kernel_rfl
theorem laid_out : laidOutB Try.prog = true := by kernel_rfl
theorem tr46 : Tr Try.prog (shpOf tyT) 46 (.nm .snap) := Tr.struct (ss := [.int, .int, (.lst .int), .bool, .str]) Try.underlying46 (by kernel_rfl) (fun cells h => by
  obtain ⟨y0, l0, rfl, y1, l1, rfl, y2, l2, rfl, y3, l3, rfl, y4, l4, rfl, rfl⟩ := h
  exact ⟨⟨y0, y1, y2, y3, y4⟩, rfl⟩) (TrF.cons (Tr.int Try.underlying3) rfl (by kernel_rfl) (TrF.cons (Tr.int Try.underlying3) rfl (by kernel_rfl) (TrF.cons (Tr.list Try.underlying27 (by kernel_rfl) (by kernel_rfl) (Tr.int Try.underlying3)) rfl (by kernel_rfl) (TrF.cons (Tr.bool Try.underlying4) rfl (by kernel_rfl) (TrF.cons (Tr.str Try.underlying9) rfl (by kernel_rfl) (TrF.nil))))))
theorem tr51 : Tr Try.prog (shpOf tyT) 51 (.nm .opn) := Tr.struct (ss := [.int, .int]) Try.underlying51 (by kernel_rfl) (fun cells h => by
  obtain ⟨y0, l0, rfl, y1, l1, rfl, rfl⟩ := h
  exact ⟨⟨y0, y1⟩, rfl⟩) (TrF.cons (Tr.int Try.underlying3) rfl (by kernel_rfl) (TrF.cons (Tr.int Try.underlying3) rfl (by kernel_rfl) (TrF.nil)))
theorem tr35 : Tr Try.prog (shpOf tyT) 35 (.nm .reply) := Tr.struct (ss := [.int, .int]) Try.underlying35 (by kernel_rfl) (fun cells h => by
  obtain ⟨y0, l0, rfl, y1, l1, rfl, rfl⟩ := h
  exact ⟨⟨y0, y1⟩, rfl⟩) (TrF.cons (Tr.int Try.underlying33) rfl (by kernel_rfl) (TrF.cons (Tr.int Try.underlying3) rfl (by kernel_rfl) (TrF.nil)))
theorem tr42 : Tr Try.prog (shpOf tyT) 42 (.nm .sess) := Tr.struct (ss := [.int, .int, (.nm .reply)]) Try.underlying42 (by kernel_rfl) (fun cells h => by
  obtain ⟨y0, l0, rfl, y1, l1, rfl, y2, l2, rfl, rfl⟩ := h
  exact ⟨⟨y0, y1, y2⟩, rfl⟩) (TrF.cons (Tr.int Try.underlying3) rfl (by kernel_rfl) (TrF.cons (Tr.int Try.underlying3) rfl (by kernel_rfl) (TrF.cons (tr35) rfl (by kernel_rfl) (TrF.nil))))
theorem tr26 : Tr Try.prog (shpOf tyT) 26 (.nm .state) := Tr.struct (ss := [.int, .int, .int, .int, (.lst (.nm .sess)), (.lst (.nm .opn)), (.lst (.nm .snap))]) Try.underlying26 (by kernel_rfl) (fun cells h => by
  obtain ⟨y0, l0, rfl, y1, l1, rfl, y2, l2, rfl, y3, l3, rfl, y4, l4, rfl, y5, l5, rfl, y6, l6, rfl, rfl⟩ := h
  exact ⟨⟨y0, y1, y2, y3, y4, y5, y6⟩, rfl⟩) (TrF.cons (Tr.int Try.underlying3) rfl (by kernel_rfl) (TrF.cons (Tr.int Try.underlying3) rfl (by kernel_rfl) (TrF.cons (Tr.int Try.underlying3) rfl (by kernel_rfl) (TrF.cons (Tr.int Try.underlying3) rfl (by kernel_rfl) (TrF.cons (Tr.list Try.underlying22 (by kernel_rfl) (by kernel_rfl) (tr42)) rfl (by kernel_rfl) (TrF.cons (Tr.list Try.underlying23 (by kernel_rfl) (by kernel_rfl) (tr51)) rfl (by kernel_rfl) (TrF.cons (Tr.list Try.underlying24 (by kernel_rfl) (by kernel_rfl) (tr46)) rfl (by kernel_rfl) (TrF.nil))))))))
set_option maxRecDepth 100000 in
theorem applyHolds_lift (os : Os) (started : os.Started) (H : Type) (enc : TypeId × Value -> H) :
    ReturnsInHanded {} Try.checked os 9 .any (Rows.applyHoldsSpec.pre6 enc Try.prog Try.f9 Rows.applyHoldsRow.domain false) (Rows.applyHoldsSpec.post enc Try.prog Try.f9 false true false false) := by
  refine law_lift (C := Try.checked) own_knob started (by kernel_rfl) Try.func9 (ChangeSpec.witness6 (enc := enc) (C := Try.checked) false ⟨#[], #[.agg #[.int .i64 0, .int .i64 0, .int .i64 0, .int .i64 0, .slice none 0 0, .slice none 0 0, .slice none 0 0], .int .u8 0], []⟩ 8 (by kernel_rfl) (by kernel_rfl) (by kernel_rfl) (by kernel_rfl)) laid_out (by kernel_rfl) (by kernel_rfl) Try.underlying4 rfl (fun ds h => ?_) ?_
  · match ds, h with
    | [d0, d1], _ => rfl
  · intro W args hs ha
    obtain ⟨l⟩ := args
    match l, hs with
    | [v0, v1], _ =>
      obtain ⟨x0, h0⟩ := Ar.struct (shp := shpOf tyT) (ha 0 26 _ rfl rfl) Try.underlying26 tr26
      obtain ⟨x1, h1⟩ := Ar.u8 (shp := shpOf tyT) (ha 1 5 _ rfl rfl) Try.underlying5
      exact law_sat (lawH_s x0 x1) rfl (.cons h0 (.cons h1 .nil))
theorem applyHolds_holds : Rows.ApplyHoldsSaid :=
  OpenClaim.holds_of_wide 9 Try.f9 rfl rfl rfl rfl rfl rfl rfl ⟨rfl, rfl, rfl, rfl, rfl⟩ rfl rfl rfl rfl rfl (by kernel_rfl) Try.func9 (by kernel_rfl)
    (of_decide_eq_true (by kernel_rfl)) (by unfold Func.isWrapper; first | (rw [if_pos (by decide +kernel)]; kernel_rfl) | (rw [if_neg (by decide +kernel)]; exact ⟨rfl, rfl⟩))
    (fun os started H enc _ => applyHolds_lift os started H enc)
end Go.Proofs.Ytbgkcbjebflmbaa
