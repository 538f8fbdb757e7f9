/- What leads to the law, part 4. Conditions: each lemma's own. -/
import Derived.Test.YtbgkcbjebflmbaaKHM3
set_option linter.unusedVariables false
set_option linter.unusedSimpArgs false
namespace Go.Proofs.Ytbgkcbjebflmbaa
open Go.RowKit
theorem zc_len (z : Array Value) (n : Nat) : (Builtin.zeroCells z n).toList.length = n * z.size := by rw [Array.length_toList, size_zeroCells]
theorem lt_of_heap {w : World} {g : Nat} {o : Obj} (h : w.heap[g]? = some o) : g < w.heap.size := (Array.getElem?_eq_some_iff.1 h).1
theorem zE_sess : (Try.prog.info? 42).map (·.size) = some 4 := by kernel_rfl
theorem inf_sess : (Try.prog.info? 42).map (fun i => (i.zero, i.size, i.bytes)) = some (some (.agg #[.int .i64 0, .int .i64 0, .int .i64 0, .int .i64 0]), 4, 32) := by kernel_rfl
set_option maxRecDepth 100000 in
set_option maxHeartbeats 1000000 in
theorem insEnd_sess {w : World} {n c vc : Nat} {A : Option Addr} {B : Option Addr} {φ : Value -> World -> Prop} (happ : ∀ (F : Fr) (x y : Operand) (ty : TypeId), ev F x = some (.slice A n c) -> ev F y = some (.slice B 1 vc) -> ∃ v2 w2, Runs Try.prog 95 F w (.call { callee := .builtin .append, args := #[x, y], argTypes := #[22, 22] }) ty v2 w2 /\ φ v2 w2) :
    Ret Try.prog 31 [.slice A n c, .int .i64 (n : Int), .slice B 1 vc].toArray w φ := by
  refine Ret.enter Try.func31 rfl rfl rfl rfl ?_
  refine WC.seq ?_
  refine WC.region ?_
  refine WO.v (R.assign rfl) rfl ?_
  refine WO.nil ?_
  refine WX.next ?_
  refine WC.seq ?_
  refine WC.region ?_
  refine WO.v (R.move rfl) rfl ?_
  refine WO.v (R.move rfl) rfl ?_
  refine WO.v (R.sliceL rfl rfl Try.underlying22 zE_sess rfl (by omega)) rfl ?_
  refine WO.nil ?_
  refine WX.next ?_
  refine WC.seq ?_
  refine WC.region ?_
  refine WO.v (R.move rfl) rfl ?_
  refine WO.v (R.len rfl Try.underlying22) rfl ?_
  refine WO.v (R.assign rfl) rfl ?_
  refine WO.nil ?_
  refine WX.next ?_
  refine WC.seq ?_
  refine WC.seq ?_
  refine WC.region ?_
  refine WO.v (R.move rfl) rfl ?_
  refine WO.v (R.eql rfl rfl) rfl ?_
  refine WO.nil ?_
  refine WX.next ?_
  refine WC.cond rfl (fun q => absurd (of_decide_eq_true q) (by omega)) (fun _ => ?_)
  refine WC.skip ?_
  refine WX.next ?_
  refine WC.seq ?_
  refine WC.region ?_
  refine WO.v (R.move rfl) rfl ?_
  refine WO.v (R.len rfl Try.underlying22) rfl ?_
  refine WO.v (R.assign rfl) rfl ?_
  refine WO.nil ?_
  refine WX.next ?_
  refine WC.seq ?_
  refine WC.seq ?_
  refine WC.region ?_
  refine WO.v (R.move rfl) rfl ?_
  refine WO.v (R.move rfl) rfl ?_
  refine WO.v (R.eql rfl rfl) rfl ?_
  refine WO.nil ?_
  refine WX.next ?_
  refine WC.cond rfl (fun _ => ?_) (fun q => absurd rfl (of_decide_eq_false q))
  refine WC.seq ?_
  refine WC.region ?_
  refine WO.v (R.move rfl) rfl ?_
  refine WO.v (R.move rfl) rfl ?_
  refine WO.ve (happ _ _ _ _ rfl rfl) rfl fun v2 w2 hv2 => ?_
  refine WO.v (R.assign rfl) rfl ?_
  refine WO.nil ?_
  refine WX.next ?_
  refine WC.ret ?_
  refine WX.thenRet ?_
  refine WX.ret1 rfl rfl ?_
  exact hv2
set_option maxRecDepth 100000 in
set_option maxHeartbeats 1000000 in
theorem insGrow_sess {w W1 : World} {g b n i c vc G : Nat} {ad : Addr} {cur vs ds : List Value} (hi : i < n) (hnc : n <= c) (hc : c < n + 1) (hcm : c <= maxLen) (hG : n + 1 <= G) (hGm : G <= maxLen)
    (happ : ∀ (F : Fr) (x y : Operand) (ty : TypeId), ev F x = some (.slice (some ⟨g, 0 * 4, none⟩) i c) -> ev F y = some (.int .i64 ((n + 1 - i : Nat) : Int)) -> Runs Try.prog 95 F w (.call { callee := .builtin .append, args := #[x, y], argTypes := #[22, 3] }) ty (.slice (some ⟨b, 0, none⟩) (n + 1) G) W1)
    (hrow : W1.heap[b]? = some (.cells cur.toArray 42 (0, 0))) (hcur : (n + 1) * 4 <= cur.length) (hv : CellsAt W1 ad vs) (hvl : vs.length = 4) (hd : CellsAt W1 ⟨g, i * 4, none⟩ ds) (hgb : g ≠ b) (hgl : g < W1.heap.size) (hdl : ds.length = (n - i) * 4)
    (h1v : ∀ u ∈ vs, u.oneCell' = true) (h1d : ∀ u ∈ ds, u.oneCell' = true) :
    Ret Try.prog 31 [.slice (some ⟨g, 0, none⟩) n c, .int .i64 (i : Int), .slice (some ad) 1 vc].toArray w fun v w' => v = .slice (some ⟨b, 0, none⟩) (n + 1) G /\ ∃ w1, Kp [] (W1.setRow b (cur.take (i * 4) ++ vs ++ cur.drop (i * 4 + vs.length)).toArray) w1 /\ w' = w1.setRow b ((cur.take (i * 4) ++ vs ++ cur.drop (i * 4 + vs.length)).take ((i + 1) * 4) ++ ds ++ (cur.take (i * 4) ++ vs ++ cur.drop (i * 4 + vs.length)).drop ((i + 1) * 4 + ds.length)).toArray := by
  have hGm : G <= 9223372036854775807 := hGm
  have hcm : c <= 9223372036854775807 := hcm
  have hn1 : vs.length = Nat.min 1 (n + 1 - i) * 4 := by rw [show Nat.min 1 (n + 1 - i) = 1 from Nat.min_eq_left (by omega), Nat.one_mul]; exact hvl
  have hn2 : ds.length = Nat.min (n - i) (n + 1 - (i + 1)) * 4 := by rw [show Nat.min (n - i) (n + 1 - (i + 1)) = n - i from Nat.min_eq_left (by omega)]; exact hdl
  refine Ret.enter Try.func31 rfl rfl rfl rfl ?_
  refine WC.seq ?_
  refine WC.region ?_
  refine WO.v (R.assign rfl) rfl ?_
  refine WO.nil ?_
  refine WX.next ?_
  refine WC.seq ?_
  refine WC.region ?_
  refine WO.v (R.move rfl) rfl ?_
  refine WO.v (R.move rfl) rfl ?_
  refine WO.v (R.sliceL rfl rfl Try.underlying22 zE_sess rfl (by omega)) rfl ?_
  refine WO.nil ?_
  refine WX.next ?_
  refine WC.seq ?_
  refine WC.region ?_
  refine WO.v (R.move rfl) rfl ?_
  refine WO.v (R.len rfl Try.underlying22) rfl ?_
  refine WO.v (R.assign rfl) rfl ?_
  refine WO.nil ?_
  refine WX.next ?_
  refine WC.seq ?_
  refine WC.seq ?_
  refine WC.region ?_
  refine WO.v (R.move rfl) rfl ?_
  refine WO.v (R.eql rfl rfl) rfl ?_
  refine WO.nil ?_
  refine WX.next ?_
  refine WC.cond rfl (fun q => absurd (of_decide_eq_true q) (by omega)) (fun _ => ?_)
  refine WC.skip ?_
  refine WX.next ?_
  refine WC.seq ?_
  refine WC.region ?_
  refine WO.v (R.move rfl) rfl ?_
  refine WO.v (R.len rfl Try.underlying22) rfl ?_
  refine WO.v (R.assign rfl) rfl ?_
  refine WO.nil ?_
  refine WX.next ?_
  refine WC.seq ?_
  refine WC.seq ?_
  refine WC.region ?_
  refine WO.v (R.move rfl) rfl ?_
  refine WO.v (R.move rfl) rfl ?_
  refine WO.v (R.eql rfl rfl) rfl ?_
  refine WO.nil ?_
  refine WX.next ?_
  refine WC.cond rfl (fun q => absurd (of_decide_eq_true q) (by omega)) (fun _ => ?_)
  refine WC.skip ?_
  refine WX.next ?_
  refine WC.seq ?_
  refine WC.seq ?_
  refine WC.region ?_
  refine WO.v (R.move rfl) rfl ?_
  refine WO.v (R.move rfl) rfl ?_
  refine WO.v (R.addN rfl rfl (by omega)) rfl ?_
  refine WO.v (R.move rfl) rfl ?_
  refine WO.v (R.capS rfl Try.underlying22) rfl ?_
  refine WO.v (R.gtr rfl rfl) rfl ?_
  refine WO.nil ?_
  refine WX.next ?_
  refine WC.cond rfl (fun _ => ?_) (fun q => absurd (by omega) (of_decide_eq_false q))
  refine WC.seq ?_
  refine WC.region ?_
  refine WO.v (R.move rfl) rfl ?_
  refine WO.v (R.move rfl) rfl ?_
  refine WO.v (R.sliceH rfl rfl Try.underlying22 zE_sess (sl_at (i := 0) (by omega)) (by omega)) rfl ?_
  refine WO.v (R.move rfl) rfl ?_
  refine WO.v (R.move rfl) rfl ?_
  refine WO.v (R.addN rfl rfl (by omega)) rfl ?_
  refine WO.v (R.move rfl) rfl ?_
  refine WO.v (R.subN rfl rfl (by omega) (by omega)) rfl ?_
  refine WO.v (happ _ _ _ _ rfl rfl) rfl ?_
  refine WO.v (R.assign rfl) rfl ?_
  refine WO.nil ?_
  refine WX.next ?_
  refine WC.seq ?_
  refine WC.region ?_
  refine WO.v (R.move rfl) rfl ?_
  refine WO.v (R.move rfl) rfl ?_
  refine WO.v (R.sliceL rfl rfl Try.underlying22 zE_sess (sl_at (by omega)) (by omega)) rfl ?_
  refine WO.v (R.move rfl) rfl ?_
  refine WO.v (R.copyN rfl rfl Try.underlying22 zE_sess hrow hn1 hv (by omega) h1v) rfl ?_
  refine WO.nil ?_
  refine WX.next ?_
  refine WC.seq ?_
  refine WC.draw' mix_ok [.ex [] (.slice (some ⟨b, 0, none⟩) (n + 1) G), .ex [] (.int .i64 ((i : Nat) : Int)), .ex [] (.int .i64 ((1 : Nat) : Int)), .ex [1, 2] (.int .i64 ((i + 1 : Nat) : Int)), .ex [0, 3] (.slice (some ⟨b, (i + 1) * 4, none⟩) (n + 1 - (i + 1)) (G - (i + 1))), .ex [] (.slice (some ⟨g, 0, none⟩) n c), .ex [] (.int .i64 ((i : Nat) : Int)), .ex [5, 6] (.slice (some ⟨g, i * 4, none⟩) (n - i) (c - i))] 8 (by kernel_rfl) ⟨fun _ _ _ h _ => h, fun _ _ _ h _ => h, fun _ _ _ h _ => h, fun _ _ _ h _ => h, fun _ _ _ h _ => h, fun _ _ _ h _ => h, fun _ _ _ h _ => h, fun _ _ _ h _ => h, trivial⟩ ⟨?_, ?_, ?_, ?_, ?_, ?_, ?_, ?_, trivial⟩ ?_
  · rintro vs wd kd ⟨-⟩
    refine WO.haves (fr' := [(9, .slice (some ⟨b, 0, none⟩) (n + 1) G)]) ⟨⟨_, rfl, rfl⟩, trivial⟩ ?_
    refine WO.v (R.move rfl) rfl ?_
    refine WO.nil ?_
    exact WX.stepDone rfl rfl (Kp.refl _)
  · rintro vs wd kd ⟨-⟩
    refine WO.haves (fr' := [(1, .int .i64 ((i : Nat) : Int))]) ⟨⟨_, rfl, rfl⟩, trivial⟩ ?_
    refine WO.v (R.move rfl) rfl ?_
    refine WO.nil ?_
    exact WX.stepDone rfl rfl (Kp.refl _)
  · rintro vs wd kd ⟨-⟩
    refine WO.haves (fr' := [(7, .int .i64 ((1 : Nat) : Int))]) ⟨⟨_, rfl, rfl⟩, trivial⟩ ?_
    refine WO.v (R.move rfl) rfl ?_
    refine WO.nil ?_
    exact WX.stepDone rfl rfl (Kp.refl _)
  · rintro vs wd kd ⟨e1, e2, -⟩
    refine WO.haves (fr' := [(47, .int .i64 ((i : Nat) : Int)), (48, .int .i64 ((1 : Nat) : Int))]) ⟨⟨_, rfl, e1⟩, ⟨_, rfl, e2⟩, trivial⟩ ?_
    refine WO.v (R.addN rfl rfl (by omega)) rfl ?_
    refine WO.nil ?_
    exact WX.stepDone rfl rfl (Kp.refl _)
  · rintro vs wd kd ⟨e0, e3, -⟩
    refine WO.haves (fr' := [(46, .slice (some ⟨b, 0, none⟩) (n + 1) G), (49, .int .i64 ((i + 1 : Nat) : Int))]) ⟨⟨_, rfl, e0⟩, ⟨_, rfl, e3⟩, trivial⟩ ?_
    refine WO.v (R.sliceL rfl rfl Try.underlying22 zE_sess (sl_at (by omega)) (by omega)) rfl ?_
    refine WO.nil ?_
    exact WX.stepDone rfl rfl (Kp.refl _)
  · rintro vs wd kd ⟨-⟩
    refine WO.haves (fr' := [(0, .slice (some ⟨g, 0, none⟩) n c)]) ⟨⟨_, rfl, rfl⟩, trivial⟩ ?_
    refine WO.v (R.move rfl) rfl ?_
    refine WO.nil ?_
    exact WX.stepDone rfl rfl (Kp.refl _)
  · rintro vs wd kd ⟨-⟩
    refine WO.haves (fr' := [(1, .int .i64 ((i : Nat) : Int))]) ⟨⟨_, rfl, rfl⟩, trivial⟩ ?_
    refine WO.v (R.move rfl) rfl ?_
    refine WO.nil ?_
    exact WX.stepDone rfl rfl (Kp.refl _)
  · rintro vs wd kd ⟨e5, e6, -⟩
    refine WO.haves (fr' := [(51, .slice (some ⟨g, 0, none⟩) n c), (52, .int .i64 ((i : Nat) : Int))]) ⟨⟨_, rfl, e5⟩, ⟨_, rfl, e6⟩, trivial⟩ ?_
    refine WO.v (R.sliceL rfl rfl Try.underlying22 zE_sess (sl_at (by omega)) (by omega)) rfl ?_
    refine WO.nil ?_
    exact WX.stepDone rfl rfl (Kp.refl _)
  rintro vsx w1 k1 ⟨-, -, -, -, e4, -, -, e7, -⟩
  replace k1 : Kp [] (W1.setRow b (cur.take (i * 4) ++ vs ++ cur.drop (i * 4 + vs.length)).toArray) w1 := k1
  refine WO.haves (fr' := [(50, .slice (some ⟨b, (i + 1) * 4, none⟩) (n + 1 - (i + 1)) (G - (i + 1))), (53, .slice (some ⟨g, i * 4, none⟩) (n - i) (c - i)), (9, .slice (some ⟨b, 0, none⟩) (n + 1) G)]) ⟨⟨_, rfl, e4⟩, ⟨_, rfl, e7⟩, ⟨_, rfl, rfl⟩, trivial⟩ ?_
  have hb2 : w1.heap[b]? = some (.cells (List.toArray (cur.take (i * 4) ++ vs ++ cur.drop (i * 4 + vs.length))) 42 (0, 0)) := by rw [k1.block b (by simpa using lt_of_heap hrow) (by simp)]; exact setRow_heap W1 b _ _ 42 _ hrow
  have hd2 : CellsAt w1 ⟨g, i * 4, none⟩ ds := (hd.kp (Kp.setRow W1 b _) hgl (by simpa using hgb.symm)).kp k1 (by simpa using hgl) (by simp)
  refine WO.v (R.copyN rfl rfl Try.underlying22 zE_sess hb2 hn2 hd2 (by simp only [List.length_append, List.length_take, List.length_drop]; omega) h1d) rfl ?_
  refine WO.nil ?_
  refine WX.next ?_
  refine WC.seq ?_
  refine WC.region ?_
  refine WO.v (R.move rfl) rfl ?_
  refine WO.v (R.assign rfl) rfl ?_
  refine WO.nil ?_
  refine WX.next ?_
  refine WC.ret ?_
  refine WX.thenRet ?_
  refine WX.ret1 rfl rfl ?_
  exact ⟨rfl, w1, k1, rfl⟩
set_option maxRecDepth 100000 in
set_option maxHeartbeats 1000000 in
theorem insShift_sess {w : World} {g n i c vc : Nat} {ad : Addr} {cur vs ds : List Value} {curA : Array Value} {tA : TypeId} {fA : Nat × Nat} (hi : i < n) (hc : n + 1 <= c) (hcm : c <= maxLen)
    (hrow : w.heap[g]? = some (.cells cur.toArray 42 (0, 0))) (hcur : (n + 1) * 4 <= cur.length) (hv : CellsAt w ad vs) (hvb : w.heap[ad.block]? = some (.cells curA tA fA)) (hvb0 : curA.size ≠ 0) (hne : ad.block ≠ g) (hvl : vs.length = 4) (hd : CellsAt w ⟨g, i * 4, none⟩ ds) (hdl : ds.length = (n - i) * 4)
    (h1v : ∀ u ∈ vs, u.oneCell' = true) (h1d : ∀ u ∈ ds, u.oneCell' = true) :
    Ret Try.prog 31 [.slice (some ⟨g, 0, none⟩) n c, .int .i64 (i : Int), .slice (some ad) 1 vc].toArray w fun v w' => v = .slice (some ⟨g, 0, none⟩) (n + 1) c /\ ∃ w1, Kp [] w w1 /\ w' = (w1.setRow g (cur.take ((i + 1) * 4) ++ ds ++ cur.drop ((i + 1) * 4 + ds.length)).toArray).setRow g ((cur.take ((i + 1) * 4) ++ ds ++ cur.drop ((i + 1) * 4 + ds.length)).take (i * 4) ++ vs ++ (cur.take ((i + 1) * 4) ++ ds ++ cur.drop ((i + 1) * 4 + ds.length)).drop (i * 4 + vs.length)).toArray := by
  have hcm : c <= 9223372036854775807 := hcm
  have hn1 : vs.length = Nat.min 1 (n + 1 - i) * 4 := by rw [show Nat.min 1 (n + 1 - i) = 1 from Nat.min_eq_left (by omega), Nat.one_mul]; exact hvl
  have hn2 : ds.length = Nat.min (n + 1 - i) (n + 1 - (i + 1)) * 4 := by rw [show Nat.min (n + 1 - i) (n + 1 - (i + 1)) = n + 1 - (i + 1) from Nat.min_eq_right (by omega), hdl]; congr 1; omega
  refine Ret.enter Try.func31 rfl rfl rfl rfl ?_
  refine WC.seq ?_
  refine WC.region ?_
  refine WO.v (R.assign rfl) rfl ?_
  refine WO.nil ?_
  refine WX.next ?_
  refine WC.seq ?_
  refine WC.region ?_
  refine WO.v (R.move rfl) rfl ?_
  refine WO.v (R.move rfl) rfl ?_
  refine WO.v (R.sliceL rfl rfl Try.underlying22 zE_sess rfl (by omega)) rfl ?_
  refine WO.nil ?_
  refine WX.next ?_
  refine WC.seq ?_
  refine WC.region ?_
  refine WO.v (R.move rfl) rfl ?_
  refine WO.v (R.len rfl Try.underlying22) rfl ?_
  refine WO.v (R.assign rfl) rfl ?_
  refine WO.nil ?_
  refine WX.next ?_
  refine WC.seq ?_
  refine WC.seq ?_
  refine WC.region ?_
  refine WO.v (R.move rfl) rfl ?_
  refine WO.v (R.eql rfl rfl) rfl ?_
  refine WO.nil ?_
  refine WX.next ?_
  refine WC.cond rfl (fun q => absurd (of_decide_eq_true q) (by omega)) (fun _ => ?_)
  refine WC.skip ?_
  refine WX.next ?_
  refine WC.seq ?_
  refine WC.region ?_
  refine WO.v (R.move rfl) rfl ?_
  refine WO.v (R.len rfl Try.underlying22) rfl ?_
  refine WO.v (R.assign rfl) rfl ?_
  refine WO.nil ?_
  refine WX.next ?_
  refine WC.seq ?_
  refine WC.seq ?_
  refine WC.region ?_
  refine WO.v (R.move rfl) rfl ?_
  refine WO.v (R.move rfl) rfl ?_
  refine WO.v (R.eql rfl rfl) rfl ?_
  refine WO.nil ?_
  refine WX.next ?_
  refine WC.cond rfl (fun q => absurd (of_decide_eq_true q) (by omega)) (fun _ => ?_)
  refine WC.skip ?_
  refine WX.next ?_
  refine WC.seq ?_
  refine WC.seq ?_
  refine WC.region ?_
  refine WO.v (R.move rfl) rfl ?_
  refine WO.v (R.move rfl) rfl ?_
  refine WO.v (R.addN rfl rfl (by omega)) rfl ?_
  refine WO.v (R.move rfl) rfl ?_
  refine WO.v (R.capS rfl Try.underlying22) rfl ?_
  refine WO.v (R.gtr rfl rfl) rfl ?_
  refine WO.nil ?_
  refine WX.next ?_
  refine WC.cond rfl (fun q => absurd (of_decide_eq_true q) (by omega)) (fun _ => ?_)
  refine WC.skip ?_
  refine WX.next ?_
  refine WC.seq ?_
  refine WC.region ?_
  refine WO.v (R.move rfl) rfl ?_
  refine WO.v (R.move rfl) rfl ?_
  refine WO.v (R.move rfl) rfl ?_
  refine WO.v (R.addN rfl rfl (by omega)) rfl ?_
  refine WO.v (R.sliceH rfl rfl Try.underlying22 zE_sess (sl_at (i := 0) (by omega)) (by omega)) rfl ?_
  refine WO.v (R.assign rfl) rfl ?_
  refine WO.nil ?_
  refine WX.next ?_
  refine WC.seq ?_
  refine WC.seq ?_
  refine WC.region ?_
  refine WO.v (R.move rfl) rfl ?_
  refine WO.v (R.move rfl) rfl ?_
  refine WO.v (R.move rfl) rfl ?_
  refine WO.v (R.move rfl) rfl ?_
  refine WO.v (R.addN rfl rfl (by omega)) rfl ?_
  refine WO.v (R.sliceL rfl rfl Try.underlying22 zE_sess (sl_at (by omega)) (by omega)) rfl ?_
  refine WO.v (R.ovl (tS := 22) (tR := 4) Try.func68 rfl rfl (by kernel_rfl) (by kernel_rfl) Try.underlying22 zE_sess hne hvb hvb0 hrow rfl rfl) rfl ?_
  refine WO.v (R.not rfl) rfl ?_
  refine WO.nil ?_
  refine WX.next ?_
  refine WC.condT rfl ?_
  refine WC.seq ?_
  refine WC.draw' mix_ok [.ex [] (.slice (some ⟨g, 0, none⟩) (n + 1) c), .ex [] (.int .i64 ((i : Nat) : Int)), .ex [] (.int .i64 ((1 : Nat) : Int)), .ex [1, 2] (.int .i64 ((i + 1 : Nat) : Int)), .ex [0, 3] (.slice (some ⟨g, (i + 1) * 4, none⟩) (n + 1 - (i + 1)) (c - (i + 1))), .ex [] (.slice (some ⟨g, 0, none⟩) (n + 1) c), .ex [] (.int .i64 ((i : Nat) : Int)), .ex [5, 6] (.slice (some ⟨g, i * 4, none⟩) (n + 1 - i) (c - i))] 8 (by kernel_rfl) ⟨fun _ _ _ h _ => h, fun _ _ _ h _ => h, fun _ _ _ h _ => h, fun _ _ _ h _ => h, fun _ _ _ h _ => h, fun _ _ _ h _ => h, fun _ _ _ h _ => h, fun _ _ _ h _ => h, trivial⟩ ⟨?_, ?_, ?_, ?_, ?_, ?_, ?_, ?_, trivial⟩ ?_
  · rintro vs wd kd ⟨-⟩
    refine WO.haves (fr' := [(0, .slice (some ⟨g, 0, none⟩) (n + 1) c)]) ⟨⟨_, rfl, rfl⟩, trivial⟩ ?_
    refine WO.v (R.move rfl) rfl ?_
    refine WO.nil ?_
    exact WX.stepDone rfl rfl (Kp.refl _)
  · rintro vs wd kd ⟨-⟩
    refine WO.haves (fr' := [(1, .int .i64 ((i : Nat) : Int))]) ⟨⟨_, rfl, rfl⟩, trivial⟩ ?_
    refine WO.v (R.move rfl) rfl ?_
    refine WO.nil ?_
    exact WX.stepDone rfl rfl (Kp.refl _)
  · rintro vs wd kd ⟨-⟩
    refine WO.haves (fr' := [(7, .int .i64 ((1 : Nat) : Int))]) ⟨⟨_, rfl, rfl⟩, trivial⟩ ?_
    refine WO.v (R.move rfl) rfl ?_
    refine WO.nil ?_
    exact WX.stepDone rfl rfl (Kp.refl _)
  · rintro vs wd kd ⟨e1, e2, -⟩
    refine WO.haves (fr' := [(70, .int .i64 ((i : Nat) : Int)), (71, .int .i64 ((1 : Nat) : Int))]) ⟨⟨_, rfl, e1⟩, ⟨_, rfl, e2⟩, trivial⟩ ?_
    refine WO.v (R.addN rfl rfl (by omega)) rfl ?_
    refine WO.nil ?_
    exact WX.stepDone rfl rfl (Kp.refl _)
  · rintro vs wd kd ⟨e0, e3, -⟩
    refine WO.haves (fr' := [(69, .slice (some ⟨g, 0, none⟩) (n + 1) c), (72, .int .i64 ((i + 1 : Nat) : Int))]) ⟨⟨_, rfl, e0⟩, ⟨_, rfl, e3⟩, trivial⟩ ?_
    refine WO.v (R.sliceL rfl rfl Try.underlying22 zE_sess (sl_at (by omega)) (by omega)) rfl ?_
    refine WO.nil ?_
    exact WX.stepDone rfl rfl (Kp.refl _)
  · rintro vs wd kd ⟨-⟩
    refine WO.haves (fr' := [(0, .slice (some ⟨g, 0, none⟩) (n + 1) c)]) ⟨⟨_, rfl, rfl⟩, trivial⟩ ?_
    refine WO.v (R.move rfl) rfl ?_
    refine WO.nil ?_
    exact WX.stepDone rfl rfl (Kp.refl _)
  · rintro vs wd kd ⟨-⟩
    refine WO.haves (fr' := [(1, .int .i64 ((i : Nat) : Int))]) ⟨⟨_, rfl, rfl⟩, trivial⟩ ?_
    refine WO.v (R.move rfl) rfl ?_
    refine WO.nil ?_
    exact WX.stepDone rfl rfl (Kp.refl _)
  · rintro vs wd kd ⟨e5, e6, -⟩
    refine WO.haves (fr' := [(74, .slice (some ⟨g, 0, none⟩) (n + 1) c), (75, .int .i64 ((i : Nat) : Int))]) ⟨⟨_, rfl, e5⟩, ⟨_, rfl, e6⟩, trivial⟩ ?_
    refine WO.v (R.sliceL rfl rfl Try.underlying22 zE_sess (sl_at (by omega)) (by omega)) rfl ?_
    refine WO.nil ?_
    exact WX.stepDone rfl rfl (Kp.refl _)
  rintro vsx w1 k1 ⟨-, -, -, -, e4, -, -, e7, -⟩
  replace k1 : Kp [] w w1 := k1
  refine WO.haves (fr' := [(73, .slice (some ⟨g, (i + 1) * 4, none⟩) (n + 1 - (i + 1)) (c - (i + 1))), (76, .slice (some ⟨g, i * 4, none⟩) (n + 1 - i) (c - i)), (0, .slice (some ⟨g, 0, none⟩) (n + 1) c), (1, .int .i64 ((i : Nat) : Int)), (2, .slice (some ad) 1 vc)]) ⟨⟨_, rfl, e4⟩, ⟨_, rfl, e7⟩, ⟨_, rfl, rfl⟩, ⟨_, rfl, rfl⟩, ⟨_, rfl, rfl⟩, trivial⟩ ?_
  have hg1 : w1.heap[g]? = some (.cells (List.toArray cur) 42 (0, 0)) := by rw [k1.block g (lt_of_heap hrow) (by simp)]; exact hrow
  refine WO.v (R.copyN rfl rfl Try.underlying22 zE_sess hg1 hn2 (hd.kp k1 (lt_of_heap hrow) (by simp)) (by omega) h1d) rfl ?_
  refine WO.nil ?_
  refine WX.next ?_
  have hg2 : (w1.setRow g (cur.take ((i + 1) * 4) ++ ds ++ cur.drop ((i + 1) * 4 + ds.length)).toArray).heap[g]? = some (.cells (List.toArray (cur.take ((i + 1) * 4) ++ ds ++ cur.drop ((i + 1) * 4 + ds.length))) 42 (0, 0)) := setRow_heap w1 g _ _ 42 _ hg1
  have hv2 : CellsAt (w1.setRow g (cur.take ((i + 1) * 4) ++ ds ++ cur.drop ((i + 1) * 4 + ds.length)).toArray) ad vs := (hv.kp k1 (lt_of_heap hvb) (by simp)).kp (Kp.setRow w1 g _) (Nat.lt_of_lt_of_le (lt_of_heap hvb) k1.size) (by simpa using fun h => hne h.symm)
  refine WC.seq ?_
  refine WC.region ?_
  refine WO.v (R.move rfl) rfl ?_
  refine WO.v (R.move rfl) rfl ?_
  refine WO.v (R.sliceL rfl rfl Try.underlying22 zE_sess (sl_at (by omega)) (by omega)) rfl ?_
  refine WO.v (R.move rfl) rfl ?_
  refine WO.v (R.copyN rfl rfl Try.underlying22 zE_sess hg2 hn1 hv2 (by simp only [List.length_append, List.length_take, List.length_drop]; omega) h1v) rfl ?_
  refine WO.nil ?_
  refine WX.next ?_
  refine WC.seq ?_
  refine WC.region ?_
  refine WO.v (R.move rfl) rfl ?_
  refine WO.v (R.assign rfl) rfl ?_
  refine WO.nil ?_
  refine WX.next ?_
  refine WC.ret ?_
  refine WX.thenRet ?_
  refine WX.ret1 rfl rfl ?_
  exact ⟨rfl, w1, k1, rfl⟩
theorem insRet_sess {G : Gl} {ρ : List RE} {H : AH} {w : World} (hs : G.shp = shpOf tyT) (hR : Rep G ρ H w) {l m : List (den (.nm .sess))} (hH : getO H 0 = .row 42 (.nm .sess) l) (hl : l.length < 1048576) {i : Nat} (hi : i <= l.length) {v0 : Value} (h0 : Rd (cx G ρ w) ρ (.own 0) v0)
    {ad : Addr} {k : Nat} {cys : List Value} {bAV : AV} (hm : m.length = 1) (hb : Rd (cx G ρ w) ρ bAV (.slice (some ad) 1 k)) (hbv : (bAV.vw H).toL (.nm .sess) = some m) (hv : CellsAt w ad cys) (hvl : cys.length = 4) (h1v : ∀ u ∈ cys, u.oneCell' = true) (hp : Pds (cx G ρ w) (m.flatMap (cellsOf (.nm .sess))) cys)
    (hne : ∀ g c n z, ρ[0]? = some (.row g c n z) -> ad.block ≠ g) {curA : Array Value} {tA : TypeId} {fA : Nat × Nat} (hvb : w.heap[ad.block]? = some (.cells curA tA fA)) (hvb0 : curA.size ≠ 0) :
    Ret Try.prog 31 [v0, .int .i64 (i : Int), .slice (some ad) 1 k].toArray w fun v w' => ∃ ρ', Stp (lvN 0) ρ w ρ' w' /\ Rep G ρ' ((mapO (AV.kill 0) H).set 0 (.row 42 (.nm .sess) (l.take i ++ m ++ l.drop i))) w' /\ Rd (cx G ρ' w') ρ' (.own 0) v := by
  have hT : TabOK Try.prog G.shp tyT := hs ▸ tyT_ok
  obtain ⟨hshp, hlen⟩ := row_facts hR hH
  have hl64 : l.length <= 9223372036854775807 := by omega
  have hin : ((l.length : Nat) : Int) <= 9223372036854775807 := by omega
  by_cases hie : i = l.length
  · subst hie
    have hc : ∃ A c, v0 = .slice A l.length c := by
      rcases h0 with ⟨g, cap, len, z, h1, rfl⟩ | ⟨h1, a, rfl⟩
      · rcases row_read hR hH with ⟨h2, _⟩ | ⟨g', cap', cells, sp, h2, _⟩
        · rw [h1] at h2; cases h2
        · rw [h1] at h2; cases h2; exact ⟨_, _, rfl⟩
      · rcases row_read hR hH with ⟨_, h2⟩ | ⟨g', cap', cells, sp, h2, _⟩
        · subst h2; exact ⟨_, _, rfl⟩
        · rw [h1] at h2; cases h2
    obtain ⟨A, c, rfl⟩ := hc
    refine insEnd_sess fun F x y ty hx hy => ?_
    have happ : appendA tyT (lvN 0) ([] : AFr) H 22 (.own 0) bAV = some ⟨one (.own 0), [], (mapO (AV.kill 0) H).set 0 (.row 42 (.nm .sess) (l ++ m)), [(l.length + m.length) * (Sh.nm NT.sess).bytes <= 140737488355328], []⟩ := by
      unfold appendA
      rw [show findT tyT 22 = some ⟨.sl 42 (some (.nm .sess)), 1, [.em true]⟩ from by kernel_rfl]
      simp only [hbv, hH]
      rfl
    obtain ⟨v, w', h1, ρ', h2, h3, _, h5, _⟩ := append_after (P := Try.prog) (n := 95) (F := []) (ty := ty) (fr := []) (x := .const (.slice A l.length c)) (y := .const (.slice (some ad) 1 k)) hT hR .nil happ (by
      intro p hp
      rw [List.mem_singleton] at hp; subst hp
      show (l.length + m.length) * 32 <= _
      omega) h0 hb rfl rfl
    refine ⟨v, w', R.appConv h1 hx hy, ρ', h2, ?_, h5⟩
    rw [List.take_length, List.drop_length, List.append_nil]
    exact h3
  · have hlt : i < l.length := by omega
    rcases row_read hR hH with ⟨_, h2⟩ | ⟨g, cap, cells, sp, hρ, hg, hpd, hsz, hcap, hmax⟩
    · subst h2; simp at hlt
    obtain ⟨hnb, hil, hiH⟩ := row_re hR hH
    have hv0 : v0 = .slice (some ⟨g, 0, none⟩) l.length cap := by
      rcases h0 with ⟨g', cap', len, z, h1, rfl⟩ | ⟨h1, a, rfl⟩
      · rw [hρ] at h1; cases h1; rfl
      · rw [hρ] at h1; cases h1
    subst hv0
    have hz : (Sh.nm NT.sess).size = 4 := rfl
    have hby : (Sh.nm NT.sess).bytes = 32 := rfl
    have hcl : cells.length = l.length * 4 := by rw [<- hpd.length, flatS_len, hz]
    rw [hz, List.length_append] at hsz
    have hone : ∀ u ∈ cells.drop (i * 4), u.oneCell' = true := fun u hu => hpd.ones u (List.mem_of_mem_drop hu)
    have hd : CellsAt w ⟨g, i * 4, none⟩ (cells.drop (i * 4)) := by
      have := (cells_row hg).shift (i * 4)
      rwa [add_lit, Nat.zero_add] at this
    have hdl : (cells.drop (i * 4)).length = (l.length - i) * 4 := by rw [List.length_drop, hcl]; omega
    have hgl := lt_of_heap hg
    have hzl : (l.take i ++ m ++ l.drop i).length = l.length + 1 := by
      rw [List.length_append, List.length_append, List.length_take, List.length_drop, hm]; omega
    have hnew : ∀ {c : Cx}, (cx G ρ w).le c -> Pds c ((l.take i ++ m ++ l.drop i).flatMap (cellsOf (.nm .sess))) (cells.take (i * 4) ++ cys ++ cells.drop (i * 4)) := fun {c} hle => by
      rw [List.flatMap_append, List.flatMap_append]
      exact (((Pds_flat_take hpd i).append hp).append (Pds_flat_drop hpd i)).carry hle
    have hnl : (cells.take (i * 4) ++ cys ++ cells.drop (i * 4)).length = (l.length + 1) * 4 := by
      rw [List.length_append, List.length_append, List.length_take, List.length_drop, hcl, hvl]; omega
    have hbig : (l.take i ++ m ++ l.drop i).length * (Sh.nm NT.sess).bytes <= 140737488355328 := by rw [hzl, hby]; omega
    -- what is shown of any way
    have fin : ∀ (S : List Nat) (g2 cap2 : Nat) (sp2 : List Value) (w' : World), Kp S w w' -> (∀ b ∈ S, b = g) -> (g2 = g \/ w.heap.size <= g2) -> w'.heap[g2]? = some (.cells (List.toArray (cells.take (i * 4) ++ cys ++ cells.drop (i * 4) ++ sp2)) 42 (0, 0)) -> (l.length + 1) * 4 + sp2.length = cap2 * 4 -> l.length + 1 <= cap2 -> cap2 <= maxLen ->
        ∃ ρ', Stp (lvN 0) ρ w ρ' w' /\ Rep G ρ' ((mapO (AV.kill 0) H).set 0 (.row 42 (.nm .sess) (l.take i ++ m ++ l.drop i))) w' /\ Rd (cx G ρ' w') ρ' (.own 0) (.slice (some ⟨g2, 0, none⟩) (l.length + 1) cap2) := by
      intro S g2 cap2 sp2 w' hk hS hg2 hh hlen2 hle2 hmax2
      obtain ⟨k1, k2, _⟩ := row_step (ro := lvN 0) (s' := .nm .sess) (e' := 42) (zs := l.take i ++ m ++ l.drop i) hR hH ⟨rfl, rfl⟩ hk (fun b hb => ⟨_, hρ, by rw [hS b hb]; rfl⟩) (r' := .row g2 cap2 (l.take i ++ m ++ l.drop i).length (Sh.nm NT.sess).size) (fun b hb => by
        cases hb
        rcases hg2 with rfl | hg2
        · exact .inl ⟨_, hρ, rfl⟩
        · exact .inr ⟨hg2, lt_of_heap hh⟩) (fun hle => ⟨hshp, hbig, .inr ⟨g2, cap2, _, sp2, rfl, hh, hnew hle, by rw [List.length_append, hnl, hz]; exact hlen2, by rw [hzl]; exact hle2, hmax2⟩⟩)
      exact ⟨_, k1, k2, .inl ⟨g2, cap2, _, _, List.getElem?_set_self hil, by rw [hzl]⟩⟩
    have eo : (i + 1) * 4 = i * 4 + 4 := by omega
    by_cases hroom : l.length + 1 <= cap
    · refine (insShift_sess hlt hroom hmax hg (by rw [List.length_append]; omega) hv hvb hvb0 (hne _ _ _ _ hρ) hvl hd hdl h1v hone).mono fun v w' ⟨e1, w1, k1, e2⟩ => ?_
      subst e1; subst e2
      rw [eo, put2a (by omega) hvl]
      have hk : Kp [g] w ((w1.setRow g ((cells ++ sp).take (i * 4 + 4) ++ cells.drop (i * 4) ++ (cells ++ sp).drop (i * 4 + 4 + (cells.drop (i * 4)).length)).toArray).setRow g (cells.take (i * 4) ++ cys ++ cells.drop (i * 4) ++ sp.drop 4).toArray) := ((k1.sub (by simp)).step (Kp.setRow w1 g _) (by simp)).step (Kp.setRow _ g _) (by simp)
      have hg1 : w1.heap[g]? = some (.cells (List.toArray (cells ++ sp)) 42 (0, 0)) := by rw [k1.block g hgl (by simp)]; exact hg
      exact fin [g] g cap (sp.drop 4) _ hk (by simp) (.inl rfl) (setRow_heap _ g _ _ 42 _ (setRow_heap w1 g _ _ 42 _ hg1)) (by rw [List.length_drop]; omega) hroom hmax
    · obtain ⟨ti, hi0, hz0, hz1, hz2⟩ := info_parts inf_sess
      have eik : i + (l.length + 1 - i) = l.length + 1 := by omega
      have hge := grownCap_ge w (l.length + 1) cap 42
      have hgm := grownCap_le_maxLen w (l.length + 1) cap 42 (by simp [maxLen]; omega)
      have hold : (Builtin.firstCells ti.size i (.slice (some ⟨g, 0 * 4, none⟩) i cap)).run Try.prog w.drew = .ok (cells.take (i * 4)).toArray w.drew := by
        have h := run_loadCells_list (P := Try.prog) w.drew ⟨g, 0 * 4, none⟩ (cells.take (i * 4)) (by rw [Nat.zero_mul]; exact (cells_row hg).take _)
        rw [List.length_take, Nat.min_eq_left (by omega)] at h
        rw [hz1]; exact h
      have happ : ∀ (F : Fr) (x y : Operand) (ty : TypeId), ev F x = some (.slice (some ⟨g, 0 * 4, none⟩) i cap) -> ev F y = some (.int .i64 ((l.length + 1 - i : Nat) : Int)) -> Runs Try.prog 95 F w (.call { callee := .builtin .append, args := #[x, y], argTypes := #[22, 3] }) ty (.slice (some ⟨w.heap.size, 0, none⟩) (l.length + 1) (grownCap w (l.length + 1) cap 42)) (w.drew.alloc (.cells (List.toArray (cells.take (i * 4) ++ ((Builtin.zeroCells (Value.agg #[.int .i64 0, .int .i64 0, .int .i64 0, .int .i64 0]).cells (l.length + 1 - i)).toList ++ (Builtin.zeroCells (Value.agg #[.int .i64 0, .int .i64 0, .int .i64 0, .int .i64 0]).cells (grownCap w (l.length + 1) cap 42 - (l.length + 1))).toList))) 42)) := fun F x y ty hx hy => by
        have h := R.appZ (P := Try.prog) (n := 95) (ty := ty) hx hy Try.underlying22 Try.underlying3 hi0 hz0 hold (by omega) (by rw [hz1]; decide) (by omega) (by omega) (by rw [hz2]; omega) (by rw [hz2, eik]; exact growslice_fits (by omega) (by omega))
        rw [eik] at h
        have e : ∀ (a : List Value) (b c : Array Value), a.toArray ++ b ++ c = (a ++ (b.toList ++ c.toList)).toArray := fun a b c => by apply Array.ext'; simp
        rw [e] at h
        exact h
      have hcurl : (cells.take (i * 4) ++ ((Builtin.zeroCells (Value.agg #[.int .i64 0, .int .i64 0, .int .i64 0, .int .i64 0]).cells (l.length + 1 - i)).toList ++ (Builtin.zeroCells (Value.agg #[.int .i64 0, .int .i64 0, .int .i64 0, .int .i64 0]).cells (grownCap w (l.length + 1) cap 42 - (l.length + 1))).toList)).length = grownCap w (l.length + 1) cap 42 * 4 := by
        rw [List.length_append, List.length_append, List.length_take, zc_len, zc_len]
        show min _ _ + ((l.length + 1 - i) * 4 + (grownCap w (l.length + 1) cap 42 - (l.length + 1)) * 4) = _
        omega
      have htk : (cells.take (i * 4) ++ ((Builtin.zeroCells (Value.agg #[.int .i64 0, .int .i64 0, .int .i64 0, .int .i64 0]).cells (l.length + 1 - i)).toList ++ (Builtin.zeroCells (Value.agg #[.int .i64 0, .int .i64 0, .int .i64 0, .int .i64 0]).cells (grownCap w (l.length + 1) cap 42 - (l.length + 1))).toList)).take (i * 4) = cells.take (i * 4) := List.take_left' (by rw [List.length_take]; omega)
      generalize grownCap w (l.length + 1) cap 42 = GC at *
      generalize cells.take (i * 4) ++ ((Builtin.zeroCells (Value.agg #[.int .i64 0, .int .i64 0, .int .i64 0, .int .i64 0]).cells (l.length + 1 - i)).toList ++ (Builtin.zeroCells (Value.agg #[.int .i64 0, .int .i64 0, .int .i64 0, .int .i64 0]).cells (GC - (l.length + 1))).toList) = cur at *
      have hK1 : Kp [] w (w.drew.alloc (.cells (List.toArray cur) 42)) := ((Kp.refl w).drew).step (Kp.alloc w.drew _) (by simp)
      have hrow : (w.drew.alloc (.cells (List.toArray cur) 42)).heap[w.heap.size]? = some (.cells (List.toArray cur) 42 (0, 0)) := heap_alloc_new w.drew _
      generalize w.drew.alloc (.cells (List.toArray cur) 42) = W1 at *
      refine (insGrow_sess hlt hcap (by omega) hmax hge hgm happ hrow (by omega) (hv.kp hK1 (lt_of_heap hvb) (by simp)) hvl (hd.kp hK1 hgl (by simp)) (by omega) (Nat.lt_of_lt_of_le hgl hK1.size) hdl h1v hone).mono fun v w' ⟨e1, w1, k1, e2⟩ => ?_
      subst e1; subst e2
      rw [eo, put2b (cells := cells) (by omega) hvl htk]
      have hs1 : ∀ b ∈ [w.heap.size], b ∈ ([] : List Nat) \/ w.heap.size <= b := fun b hb => .inr (by rw [List.mem_singleton] at hb; omega)
      have hk : Kp [] w (w1.setRow w.heap.size (cells.take (i * 4) ++ cys ++ cells.drop (i * 4) ++ cur.drop (i * 4 + 4 + (cells.drop (i * 4)).length)).toArray) := ((hK1.step (Kp.setRow W1 w.heap.size _) hs1).step k1 (by simp)).step (Kp.setRow w1 w.heap.size _) hs1
      have hg1 := (k1.block w.heap.size (by simpa using lt_of_heap hrow) (by simp)).trans (setRow_heap W1 w.heap.size _ (cur.take (i * 4) ++ cys ++ cur.drop (i * 4 + cys.length)).toArray 42 _ hrow)
      exact fin [] w.heap.size GC _ _ hk (by simp) (.inr (Nat.le_refl _)) (setRow_heap w1 w.heap.size _ _ 42 _ hg1) (by rw [List.length_drop]; omega) hge hgm
theorem ins_sess_satL (i : Int) (l m : List (den (.nm .sess))) (h : 0 <= i /\ i <= (l.length : Int)) (hl : l.length < 1048576) (hm : m.length = 1) : Sat Try.prog (shpOf tyT) 31 [.c (.own 0), .c (.int i), .c (.fz (.nm .sess) m)] [.row 42 (.nm .sess) l] ⟨[0 <= i /\ i <= (l.length : Int), l.length < 1048576, m.length = 1], [.c (.own 0)], some [.row 42 (.nm .sess) (l.take i.toNat ++ m ++ l.drop i.toNat)], false⟩ := by
  refine ⟨⟨_, Try.func31, by decide, rfl⟩, fun G ρ w vs hs hR hvs => ?_⟩
  obtain ⟨i, rfl⟩ := Int.eq_ofNat_of_zero_le h.1
  cases hvs with | cons h0 hvs =>
  cases hvs with | cons h1 hvs =>
  cases hvs with | cons h2 hvs =>
  cases hvs
  have h1 : Pd (cx G ρ w) (.int (i : Int)) _ := h1
  cases h1
  have h0 : Rd (cx G ρ w) ρ (.own 0) _ := h0
  have h2 : Rd (cx G ρ w) ρ (.fz (.nm .sess) m) _ := h2
  have hH : getO [AO.row 42 (.nm .sess) l] 0 = .row 42 (.nm .sess) l := rfl
  have hbv : (AV.vw [AO.row 42 (.nm .sess) l] (.fz (.nm .sess) m)).toL (.nm .sess) = some m := by simp [AV.vw, AV.toL, getO]
  obtain ⟨A, k, cys, rfl, s1, s2, s3, s4⟩ := src_read hR hbv h2
  rw [hm] at h2 s1 s3
  rw [hm]
  obtain ⟨ad, rfl, s5⟩ : ∃ ad, A = some ad /\ CellsAt w ad cys := s3.resolve_left (by decide)
  have hz : (Sh.nm NT.sess).size = 4 := rfl
  rw [hz] at s1
  obtain ⟨u, hu⟩ : ∃ u, cys[0]? = some u := ⟨_, List.getElem?_eq_getElem (by omega)⟩
  obtain ⟨cur, t, f, hc, hc0⟩ := cell_heap (s5 0 u hu)
  have hne : ∀ g c n z, ρ[0]? = some (.row g c n z) -> ad.block ≠ g := fun g c n z hg e => by
    have h2 : Pd (cx G ρ w) (.fz (.nm .sess) m) (.slice (some ad) 1 k) := h2
    have h3 := fz_at2 h2 (by rw [hm]; decide)
    exact h3.1.2.1 ⟨0, _, hg, by rw [e]; rfl⟩
  rw [add_block] at hc
  refine (insRet_sess hs hR hH hl (by omega) h0 hm h2 hbv s5 s1 s2 s4 hne hc hc0).mono fun v w' ⟨ρ', k1, k2, k3⟩ => ?_
  exact ⟨[v], rfl, ρ', k2, k1.ext, k1.bx, .cons k3 .nil, fun hb => by cases hb⟩
theorem ins_sess_sat (i : Int) (l m : List (den (.nm .sess))) (h : 0 <= i /\ i <= (l.length : Int)) (hl : l.length < 1048576) (hm : m.length = 1) : Sat Try.prog (shpOf tyT) 31 [.c (.own 0), .c (.int i), .c (.own 1)] [.row 42 (.nm .sess) l, .row 42 (.nm .sess) m] ⟨[0 <= i /\ i <= (l.length : Int), l.length < 1048576, m.length = 1], [.c (.own 0)], some [.row 42 (.nm .sess) (l.take i.toNat ++ m ++ l.drop i.toNat), .row 42 (.nm .sess) m], false⟩ := by
  refine ⟨⟨_, Try.func31, by decide, rfl⟩, fun G ρ w vs hs hR hvs => ?_⟩
  obtain ⟨i, rfl⟩ := Int.eq_ofNat_of_zero_le h.1
  cases hvs with | cons h0 hvs =>
  cases hvs with | cons h1 hvs =>
  cases hvs with | cons h2 hvs =>
  cases hvs
  have h1 : Pd (cx G ρ w) (.int (i : Int)) _ := h1
  cases h1
  have h0 : Rd (cx G ρ w) ρ (.own 0) _ := h0
  have h2 : Rd (cx G ρ w) ρ (.own 1) _ := h2
  have hH : getO [AO.row 42 (.nm .sess) l, .row 42 (.nm .sess) m] 0 = .row 42 (.nm .sess) l := rfl
  have hbv : (AV.vw [AO.row 42 (.nm .sess) l, .row 42 (.nm .sess) m] (.own 1)).toL (.nm .sess) = some m := by simp [AV.vw, AV.toL, getO]
  obtain ⟨A, k, cys, rfl, s1, s2, s3, s4⟩ := src_read hR hbv h2
  rw [hm] at h2 s1 s3
  rw [hm]
  obtain ⟨ad, rfl, s5⟩ : ∃ ad, A = some ad /\ CellsAt w ad cys := s3.resolve_left (by decide)
  have hz : (Sh.nm NT.sess).size = 4 := rfl
  rw [hz] at s1
  obtain ⟨u, hu⟩ : ∃ u, cys[0]? = some u := ⟨_, List.getElem?_eq_getElem (by omega)⟩
  obtain ⟨cur, t, f, hc, hc0⟩ := cell_heap (s5 0 u hu)
  have hne : ∀ g c n z, ρ[0]? = some (.row g c n z) -> ad.block ≠ g := fun g c n z hg e => by
    rcases h2 with ⟨g', cap', len, z', h3, h4⟩ | ⟨h3, a, h4⟩
    · cases h4
      have := hR.inj 0 1 _ _ g hg h3 rfl (by rw [<- e]; rfl)
      omega
    · cases h4
  rw [add_block] at hc
  refine (insRet_sess hs hR hH hl (by omega) h0 hm h2 hbv s5 s1 s2 s4 hne hc hc0).mono fun v w' ⟨ρ', k1, k2, k3⟩ => ?_
  exact ⟨[v], rfl, ρ', k2, k1.ext, k1.bx, .cons k3 .nil, fun hb => by cases hb⟩
theorem zE_opn : (Try.prog.info? 51).map (·.size) = some 2 := by kernel_rfl
theorem inf_opn : (Try.prog.info? 51).map (fun i => (i.zero, i.size, i.bytes)) = some (some (.agg #[.int .i64 0, .int .i64 0]), 2, 16) := by kernel_rfl
set_option maxRecDepth 100000 in
set_option maxHeartbeats 1000000 in
theorem insEnd_opn {w : World} {n c vc : Nat} {A : Option Addr} {B : Option Addr} {φ : Value -> World -> Prop} (happ : ∀ (F : Fr) (x y : Operand) (ty : TypeId), ev F x = some (.slice A n c) -> ev F y = some (.slice B 1 vc) -> ∃ v2 w2, Runs Try.prog 95 F w (.call { callee := .builtin .append, args := #[x, y], argTypes := #[23, 23] }) ty v2 w2 /\ φ v2 w2) :
    Ret Try.prog 74 [.slice A n c, .int .i64 (n : Int), .slice B 1 vc].toArray w φ := by
  refine Ret.enter Try.func74 rfl rfl rfl rfl ?_
  refine WC.seq ?_
  refine WC.region ?_
  refine WO.v (R.assign rfl) rfl ?_
  refine WO.nil ?_
  refine WX.next ?_
  refine WC.seq ?_
  refine WC.region ?_
  refine WO.v (R.move rfl) rfl ?_
  refine WO.v (R.move rfl) rfl ?_
  refine WO.v (R.sliceL rfl rfl Try.underlying23 zE_opn rfl (by omega)) rfl ?_
  refine WO.nil ?_
  refine WX.next ?_
  refine WC.seq ?_
  refine WC.region ?_
  refine WO.v (R.move rfl) rfl ?_
  refine WO.v (R.len rfl Try.underlying23) rfl ?_
  refine WO.v (R.assign rfl) rfl ?_
  refine WO.nil ?_
  refine WX.next ?_
  refine WC.seq ?_
  refine WC.seq ?_
  refine WC.region ?_
  refine WO.v (R.move rfl) rfl ?_
  refine WO.v (R.eql rfl rfl) rfl ?_
  refine WO.nil ?_
  refine WX.next ?_
  refine WC.cond rfl (fun q => absurd (of_decide_eq_true q) (by omega)) (fun _ => ?_)
  refine WC.skip ?_
  refine WX.next ?_
  refine WC.seq ?_
  refine WC.region ?_
  refine WO.v (R.move rfl) rfl ?_
  refine WO.v (R.len rfl Try.underlying23) rfl ?_
  refine WO.v (R.assign rfl) rfl ?_
  refine WO.nil ?_
  refine WX.next ?_
  refine WC.seq ?_
  refine WC.seq ?_
  refine WC.region ?_
  refine WO.v (R.move rfl) rfl ?_
  refine WO.v (R.move rfl) rfl ?_
  refine WO.v (R.eql rfl rfl) rfl ?_
  refine WO.nil ?_
  refine WX.next ?_
  refine WC.cond rfl (fun _ => ?_) (fun q => absurd rfl (of_decide_eq_false q))
  refine WC.seq ?_
  refine WC.region ?_
  refine WO.v (R.move rfl) rfl ?_
  refine WO.v (R.move rfl) rfl ?_
  refine WO.ve (happ _ _ _ _ rfl rfl) rfl fun v2 w2 hv2 => ?_
  refine WO.v (R.assign rfl) rfl ?_
  refine WO.nil ?_
  refine WX.next ?_
  refine WC.ret ?_
  refine WX.thenRet ?_
  refine WX.ret1 rfl rfl ?_
  exact hv2
set_option maxRecDepth 100000 in
set_option maxHeartbeats 1000000 in
theorem insGrow_opn {w W1 : World} {g b n i c vc G : Nat} {ad : Addr} {cur vs ds : List Value} (hi : i < n) (hnc : n <= c) (hc : c < n + 1) (hcm : c <= maxLen) (hG : n + 1 <= G) (hGm : G <= maxLen)
    (happ : ∀ (F : Fr) (x y : Operand) (ty : TypeId), ev F x = some (.slice (some ⟨g, 0 * 2, none⟩) i c) -> ev F y = some (.int .i64 ((n + 1 - i : Nat) : Int)) -> Runs Try.prog 95 F w (.call { callee := .builtin .append, args := #[x, y], argTypes := #[23, 3] }) ty (.slice (some ⟨b, 0, none⟩) (n + 1) G) W1)
    (hrow : W1.heap[b]? = some (.cells cur.toArray 51 (0, 0))) (hcur : (n + 1) * 2 <= cur.length) (hv : CellsAt W1 ad vs) (hvl : vs.length = 2) (hd : CellsAt W1 ⟨g, i * 2, none⟩ ds) (hgb : g ≠ b) (hgl : g < W1.heap.size) (hdl : ds.length = (n - i) * 2)
    (h1v : ∀ u ∈ vs, u.oneCell' = true) (h1d : ∀ u ∈ ds, u.oneCell' = true) :
    Ret Try.prog 74 [.slice (some ⟨g, 0, none⟩) n c, .int .i64 (i : Int), .slice (some ad) 1 vc].toArray w fun v w' => v = .slice (some ⟨b, 0, none⟩) (n + 1) G /\ ∃ w1, Kp [] (W1.setRow b (cur.take (i * 2) ++ vs ++ cur.drop (i * 2 + vs.length)).toArray) w1 /\ w' = w1.setRow b ((cur.take (i * 2) ++ vs ++ cur.drop (i * 2 + vs.length)).take ((i + 1) * 2) ++ ds ++ (cur.take (i * 2) ++ vs ++ cur.drop (i * 2 + vs.length)).drop ((i + 1) * 2 + ds.length)).toArray := by
  have hGm : G <= 9223372036854775807 := hGm
  have hcm : c <= 9223372036854775807 := hcm
  have hn1 : vs.length = Nat.min 1 (n + 1 - i) * 2 := by rw [show Nat.min 1 (n + 1 - i) = 1 from Nat.min_eq_left (by omega), Nat.one_mul]; exact hvl
  have hn2 : ds.length = Nat.min (n - i) (n + 1 - (i + 1)) * 2 := by rw [show Nat.min (n - i) (n + 1 - (i + 1)) = n - i from Nat.min_eq_left (by omega)]; exact hdl
  refine Ret.enter Try.func74 rfl rfl rfl rfl ?_
  refine WC.seq ?_
  refine WC.region ?_
  refine WO.v (R.assign rfl) rfl ?_
  refine WO.nil ?_
  refine WX.next ?_
  refine WC.seq ?_
  refine WC.region ?_
  refine WO.v (R.move rfl) rfl ?_
  refine WO.v (R.move rfl) rfl ?_
  refine WO.v (R.sliceL rfl rfl Try.underlying23 zE_opn rfl (by omega)) rfl ?_
  refine WO.nil ?_
  refine WX.next ?_
  refine WC.seq ?_
  refine WC.region ?_
  refine WO.v (R.move rfl) rfl ?_
  refine WO.v (R.len rfl Try.underlying23) rfl ?_
  refine WO.v (R.assign rfl) rfl ?_
  refine WO.nil ?_
  refine WX.next ?_
  refine WC.seq ?_
  refine WC.seq ?_
  refine WC.region ?_
  refine WO.v (R.move rfl) rfl ?_
  refine WO.v (R.eql rfl rfl) rfl ?_
  refine WO.nil ?_
  refine WX.next ?_
  refine WC.cond rfl (fun q => absurd (of_decide_eq_true q) (by omega)) (fun _ => ?_)
  refine WC.skip ?_
  refine WX.next ?_
  refine WC.seq ?_
  refine WC.region ?_
  refine WO.v (R.move rfl) rfl ?_
  refine WO.v (R.len rfl Try.underlying23) rfl ?_
  refine WO.v (R.assign rfl) rfl ?_
  refine WO.nil ?_
  refine WX.next ?_
  refine WC.seq ?_
  refine WC.seq ?_
  refine WC.region ?_
  refine WO.v (R.move rfl) rfl ?_
  refine WO.v (R.move rfl) rfl ?_
  refine WO.v (R.eql rfl rfl) rfl ?_
  refine WO.nil ?_
  refine WX.next ?_
  refine WC.cond rfl (fun q => absurd (of_decide_eq_true q) (by omega)) (fun _ => ?_)
  refine WC.skip ?_
  refine WX.next ?_
  refine WC.seq ?_
  refine WC.seq ?_
  refine WC.region ?_
  refine WO.v (R.move rfl) rfl ?_
  refine WO.v (R.move rfl) rfl ?_
  refine WO.v (R.addN rfl rfl (by omega)) rfl ?_
  refine WO.v (R.move rfl) rfl ?_
  refine WO.v (R.capS rfl Try.underlying23) rfl ?_
  refine WO.v (R.gtr rfl rfl) rfl ?_
  refine WO.nil ?_
  refine WX.next ?_
  refine WC.cond rfl (fun _ => ?_) (fun q => absurd (by omega) (of_decide_eq_false q))
  refine WC.seq ?_
  refine WC.region ?_
  refine WO.v (R.move rfl) rfl ?_
  refine WO.v (R.move rfl) rfl ?_
  refine WO.v (R.sliceH rfl rfl Try.underlying23 zE_opn (sl_at (i := 0) (by omega)) (by omega)) rfl ?_
  refine WO.v (R.move rfl) rfl ?_
  refine WO.v (R.move rfl) rfl ?_
  refine WO.v (R.addN rfl rfl (by omega)) rfl ?_
  refine WO.v (R.move rfl) rfl ?_
  refine WO.v (R.subN rfl rfl (by omega) (by omega)) rfl ?_
  refine WO.v (happ _ _ _ _ rfl rfl) rfl ?_
  refine WO.v (R.assign rfl) rfl ?_
  refine WO.nil ?_
  refine WX.next ?_
  refine WC.seq ?_
  refine WC.region ?_
  refine WO.v (R.move rfl) rfl ?_
  refine WO.v (R.move rfl) rfl ?_
  refine WO.v (R.sliceL rfl rfl Try.underlying23 zE_opn (sl_at (by omega)) (by omega)) rfl ?_
  refine WO.v (R.move rfl) rfl ?_
  refine WO.v (R.copyN rfl rfl Try.underlying23 zE_opn hrow hn1 hv (by omega) h1v) rfl ?_
  refine WO.nil ?_
  refine WX.next ?_
  refine WC.seq ?_
  refine WC.draw' mix_ok [.ex [] (.slice (some ⟨b, 0, none⟩) (n + 1) G), .ex [] (.int .i64 ((i : Nat) : Int)), .ex [] (.int .i64 ((1 : Nat) : Int)), .ex [1, 2] (.int .i64 ((i + 1 : Nat) : Int)), .ex [0, 3] (.slice (some ⟨b, (i + 1) * 2, none⟩) (n + 1 - (i + 1)) (G - (i + 1))), .ex [] (.slice (some ⟨g, 0, none⟩) n c), .ex [] (.int .i64 ((i : Nat) : Int)), .ex [5, 6] (.slice (some ⟨g, i * 2, none⟩) (n - i) (c - i))] 8 (by kernel_rfl) ⟨fun _ _ _ h _ => h, fun _ _ _ h _ => h, fun _ _ _ h _ => h, fun _ _ _ h _ => h, fun _ _ _ h _ => h, fun _ _ _ h _ => h, fun _ _ _ h _ => h, fun _ _ _ h _ => h, trivial⟩ ⟨?_, ?_, ?_, ?_, ?_, ?_, ?_, ?_, trivial⟩ ?_
  · rintro vs wd kd ⟨-⟩
    refine WO.haves (fr' := [(9, .slice (some ⟨b, 0, none⟩) (n + 1) G)]) ⟨⟨_, rfl, rfl⟩, trivial⟩ ?_
    refine WO.v (R.move rfl) rfl ?_
    refine WO.nil ?_
    exact WX.stepDone rfl rfl (Kp.refl _)
  · rintro vs wd kd ⟨-⟩
    refine WO.haves (fr' := [(1, .int .i64 ((i : Nat) : Int))]) ⟨⟨_, rfl, rfl⟩, trivial⟩ ?_
    refine WO.v (R.move rfl) rfl ?_
    refine WO.nil ?_
    exact WX.stepDone rfl rfl (Kp.refl _)
  · rintro vs wd kd ⟨-⟩
    refine WO.haves (fr' := [(7, .int .i64 ((1 : Nat) : Int))]) ⟨⟨_, rfl, rfl⟩, trivial⟩ ?_
    refine WO.v (R.move rfl) rfl ?_
    refine WO.nil ?_
    exact WX.stepDone rfl rfl (Kp.refl _)
  · rintro vs wd kd ⟨e1, e2, -⟩
    refine WO.haves (fr' := [(47, .int .i64 ((i : Nat) : Int)), (48, .int .i64 ((1 : Nat) : Int))]) ⟨⟨_, rfl, e1⟩, ⟨_, rfl, e2⟩, trivial⟩ ?_
    refine WO.v (R.addN rfl rfl (by omega)) rfl ?_
    refine WO.nil ?_
    exact WX.stepDone rfl rfl (Kp.refl _)
  · rintro vs wd kd ⟨e0, e3, -⟩
    refine WO.haves (fr' := [(46, .slice (some ⟨b, 0, none⟩) (n + 1) G), (49, .int .i64 ((i + 1 : Nat) : Int))]) ⟨⟨_, rfl, e0⟩, ⟨_, rfl, e3⟩, trivial⟩ ?_
    refine WO.v (R.sliceL rfl rfl Try.underlying23 zE_opn (sl_at (by omega)) (by omega)) rfl ?_
    refine WO.nil ?_
    exact WX.stepDone rfl rfl (Kp.refl _)
  · rintro vs wd kd ⟨-⟩
    refine WO.haves (fr' := [(0, .slice (some ⟨g, 0, none⟩) n c)]) ⟨⟨_, rfl, rfl⟩, trivial⟩ ?_
    refine WO.v (R.move rfl) rfl ?_
    refine WO.nil ?_
    exact WX.stepDone rfl rfl (Kp.refl _)
  · rintro vs wd kd ⟨-⟩
    refine WO.haves (fr' := [(1, .int .i64 ((i : Nat) : Int))]) ⟨⟨_, rfl, rfl⟩, trivial⟩ ?_
    refine WO.v (R.move rfl) rfl ?_
    refine WO.nil ?_
    exact WX.stepDone rfl rfl (Kp.refl _)
  · rintro vs wd kd ⟨e5, e6, -⟩
    refine WO.haves (fr' := [(51, .slice (some ⟨g, 0, none⟩) n c), (52, .int .i64 ((i : Nat) : Int))]) ⟨⟨_, rfl, e5⟩, ⟨_, rfl, e6⟩, trivial⟩ ?_
    refine WO.v (R.sliceL rfl rfl Try.underlying23 zE_opn (sl_at (by omega)) (by omega)) rfl ?_
    refine WO.nil ?_
    exact WX.stepDone rfl rfl (Kp.refl _)
  rintro vsx w1 k1 ⟨-, -, -, -, e4, -, -, e7, -⟩
  replace k1 : Kp [] (W1.setRow b (cur.take (i * 2) ++ vs ++ cur.drop (i * 2 + vs.length)).toArray) w1 := k1
  refine WO.haves (fr' := [(50, .slice (some ⟨b, (i + 1) * 2, none⟩) (n + 1 - (i + 1)) (G - (i + 1))), (53, .slice (some ⟨g, i * 2, none⟩) (n - i) (c - i)), (9, .slice (some ⟨b, 0, none⟩) (n + 1) G)]) ⟨⟨_, rfl, e4⟩, ⟨_, rfl, e7⟩, ⟨_, rfl, rfl⟩, trivial⟩ ?_
  have hb2 : w1.heap[b]? = some (.cells (List.toArray (cur.take (i * 2) ++ vs ++ cur.drop (i * 2 + vs.length))) 51 (0, 0)) := by rw [k1.block b (by simpa using lt_of_heap hrow) (by simp)]; exact setRow_heap W1 b _ _ 51 _ hrow
  have hd2 : CellsAt w1 ⟨g, i * 2, none⟩ ds := (hd.kp (Kp.setRow W1 b _) hgl (by simpa using hgb.symm)).kp k1 (by simpa using hgl) (by simp)
  refine WO.v (R.copyN rfl rfl Try.underlying23 zE_opn hb2 hn2 hd2 (by simp only [List.length_append, List.length_take, List.length_drop]; omega) h1d) rfl ?_
  refine WO.nil ?_
  refine WX.next ?_
  refine WC.seq ?_
  refine WC.region ?_
  refine WO.v (R.move rfl) rfl ?_
  refine WO.v (R.assign rfl) rfl ?_
  refine WO.nil ?_
  refine WX.next ?_
  refine WC.ret ?_
  refine WX.thenRet ?_
  refine WX.ret1 rfl rfl ?_
  exact ⟨rfl, w1, k1, rfl⟩
set_option maxRecDepth 100000 in
set_option maxHeartbeats 1000000 in
theorem insShift_opn {w : World} {g n i c vc : Nat} {ad : Addr} {cur vs ds : List Value} {curA : Array Value} {tA : TypeId} {fA : Nat × Nat} (hi : i < n) (hc : n + 1 <= c) (hcm : c <= maxLen)
    (hrow : w.heap[g]? = some (.cells cur.toArray 51 (0, 0))) (hcur : (n + 1) * 2 <= cur.length) (hv : CellsAt w ad vs) (hvb : w.heap[ad.block]? = some (.cells curA tA fA)) (hvb0 : curA.size ≠ 0) (hne : ad.block ≠ g) (hvl : vs.length = 2) (hd : CellsAt w ⟨g, i * 2, none⟩ ds) (hdl : ds.length = (n - i) * 2)
    (h1v : ∀ u ∈ vs, u.oneCell' = true) (h1d : ∀ u ∈ ds, u.oneCell' = true) :
    Ret Try.prog 74 [.slice (some ⟨g, 0, none⟩) n c, .int .i64 (i : Int), .slice (some ad) 1 vc].toArray w fun v w' => v = .slice (some ⟨g, 0, none⟩) (n + 1) c /\ ∃ w1, Kp [] w w1 /\ w' = (w1.setRow g (cur.take ((i + 1) * 2) ++ ds ++ cur.drop ((i + 1) * 2 + ds.length)).toArray).setRow g ((cur.take ((i + 1) * 2) ++ ds ++ cur.drop ((i + 1) * 2 + ds.length)).take (i * 2) ++ vs ++ (cur.take ((i + 1) * 2) ++ ds ++ cur.drop ((i + 1) * 2 + ds.length)).drop (i * 2 + vs.length)).toArray := by
  have hcm : c <= 9223372036854775807 := hcm
  have hn1 : vs.length = Nat.min 1 (n + 1 - i) * 2 := by rw [show Nat.min 1 (n + 1 - i) = 1 from Nat.min_eq_left (by omega), Nat.one_mul]; exact hvl
  have hn2 : ds.length = Nat.min (n + 1 - i) (n + 1 - (i + 1)) * 2 := by rw [show Nat.min (n + 1 - i) (n + 1 - (i + 1)) = n + 1 - (i + 1) from Nat.min_eq_right (by omega), hdl]; congr 1; omega
  refine Ret.enter Try.func74 rfl rfl rfl rfl ?_
  refine WC.seq ?_
  refine WC.region ?_
  refine WO.v (R.assign rfl) rfl ?_
  refine WO.nil ?_
  refine WX.next ?_
  refine WC.seq ?_
  refine WC.region ?_
  refine WO.v (R.move rfl) rfl ?_
  refine WO.v (R.move rfl) rfl ?_
  refine WO.v (R.sliceL rfl rfl Try.underlying23 zE_opn rfl (by omega)) rfl ?_
  refine WO.nil ?_
  refine WX.next ?_
  refine WC.seq ?_
  refine WC.region ?_
  refine WO.v (R.move rfl) rfl ?_
  refine WO.v (R.len rfl Try.underlying23) rfl ?_
  refine WO.v (R.assign rfl) rfl ?_
  refine WO.nil ?_
  refine WX.next ?_
  refine WC.seq ?_
  refine WC.seq ?_
  refine WC.region ?_
  refine WO.v (R.move rfl) rfl ?_
  refine WO.v (R.eql rfl rfl) rfl ?_
  refine WO.nil ?_
  refine WX.next ?_
  refine WC.cond rfl (fun q => absurd (of_decide_eq_true q) (by omega)) (fun _ => ?_)
  refine WC.skip ?_
  refine WX.next ?_
  refine WC.seq ?_
  refine WC.region ?_
  refine WO.v (R.move rfl) rfl ?_
  refine WO.v (R.len rfl Try.underlying23) rfl ?_
  refine WO.v (R.assign rfl) rfl ?_
  refine WO.nil ?_
  refine WX.next ?_
  refine WC.seq ?_
  refine WC.seq ?_
  refine WC.region ?_
  refine WO.v (R.move rfl) rfl ?_
  refine WO.v (R.move rfl) rfl ?_
  refine WO.v (R.eql rfl rfl) rfl ?_
  refine WO.nil ?_
  refine WX.next ?_
  refine WC.cond rfl (fun q => absurd (of_decide_eq_true q) (by omega)) (fun _ => ?_)
  refine WC.skip ?_
  refine WX.next ?_
  refine WC.seq ?_
  refine WC.seq ?_
  refine WC.region ?_
  refine WO.v (R.move rfl) rfl ?_
  refine WO.v (R.move rfl) rfl ?_
  refine WO.v (R.addN rfl rfl (by omega)) rfl ?_
  refine WO.v (R.move rfl) rfl ?_
  refine WO.v (R.capS rfl Try.underlying23) rfl ?_
  refine WO.v (R.gtr rfl rfl) rfl ?_
  refine WO.nil ?_
  refine WX.next ?_
  refine WC.cond rfl (fun q => absurd (of_decide_eq_true q) (by omega)) (fun _ => ?_)
  refine WC.skip ?_
  refine WX.next ?_
  refine WC.seq ?_
  refine WC.region ?_
  refine WO.v (R.move rfl) rfl ?_
  refine WO.v (R.move rfl) rfl ?_
  refine WO.v (R.move rfl) rfl ?_
  refine WO.v (R.addN rfl rfl (by omega)) rfl ?_
  refine WO.v (R.sliceH rfl rfl Try.underlying23 zE_opn (sl_at (i := 0) (by omega)) (by omega)) rfl ?_
  refine WO.v (R.assign rfl) rfl ?_
  refine WO.nil ?_
  refine WX.next ?_
  refine WC.seq ?_
  refine WC.seq ?_
  refine WC.region ?_
  refine WO.v (R.move rfl) rfl ?_
  refine WO.v (R.move rfl) rfl ?_
  refine WO.v (R.move rfl) rfl ?_
  refine WO.v (R.move rfl) rfl ?_
  refine WO.v (R.addN rfl rfl (by omega)) rfl ?_
  refine WO.v (R.sliceL rfl rfl Try.underlying23 zE_opn (sl_at (by omega)) (by omega)) rfl ?_
  refine WO.v (R.ovl (tS := 23) (tR := 4) Try.func97 rfl rfl (by kernel_rfl) (by kernel_rfl) Try.underlying23 zE_opn hne hvb hvb0 hrow rfl rfl) rfl ?_
  refine WO.v (R.not rfl) rfl ?_
  refine WO.nil ?_
  refine WX.next ?_
  refine WC.condT rfl ?_
  refine WC.seq ?_
  refine WC.draw' mix_ok [.ex [] (.slice (some ⟨g, 0, none⟩) (n + 1) c), .ex [] (.int .i64 ((i : Nat) : Int)), .ex [] (.int .i64 ((1 : Nat) : Int)), .ex [1, 2] (.int .i64 ((i + 1 : Nat) : Int)), .ex [0, 3] (.slice (some ⟨g, (i + 1) * 2, none⟩) (n + 1 - (i + 1)) (c - (i + 1))), .ex [] (.slice (some ⟨g, 0, none⟩) (n + 1) c), .ex [] (.int .i64 ((i : Nat) : Int)), .ex [5, 6] (.slice (some ⟨g, i * 2, none⟩) (n + 1 - i) (c - i))] 8 (by kernel_rfl) ⟨fun _ _ _ h _ => h, fun _ _ _ h _ => h, fun _ _ _ h _ => h, fun _ _ _ h _ => h, fun _ _ _ h _ => h, fun _ _ _ h _ => h, fun _ _ _ h _ => h, fun _ _ _ h _ => h, trivial⟩ ⟨?_, ?_, ?_, ?_, ?_, ?_, ?_, ?_, trivial⟩ ?_
  · rintro vs wd kd ⟨-⟩
    refine WO.haves (fr' := [(0, .slice (some ⟨g, 0, none⟩) (n + 1) c)]) ⟨⟨_, rfl, rfl⟩, trivial⟩ ?_
    refine WO.v (R.move rfl) rfl ?_
    refine WO.nil ?_
    exact WX.stepDone rfl rfl (Kp.refl _)
  · rintro vs wd kd ⟨-⟩
    refine WO.haves (fr' := [(1, .int .i64 ((i : Nat) : Int))]) ⟨⟨_, rfl, rfl⟩, trivial⟩ ?_
    refine WO.v (R.move rfl) rfl ?_
    refine WO.nil ?_
    exact WX.stepDone rfl rfl (Kp.refl _)
  · rintro vs wd kd ⟨-⟩
    refine WO.haves (fr' := [(7, .int .i64 ((1 : Nat) : Int))]) ⟨⟨_, rfl, rfl⟩, trivial⟩ ?_
    refine WO.v (R.move rfl) rfl ?_
    refine WO.nil ?_
    exact WX.stepDone rfl rfl (Kp.refl _)
  · rintro vs wd kd ⟨e1, e2, -⟩
    refine WO.haves (fr' := [(70, .int .i64 ((i : Nat) : Int)), (71, .int .i64 ((1 : Nat) : Int))]) ⟨⟨_, rfl, e1⟩, ⟨_, rfl, e2⟩, trivial⟩ ?_
    refine WO.v (R.addN rfl rfl (by omega)) rfl ?_
    refine WO.nil ?_
    exact WX.stepDone rfl rfl (Kp.refl _)
  · rintro vs wd kd ⟨e0, e3, -⟩
    refine WO.haves (fr' := [(69, .slice (some ⟨g, 0, none⟩) (n + 1) c), (72, .int .i64 ((i + 1 : Nat) : Int))]) ⟨⟨_, rfl, e0⟩, ⟨_, rfl, e3⟩, trivial⟩ ?_
    refine WO.v (R.sliceL rfl rfl Try.underlying23 zE_opn (sl_at (by omega)) (by omega)) rfl ?_
    refine WO.nil ?_
    exact WX.stepDone rfl rfl (Kp.refl _)
  · rintro vs wd kd ⟨-⟩
    refine WO.haves (fr' := [(0, .slice (some ⟨g, 0, none⟩) (n + 1) c)]) ⟨⟨_, rfl, rfl⟩, trivial⟩ ?_
    refine WO.v (R.move rfl) rfl ?_
    refine WO.nil ?_
    exact WX.stepDone rfl rfl (Kp.refl _)
  · rintro vs wd kd ⟨-⟩
    refine WO.haves (fr' := [(1, .int .i64 ((i : Nat) : Int))]) ⟨⟨_, rfl, rfl⟩, trivial⟩ ?_
    refine WO.v (R.move rfl) rfl ?_
    refine WO.nil ?_
    exact WX.stepDone rfl rfl (Kp.refl _)
  · rintro vs wd kd ⟨e5, e6, -⟩
    refine WO.haves (fr' := [(74, .slice (some ⟨g, 0, none⟩) (n + 1) c), (75, .int .i64 ((i : Nat) : Int))]) ⟨⟨_, rfl, e5⟩, ⟨_, rfl, e6⟩, trivial⟩ ?_
    refine WO.v (R.sliceL rfl rfl Try.underlying23 zE_opn (sl_at (by omega)) (by omega)) rfl ?_
    refine WO.nil ?_
    exact WX.stepDone rfl rfl (Kp.refl _)
  rintro vsx w1 k1 ⟨-, -, -, -, e4, -, -, e7, -⟩
  replace k1 : Kp [] w w1 := k1
  refine WO.haves (fr' := [(73, .slice (some ⟨g, (i + 1) * 2, none⟩) (n + 1 - (i + 1)) (c - (i + 1))), (76, .slice (some ⟨g, i * 2, none⟩) (n + 1 - i) (c - i)), (0, .slice (some ⟨g, 0, none⟩) (n + 1) c), (1, .int .i64 ((i : Nat) : Int)), (2, .slice (some ad) 1 vc)]) ⟨⟨_, rfl, e4⟩, ⟨_, rfl, e7⟩, ⟨_, rfl, rfl⟩, ⟨_, rfl, rfl⟩, ⟨_, rfl, rfl⟩, trivial⟩ ?_
  have hg1 : w1.heap[g]? = some (.cells (List.toArray cur) 51 (0, 0)) := by rw [k1.block g (lt_of_heap hrow) (by simp)]; exact hrow
  refine WO.v (R.copyN rfl rfl Try.underlying23 zE_opn hg1 hn2 (hd.kp k1 (lt_of_heap hrow) (by simp)) (by omega) h1d) rfl ?_
  refine WO.nil ?_
  refine WX.next ?_
  have hg2 : (w1.setRow g (cur.take ((i + 1) * 2) ++ ds ++ cur.drop ((i + 1) * 2 + ds.length)).toArray).heap[g]? = some (.cells (List.toArray (cur.take ((i + 1) * 2) ++ ds ++ cur.drop ((i + 1) * 2 + ds.length))) 51 (0, 0)) := setRow_heap w1 g _ _ 51 _ hg1
  have hv2 : CellsAt (w1.setRow g (cur.take ((i + 1) * 2) ++ ds ++ cur.drop ((i + 1) * 2 + ds.length)).toArray) ad vs := (hv.kp k1 (lt_of_heap hvb) (by simp)).kp (Kp.setRow w1 g _) (Nat.lt_of_lt_of_le (lt_of_heap hvb) k1.size) (by simpa using fun h => hne h.symm)
  refine WC.seq ?_
  refine WC.region ?_
  refine WO.v (R.move rfl) rfl ?_
  refine WO.v (R.move rfl) rfl ?_
  refine WO.v (R.sliceL rfl rfl Try.underlying23 zE_opn (sl_at (by omega)) (by omega)) rfl ?_
  refine WO.v (R.move rfl) rfl ?_
  refine WO.v (R.copyN rfl rfl Try.underlying23 zE_opn hg2 hn1 hv2 (by simp only [List.length_append, List.length_take, List.length_drop]; omega) h1v) rfl ?_
  refine WO.nil ?_
  refine WX.next ?_
  refine WC.seq ?_
  refine WC.region ?_
  refine WO.v (R.move rfl) rfl ?_
  refine WO.v (R.assign rfl) rfl ?_
  refine WO.nil ?_
  refine WX.next ?_
  refine WC.ret ?_
  refine WX.thenRet ?_
  refine WX.ret1 rfl rfl ?_
  exact ⟨rfl, w1, k1, rfl⟩
theorem insRet_opn {G : Gl} {ρ : List RE} {H : AH} {w : World} (hs : G.shp = shpOf tyT) (hR : Rep G ρ H w) {l m : List (den (.nm .opn))} (hH : getO H 0 = .row 51 (.nm .opn) l) (hl : l.length < 1048576) {i : Nat} (hi : i <= l.length) {v0 : Value} (h0 : Rd (cx G ρ w) ρ (.own 0) v0)
    {ad : Addr} {k : Nat} {cys : List Value} {bAV : AV} (hm : m.length = 1) (hb : Rd (cx G ρ w) ρ bAV (.slice (some ad) 1 k)) (hbv : (bAV.vw H).toL (.nm .opn) = some m) (hv : CellsAt w ad cys) (hvl : cys.length = 2) (h1v : ∀ u ∈ cys, u.oneCell' = true) (hp : Pds (cx G ρ w) (m.flatMap (cellsOf (.nm .opn))) cys)
    (hne : ∀ g c n z, ρ[0]? = some (.row g c n z) -> ad.block ≠ g) {curA : Array Value} {tA : TypeId} {fA : Nat × Nat} (hvb : w.heap[ad.block]? = some (.cells curA tA fA)) (hvb0 : curA.size ≠ 0) :
    Ret Try.prog 74 [v0, .int .i64 (i : Int), .slice (some ad) 1 k].toArray w fun v w' => ∃ ρ', Stp (lvN 0) ρ w ρ' w' /\ Rep G ρ' ((mapO (AV.kill 0) H).set 0 (.row 51 (.nm .opn) (l.take i ++ m ++ l.drop i))) w' /\ Rd (cx G ρ' w') ρ' (.own 0) v := by
  have hT : TabOK Try.prog G.shp tyT := hs ▸ tyT_ok
  obtain ⟨hshp, hlen⟩ := row_facts hR hH
  have hl64 : l.length <= 9223372036854775807 := by omega
  have hin : ((l.length : Nat) : Int) <= 9223372036854775807 := by omega
  by_cases hie : i = l.length
  · subst hie
    have hc : ∃ A c, v0 = .slice A l.length c := by
      rcases h0 with ⟨g, cap, len, z, h1, rfl⟩ | ⟨h1, a, rfl⟩
      · rcases row_read hR hH with ⟨h2, _⟩ | ⟨g', cap', cells, sp, h2, _⟩
        · rw [h1] at h2; cases h2
        · rw [h1] at h2; cases h2; exact ⟨_, _, rfl⟩
      · rcases row_read hR hH with ⟨_, h2⟩ | ⟨g', cap', cells, sp, h2, _⟩
        · subst h2; exact ⟨_, _, rfl⟩
        · rw [h1] at h2; cases h2
    obtain ⟨A, c, rfl⟩ := hc
    refine insEnd_opn fun F x y ty hx hy => ?_
    have happ : appendA tyT (lvN 0) ([] : AFr) H 23 (.own 0) bAV = some ⟨one (.own 0), [], (mapO (AV.kill 0) H).set 0 (.row 51 (.nm .opn) (l ++ m)), [(l.length + m.length) * (Sh.nm NT.opn).bytes <= 140737488355328], []⟩ := by
      unfold appendA
      rw [show findT tyT 23 = some ⟨.sl 51 (some (.nm .opn)), 1, [.em true]⟩ from by kernel_rfl]
      simp only [hbv, hH]
      rfl
    obtain ⟨v, w', h1, ρ', h2, h3, _, h5, _⟩ := append_after (P := Try.prog) (n := 95) (F := []) (ty := ty) (fr := []) (x := .const (.slice A l.length c)) (y := .const (.slice (some ad) 1 k)) hT hR .nil happ (by
      intro p hp
      rw [List.mem_singleton] at hp; subst hp
      show (l.length + m.length) * 16 <= _
      omega) h0 hb rfl rfl
    refine ⟨v, w', R.appConv h1 hx hy, ρ', h2, ?_, h5⟩
    rw [List.take_length, List.drop_length, List.append_nil]
    exact h3
  · have hlt : i < l.length := by omega
    rcases row_read hR hH with ⟨_, h2⟩ | ⟨g, cap, cells, sp, hρ, hg, hpd, hsz, hcap, hmax⟩
    · subst h2; simp at hlt
    obtain ⟨hnb, hil, hiH⟩ := row_re hR hH
    have hv0 : v0 = .slice (some ⟨g, 0, none⟩) l.length cap := by
      rcases h0 with ⟨g', cap', len, z, h1, rfl⟩ | ⟨h1, a, rfl⟩
      · rw [hρ] at h1; cases h1; rfl
      · rw [hρ] at h1; cases h1
    subst hv0
    have hz : (Sh.nm NT.opn).size = 2 := rfl
    have hby : (Sh.nm NT.opn).bytes = 16 := rfl
    have hcl : cells.length = l.length * 2 := by rw [<- hpd.length, flatS_len, hz]
    rw [hz, List.length_append] at hsz
    have hone : ∀ u ∈ cells.drop (i * 2), u.oneCell' = true := fun u hu => hpd.ones u (List.mem_of_mem_drop hu)
    have hd : CellsAt w ⟨g, i * 2, none⟩ (cells.drop (i * 2)) := by
      have := (cells_row hg).shift (i * 2)
      rwa [add_lit, Nat.zero_add] at this
    have hdl : (cells.drop (i * 2)).length = (l.length - i) * 2 := by rw [List.length_drop, hcl]; omega
    have hgl := lt_of_heap hg
    have hzl : (l.take i ++ m ++ l.drop i).length = l.length + 1 := by
      rw [List.length_append, List.length_append, List.length_take, List.length_drop, hm]; omega
    have hnew : ∀ {c : Cx}, (cx G ρ w).le c -> Pds c ((l.take i ++ m ++ l.drop i).flatMap (cellsOf (.nm .opn))) (cells.take (i * 2) ++ cys ++ cells.drop (i * 2)) := fun {c} hle => by
      rw [List.flatMap_append, List.flatMap_append]
      exact (((Pds_flat_take hpd i).append hp).append (Pds_flat_drop hpd i)).carry hle
    have hnl : (cells.take (i * 2) ++ cys ++ cells.drop (i * 2)).length = (l.length + 1) * 2 := by
      rw [List.length_append, List.length_append, List.length_take, List.length_drop, hcl, hvl]; omega
    have hbig : (l.take i ++ m ++ l.drop i).length * (Sh.nm NT.opn).bytes <= 140737488355328 := by rw [hzl, hby]; omega
    -- what is shown of any way
    have fin : ∀ (S : List Nat) (g2 cap2 : Nat) (sp2 : List Value) (w' : World), Kp S w w' -> (∀ b ∈ S, b = g) -> (g2 = g \/ w.heap.size <= g2) -> w'.heap[g2]? = some (.cells (List.toArray (cells.take (i * 2) ++ cys ++ cells.drop (i * 2) ++ sp2)) 51 (0, 0)) -> (l.length + 1) * 2 + sp2.length = cap2 * 2 -> l.length + 1 <= cap2 -> cap2 <= maxLen ->
        ∃ ρ', Stp (lvN 0) ρ w ρ' w' /\ Rep G ρ' ((mapO (AV.kill 0) H).set 0 (.row 51 (.nm .opn) (l.take i ++ m ++ l.drop i))) w' /\ Rd (cx G ρ' w') ρ' (.own 0) (.slice (some ⟨g2, 0, none⟩) (l.length + 1) cap2) := by
      intro S g2 cap2 sp2 w' hk hS hg2 hh hlen2 hle2 hmax2
      obtain ⟨k1, k2, _⟩ := row_step (ro := lvN 0) (s' := .nm .opn) (e' := 51) (zs := l.take i ++ m ++ l.drop i) hR hH ⟨rfl, rfl⟩ hk (fun b hb => ⟨_, hρ, by rw [hS b hb]; rfl⟩) (r' := .row g2 cap2 (l.take i ++ m ++ l.drop i).length (Sh.nm NT.opn).size) (fun b hb => by
        cases hb
        rcases hg2 with rfl | hg2
        · exact .inl ⟨_, hρ, rfl⟩
        · exact .inr ⟨hg2, lt_of_heap hh⟩) (fun hle => ⟨hshp, hbig, .inr ⟨g2, cap2, _, sp2, rfl, hh, hnew hle, by rw [List.length_append, hnl, hz]; exact hlen2, by rw [hzl]; exact hle2, hmax2⟩⟩)
      exact ⟨_, k1, k2, .inl ⟨g2, cap2, _, _, List.getElem?_set_self hil, by rw [hzl]⟩⟩
    have eo : (i + 1) * 2 = i * 2 + 2 := by omega
    by_cases hroom : l.length + 1 <= cap
    · refine (insShift_opn hlt hroom hmax hg (by rw [List.length_append]; omega) hv hvb hvb0 (hne _ _ _ _ hρ) hvl hd hdl h1v hone).mono fun v w' ⟨e1, w1, k1, e2⟩ => ?_
      subst e1; subst e2
      rw [eo, put2a (by omega) hvl]
      have hk : Kp [g] w ((w1.setRow g ((cells ++ sp).take (i * 2 + 2) ++ cells.drop (i * 2) ++ (cells ++ sp).drop (i * 2 + 2 + (cells.drop (i * 2)).length)).toArray).setRow g (cells.take (i * 2) ++ cys ++ cells.drop (i * 2) ++ sp.drop 2).toArray) := ((k1.sub (by simp)).step (Kp.setRow w1 g _) (by simp)).step (Kp.setRow _ g _) (by simp)
      have hg1 : w1.heap[g]? = some (.cells (List.toArray (cells ++ sp)) 51 (0, 0)) := by rw [k1.block g hgl (by simp)]; exact hg
      exact fin [g] g cap (sp.drop 2) _ hk (by simp) (.inl rfl) (setRow_heap _ g _ _ 51 _ (setRow_heap w1 g _ _ 51 _ hg1)) (by rw [List.length_drop]; omega) hroom hmax
    · obtain ⟨ti, hi0, hz0, hz1, hz2⟩ := info_parts inf_opn
      have eik : i + (l.length + 1 - i) = l.length + 1 := by omega
      have hge := grownCap_ge w (l.length + 1) cap 51
      have hgm := grownCap_le_maxLen w (l.length + 1) cap 51 (by simp [maxLen]; omega)
      have hold : (Builtin.firstCells ti.size i (.slice (some ⟨g, 0 * 2, none⟩) i cap)).run Try.prog w.drew = .ok (cells.take (i * 2)).toArray w.drew := by
        have h := run_loadCells_list (P := Try.prog) w.drew ⟨g, 0 * 2, none⟩ (cells.take (i * 2)) (by rw [Nat.zero_mul]; exact (cells_row hg).take _)
        rw [List.length_take, Nat.min_eq_left (by omega)] at h
        rw [hz1]; exact h
      have happ : ∀ (F : Fr) (x y : Operand) (ty : TypeId), ev F x = some (.slice (some ⟨g, 0 * 2, none⟩) i cap) -> ev F y = some (.int .i64 ((l.length + 1 - i : Nat) : Int)) -> Runs Try.prog 95 F w (.call { callee := .builtin .append, args := #[x, y], argTypes := #[23, 3] }) ty (.slice (some ⟨w.heap.size, 0, none⟩) (l.length + 1) (grownCap w (l.length + 1) cap 51)) (w.drew.alloc (.cells (List.toArray (cells.take (i * 2) ++ ((Builtin.zeroCells (Value.agg #[.int .i64 0, .int .i64 0]).cells (l.length + 1 - i)).toList ++ (Builtin.zeroCells (Value.agg #[.int .i64 0, .int .i64 0]).cells (grownCap w (l.length + 1) cap 51 - (l.length + 1))).toList))) 51)) := fun F x y ty hx hy => by
        have h := R.appZ (P := Try.prog) (n := 95) (ty := ty) hx hy Try.underlying23 Try.underlying3 hi0 hz0 hold (by omega) (by rw [hz1]; decide) (by omega) (by omega) (by rw [hz2]; omega) (by rw [hz2, eik]; exact growslice_fits (by omega) (by omega))
        rw [eik] at h
        have e : ∀ (a : List Value) (b c : Array Value), a.toArray ++ b ++ c = (a ++ (b.toList ++ c.toList)).toArray := fun a b c => by apply Array.ext'; simp
        rw [e] at h
        exact h
      have hcurl : (cells.take (i * 2) ++ ((Builtin.zeroCells (Value.agg #[.int .i64 0, .int .i64 0]).cells (l.length + 1 - i)).toList ++ (Builtin.zeroCells (Value.agg #[.int .i64 0, .int .i64 0]).cells (grownCap w (l.length + 1) cap 51 - (l.length + 1))).toList)).length = grownCap w (l.length + 1) cap 51 * 2 := by
        rw [List.length_append, List.length_append, List.length_take, zc_len, zc_len]
        show min _ _ + ((l.length + 1 - i) * 2 + (grownCap w (l.length + 1) cap 51 - (l.length + 1)) * 2) = _
        omega
      have htk : (cells.take (i * 2) ++ ((Builtin.zeroCells (Value.agg #[.int .i64 0, .int .i64 0]).cells (l.length + 1 - i)).toList ++ (Builtin.zeroCells (Value.agg #[.int .i64 0, .int .i64 0]).cells (grownCap w (l.length + 1) cap 51 - (l.length + 1))).toList)).take (i * 2) = cells.take (i * 2) := List.take_left' (by rw [List.length_take]; omega)
      generalize grownCap w (l.length + 1) cap 51 = GC at *
      generalize cells.take (i * 2) ++ ((Builtin.zeroCells (Value.agg #[.int .i64 0, .int .i64 0]).cells (l.length + 1 - i)).toList ++ (Builtin.zeroCells (Value.agg #[.int .i64 0, .int .i64 0]).cells (GC - (l.length + 1))).toList) = cur at *
      have hK1 : Kp [] w (w.drew.alloc (.cells (List.toArray cur) 51)) := ((Kp.refl w).drew).step (Kp.alloc w.drew _) (by simp)
      have hrow : (w.drew.alloc (.cells (List.toArray cur) 51)).heap[w.heap.size]? = some (.cells (List.toArray cur) 51 (0, 0)) := heap_alloc_new w.drew _
      generalize w.drew.alloc (.cells (List.toArray cur) 51) = W1 at *
      refine (insGrow_opn hlt hcap (by omega) hmax hge hgm happ hrow (by omega) (hv.kp hK1 (lt_of_heap hvb) (by simp)) hvl (hd.kp hK1 hgl (by simp)) (by omega) (Nat.lt_of_lt_of_le hgl hK1.size) hdl h1v hone).mono fun v w' ⟨e1, w1, k1, e2⟩ => ?_
      subst e1; subst e2
      rw [eo, put2b (cells := cells) (by omega) hvl htk]
      have hs1 : ∀ b ∈ [w.heap.size], b ∈ ([] : List Nat) \/ w.heap.size <= b := fun b hb => .inr (by rw [List.mem_singleton] at hb; omega)
      have hk : Kp [] w (w1.setRow w.heap.size (cells.take (i * 2) ++ cys ++ cells.drop (i * 2) ++ cur.drop (i * 2 + 2 + (cells.drop (i * 2)).length)).toArray) := ((hK1.step (Kp.setRow W1 w.heap.size _) hs1).step k1 (by simp)).step (Kp.setRow w1 w.heap.size _) hs1
      have hg1 := (k1.block w.heap.size (by simpa using lt_of_heap hrow) (by simp)).trans (setRow_heap W1 w.heap.size _ (cur.take (i * 2) ++ cys ++ cur.drop (i * 2 + cys.length)).toArray 51 _ hrow)
      exact fin [] w.heap.size GC _ _ hk (by simp) (.inr (Nat.le_refl _)) (setRow_heap w1 w.heap.size _ _ 51 _ hg1) (by rw [List.length_drop]; omega) hge hgm
theorem ins_opn_satL (i : Int) (l m : List (den (.nm .opn))) (h : 0 <= i /\ i <= (l.length : Int)) (hl : l.length < 1048576) (hm : m.length = 1) : Sat Try.prog (shpOf tyT) 74 [.c (.own 0), .c (.int i), .c (.fz (.nm .opn) m)] [.row 51 (.nm .opn) l] ⟨[0 <= i /\ i <= (l.length : Int), l.length < 1048576, m.length = 1], [.c (.own 0)], some [.row 51 (.nm .opn) (l.take i.toNat ++ m ++ l.drop i.toNat)], false⟩ := by
  refine ⟨⟨_, Try.func74, by decide, rfl⟩, fun G ρ w vs hs hR hvs => ?_⟩
  obtain ⟨i, rfl⟩ := Int.eq_ofNat_of_zero_le h.1
  cases hvs with | cons h0 hvs =>
  cases hvs with | cons h1 hvs =>
  cases hvs with | cons h2 hvs =>
  cases hvs
  have h1 : Pd (cx G ρ w) (.int (i : Int)) _ := h1
  cases h1
  have h0 : Rd (cx G ρ w) ρ (.own 0) _ := h0
  have h2 : Rd (cx G ρ w) ρ (.fz (.nm .opn) m) _ := h2
  have hH : getO [AO.row 51 (.nm .opn) l] 0 = .row 51 (.nm .opn) l := rfl
  have hbv : (AV.vw [AO.row 51 (.nm .opn) l] (.fz (.nm .opn) m)).toL (.nm .opn) = some m := by simp [AV.vw, AV.toL, getO]
  obtain ⟨A, k, cys, rfl, s1, s2, s3, s4⟩ := src_read hR hbv h2
  rw [hm] at h2 s1 s3
  rw [hm]
  obtain ⟨ad, rfl, s5⟩ : ∃ ad, A = some ad /\ CellsAt w ad cys := s3.resolve_left (by decide)
  have hz : (Sh.nm NT.opn).size = 2 := rfl
  rw [hz] at s1
  obtain ⟨u, hu⟩ : ∃ u, cys[0]? = some u := ⟨_, List.getElem?_eq_getElem (by omega)⟩
  obtain ⟨cur, t, f, hc, hc0⟩ := cell_heap (s5 0 u hu)
  have hne : ∀ g c n z, ρ[0]? = some (.row g c n z) -> ad.block ≠ g := fun g c n z hg e => by
    have h2 : Pd (cx G ρ w) (.fz (.nm .opn) m) (.slice (some ad) 1 k) := h2
    have h3 := fz_at2 h2 (by rw [hm]; decide)
    exact h3.1.2.1 ⟨0, _, hg, by rw [e]; rfl⟩
  rw [add_block] at hc
  refine (insRet_opn hs hR hH hl (by omega) h0 hm h2 hbv s5 s1 s2 s4 hne hc hc0).mono fun v w' ⟨ρ', k1, k2, k3⟩ => ?_
  exact ⟨[v], rfl, ρ', k2, k1.ext, k1.bx, .cons k3 .nil, fun hb => by cases hb⟩
theorem zl_opn : (Builtin.zeroCells (Value.agg #[.int .i64 0, .int .i64 0]).cells 1).toList = [.int .i64 0, .int .i64 0] := by kernel_rfl
set_option maxRecDepth 100000 in
set_option maxHeartbeats 1000000 in
theorem delW_opn {w : World} {g n i c : Nat} {cur ds : List Value} {ti : TypeInfo} (hi : i < n) (hnc : n <= c) (hcm : c <= maxLen) (hg : w.heap[g]? = some (.cells cur.toArray 51 (0, 0))) (hcur : n * 2 <= cur.length) (hdl : ds.length = (n - (i + 1)) * 2) (hd : CellsAt w (if c = i + 1 then ⟨g, 0, none⟩ else (⟨g, 0, none⟩ : Addr).add ((i + 1) * 2)) ds) (h1d : ∀ u ∈ ds, u.oneCell' = true)
    (hi0 : Try.prog.info? 51 = some ti) (hz0 : ti.zero = some (.agg #[.int .i64 0, .int .i64 0])) (hz1 : ti.size = 2) :
    Ret Try.prog 77 [.slice (some ⟨g, 0, none⟩) n c, .int .i64 (i : Int), .int .i64 ((i + 1 : Nat) : Int)].toArray w fun v w' => v = .slice (some ⟨g, 0, none⟩) (i + (n - (i + 1))) c /\ ∃ w1, Kp [] w w1 /\ w' = (w1.setRow g (cur.take (i * ti.size) ++ ds ++ cur.drop (i * ti.size + ds.length)).toArray).setRow g ((cur.take (i * ti.size) ++ ds ++ cur.drop (i * ti.size + ds.length)).take ((i + (n - (i + 1))) * 2) ++ (Builtin.zeroCells (Value.agg #[.int .i64 0, .int .i64 0]).cells 1).toList ++ (cur.take (i * ti.size) ++ ds ++ cur.drop (i * ti.size + ds.length)).drop ((i + (n - (i + 1))) * 2 + (Builtin.zeroCells (Value.agg #[.int .i64 0, .int .i64 0]).cells 1).toList.length)).toArray := by
  have hcm : c <= 9223372036854775807 := hcm
  refine Ret.enter Try.func77 rfl rfl rfl rfl ?_
  refine WC.seq ?_
  refine WC.region ?_
  refine WO.v (R.assign rfl) rfl ?_
  refine WO.nil ?_
  refine WX.next ?_
  refine WC.seq ?_
  refine WC.region ?_
  refine WO.v (R.move rfl) rfl ?_
  refine WO.v (R.move rfl) rfl ?_
  refine WO.v (R.move rfl) rfl ?_
  refine WO.v (R.move rfl) rfl ?_
  refine WO.v (R.len rfl Try.underlying23) rfl ?_
  refine WO.v (R.slice3 rfl rfl rfl rfl Try.underlying23 zE_opn (by omega) (by omega) (by omega)) rfl ?_
  refine WO.nil ?_
  refine WX.next ?_
  refine WC.seq ?_
  refine WC.seq ?_
  refine WC.region ?_
  refine WO.v (R.move rfl) rfl ?_
  refine WO.v (R.move rfl) rfl ?_
  refine WO.v (R.eql rfl rfl) rfl ?_
  refine WO.nil ?_
  refine WX.next ?_
  refine WC.cond rfl (fun q => absurd (of_decide_eq_true q) (by omega)) (fun _ => ?_)
  refine WC.skip ?_
  refine WX.next ?_
  refine WC.seq ?_
  refine WC.region ?_
  refine WO.v (R.move rfl) rfl ?_
  refine WO.v (R.len rfl Try.underlying23) rfl ?_
  refine WO.v (R.assign rfl) rfl ?_
  refine WO.nil ?_
  refine WX.next ?_
  refine WC.seq ?_
  refine WC.draw' mix_ok [.ex [] (.slice (some ⟨g, 0, none⟩) n c), .ex [] (.int .i64 ((i : Nat) : Int)), .ex [0, 1] (.slice (some ⟨g, 0 * 2, none⟩) (i - 0) (c - 0)), .ex [] (.slice (some ⟨g, 0, none⟩) n c), .ex [] (.int .i64 ((i + 1 : Nat) : Int)), .ex [3, 4] (.slice (some (if c = i + 1 then ⟨g, 0, none⟩ else (⟨g, 0, none⟩ : Addr).add ((i + 1) * 2))) (n - (i + 1)) (c - (i + 1)))] 6 (by kernel_rfl) ⟨fun _ _ _ h _ => h, fun _ _ _ h _ => h, fun _ _ _ h _ => h, fun _ _ _ h _ => h, fun _ _ _ h _ => h, fun _ _ _ h _ => h, trivial⟩ ⟨?_, ?_, ?_, ?_, ?_, ?_, trivial⟩ ?_
  · rintro vs wd kd ⟨-⟩
    refine WO.haves (fr' := [(0, .slice (some ⟨g, 0, none⟩) n c)]) ⟨⟨_, rfl, rfl⟩, trivial⟩ ?_
    refine WO.v (R.move rfl) rfl ?_
    refine WO.nil ?_
    exact WX.stepDone rfl rfl (Kp.refl _)
  · rintro vs wd kd ⟨-⟩
    refine WO.haves (fr' := [(1, .int .i64 ((i : Nat) : Int))]) ⟨⟨_, rfl, rfl⟩, trivial⟩ ?_
    refine WO.v (R.move rfl) rfl ?_
    refine WO.nil ?_
    exact WX.stepDone rfl rfl (Kp.refl _)
  · rintro vs wd kd ⟨e0, e1, -⟩
    refine WO.haves (fr' := [(20, .slice (some ⟨g, 0, none⟩) n c), (21, .int .i64 ((i : Nat) : Int))]) ⟨⟨_, rfl, e0⟩, ⟨_, rfl, e1⟩, trivial⟩ ?_
    refine WO.v (R.sliceH rfl rfl Try.underlying23 zE_opn (sl_at (i := 0) (by omega)) (by omega)) rfl ?_
    refine WO.nil ?_
    exact WX.stepDone rfl rfl (Kp.refl _)
  · rintro vs wd kd ⟨-⟩
    refine WO.haves (fr' := [(0, .slice (some ⟨g, 0, none⟩) n c)]) ⟨⟨_, rfl, rfl⟩, trivial⟩ ?_
    refine WO.v (R.move rfl) rfl ?_
    refine WO.nil ?_
    exact WX.stepDone rfl rfl (Kp.refl _)
  · rintro vs wd kd ⟨-⟩
    refine WO.haves (fr' := [(2, .int .i64 ((i + 1 : Nat) : Int))]) ⟨⟨_, rfl, rfl⟩, trivial⟩ ?_
    refine WO.v (R.move rfl) rfl ?_
    refine WO.nil ?_
    exact WX.stepDone rfl rfl (Kp.refl _)
  · rintro vs wd kd ⟨e3, e4, -⟩
    refine WO.haves (fr' := [(23, .slice (some ⟨g, 0, none⟩) n c), (24, .int .i64 ((i + 1 : Nat) : Int))]) ⟨⟨_, rfl, e3⟩, ⟨_, rfl, e4⟩, trivial⟩ ?_
    refine WO.v (R.sliceL rfl rfl Try.underlying23 zE_opn sl_at2 (by omega)) rfl ?_
    refine WO.nil ?_
    exact WX.stepDone rfl rfl (Kp.refl _)
  rintro vsx w1 k1 ⟨-, -, e2, -, -, e5, -⟩
  replace k1 : Kp [] w w1 := k1
  refine WO.haves (fr' := [(22, .slice (some ⟨g, 0 * 2, none⟩) (i - 0) (c - 0)), (25, .slice (some (if c = i + 1 then ⟨g, 0, none⟩ else (⟨g, 0, none⟩ : Addr).add ((i + 1) * 2))) (n - (i + 1)) (c - (i + 1))), (7, .int .i64 ((n : Nat) : Int))]) ⟨⟨_, rfl, e2⟩, ⟨_, rfl, e5⟩, ⟨_, rfl, rfl⟩, trivial⟩ ?_
  have hg1 : w1.heap[g]? = some (.cells (List.toArray cur) 51 (0, 0)) := by rw [k1.block g (lt_of_heap hg) (by simp)]; exact hg
  have hd1 : CellsAt w1 (if c = i + 1 then ⟨g, 0, none⟩ else (⟨g, 0, none⟩ : Addr).add ((i + 1) * 2)) ds := hd.keep (k1.block _ (by split <;> exact lt_of_heap hg) (by simp))
  refine WO.v (R.appRoom (sl := i) (sc := c) rfl rfl Try.underlying23 hi0 hg1 (by rw [hz1]; exact hdl) hd1 h1d (by omega) (by rw [hz1]; omega)) rfl ?_
  refine WO.v (R.assign rfl) rfl ?_
  refine WO.nil ?_
  refine WX.next ?_
  have hg2 := setRow_heap w1 g _ (cur.take (i * ti.size) ++ ds ++ cur.drop (i * ti.size + ds.length)).toArray 51 _ hg1
  refine WC.seq ?_
  refine WC.region ?_
  refine WO.v (R.move rfl) rfl ?_
  refine WO.v (R.move rfl) rfl ?_
  refine WO.v (R.len rfl Try.underlying23) rfl ?_
  refine WO.v (R.move rfl) rfl ?_
  refine WO.v (R.sliceLH rfl rfl rfl Try.underlying23 zE_opn (sl_at (by omega)) (by omega) (by omega)) rfl ?_
  refine WO.v0 (R.clr rfl (by omega) Try.underlying23 hi0 hz0 (by rw [zl_opn]; simp [Value.oneCell']) hg2 (by rw [zc_len, hz1]; simp only [List.length_append, List.length_take, List.length_drop]; show _ + 1 * 2 <= _; omega)) ?_
  refine WO.nil ?_
  refine WX.next ?_
  refine WC.seq ?_
  refine WC.region ?_
  refine WO.v (R.move rfl) rfl ?_
  refine WO.v (R.assign rfl) rfl ?_
  refine WO.nil ?_
  refine WX.next ?_
  refine WC.ret ?_
  refine WX.ret1 rfl rfl ?_
  exact ⟨rfl, w1, k1, rfl⟩
theorem del_opn_sat (i j : Int) (l : List (den (.nm .opn))) (h : 0 <= i /\ i < (l.length : Int) /\ j = i + 1) : Sat Try.prog (shpOf tyT) 77 [.c (.own 0), .c (.int i), .c (.int j)] [.row 51 (.nm .opn) l] ⟨[0 <= i /\ i < (l.length : Int) /\ j = i + 1], [.c (.own 0)], some [.row 51 (.nm .opn) (l.take i.toNat ++ l.drop j.toNat)], false⟩ := by
  refine ⟨⟨_, Try.func77, by decide, rfl⟩, fun G ρ w vs hs hR hvs => ?_⟩
  obtain ⟨hi0, hi1, rfl⟩ := h
  obtain ⟨i, rfl⟩ := Int.eq_ofNat_of_zero_le hi0
  have hlt : i < l.length := by omega
  cases hvs with | cons h0 hvs =>
  cases hvs with | cons h1 hvs =>
  cases hvs with | cons h2 hvs =>
  cases hvs
  have h1 : Pd (cx G ρ w) (.int (i : Int)) _ := h1
  have h2 : Pd (cx G ρ w) (.int ((i : Int) + 1)) _ := h2
  cases h1
  cases h2
  have h0 : Rd (cx G ρ w) ρ (.own 0) _ := h0
  have hH : getO [AO.row 51 (.nm .opn) l] 0 = .row 51 (.nm .opn) l := rfl
  obtain ⟨hshp, hlen⟩ := row_facts hR hH
  rcases row_read hR hH with ⟨_, h2⟩ | ⟨g, cap, cells, sp, hρ, hg, hpd, hsz, hcap, hmax⟩
  · subst h2; simp at hlt
  obtain ⟨hnb, hil, hiH⟩ := row_re hR hH
  have hz : (Sh.nm NT.opn).size = 2 := rfl
  have hby : (Sh.nm NT.opn).bytes = 16 := rfl
  have hcl : cells.length = l.length * 2 := by rw [<- hpd.length, flatS_len, hz]
  rw [hz, List.length_append] at hsz
  rw [hby] at hlen
  obtain ⟨ti, hi0, hz0, hz1, hz2⟩ := info_parts inf_opn
  have hone : ∀ u ∈ cells.drop ((i + 1) * 2), u.oneCell' = true := fun u hu => hpd.ones u (List.mem_of_mem_drop hu)
  have hd : CellsAt w (if cap = i + 1 then ⟨g, 0, none⟩ else (⟨g, 0, none⟩ : Addr).add ((i + 1) * 2)) (cells.drop ((i + 1) * 2)) := by
    split
    · rw [List.drop_of_length_le (by omega)]; exact CellsAt.nil
    · exact (cells_row hg).shift _
  have hv0 : ∀ v, Rd (cx G ρ w) ρ (.own 0) v -> v = .slice (some ⟨g, 0, none⟩) l.length cap := fun v h0 => by
    rcases h0 with ⟨g', cap', len, z, h1, rfl⟩ | ⟨h1, a, rfl⟩
    · rw [hρ] at h1; cases h1; rfl
    · rw [hρ] at h1; cases h1
  obtain rfl := hv0 _ h0
  have e0 : ((i : Int) + 1) = ((i + 1 : Nat) : Int) := by omega
  rw [e0]
  refine (delW_opn hlt hcap hmax hg (by rw [List.length_append]; omega) (by rw [List.length_drop, hcl]; omega) hd hone hi0 hz0 hz1).mono fun v w' ⟨e1, w1, k1, e2⟩ => ?_
  subst e1
  have hq : i + (l.length - (i + 1)) = l.length - 1 := by omega
  rw [hq, hz1, zl_opn] at e2
  rw [hq]
  have hzl : (l.take i ++ l.drop (i + 1)).length = l.length - 1 := by rw [List.length_append, List.length_take, List.length_drop]; omega
  have hnl : (cells.take (i * 2) ++ cells.drop ((i + 1) * 2)).length = (l.length - 1) * 2 := by rw [List.length_append, List.length_take, List.length_drop]; omega
  have htk : ((cells ++ sp).take (i * 2) ++ cells.drop ((i + 1) * 2) ++ (cells ++ sp).drop (i * 2 + (cells.drop ((i + 1) * 2)).length)).take ((l.length - 1) * 2) = cells.take (i * 2) ++ cells.drop ((i + 1) * 2) := by
    rw [List.take_append_of_le_length (l₁ := cells) (by omega)]
    exact List.take_left' hnl
  have hr1l : ((cells ++ sp).take (i * 2) ++ cells.drop ((i + 1) * 2) ++ (cells ++ sp).drop (i * 2 + (cells.drop ((i + 1) * 2)).length)).length = cap * 2 := by
    simp only [List.length_append, List.length_drop, List.length_take]
    omega
  generalize (cells ++ sp).take (i * 2) ++ cells.drop ((i + 1) * 2) ++ (cells ++ sp).drop (i * 2 + (cells.drop ((i + 1) * 2)).length) = r1 at e2 htk hr1l
  rw [htk, List.append_assoc] at e2
  generalize hsp2 : ([.int .i64 0, .int .i64 0] : List Value) ++ List.drop ((l.length - 1) * 2 + ([.int .i64 0, .int .i64 0] : List Value).length) r1 = sp2 at e2
  have hlen2 : (l.length - 1) * 2 + sp2.length = cap * 2 := by
    rw [<- hsp2]
    simp only [List.length_append, List.length_cons, List.length_nil, List.length_drop]
    omega
  have hg1 : w1.heap[g]? = some (.cells (List.toArray (cells ++ sp)) 51 (0, 0)) := by rw [k1.block g (lt_of_heap hg) (by simp)]; exact hg
  have hh := setRow_heap _ g _ (cells.take (i * 2) ++ cells.drop ((i + 1) * 2) ++ sp2).toArray 51 _ (setRow_heap w1 g _ r1.toArray 51 _ hg1)
  have hk := ((k1.sub (T := [g]) (by simp)).step (Kp.setRow w1 g r1.toArray) (by simp)).step (Kp.setRow _ g (cells.take (i * 2) ++ cells.drop ((i + 1) * 2) ++ sp2).toArray) (by simp)
  subst e2
  obtain ⟨k2, k3, _⟩ := row_step (ro := lvN 0) (s' := .nm .opn) (e' := 51) (zs := l.take i ++ l.drop (i + 1)) hR hH ⟨rfl, rfl⟩ hk (fun b hb => ⟨_, hρ, by rw [List.mem_singleton] at hb; subst hb; rfl⟩) (r' := .row g cap (l.take i ++ l.drop (i + 1)).length (Sh.nm NT.opn).size) (fun b hb => by
    cases hb; exact .inl ⟨_, hρ, rfl⟩) (fun hle => ⟨hshp, by rw [hzl, hby]; omega, .inr ⟨g, cap, _, sp2, rfl, hh, by
      rw [List.flatMap_append]; exact ((Pds_flat_take hpd i).append (Pds_flat_drop hpd (i + 1))).carry hle, by rw [List.length_append, hnl, hz]; exact hlen2, by omega, hmax⟩⟩)
  exact ⟨[_], rfl, _, k3, k2.ext, k2.bx, .cons (.inl ⟨g, cap, _, _, List.getElem?_set_self hil, by rw [hzl]⟩) .nil, fun hb => by cases hb⟩
end Go.Proofs.Ytbgkcbjebflmbaa
namespace Go.Proofs.Ytbgkcbjebflmbaa
open Go.RowKit
def mgetA {β : Type} (z : β) (k : Int) : List (Int × β) -> β
  | [] => z
  | p :: r => if k = p.1 then p.2 else mgetA z k r
end Go.Proofs.Ytbgkcbjebflmbaa
namespace Go.Proofs.Ytbgkcbjebflmbaa
open Go.RowKit
def startsF (a b : Int) : Int := if (1 <= a /\ a <= 3) /\ (1 <= b /\ b <= 3) then (if a < b then 32 else 0) else 1
def knownF (n : Int) : Bool := decide (1 <= n) && decide (n <= 3)
def idxF (p : Int -> Bool) (l : List Int) : Int := match l.findIdx? p with | some i => (i : Int) | none => -1
def minTo (l : List Int) (k : Nat) : Int := ((l.take k).tail).foldl min (l.headD 0)
def minF (l : List Int) : Int := l.tail.foldl min (l.headD 0)
def agreeF (l : List Int) : Int := if decide (l.length = 0) || !l.all knownF then 0 else minF l
def readyF (v : Int) (l : List Int) : Bool := (decide (1 <= v) && decide (v < 3)) && decide (v < agreeF l)
theorem take_succ_get {α : Type} {l : List α} {k : Nat} {x : α} (hx : l[k]? = some x) : l.take (k + 1) = l.take k ++ [x] := by
  rw [List.take_add_one, hx]; rfl
end Go.Proofs.Ytbgkcbjebflmbaa
namespace Go.Proofs.Ytbgkcbjebflmbaa
open Go.RowKit
def bF (x : UInt8) : Int := ((1 + (x &&& 3).toNat % 3 : Nat) : Int)
end Go.Proofs.Ytbgkcbjebflmbaa
namespace Go.Proofs.Ytbgkcbjebflmbaa
open Go.RowKit
theorem ne_len {α : Type} [DecidableEq α] {l m : List α} (h : ¬ ((l.length : Nat) : Int) = ((m.length : Nat) : Int)) : false = decide (l = m) := by
  symm; apply decide_eq_false; rintro rfl; exact h rfl
theorem take_all {α : Type} [DecidableEq α] {l m : List α} {k : Nat} (hl : l.length = m.length) (h : l.take k = m.take k) (hk : l.length <= k) : true = decide (l = m) := by
  symm; apply decide_eq_true
  rwa [List.take_of_length_le hk, List.take_of_length_le (by omega)] at h
def inB (n a b : Int) : Bool := decide (a <= n) && decide (n <= b)
def risingF {α : Type} (key : α -> Int) (most : Int) : Int -> List α -> Bool
  | _, [] => true
  | a, x :: r => inB (key x) (a + 1) most && risingF key most (key x) r
def lastK {α : Type} (key : α -> Int) (a : Int) (l : List α) : Int := l.foldl (fun _ x => key x) a
theorem rising_snoc {α : Type} {key : α -> Int} {most : Int} {x : α} : ∀ (p : List α) (a : Int), risingF key most a (p ++ [x]) = (risingF key most a p && inB (key x) (lastK key a p + 1) most)
  | [], a => by simp [risingF, lastK]
  | y :: p, a => by
    rw [List.cons_append, risingF, risingF, rising_snoc p, Bool.and_assoc]; rfl
theorem rising_append {α : Type} {key : α -> Int} {most : Int} (q : List α) : ∀ (p : List α) (a : Int), risingF key most a (p ++ q) = true -> risingF key most a p = true
  | [], a, _ => rfl
  | y :: p, a, h => by
    rw [List.cons_append, risingF, Bool.and_eq_true] at h
    rw [risingF, Bool.and_eq_true]
    exact ⟨h.1, rising_append q p _ h.2⟩
theorem lastK_snoc {α : Type} {key : α -> Int} {a : Int} {l : List α} {k : Nat} {x : α} (hx : l[k]? = some x) : key x = lastK key a (l.take (k + 1)) := by
  rw [take_succ_get hx, lastK, List.foldl_append]; rfl
theorem lastK_at {α : Type} {key : α -> Int} {a : Int} {l : List α} {k : Nat} {x : α} (h : 0 < k) (hx : l[k - 1]? = some x) : lastK key a (l.take k) = key x := by
  obtain ⟨j, rfl⟩ : ∃ j, k = j + 1 := ⟨k - 1, by omega⟩
  exact (lastK_snoc (by simpa using hx)).symm
theorem rising_next {α : Type} {key : α -> Int} {most a : Int} {l : List α} {k : Nat} {x : α} (h : risingF key most a (l.take k) = true) (hx : l[k]? = some x) (h1 : lastK key a (l.take k) < key x) (h2 : key x <= most) : risingF key most a (l.take (k + 1)) = true := by
  rw [take_succ_get hx, rising_snoc, h, Bool.true_and, inB, Bool.and_eq_true, decide_eq_true_eq, decide_eq_true_eq]
  exact ⟨by omega, h2⟩
theorem rising_stop {α : Type} {key : α -> Int} {most a : Int} {l : List α} {k : Nat} {x : α} (hx : l[k]? = some x) (h : ¬ (lastK key a (l.take k) < key x /\ key x <= most)) : risingF key most a l = false := by
  cases hr : risingF key most a l with
  | false => rfl
  | true =>
    have h1 := rising_append (l.drop (k + 1)) (l.take (k + 1)) a (by rw [List.take_append_drop]; exact hr)
    rw [take_succ_get hx, rising_snoc, Bool.and_eq_true, inB, Bool.and_eq_true, decide_eq_true_eq, decide_eq_true_eq] at h1
    exact absurd ⟨by omega, h1.2.2⟩ h
theorem rising_done {α : Type} {key : α -> Int} {most a : Int} {l : List α} {k : Nat} (h : risingF key most a (l.take k) = true) (hk : l.length <= k) : risingF key most a l = true := by
  rwa [List.take_of_length_le hk] at h
def rowF (l : List Int) : Bool := (decide ((1 : Int) <= ((l.length : Nat) : Int)) && decide (((l.length : Nat) : Int) <= 8)) && risingF id 64 0 l
theorem rowF_stop {l : List Int} {k : Nat} {x : Int} (hx : l[k]? = some x) (h : ¬ (lastK id 0 (l.take k) < x /\ x <= 64)) : false = rowF l := by
  rw [rowF, rising_stop (key := id) hx h, Bool.and_false]
theorem rowF_done {l : List Int} {k : Nat} (h : risingF id 64 0 (l.take k) = true) (hk : l.length <= k) : (decide ((1 : Int) <= ((l.length : Nat) : Int)) && decide (((l.length : Nat) : Int) <= 8)) = rowF l := by
  rw [rowF, rising_done h hk, Bool.and_true]
theorem lastK_pos {l : List Int} {k : Nat} (h : risingF id 64 0 (l.take k) = true) : 0 <= lastK id 0 (l.take k) := by
  by_cases hk : k = 0
  · subst hk; exact Int.le_refl _
  · by_cases hl : k - 1 < l.length
    · have hx := List.getElem?_eq_getElem hl
      rw [lastK_at (by omega) hx]
      have e : l.take k = l.take (k - 1) ++ [l[k - 1]] := by
        have := take_succ_get hx
        rwa [show k - 1 + 1 = k by omega] at this
      rw [e, rising_snoc, Bool.and_eq_true, inB, Bool.and_eq_true, decide_eq_true_eq] at h
      have h0 : ∀ (p : List Int) (a : Int), 0 <= a -> risingF id 64 a p = true -> 0 <= lastK id a p := by
        intro p
        induction p with
        | nil => intro a ha _; exact ha
        | cons y p ih =>
          intro a ha hp
          rw [risingF, Bool.and_eq_true, inB, Bool.and_eq_true, decide_eq_true_eq] at hp
          exact ih (id y) (by omega) hp.2
      have := h0 _ _ (Int.le_refl 0) h.1
      omega
    · have h0 : ∀ (p : List Int) (a : Int), 0 <= a -> risingF id 64 a p = true -> 0 <= lastK id a p := by
        intro p
        induction p with
        | nil => intro a ha _; exact ha
        | cons y p ih =>
          intro a ha hp
          rw [risingF, Bool.and_eq_true, inB, Bool.and_eq_true, decide_eq_true_eq] at hp
          exact ih (id y) (by omega) hp.2
      exact h0 _ _ (Int.le_refl 0) h
theorem rowF_done2 {l : List Int} {k : Nat} (h : risingF id 64 0 (l.take k) = true) (hk : l.length <= k) (hl : 1 <= l.length /\ l.length <= 8) : true = rowF l := by
  rw [rowF, rising_done h hk, Bool.and_true]; symm; rw [Bool.and_eq_true, decide_eq_true_eq, decide_eq_true_eq]; omega
theorem rowF_len {l : List Int} (hl : ¬ (1 <= l.length /\ l.length <= 8)) : false = rowF l := by
  symm
  rw [rowF, Bool.and_eq_false_iff]; left
  rw [Bool.and_eq_false_iff, decide_eq_false_iff_not, decide_eq_false_iff_not]; omega
end Go.Proofs.Ytbgkcbjebflmbaa
namespace Go.Proofs.Ytbgkcbjebflmbaa
open Go.RowKit
def inL (n a b : Int) : Bool := decide (a <= n) && decide (n <= b)
def sessOk (x : Sess) : Bool := (inB x.seq 0 1048576 && inB x.last.code 0 99) && inB x.last.n 0 1048576
def openOk (x : Opn) : Bool := inB x.client 1 8
theorem all_next {α : Type} {p : α -> Bool} {l : List α} {k : Nat} {x : α} (h : (l.take k).all p = true) (hx : l[k]? = some x) (hp : p x = true) : (l.take (k + 1)).all p = true := by
  rw [take_succ_get hx, List.all_append, h]; simp [hp]
theorem all_stop {α : Type} {p : α -> Bool} {l : List α} {k : Nat} {x : α} (hx : l[k]? = some x) (hp : p x = false) : l.all p = false := by
  rw [List.all_eq_false]; exact ⟨x, List.mem_of_getElem? hx, by simp [hp]⟩
theorem all_done {α : Type} {p : α -> Bool} {l : List α} {k : Nat} (h : (l.take k).all p = true) (hk : l.length <= k) : l.all p = true := by
  rwa [List.take_of_length_le hk] at h
end Go.Proofs.Ytbgkcbjebflmbaa
namespace Go.Proofs.Ytbgkcbjebflmbaa
open Go.RowKit
def sizeF (n : Nat) : Nat := if h : n < 128 then 1 else sizeF (n / 128) + 1
termination_by n
decreasing_by omega
theorem sizeF_step {n : Nat} (h : ¬ n < 128) : sizeF n = sizeF (n / 128) + 1 := by rw [sizeF, dif_neg h]
theorem sizeF_done {n : Nat} (h : n < 128) : sizeF n = 1 := by rw [sizeF, dif_pos h]
theorem sizeF_pos (n : Nat) : 1 <= sizeF n := by rw [sizeF]; split <;> omega
theorem sizeF_le : ∀ (k n : Nat), n < 128 ^ (k + 1) -> sizeF n <= k + 1
  | 0, n, h => by rw [sizeF_done (by simpa using h)]; omega
  | k + 1, n, h => by
    by_cases hn : n < 128
    · rw [sizeF_done hn]; omega
    · rw [sizeF_step hn]
      have := sizeF_le k (n / 128) (by rw [Nat.div_lt_iff_lt_mul (by omega), <- Nat.pow_succ]; exact h)
      omega
theorem sizeF_10 {n : Nat} (h : n < 18446744073709551616) : sizeF n <= 10 := sizeF_le 9 n (Nat.lt_of_lt_of_le h (by decide))
def putB (n i : Nat) : UInt8 := UInt8.ofNat (n / 128 ^ i) ||| 128
def putTo (n k : Nat) : List UInt8 := (List.range k).map (putB n) ++ List.replicate (sizeF n - k) 0
def putF (n : Nat) : List UInt8 := (putTo n (sizeF n)).set (sizeF n - 1) (putB n (sizeF n - 1) &&& 127)
theorem putTo_len {n k : Nat} (h : k <= sizeF n) : (putTo n k).length = sizeF n := by simp [putTo]; omega
theorem putTo_step {n k : Nat} (h : k < sizeF n) : (putTo n k).set k (putB n k) = putTo n (k + 1) := by
  unfold putTo
  rw [List.set_append_right _ _ (by simp), List.range_succ, List.map_append, List.append_assoc]
  congr 1
  obtain ⟨j, hj⟩ : ∃ j, sizeF n - k = j + 1 := ⟨sizeF n - k - 1, by omega⟩
  rw [hj, show sizeF n - (k + 1) = j by omega]
  simp [List.replicate_succ]
theorem putTo_zero (n : Nat) : List.replicate (sizeF n) (0 : UInt8) = putTo n 0 := by simp [putTo]
theorem putTo_last {n : Nat} {x : UInt8} (h : (putTo n (sizeF n))[sizeF n - 1]? = some x) : x = putB n (sizeF n - 1) := by
  have hp := sizeF_pos n
  unfold putTo at h
  rw [List.getElem?_append_left (by simp; omega)] at h
  simp only [List.getElem?_map, List.getElem?_range (show sizeF n - 1 < sizeF n by omega), Option.map_some, Option.some.injEq] at h
  exact h.symm
theorem div_pow {n k : Nat} : n / 128 ^ k / 2 ^ 7 = n / 128 ^ (k + 1) := by show n / 128 ^ k / 128 = _; rw [Nat.div_div_eq_div_mul, Nat.pow_succ]
theorem putF_len (n : Nat) : (putF n).length = sizeF n := by rw [putF, List.length_set, putTo_len (Nat.le_refl _)]
theorem putF_len10 {n : Nat} (h : n < 18446744073709551616) : (putF n).length <= 10 := by rw [putF_len]; exact sizeF_10 h
def putsF (l : List Int) : List UInt8 := l.flatMap fun x => putF x.toNat
theorem puts_step {l : List Int} {k : Nat} {x : Int} (hx : l[k]? = some x) : putsF (l.take k) ++ putF x.toNat = putsF (l.take (k + 1)) := by
  rw [take_succ_get hx]; simp [putsF]
theorem puts_len {l : List Int} (h : ∀ x ∈ l, x <= 64) : (putsF l).length <= 10 * l.length := by
  induction l with
  | nil => simp [putsF]
  | cons a l ih =>
    have h1 := ih fun x hx => h x (List.mem_cons_of_mem _ hx)
    have h2 := putF_len10 (n := a.toNat) (by have := h a (by simp); omega)
    simp only [putsF, List.flatMap_cons, List.length_append, List.length_cons] at *
    omega
theorem row_le {l : List Int} (h : rowF l = true) : ∀ x ∈ l, 0 < x /\ x <= 64 := by
  rw [rowF, Bool.and_eq_true] at h
  have : ∀ (l : List Int) (a : Int), 0 <= a -> risingF id 64 a l = true -> ∀ x ∈ l, 0 < x /\ x <= 64 := by
    intro l
    induction l with
    | nil => intro a _ _ x hx; cases hx
    | cons y l ih =>
      intro a ha hl x hx
      rw [risingF, Bool.and_eq_true, inB, Bool.and_eq_true, decide_eq_true_eq, decide_eq_true_eq] at hl
      have h1 : a + 1 <= y := hl.1.1
      have h2 : y <= 64 := hl.1.2
      rcases List.mem_cons.1 hx with rfl | hx
      · omega
      · exact ih (id y) (by show 0 <= y; omega) hl.2 x hx
  exact this l 0 (by omega) h.2
theorem row_len {l : List Int} (h : rowF l = true) : 1 <= l.length /\ l.length <= 8 := by
  rw [rowF, Bool.and_eq_true, Bool.and_eq_true, decide_eq_true_eq, decide_eq_true_eq] at h
  omega
def chunksB (l : List Int) : List UInt8 := if rowF l then putsF l else []
def chunksE (l : List Int) : Int := if rowF l then 0 else 1
theorem puts_all {l : List Int} {k : Nat} (hr : rowF l = true) (hk : l.length <= k) : putsF (l.take k) = chunksB l := by rw [List.take_of_length_le hk, chunksB, if_pos hr]
theorem chunks_no {l : List Int} (hr : rowF l = false) : [] = chunksB l := by rw [chunksB, hr]; rfl
theorem chunksE_yes {l : List Int} (hr : rowF l = true) : 0 = chunksE l := by rw [chunksE, hr]; rfl
theorem chunksE_no {l : List Int} (hr : rowF l = false) : 1 = chunksE l := by rw [chunksE, hr]; rfl
end Go.Proofs.Ytbgkcbjebflmbaa
namespace Go.Proofs.Ytbgkcbjebflmbaa
open Go.RowKit
def snapOk (v t : Int) (x : Snap) : Bool := ((decide (chunksE x.chunks = 0) && inB x.set 1 8) && (!x.held || decide (2 <= v))) && decide (((x.tag.b.length : Nat) : Int) <= t)
def tagMax (v : Int) : Int := if v < 3 then 0 else 16
def snapsF (s : State) (v : Int) : Bool := !(decide (16 < ((s.snaps.length : Nat) : Int)) || !(risingF Snap.id (s.next - 1) 0 s.snaps)) && s.snaps.all (snapOk v (tagMax v))
def numbersF (s : State) (v : Int) : Bool := ((inB s.version 1 3 && inB s.next 1 1048576) && inB s.keep 0 8) && inB s.quota 0 (if v < 3 then 0 else 64)
def sessF (s : State) : Bool := risingF Sess.client 8 0 s.sess && s.sess.all sessOk
def opensF (s : State) : Bool := risingF Opn.set 8 0 s.opens && s.opens.all openOk
def mayF (s : State) (v : Int) : Int := if !(inB v 1 3) then 1 else if (((!numbersF s v || !sessF s) || !opensF s) || !snapsF s v) then 6 else 0
end Go.Proofs.Ytbgkcbjebflmbaa
namespace Go.Proofs.Ytbgkcbjebflmbaa
open Go.RowKit
theorem may1 {s : State} {v : Int} (h : (!(inB v 1 3)) = true) : 1 = mayF s v := by rw [mayF, if_pos h]
end Go.Proofs.Ytbgkcbjebflmbaa
namespace Go.Proofs.Ytbgkcbjebflmbaa
open Go.RowKit
def snapR (next v : Int) (x : Snap) : Bool := ((((rowF x.chunks && inB x.id 1 (IntKind.i64.wrap (next - 1))) && inB x.set 1 8) && (!x.held || decide (2 <= v))) && decide (((x.tag.b.length : Nat) : Int) <= 16)) && (decide (x.tag = ⟨[]⟩) || decide (3 <= v))
def pairF {α : Type} (p : α -> Bool) (key : α -> Int) (most : Int) (l : List α) : Bool := risingF key most 0 l && l.all p
def ok0F (s : State) (v : Int) : Bool := ((((((decide ((1 : Int) <= s.version)) && (decide (s.version <= (3 : Int)))) && ((decide ((1 : Int) <= s.next)) && (decide (s.next <= (1048576 : Int))))) && ((decide ((0 : Int) <= s.keep)) && (decide (s.keep <= (8 : Int))))) && ((decide ((0 : Int) <= s.quota)) && (decide (s.quota <= (64 : Int))))) && (decide (s.quota = (0 : Int)) || decide ((3 : Int) <= v))) && decide (((s.snaps.length : Nat) : Int) <= (16 : Int))
theorem pair_step {α : Type} {p : α -> Bool} {key : α -> Int} {most : Int} {l : List α} {k : Nat} {x : α} (hx : l[k]? = some x) : pairF p key most (l.take (k + 1)) = (pairF p key most (l.take k) && (inB (key x) 1 most && p x) && (decide (((k : Nat) : Int) = (0 : Int)) || decide (lastK key 0 (l.take k) < key x))) := by
  unfold pairF
  rw [take_succ_get hx, rising_snoc, List.all_append]
  have e : inB (key x) (lastK key 0 (l.take k) + 1) most = true ↔ (lastK key 0 (l.take k) < key x /\ key x <= most) := by
    unfold inB; rw [Bool.and_eq_true, decide_eq_true_eq, decide_eq_true_eq]; omega
  have e1 : inB (key x) 1 most = true ↔ (1 <= key x /\ key x <= most) := by
    unfold inB; rw [Bool.and_eq_true, decide_eq_true_eq, decide_eq_true_eq]
  have hp : ∀ (q : List α) (a : Int), 0 <= a -> risingF key most a q = true -> q ≠ [] -> 1 <= lastK key a q := by
    intro q
    induction q with
    | nil => intro a _ _ h; exact absurd rfl h
    | cons y q ih =>
      intro a ha hq _
      rw [risingF, Bool.and_eq_true, inB, Bool.and_eq_true, decide_eq_true_eq] at hq
      cases q with
      | nil => show 1 <= key y; omega
      | cons z q => exact ih (key y) (by omega) hq.2 (by simp)
  cases hr : risingF key most 0 (l.take k) with
  | false => simp
  | true =>
    by_cases hk : k = 0
    · subst hk
      have h0 : lastK key 0 (l.take 0) = 0 := rfl
      have e2 : inB (key x) (lastK key 0 (l.take 0) + 1) most = inB (key x) 1 most := by rw [h0]; rfl
      rw [e2]; simp
    · have hne : l.take k ≠ [] := by
        intro h
        have h3 : (l.take k).length = 0 := by rw [h]; rfl
        have h2 := get_lt hx
        rw [List.length_take] at h3
        omega
      have h1 := hp _ _ (Int.le_refl 0) hr hne
      have e3 : inB (key x) (lastK key 0 (l.take k) + 1) most = (inB (key x) 1 most && decide (lastK key 0 (l.take k) < key x)) := by
        rw [Bool.eq_iff_iff, Bool.and_eq_true, e, e1, decide_eq_true_eq]; omega
      have e4 : decide (((k : Nat) : Int) = (0 : Int)) = false := decide_eq_false (by omega)
      rw [e3, e4]
      cases inB (key x) 1 most <;> cases decide (lastK key 0 (l.take k) < key x) <;> cases (l.take k).all p <;> cases hpx : p x <;> simp [hpx]
end Go.Proofs.Ytbgkcbjebflmbaa
namespace Go.Proofs.Ytbgkcbjebflmbaa
open Go.RowKit
theorem sess_step {B : Bool} {l : List Sess} {k : Nat} {x : Sess} (hx : l[k]? = some x) : (B && pairF sessOk Sess.client 8 (l.take (k + 1))) = (((((((B && pairF sessOk Sess.client 8 (l.take k)) && ((decide ((1 : Int) <= x.client)) && (decide (x.client <= (8 : Int))))) && ((decide ((0 : Int) <= x.seq)) && (decide (x.seq <= (1048576 : Int))))) && ((decide ((0 : Int) <= x.last.code)) && (decide (x.last.code <= (99 : Int))))) && ((decide ((0 : Int) <= x.last.n)) && (decide (x.last.n <= (1048576 : Int)))))) && (decide (((k : Nat) : Int) = (0 : Int)) || decide (lastK Sess.client 0 (l.take k) < x.client))) := by
  rw [pair_step hx]
  show (B && (_ && (((decide ((1 : Int) <= x.client)) && (decide (x.client <= (8 : Int)))) && ((((decide ((0 : Int) <= x.seq)) && (decide (x.seq <= (1048576 : Int)))) && ((decide ((0 : Int) <= x.last.code)) && (decide (x.last.code <= (99 : Int))))) && ((decide ((0 : Int) <= x.last.n)) && (decide (x.last.n <= (1048576 : Int)))))) && _)) = _
  cases B <;> cases pairF sessOk Sess.client 8 (l.take k) <;> cases ((decide ((1 : Int) <= x.client)) && (decide (x.client <= (8 : Int)))) <;> cases ((decide ((0 : Int) <= x.seq)) && (decide (x.seq <= (1048576 : Int)))) <;> cases ((decide ((0 : Int) <= x.last.code)) && (decide (x.last.code <= (99 : Int)))) <;> cases ((decide ((0 : Int) <= x.last.n)) && (decide (x.last.n <= (1048576 : Int)))) <;> rfl
theorem open_step {B : Bool} {l : List Opn} {k : Nat} {x : Opn} (hx : l[k]? = some x) : (B && pairF openOk Opn.set 8 (l.take (k + 1))) = ((((B && pairF openOk Opn.set 8 (l.take k)) && ((decide ((1 : Int) <= x.set)) && (decide (x.set <= (8 : Int))))) && ((decide ((1 : Int) <= x.client)) && (decide (x.client <= (8 : Int))))) && (decide (((k : Nat) : Int) = (0 : Int)) || decide (lastK Opn.set 0 (l.take k) < x.set))) := by
  rw [pair_step hx]
  show (B && (_ && (((decide ((1 : Int) <= x.set)) && (decide (x.set <= (8 : Int)))) && ((decide ((1 : Int) <= x.client)) && (decide (x.client <= (8 : Int))))) && _)) = _
  cases B <;> cases pairF openOk Opn.set 8 (l.take k) <;> cases ((decide ((1 : Int) <= x.set)) && (decide (x.set <= (8 : Int)))) <;> cases ((decide ((1 : Int) <= x.client)) && (decide (x.client <= (8 : Int)))) <;> rfl
def nairF (s : State) (v : Int) (l : List Snap) : Bool := pairF (snapR s.next v) Snap.id (IntKind.i64.wrap (s.next - 1)) l
theorem snap_step {B : Bool} {s : State} {v : Int} {l : List Snap} {k : Nat} {x : Snap} (hx : l[k]? = some x) : (B && nairF s v (l.take (k + 1))) = (((B && nairF s v (l.take k)) && snapR s.next v x) && (decide (((k : Nat) : Int) = (0 : Int)) || decide (lastK Snap.id 0 (l.take k) < x.id))) := by
  unfold nairF
  rw [pair_step hx]
  have e : (inB x.id 1 (IntKind.i64.wrap (s.next - 1)) && snapR s.next v x) = snapR s.next v x := by
    unfold snapR
    cases inB x.id 1 (IntKind.i64.wrap (s.next - 1)) <;> simp
  rw [e]
  cases B <;> cases pairF (snapR s.next v) Snap.id (IntKind.i64.wrap (s.next - 1)) (l.take k) <;> cases snapR s.next v x <;> rfl
theorem rising_mem {α : Type} {key : α -> Int} {most : Int} : ∀ {l : List α} {a : Int}, 0 <= a -> risingF key most a l = true -> ∀ x ∈ l, 1 <= key x /\ key x <= most
  | [], _, _, _, x, hx => by cases hx
  | y :: l, a, ha, h, x, hx => by
    rw [risingF, Bool.and_eq_true, inB, Bool.and_eq_true, decide_eq_true_eq, decide_eq_true_eq] at h
    rcases List.mem_cons.1 hx with rfl | hx
    · omega
    · exact rising_mem (by omega) h.2 x hx
theorem wrap_ok {z : Int} (h : I64 z) : IntKind.i64.wrap z = z := I64.wrap h
theorem tag_ok {v : Int} {x : Snap} : (decide (((x.tag.b.length : Nat) : Int) <= 16) && (decide (x.tag = ⟨[]⟩) || decide (3 <= v))) = decide (((x.tag.b.length : Nat) : Int) <= tagMax v) := by
  have e : x.tag = ⟨[]⟩ ↔ x.tag.b.length = 0 := by
    constructor
    · intro h; rw [h]; rfl
    · intro h; cases hx : x.tag with | mk b => rw [hx] at h; simp at h; rw [h]
  rw [Bool.eq_iff_iff, Bool.and_eq_true, Bool.or_eq_true, decide_eq_true_eq, decide_eq_true_eq, decide_eq_true_eq, decide_eq_true_eq, e, tagMax]
  split <;> omega
theorem chunksE_eq (l : List Int) : decide (chunksE l = 0) = rowF l := by
  unfold chunksE; cases rowF l <;> rfl
theorem snapR_eq {next v : Int} {x : Snap} (hw : IntKind.i64.wrap (next - 1) = next - 1) (h : 1 <= x.id /\ x.id <= next - 1) : snapR next v x = snapOk v (tagMax v) x := by
  have e : inB x.id 1 (next - 1) = true := by rw [inB, Bool.and_eq_true, decide_eq_true_eq, decide_eq_true_eq]; exact h
  unfold snapR snapOk
  rw [hw, e, chunksE_eq, <- tag_ok]
  cases rowF x.chunks <;> cases inB x.set 1 8 <;> cases (!x.held || decide (2 <= v)) <;> simp
theorem quota_eq {q v : Int} : (((decide ((0 : Int) <= q)) && (decide (q <= (64 : Int)))) && (decide (q = (0 : Int)) || decide ((3 : Int) <= v))) = inB q 0 (if v < 3 then 0 else 64) := by
  rw [Bool.eq_iff_iff, inB]
  simp only [Bool.and_eq_true, Bool.or_eq_true, decide_eq_true_eq]
  split <;> omega
theorem mayR {s : State} {v : Int} {k k2 k3 : Nat} (h1 : s.sess.length <= k) (h2 : s.opens.length <= k2) (h3 : s.snaps.length <= k3) :
    (((ok0F s v && pairF sessOk Sess.client 8 (s.sess.take k)) && pairF openOk Opn.set 8 (s.opens.take k2)) && nairF s v (s.snaps.take k3)) = !(((!numbersF s v || !sessF s) || !opensF s) || !snapsF s v) := by
  rw [List.take_of_length_le h1, List.take_of_length_le h2, List.take_of_length_le h3]
  have e0 : ok0F s v = (numbersF s v && decide (((s.snaps.length : Nat) : Int) <= (16 : Int))) := by
    unfold ok0F numbersF
    rw [<- quota_eq]
    show ((((_ && inB s.next 1 1048576) && _) && _) && _ && _) = _
    simp only [inB, Bool.and_assoc]
  have e1 : pairF sessOk Sess.client 8 s.sess = sessF s := rfl
  have e2 : pairF openOk Opn.set 8 s.opens = opensF s := rfl
  rw [e0, e1, e2]
  cases hn : numbersF s v with
  | false => simp
  | true =>
    have hnx : 1 <= s.next /\ s.next <= 1048576 := by
      unfold numbersF at hn
      simp only [Bool.and_eq_true, inB, decide_eq_true_eq] at hn
      exact hn.1.1.2
    have hw : IntKind.i64.wrap (s.next - 1) = s.next - 1 := wrap_ok ⟨by omega, by omega⟩
    have e3 : (decide (((s.snaps.length : Nat) : Int) <= (16 : Int)) && nairF s v s.snaps) = snapsF s v := by
      unfold nairF pairF snapsF
      rw [hw]
      have ed : decide (16 < ((s.snaps.length : Nat) : Int)) = !decide (((s.snaps.length : Nat) : Int) <= (16 : Int)) := by
        rw [<- decide_not, Bool.eq_iff_iff, decide_eq_true_eq, decide_eq_true_eq]; omega
      rw [ed]
      cases hr : risingF Snap.id (s.next - 1) 0 s.snaps with
      | false => simp
      | true =>
        have : s.snaps.all (snapR s.next v) = s.snaps.all (snapOk v (tagMax v)) := by
          rw [Bool.eq_iff_iff, List.all_eq_true, List.all_eq_true]
          constructor
          · intro h x hx; rw [<- snapR_eq hw (rising_mem (Int.le_refl 0) hr x hx)]; exact h x hx
          · intro h x hx; rw [snapR_eq hw (rising_mem (Int.le_refl 0) hr x hx)]; exact h x hx
        rw [this]
        cases decide (((s.snaps.length : Nat) : Int) <= (16 : Int)) <;> simp
    rw [<- e3]
    cases sessF s <;> cases opensF s <;> cases decide (((s.snaps.length : Nat) : Int) <= (16 : Int)) <;> cases nairF s v s.snaps <;> rfl
theorem mayR6 {s : State} {v : Int} {k k2 k3 : Nat} (hv : (!(inB v 1 3)) = false) (h1 : s.sess.length <= k) (h2 : s.opens.length <= k2) (h3 : s.snaps.length <= k3)
    (h : (!(((ok0F s v && pairF sessOk Sess.client 8 (s.sess.take k)) && pairF openOk Opn.set 8 (s.opens.take k2)) && nairF s v (s.snaps.take k3))) = true) : 6 = mayF s v := by
  rw [mayR h1 h2 h3, Bool.not_not] at h
  rw [mayF, hv, if_neg (by decide), if_pos h]
theorem mayR0 {s : State} {v : Int} {k k2 k3 : Nat} (hv : (!(inB v 1 3)) = false) (h1 : s.sess.length <= k) (h2 : s.opens.length <= k2) (h3 : s.snaps.length <= k3)
    (h : (!(((ok0F s v && pairF sessOk Sess.client 8 (s.sess.take k)) && pairF openOk Opn.set 8 (s.opens.take k2)) && nairF s v (s.snaps.take k3))) = false) : 0 = mayF s v := by
  rw [mayR h1 h2 h3, Bool.not_not] at h
  rw [mayF, hv, if_neg (by decide), h, if_neg (by decide)]
end Go.Proofs.Ytbgkcbjebflmbaa
namespace Go.Proofs.Ytbgkcbjebflmbaa
open Go.RowKit
def needF (k : Int) : Int := mgetA 0 k [((1 : Int), (1 : Int)), ((2 : Int), (1 : Int)), ((3 : Int), (1 : Int)), ((4 : Int), (1 : Int)), ((5 : Int), (1 : Int)), ((6 : Int), (1 : Int)), ((7 : Int), (1 : Int)), ((8 : Int), (1 : Int)), ((9 : Int), (2 : Int)), ((10 : Int), (2 : Int)), ((11 : Int), (3 : Int)), ((12 : Int), (3 : Int))]
theorem need_at {k : Int} (h : 1 <= k /\ k <= 12) : needF k = if k <= 8 then 1 else if k <= 10 then 2 else 3 := by
  have : k = 1 \/ k = 2 \/ k = 3 \/ k = 4 \/ k = 5 \/ k = 6 \/ k = 7 \/ k = 8 \/ k = 9 \/ k = 10 \/ k = 11 \/ k = 12 := by omega
  rcases this with rfl | rfl | rfl | rfl | rfl | rfl | rfl | rfl | rfl | rfl | rfl | rfl <;> rfl
theorem need_no {k : Int} (h : ¬ (1 <= k /\ k <= 12)) : needF k = 0 := by
  unfold needF
  simp only [mgetA]
  repeat rw [if_neg (by omega)]
theorem inT {n a b : Int} (h : inB n a b = true) : a <= n /\ n <= b := by unfold inB at h; rw [Bool.and_eq_true, decide_eq_true_eq, decide_eq_true_eq] at h; exact h
theorem inF {n a b : Int} (h : inB n a b = false) : ¬ (a <= n /\ n <= b) := fun h2 => by
  have : inB n a b = true := by unfold inB; rw [Bool.and_eq_true, decide_eq_true_eq, decide_eq_true_eq]; exact h2
  rw [h] at this; cases this
def fewF (c : Command) : Command := { c with chunks := c.chunks.take 12, text := c.text.cut 0 40 }
def projF (c : Command) (v : Int) : Command := { c with text := if v < 3 then ⟨[]⟩ else c.text }
def idxI (x : Int) (l : List Int) : Int := match l.findIdx? (fun y => decide (x = y)) with | some i => (i : Int) | none => -1
theorem idxI_yes {x y : Int} {l : List Int} {k : Nat} (h : ∀ j y, j < k -> l[j]? = some y -> ¬ x = y) (hy : l[k]? = some y) (hxy : x = y) : (k : Int) = idxI x l := by
  have : l.findIdx? (fun y => decide (x = y)) = some k := by
    obtain ⟨hk, rfl⟩ := List.getElem?_eq_some_iff.1 hy
    rw [List.findIdx?_eq_some_iff_getElem]
    exact ⟨hk, decide_eq_true hxy, fun j hj => by simpa using h j _ hj (List.getElem?_eq_getElem (by omega))⟩
  simp [idxI, this]
theorem contI (x : Int) (l : List Int) : decide (0 <= idxI x l) = l.contains x := by
  unfold idxI
  cases h : l.findIdx? (fun y => decide (x = y)) with
  | none =>
    rw [List.findIdx?_eq_none_iff] at h
    have : l.contains x = false := by
      rw [<- Bool.not_eq_true, List.contains_iff_mem]
      intro hm; have := h x hm; simp at this
    rw [this]; rfl
  | some i =>
    rw [List.findIdx?_eq_some_iff_getElem] at h
    obtain ⟨hi, hp, _⟩ := h
    have : l.contains x = true := by
      rw [List.contains_iff_mem, of_decide_eq_true hp]; exact List.getElem_mem hi
    rw [this]; simp
def wthF (n most : Int) (named : Bool) : Bool := if named then (decide (1 <= n) && decide (n <= most)) else decide (n = 0)
def spanF (k : Int) : Int × Int := mgetA (0, 0) k [((6 : Int), ((0 : Int), (8 : Int))), ((8 : Int), ((2 : Int), (3 : Int))), ((12 : Int), ((0 : Int), (64 : Int)))]
def chF (c : Command) : Bool := if c.kind = 3 then rowF c.chunks else decide (((c.chunks.length : Nat) : Int) = 0)
def txF (c : Command) : Bool := if c.kind = 11 then decide (((c.text.b.length : Nat) : Int) <= 16) else decide (c.text = ⟨[]⟩)
def fitsF (c : Command) : Bool := ((((((((decide ((spanF c.kind).1 <= c.n) && decide (c.n <= (spanF c.kind).2)) && chF c) && txF c) && wthF c.client 8 (!([(8 : Int)].contains c.kind))) && wthF c.seq 1048576 (!([(1 : Int), 8].contains c.kind))) && wthF c.set 8 ([(2 : Int), 3, 4].contains c.kind)) && wthF c.id 1048576 ([(5 : Int), 7, 9, 10, 11].contains c.kind)))
def mayC (c : Command) (v : Int) : Int := if !(inB v 1 3) || decide (needF c.kind = 0) then 1 else if v < needF c.kind then 10 else if !fitsF c then 1 else 0
end Go.Proofs.Ytbgkcbjebflmbaa
namespace Go.Proofs.Ytbgkcbjebflmbaa
open Go.RowKit
def ndF (n : Int) (used : Bool) (lo hi : Int) : Bool := if used then (decide (lo <= n) && decide (n <= hi)) else decide (n = 0)
def cltR (k : Int) : Int × Int := (if k = 8 then 2 else 0, if k = 8 then 3 else if k = 12 then 64 else 8)
theorem str_nil {s : Str} : decide (((s.b.length : Nat) : Int) = 0) = decide (s = ⟨[]⟩) := by
  cases s with | mk b =>
  cases b with
  | nil => simp
  | cons a t => rw [Bool.eq_iff_iff]; simp; omega
theorem cont_client {k : Int} : (!decide (k = 8)) = (!([(8 : Int)].contains k)) := by
  rw [Bool.eq_iff_iff]; simp
theorem cont_seq {k : Int} : (!decide (k = 8) && !decide (k = 1)) = (!([(1 : Int), 8].contains k)) := by
  rw [Bool.eq_iff_iff]; simp; omega
theorem cont_set {k : Int} : (decide (2 <= k) && decide (k <= 4)) = ([(2 : Int), 3, 4].contains k) := by
  rw [Bool.eq_iff_iff]; simp; omega
theorem cont_id {k : Int} : ((decide (k = 5) || decide (k = 7)) || (decide (9 <= k) && decide (k <= 11))) = ([(5 : Int), 7, 9, 10, 11].contains k) := by
  rw [Bool.eq_iff_iff]; simp; omega
theorem span_n {k n : Int} : ndF n ((decide (k = 6) || decide (k = 8)) || decide (k = 12)) (cltR k).1 (cltR k).2 = (decide ((spanF k).1 <= n) && decide (n <= (spanF k).2)) := by
  by_cases h6 : k = 6
  · subst h6; rfl
  by_cases h8 : k = 8
  · subst h8; rfl
  by_cases h12 : k = 12
  · subst h12; rfl
  have e : spanF k = (0, 0) := by simp [spanF, mgetA, h6, h8, h12]
  rw [e, Bool.eq_iff_iff]
  simp [ndF, h6, h8, h12]
  omega
theorem text_k {c : Command} : (decide (((c.text.b.length : Nat) : Int) = 0) || (decide (c.kind = 11) && decide (((c.text.b.length : Nat) : Int) <= 16))) = txF c := by
  unfold txF
  by_cases h : c.kind = 11
  · rw [if_pos h, Bool.eq_iff_iff]; simp only [Bool.or_eq_true, Bool.and_eq_true, decide_eq_true_eq, h, true_and]; omega
  · rw [if_neg h, str_nil]; simp [h]
theorem nd_w {n m : Int} {u : Bool} : ndF n u 1 m = wthF n m u := rfl
theorem fits_ref {c : Command} :
    ((((((ndF c.client (!decide (c.kind = 8)) 1 8 && ndF c.seq (!decide (c.kind = 8) && !decide (c.kind = 1)) 1 1048576) && ndF c.set (decide (2 <= c.kind) && decide (c.kind <= 4)) 1 8) &&
      ndF c.id ((decide (c.kind = 5) || decide (c.kind = 7)) || (decide (9 <= c.kind) && decide (c.kind <= 11))) 1 1048576) &&
      ndF c.n ((decide (c.kind = 6) || decide (c.kind = 8)) || decide (c.kind = 12)) (cltR c.kind).1 (cltR c.kind).2) && chF c) &&
      (decide (((c.text.b.length : Nat) : Int) = 0) || (decide (c.kind = 11) && decide (((c.text.b.length : Nat) : Int) <= 16)))) = fitsF c := by
  rw [cont_seq, cont_client, cont_set, cont_id, span_n, text_k]
  unfold fitsF
  simp only [nd_w]
  ac_rfl
theorem mayc1 {c : Command} {v : Int} (h : (!(inB v 1 3) || decide (needF c.kind = 0)) = true) : 1 = mayC c v := by rw [mayC, if_pos h]
theorem mayc10 {c : Command} {v : Int} (h : (!(inB v 1 3) || decide (needF c.kind = 0)) = false) (h2 : v < needF c.kind) : 10 = mayC c v := by rw [mayC, h, if_neg (by decide), if_pos h2]
theorem mayc1f {c : Command} {v : Int} (h : (!(inB v 1 3) || decide (needF c.kind = 0)) = false) (h2 : ¬ v < needF c.kind) (h3 : (!fitsF c) = true) : 1 = mayC c v := by rw [mayC, h, if_neg (by decide), if_neg h2, if_pos h3]
theorem mayc0 {c : Command} {v : Int} (h : (!(inB v 1 3) || decide (needF c.kind = 0)) = false) (h2 : ¬ v < needF c.kind) (h3 : (!fitsF c) = false) : 0 = mayC c v := by rw [mayC, h, if_neg (by decide), if_neg h2, h3, if_neg (by decide)]
end Go.Proofs.Ytbgkcbjebflmbaa
namespace Go.Proofs.Ytbgkcbjebflmbaa
open Go.RowKit
def numsF (c : Command) : Bool := (((inB c.client 0 1048576 && inB c.seq 0 1048576) && inB c.set 0 1048576) && inB c.id 0 1048576) && inB c.n 0 1048576
def forF (c : Command) (v : Int) : Bool := (((inB c.kind 1 99 && (decide (needF c.kind = 0) || decide (v < needF c.kind))) && numsF c) && (decide (((c.chunks.length : Nat) : Int) = 0) || rowF c.chunks)) && (decide (((c.text.b.length : Nat) : Int) = 0) || (decide (3 <= v) && decide (((c.text.b.length : Nat) : Int) <= 16)))
end Go.Proofs.Ytbgkcbjebflmbaa
namespace Go.Proofs.Ytbgkcbjebflmbaa
open Go.RowKit
def thereF (k : Int) : Bool := decide (1 <= k) && decide (k <= 3)
theorem takeD {α : Type} {a b : List α} {k : Nat} {d : α} (h : a.take k = b.take k) (ha : k < a.length) (hb : k < b.length) (e : a.getD k d = b.getD k d) : a.take (k + 1) = b.take (k + 1) := by
  have h1 : a[k]? = some (a.getD k d) := by rw [List.getD_eq_getElem?_getD, List.getElem?_eq_getElem ha]; rfl
  have h2 : b[k]? = some (b.getD k d) := by rw [List.getD_eq_getElem?_getD, List.getElem?_eq_getElem hb]; rfl
  rw [take_succ_get h1, take_succ_get h2, h, e]
theorem str_take {s : Str} {n : Nat} (h : (s.b.length : Int) <= n) : s = ⟨s.b.take n⟩ := by
  cases s; rw [List.take_of_length_le (by simpa using h)]
theorem rowL {l : List Int} {k : Nat} {x : Int} (hx : l[k]? = some x) : x = lastK id 0 (l.take (k + 1)) := lastK_snoc (key := id) hx
theorem rowNx {l : List Int} {k : Nat} {x : Int} (h : risingF id 64 0 (l.take k) = true) (hx : l[k]? = some x) (h1 : lastK id 0 (l.take k) < x) (h2 : x <= 64) : risingF id 64 0 (l.take (k + 1)) = true := rising_next (key := id) h hx (by dsimp only [id]; omega) (by dsimp only [id]; omega)
def Lrow (l : List Int) : List (Nat × LI) := [(5, { σ := Nat, F := fun k => ([(3, one (.int (lastK id 0 (l.take k)))), (14, one (.fz .int (l))), (15, one (.int (l).length)), (16, one (.int k))], []), J := fun k => k <= l.length /\ risingF id 64 0 (l.take k) = true /\ 1 <= l.length /\ l.length <= 8, μ := fun k => (l).length - k })]
def Lints (a : List Int) (b : List Int) : List (Nat × LI) := [(4, { σ := Nat, F := fun k => ([(0, one (.fz .int (a))), (1, one (.fz .int (b))), (5, one (.int k))], []), J := fun k => k <= a.length /\ a.length = b.length /\ a.take k = b.take k, μ := fun k => a.length - k })]
theorem there_t (k : Int) (r0 : Bool) : wpP tyT orc0 [] Try.f93 [.c (.int (k))] [] [.c (.bool (.atom (r0)))] = (I64 k -> (decide ((1 : Int) <= k) && decide (k <= (3 : Int))) = r0) := by kernel_rfl
theorem there_s (k : Int) : Sat Try.prog (shpOf tyT) 93 [.c (.int (k))] [] ⟨[], [.c (.bool (.atom ((thereF k))))], none, false⟩ := by
  refine sat_p orc0_ok [] Try.func93 (by decide) (by kernel_rfl) ?_
  rw [there_t]
  grind [thereF]
theorem row_t (l : List Int) (r0 : Bool) : wpP tyT orc0 (Lrow l) Try.f111 [.c (.fz .int (l))] [] [.c (.bool (.atom (r0)))] = (l.length * (8 : Nat) <= (140737488355328 : Nat) -> ((↑l.length : Int) < (1 : Int) \/ (8 : Int) < (↑l.length : Int) -> false = r0) /\ ((1 : Int) <= (↑l.length : Int) /\ (↑l.length : Int) <= (8 : Int) -> ∃ (s0 : Nat), ((0 : Int) = lastK id (0 : Int) (List.take s0 l) /\ l = l /\ (↑l.length : Int) = (↑l.length : Int) /\ (0 : Int) = (↑s0 : Int)) /\ (s0 <= l.length /\ risingF id (64 : Int) (0 : Int) (List.take s0 l) = true /\ (1 : Nat) <= l.length /\ l.length <= (8 : Nat)) /\ ∀ (s : Nat), s <= l.length /\ risingF id (64 : Int) (0 : Int) (List.take s l) = true /\ (1 : Nat) <= l.length /\ l.length <= (8 : Nat) -> ((↑s : Int) < (↑l.length : Int) -> (0 : Int) <= (↑s : Int) /\ (↑s : Int) < (↑l.length : Int) /\ ∀ (x : Int), l[s]? = some x -> I64 x -> (x <= lastK id (0 : Int) (List.take s l) \/ (64 : Int) < x -> false = r0) /\ (lastK id (0 : Int) (List.take s l) < x /\ x <= (64 : Int) -> I64 ((↑s : Int) + (1 : Int)) /\ ∃ (s' : Nat), (x = lastK id (0 : Int) (List.take s' l) /\ l = l /\ (↑l.length : Int) = (↑l.length : Int) /\ (↑s : Int) + (1 : Int) = (↑s' : Int)) /\ (s' <= l.length /\ risingF id (64 : Int) (0 : Int) (List.take s' l) = true /\ (1 : Nat) <= l.length /\ l.length <= (8 : Nat)) /\ l.length - s' < l.length - s)) /\ ((↑l.length : Int) <= (↑s : Int) -> true = r0))) := by kernel_rfl
theorem row_s (l : List Int) : Sat Try.prog (shpOf tyT) 111 [.c (.fz .int (l))] [] ⟨[], [.c (.bool (.atom ((rowF l))))], none, false⟩ := by
  refine sat_p orc0_ok (Lrow l) Try.func111 (by decide) (by kernel_rfl) ?_
  rw [row_t]
  (repeat' (first | refine And.intro ?_ ?_ | intro))
  all_goals try (grind [rowF_len, rowF_stop, rowF_done2, rowL, rowNx, risingF, lastK])
  all_goals (refine ⟨0, ?_⟩; (repeat' (first | refine And.intro ?_ ?_ | intro)))
  all_goals try (grind [rowF_len, rowF_stop, rowF_done2, rowL, rowNx, risingF, lastK])
  all_goals (refine ⟨‹Nat› + 1, ?_⟩; (repeat' (first | refine And.intro ?_ ?_ | intro)))
  all_goals grind [rowF_len, rowF_stop, rowF_done2, rowL, rowNx, risingF, lastK]
theorem ints_t (a : List Int) (b : List Int) (r0 : Bool) : wpP tyT orc0 (Lints a b) Try.f20 [.c (.fz .int (a)), .c (.fz .int (b))] [] [.c (.bool (.atom (r0)))] = (a.length * (8 : Nat) <= (140737488355328 : Nat) -> b.length * (8 : Nat) <= (140737488355328 : Nat) -> (¬(↑a.length : Int) = (↑b.length : Int) -> false = r0) /\ ((↑a.length : Int) = (↑b.length : Int) -> ∃ (s0 : Nat), (a = a /\ b = b /\ (0 : Int) = (↑s0 : Int)) /\ (s0 <= a.length /\ a.length = b.length /\ List.take s0 a = List.take s0 b) /\ ∀ (s : Nat), s <= a.length /\ a.length = b.length /\ List.take s a = List.take s b -> ((↑s : Int) < (↑a.length : Int) -> (0 : Int) <= (↑s : Int) /\ (↑s : Int) < (↑a.length : Int) /\ (0 : Int) <= (↑s : Int) /\ (↑s : Int) < (↑b.length : Int) /\ (I64 (a.getD s (dflt Sh.int)) -> I64 (b.getD s (dflt Sh.int)) -> (¬a.getD s (dflt Sh.int) = b.getD s (dflt Sh.int) -> false = r0) /\ (a.getD s (dflt Sh.int) = b.getD s (dflt Sh.int) -> I64 ((↑s : Int) + (1 : Int)) /\ ∃ (s' : Nat), (a = a /\ b = b /\ (↑s : Int) + (1 : Int) = (↑s' : Int)) /\ (s' <= a.length /\ a.length = b.length /\ List.take s' a = List.take s' b) /\ a.length - s' < a.length - s))) /\ ((↑a.length : Int) <= (↑s : Int) -> true = r0))) := by kernel_rfl
theorem ints_s (a : List Int) (b : List Int) : Sat Try.prog (shpOf tyT) 20 [.c (.fz .int (a)), .c (.fz .int (b))] [] ⟨[], [.c (.bool (.atom ((decide (a = b)))))], none, false⟩ := by
  refine sat_p orc0_ok (Lints a b) Try.func20 (by decide) (by kernel_rfl) ?_
  rw [ints_t]
  (repeat' (first | refine And.intro ?_ ?_ | intro))
  all_goals try (grind [take_succ_get])
  all_goals (refine ⟨0, ?_⟩; (repeat' (first | refine And.intro ?_ ?_ | intro)))
  all_goals try (grind [take_succ_get])
  all_goals (refine ⟨‹Nat› + 1, ?_⟩; (repeat' (first | refine And.intro ?_ ?_ | intro)))
  all_goals first | exact takeD (by grind) (by omega) (by omega) (by with_reducible assumption) | grind
theorem need_t (x : Int) (r0 : Int) : wpP tyT orc0 [] Try.f92 [.c (.int (x))] [] [.c (.int (r0))] = (I64 x -> ((fun (j : Int) => if j = (12 : Int) then some (3 : Int) else (fun (j : Int) => if j = (11 : Int) then some (3 : Int) else (fun (j : Int) => if j = (10 : Int) then some (2 : Int) else (fun (j : Int) => if j = (9 : Int) then some (2 : Int) else (fun (j : Int) => if j = (8 : Int) then some (1 : Int) else (fun (j : Int) => if j = (7 : Int) then some (1 : Int) else (fun (j : Int) => if j = (6 : Int) then some (1 : Int) else (fun (j : Int) => if j = (5 : Int) then some (1 : Int) else (fun (j : Int) => if j = (4 : Int) then some (1 : Int) else (fun (j : Int) => if j = (3 : Int) then some (1 : Int) else (fun (j : Int) => if j = (2 : Int) then some (1 : Int) else (fun (j : Int) => if j = (1 : Int) then some (1 : Int) else (fun (_ : Int) => none) j) j) j) j) j) j) j) j) j) j) j) j) x).getD (dflt Sh.int) = r0) := by kernel_rfl
theorem need_s (x : Int) : Sat Try.prog (shpOf tyT) 92 [.c (.int (x))] [] ⟨[], [.c (.int ((needF x)))], none, false⟩ := by
  refine sat_p orc0_ok [] Try.func92 (by decide) (by kernel_rfl) ?_
  rw [need_t]
  intro _
  simp only [needF, mgetA]
  by_cases h : 1 <= x /\ x <= 12
  · have h2 : x = 1 \/ x = 2 \/ x = 3 \/ x = 4 \/ x = 5 \/ x = 6 \/ x = 7 \/ x = 8 \/ x = 9 \/ x = 10 \/ x = 11 \/ x = 12 := by omega
    rcases h2 with rfl | rfl | rfl | rfl | rfl | rfl | rfl | rfl | rfl | rfl | rfl | rfl <;> rfl
  · have h1 : ¬ x = 1 := by omega
    have h2 : ¬ x = 2 := by omega
    have h3 : ¬ x = 3 := by omega
    have h4 : ¬ x = 4 := by omega
    have h5 : ¬ x = 5 := by omega
    have h6 : ¬ x = 6 := by omega
    have h7 : ¬ x = 7 := by omega
    have h8 : ¬ x = 8 := by omega
    have h9 : ¬ x = 9 := by omega
    have h10 : ¬ x = 10 := by omega
    have h11 : ¬ x = 11 := by omega
    have h12 : ¬ x = 12 := by omega
    simp [h1, h2, h3, h4, h5, h6, h7, h8, h9, h10, h11, h12, dflt]
theorem has_t (s : Span) (k : Int) (r0 : Bool) : wpP tyT orc0 [] Try.f110 [.agg (cellsOf (.nm .span) s), .c (.int (k))] [] [.c (.bool (.atom (r0)))] = (I64 s.lo -> I64 s.hi -> I64 k -> (decide (s.lo <= k) && decide (k <= s.hi)) = r0) := by kernel_rfl
theorem has_s (s : Span) (k : Int) : Sat Try.prog (shpOf tyT) 110 [.agg (cellsOf (.nm .span) s), .c (.int (k))] [] ⟨[], [.c (.bool (.atom ((decide (s.lo <= k) && decide (k <= s.hi)))))], none, false⟩ := by
  refine sat_p orc0_ok [] Try.func110 (by decide) (by kernel_rfl) ?_
  rw [has_t]
  grind
theorem within_t (n : Int) (a : Int) (b : Int) (r0 : Bool) : wpP tyT orc0 [] Try.f83 [.c (.int (n)), .c (.int (a)), .c (.int (b))] [] [.c (.bool (.atom (r0)))] = (I64 n -> I64 a -> I64 b -> (decide (a <= n) && decide (n <= b)) = r0) := by kernel_rfl
theorem within_s (n : Int) (a : Int) (b : Int) : Sat Try.prog (shpOf tyT) 83 [.c (.int (n)), .c (.int (a)), .c (.int (b))] [] ⟨[], [.c (.bool (.atom ((inB n a b))))], none, false⟩ := by
  refine sat_p orc0_ok [] Try.func83 (by decide) (by kernel_rfl) ?_
  rw [within_t]
  grind [inB]
theorem in7_t (n : Int) (a : Int) (b : Int) (r0 : Bool) : wpP tyT orc0 [] Try.f33 [.c (.int (n)), .c (.int (a)), .c (.int (b))] [] [.c (.bool (.atom (r0)))] = (I64 n -> I64 a -> I64 b -> (decide (a <= n) && decide (n <= b)) = r0) := by kernel_rfl
theorem in7_s (n : Int) (a : Int) (b : Int) : Sat Try.prog (shpOf tyT) 33 [.c (.int (n)), .c (.int (a)), .c (.int (b))] [] ⟨[], [.c (.bool (.atom ((inB n a b))))], none, false⟩ := by
  refine sat_p orc0_ok [] Try.func33 (by decide) (by kernel_rfl) ?_
  rw [in7_t]
  grind [inB]
theorem in5_t (n : Int) (a : Int) (b : Int) (r0 : Bool) : wpP tyT orc0 [] Try.f36 [.c (.int (n)), .c (.int (a)), .c (.int (b))] [] [.c (.bool (.atom (r0)))] = (I64 n -> I64 a -> I64 b -> (decide (a <= n) && decide (n <= b)) = r0) := by kernel_rfl
theorem in5_s (n : Int) (a : Int) (b : Int) : Sat Try.prog (shpOf tyT) 36 [.c (.int (n)), .c (.int (a)), .c (.int (b))] [] ⟨[], [.c (.bool (.atom ((inB n a b))))], none, false⟩ := by
  refine sat_p orc0_ok [] Try.func36 (by decide) (by kernel_rfl) ?_
  rw [in5_t]
  grind [inB]
theorem clientOf_t (x : Sess) (r0 : Int) : wpP tyT orc0 [] Try.f67 [.agg (cellsOf (.nm .sess) x)] [] [.c (.int (r0))] = (I64 x.client -> I64 x.seq -> I64 x.last.code -> I64 x.last.n -> x.client = r0) := by kernel_rfl
theorem clientOf_s (x : Sess) : Sat Try.prog (shpOf tyT) 67 [.agg (cellsOf (.nm .sess) x)] [] ⟨[], [.c (.int ((x.client)))], none, false⟩ := by
  refine sat_p orc0_ok [] Try.func67 (by decide) (by kernel_rfl) ?_
  rw [clientOf_t]
  grind
theorem setOf_t (x : Opn) (r0 : Int) : wpP tyT orc0 [] Try.f88 [.agg (cellsOf (.nm .opn) x)] [] [.c (.int (r0))] = (I64 x.set -> I64 x.client -> x.set = r0) := by kernel_rfl
theorem setOf_s (x : Opn) : Sat Try.prog (shpOf tyT) 88 [.agg (cellsOf (.nm .opn) x)] [] ⟨[], [.c (.int ((x.set)))], none, false⟩ := by
  refine sat_p orc0_ok [] Try.func88 (by decide) (by kernel_rfl) ?_
  rw [setOf_t]
  grind
theorem idOf_t (x : Snap) (r0 : Int) : wpP tyT orc0 [] Try.f72 [.agg (cellsOf (.nm .snap) x)] [] [.c (.int (r0))] = (I64 x.id -> I64 x.set -> x.chunks.length * (8 : Nat) <= (140737488355328 : Nat) -> x.tag.b.length <= (140737488355328 : Nat) -> x.id = r0) := by kernel_rfl
theorem idOf_s (x : Snap) : Sat Try.prog (shpOf tyT) 72 [.agg (cellsOf (.nm .snap) x)] [] ⟨[], [.c (.int ((x.id)))], none, false⟩ := by
  refine sat_p orc0_ok [] Try.func72 (by decide) (by kernel_rfl) ?_
  rw [idOf_t]
  grind
theorem refused_t (e : Int) (r0 : Reply) : wpP tyT orc0 [] Try.f29 [.c (.int (e))] [] [.agg (cellsOf (.nm .reply) r0)] = (I64 e -> e = r0.code /\ (0 : Int) = r0.n) := by kernel_rfl
theorem refused_s (e : Int) : Sat Try.prog (shpOf tyT) 29 [.c (.int (e))] [] ⟨[], [.agg (cellsOf (.nm .reply) (⟨e, 0⟩))], none, false⟩ := by
  refine sat_p orc0_ok [] Try.func29 (by decide) (by kernel_rfl) ?_
  rw [refused_t]
  grind
theorem few_t (c : Command) (r0 : Command) : wpP tyT orc0 [] Try.f12 [.agg (cellsOf (.nm .command) c)] [] [.agg (cellsOf (.nm .command) r0)] = (I64 c.kind -> I64 c.client -> I64 c.seq -> I64 c.set -> I64 c.id -> I64 c.n -> c.chunks.length * (8 : Nat) <= (140737488355328 : Nat) -> c.text.b.length <= (140737488355328 : Nat) -> ((12 : Int) < (↑c.chunks.length : Int) -> (0 : Int) <= (12 : Int) /\ (12 : Int) <= (↑c.chunks.length : Int) /\ ((40 : Int) < (↑c.text.b.length : Int) -> (0 : Int) <= (40 : Int) /\ (40 : Int) <= (↑c.text.b.length : Int) /\ c.kind = r0.kind /\ c.client = r0.client /\ c.seq = r0.seq /\ c.set = r0.set /\ c.id = r0.id /\ c.n = r0.n /\ List.take (12 : Nat) c.chunks = r0.chunks /\ Str.mk (List.take (40 : Nat) c.text.b) = r0.text) /\ ((↑c.text.b.length : Int) <= (40 : Int) -> c.kind = r0.kind /\ c.client = r0.client /\ c.seq = r0.seq /\ c.set = r0.set /\ c.id = r0.id /\ c.n = r0.n /\ List.take (12 : Nat) c.chunks = r0.chunks /\ c.text = r0.text)) /\ ((↑c.chunks.length : Int) <= (12 : Int) -> ((40 : Int) < (↑c.text.b.length : Int) -> (0 : Int) <= (40 : Int) /\ (40 : Int) <= (↑c.text.b.length : Int) /\ c.kind = r0.kind /\ c.client = r0.client /\ c.seq = r0.seq /\ c.set = r0.set /\ c.id = r0.id /\ c.n = r0.n /\ c.chunks = r0.chunks /\ Str.mk (List.take (40 : Nat) c.text.b) = r0.text) /\ ((↑c.text.b.length : Int) <= (40 : Int) -> c.kind = r0.kind /\ c.client = r0.client /\ c.seq = r0.seq /\ c.set = r0.set /\ c.id = r0.id /\ c.n = r0.n /\ c.chunks = r0.chunks /\ c.text = r0.text))) := by kernel_rfl
theorem few_s (c : Command) : Sat Try.prog (shpOf tyT) 12 [.agg (cellsOf (.nm .command) c)] [] ⟨[], [.agg (cellsOf (.nm .command) (fewF c))], none, false⟩ := by
  refine sat_p orc0_ok [] Try.func12 (by decide) (by kernel_rfl) ?_
  rw [few_t]
  simp only [fewF, Str.cut]; (repeat' (first | refine And.intro ?_ ?_ | intro)) <;> first | trivial | rfl | omega | (symm; exact List.take_of_length_le (by omega)) | exact str_take (by omega)
def O_P1 : Orc := (orc 12 (con (tCons (kT (.nm .command)) tNil) hNil fun (c, _) (_) => ⟨[], [.agg (cellsOf (.nm .command) (fewF c))], none, false⟩) (orc 29 (con (tCons (kC cI) tNil) hNil fun (e, _) (_) => ⟨[], [.agg (cellsOf (.nm .reply) (⟨e, 0⟩))], none, false⟩) (orc 72 (con (tCons (kT (.nm .snap)) tNil) hNil fun (x, _) (_) => ⟨[], [.c (.int ((x.id)))], none, false⟩) (orc 88 (con (tCons (kT (.nm .opn)) tNil) hNil fun (x, _) (_) => ⟨[], [.c (.int ((x.set)))], none, false⟩) (orc 67 (con (tCons (kT (.nm .sess)) tNil) hNil fun (x, _) (_) => ⟨[], [.c (.int ((x.client)))], none, false⟩) (orc 36 (con (tCons (kC cI) (tCons (kC cI) (tCons (kC cI) tNil))) hNil fun (n, a, b, _) (_) => ⟨[], [.c (.bool (.atom ((inB n a b))))], none, false⟩) (orc 33 (con (tCons (kC cI) (tCons (kC cI) (tCons (kC cI) tNil))) hNil fun (n, a, b, _) (_) => ⟨[], [.c (.bool (.atom ((inB n a b))))], none, false⟩) (orc 83 (con (tCons (kC cI) (tCons (kC cI) (tCons (kC cI) tNil))) hNil fun (n, a, b, _) (_) => ⟨[], [.c (.bool (.atom ((inB n a b))))], none, false⟩) (orc 110 (con (tCons (kT (.nm .span)) (tCons (kC cI) tNil)) hNil fun (s, k, _) (_) => ⟨[], [.c (.bool (.atom ((decide (s.lo <= k) && decide (k <= s.hi)))))], none, false⟩) (orc 92 (con (tCons (kC cI) tNil) hNil fun (x, _) (_) => ⟨[], [.c (.int ((needF x)))], none, false⟩) (orc 20 (con (tCons (kC (cL .int)) (tCons (kC (cL .int)) tNil)) hNil fun (a, b, _) (_) => ⟨[], [.c (.bool (.atom ((decide (a = b)))))], none, false⟩) (orc 111 (con (tCons (kC (cL .int)) tNil) hNil fun (l, _) (_) => ⟨[], [.c (.bool (.atom ((rowF l))))], none, false⟩) (orc 93 (con (tCons (kC cI) tNil) hNil fun (k, _) (_) => ⟨[], [.c (.bool (.atom ((thereF k))))], none, false⟩) orc0)))))))))))))
theorem O_P1_ok : OrcOK Try.prog (shpOf tyT) O_P1 := (orc_ok (con_ok (tCons_ok kT_ok tNil_ok) hNil_ok fun (c, _) (_) _ => few_s c ) (orc_ok (con_ok (tCons_ok (kC_ok cI_ok) tNil_ok) hNil_ok fun (e, _) (_) _ => refused_s e ) (orc_ok (con_ok (tCons_ok kT_ok tNil_ok) hNil_ok fun (x, _) (_) _ => idOf_s x ) (orc_ok (con_ok (tCons_ok kT_ok tNil_ok) hNil_ok fun (x, _) (_) _ => setOf_s x ) (orc_ok (con_ok (tCons_ok kT_ok tNil_ok) hNil_ok fun (x, _) (_) _ => clientOf_s x ) (orc_ok (con_ok (tCons_ok (kC_ok cI_ok) (tCons_ok (kC_ok cI_ok) (tCons_ok (kC_ok cI_ok) tNil_ok))) hNil_ok fun (n, a, b, _) (_) _ => in5_s n a b ) (orc_ok (con_ok (tCons_ok (kC_ok cI_ok) (tCons_ok (kC_ok cI_ok) (tCons_ok (kC_ok cI_ok) tNil_ok))) hNil_ok fun (n, a, b, _) (_) _ => in7_s n a b ) (orc_ok (con_ok (tCons_ok (kC_ok cI_ok) (tCons_ok (kC_ok cI_ok) (tCons_ok (kC_ok cI_ok) tNil_ok))) hNil_ok fun (n, a, b, _) (_) _ => within_s n a b ) (orc_ok (con_ok (tCons_ok kT_ok (tCons_ok (kC_ok cI_ok) tNil_ok)) hNil_ok fun (s, k, _) (_) _ => has_s s k ) (orc_ok (con_ok (tCons_ok (kC_ok cI_ok) tNil_ok) hNil_ok fun (x, _) (_) _ => need_s x ) (orc_ok (con_ok (tCons_ok (kC_ok cL_ok) (tCons_ok (kC_ok cL_ok) tNil_ok)) hNil_ok fun (a, b, _) (_) _ => ints_s a b ) (orc_ok (con_ok (tCons_ok (kC_ok cL_ok) tNil_ok) hNil_ok fun (l, _) (_) _ => row_s l ) (orc_ok (con_ok (tCons_ok (kC_ok cI_ok) tNil_ok) hNil_ok fun (k, _) (_) _ => there_s k ) orc0_ok)))))))))))))
end Go.Proofs.Ytbgkcbjebflmbaa
namespace Go.Proofs.Ytbgkcbjebflmbaa
open Go.RowKit
theorem I64_of {n : Int} (h1 : -9223372036854775808 <= n) (h2 : n <= 9223372036854775807) : I64 n := ⟨h1, h2⟩
def placeF {α : Type} (key : α -> Int) (want : Int) (l : List α) : Int := match l.findIdx? (fun x => decide (key x = want)) with
  | some i => (i : Int)
  | none => -1
section
variable {α : Type} {key : α -> Int} {want : Int} {l : List α} {k : Nat} {x : α}
theorem placeF_neg : placeF key want l = -1 ↔ ∀ x ∈ l, ¬ key x = want := by
  unfold placeF
  cases h : l.findIdx? (fun x => decide (key x = want)) with
  | none => simpa using h
  | some i =>
    rw [List.findIdx?_eq_some_iff_getElem] at h
    obtain ⟨h1, h2, _⟩ := h
    simp only [decide_eq_true_eq] at h2
    constructor
    · intro h; dsimp only at h; omega
    · intro h; exact absurd h2 (h _ (List.getElem_mem h1))
theorem place_0 : placeF key want (l.take 0) = -1 := rfl
theorem place_nx (h : placeF key want (l.take k) = -1) (hx : l[k]? = some x) (hn : ¬ key x = want) : placeF key want (l.take (k + 1)) = -1 := by
  rw [placeF_neg] at h ⊢
  rw [take_succ_get hx]
  intro y hy
  rcases List.mem_append.1 hy with hy | hy
  · exact h y hy
  · rw [List.mem_singleton] at hy; subst hy; exact hn
theorem place_no (h : placeF key want (l.take k) = -1) (hk : l.length <= k) : -1 = placeF key want l := by
  rw [List.take_of_length_le hk] at h; exact h.symm
theorem place_yes (h : placeF key want (l.take k) = -1) (hx : l[k]? = some x) (he : key x = want) : (k : Int) = placeF key want l := by
  have : l.findIdx? (fun x => decide (key x = want)) = some k := by
    rw [placeF_neg] at h
    obtain ⟨hk, rfl⟩ := List.getElem?_eq_some_iff.1 hx
    rw [List.findIdx?_eq_some_iff_getElem]
    refine ⟨hk, decide_eq_true he, fun j hj => ?_⟩
    have := h l[j] (by rw [List.mem_take_iff_getElem]; exact ⟨j, by omega, rfl⟩)
    simpa using this
  rw [placeF, this]
end
def LplaceSess (l : List Sess) (want : Int) : List (Nat × LI) := [(2, { σ := Nat, F := fun k => ([(1, one (.int (want))), (2, one (.fn 67 [] [])), (9, one (.fz (.nm .sess) (l))), (10, one (.int (l).length)), (11, one (.int k))], []), J := fun k => k <= l.length /\ placeF Sess.client want (l.take k) = -1, μ := fun k => (l).length - k })]
def LplaceOpen (l : List Opn) (want : Int) : List (Nat × LI) := [(2, { σ := Nat, F := fun k => ([(1, one (.int (want))), (2, one (.fn 88 [] [])), (9, one (.fz (.nm .opn) (l))), (10, one (.int (l).length)), (11, one (.int k))], []), J := fun k => k <= l.length /\ placeF Opn.set want (l.take k) = -1, μ := fun k => (l).length - k })]
def LplaceSnap (l : List Snap) (want : Int) : List (Nat × LI) := [(2, { σ := Nat, F := fun k => ([(1, one (.int (want))), (2, one (.fn 72 [] [])), (9, one (.fz (.nm .snap) (l))), (10, one (.int (l).length)), (11, one (.int k))], []), J := fun k => k <= l.length /\ placeF Snap.id want (l.take k) = -1, μ := fun k => (l).length - k })]
theorem placeSess_t (l : List Sess) (want : Int) (r0 : Int) : wpP tyT O_P1 (LplaceSess l want) Try.f66 [.c (.fz (.nm .sess) (l)), .c (.int (want)), .c (.fn 67 [] [])] [] [.c (.int (r0))] = (l.length * (32 : Nat) <= (140737488355328 : Nat) -> I64 want -> ∃ (s0 : Nat), (want = want /\ l = l /\ (↑l.length : Int) = (↑l.length : Int) /\ (0 : Int) = (↑s0 : Int)) /\ (s0 <= l.length /\ placeF Sess.client want (List.take s0 l) = (-1 : Int)) /\ ∀ (s : Nat), s <= l.length /\ placeF Sess.client want (List.take s l) = (-1 : Int) -> ((↑s : Int) < (↑l.length : Int) -> (0 : Int) <= (↑s : Int) /\ (↑s : Int) < (↑l.length : Int) /\ ∀ (x : Sess), l[s]? = some x -> I64 x.client -> I64 x.seq -> I64 x.last.code -> I64 x.last.n -> I64 x.client -> (x.client = want -> (↑s : Int) = r0) /\ (¬x.client = want -> I64 ((↑s : Int) + (1 : Int)) /\ ∃ (s' : Nat), (want = want /\ l = l /\ (↑l.length : Int) = (↑l.length : Int) /\ (↑s : Int) + (1 : Int) = (↑s' : Int)) /\ (s' <= l.length /\ placeF Sess.client want (List.take s' l) = (-1 : Int)) /\ l.length - s' < l.length - s)) /\ ((↑l.length : Int) <= (↑s : Int) -> (-1 : Int) = r0)) := by kernel_rfl
theorem placeSess_s (l : List Sess) (want : Int) : Sat Try.prog (shpOf tyT) 66 [.c (.fz (.nm .sess) (l)), .c (.int (want)), .c (.fn 67 [] [])] [] ⟨[], [.c (.int ((placeF Sess.client want l)))], none, false⟩ := by
  refine sat_p O_P1_ok (LplaceSess l want) Try.func66 (by decide) (by kernel_rfl) ?_
  rw [placeSess_t]
  (repeat' (first | with_reducible refine And.intro ?_ ?_ | with_reducible refine and_imp.2 ?_ | intro))
  all_goals try (first | (first | with_reducible rfl | with_reducible assumption | omega | (refine I64_of ?_ ?_ <;> omega)) | exact (place_0 (key := Sess.client)) | exact (place_yes (key := Sess.client) (by with_reducible assumption) (by with_reducible assumption) (by with_reducible assumption)) | exact (place_no (key := Sess.client) (by with_reducible assumption) (by omega)) | exact (place_nx (key := Sess.client) (by with_reducible assumption) (by with_reducible assumption) (by with_reducible assumption)))
  all_goals try (refine ⟨0, ?_⟩; (repeat' (first | with_reducible refine And.intro ?_ ?_ | with_reducible refine and_imp.2 ?_ | intro)))
  all_goals try (first | (first | with_reducible rfl | with_reducible assumption | omega | (refine I64_of ?_ ?_ <;> omega)) | exact (place_0 (key := Sess.client)) | exact (place_yes (key := Sess.client) (by with_reducible assumption) (by with_reducible assumption) (by with_reducible assumption)) | exact (place_no (key := Sess.client) (by with_reducible assumption) (by omega)) | exact (place_nx (key := Sess.client) (by with_reducible assumption) (by with_reducible assumption) (by with_reducible assumption)))
  all_goals try (refine ⟨‹Nat› + 1, ?_⟩; (repeat' (first | with_reducible refine And.intro ?_ ?_ | with_reducible refine and_imp.2 ?_ | intro)))
  all_goals (first | (first | with_reducible rfl | with_reducible assumption | omega | (refine I64_of ?_ ?_ <;> omega)) | exact (place_0 (key := Sess.client)) | exact (place_yes (key := Sess.client) (by with_reducible assumption) (by with_reducible assumption) (by with_reducible assumption)) | exact (place_no (key := Sess.client) (by with_reducible assumption) (by omega)) | exact (place_nx (key := Sess.client) (by with_reducible assumption) (by with_reducible assumption) (by with_reducible assumption)))
theorem placeOpen_t (l : List Opn) (want : Int) (r0 : Int) : wpP tyT O_P1 (LplaceOpen l want) Try.f96 [.c (.fz (.nm .opn) (l)), .c (.int (want)), .c (.fn 88 [] [])] [] [.c (.int (r0))] = (l.length * (16 : Nat) <= (140737488355328 : Nat) -> I64 want -> ∃ (s0 : Nat), (want = want /\ l = l /\ (↑l.length : Int) = (↑l.length : Int) /\ (0 : Int) = (↑s0 : Int)) /\ (s0 <= l.length /\ placeF Opn.set want (List.take s0 l) = (-1 : Int)) /\ ∀ (s : Nat), s <= l.length /\ placeF Opn.set want (List.take s l) = (-1 : Int) -> ((↑s : Int) < (↑l.length : Int) -> (0 : Int) <= (↑s : Int) /\ (↑s : Int) < (↑l.length : Int) /\ ∀ (x : Opn), l[s]? = some x -> I64 x.set -> I64 x.client -> I64 x.set -> (x.set = want -> (↑s : Int) = r0) /\ (¬x.set = want -> I64 ((↑s : Int) + (1 : Int)) /\ ∃ (s' : Nat), (want = want /\ l = l /\ (↑l.length : Int) = (↑l.length : Int) /\ (↑s : Int) + (1 : Int) = (↑s' : Int)) /\ (s' <= l.length /\ placeF Opn.set want (List.take s' l) = (-1 : Int)) /\ l.length - s' < l.length - s)) /\ ((↑l.length : Int) <= (↑s : Int) -> (-1 : Int) = r0)) := by kernel_rfl
theorem placeOpen_s (l : List Opn) (want : Int) : Sat Try.prog (shpOf tyT) 96 [.c (.fz (.nm .opn) (l)), .c (.int (want)), .c (.fn 88 [] [])] [] ⟨[], [.c (.int ((placeF Opn.set want l)))], none, false⟩ := by
  refine sat_p O_P1_ok (LplaceOpen l want) Try.func96 (by decide) (by kernel_rfl) ?_
  rw [placeOpen_t]
  (repeat' (first | with_reducible refine And.intro ?_ ?_ | with_reducible refine and_imp.2 ?_ | intro))
  all_goals try (first | (first | with_reducible rfl | with_reducible assumption | omega | (refine I64_of ?_ ?_ <;> omega)) | exact (place_0 (key := Opn.set)) | exact (place_yes (key := Opn.set) (by with_reducible assumption) (by with_reducible assumption) (by with_reducible assumption)) | exact (place_no (key := Opn.set) (by with_reducible assumption) (by omega)) | exact (place_nx (key := Opn.set) (by with_reducible assumption) (by with_reducible assumption) (by with_reducible assumption)))
  all_goals try (refine ⟨0, ?_⟩; (repeat' (first | with_reducible refine And.intro ?_ ?_ | with_reducible refine and_imp.2 ?_ | intro)))
  all_goals try (first | (first | with_reducible rfl | with_reducible assumption | omega | (refine I64_of ?_ ?_ <;> omega)) | exact (place_0 (key := Opn.set)) | exact (place_yes (key := Opn.set) (by with_reducible assumption) (by with_reducible assumption) (by with_reducible assumption)) | exact (place_no (key := Opn.set) (by with_reducible assumption) (by omega)) | exact (place_nx (key := Opn.set) (by with_reducible assumption) (by with_reducible assumption) (by with_reducible assumption)))
  all_goals try (refine ⟨‹Nat› + 1, ?_⟩; (repeat' (first | with_reducible refine And.intro ?_ ?_ | with_reducible refine and_imp.2 ?_ | intro)))
  all_goals (first | (first | with_reducible rfl | with_reducible assumption | omega | (refine I64_of ?_ ?_ <;> omega)) | exact (place_0 (key := Opn.set)) | exact (place_yes (key := Opn.set) (by with_reducible assumption) (by with_reducible assumption) (by with_reducible assumption)) | exact (place_no (key := Opn.set) (by with_reducible assumption) (by omega)) | exact (place_nx (key := Opn.set) (by with_reducible assumption) (by with_reducible assumption) (by with_reducible assumption)))
theorem placeSnap_t (l : List Snap) (want : Int) (r0 : Int) : wpP tyT O_P1 (LplaceSnap l want) Try.f71 [.c (.fz (.nm .snap) (l)), .c (.int (want)), .c (.fn 72 [] [])] [] [.c (.int (r0))] = (l.length * (64 : Nat) <= (140737488355328 : Nat) -> I64 want -> ∃ (s0 : Nat), (want = want /\ l = l /\ (↑l.length : Int) = (↑l.length : Int) /\ (0 : Int) = (↑s0 : Int)) /\ (s0 <= l.length /\ placeF Snap.id want (List.take s0 l) = (-1 : Int)) /\ ∀ (s : Nat), s <= l.length /\ placeF Snap.id want (List.take s l) = (-1 : Int) -> ((↑s : Int) < (↑l.length : Int) -> (0 : Int) <= (↑s : Int) /\ (↑s : Int) < (↑l.length : Int) /\ ∀ (x : Snap), l[s]? = some x -> I64 x.id -> I64 x.set -> x.chunks.length * (8 : Nat) <= (140737488355328 : Nat) -> x.tag.b.length <= (140737488355328 : Nat) -> I64 x.id -> (x.id = want -> (↑s : Int) = r0) /\ (¬x.id = want -> I64 ((↑s : Int) + (1 : Int)) /\ ∃ (s' : Nat), (want = want /\ l = l /\ (↑l.length : Int) = (↑l.length : Int) /\ (↑s : Int) + (1 : Int) = (↑s' : Int)) /\ (s' <= l.length /\ placeF Snap.id want (List.take s' l) = (-1 : Int)) /\ l.length - s' < l.length - s)) /\ ((↑l.length : Int) <= (↑s : Int) -> (-1 : Int) = r0)) := by kernel_rfl
theorem placeSnap_s (l : List Snap) (want : Int) : Sat Try.prog (shpOf tyT) 71 [.c (.fz (.nm .snap) (l)), .c (.int (want)), .c (.fn 72 [] [])] [] ⟨[], [.c (.int ((placeF Snap.id want l)))], none, false⟩ := by
  refine sat_p O_P1_ok (LplaceSnap l want) Try.func71 (by decide) (by kernel_rfl) ?_
  rw [placeSnap_t]
  (repeat' (first | with_reducible refine And.intro ?_ ?_ | with_reducible refine and_imp.2 ?_ | intro))
  all_goals try (first | (first | with_reducible rfl | with_reducible assumption | omega | (refine I64_of ?_ ?_ <;> omega)) | exact (place_0 (key := Snap.id)) | exact (place_yes (key := Snap.id) (by with_reducible assumption) (by with_reducible assumption) (by with_reducible assumption)) | exact (place_no (key := Snap.id) (by with_reducible assumption) (by omega)) | exact (place_nx (key := Snap.id) (by with_reducible assumption) (by with_reducible assumption) (by with_reducible assumption)))
  all_goals try (refine ⟨0, ?_⟩; (repeat' (first | with_reducible refine And.intro ?_ ?_ | with_reducible refine and_imp.2 ?_ | intro)))
  all_goals try (first | (first | with_reducible rfl | with_reducible assumption | omega | (refine I64_of ?_ ?_ <;> omega)) | exact (place_0 (key := Snap.id)) | exact (place_yes (key := Snap.id) (by with_reducible assumption) (by with_reducible assumption) (by with_reducible assumption)) | exact (place_no (key := Snap.id) (by with_reducible assumption) (by omega)) | exact (place_nx (key := Snap.id) (by with_reducible assumption) (by with_reducible assumption) (by with_reducible assumption)))
  all_goals try (refine ⟨‹Nat› + 1, ?_⟩; (repeat' (first | with_reducible refine And.intro ?_ ?_ | with_reducible refine and_imp.2 ?_ | intro)))
  all_goals (first | (first | with_reducible rfl | with_reducible assumption | omega | (refine I64_of ?_ ?_ <;> omega)) | exact (place_0 (key := Snap.id)) | exact (place_yes (key := Snap.id) (by with_reducible assumption) (by with_reducible assumption) (by with_reducible assumption)) | exact (place_no (key := Snap.id) (by with_reducible assumption) (by omega)) | exact (place_nx (key := Snap.id) (by with_reducible assumption) (by with_reducible assumption) (by with_reducible assumption)))
def O_P2 : Orc := (orc 71 (con (tCons (kC (cL (.nm .snap))) (tCons (kC cI) (tCons (kC (cFn 72 [] [])) tNil))) hNil fun (l, want, _, _) (_) => ⟨[], [.c (.int ((placeF Snap.id want l)))], none, false⟩) (orc 96 (con (tCons (kC (cL (.nm .opn))) (tCons (kC cI) (tCons (kC (cFn 88 [] [])) tNil))) hNil fun (l, want, _, _) (_) => ⟨[], [.c (.int ((placeF Opn.set want l)))], none, false⟩) (orc 66 (con (tCons (kC (cL (.nm .sess))) (tCons (kC cI) (tCons (kC (cFn 67 [] [])) tNil))) hNil fun (l, want, _, _) (_) => ⟨[], [.c (.int ((placeF Sess.client want l)))], none, false⟩) O_P1)))
theorem O_P2_ok : OrcOK Try.prog (shpOf tyT) O_P2 := (orc_ok (con_ok (tCons_ok (kC_ok cL_ok) (tCons_ok (kC_ok cI_ok) (tCons_ok (kC_ok cFn_ok) tNil_ok))) hNil_ok fun (l, want, _, _) (_) _ => placeSnap_s l want ) (orc_ok (con_ok (tCons_ok (kC_ok cL_ok) (tCons_ok (kC_ok cI_ok) (tCons_ok (kC_ok cFn_ok) tNil_ok))) hNil_ok fun (l, want, _, _) (_) _ => placeOpen_s l want ) (orc_ok (con_ok (tCons_ok (kC_ok cL_ok) (tCons_ok (kC_ok cI_ok) (tCons_ok (kC_ok cFn_ok) tNil_ok))) hNil_ok fun (l, want, _, _) (_) _ => placeSess_s l want ) O_P1_ok)))
end Go.Proofs.Ytbgkcbjebflmbaa
namespace Go.Proofs.Ytbgkcbjebflmbaa
open Go.RowKit
theorem size_nx {n r m : Nat} (h : sizeF n + 1 = sizeF r + m) (hr : 128 <= r) : sizeF n + 1 = sizeF (r / 128) + (m + 1) := by
  have := sizeF_step (n := r) (by omega); omega
theorem size_up {n r m : Nat} (h : sizeF n + 1 = sizeF r + m) (hn : n < 18446744073709551616) : m <= 10 := by
  have := sizeF_10 hn; have := sizeF_pos r; omega
theorem size_end {n r m : Nat} (h : sizeF n + 1 = sizeF r + m) (hr : r < 128) : m = sizeF n := by
  have := sizeF_done hr; omega
section
variable {α : Type} {key : α -> Int} {most : Int} {l : List α} {k : Nat} {x : α}
theorem rs_nx (h : risingF key most 0 (l.take k) = true) (hx : l[k]? = some x) (hb : inB (key x) (lastK key 0 (l.take k) + 1) most = true) : risingF key most 0 (l.take (k + 1)) = true :=
  rising_next h hx (by have := inT hb; omega) (inT hb).2
theorem rs_st (hx : l[k]? = some x) (hb : inB (key x) (lastK key 0 (l.take k) + 1) most = false) : false = risingF key most 0 l :=
  (rising_stop hx (by have := inF hb; omega)).symm
theorem rs_dn (h : risingF key most 0 (l.take k) = true) (hk : l.length <= k) : true = risingF key most 0 l := (rising_done h hk).symm
theorem rs_lo (hx : l[k]? = some x) (h0 : 0 <= lastK key 0 (l.take k)) (hb : inB (key x) (lastK key 0 (l.take k) + 1) most = true) : 0 <= lastK key 0 (l.take (k + 1)) := by
  have := inT hb; rw [<- lastK_snoc hx]; omega
theorem rs_hi (hx : l[k]? = some x) (hb : inB (key x) (lastK key 0 (l.take k) + 1) most = true) (hm : most <= 1048576) : lastK key 0 (l.take (k + 1)) <= 1048576 := by
  have := inT hb; rw [<- lastK_snoc hx]; omega
variable {p : α -> Bool}
theorem al_st (hx : l[k]? = some x) (hp : p x = false) : false = l.all p := (all_stop hx hp).symm
theorem al_dn (h : (l.take k).all p = true) (hk : l.length <= k) : true = l.all p := (all_done h hk).symm
end
def Lsize (n : U64) : List (Nat × LI) := [(2, { σ := Nat × Nat, F := fun s => ([(0, one (.u64 s.1)), (3, one (.int s.2))], []), J := fun s => s.1 < 18446744073709551616 /\ sizeF n.n + 1 = sizeF s.1 + s.2, μ := fun s => s.1 })]
def LrisingSess (l : List Sess) (most : Int) : List (Nat × LI) := [(3, { σ := Nat, F := fun k => ([(1, one (.int (most))), (2, one (.fn 67 [] [])), (7, one (.int (lastK Sess.client 0 (l.take k)))), (10, one (.fz (.nm .sess) (l))), (11, one (.int (l).length)), (12, one (.int k))], []), J := fun k => k <= l.length /\ risingF Sess.client most 0 (l.take k) = true /\ 0 <= lastK Sess.client 0 (l.take k) /\ lastK Sess.client 0 (l.take k) <= 1048576, μ := fun k => (l).length - k })]
def LrisingOpen (l : List Opn) (most : Int) : List (Nat × LI) := [(3, { σ := Nat, F := fun k => ([(1, one (.int (most))), (2, one (.fn 88 [] [])), (7, one (.int (lastK Opn.set 0 (l.take k)))), (10, one (.fz (.nm .opn) (l))), (11, one (.int (l).length)), (12, one (.int k))], []), J := fun k => k <= l.length /\ risingF Opn.set most 0 (l.take k) = true /\ 0 <= lastK Opn.set 0 (l.take k) /\ lastK Opn.set 0 (l.take k) <= 1048576, μ := fun k => (l).length - k })]
def LrisingSnap (l : List Snap) (most : Int) : List (Nat × LI) := [(3, { σ := Nat, F := fun k => ([(1, one (.int (most))), (2, one (.fn 72 [] [])), (7, one (.int (lastK Snap.id 0 (l.take k)))), (10, one (.fz (.nm .snap) (l))), (11, one (.int (l).length)), (12, one (.int k))], []), J := fun k => k <= l.length /\ risingF Snap.id most 0 (l.take k) = true /\ 0 <= lastK Snap.id 0 (l.take k) /\ lastK Snap.id 0 (l.take k) <= 1048576, μ := fun k => (l).length - k })]
theorem size_t (n : U64) (r0 : Int) : wpP tyT O_P2 (Lsize n) Try.f117 [.c (.u64 (n).n)] [] [.c (.int (r0))] = (n.n < (18446744073709551616 : Nat) -> ∃ (s0 : Nat × Nat), (n.n = s0.fst /\ (1 : Int) = (↑s0.snd : Int)) /\ (s0.fst < (18446744073709551616 : Nat) /\ sizeF n.n + (1 : Nat) = sizeF s0.fst + s0.snd) /\ ∀ (s : Nat × Nat), s.fst < (18446744073709551616 : Nat) /\ sizeF n.n + (1 : Nat) = sizeF s.fst + s.snd -> ((↑(128 : Nat) : Int) <= (↑s.fst : Int) -> (7 : Nat) < (64 : Nat) /\ I64 ((↑s.snd : Int) + (1 : Int)) /\ ∃ (s' : Nat × Nat), (s.fst / (2 : Nat) ^ (7 : Nat) = s'.fst /\ (↑s.snd : Int) + (1 : Int) = (↑s'.snd : Int)) /\ (s'.fst < (18446744073709551616 : Nat) /\ sizeF n.n + (1 : Nat) = sizeF s'.fst + s'.snd) /\ s'.fst < s.fst) /\ ((↑s.fst : Int) < (↑(128 : Nat) : Int) -> (↑s.snd : Int) = r0)) := by kernel_rfl
theorem size_s (n : U64) : Sat Try.prog (shpOf tyT) 117 [.c (.u64 (n).n)] [] ⟨[], [.c (.int (((sizeF n.n : Int))))], none, false⟩ := by
  refine sat_p O_P2_ok (Lsize n) Try.func117 (by decide) (by kernel_rfl) ?_
  rw [size_t]
  intro hn
  refine ⟨(n.n, 1), ⟨rfl, rfl⟩, ⟨hn, rfl⟩, fun s hs => ⟨fun h => ?_, fun h => ?_⟩⟩
  · have h2 := size_nx hs.2 (by omega)
    have h3 := size_up hs.2 hn
    exact ⟨by omega, by constructor <;> omega, (s.1 / 128, s.2 + 1), ⟨rfl, by simp⟩, ⟨by show s.1 / 128 < _; omega, h2⟩, by show s.1 / 128 < s.1; omega⟩
  · exact congrArg Int.ofNat (size_end hs.2 (by omega))
theorem risingSess_t (l : List Sess) (most : Int) (r0 : Bool) : wpP tyT O_P2 (LrisingSess l most) Try.f84 [.c (.fz (.nm .sess) (l)), .c (.int (most)), .c (.fn 67 [] [])] [] [.c (.bool (.atom (r0)))] = (l.length * (32 : Nat) <= (140737488355328 : Nat) -> I64 most -> ∃ (s0 : Nat), (most = most /\ (0 : Int) = lastK Sess.client (0 : Int) (List.take s0 l) /\ l = l /\ (↑l.length : Int) = (↑l.length : Int) /\ (0 : Int) = (↑s0 : Int)) /\ (s0 <= l.length /\ risingF Sess.client most (0 : Int) (List.take s0 l) = true /\ (0 : Int) <= lastK Sess.client (0 : Int) (List.take s0 l) /\ lastK Sess.client (0 : Int) (List.take s0 l) <= (1048576 : Int)) /\ ∀ (s : Nat), s <= l.length /\ risingF Sess.client most (0 : Int) (List.take s l) = true /\ (0 : Int) <= lastK Sess.client (0 : Int) (List.take s l) /\ lastK Sess.client (0 : Int) (List.take s l) <= (1048576 : Int) -> ((↑s : Int) < (↑l.length : Int) -> (0 : Int) <= (↑s : Int) /\ (↑s : Int) < (↑l.length : Int) /\ ∀ (x : Sess), l[s]? = some x -> I64 x.client -> I64 x.seq -> I64 x.last.code -> I64 x.last.n -> I64 x.client -> I64 (lastK Sess.client (0 : Int) (List.take s l) + (1 : Int)) /\ (inB x.client (lastK Sess.client (0 : Int) (List.take s l) + (1 : Int)) most = false -> false = r0) /\ (inB x.client (lastK Sess.client (0 : Int) (List.take s l) + (1 : Int)) most = true -> I64 x.client -> I64 ((↑s : Int) + (1 : Int)) /\ ∃ (s' : Nat), (most = most /\ x.client = lastK Sess.client (0 : Int) (List.take s' l) /\ l = l /\ (↑l.length : Int) = (↑l.length : Int) /\ (↑s : Int) + (1 : Int) = (↑s' : Int)) /\ (s' <= l.length /\ risingF Sess.client most (0 : Int) (List.take s' l) = true /\ (0 : Int) <= lastK Sess.client (0 : Int) (List.take s' l) /\ lastK Sess.client (0 : Int) (List.take s' l) <= (1048576 : Int)) /\ l.length - s' < l.length - s)) /\ ((↑l.length : Int) <= (↑s : Int) -> true = r0)) := by kernel_rfl
theorem risingSess_s (l : List Sess) (most : Int) (h0 : most <= 1048576) : Sat Try.prog (shpOf tyT) 84 [.c (.fz (.nm .sess) (l)), .c (.int (most)), .c (.fn 67 [] [])] [] ⟨[most <= 1048576], [.c (.bool (.atom ((risingF Sess.client most 0 l))))], none, false⟩ := by
  refine sat_p O_P2_ok (LrisingSess l most) Try.func84 (by decide) (by kernel_rfl) ?_
  rw [risingSess_t]
  (repeat' (first | with_reducible refine And.intro ?_ ?_ | with_reducible refine and_imp.2 ?_ | intro))
  all_goals try (first | (first | with_reducible rfl | with_reducible assumption | omega | (refine I64_of ?_ ?_ <;> omega)) | exact (rs_nx (key := Sess.client) (by with_reducible assumption) (by with_reducible assumption) (by with_reducible assumption)) | exact (rs_st (key := Sess.client) (by with_reducible assumption) (by with_reducible assumption)) | exact (rs_dn (key := Sess.client) (by with_reducible assumption) (by omega)) | exact (lastK_snoc (key := Sess.client) (by with_reducible assumption)) | exact (rs_lo (key := Sess.client) (by with_reducible assumption) (by with_reducible assumption) (by with_reducible assumption)) | exact (rs_hi (key := Sess.client) (by with_reducible assumption) (by with_reducible assumption) (by with_reducible assumption)) | exact rfl | exact Int.le_refl _ | exact (show (0 : Int) <= 1048576 by omega))
  all_goals try (refine ⟨0, ?_⟩; (repeat' (first | with_reducible refine And.intro ?_ ?_ | with_reducible refine and_imp.2 ?_ | intro)))
  all_goals try (first | (first | with_reducible rfl | with_reducible assumption | omega | (refine I64_of ?_ ?_ <;> omega)) | exact (rs_nx (key := Sess.client) (by with_reducible assumption) (by with_reducible assumption) (by with_reducible assumption)) | exact (rs_st (key := Sess.client) (by with_reducible assumption) (by with_reducible assumption)) | exact (rs_dn (key := Sess.client) (by with_reducible assumption) (by omega)) | exact (lastK_snoc (key := Sess.client) (by with_reducible assumption)) | exact (rs_lo (key := Sess.client) (by with_reducible assumption) (by with_reducible assumption) (by with_reducible assumption)) | exact (rs_hi (key := Sess.client) (by with_reducible assumption) (by with_reducible assumption) (by with_reducible assumption)) | exact rfl | exact Int.le_refl _ | exact (show (0 : Int) <= 1048576 by omega))
  all_goals try (refine ⟨‹Nat› + 1, ?_⟩; (repeat' (first | with_reducible refine And.intro ?_ ?_ | with_reducible refine and_imp.2 ?_ | intro)))
  all_goals (first | (first | with_reducible rfl | with_reducible assumption | omega | (refine I64_of ?_ ?_ <;> omega)) | exact (rs_nx (key := Sess.client) (by with_reducible assumption) (by with_reducible assumption) (by with_reducible assumption)) | exact (rs_st (key := Sess.client) (by with_reducible assumption) (by with_reducible assumption)) | exact (rs_dn (key := Sess.client) (by with_reducible assumption) (by omega)) | exact (lastK_snoc (key := Sess.client) (by with_reducible assumption)) | exact (rs_lo (key := Sess.client) (by with_reducible assumption) (by with_reducible assumption) (by with_reducible assumption)) | exact (rs_hi (key := Sess.client) (by with_reducible assumption) (by with_reducible assumption) (by with_reducible assumption)) | exact rfl | exact Int.le_refl _ | exact (show (0 : Int) <= 1048576 by omega))
theorem risingOpen_t (l : List Opn) (most : Int) (r0 : Bool) : wpP tyT O_P2 (LrisingOpen l most) Try.f87 [.c (.fz (.nm .opn) (l)), .c (.int (most)), .c (.fn 88 [] [])] [] [.c (.bool (.atom (r0)))] = (l.length * (16 : Nat) <= (140737488355328 : Nat) -> I64 most -> ∃ (s0 : Nat), (most = most /\ (0 : Int) = lastK Opn.set (0 : Int) (List.take s0 l) /\ l = l /\ (↑l.length : Int) = (↑l.length : Int) /\ (0 : Int) = (↑s0 : Int)) /\ (s0 <= l.length /\ risingF Opn.set most (0 : Int) (List.take s0 l) = true /\ (0 : Int) <= lastK Opn.set (0 : Int) (List.take s0 l) /\ lastK Opn.set (0 : Int) (List.take s0 l) <= (1048576 : Int)) /\ ∀ (s : Nat), s <= l.length /\ risingF Opn.set most (0 : Int) (List.take s l) = true /\ (0 : Int) <= lastK Opn.set (0 : Int) (List.take s l) /\ lastK Opn.set (0 : Int) (List.take s l) <= (1048576 : Int) -> ((↑s : Int) < (↑l.length : Int) -> (0 : Int) <= (↑s : Int) /\ (↑s : Int) < (↑l.length : Int) /\ ∀ (x : Opn), l[s]? = some x -> I64 x.set -> I64 x.client -> I64 x.set -> I64 (lastK Opn.set (0 : Int) (List.take s l) + (1 : Int)) /\ (inB x.set (lastK Opn.set (0 : Int) (List.take s l) + (1 : Int)) most = false -> false = r0) /\ (inB x.set (lastK Opn.set (0 : Int) (List.take s l) + (1 : Int)) most = true -> I64 x.set -> I64 ((↑s : Int) + (1 : Int)) /\ ∃ (s' : Nat), (most = most /\ x.set = lastK Opn.set (0 : Int) (List.take s' l) /\ l = l /\ (↑l.length : Int) = (↑l.length : Int) /\ (↑s : Int) + (1 : Int) = (↑s' : Int)) /\ (s' <= l.length /\ risingF Opn.set most (0 : Int) (List.take s' l) = true /\ (0 : Int) <= lastK Opn.set (0 : Int) (List.take s' l) /\ lastK Opn.set (0 : Int) (List.take s' l) <= (1048576 : Int)) /\ l.length - s' < l.length - s)) /\ ((↑l.length : Int) <= (↑s : Int) -> true = r0)) := by kernel_rfl
theorem risingOpen_s (l : List Opn) (most : Int) (h0 : most <= 1048576) : Sat Try.prog (shpOf tyT) 87 [.c (.fz (.nm .opn) (l)), .c (.int (most)), .c (.fn 88 [] [])] [] ⟨[most <= 1048576], [.c (.bool (.atom ((risingF Opn.set most 0 l))))], none, false⟩ := by
  refine sat_p O_P2_ok (LrisingOpen l most) Try.func87 (by decide) (by kernel_rfl) ?_
  rw [risingOpen_t]
  (repeat' (first | with_reducible refine And.intro ?_ ?_ | with_reducible refine and_imp.2 ?_ | intro))
  all_goals try (first | (first | with_reducible rfl | with_reducible assumption | omega | (refine I64_of ?_ ?_ <;> omega)) | exact (rs_nx (key := Opn.set) (by with_reducible assumption) (by with_reducible assumption) (by with_reducible assumption)) | exact (rs_st (key := Opn.set) (by with_reducible assumption) (by with_reducible assumption)) | exact (rs_dn (key := Opn.set) (by with_reducible assumption) (by omega)) | exact (lastK_snoc (key := Opn.set) (by with_reducible assumption)) | exact (rs_lo (key := Opn.set) (by with_reducible assumption) (by with_reducible assumption) (by with_reducible assumption)) | exact (rs_hi (key := Opn.set) (by with_reducible assumption) (by with_reducible assumption) (by with_reducible assumption)) | exact rfl | exact Int.le_refl _ | exact (show (0 : Int) <= 1048576 by omega))
  all_goals try (refine ⟨0, ?_⟩; (repeat' (first | with_reducible refine And.intro ?_ ?_ | with_reducible refine and_imp.2 ?_ | intro)))
  all_goals try (first | (first | with_reducible rfl | with_reducible assumption | omega | (refine I64_of ?_ ?_ <;> omega)) | exact (rs_nx (key := Opn.set) (by with_reducible assumption) (by with_reducible assumption) (by with_reducible assumption)) | exact (rs_st (key := Opn.set) (by with_reducible assumption) (by with_reducible assumption)) | exact (rs_dn (key := Opn.set) (by with_reducible assumption) (by omega)) | exact (lastK_snoc (key := Opn.set) (by with_reducible assumption)) | exact (rs_lo (key := Opn.set) (by with_reducible assumption) (by with_reducible assumption) (by with_reducible assumption)) | exact (rs_hi (key := Opn.set) (by with_reducible assumption) (by with_reducible assumption) (by with_reducible assumption)) | exact rfl | exact Int.le_refl _ | exact (show (0 : Int) <= 1048576 by omega))
  all_goals try (refine ⟨‹Nat› + 1, ?_⟩; (repeat' (first | with_reducible refine And.intro ?_ ?_ | with_reducible refine and_imp.2 ?_ | intro)))
  all_goals (first | (first | with_reducible rfl | with_reducible assumption | omega | (refine I64_of ?_ ?_ <;> omega)) | exact (rs_nx (key := Opn.set) (by with_reducible assumption) (by with_reducible assumption) (by with_reducible assumption)) | exact (rs_st (key := Opn.set) (by with_reducible assumption) (by with_reducible assumption)) | exact (rs_dn (key := Opn.set) (by with_reducible assumption) (by omega)) | exact (lastK_snoc (key := Opn.set) (by with_reducible assumption)) | exact (rs_lo (key := Opn.set) (by with_reducible assumption) (by with_reducible assumption) (by with_reducible assumption)) | exact (rs_hi (key := Opn.set) (by with_reducible assumption) (by with_reducible assumption) (by with_reducible assumption)) | exact rfl | exact Int.le_refl _ | exact (show (0 : Int) <= 1048576 by omega))
theorem risingSnap_t (l : List Snap) (most : Int) (r0 : Bool) : wpP tyT O_P2 (LrisingSnap l most) Try.f103 [.c (.fz (.nm .snap) (l)), .c (.int (most)), .c (.fn 72 [] [])] [] [.c (.bool (.atom (r0)))] = (l.length * (64 : Nat) <= (140737488355328 : Nat) -> I64 most -> ∃ (s0 : Nat), (most = most /\ (0 : Int) = lastK Snap.id (0 : Int) (List.take s0 l) /\ l = l /\ (↑l.length : Int) = (↑l.length : Int) /\ (0 : Int) = (↑s0 : Int)) /\ (s0 <= l.length /\ risingF Snap.id most (0 : Int) (List.take s0 l) = true /\ (0 : Int) <= lastK Snap.id (0 : Int) (List.take s0 l) /\ lastK Snap.id (0 : Int) (List.take s0 l) <= (1048576 : Int)) /\ ∀ (s : Nat), s <= l.length /\ risingF Snap.id most (0 : Int) (List.take s l) = true /\ (0 : Int) <= lastK Snap.id (0 : Int) (List.take s l) /\ lastK Snap.id (0 : Int) (List.take s l) <= (1048576 : Int) -> ((↑s : Int) < (↑l.length : Int) -> (0 : Int) <= (↑s : Int) /\ (↑s : Int) < (↑l.length : Int) /\ ∀ (x : Snap), l[s]? = some x -> I64 x.id -> I64 x.set -> x.chunks.length * (8 : Nat) <= (140737488355328 : Nat) -> x.tag.b.length <= (140737488355328 : Nat) -> I64 x.id -> I64 (lastK Snap.id (0 : Int) (List.take s l) + (1 : Int)) /\ (inB x.id (lastK Snap.id (0 : Int) (List.take s l) + (1 : Int)) most = false -> false = r0) /\ (inB x.id (lastK Snap.id (0 : Int) (List.take s l) + (1 : Int)) most = true -> I64 x.id -> I64 ((↑s : Int) + (1 : Int)) /\ ∃ (s' : Nat), (most = most /\ x.id = lastK Snap.id (0 : Int) (List.take s' l) /\ l = l /\ (↑l.length : Int) = (↑l.length : Int) /\ (↑s : Int) + (1 : Int) = (↑s' : Int)) /\ (s' <= l.length /\ risingF Snap.id most (0 : Int) (List.take s' l) = true /\ (0 : Int) <= lastK Snap.id (0 : Int) (List.take s' l) /\ lastK Snap.id (0 : Int) (List.take s' l) <= (1048576 : Int)) /\ l.length - s' < l.length - s)) /\ ((↑l.length : Int) <= (↑s : Int) -> true = r0)) := by kernel_rfl
theorem risingSnap_s (l : List Snap) (most : Int) (h0 : most <= 1048576) : Sat Try.prog (shpOf tyT) 103 [.c (.fz (.nm .snap) (l)), .c (.int (most)), .c (.fn 72 [] [])] [] ⟨[most <= 1048576], [.c (.bool (.atom ((risingF Snap.id most 0 l))))], none, false⟩ := by
  refine sat_p O_P2_ok (LrisingSnap l most) Try.func103 (by decide) (by kernel_rfl) ?_
  rw [risingSnap_t]
  (repeat' (first | with_reducible refine And.intro ?_ ?_ | with_reducible refine and_imp.2 ?_ | intro))
  all_goals try (first | (first | with_reducible rfl | with_reducible assumption | omega | (refine I64_of ?_ ?_ <;> omega)) | exact (rs_nx (key := Snap.id) (by with_reducible assumption) (by with_reducible assumption) (by with_reducible assumption)) | exact (rs_st (key := Snap.id) (by with_reducible assumption) (by with_reducible assumption)) | exact (rs_dn (key := Snap.id) (by with_reducible assumption) (by omega)) | exact (lastK_snoc (key := Snap.id) (by with_reducible assumption)) | exact (rs_lo (key := Snap.id) (by with_reducible assumption) (by with_reducible assumption) (by with_reducible assumption)) | exact (rs_hi (key := Snap.id) (by with_reducible assumption) (by with_reducible assumption) (by with_reducible assumption)) | exact rfl | exact Int.le_refl _ | exact (show (0 : Int) <= 1048576 by omega))
  all_goals try (refine ⟨0, ?_⟩; (repeat' (first | with_reducible refine And.intro ?_ ?_ | with_reducible refine and_imp.2 ?_ | intro)))
  all_goals try (first | (first | with_reducible rfl | with_reducible assumption | omega | (refine I64_of ?_ ?_ <;> omega)) | exact (rs_nx (key := Snap.id) (by with_reducible assumption) (by with_reducible assumption) (by with_reducible assumption)) | exact (rs_st (key := Snap.id) (by with_reducible assumption) (by with_reducible assumption)) | exact (rs_dn (key := Snap.id) (by with_reducible assumption) (by omega)) | exact (lastK_snoc (key := Snap.id) (by with_reducible assumption)) | exact (rs_lo (key := Snap.id) (by with_reducible assumption) (by with_reducible assumption) (by with_reducible assumption)) | exact (rs_hi (key := Snap.id) (by with_reducible assumption) (by with_reducible assumption) (by with_reducible assumption)) | exact rfl | exact Int.le_refl _ | exact (show (0 : Int) <= 1048576 by omega))
  all_goals try (refine ⟨‹Nat› + 1, ?_⟩; (repeat' (first | with_reducible refine And.intro ?_ ?_ | with_reducible refine and_imp.2 ?_ | intro)))
  all_goals (first | (first | with_reducible rfl | with_reducible assumption | omega | (refine I64_of ?_ ?_ <;> omega)) | exact (rs_nx (key := Snap.id) (by with_reducible assumption) (by with_reducible assumption) (by with_reducible assumption)) | exact (rs_st (key := Snap.id) (by with_reducible assumption) (by with_reducible assumption)) | exact (rs_dn (key := Snap.id) (by with_reducible assumption) (by omega)) | exact (lastK_snoc (key := Snap.id) (by with_reducible assumption)) | exact (rs_lo (key := Snap.id) (by with_reducible assumption) (by with_reducible assumption) (by with_reducible assumption)) | exact (rs_hi (key := Snap.id) (by with_reducible assumption) (by with_reducible assumption) (by with_reducible assumption)) | exact rfl | exact Int.le_refl _ | exact (show (0 : Int) <= 1048576 by omega))
theorem may1_t (x : Sess) (r0 : Bool) : wpP tyT O_P2 [] Try.f86 [.agg (cellsOf (.nm .sess) x)] [] [.c (.bool (.atom (r0)))] = (I64 x.client -> I64 x.seq -> I64 x.last.code -> I64 x.last.n -> (inB x.seq (0 : Int) (1048576 : Int) && inB x.last.code (0 : Int) (99 : Int) && inB x.last.n (0 : Int) (1048576 : Int)) = r0) := by kernel_rfl
theorem may1_s (x : Sess) : Sat Try.prog (shpOf tyT) 86 [.agg (cellsOf (.nm .sess) x)] [] ⟨[], [.c (.bool (.atom ((sessOk x))))], none, false⟩ := by
  refine sat_p O_P2_ok [] Try.func86 (by decide) (by kernel_rfl) ?_
  rw [may1_t]
  grind [sessOk, inB]
theorem may2_t (x : Opn) (r0 : Bool) : wpP tyT O_P2 [] Try.f90 [.agg (cellsOf (.nm .opn) x)] [] [.c (.bool (.atom (r0)))] = (I64 x.set -> I64 x.client -> inB x.client (1 : Int) (8 : Int) = r0) := by kernel_rfl
theorem may2_s (x : Opn) : Sat Try.prog (shpOf tyT) 90 [.agg (cellsOf (.nm .opn) x)] [] ⟨[], [.c (.bool (.atom ((openOk x))))], none, false⟩ := by
  refine sat_p O_P2_ok [] Try.func90 (by decide) (by kernel_rfl) ?_
  rw [may2_t]
  grind [openOk, inB]
def O_P3 : Orc := (orc 90 (con (tCons (kT (.nm .opn)) tNil) hNil fun (x, _) (_) => ⟨[], [.c (.bool (.atom ((openOk x))))], none, false⟩) (orc 86 (con (tCons (kT (.nm .sess)) tNil) hNil fun (x, _) (_) => ⟨[], [.c (.bool (.atom ((sessOk x))))], none, false⟩) (orc 103 (con (tCons (kC (cL (.nm .snap))) (tCons (kC cI) (tCons (kC (cFn 72 [] [])) tNil))) hNil fun (l, most, _, _) (_) => ⟨[most <= 1048576], [.c (.bool (.atom ((risingF Snap.id most 0 l))))], none, false⟩) (orc 87 (con (tCons (kC (cL (.nm .opn))) (tCons (kC cI) (tCons (kC (cFn 88 [] [])) tNil))) hNil fun (l, most, _, _) (_) => ⟨[most <= 1048576], [.c (.bool (.atom ((risingF Opn.set most 0 l))))], none, false⟩) (orc 84 (con (tCons (kC (cL (.nm .sess))) (tCons (kC cI) (tCons (kC (cFn 67 [] [])) tNil))) hNil fun (l, most, _, _) (_) => ⟨[most <= 1048576], [.c (.bool (.atom ((risingF Sess.client most 0 l))))], none, false⟩) (orc 117 (con (tCons (kC cU) tNil) hNil fun (n, _) (_) => ⟨[], [.c (.int (((sizeF n.n : Int))))], none, false⟩) O_P2))))))
theorem O_P3_ok : OrcOK Try.prog (shpOf tyT) O_P3 := (orc_ok (con_ok (tCons_ok kT_ok tNil_ok) hNil_ok fun (x, _) (_) _ => may2_s x ) (orc_ok (con_ok (tCons_ok kT_ok tNil_ok) hNil_ok fun (x, _) (_) _ => may1_s x ) (orc_ok (con_ok (tCons_ok (kC_ok cL_ok) (tCons_ok (kC_ok cI_ok) (tCons_ok (kC_ok cFn_ok) tNil_ok))) hNil_ok fun (l, most, _, _) (_) hp => risingSnap_s l most (pr0 hp)) (orc_ok (con_ok (tCons_ok (kC_ok cL_ok) (tCons_ok (kC_ok cI_ok) (tCons_ok (kC_ok cFn_ok) tNil_ok))) hNil_ok fun (l, most, _, _) (_) hp => risingOpen_s l most (pr0 hp)) (orc_ok (con_ok (tCons_ok (kC_ok cL_ok) (tCons_ok (kC_ok cI_ok) (tCons_ok (kC_ok cFn_ok) tNil_ok))) hNil_ok fun (l, most, _, _) (_) hp => risingSess_s l most (pr0 hp)) (orc_ok (con_ok (tCons_ok (kC_ok cU_ok) tNil_ok) hNil_ok fun (n, _) (_) _ => size_s n ) O_P2_ok))))))
end Go.Proofs.Ytbgkcbjebflmbaa
namespace Go.Proofs.Ytbgkcbjebflmbaa
open Go.RowKit
theorem put_st {n k : Nat} (h : (k : Int) < sizeF n) : (putTo n k).set k (UInt8.ofNat (n / 128 ^ k) ||| UInt8.ofNat 128) = putTo n (k + 1) := putTo_step (by omega)
theorem put_fin {n k : Nat} (h1 : k <= sizeF n) (h2 : (sizeF n : Int) <= (k : Int)) : (putTo n k).set ((sizeF n : Int) - 1).toNat ((putTo n k).getD ((sizeF n : Int) - 1).toNat (dflt Sh.u8) &&& UInt8.ofNat 127) = putF n := by
  have e : k = sizeF n := by omega
  have e2 : ((sizeF n : Int) - 1).toNat = sizeF n - 1 := by omega
  have hl := putTo_len (n := n) (Nat.le_refl _)
  have hp := sizeF_pos n
  subst e
  have hlt : sizeF n - 1 < (putTo n (sizeF n)).length := by omega
  rw [e2, List.getD_eq_getElem?_getD, List.getElem?_eq_getElem hlt, Option.getD_some, putTo_last (List.getElem?_eq_getElem hlt)]
  rfl
def Lput (n : U64) : List (Nat × LI) := [(4, { σ := Nat, F := fun k => ([(0, one (.u64 (n.n / 128 ^ k))), (3, one (.int (sizeF n.n))), (4, one (.own 0)), (10, one (.int (sizeF n.n))), (11, one (.int k))], [.row 5 .u8 ((putTo n.n k))]), J := fun k => k <= sizeF n.n, μ := fun k => sizeF n.n - k })]
def LallSess (l : List Sess) : List (Nat × LI) := [(2, { σ := Nat, F := fun k => ([(1, one (.fn 86 [] [])), (7, one (.fz (.nm .sess) (l))), (8, one (.int (l).length)), (9, one (.int k))], []), J := fun k => k <= l.length /\ (l.take k).all (sessOk) = true, μ := fun k => (l).length - k })]
def LallOpen (l : List Opn) : List (Nat × LI) := [(2, { σ := Nat, F := fun k => ([(1, one (.fn 90 [] [])), (7, one (.fz (.nm .opn) (l))), (8, one (.int (l).length)), (9, one (.int k))], []), J := fun k => k <= l.length /\ (l.take k).all (openOk) = true, μ := fun k => (l).length - k })]
theorem put_t (n : U64) (r0 : List UInt8) : wpN tyT O_P3 (Lput n) Try.f114 [.c (.u64 (n).n)] [] [.c (.own 0)] [.row 5 .u8 (r0)] = (n.n < (18446744073709551616 : Nat) -> I64 (↑(sizeF n.n) : Int) -> (0 : Int) <= (↑(sizeF n.n) : Int) /\ (↑(sizeF n.n) : Int) * (↑(1 : Nat) : Int) <= (140737488355328 : Int) /\ (↑(sizeF n.n) : Int) = (↑(sizeF n.n) : Int) /\ ∃ (s0 : Nat), (n.n = n.n / (128 : Nat) ^ s0 /\ (↑(sizeF n.n) : Int) = (↑(sizeF n.n) : Int) /\ (↑(sizeF n.n) : Int) = (↑(sizeF n.n) : Int) /\ (0 : Int) = (↑s0 : Int) /\ List.replicate (sizeF n.n) (dflt Sh.u8) = putTo n.n s0) /\ s0 <= sizeF n.n /\ ∀ (s : Nat), s <= sizeF n.n -> ((↑s : Int) < (↑(sizeF n.n) : Int) -> (0 : Int) <= (↑s : Int) /\ (↑s : Int) < (↑(putTo n.n s).length : Int) /\ (7 : Nat) < (64 : Nat) /\ I64 ((↑s : Int) + (1 : Int)) /\ ∃ (s' : Nat), (n.n / (128 : Nat) ^ s / (2 : Nat) ^ (7 : Nat) = n.n / (128 : Nat) ^ s' /\ (↑(sizeF n.n) : Int) = (↑(sizeF n.n) : Int) /\ (↑(sizeF n.n) : Int) = (↑(sizeF n.n) : Int) /\ (↑s : Int) + (1 : Int) = (↑s' : Int) /\ (putTo n.n s).set s (UInt8.ofNat (n.n / (128 : Nat) ^ s) ||| UInt8.ofNat (128 : Nat)) = putTo n.n s') /\ s' <= sizeF n.n /\ sizeF n.n - s' < sizeF n.n - s) /\ ((↑(sizeF n.n) : Int) <= (↑s : Int) -> I64 ((↑(sizeF n.n) : Int) - (1 : Int)) /\ (0 : Int) <= (↑(sizeF n.n) : Int) - (1 : Int) /\ (↑(sizeF n.n) : Int) - (1 : Int) < (↑(putTo n.n s).length : Int) /\ (0 : Int) <= (↑(sizeF n.n) : Int) - (1 : Int) /\ (↑(sizeF n.n) : Int) - (1 : Int) < (↑(putTo n.n s).length : Int) /\ (putTo n.n s).set ((↑(sizeF n.n) : Int) - (1 : Int)).toNat ((putTo n.n s).getD ((↑(sizeF n.n) : Int) - (1 : Int)).toNat (dflt Sh.u8) &&& UInt8.ofNat (127 : Nat)) = r0)) := by kernel_rfl
theorem put_s (n : U64) : Sat Try.prog (shpOf tyT) 114 [.c (.u64 (n).n)] [] ⟨[], [.c (.own 0)], some ([.row 5 .u8 ((putF n.n))]), true⟩ := by
  refine sat_n O_P3_ok (Lput n) Try.func114 (by decide) (by kernel_rfl) ?_
  rw [put_t]
  intro hn
  have h1 := sizeF_pos n.n
  have h10 := sizeF_10 hn
  (repeat' (first | with_reducible refine And.intro ?_ ?_ | with_reducible refine and_imp.2 ?_ | intro))
  all_goals try (first | (first | with_reducible rfl | with_reducible assumption | omega | (refine I64_of ?_ ?_ <;> omega)) | exact (putTo_zero n.n) | exact (put_st (by omega)) | exact (put_fin (by omega) (by omega)) | exact div_pow | exact (by rw [Nat.pow_zero, Nat.div_one]) | exact (by rw [putTo_len (by omega)]; omega))
  all_goals try (refine ⟨0, ?_⟩; (repeat' (first | with_reducible refine And.intro ?_ ?_ | with_reducible refine and_imp.2 ?_ | intro)))
  all_goals try (first | (first | with_reducible rfl | with_reducible assumption | omega | (refine I64_of ?_ ?_ <;> omega)) | exact (putTo_zero n.n) | exact (put_st (by omega)) | exact (put_fin (by omega) (by omega)) | exact div_pow | exact (by rw [Nat.pow_zero, Nat.div_one]) | exact (by rw [putTo_len (by omega)]; omega))
  all_goals try (refine ⟨‹Nat› + 1, ?_⟩; (repeat' (first | with_reducible refine And.intro ?_ ?_ | with_reducible refine and_imp.2 ?_ | intro)))
  all_goals (first | (first | with_reducible rfl | with_reducible assumption | omega | (refine I64_of ?_ ?_ <;> omega)) | exact (putTo_zero n.n) | exact (put_st (by omega)) | exact (put_fin (by omega) (by omega)) | exact div_pow | exact (by rw [Nat.pow_zero, Nat.div_one]) | exact (by rw [putTo_len (by omega)]; omega))
theorem allSess_t (l : List Sess) (r0 : Bool) : wpP tyT O_P3 (LallSess l) Try.f85 [.c (.fz (.nm .sess) (l)), .c (.fn 86 [] [])] [] [.c (.bool (.atom (r0)))] = (l.length * (32 : Nat) <= (140737488355328 : Nat) -> ∃ (s0 : Nat), (l = l /\ (↑l.length : Int) = (↑l.length : Int) /\ (0 : Int) = (↑s0 : Int)) /\ (s0 <= l.length /\ (List.take s0 l).all sessOk = true) /\ ∀ (s : Nat), s <= l.length /\ (List.take s l).all sessOk = true -> ((↑s : Int) < (↑l.length : Int) -> (0 : Int) <= (↑s : Int) /\ (↑s : Int) < (↑l.length : Int) /\ ∀ (x : Sess), l[s]? = some x -> I64 x.client -> I64 x.seq -> I64 x.last.code -> I64 x.last.n -> (sessOk x = false -> false = r0) /\ (sessOk x = true -> I64 ((↑s : Int) + (1 : Int)) /\ ∃ (s' : Nat), (l = l /\ (↑l.length : Int) = (↑l.length : Int) /\ (↑s : Int) + (1 : Int) = (↑s' : Int)) /\ (s' <= l.length /\ (List.take s' l).all sessOk = true) /\ l.length - s' < l.length - s)) /\ ((↑l.length : Int) <= (↑s : Int) -> true = r0)) := by kernel_rfl
theorem allSess_s (l : List Sess) : Sat Try.prog (shpOf tyT) 85 [.c (.fz (.nm .sess) (l)), .c (.fn 86 [] [])] [] ⟨[], [.c (.bool (.atom ((l.all (sessOk)))))], none, false⟩ := by
  refine sat_p O_P3_ok (LallSess l) Try.func85 (by decide) (by kernel_rfl) ?_
  rw [allSess_t]
  (repeat' (first | with_reducible refine And.intro ?_ ?_ | with_reducible refine and_imp.2 ?_ | intro))
  all_goals try (first | (first | with_reducible rfl | with_reducible assumption | omega | (refine I64_of ?_ ?_ <;> omega)) | exact (all_next (p := sessOk) (by with_reducible assumption) (by with_reducible assumption) (by with_reducible assumption)) | exact (al_st (p := sessOk) (by with_reducible assumption) (by with_reducible assumption)) | exact (al_dn (p := sessOk) (by with_reducible assumption) (by omega)) | exact rfl)
  all_goals try (refine ⟨0, ?_⟩; (repeat' (first | with_reducible refine And.intro ?_ ?_ | with_reducible refine and_imp.2 ?_ | intro)))
  all_goals try (first | (first | with_reducible rfl | with_reducible assumption | omega | (refine I64_of ?_ ?_ <;> omega)) | exact (all_next (p := sessOk) (by with_reducible assumption) (by with_reducible assumption) (by with_reducible assumption)) | exact (al_st (p := sessOk) (by with_reducible assumption) (by with_reducible assumption)) | exact (al_dn (p := sessOk) (by with_reducible assumption) (by omega)) | exact rfl)
  all_goals try (refine ⟨‹Nat› + 1, ?_⟩; (repeat' (first | with_reducible refine And.intro ?_ ?_ | with_reducible refine and_imp.2 ?_ | intro)))
  all_goals (first | (first | with_reducible rfl | with_reducible assumption | omega | (refine I64_of ?_ ?_ <;> omega)) | exact (all_next (p := sessOk) (by with_reducible assumption) (by with_reducible assumption) (by with_reducible assumption)) | exact (al_st (p := sessOk) (by with_reducible assumption) (by with_reducible assumption)) | exact (al_dn (p := sessOk) (by with_reducible assumption) (by omega)) | exact rfl)
theorem allOpen_t (l : List Opn) (r0 : Bool) : wpP tyT O_P3 (LallOpen l) Try.f89 [.c (.fz (.nm .opn) (l)), .c (.fn 90 [] [])] [] [.c (.bool (.atom (r0)))] = (l.length * (16 : Nat) <= (140737488355328 : Nat) -> ∃ (s0 : Nat), (l = l /\ (↑l.length : Int) = (↑l.length : Int) /\ (0 : Int) = (↑s0 : Int)) /\ (s0 <= l.length /\ (List.take s0 l).all openOk = true) /\ ∀ (s : Nat), s <= l.length /\ (List.take s l).all openOk = true -> ((↑s : Int) < (↑l.length : Int) -> (0 : Int) <= (↑s : Int) /\ (↑s : Int) < (↑l.length : Int) /\ ∀ (x : Opn), l[s]? = some x -> I64 x.set -> I64 x.client -> (openOk x = false -> false = r0) /\ (openOk x = true -> I64 ((↑s : Int) + (1 : Int)) /\ ∃ (s' : Nat), (l = l /\ (↑l.length : Int) = (↑l.length : Int) /\ (↑s : Int) + (1 : Int) = (↑s' : Int)) /\ (s' <= l.length /\ (List.take s' l).all openOk = true) /\ l.length - s' < l.length - s)) /\ ((↑l.length : Int) <= (↑s : Int) -> true = r0)) := by kernel_rfl
theorem allOpen_s (l : List Opn) : Sat Try.prog (shpOf tyT) 89 [.c (.fz (.nm .opn) (l)), .c (.fn 90 [] [])] [] ⟨[], [.c (.bool (.atom ((l.all (openOk)))))], none, false⟩ := by
  refine sat_p O_P3_ok (LallOpen l) Try.func89 (by decide) (by kernel_rfl) ?_
  rw [allOpen_t]
  (repeat' (first | with_reducible refine And.intro ?_ ?_ | with_reducible refine and_imp.2 ?_ | intro))
  all_goals try (first | (first | with_reducible rfl | with_reducible assumption | omega | (refine I64_of ?_ ?_ <;> omega)) | exact (all_next (p := openOk) (by with_reducible assumption) (by with_reducible assumption) (by with_reducible assumption)) | exact (al_st (p := openOk) (by with_reducible assumption) (by with_reducible assumption)) | exact (al_dn (p := openOk) (by with_reducible assumption) (by omega)) | exact rfl)
  all_goals try (refine ⟨0, ?_⟩; (repeat' (first | with_reducible refine And.intro ?_ ?_ | with_reducible refine and_imp.2 ?_ | intro)))
  all_goals try (first | (first | with_reducible rfl | with_reducible assumption | omega | (refine I64_of ?_ ?_ <;> omega)) | exact (all_next (p := openOk) (by with_reducible assumption) (by with_reducible assumption) (by with_reducible assumption)) | exact (al_st (p := openOk) (by with_reducible assumption) (by with_reducible assumption)) | exact (al_dn (p := openOk) (by with_reducible assumption) (by omega)) | exact rfl)
  all_goals try (refine ⟨‹Nat› + 1, ?_⟩; (repeat' (first | with_reducible refine And.intro ?_ ?_ | with_reducible refine and_imp.2 ?_ | intro)))
  all_goals (first | (first | with_reducible rfl | with_reducible assumption | omega | (refine I64_of ?_ ?_ <;> omega)) | exact (all_next (p := openOk) (by with_reducible assumption) (by with_reducible assumption) (by with_reducible assumption)) | exact (al_st (p := openOk) (by with_reducible assumption) (by with_reducible assumption)) | exact (al_dn (p := openOk) (by with_reducible assumption) (by omega)) | exact rfl)
theorem clone_sess_t (l : List Sess) (r0 : List Sess) : wpN tyT O_P3 [] Try.f60 [.c (.fz (.nm .sess) (l))] [] [.c (.own 0)] [.row 42 (.nm .sess) (r0)] = (l.length * (32 : Nat) <= (140737488355328 : Nat) -> ∀ (b : Bool), (b = true -> l = []) -> (b = true -> r0 = []) /\ (b = false -> l.length * (32 : Nat) <= (140737488355328 : Nat) /\ l = r0)) := by kernel_rfl
theorem clone_sess_s (l : List Sess) : Sat Try.prog (shpOf tyT) 60 [.c (.fz (.nm .sess) (l))] [] ⟨[], [.c (.own 0)], some ([.row 42 (.nm .sess) ((l))]), true⟩ := by
  refine sat_n O_P3_ok [] Try.func60 (by decide) (by kernel_rfl) ?_
  rw [clone_sess_t]
  exact fun h b hb => ⟨hb, fun _ => ⟨h, rfl⟩⟩
theorem clone_opn_t (l : List Opn) (r0 : List Opn) : wpN tyT O_P3 [] Try.f61 [.c (.fz (.nm .opn) (l))] [] [.c (.own 0)] [.row 51 (.nm .opn) (r0)] = (l.length * (16 : Nat) <= (140737488355328 : Nat) -> ∀ (b : Bool), (b = true -> l = []) -> (b = true -> r0 = []) /\ (b = false -> l.length * (16 : Nat) <= (140737488355328 : Nat) /\ l = r0)) := by kernel_rfl
theorem clone_opn_s (l : List Opn) : Sat Try.prog (shpOf tyT) 61 [.c (.fz (.nm .opn) (l))] [] ⟨[], [.c (.own 0)], some ([.row 51 (.nm .opn) ((l))]), true⟩ := by
  refine sat_n O_P3_ok [] Try.func61 (by decide) (by kernel_rfl) ?_
  rw [clone_opn_t]
  exact fun h b hb => ⟨hb, fun _ => ⟨h, rfl⟩⟩
theorem clone_snap_t (l : List Snap) (r0 : List Snap) : wpN tyT O_P3 [] Try.f62 [.c (.fz (.nm .snap) (l))] [] [.c (.own 0)] [.row 46 (.nm .snap) (r0)] = (l.length * (64 : Nat) <= (140737488355328 : Nat) -> ∀ (b : Bool), (b = true -> l = []) -> (b = true -> r0 = []) /\ (b = false -> l.length * (64 : Nat) <= (140737488355328 : Nat) /\ l = r0)) := by kernel_rfl
theorem clone_snap_s (l : List Snap) : Sat Try.prog (shpOf tyT) 62 [.c (.fz (.nm .snap) (l))] [] ⟨[], [.c (.own 0)], some ([.row 46 (.nm .snap) ((l))]), true⟩ := by
  refine sat_n O_P3_ok [] Try.func62 (by decide) (by kernel_rfl) ?_
  rw [clone_snap_t]
  exact fun h b hb => ⟨hb, fun _ => ⟨h, rfl⟩⟩
theorem clone_int_t (l : List Int) (r0 : List Int) : wpP tyT O_P3 [] Try.f63 [.c (.fz .int (l))] [] [.c (.fz .int (r0))] = (l.length * (8 : Nat) <= (140737488355328 : Nat) -> ∀ (b : Bool), (b = true -> l = []) -> (b = true -> r0 = []) /\ (b = false -> l.length * (8 : Nat) <= (140737488355328 : Nat) /\ l = r0)) := by kernel_rfl
theorem clone_int_s (l : List Int) : Sat Try.prog (shpOf tyT) 63 [.c (.fz .int (l))] [] ⟨[], [.c (.fz .int ((l)))], none, false⟩ := by
  refine sat_p O_P3_ok [] Try.func63 (by decide) (by kernel_rfl) ?_
  rw [clone_int_t]
  intros; repeat' (first | refine And.intro ?_ ?_ | intro)
  all_goals first | rfl | assumption | simp_all
def O_P4 : Orc := (orc 63 (con (tCons (kC (cL .int)) tNil) hNil fun (l, _) (_) => ⟨[], [.c (.fz .int ((l)))], none, false⟩) (orc 62 (con (tCons (kC (cL (.nm .snap))) tNil) hNil fun (l, _) (_) => ⟨[], [.c (.own 0)], some ([.row 46 (.nm .snap) ((l))]), true⟩) (orc 61 (con (tCons (kC (cL (.nm .opn))) tNil) hNil fun (l, _) (_) => ⟨[], [.c (.own 0)], some ([.row 51 (.nm .opn) ((l))]), true⟩) (orc 60 (con (tCons (kC (cL (.nm .sess))) tNil) hNil fun (l, _) (_) => ⟨[], [.c (.own 0)], some ([.row 42 (.nm .sess) ((l))]), true⟩) (orc 89 (con (tCons (kC (cL (.nm .opn))) (tCons (kC (cFn 90 [] [])) tNil)) hNil fun (l, _, _) (_) => ⟨[], [.c (.bool (.atom ((l.all (openOk)))))], none, false⟩) (orc 85 (con (tCons (kC (cL (.nm .sess))) (tCons (kC (cFn 86 [] [])) tNil)) hNil fun (l, _, _) (_) => ⟨[], [.c (.bool (.atom ((l.all (sessOk)))))], none, false⟩) (orc 114 (con (tCons (kC cU) tNil) hNil fun (n, _) (_) => ⟨[], [.c (.own 0)], some ([.row 5 .u8 ((putF n.n))]), true⟩) O_P3)))))))
theorem O_P4_ok : OrcOK Try.prog (shpOf tyT) O_P4 := (orc_ok (con_ok (tCons_ok (kC_ok cL_ok) tNil_ok) hNil_ok fun (l, _) (_) _ => clone_int_s l ) (orc_ok (con_ok (tCons_ok (kC_ok cL_ok) tNil_ok) hNil_ok fun (l, _) (_) _ => clone_snap_s l ) (orc_ok (con_ok (tCons_ok (kC_ok cL_ok) tNil_ok) hNil_ok fun (l, _) (_) _ => clone_opn_s l ) (orc_ok (con_ok (tCons_ok (kC_ok cL_ok) tNil_ok) hNil_ok fun (l, _) (_) _ => clone_sess_s l ) (orc_ok (con_ok (tCons_ok (kC_ok cL_ok) (tCons_ok (kC_ok cFn_ok) tNil_ok)) hNil_ok fun (l, _, _) (_) _ => allOpen_s l ) (orc_ok (con_ok (tCons_ok (kC_ok cL_ok) (tCons_ok (kC_ok cFn_ok) tNil_ok)) hNil_ok fun (l, _, _) (_) _ => allSess_s l ) (orc_ok (con_ok (tCons_ok (kC_ok cU_ok) tNil_ok) hNil_ok fun (n, _) (_) _ => put_s n ) O_P3_ok)))))))
end Go.Proofs.Ytbgkcbjebflmbaa
namespace Go.Proofs.Ytbgkcbjebflmbaa
open Go.RowKit
theorem idx_no {x : Int} {l : List Int} {k : Nat} (h : idxI x (l.take k) = -1) (hk : l.length <= k) : -1 = idxI x l := by rw [List.take_of_length_le hk] at h; exact h.symm
theorem idx_yes {x y : Int} {l : List Int} {k : Nat} (h : idxI x (l.take k) = -1) (hy : l[k]? = some y) (e : x = y) : (k : Int) = idxI x l := by
  refine idxI_yes (fun j z hj hz hc => ?_) hy e
  have hm : z ∈ l.take k := by
    obtain ⟨h1, h2⟩ := List.getElem?_eq_some_iff.1 hz
    rw [List.mem_take_iff_getElem]; exact ⟨j, by omega, h2⟩
  have : decide (0 <= idxI x (l.take k)) = true := by rw [contI, List.contains_iff_mem, hc]; exact hm
  rw [decide_eq_true_eq] at this; omega
theorem idx_nx {x y : Int} {l : List Int} {k : Nat} (h : idxI x (l.take k) = -1) (hy : l[k]? = some y) (e : ¬ x = y) : idxI x (l.take (k + 1)) = -1 := by
  have h0 : (l.take k).contains x = false := by
    have := contI x (l.take k)
    rw [<- this, h]; decide
  have h1 : (l.take (k + 1)).contains x = false := by
    rw [take_succ_get hy, <- Bool.not_eq_true, List.contains_iff_mem] at *
    intro hm
    rcases List.mem_append.1 hm with hm | hm
    · exact h0 hm
    · exact e (List.mem_singleton.1 hm)
  rw [<- contI, decide_eq_false_iff_not] at h1
  unfold idxI at h1 ⊢
  split
  · rename_i i hi; rw [hi] at h1; dsimp only at h1; omega
  · rfl
theorem ch_0 {l : List Int} {k : Nat} {x : Int} (hr : rowF l = true) (hx : l[k]? = some x) : 0 <= x := Int.le_of_lt (row_le hr x (List.mem_of_getElem? hx)).1
theorem ch_len {l : List Int} {k : Nat} {x : Int} (hr : rowF l = true) (hx : l[k]? = some x) : ((putsF (l.take k)).length + (putF x.toNat).length) * 1 <= 140737488355328 := by
  have h1 := puts_len (l := l.take k) (fun x hx => (row_le hr x (List.mem_of_mem_take hx)).2)
  have h2 := row_len hr
  have h3 := row_le hr x (List.mem_of_getElem? hx)
  have h4 := putF_len10 (n := x.toNat) (by omega)
  rw [List.length_take] at h1; omega
def Lindex (l : List Int) (x : Int) : List (Nat × LI) := [(2, { σ := Nat, F := fun k => ([(0, one (.fz .int (l))), (1, one (.int (x))), (7, one (.int (l).length)), (8, one (.int k))], []), J := fun k => k <= l.length /\ idxI x (l.take k) = -1, μ := fun k => (l).length - k })]
def Lchunks (l : List Int) : List (Nat × LI) := [(5, { σ := Nat, F := fun k => ([(4, one (.own 0)), (10, one (.fz .int (l))), (11, one (.int (l).length)), (12, one (.int k))], [.row 5 .u8 ((putsF (l.take k)))]), J := fun k => k <= l.length /\ rowF l = true, μ := fun k => (l).length - k })]
theorem index_t (l : List Int) (x : Int) (r0 : Int) : wpP tyT O_P4 (Lindex l x) Try.f115 [.c (.fz .int (l)), .c (.int (x))] [] [.c (.int (r0))] = (l.length * (8 : Nat) <= (140737488355328 : Nat) -> I64 x -> ∃ (s0 : Nat), (l = l /\ x = x /\ (↑l.length : Int) = (↑l.length : Int) /\ (0 : Int) = (↑s0 : Int)) /\ (s0 <= l.length /\ idxI x (List.take s0 l) = (-1 : Int)) /\ ∀ (s : Nat), s <= l.length /\ idxI x (List.take s l) = (-1 : Int) -> ((↑s : Int) < (↑l.length : Int) -> (0 : Int) <= (↑s : Int) /\ (↑s : Int) < (↑l.length : Int) /\ ∀ (x_1 : Int), l[s]? = some x_1 -> I64 x_1 -> (x = x_1 -> (↑s : Int) = r0) /\ (¬x = x_1 -> I64 ((↑s : Int) + (1 : Int)) /\ ∃ (s' : Nat), (l = l /\ x = x /\ (↑l.length : Int) = (↑l.length : Int) /\ (↑s : Int) + (1 : Int) = (↑s' : Int)) /\ (s' <= l.length /\ idxI x (List.take s' l) = (-1 : Int)) /\ l.length - s' < l.length - s)) /\ ((↑l.length : Int) <= (↑s : Int) -> (-1 : Int) = r0)) := by kernel_rfl
theorem index_s (l : List Int) (x : Int) : Sat Try.prog (shpOf tyT) 115 [.c (.fz .int (l)), .c (.int (x))] [] ⟨[], [.c (.int ((idxI x l)))], none, false⟩ := by
  refine sat_p O_P4_ok (Lindex l x) Try.func115 (by decide) (by kernel_rfl) ?_
  rw [index_t]
  (repeat' (first | with_reducible refine And.intro ?_ ?_ | with_reducible refine and_imp.2 ?_ | intro))
  all_goals try (first | (first | with_reducible rfl | with_reducible assumption | omega | (refine I64_of ?_ ?_ <;> omega)) | exact rfl | exact (idx_no (by with_reducible assumption) (by omega)) | exact (idx_yes (by with_reducible assumption) (by with_reducible assumption) (by with_reducible assumption)) | exact (idx_nx (by with_reducible assumption) (by with_reducible assumption) (by with_reducible assumption)))
  all_goals try (refine ⟨0, ?_⟩; (repeat' (first | with_reducible refine And.intro ?_ ?_ | with_reducible refine and_imp.2 ?_ | intro)))
  all_goals try (first | (first | with_reducible rfl | with_reducible assumption | omega | (refine I64_of ?_ ?_ <;> omega)) | exact rfl | exact (idx_no (by with_reducible assumption) (by omega)) | exact (idx_yes (by with_reducible assumption) (by with_reducible assumption) (by with_reducible assumption)) | exact (idx_nx (by with_reducible assumption) (by with_reducible assumption) (by with_reducible assumption)))
  all_goals try (refine ⟨‹Nat› + 1, ?_⟩; (repeat' (first | with_reducible refine And.intro ?_ ?_ | with_reducible refine and_imp.2 ?_ | intro)))
  all_goals (first | (first | with_reducible rfl | with_reducible assumption | omega | (refine I64_of ?_ ?_ <;> omega)) | exact rfl | exact (idx_no (by with_reducible assumption) (by omega)) | exact (idx_yes (by with_reducible assumption) (by with_reducible assumption) (by with_reducible assumption)) | exact (idx_nx (by with_reducible assumption) (by with_reducible assumption) (by with_reducible assumption)))
theorem fits2_t (n : Int) (most : Int) (named : Bool) (r0 : Bool) : wpP tyT O_P4 [] Try.f109 [.c (.int (n)), .c (.int (most)), .c (.bool (.atom (named)))] [] [.c (.bool (.atom (r0)))] = (I64 n -> I64 most -> (named = true -> (decide ((1 : Int) <= n) && decide (n <= most)) = r0) /\ (named = false -> decide (n = (0 : Int)) = r0)) := by kernel_rfl
theorem fits2_s (n : Int) (most : Int) (named : Bool) : Sat Try.prog (shpOf tyT) 109 [.c (.int (n)), .c (.int (most)), .c (.bool (.atom (named)))] [] ⟨[], [.c (.bool (.atom ((wthF n most named))))], none, false⟩ := by
  refine sat_p O_P4_ok [] Try.func109 (by decide) (by kernel_rfl) ?_
  rw [fits2_t]
  grind [wthF]
theorem chunks_t (l : List Int) (r0 : List UInt8) (r1 : Int) : wpP tyT O_P4 (Lchunks l) Try.f106 [.c (.fz .int (l))] [] [.c (.fz .u8 (r0)), .c (.int (r1))] = (l.length * (8 : Nat) <= (140737488355328 : Nat) -> (rowF l = false -> r0 = [] /\ (1 : Int) = r1) /\ (rowF l = true -> ∃ (s0 : Nat), (l = l /\ (↑l.length : Int) = (↑l.length : Int) /\ (0 : Int) = (↑s0 : Int) /\ putsF (List.take s0 l) = []) /\ (s0 <= l.length /\ rowF l = true) /\ ∀ (s : Nat), s <= l.length /\ rowF l = true -> ((↑s : Int) < (↑l.length : Int) -> (0 : Int) <= (↑s : Int) /\ (↑s : Int) < (↑l.length : Int) /\ ∀ (x : Int), l[s]? = some x -> I64 x -> (0 : Int) <= x /\ ((putsF (List.take s l)).length + (putF x.toNat).length) * (1 : Nat) <= (140737488355328 : Nat) /\ I64 ((↑s : Int) + (1 : Int)) /\ ∃ (s' : Nat), (l = l /\ (↑l.length : Int) = (↑l.length : Int) /\ (↑s : Int) + (1 : Int) = (↑s' : Int) /\ putsF (List.take s l) ++ putF x.toNat = putsF (List.take s' l)) /\ (s' <= l.length /\ rowF l = true) /\ l.length - s' < l.length - s) /\ ((↑l.length : Int) <= (↑s : Int) -> putsF (List.take s l) = r0 /\ (0 : Int) = r1))) := by kernel_rfl
theorem chunks_s (l : List Int) : Sat Try.prog (shpOf tyT) 106 [.c (.fz .int (l))] [] ⟨[], [.c (.fz .u8 ((chunksB l))), .c (.int ((chunksE l)))], none, false⟩ := by
  refine sat_p O_P4_ok (Lchunks l) Try.func106 (by decide) (by kernel_rfl) ?_
  rw [chunks_t]
  (repeat' (first | with_reducible refine And.intro ?_ ?_ | with_reducible refine and_imp.2 ?_ | intro))
  all_goals try (first | (first | with_reducible rfl | with_reducible assumption | omega | (refine I64_of ?_ ?_ <;> omega)) | exact rfl | exact (chunks_no (by with_reducible assumption)).symm | exact (chunksE_no (by with_reducible assumption)) | exact (chunksE_yes (by with_reducible assumption)) | exact (puts_all (by with_reducible assumption) (by omega)) | exact (puts_step (by with_reducible assumption)) | exact (ch_0 (by with_reducible assumption) (by with_reducible assumption)) | exact (ch_len (by with_reducible assumption) (by with_reducible assumption)))
  all_goals try (refine ⟨0, ?_⟩; (repeat' (first | with_reducible refine And.intro ?_ ?_ | with_reducible refine and_imp.2 ?_ | intro)))
  all_goals try (first | (first | with_reducible rfl | with_reducible assumption | omega | (refine I64_of ?_ ?_ <;> omega)) | exact rfl | exact (chunks_no (by with_reducible assumption)).symm | exact (chunksE_no (by with_reducible assumption)) | exact (chunksE_yes (by with_reducible assumption)) | exact (puts_all (by with_reducible assumption) (by omega)) | exact (puts_step (by with_reducible assumption)) | exact (ch_0 (by with_reducible assumption) (by with_reducible assumption)) | exact (ch_len (by with_reducible assumption) (by with_reducible assumption)))
  all_goals try (refine ⟨‹Nat› + 1, ?_⟩; (repeat' (first | with_reducible refine And.intro ?_ ?_ | with_reducible refine and_imp.2 ?_ | intro)))
  all_goals (first | (first | with_reducible rfl | with_reducible assumption | omega | (refine I64_of ?_ ?_ <;> omega)) | exact rfl | exact (chunks_no (by with_reducible assumption)).symm | exact (chunksE_no (by with_reducible assumption)) | exact (chunksE_yes (by with_reducible assumption)) | exact (puts_all (by with_reducible assumption) (by omega)) | exact (puts_step (by with_reducible assumption)) | exact (ch_0 (by with_reducible assumption) (by with_reducible assumption)) | exact (ch_len (by with_reducible assumption) (by with_reducible assumption)))
theorem client_t (s : State) (x : Int) (r0 : Int) : wpP tyT O_P4 [] Try.f30 [.agg (cellsOf (.nm .state) s), .c (.int (x))] [] [.c (.int (r0))] = (I64 s.version -> I64 s.next -> I64 s.keep -> I64 s.quota -> s.sess.length * (32 : Nat) <= (140737488355328 : Nat) -> s.opens.length * (16 : Nat) <= (140737488355328 : Nat) -> s.snaps.length * (64 : Nat) <= (140737488355328 : Nat) -> I64 x -> I64 (placeF Sess.client x s.sess) -> placeF Sess.client x s.sess = r0) := by kernel_rfl
theorem client_s (s : State) (x : Int) : Sat Try.prog (shpOf tyT) 30 [.agg (cellsOf (.nm .state) s), .c (.int (x))] [] ⟨[], [.c (.int ((placeF Sess.client x s.sess)))], none, false⟩ := by
  refine sat_p O_P4_ok [] Try.func30 (by decide) (by kernel_rfl) ?_
  rw [client_t]
  grind
theorem opened_t (s : State) (x : Int) (r0 : Int) : wpP tyT O_P4 [] Try.f73 [.agg (cellsOf (.nm .state) s), .c (.int (x))] [] [.c (.int (r0))] = (I64 s.version -> I64 s.next -> I64 s.keep -> I64 s.quota -> s.sess.length * (32 : Nat) <= (140737488355328 : Nat) -> s.opens.length * (16 : Nat) <= (140737488355328 : Nat) -> s.snaps.length * (64 : Nat) <= (140737488355328 : Nat) -> I64 x -> I64 (placeF Opn.set x s.opens) -> placeF Opn.set x s.opens = r0) := by kernel_rfl
theorem opened_s (s : State) (x : Int) : Sat Try.prog (shpOf tyT) 73 [.agg (cellsOf (.nm .state) s), .c (.int (x))] [] ⟨[], [.c (.int ((placeF Opn.set x s.opens)))], none, false⟩ := by
  refine sat_p O_P4_ok [] Try.func73 (by decide) (by kernel_rfl) ?_
  rw [opened_t]
  grind
theorem snapAt_t (s : State) (x : Int) (r0 : Int) : wpP tyT O_P4 [] Try.f43 [.agg (cellsOf (.nm .state) s), .c (.int (x))] [] [.c (.int (r0))] = (I64 s.version -> I64 s.next -> I64 s.keep -> I64 s.quota -> s.sess.length * (32 : Nat) <= (140737488355328 : Nat) -> s.opens.length * (16 : Nat) <= (140737488355328 : Nat) -> s.snaps.length * (64 : Nat) <= (140737488355328 : Nat) -> I64 x -> I64 (placeF Snap.id x s.snaps) -> placeF Snap.id x s.snaps = r0) := by kernel_rfl
theorem snapAt_s (s : State) (x : Int) : Sat Try.prog (shpOf tyT) 43 [.agg (cellsOf (.nm .state) s), .c (.int (x))] [] ⟨[], [.c (.int ((placeF Snap.id x s.snaps)))], none, false⟩ := by
  refine sat_p O_P4_ok [] Try.func43 (by decide) (by kernel_rfl) ?_
  rw [snapAt_t]
  grind
def O_P5 : Orc := (orc 43 (con (tCons (kT (.nm .state)) (tCons (kC cI) tNil)) hNil fun (s, x, _) (_) => ⟨[], [.c (.int ((placeF Snap.id x s.snaps)))], none, false⟩) (orc 73 (con (tCons (kT (.nm .state)) (tCons (kC cI) tNil)) hNil fun (s, x, _) (_) => ⟨[], [.c (.int ((placeF Opn.set x s.opens)))], none, false⟩) (orc 30 (con (tCons (kT (.nm .state)) (tCons (kC cI) tNil)) hNil fun (s, x, _) (_) => ⟨[], [.c (.int ((placeF Sess.client x s.sess)))], none, false⟩) (orc 106 (con (tCons (kC (cL .int)) tNil) hNil fun (l, _) (_) => ⟨[], [.c (.fz .u8 ((chunksB l))), .c (.int ((chunksE l)))], none, false⟩) (orc 109 (con (tCons (kC cI) (tCons (kC cI) (tCons (kC cB) tNil))) hNil fun (n, most, named, _) (_) => ⟨[], [.c (.bool (.atom ((wthF n most named))))], none, false⟩) (orc 115 (con (tCons (kC (cL .int)) (tCons (kC cI) tNil)) hNil fun (l, x, _) (_) => ⟨[], [.c (.int ((idxI x l)))], none, false⟩) O_P4))))))
theorem O_P5_ok : OrcOK Try.prog (shpOf tyT) O_P5 := (orc_ok (con_ok (tCons_ok kT_ok (tCons_ok (kC_ok cI_ok) tNil_ok)) hNil_ok fun (s, x, _) (_) _ => snapAt_s s x ) (orc_ok (con_ok (tCons_ok kT_ok (tCons_ok (kC_ok cI_ok) tNil_ok)) hNil_ok fun (s, x, _) (_) _ => opened_s s x ) (orc_ok (con_ok (tCons_ok kT_ok (tCons_ok (kC_ok cI_ok) tNil_ok)) hNil_ok fun (s, x, _) (_) _ => client_s s x ) (orc_ok (con_ok (tCons_ok (kC_ok cL_ok) tNil_ok) hNil_ok fun (l, _) (_) _ => chunks_s l ) (orc_ok (con_ok (tCons_ok (kC_ok cI_ok) (tCons_ok (kC_ok cI_ok) (tCons_ok (kC_ok cB_ok) tNil_ok))) hNil_ok fun (n, most, named, _) (_) _ => fits2_s n most named ) (orc_ok (con_ok (tCons_ok (kC_ok cL_ok) (tCons_ok (kC_ok cI_ok) tNil_ok)) hNil_ok fun (l, x, _) (_) _ => index_s l x ) O_P4_ok))))))
end Go.Proofs.Ytbgkcbjebflmbaa
namespace Go.Proofs.Ytbgkcbjebflmbaa
open Go.RowKit
theorem contains_t (l : List Int) (x : Int) (r0 : Bool) : wpP tyT O_P5 [] Try.f108 [.c (.fz .int (l)), .c (.int (x))] [] [.c (.bool (.atom (r0)))] = (l.length * (8 : Nat) <= (140737488355328 : Nat) -> I64 x -> I64 (idxI x l) -> decide ((0 : Int) <= idxI x l) = r0) := by kernel_rfl
theorem contains_s (l : List Int) (x : Int) : Sat Try.prog (shpOf tyT) 108 [.c (.fz .int (l)), .c (.int (x))] [] ⟨[], [.c (.bool (.atom ((l.contains x))))], none, false⟩ := by
  refine sat_p O_P5_ok [] Try.func108 (by decide) (by kernel_rfl) ?_
  rw [contains_t]
  intros; exact contI _ _
theorem snaps1_t (x : Snap) (v : Int) (t : Int) (r0 : Bool) : wpP tyT O_P5 [] Try.f105 [.agg (cellsOf (.nm .snap) x), .c (.ptr 0 0), .c (.ptr 1 0)] [.box 3 ([.int (v)]), .box 3 ([.int (t)])] [.c (.bool (.atom (r0)))] = (I64 x.id -> I64 x.set -> x.chunks.length * (8 : Nat) <= (140737488355328 : Nat) -> x.tag.b.length <= (140737488355328 : Nat) -> (chunksB x.chunks).length * (1 : Nat) <= (140737488355328 : Nat) -> I64 (chunksE x.chunks) -> (decide (chunksE x.chunks = (0 : Int)) && inB x.set (1 : Int) (8 : Int) && (!x.held || decide ((2 : Int) <= v)) && decide ((↑x.tag.b.length : Int) <= t)) = r0) := by kernel_rfl
theorem snaps1_s (x : Snap) (v : Int) (t : Int) : Sat Try.prog (shpOf tyT) 105 [.agg (cellsOf (.nm .snap) x), .c (.ptr 0 0), .c (.ptr 1 0)] [.box 3 ([.int (v)]), .box 3 ([.int (t)])] ⟨[], [.c (.bool (.atom ((snapOk v t x))))], none, false⟩ := by
  refine sat_p O_P5_ok [] Try.func105 (by decide) (by kernel_rfl) ?_
  rw [snaps1_t]
  intros; rfl
def O_P6 : Orc := (orc 105 (con (tCons (kT (.nm .snap)) (tCons (kC (cPtr 0 0)) (tCons (kC (cPtr 1 0)) tNil))) (hCons (oBox 3 (lCons cI lNil)) (hCons (oBox 3 (lCons cI lNil)) hNil)) fun (x, _, _, _) ((v, _), (t, _), _) => ⟨[], [.c (.bool (.atom ((snapOk v t x))))], none, false⟩) (orc 108 (con (tCons (kC (cL .int)) (tCons (kC cI) tNil)) hNil fun (l, x, _) (_) => ⟨[], [.c (.bool (.atom ((l.contains x))))], none, false⟩) O_P5))
theorem O_P6_ok : OrcOK Try.prog (shpOf tyT) O_P6 := (orc_ok (con_ok (tCons_ok kT_ok (tCons_ok (kC_ok cPtr_ok) (tCons_ok (kC_ok cPtr_ok) tNil_ok))) (hCons_ok (oBox_ok (lCons_ok cI_ok lNil_ok)) (hCons_ok (oBox_ok (lCons_ok cI_ok lNil_ok)) hNil_ok)) fun (x, _, _, _) ((v, _), (t, _), _) _ => snaps1_s x v t ) (orc_ok (con_ok (tCons_ok (kC_ok cL_ok) (tCons_ok (kC_ok cI_ok) tNil_ok)) hNil_ok fun (l, x, _) (_) _ => contains_s l x ) O_P5_ok))
end Go.Proofs.Ytbgkcbjebflmbaa
namespace Go.Proofs.Ytbgkcbjebflmbaa
open Go.RowKit
def LallSnap (l : List Snap) (v : Int) (t : Int) : List (Nat × LI) := [(2, { σ := Nat, F := fun k => ([(1, one (.fn 105 [] [(0, 0), (1, 0)])), (7, one (.fz (.nm .snap) (l))), (8, one (.int (l).length)), (9, one (.int k))], [.box 3 ([.int ((v))]), .box 3 ([.int ((t))])]), J := fun k => k <= l.length /\ (l.take k).all ((snapOk v t)) = true, μ := fun k => (l).length - k })]
theorem fits1_t (l : List Int) (c : Command) (r0 : Bool) : wpP tyT O_P6 [] Try.f107 [.c (.fz .int (l)), .c (.ptr 0 0)] [.box 29 (cellsOf (.nm .command) (c))] [.c (.bool (.atom (r0)))] = (l.length * (8 : Nat) <= (140737488355328 : Nat) -> l.contains c.kind = r0) := by kernel_rfl
theorem fits1_s (l : List Int) (c : Command) : Sat Try.prog (shpOf tyT) 107 [.c (.fz .int (l)), .c (.ptr 0 0)] [.box 29 (cellsOf (.nm .command) (c))] ⟨[], [.c (.bool (.atom ((l.contains c.kind))))], none, false⟩ := by
  refine sat_p O_P6_ok [] Try.func107 (by decide) (by kernel_rfl) ?_
  rw [fits1_t]
  grind
theorem allSnap_t (l : List Snap) (v : Int) (t : Int) (r0 : Bool) : wpP tyT O_P6 (LallSnap l v t) Try.f104 [.c (.fz (.nm .snap) (l)), .c (.fn 105 [] [(0, 0), (1, 0)])] [.box 3 ([.int (v)]), .box 3 ([.int (t)])] [.c (.bool (.atom (r0)))] = (l.length * (64 : Nat) <= (140737488355328 : Nat) -> ∃ (s0 : Nat), (l = l /\ (↑l.length : Int) = (↑l.length : Int) /\ (0 : Int) = (↑s0 : Int) /\ v = v /\ t = t) /\ (s0 <= l.length /\ (List.take s0 l).all (snapOk v t) = true) /\ ∀ (s : Nat), s <= l.length /\ (List.take s l).all (snapOk v t) = true -> ((↑s : Int) < (↑l.length : Int) -> (0 : Int) <= (↑s : Int) /\ (↑s : Int) < (↑l.length : Int) /\ ∀ (x : Snap), l[s]? = some x -> I64 x.id -> I64 x.set -> x.chunks.length * (8 : Nat) <= (140737488355328 : Nat) -> x.tag.b.length <= (140737488355328 : Nat) -> (snapOk v t x = false -> false = r0) /\ (snapOk v t x = true -> I64 ((↑s : Int) + (1 : Int)) /\ ∃ (s' : Nat), (l = l /\ (↑l.length : Int) = (↑l.length : Int) /\ (↑s : Int) + (1 : Int) = (↑s' : Int) /\ v = v /\ t = t) /\ (s' <= l.length /\ (List.take s' l).all (snapOk v t) = true) /\ l.length - s' < l.length - s)) /\ ((↑l.length : Int) <= (↑s : Int) -> true = r0)) := by kernel_rfl
theorem allSnap_s (l : List Snap) (v : Int) (t : Int) : Sat Try.prog (shpOf tyT) 104 [.c (.fz (.nm .snap) (l)), .c (.fn 105 [] [(0, 0), (1, 0)])] [.box 3 ([.int (v)]), .box 3 ([.int (t)])] ⟨[], [.c (.bool (.atom ((l.all ((snapOk v t))))))], none, false⟩ := by
  refine sat_p O_P6_ok (LallSnap l v t) Try.func104 (by decide) (by kernel_rfl) ?_
  rw [allSnap_t]
  (repeat' (first | with_reducible refine And.intro ?_ ?_ | with_reducible refine and_imp.2 ?_ | intro))
  all_goals try (first | (first | with_reducible rfl | with_reducible assumption | omega | (refine I64_of ?_ ?_ <;> omega)) | exact (all_next (p := (snapOk v t)) (by with_reducible assumption) (by with_reducible assumption) (by with_reducible assumption)) | exact (al_st (p := (snapOk v t)) (by with_reducible assumption) (by with_reducible assumption)) | exact (al_dn (p := (snapOk v t)) (by with_reducible assumption) (by omega)) | exact rfl)
  all_goals try (refine ⟨0, ?_⟩; (repeat' (first | with_reducible refine And.intro ?_ ?_ | with_reducible refine and_imp.2 ?_ | intro)))
  all_goals try (first | (first | with_reducible rfl | with_reducible assumption | omega | (refine I64_of ?_ ?_ <;> omega)) | exact (all_next (p := (snapOk v t)) (by with_reducible assumption) (by with_reducible assumption) (by with_reducible assumption)) | exact (al_st (p := (snapOk v t)) (by with_reducible assumption) (by with_reducible assumption)) | exact (al_dn (p := (snapOk v t)) (by with_reducible assumption) (by omega)) | exact rfl)
  all_goals try (refine ⟨‹Nat› + 1, ?_⟩; (repeat' (first | with_reducible refine And.intro ?_ ?_ | with_reducible refine and_imp.2 ?_ | intro)))
  all_goals (first | (first | with_reducible rfl | with_reducible assumption | omega | (refine I64_of ?_ ?_ <;> omega)) | exact (all_next (p := (snapOk v t)) (by with_reducible assumption) (by with_reducible assumption) (by with_reducible assumption)) | exact (al_st (p := (snapOk v t)) (by with_reducible assumption) (by with_reducible assumption)) | exact (al_dn (p := (snapOk v t)) (by with_reducible assumption) (by omega)) | exact rfl)
def O_P7 : Orc := (orc 104 (con (tCons (kC (cL (.nm .snap))) (tCons (kC (cFn 105 [] [(0, 0), (1, 0)])) tNil)) (hCons (oBox 3 (lCons cI lNil)) (hCons (oBox 3 (lCons cI lNil)) hNil)) fun (l, _, _) ((v, _), (t, _), _) => ⟨[], [.c (.bool (.atom ((l.all ((snapOk v t))))))], none, false⟩) (orc 107 (con (tCons (kC (cL .int)) (tCons (kC (cPtr 0 0)) tNil)) (hCons (oBox 29 (lSt (.nm .command) lNil)) hNil) fun (l, _, _) ((c, _), _) => ⟨[], [.c (.bool (.atom ((l.contains c.kind))))], none, false⟩) O_P6))
theorem O_P7_ok : OrcOK Try.prog (shpOf tyT) O_P7 := (orc_ok (con_ok (tCons_ok (kC_ok cL_ok) (tCons_ok (kC_ok cFn_ok) tNil_ok)) (hCons_ok (oBox_ok (lCons_ok cI_ok lNil_ok)) (hCons_ok (oBox_ok (lCons_ok cI_ok lNil_ok)) hNil_ok)) fun (l, _, _) ((v, _), (t, _), _) _ => allSnap_s l v t ) (orc_ok (con_ok (tCons_ok (kC_ok cL_ok) (tCons_ok (kC_ok cPtr_ok) tNil_ok)) (hCons_ok (oBox_ok (lSt_ok lNil_ok)) hNil_ok) fun (l, _, _) ((c, _), _) _ => fits1_s l c ) O_P6_ok))
end Go.Proofs.Ytbgkcbjebflmbaa
namespace Go.Proofs.Ytbgkcbjebflmbaa
open Go.RowKit
theorem spanL (k : Int) : (if k = 12 then some (Span.mk 0 64) else if k = 8 then some (Span.mk 2 3) else if k = 6 then some (Span.mk 0 8) else none).getD (dflt (.nm .span)) = ⟨(spanF k).1, (spanF k).2⟩ := by
  by_cases h1 : k = 12
  · subst h1; rfl
  · by_cases h2 : k = 8
    · subst h2; rfl
    · by_cases h3 : k = 6
      · subst h3; rfl
      · simp [spanF, mgetA, h1, h2, h3, dflt]; rfl
theorem fits_t (c : Command) (r0 : Bool) : wpP tyT O_P7 [] Try.f94 [.agg (cellsOf (.nm .command) c)] [] [.c (.bool (.atom (r0)))] = (I64 c.kind -> I64 c.client -> I64 c.seq -> I64 c.set -> I64 c.id -> I64 c.n -> c.chunks.length * (8 : Nat) <= (140737488355328 : Nat) -> c.text.b.length <= (140737488355328 : Nat) -> (c.kind = (3 : Int) -> ((decide ((((fun (j : Int) => if j = (12 : Int) then some (Span.mk (0 : Int) (64 : Int)) else (fun (j : Int) => if j = (8 : Int) then some (Span.mk (2 : Int) (3 : Int)) else (fun (j : Int) => if j = (6 : Int) then some (Span.mk (0 : Int) (8 : Int)) else (fun (_ : Int) => none) j) j) j) c.kind).getD (dflt (Sh.nm NT.span))).lo <= c.n) && decide (c.n <= (((fun (j : Int) => if j = (12 : Int) then some (Span.mk (0 : Int) (64 : Int)) else (fun (j : Int) => if j = (8 : Int) then some (Span.mk (2 : Int) (3 : Int)) else (fun (j : Int) => if j = (6 : Int) then some (Span.mk (0 : Int) (8 : Int)) else (fun (_ : Int) => none) j) j) j) c.kind).getD (dflt (Sh.nm NT.span))).hi)) = true -> (rowF c.chunks = true -> (c.text = Str.mk [] -> ((wthF c.client (8 : Int) ![(8 : Int)].contains c.kind) = true -> ((wthF c.seq (1048576 : Int) ![(1 : Int), (8 : Int)].contains c.kind) = true -> (wthF c.set (8 : Int) ([(2 : Int), (3 : Int), (4 : Int)].contains c.kind) = true -> wthF c.id (1048576 : Int) ([(5 : Int), (7 : Int), (9 : Int), (10 : Int), (11 : Int)].contains c.kind) = r0) /\ (wthF c.set (8 : Int) ([(2 : Int), (3 : Int), (4 : Int)].contains c.kind) = false -> false = r0)) /\ ((wthF c.seq (1048576 : Int) ![(1 : Int), (8 : Int)].contains c.kind) = false -> false = r0)) /\ ((wthF c.client (8 : Int) ![(8 : Int)].contains c.kind) = false -> false = r0)) /\ (¬c.text = Str.mk [] -> false = r0)) /\ (rowF c.chunks = false -> false = r0)) /\ ((decide ((((fun (j : Int) => if j = (12 : Int) then some (Span.mk (0 : Int) (64 : Int)) else (fun (j : Int) => if j = (8 : Int) then some (Span.mk (2 : Int) (3 : Int)) else (fun (j : Int) => if j = (6 : Int) then some (Span.mk (0 : Int) (8 : Int)) else (fun (_ : Int) => none) j) j) j) c.kind).getD (dflt (Sh.nm NT.span))).lo <= c.n) && decide (c.n <= (((fun (j : Int) => if j = (12 : Int) then some (Span.mk (0 : Int) (64 : Int)) else (fun (j : Int) => if j = (8 : Int) then some (Span.mk (2 : Int) (3 : Int)) else (fun (j : Int) => if j = (6 : Int) then some (Span.mk (0 : Int) (8 : Int)) else (fun (_ : Int) => none) j) j) j) c.kind).getD (dflt (Sh.nm NT.span))).hi)) = false -> false = r0)) /\ (¬c.kind = (3 : Int) -> (c.kind = (11 : Int) -> ((decide ((((fun (j : Int) => if j = (12 : Int) then some (Span.mk (0 : Int) (64 : Int)) else (fun (j : Int) => if j = (8 : Int) then some (Span.mk (2 : Int) (3 : Int)) else (fun (j : Int) => if j = (6 : Int) then some (Span.mk (0 : Int) (8 : Int)) else (fun (_ : Int) => none) j) j) j) c.kind).getD (dflt (Sh.nm NT.span))).lo <= c.n) && decide (c.n <= (((fun (j : Int) => if j = (12 : Int) then some (Span.mk (0 : Int) (64 : Int)) else (fun (j : Int) => if j = (8 : Int) then some (Span.mk (2 : Int) (3 : Int)) else (fun (j : Int) => if j = (6 : Int) then some (Span.mk (0 : Int) (8 : Int)) else (fun (_ : Int) => none) j) j) j) c.kind).getD (dflt (Sh.nm NT.span))).hi)) = true -> ((↑c.chunks.length : Int) = (0 : Int) -> ((↑c.text.b.length : Int) <= (16 : Int) -> ((wthF c.client (8 : Int) ![(8 : Int)].contains c.kind) = true -> ((wthF c.seq (1048576 : Int) ![(1 : Int), (8 : Int)].contains c.kind) = true -> (wthF c.set (8 : Int) ([(2 : Int), (3 : Int), (4 : Int)].contains c.kind) = true -> wthF c.id (1048576 : Int) ([(5 : Int), (7 : Int), (9 : Int), (10 : Int), (11 : Int)].contains c.kind) = r0) /\ (wthF c.set (8 : Int) ([(2 : Int), (3 : Int), (4 : Int)].contains c.kind) = false -> false = r0)) /\ ((wthF c.seq (1048576 : Int) ![(1 : Int), (8 : Int)].contains c.kind) = false -> false = r0)) /\ ((wthF c.client (8 : Int) ![(8 : Int)].contains c.kind) = false -> false = r0)) /\ ((16 : Int) < (↑c.text.b.length : Int) -> false = r0)) /\ (¬(↑c.chunks.length : Int) = (0 : Int) -> false = r0)) /\ ((decide ((((fun (j : Int) => if j = (12 : Int) then some (Span.mk (0 : Int) (64 : Int)) else (fun (j : Int) => if j = (8 : Int) then some (Span.mk (2 : Int) (3 : Int)) else (fun (j : Int) => if j = (6 : Int) then some (Span.mk (0 : Int) (8 : Int)) else (fun (_ : Int) => none) j) j) j) c.kind).getD (dflt (Sh.nm NT.span))).lo <= c.n) && decide (c.n <= (((fun (j : Int) => if j = (12 : Int) then some (Span.mk (0 : Int) (64 : Int)) else (fun (j : Int) => if j = (8 : Int) then some (Span.mk (2 : Int) (3 : Int)) else (fun (j : Int) => if j = (6 : Int) then some (Span.mk (0 : Int) (8 : Int)) else (fun (_ : Int) => none) j) j) j) c.kind).getD (dflt (Sh.nm NT.span))).hi)) = false -> false = r0)) /\ (¬c.kind = (11 : Int) -> ((decide ((((fun (j : Int) => if j = (12 : Int) then some (Span.mk (0 : Int) (64 : Int)) else (fun (j : Int) => if j = (8 : Int) then some (Span.mk (2 : Int) (3 : Int)) else (fun (j : Int) => if j = (6 : Int) then some (Span.mk (0 : Int) (8 : Int)) else (fun (_ : Int) => none) j) j) j) c.kind).getD (dflt (Sh.nm NT.span))).lo <= c.n) && decide (c.n <= (((fun (j : Int) => if j = (12 : Int) then some (Span.mk (0 : Int) (64 : Int)) else (fun (j : Int) => if j = (8 : Int) then some (Span.mk (2 : Int) (3 : Int)) else (fun (j : Int) => if j = (6 : Int) then some (Span.mk (0 : Int) (8 : Int)) else (fun (_ : Int) => none) j) j) j) c.kind).getD (dflt (Sh.nm NT.span))).hi)) = true -> ((↑c.chunks.length : Int) = (0 : Int) -> (c.text = Str.mk [] -> ((wthF c.client (8 : Int) ![(8 : Int)].contains c.kind) = true -> ((wthF c.seq (1048576 : Int) ![(1 : Int), (8 : Int)].contains c.kind) = true -> (wthF c.set (8 : Int) ([(2 : Int), (3 : Int), (4 : Int)].contains c.kind) = true -> wthF c.id (1048576 : Int) ([(5 : Int), (7 : Int), (9 : Int), (10 : Int), (11 : Int)].contains c.kind) = r0) /\ (wthF c.set (8 : Int) ([(2 : Int), (3 : Int), (4 : Int)].contains c.kind) = false -> false = r0)) /\ ((wthF c.seq (1048576 : Int) ![(1 : Int), (8 : Int)].contains c.kind) = false -> false = r0)) /\ ((wthF c.client (8 : Int) ![(8 : Int)].contains c.kind) = false -> false = r0)) /\ (¬c.text = Str.mk [] -> false = r0)) /\ (¬(↑c.chunks.length : Int) = (0 : Int) -> false = r0)) /\ ((decide ((((fun (j : Int) => if j = (12 : Int) then some (Span.mk (0 : Int) (64 : Int)) else (fun (j : Int) => if j = (8 : Int) then some (Span.mk (2 : Int) (3 : Int)) else (fun (j : Int) => if j = (6 : Int) then some (Span.mk (0 : Int) (8 : Int)) else (fun (_ : Int) => none) j) j) j) c.kind).getD (dflt (Sh.nm NT.span))).lo <= c.n) && decide (c.n <= (((fun (j : Int) => if j = (12 : Int) then some (Span.mk (0 : Int) (64 : Int)) else (fun (j : Int) => if j = (8 : Int) then some (Span.mk (2 : Int) (3 : Int)) else (fun (j : Int) => if j = (6 : Int) then some (Span.mk (0 : Int) (8 : Int)) else (fun (_ : Int) => none) j) j) j) c.kind).getD (dflt (Sh.nm NT.span))).hi)) = false -> false = r0)))) := by kernel_rfl
theorem fits_s (c : Command) : Sat Try.prog (shpOf tyT) 94 [.agg (cellsOf (.nm .command) c)] [] ⟨[], [.c (.bool (.atom ((fitsF c))))], none, false⟩ := by
  refine sat_p O_P7_ok [] Try.func94 (by decide) (by kernel_rfl) ?_
  rw [fits_t]
  simp only [spanL]
  (repeat' (first | with_reducible refine And.intro ?_ ?_ | with_reducible refine and_imp.2 ?_ | intro))
  all_goals ((unfold fitsF chF txF; simp_all) <;> (intros; omega))
theorem snaps_t (s : State) (v : Int) (r0 : Bool) : wpP tyT O_P7 [] Try.f91 [.agg (cellsOf (.nm .state) s), .c (.int (v))] [] [.c (.bool (.atom (r0)))] = (I64 s.version -> I64 s.next -> I64 s.keep -> I64 s.quota -> s.sess.length * (32 : Nat) <= (140737488355328 : Nat) -> s.opens.length * (16 : Nat) <= (140737488355328 : Nat) -> s.snaps.length * (64 : Nat) <= (140737488355328 : Nat) -> I64 v -> ((↑s.snaps.length : Int) <= (16 : Int) -> I64 (s.next - (1 : Int)) /\ s.next - (1 : Int) <= (1048576 : Int)) /\ ((16 : Int) < (↑s.snaps.length : Int) \/ risingF Snap.id (s.next - (1 : Int)) (0 : Int) s.snaps = false -> false = r0) /\ ((↑s.snaps.length : Int) <= (16 : Int) /\ risingF Snap.id (s.next - (1 : Int)) (0 : Int) s.snaps = true -> (v < (3 : Int) -> s.snaps.all (snapOk v (0 : Int)) = r0) /\ ((3 : Int) <= v -> s.snaps.all (snapOk v (16 : Int)) = r0))) := by kernel_rfl
theorem snaps_s (s : State) (v : Int) (h0 : 1 <= s.next /\ s.next <= 1048576) : Sat Try.prog (shpOf tyT) 91 [.agg (cellsOf (.nm .state) s), .c (.int (v))] [] ⟨[1 <= s.next /\ s.next <= 1048576], [.c (.bool (.atom ((snapsF s v))))], none, false⟩ := by
  refine sat_p O_P7_ok [] Try.func91 (by decide) (by kernel_rfl) ?_
  rw [snaps_t]
  (repeat' (first | with_reducible refine And.intro ?_ ?_ | with_reducible refine and_imp.2 ?_ | intro))
  all_goals (first | (first | with_reducible rfl | with_reducible assumption | omega | (refine I64_of ?_ ?_ <;> omega)) | ((simp only [snapsF, tagMax]; simp_all) <;> (intros; omega)) | (simp only [snapsF, tagMax]; grind))
def O_P8 : Orc := (orc 91 (con (tCons (kT (.nm .state)) (tCons (kC cI) tNil)) hNil fun (s, v, _) (_) => ⟨[1 <= s.next /\ s.next <= 1048576], [.c (.bool (.atom ((snapsF s v))))], none, false⟩) (orc 94 (con (tCons (kT (.nm .command)) tNil) hNil fun (c, _) (_) => ⟨[], [.c (.bool (.atom ((fitsF c))))], none, false⟩) O_P7))
theorem O_P8_ok : OrcOK Try.prog (shpOf tyT) O_P8 := (orc_ok (con_ok (tCons_ok kT_ok (tCons_ok (kC_ok cI_ok) tNil_ok)) hNil_ok fun (s, v, _) (_) hp => snaps_s s v (pr0 hp)) (orc_ok (con_ok (tCons_ok kT_ok tNil_ok) hNil_ok fun (c, _) (_) _ => fits_s c ) O_P7_ok))
end Go.Proofs.Ytbgkcbjebflmbaa
namespace Go.Proofs.Ytbgkcbjebflmbaa
open Go.RowKit
def ndR (n : Int) (used : Bool) (lo hi : Int) : Bool := if used then inB n lo hi else decide (n = 0)
def keptN (s : State) (at_ : Nat) (k : Nat) : Int := (((s.snaps.drop (at_ + 1)).take k).filter fun x => decide (x.set = (s.snaps.getD at_ (dflt (.nm .snap))).set)).length
def keptF (s : State) (at_ : Int) : Bool := if at_ < 0 \/ (s.snaps.length : Int) <= at_ then false else decide (keptN s at_.toNat s.snaps.length < s.keep)
def nch (l : List Snap) : Nat := (l.flatMap Snap.chunks).length
def cntF (c : Int) (l : List Snap) : Nat := (l.flatMap Snap.chunks).count c
def withoutF (id : Int) (l : List Snap) : List Snap := l.filter fun x => !decide (x.id = id)
theorem gd {α : Type} {l : List α} {k : Nat} {d : α} (h : (k : Int) < l.length) : l[k]? = some (l.getD k d) := by
  have hk : k < l.length := by omega
  rw [List.getD_eq_getElem?_getD, List.getElem?_eq_getElem hk]; rfl
theorem row5_nx {l : List Int} {k : Nat} (h : risingF id 64 0 (l.take k) = true) (hk : (k : Int) < l.length) (hb : inB (l.getD k (dflt .int)) 1 64 = true /\ ((k : Int) <= 0 \/ l.getD ((k : Int) - 1).toNat (dflt .int) < l.getD k (dflt .int))) : risingF id 64 0 (l.take (k + 1)) = true := by
  have h1 := inT hb.1
  refine rising_next (key := id) h (gd hk) ?_ h1.2
  by_cases h0 : k = 0
  · subst h0; show (0 : Int) < l.getD 0 (dflt .int); omega
  · rw [lastK_at (by omega) (gd (d := dflt .int) (by omega))]
    have := hb.2.resolve_left (by omega)
    rwa [show ((k : Int) - 1).toNat = k - 1 by omega] at this
theorem row5_st {l : List Int} {k : Nat} (hk : (k : Int) < l.length) (hb : inB (l.getD k (dflt .int)) 1 64 = false \/ 0 < (k : Int) /\ l.getD k (dflt .int) <= l.getD ((k : Int) - 1).toNat (dflt .int)) (h : risingF id 64 0 (l.take k) = true) : false = rowF l := by
  refine rowF_stop (gd (d := dflt .int) hk) fun h2 => ?_
  rcases hb with hb | ⟨h3, h4⟩
  · have h5 := inF hb
    have := lastK_pos h
    omega
  · rw [lastK_at (by omega) (gd (d := dflt .int) (by omega))] at h2
    rw [show ((k : Int) - 1).toNat = k - 1 by omega] at h4
    have := h2.1
    dsimp only [id] at this
    omega
theorem kept_0 {s : State} {a : Nat} : 0 = keptN s a 0 := by simp [keptN]
theorem kept_le {s : State} {a k : Nat} : keptN s a k <= (k : Int) := by
  have h1 := List.length_filter_le (fun x : Snap => decide (x.set = (s.snaps.getD a (dflt (.nm .snap))).set)) ((s.snaps.drop (a + 1)).take k)
  have h2 : ((s.snaps.drop (a + 1)).take k).length <= k := by rw [List.length_take]; omega
  unfold keptN; omega
theorem kept_ge {s : State} {a k : Nat} : 0 <= keptN s a k := by unfold keptN; omega
theorem kept_i {s : State} {a k : Nat} (h : a + 1 + k <= s.snaps.length) (h2 : s.snaps.length * 64 <= 140737488355328) : I64 (keptN s a k + 1) := by
  have h1 := kept_le (s := s) (a := a) (k := k)
  have h0 := kept_ge (s := s) (a := a) (k := k)
  constructor <;> omega
theorem kept_y {s : State} {a k : Nat} {x : Snap} (hx : (s.snaps.drop (a + 1))[k]? = some x) (h : x.set = (s.snaps.getD a (dflt (.nm .snap))).set) : keptN s a k + 1 = keptN s a (k + 1) := by
  unfold keptN
  rw [take_succ_get hx, List.filter_append, List.length_append]
  simp [h]
theorem kept_n {s : State} {a k : Nat} {x : Snap} (hx : (s.snaps.drop (a + 1))[k]? = some x) (h : ¬ x.set = (s.snaps.getD a (dflt (.nm .snap))).set) : keptN s a k = keptN s a (k + 1) := by
  unfold keptN
  rw [take_succ_get hx, List.filter_append, List.length_append]
  rw [show List.filter (fun x : Snap => decide (x.set = (s.snaps.getD a (dflt (.nm .snap))).set)) [x] = [] by simp only [List.filter_cons, h, decide_false, List.filter_nil]; rfl]
  simp
theorem drop_at {s : State} {a : Int} {k : Nat} (h0 : 0 <= a) (h : a + 1 + k < s.snaps.length) : (s.snaps.drop (a.toNat + 1))[k]? = some (s.snaps.getD (a + 1 + k).toNat (dflt (.nm .snap))) := by
  rw [List.getElem?_drop, show (a + 1 + k).toNat = a.toNat + 1 + k by omega]
  exact gd (by omega)
theorem kept_end {s : State} {a : Int} {k : Nat} (h0 : 0 <= a) (ha : a < s.snaps.length) (h : (s.snaps.length : Int) <= a + 1 + k) : decide (keptN s a.toNat k < s.keep) = keptF s a := by
  unfold keptF
  rw [if_neg (by omega)]
  have e : ∀ m : Nat, (s.snaps.length : Int) <= a + 1 + m -> keptN s a.toNat m = keptN s a.toNat s.snaps.length := fun m hm => by
    unfold keptN
    rw [List.take_of_length_le (by rw [List.length_drop]; omega), List.take_of_length_le (by rw [List.length_drop]; omega)]
  rw [e k h]
theorem kept_out {s : State} {a : Int} (h : a < 0 \/ (s.snaps.length : Int) <= a) : false = keptF s a := by unfold keptF; rw [if_pos h]
theorem wo_nx {id : Int} {l : List Snap} {k : Nat} {x y : Snap} (h : ¬ x.id = id) (hx : l[k]? = some x) (hy : l[k]? = some y) : withoutF id (l.take k) ++ [y] = withoutF id (l.take (k + 1)) := by
  rw [hx] at hy; cases hy
  unfold withoutF; rw [take_succ_get hx, List.filter_append]; simp [h]
theorem wo_no {id : Int} {l : List Snap} {k : Nat} {x : Snap} (hx : l[k]? = some x) (h : x.id = id) : withoutF id (l.take k) = withoutF id (l.take (k + 1)) := by
  unfold withoutF; rw [take_succ_get hx, List.filter_append]; simp [h]
theorem wo_all {id : Int} {l : List Snap} {k : Nat} (h : (l.length : Int) <= k) : withoutF id (l.take k) = withoutF id l := by rw [List.take_of_length_le (by omega)]
theorem wo_len {id : Int} {l : List Snap} {k : Nat} {x : Snap} (h : (k : Int) < l.length) (hl : l.length * 64 <= 140737488355328) : ((withoutF id (l.take k)).length + [x].length) * 64 <= 140737488355328 := by
  have h1 := List.length_filter_le (fun x : Snap => !decide (x.id = id)) (l.take k)
  rw [List.length_take] at h1
  unfold withoutF
  simp only [List.length_cons, List.length_nil]
  omega
theorem cnt_nx {c : Int} {l : List Snap} {k : Nat} {x : Snap} (hx : l[k]? = some x) : cntF c (l.take (k + 1)) = cntF c (l.take k) + x.chunks.count c := by
  unfold cntF; rw [take_succ_get hx]; simp
theorem cnt_le {c : Int} {l : List Snap} {k q : Nat} (hl : nch l <= 1048576) (hk : k < l.length) : cntF c (l.take k) + ((l.getD k (dflt (.nm .snap))).chunks.take q).count c <= 1048576 := by
  have hx := gd (d := dflt (.nm .snap)) (l := l) (k := k) (by omega)
  have h1 := cnt_nx (c := c) hx
  have h2 : cntF c (l.take (k + 1)) <= nch l := by
    unfold cntF nch
    refine Nat.le_trans List.count_le_length ?_
    rw [<- List.take_append_drop (k + 1) l, List.flatMap_append, List.length_append, List.take_append_drop]; omega
  have h3 : ((l.getD k (dflt (.nm .snap))).chunks.take q).count c <= (l.getD k (dflt (.nm .snap))).chunks.count c := (List.take_sublist _ _).count_le _
  omega
theorem gdx {l : List Snap} {k : Nat} {x : Snap} (hx : l[k]? = some x) : l.getD k (dflt (.nm .snap)) = x := by rw [List.getD_eq_getElem?_getD, hx]; rfl
theorem cnt_0 {c : Int} {l : List Snap} : (0 : Int) = (cntF c (l.take 0) : Int) := rfl
theorem cnt_00 {c : Int} {l : List Snap} {k : Nat} {m : List Int} : (cntF c (l.take k) : Int) = ((cntF c (l.take k) + (m.take 0).count c : Nat) : Int) := rfl
theorem cnt_a {c : Int} {l : List Snap} {k : Nat} (h : (l.length : Int) <= k) : (cntF c (l.take k) : Int) = (cntF c l : Int) := by rw [List.take_of_length_le (by omega)]
theorem cnt_x {l : List Snap} {k q : Nat} {x y : Snap} (h : (q : Int) < x.chunks.length) (hx : l[k]? = some x) (hy : l[k]? = some y) : (q : Int) < y.chunks.length := by rw [hx] at hy; cases hy; exact h
theorem cnt_d {n k s : Nat} {m : Nat} (h : k = (s, m).1) (hk : k < n) : n - (k + 1) < n - s := by dsimp only at h; omega
theorem cnt_i {c : Int} {l : List Snap} {k q : Nat} (hl : nch l <= 1048576) (hk : k < l.length) : I64 (((cntF c (l.take k) + ((l.getD k (dflt (.nm .snap))).chunks.take q).count c : Nat) : Int) + 1) := by
  have := cnt_le (c := c) (q := q) hl hk; constructor <;> omega
theorem cnt_y {c v : Int} {l : List Snap} {k q : Nat} {x : Snap} (h : v = c) (hv : x.chunks[q]? = some v) (hx : l[k]? = some x) : ((cntF c (l.take k) + ((l.getD k (dflt (.nm .snap))).chunks.take q).count c : Nat) : Int) + 1 = ((cntF c (l.take k) + ((l.getD k (dflt (.nm .snap))).chunks.take (q + 1)).count c : Nat) : Int) := by
  rw [gdx hx, take_succ_get hv, List.count_append, h]; simp; omega
theorem cnt_n {c v : Int} {l : List Snap} {k q : Nat} {x : Snap} (h : ¬ v = c) (hv : x.chunks[q]? = some v) (hx : l[k]? = some x) : ((cntF c (l.take k) + ((l.getD k (dflt (.nm .snap))).chunks.take q).count c : Nat) : Int) = ((cntF c (l.take k) + ((l.getD k (dflt (.nm .snap))).chunks.take (q + 1)).count c : Nat) : Int) := by
  have h2 : ([v] : List Int).count c = 0 := by simp [h]
  rw [gdx hx, take_succ_get hv, List.count_append, h2]; rfl
theorem cnt_e {c : Int} {l : List Snap} {k q : Nat} {x : Snap} (h : (x.chunks.length : Int) <= q) (hx : l[k]? = some x) : ((cntF c (l.take k) + ((l.getD k (dflt (.nm .snap))).chunks.take q).count c : Nat) : Int) = (cntF c (l.take (k + 1)) : Int) := by
  rw [gdx hx, List.take_of_length_le (i := q) (l := x.chunks) (by omega), cnt_nx hx]
theorem cnt_q {l : List Snap} {k q : Nat} {x : Snap} (h : (q : Int) < x.chunks.length) (hx : l[k]? = some x) : q + 1 <= (l.getD k (dflt (.nm .snap))).chunks.length := by rw [gdx hx]; omega
theorem cnt_m {l : List Snap} {k q : Nat} {x : Snap} (h : (q : Int) < x.chunks.length) (hx : l[k]? = some x) : (l.getD k (dflt (.nm .snap))).chunks.length - (q + 1) < (l.getD k (dflt (.nm .snap))).chunks.length - q := by rw [gdx hx]; omega
def Lrow5 (l : List Int) : List (Nat × LI) := [(2, { σ := Nat, F := fun k => ([(0, one (.fz .int (l))), (3, one (.int k))], []), J := fun k => k <= l.length /\ risingF id 64 0 (l.take k) = true, μ := fun k => l.length - k })]
def Lclient7 (st : State) (x : Int) : List (Nat × LI) := [(2, { σ := Nat, F := fun k => ([(1, one (.int (x))), (2, one (.ptr 0 0)), (5, one (.int k))], [.box 26 (cellsOf (.nm .state) ((st)))]), J := fun k => k <= st.sess.length /\ placeF Sess.client x (st.sess.take k) = -1, μ := fun k => st.sess.length - k })]
def Lopened7 (st : State) (x : Int) : List (Nat × LI) := [(2, { σ := Nat, F := fun k => ([(1, one (.int (x))), (2, one (.ptr 0 0)), (5, one (.int k))], [.box 26 (cellsOf (.nm .state) ((st)))]), J := fun k => k <= st.opens.length /\ placeF Opn.set x (st.opens.take k) = -1, μ := fun k => st.opens.length - k })]
def Lsnap7 (st : State) (x : Int) : List (Nat × LI) := [(2, { σ := Nat, F := fun k => ([(1, one (.int (x))), (2, one (.ptr 0 0)), (5, one (.int k))], [.box 26 (cellsOf (.nm .state) ((st)))]), J := fun k => k <= st.snaps.length /\ placeF Snap.id x (st.snaps.take k) = -1, μ := fun k => st.snaps.length - k })]
def Lkept7 (st : State) (at_ : Int) : List (Nat × LI) := [(5, { σ := Nat, F := fun k => ([(1, one (.int (at_))), (2, one (.ptr 0 0)), (5, one (.int (keptN st at_.toNat k))), (6, one (.int (at_ + 1 + k)))], [.box 26 (cellsOf (.nm .state) ((st)))]), J := fun k => at_.toNat + 1 + k <= st.snaps.length /\ 0 <= at_, μ := fun k => st.snaps.length - k })]
def Lkept (st : State) (at_ : Int) : List (Nat × LI) := [(5, { σ := Nat, F := fun k => ([(1, one (.int (at_))), (2, one (.ptr 0 0)), (5, one (.int (keptN st at_.toNat k))), (21, one (.fz (.nm .snap) (st.snaps.drop (at_ + 1).toNat))), (22, one (.int (st.snaps.drop (at_ + 1).toNat).length)), (23, one (.int k))], [.box 26 (cellsOf (.nm .state) ((st)))]), J := fun k => at_.toNat + 1 + k <= st.snaps.length /\ 0 <= at_, μ := fun k => st.snaps.length - k })]
def Lcount6 (l : List Snap) (c : Int) : List (Nat × LI) := [(3, { σ := Nat, F := fun k => ([(0, one (.fz (.nm .snap) (l))), (1, one (.int (c))), (5, one (.int (cntF c (l.take k)))), (6, one (.int k))], []), J := fun k => k <= l.length, μ := fun k => l.length - k }), (6, { σ := Nat × Nat, F := fun q => ([(0, one (.fz (.nm .snap) (l))), (1, one (.int (c))), (5, one (.int ((cntF c (l.take q.1) + ((l.getD q.1 (dflt (.nm .snap))).chunks.take q.2).count c : Nat)))), (6, one (.int q.1)), (7, one (.int q.2))], []), J := fun q => q.1 < l.length /\ q.2 <= (l.getD q.1 (dflt (.nm .snap))).chunks.length, μ := fun q => (l.getD q.1 (dflt (.nm .snap))).chunks.length - q.2, R := some fun q0 q => q.1 = q0.1 })]
def Lwithout6 (l : List Snap) (id : Int) : List (Nat × LI) := [(3, { σ := Nat, F := fun k => ([(0, one (.fz (.nm .snap) (l))), (1, one (.int (id))), (5, one (.own 0)), (6, one (.int k))], [.row 46 (.nm .snap) ((withoutF id (l.take k)))]), J := fun k => k <= l.length, μ := fun k => l.length - k })]
theorem row5_t (l : List Int) (r0 : Bool) : wpP tyT O_P8 (Lrow5 l) Try.f39 [.c (.fz .int (l))] [] [.c (.bool (.atom (r0)))] = (l.length * (8 : Nat) <= (140737488355328 : Nat) -> ∃ (s0 : Nat), (l = l /\ (0 : Int) = (↑s0 : Int)) /\ (s0 <= l.length /\ risingF id (64 : Int) (0 : Int) (List.take s0 l) = true) /\ ∀ (s : Nat), s <= l.length /\ risingF id (64 : Int) (0 : Int) (List.take s l) = true -> ((↑s : Int) < (↑l.length : Int) -> (0 : Int) <= (↑s : Int) /\ (↑s : Int) < (↑l.length : Int) /\ (inB (l.getD s (dflt Sh.int)) (1 : Int) (64 : Int) = true /\ (0 : Int) < (↑s : Int) -> (0 : Int) <= (↑s : Int) /\ (↑s : Int) < (↑l.length : Int)) /\ (inB (l.getD s (dflt Sh.int)) (1 : Int) (64 : Int) = true /\ (0 : Int) < (↑s : Int) -> I64 ((↑s : Int) - (1 : Int))) /\ (inB (l.getD s (dflt Sh.int)) (1 : Int) (64 : Int) = true /\ (0 : Int) < (↑s : Int) -> (0 : Int) <= (↑s : Int) - (1 : Int) /\ (↑s : Int) - (1 : Int) < (↑l.length : Int)) /\ (I64 (l.getD s (dflt Sh.int)) -> (inB (l.getD s (dflt Sh.int)) (1 : Int) (64 : Int) = true /\ (0 : Int) < (↑s : Int) -> I64 (l.getD s (dflt Sh.int))) -> (inB (l.getD s (dflt Sh.int)) (1 : Int) (64 : Int) = true /\ (0 : Int) < (↑s : Int) -> I64 (l.getD ((↑s : Int) - (1 : Int)).toNat (dflt Sh.int))) -> (inB (l.getD s (dflt Sh.int)) (1 : Int) (64 : Int) = false \/ (0 : Int) < (↑s : Int) /\ l.getD s (dflt Sh.int) <= l.getD ((↑s : Int) - (1 : Int)).toNat (dflt Sh.int) -> false = r0) /\ (inB (l.getD s (dflt Sh.int)) (1 : Int) (64 : Int) = true /\ ((↑s : Int) <= (0 : Int) \/ l.getD ((↑s : Int) - (1 : Int)).toNat (dflt Sh.int) < l.getD s (dflt Sh.int)) -> I64 ((↑s : Int) + (1 : Int)) /\ ∃ (s' : Nat), (l = l /\ (↑s : Int) + (1 : Int) = (↑s' : Int)) /\ (s' <= l.length /\ risingF id (64 : Int) (0 : Int) (List.take s' l) = true) /\ l.length - s' < l.length - s))) /\ ((↑l.length : Int) <= (↑s : Int) -> (decide ((1 : Int) <= (↑l.length : Int)) && decide ((↑l.length : Int) <= (8 : Int))) = r0)) := by kernel_rfl
theorem row5_s (l : List Int) : Sat Try.prog (shpOf tyT) 39 [.c (.fz .int (l))] [] ⟨[], [.c (.bool (.atom ((rowF l))))], none, false⟩ := by
  refine sat_p O_P8_ok (Lrow5 l) Try.func39 (by decide) (by kernel_rfl) ?_
  rw [row5_t]
  (repeat' (first | with_reducible refine And.intro ?_ ?_ | with_reducible refine and_imp.2 ?_ | intro))
  all_goals try (first | (first | with_reducible rfl | with_reducible assumption | omega | (refine I64_of ?_ ?_ <;> omega)) | exact rfl | exact (row5_nx (by with_reducible assumption) (by omega) (And.intro (by with_reducible assumption) (by assumption))) | exact (row5_st (by omega) (by assumption) (by with_reducible assumption)) | exact (rowF_done (by with_reducible assumption) (by omega)))
  all_goals try (refine ⟨0, ?_⟩; (repeat' (first | with_reducible refine And.intro ?_ ?_ | with_reducible refine and_imp.2 ?_ | intro)))
  all_goals try (first | (first | with_reducible rfl | with_reducible assumption | omega | (refine I64_of ?_ ?_ <;> omega)) | exact rfl | exact (row5_nx (by with_reducible assumption) (by omega) (And.intro (by with_reducible assumption) (by assumption))) | exact (row5_st (by omega) (by assumption) (by with_reducible assumption)) | exact (rowF_done (by with_reducible assumption) (by omega)))
  all_goals try (refine ⟨‹Nat› + 1, ?_⟩; (repeat' (first | with_reducible refine And.intro ?_ ?_ | with_reducible refine and_imp.2 ?_ | intro)))
  all_goals (first | (first | with_reducible rfl | with_reducible assumption | omega | (refine I64_of ?_ ?_ <;> omega)) | exact rfl | exact (row5_nx (by with_reducible assumption) (by omega) (And.intro (by with_reducible assumption) (by assumption))) | exact (row5_st (by omega) (by assumption) (by with_reducible assumption)) | exact (rowF_done (by with_reducible assumption) (by omega)))
theorem need5_t (x : Int) (r0 : Int) : wpP tyT O_P8 [] Try.f37 [.c (.int (x))] [] [.c (.int (r0))] = (I64 x -> (inB x (1 : Int) (8 : Int) = true -> (1 : Int) = r0) /\ (inB x (1 : Int) (8 : Int) = false -> (inB x (9 : Int) (10 : Int) = true -> (2 : Int) = r0) /\ (inB x (9 : Int) (10 : Int) = false -> (inB x (11 : Int) (12 : Int) = true -> (3 : Int) = r0) /\ (inB x (11 : Int) (12 : Int) = false -> (0 : Int) = r0)))) := by kernel_rfl
theorem need5_s (x : Int) : Sat Try.prog (shpOf tyT) 37 [.c (.int (x))] [] ⟨[], [.c (.int ((needF x)))], none, false⟩ := by
  refine sat_p O_P8_ok [] Try.func37 (by decide) (by kernel_rfl) ?_
  rw [need5_t]
  intro _
  by_cases h : 1 <= x /\ x <= 12
  · rw [need_at h]; simp only [inB, Bool.and_eq_true, Bool.and_eq_false_iff, decide_eq_true_eq, decide_eq_false_iff_not]; (repeat' (first | with_reducible refine And.intro ?_ ?_ | with_reducible refine and_imp.2 ?_ | intro)) <;> (repeat split) <;> omega
  · rw [need_no h]; exact ⟨fun h1 => absurd (inT h1) (by omega), fun _ => ⟨fun h1 => absurd (inT h1) (by omega), fun _ => ⟨fun h1 => absurd (inT h1) (by omega), fun _ => rfl⟩⟩⟩
theorem needs5_t (n : Int) (used : Bool) (lo : Int) (hi : Int) (r0 : Bool) : wpP tyT O_P8 [] Try.f38 [.c (.int (n)), .c (.bool (.atom (used))), .c (.int (lo)), .c (.int (hi))] [] [.c (.bool (.atom (r0)))] = (I64 n -> I64 lo -> I64 hi -> (used = false -> decide (n = (0 : Int)) = r0) /\ (used = true -> inB n lo hi = r0)) := by kernel_rfl
theorem needs5_s (n : Int) (used : Bool) (lo : Int) (hi : Int) : Sat Try.prog (shpOf tyT) 38 [.c (.int (n)), .c (.bool (.atom (used))), .c (.int (lo)), .c (.int (hi))] [] ⟨[], [.c (.bool (.atom ((ndR n used lo hi))))], none, false⟩ := by
  refine sat_p O_P8_ok [] Try.func38 (by decide) (by kernel_rfl) ?_
  rw [needs5_t]
  grind [ndR]
theorem client7_t (st : State) (x : Int) (r0 : Int) : wpP tyT O_P8 (Lclient7 st x) Try.f16 [.agg (cellsOf (.nm .state) st), .c (.int (x))] [] [.c (.int (r0))] = (I64 st.version -> I64 st.next -> I64 st.keep -> I64 st.quota -> st.sess.length * (32 : Nat) <= (140737488355328 : Nat) -> st.opens.length * (16 : Nat) <= (140737488355328 : Nat) -> st.snaps.length * (64 : Nat) <= (140737488355328 : Nat) -> I64 x -> ∃ (s0 : Nat), (x = x /\ (0 : Int) = (↑s0 : Int) /\ st.version = st.version /\ st.next = st.next /\ st.keep = st.keep /\ st.quota = st.quota /\ st.sess = st.sess /\ st.opens = st.opens /\ st.snaps = st.snaps) /\ (s0 <= st.sess.length /\ placeF Sess.client x (List.take s0 st.sess) = (-1 : Int)) /\ ∀ (s : Nat), s <= st.sess.length /\ placeF Sess.client x (List.take s st.sess) = (-1 : Int) -> ((↑s : Int) < (↑st.sess.length : Int) -> (0 : Int) <= (↑s : Int) /\ (↑s : Int) < (↑st.sess.length : Int) /\ ∀ (x_1 : Sess), st.sess[s]? = some x_1 -> I64 x_1.client -> I64 x_1.seq -> I64 x_1.last.code -> I64 x_1.last.n -> (x_1.client = x -> (↑s : Int) = r0) /\ (¬x_1.client = x -> I64 ((↑s : Int) + (1 : Int)) /\ ∃ (s' : Nat), (x = x /\ (↑s : Int) + (1 : Int) = (↑s' : Int) /\ st.version = st.version /\ st.next = st.next /\ st.keep = st.keep /\ st.quota = st.quota /\ st.sess = st.sess /\ st.opens = st.opens /\ st.snaps = st.snaps) /\ (s' <= st.sess.length /\ placeF Sess.client x (List.take s' st.sess) = (-1 : Int)) /\ st.sess.length - s' < st.sess.length - s)) /\ ((↑st.sess.length : Int) <= (↑s : Int) -> (-1 : Int) = r0)) := by kernel_rfl
theorem client7_s (st : State) (x : Int) : Sat Try.prog (shpOf tyT) 16 [.agg (cellsOf (.nm .state) st), .c (.int (x))] [] ⟨[], [.c (.int ((placeF Sess.client x st.sess)))], none, false⟩ := by
  refine sat_p O_P8_ok (Lclient7 st x) Try.func16 (by decide) (by kernel_rfl) ?_
  rw [client7_t]
  (repeat' (first | with_reducible refine And.intro ?_ ?_ | with_reducible refine and_imp.2 ?_ | intro))
  all_goals try (first | (first | with_reducible rfl | with_reducible assumption | omega | (refine I64_of ?_ ?_ <;> omega)) | exact (place_0 (key := Sess.client)) | exact (place_yes (key := Sess.client) (by with_reducible assumption) (by with_reducible assumption) (by with_reducible assumption)) | exact (place_no (key := Sess.client) (by with_reducible assumption) (by omega)) | exact (place_nx (key := Sess.client) (by with_reducible assumption) (by with_reducible assumption) (by with_reducible assumption)))
  all_goals try (refine ⟨0, ?_⟩; (repeat' (first | with_reducible refine And.intro ?_ ?_ | with_reducible refine and_imp.2 ?_ | intro)))
  all_goals try (first | (first | with_reducible rfl | with_reducible assumption | omega | (refine I64_of ?_ ?_ <;> omega)) | exact (place_0 (key := Sess.client)) | exact (place_yes (key := Sess.client) (by with_reducible assumption) (by with_reducible assumption) (by with_reducible assumption)) | exact (place_no (key := Sess.client) (by with_reducible assumption) (by omega)) | exact (place_nx (key := Sess.client) (by with_reducible assumption) (by with_reducible assumption) (by with_reducible assumption)))
  all_goals try (refine ⟨‹Nat› + 1, ?_⟩; (repeat' (first | with_reducible refine And.intro ?_ ?_ | with_reducible refine and_imp.2 ?_ | intro)))
  all_goals (first | (first | with_reducible rfl | with_reducible assumption | omega | (refine I64_of ?_ ?_ <;> omega)) | exact (place_0 (key := Sess.client)) | exact (place_yes (key := Sess.client) (by with_reducible assumption) (by with_reducible assumption) (by with_reducible assumption)) | exact (place_no (key := Sess.client) (by with_reducible assumption) (by omega)) | exact (place_nx (key := Sess.client) (by with_reducible assumption) (by with_reducible assumption) (by with_reducible assumption)))
theorem opened7_t (st : State) (x : Int) (r0 : Int) : wpP tyT O_P8 (Lopened7 st x) Try.f23 [.agg (cellsOf (.nm .state) st), .c (.int (x))] [] [.c (.int (r0))] = (I64 st.version -> I64 st.next -> I64 st.keep -> I64 st.quota -> st.sess.length * (32 : Nat) <= (140737488355328 : Nat) -> st.opens.length * (16 : Nat) <= (140737488355328 : Nat) -> st.snaps.length * (64 : Nat) <= (140737488355328 : Nat) -> I64 x -> ∃ (s0 : Nat), (x = x /\ (0 : Int) = (↑s0 : Int) /\ st.version = st.version /\ st.next = st.next /\ st.keep = st.keep /\ st.quota = st.quota /\ st.sess = st.sess /\ st.opens = st.opens /\ st.snaps = st.snaps) /\ (s0 <= st.opens.length /\ placeF Opn.set x (List.take s0 st.opens) = (-1 : Int)) /\ ∀ (s : Nat), s <= st.opens.length /\ placeF Opn.set x (List.take s st.opens) = (-1 : Int) -> ((↑s : Int) < (↑st.opens.length : Int) -> (0 : Int) <= (↑s : Int) /\ (↑s : Int) < (↑st.opens.length : Int) /\ ∀ (x_1 : Opn), st.opens[s]? = some x_1 -> I64 x_1.set -> I64 x_1.client -> (x_1.set = x -> (↑s : Int) = r0) /\ (¬x_1.set = x -> I64 ((↑s : Int) + (1 : Int)) /\ ∃ (s' : Nat), (x = x /\ (↑s : Int) + (1 : Int) = (↑s' : Int) /\ st.version = st.version /\ st.next = st.next /\ st.keep = st.keep /\ st.quota = st.quota /\ st.sess = st.sess /\ st.opens = st.opens /\ st.snaps = st.snaps) /\ (s' <= st.opens.length /\ placeF Opn.set x (List.take s' st.opens) = (-1 : Int)) /\ st.opens.length - s' < st.opens.length - s)) /\ ((↑st.opens.length : Int) <= (↑s : Int) -> (-1 : Int) = r0)) := by kernel_rfl
theorem opened7_s (st : State) (x : Int) : Sat Try.prog (shpOf tyT) 23 [.agg (cellsOf (.nm .state) st), .c (.int (x))] [] ⟨[], [.c (.int ((placeF Opn.set x st.opens)))], none, false⟩ := by
  refine sat_p O_P8_ok (Lopened7 st x) Try.func23 (by decide) (by kernel_rfl) ?_
  rw [opened7_t]
  (repeat' (first | with_reducible refine And.intro ?_ ?_ | with_reducible refine and_imp.2 ?_ | intro))
  all_goals try (first | (first | with_reducible rfl | with_reducible assumption | omega | (refine I64_of ?_ ?_ <;> omega)) | exact (place_0 (key := Opn.set)) | exact (place_yes (key := Opn.set) (by with_reducible assumption) (by with_reducible assumption) (by with_reducible assumption)) | exact (place_no (key := Opn.set) (by with_reducible assumption) (by omega)) | exact (place_nx (key := Opn.set) (by with_reducible assumption) (by with_reducible assumption) (by with_reducible assumption)))
  all_goals try (refine ⟨0, ?_⟩; (repeat' (first | with_reducible refine And.intro ?_ ?_ | with_reducible refine and_imp.2 ?_ | intro)))
  all_goals try (first | (first | with_reducible rfl | with_reducible assumption | omega | (refine I64_of ?_ ?_ <;> omega)) | exact (place_0 (key := Opn.set)) | exact (place_yes (key := Opn.set) (by with_reducible assumption) (by with_reducible assumption) (by with_reducible assumption)) | exact (place_no (key := Opn.set) (by with_reducible assumption) (by omega)) | exact (place_nx (key := Opn.set) (by with_reducible assumption) (by with_reducible assumption) (by with_reducible assumption)))
  all_goals try (refine ⟨‹Nat› + 1, ?_⟩; (repeat' (first | with_reducible refine And.intro ?_ ?_ | with_reducible refine and_imp.2 ?_ | intro)))
  all_goals (first | (first | with_reducible rfl | with_reducible assumption | omega | (refine I64_of ?_ ?_ <;> omega)) | exact (place_0 (key := Opn.set)) | exact (place_yes (key := Opn.set) (by with_reducible assumption) (by with_reducible assumption) (by with_reducible assumption)) | exact (place_no (key := Opn.set) (by with_reducible assumption) (by omega)) | exact (place_nx (key := Opn.set) (by with_reducible assumption) (by with_reducible assumption) (by with_reducible assumption)))
theorem snap7_t (st : State) (x : Int) (r0 : Int) : wpP tyT O_P8 (Lsnap7 st x) Try.f18 [.agg (cellsOf (.nm .state) st), .c (.int (x))] [] [.c (.int (r0))] = (I64 st.version -> I64 st.next -> I64 st.keep -> I64 st.quota -> st.sess.length * (32 : Nat) <= (140737488355328 : Nat) -> st.opens.length * (16 : Nat) <= (140737488355328 : Nat) -> st.snaps.length * (64 : Nat) <= (140737488355328 : Nat) -> I64 x -> ∃ (s0 : Nat), (x = x /\ (0 : Int) = (↑s0 : Int) /\ st.version = st.version /\ st.next = st.next /\ st.keep = st.keep /\ st.quota = st.quota /\ st.sess = st.sess /\ st.opens = st.opens /\ st.snaps = st.snaps) /\ (s0 <= st.snaps.length /\ placeF Snap.id x (List.take s0 st.snaps) = (-1 : Int)) /\ ∀ (s : Nat), s <= st.snaps.length /\ placeF Snap.id x (List.take s st.snaps) = (-1 : Int) -> ((↑s : Int) < (↑st.snaps.length : Int) -> (0 : Int) <= (↑s : Int) /\ (↑s : Int) < (↑st.snaps.length : Int) /\ ∀ (x_1 : Snap), st.snaps[s]? = some x_1 -> I64 x_1.id -> I64 x_1.set -> x_1.chunks.length * (8 : Nat) <= (140737488355328 : Nat) -> x_1.tag.b.length <= (140737488355328 : Nat) -> (x_1.id = x -> (↑s : Int) = r0) /\ (¬x_1.id = x -> I64 ((↑s : Int) + (1 : Int)) /\ ∃ (s' : Nat), (x = x /\ (↑s : Int) + (1 : Int) = (↑s' : Int) /\ st.version = st.version /\ st.next = st.next /\ st.keep = st.keep /\ st.quota = st.quota /\ st.sess = st.sess /\ st.opens = st.opens /\ st.snaps = st.snaps) /\ (s' <= st.snaps.length /\ placeF Snap.id x (List.take s' st.snaps) = (-1 : Int)) /\ st.snaps.length - s' < st.snaps.length - s)) /\ ((↑st.snaps.length : Int) <= (↑s : Int) -> (-1 : Int) = r0)) := by kernel_rfl
theorem snap7_s (st : State) (x : Int) : Sat Try.prog (shpOf tyT) 18 [.agg (cellsOf (.nm .state) st), .c (.int (x))] [] ⟨[], [.c (.int ((placeF Snap.id x st.snaps)))], none, false⟩ := by
  refine sat_p O_P8_ok (Lsnap7 st x) Try.func18 (by decide) (by kernel_rfl) ?_
  rw [snap7_t]
  (repeat' (first | with_reducible refine And.intro ?_ ?_ | with_reducible refine and_imp.2 ?_ | intro))
  all_goals try (first | (first | with_reducible rfl | with_reducible assumption | omega | (refine I64_of ?_ ?_ <;> omega)) | exact (place_0 (key := Snap.id)) | exact (place_yes (key := Snap.id) (by with_reducible assumption) (by with_reducible assumption) (by with_reducible assumption)) | exact (place_no (key := Snap.id) (by with_reducible assumption) (by omega)) | exact (place_nx (key := Snap.id) (by with_reducible assumption) (by with_reducible assumption) (by with_reducible assumption)))
  all_goals try (refine ⟨0, ?_⟩; (repeat' (first | with_reducible refine And.intro ?_ ?_ | with_reducible refine and_imp.2 ?_ | intro)))
  all_goals try (first | (first | with_reducible rfl | with_reducible assumption | omega | (refine I64_of ?_ ?_ <;> omega)) | exact (place_0 (key := Snap.id)) | exact (place_yes (key := Snap.id) (by with_reducible assumption) (by with_reducible assumption) (by with_reducible assumption)) | exact (place_no (key := Snap.id) (by with_reducible assumption) (by omega)) | exact (place_nx (key := Snap.id) (by with_reducible assumption) (by with_reducible assumption) (by with_reducible assumption)))
  all_goals try (refine ⟨‹Nat› + 1, ?_⟩; (repeat' (first | with_reducible refine And.intro ?_ ?_ | with_reducible refine and_imp.2 ?_ | intro)))
  all_goals (first | (first | with_reducible rfl | with_reducible assumption | omega | (refine I64_of ?_ ?_ <;> omega)) | exact (place_0 (key := Snap.id)) | exact (place_yes (key := Snap.id) (by with_reducible assumption) (by with_reducible assumption) (by with_reducible assumption)) | exact (place_no (key := Snap.id) (by with_reducible assumption) (by omega)) | exact (place_nx (key := Snap.id) (by with_reducible assumption) (by with_reducible assumption) (by with_reducible assumption)))
theorem kept7_t (st : State) (at_ : Int) (r0 : Bool) : wpP tyT O_P8 (Lkept7 st at_) Try.f19 [.agg (cellsOf (.nm .state) st), .c (.int (at_))] [] [.c (.bool (.atom (r0)))] = (I64 st.version -> I64 st.next -> I64 st.keep -> I64 st.quota -> st.sess.length * (32 : Nat) <= (140737488355328 : Nat) -> st.opens.length * (16 : Nat) <= (140737488355328 : Nat) -> st.snaps.length * (64 : Nat) <= (140737488355328 : Nat) -> I64 at_ -> (at_ < (0 : Int) \/ (↑st.snaps.length : Int) <= at_ -> false = r0) /\ ((0 : Int) <= at_ /\ at_ < (↑st.snaps.length : Int) -> I64 (at_ + (1 : Int)) /\ ∃ (s0 : Nat), (at_ = at_ /\ (0 : Int) = keptN st at_.toNat s0 /\ at_ + (1 : Int) = at_ + (1 : Int) + (↑s0 : Int) /\ st.version = st.version /\ st.next = st.next /\ st.keep = st.keep /\ st.quota = st.quota /\ st.sess = st.sess /\ st.opens = st.opens /\ st.snaps = st.snaps) /\ (at_.toNat + (1 : Nat) + s0 <= st.snaps.length /\ (0 : Int) <= at_) /\ ∀ (s : Nat), at_.toNat + (1 : Nat) + s <= st.snaps.length /\ (0 : Int) <= at_ -> (at_ + (1 : Int) + (↑s : Int) < (↑st.snaps.length : Int) -> (0 : Int) <= at_ + (1 : Int) + (↑s : Int) /\ at_ + (1 : Int) + (↑s : Int) < (↑st.snaps.length : Int) /\ (0 : Int) <= at_ /\ at_ < (↑st.snaps.length : Int) /\ (I64 (st.snaps.getD (at_ + (1 : Int) + (↑s : Int)).toNat (dflt (Sh.nm NT.snap))).id -> I64 (st.snaps.getD (at_ + (1 : Int) + (↑s : Int)).toNat (dflt (Sh.nm NT.snap))).set -> (st.snaps.getD (at_ + (1 : Int) + (↑s : Int)).toNat (dflt (Sh.nm NT.snap))).chunks.length * (8 : Nat) <= (140737488355328 : Nat) -> (st.snaps.getD (at_ + (1 : Int) + (↑s : Int)).toNat (dflt (Sh.nm NT.snap))).tag.b.length <= (140737488355328 : Nat) -> I64 (st.snaps.getD at_.toNat (dflt (Sh.nm NT.snap))).id -> I64 (st.snaps.getD at_.toNat (dflt (Sh.nm NT.snap))).set -> (st.snaps.getD at_.toNat (dflt (Sh.nm NT.snap))).chunks.length * (8 : Nat) <= (140737488355328 : Nat) -> (st.snaps.getD at_.toNat (dflt (Sh.nm NT.snap))).tag.b.length <= (140737488355328 : Nat) -> ((st.snaps.getD (at_ + (1 : Int) + (↑s : Int)).toNat (dflt (Sh.nm NT.snap))).set = (st.snaps.getD at_.toNat (dflt (Sh.nm NT.snap))).set -> I64 (keptN st at_.toNat s + (1 : Int)) /\ I64 (at_ + (1 : Int) + (↑s : Int) + (1 : Int)) /\ ∃ (s' : Nat), (at_ = at_ /\ keptN st at_.toNat s + (1 : Int) = keptN st at_.toNat s' /\ at_ + (1 : Int) + (↑s : Int) + (1 : Int) = at_ + (1 : Int) + (↑s' : Int) /\ st.version = st.version /\ st.next = st.next /\ st.keep = st.keep /\ st.quota = st.quota /\ st.sess = st.sess /\ st.opens = st.opens /\ st.snaps = st.snaps) /\ (at_.toNat + (1 : Nat) + s' <= st.snaps.length /\ (0 : Int) <= at_) /\ st.snaps.length - s' < st.snaps.length - s) /\ (¬(st.snaps.getD (at_ + (1 : Int) + (↑s : Int)).toNat (dflt (Sh.nm NT.snap))).set = (st.snaps.getD at_.toNat (dflt (Sh.nm NT.snap))).set -> I64 (at_ + (1 : Int) + (↑s : Int) + (1 : Int)) /\ ∃ (s' : Nat), (at_ = at_ /\ keptN st at_.toNat s = keptN st at_.toNat s' /\ at_ + (1 : Int) + (↑s : Int) + (1 : Int) = at_ + (1 : Int) + (↑s' : Int) /\ st.version = st.version /\ st.next = st.next /\ st.keep = st.keep /\ st.quota = st.quota /\ st.sess = st.sess /\ st.opens = st.opens /\ st.snaps = st.snaps) /\ (at_.toNat + (1 : Nat) + s' <= st.snaps.length /\ (0 : Int) <= at_) /\ st.snaps.length - s' < st.snaps.length - s))) /\ ((↑st.snaps.length : Int) <= at_ + (1 : Int) + (↑s : Int) -> decide (keptN st at_.toNat s < st.keep) = r0))) := by kernel_rfl
theorem kept7_s (st : State) (at_ : Int) : Sat Try.prog (shpOf tyT) 19 [.agg (cellsOf (.nm .state) st), .c (.int (at_))] [] ⟨[], [.c (.bool (.atom ((keptF st at_))))], none, false⟩ := by
  refine sat_p O_P8_ok (Lkept7 st at_) Try.func19 (by decide) (by kernel_rfl) ?_
  rw [kept7_t]
  (repeat' (first | with_reducible refine And.intro ?_ ?_ | with_reducible refine and_imp.2 ?_ | intro))
  all_goals try (first | (first | with_reducible rfl | with_reducible assumption | omega | (refine I64_of ?_ ?_ <;> omega)) | exact kept_0 | exact (kept_out (by assumption)) | exact (kept_i (by omega) (by omega)) | exact (kept_end (by omega) (by omega) (by omega)) | exact (kept_y (drop_at (by omega) (by omega)) (by with_reducible assumption)) | exact (kept_n (drop_at (by omega) (by omega)) (by with_reducible assumption)))
  all_goals try (refine ⟨0, ?_⟩; (repeat' (first | with_reducible refine And.intro ?_ ?_ | with_reducible refine and_imp.2 ?_ | intro)))
  all_goals try (first | (first | with_reducible rfl | with_reducible assumption | omega | (refine I64_of ?_ ?_ <;> omega)) | exact kept_0 | exact (kept_out (by assumption)) | exact (kept_i (by omega) (by omega)) | exact (kept_end (by omega) (by omega) (by omega)) | exact (kept_y (drop_at (by omega) (by omega)) (by with_reducible assumption)) | exact (kept_n (drop_at (by omega) (by omega)) (by with_reducible assumption)))
  all_goals try (refine ⟨‹Nat› + 1, ?_⟩; (repeat' (first | with_reducible refine And.intro ?_ ?_ | with_reducible refine and_imp.2 ?_ | intro)))
  all_goals (first | (first | with_reducible rfl | with_reducible assumption | omega | (refine I64_of ?_ ?_ <;> omega)) | exact kept_0 | exact (kept_out (by assumption)) | exact (kept_i (by omega) (by omega)) | exact (kept_end (by omega) (by omega) (by omega)) | exact (kept_y (drop_at (by omega) (by omega)) (by with_reducible assumption)) | exact (kept_n (drop_at (by omega) (by omega)) (by with_reducible assumption)))
theorem kept_t (st : State) (at_ : Int) (r0 : Bool) : wpP tyT O_P8 (Lkept st at_) Try.f80 [.agg (cellsOf (.nm .state) st), .c (.int (at_))] [] [.c (.bool (.atom (r0)))] = (I64 st.version -> I64 st.next -> I64 st.keep -> I64 st.quota -> st.sess.length * (32 : Nat) <= (140737488355328 : Nat) -> st.opens.length * (16 : Nat) <= (140737488355328 : Nat) -> st.snaps.length * (64 : Nat) <= (140737488355328 : Nat) -> I64 at_ -> (at_ < (0 : Int) \/ (↑st.snaps.length : Int) <= at_ -> false = r0) /\ ((0 : Int) <= at_ /\ at_ < (↑st.snaps.length : Int) -> I64 (at_ + (1 : Int)) /\ (0 : Int) <= at_ + (1 : Int) /\ at_ + (1 : Int) <= (↑st.snaps.length : Int) /\ ∃ (s0 : Nat), (at_ = at_ /\ (0 : Int) = keptN st at_.toNat s0 /\ List.drop (at_ + (1 : Int)).toNat st.snaps = List.drop (at_ + (1 : Int)).toNat st.snaps /\ (↑(List.drop (at_ + (1 : Int)).toNat st.snaps).length : Int) = (↑(List.drop (at_ + (1 : Int)).toNat st.snaps).length : Int) /\ (0 : Int) = (↑s0 : Int) /\ st.version = st.version /\ st.next = st.next /\ st.keep = st.keep /\ st.quota = st.quota /\ st.sess = st.sess /\ st.opens = st.opens /\ st.snaps = st.snaps) /\ (at_.toNat + (1 : Nat) + s0 <= st.snaps.length /\ (0 : Int) <= at_) /\ ∀ (s : Nat), at_.toNat + (1 : Nat) + s <= st.snaps.length /\ (0 : Int) <= at_ -> ((↑s : Int) < (↑(List.drop (at_ + (1 : Int)).toNat st.snaps).length : Int) -> (0 : Int) <= (↑s : Int) /\ (↑s : Int) < (↑(List.drop (at_ + (1 : Int)).toNat st.snaps).length : Int) /\ ∀ (x : Snap), (List.drop (at_ + (1 : Int)).toNat st.snaps)[s]? = some x -> I64 x.id -> I64 x.set -> x.chunks.length * (8 : Nat) <= (140737488355328 : Nat) -> x.tag.b.length <= (140737488355328 : Nat) -> (0 : Int) <= at_ /\ at_ < (↑st.snaps.length : Int) /\ (I64 (st.snaps.getD at_.toNat (dflt (Sh.nm NT.snap))).id -> I64 (st.snaps.getD at_.toNat (dflt (Sh.nm NT.snap))).set -> (st.snaps.getD at_.toNat (dflt (Sh.nm NT.snap))).chunks.length * (8 : Nat) <= (140737488355328 : Nat) -> (st.snaps.getD at_.toNat (dflt (Sh.nm NT.snap))).tag.b.length <= (140737488355328 : Nat) -> (x.set = (st.snaps.getD at_.toNat (dflt (Sh.nm NT.snap))).set -> I64 (keptN st at_.toNat s + (1 : Int)) /\ I64 ((↑s : Int) + (1 : Int)) /\ ∃ (s' : Nat), (at_ = at_ /\ keptN st at_.toNat s + (1 : Int) = keptN st at_.toNat s' /\ List.drop (at_ + (1 : Int)).toNat st.snaps = List.drop (at_ + (1 : Int)).toNat st.snaps /\ (↑(List.drop (at_ + (1 : Int)).toNat st.snaps).length : Int) = (↑(List.drop (at_ + (1 : Int)).toNat st.snaps).length : Int) /\ (↑s : Int) + (1 : Int) = (↑s' : Int) /\ st.version = st.version /\ st.next = st.next /\ st.keep = st.keep /\ st.quota = st.quota /\ st.sess = st.sess /\ st.opens = st.opens /\ st.snaps = st.snaps) /\ (at_.toNat + (1 : Nat) + s' <= st.snaps.length /\ (0 : Int) <= at_) /\ st.snaps.length - s' < st.snaps.length - s) /\ (¬x.set = (st.snaps.getD at_.toNat (dflt (Sh.nm NT.snap))).set -> I64 ((↑s : Int) + (1 : Int)) /\ ∃ (s' : Nat), (at_ = at_ /\ keptN st at_.toNat s = keptN st at_.toNat s' /\ List.drop (at_ + (1 : Int)).toNat st.snaps = List.drop (at_ + (1 : Int)).toNat st.snaps /\ (↑(List.drop (at_ + (1 : Int)).toNat st.snaps).length : Int) = (↑(List.drop (at_ + (1 : Int)).toNat st.snaps).length : Int) /\ (↑s : Int) + (1 : Int) = (↑s' : Int) /\ st.version = st.version /\ st.next = st.next /\ st.keep = st.keep /\ st.quota = st.quota /\ st.sess = st.sess /\ st.opens = st.opens /\ st.snaps = st.snaps) /\ (at_.toNat + (1 : Nat) + s' <= st.snaps.length /\ (0 : Int) <= at_) /\ st.snaps.length - s' < st.snaps.length - s))) /\ ((↑(List.drop (at_ + (1 : Int)).toNat st.snaps).length : Int) <= (↑s : Int) -> decide (keptN st at_.toNat s < st.keep) = r0))) := by kernel_rfl
theorem kept_s (st : State) (at_ : Int) : Sat Try.prog (shpOf tyT) 80 [.agg (cellsOf (.nm .state) st), .c (.int (at_))] [] ⟨[], [.c (.bool (.atom ((keptF st at_))))], none, false⟩ := by
  refine sat_p O_P8_ok (Lkept st at_) Try.func80 (by decide) (by kernel_rfl) ?_
  rw [kept_t]
  (repeat' (first | with_reducible refine And.intro ?_ ?_ | with_reducible refine and_imp.2 ?_ | intro))
  all_goals try (first | (first | with_reducible rfl | with_reducible assumption | omega | (refine I64_of ?_ ?_ <;> omega)) | exact kept_0 | exact (kept_out (by assumption)) | exact (kept_i (by omega) (by omega)) | exact (kept_end (by omega) (by omega) (by rw [List.length_drop] at *; omega)) | exact (kept_y (by rw [show (at_ + 1).toNat = at_.toNat + 1 by omega] at *; assumption) (by with_reducible assumption)) | exact (by have := ‹_ < ((List.length (List.drop _ _) : Nat) : Int)›; rw [List.length_drop] at this; omega) | exact (kept_n (by rw [show (at_ + 1).toNat = at_.toNat + 1 by omega] at *; assumption) (by with_reducible assumption)))
  all_goals try (refine ⟨0, ?_⟩; (repeat' (first | with_reducible refine And.intro ?_ ?_ | with_reducible refine and_imp.2 ?_ | intro)))
  all_goals try (first | (first | with_reducible rfl | with_reducible assumption | omega | (refine I64_of ?_ ?_ <;> omega)) | exact kept_0 | exact (kept_out (by assumption)) | exact (kept_i (by omega) (by omega)) | exact (kept_end (by omega) (by omega) (by rw [List.length_drop] at *; omega)) | exact (kept_y (by rw [show (at_ + 1).toNat = at_.toNat + 1 by omega] at *; assumption) (by with_reducible assumption)) | exact (by have := ‹_ < ((List.length (List.drop _ _) : Nat) : Int)›; rw [List.length_drop] at this; omega) | exact (kept_n (by rw [show (at_ + 1).toNat = at_.toNat + 1 by omega] at *; assumption) (by with_reducible assumption)))
  all_goals try (refine ⟨‹Nat› + 1, ?_⟩; (repeat' (first | with_reducible refine And.intro ?_ ?_ | with_reducible refine and_imp.2 ?_ | intro)))
  all_goals (first | (first | with_reducible rfl | with_reducible assumption | omega | (refine I64_of ?_ ?_ <;> omega)) | exact kept_0 | exact (kept_out (by assumption)) | exact (kept_i (by omega) (by omega)) | exact (kept_end (by omega) (by omega) (by rw [List.length_drop] at *; omega)) | exact (kept_y (by rw [show (at_ + 1).toNat = at_.toNat + 1 by omega] at *; assumption) (by with_reducible assumption)) | exact (by have := ‹_ < ((List.length (List.drop _ _) : Nat) : Int)›; rw [List.length_drop] at this; omega) | exact (kept_n (by rw [show (at_ + 1).toNat = at_.toNat + 1 by omega] at *; assumption) (by with_reducible assumption)))
theorem count6_t (l : List Snap) (c : Int) (r0 : Int) : wpP tyT O_P8 (Lcount6 l c) Try.f40 [.c (.fz (.nm .snap) (l)), .c (.int (c))] [] [.c (.int (r0))] = (l.length * (64 : Nat) <= (140737488355328 : Nat) -> I64 c -> ∃ (s0 : Nat), (l = l /\ c = c /\ (0 : Int) = (↑(cntF c (List.take s0 l)) : Int) /\ (0 : Int) = (↑s0 : Int)) /\ s0 <= l.length /\ ∀ (s : Nat), s <= l.length -> ((↑s : Int) < (↑l.length : Int) -> ∃ (s0 : Nat × Nat), (l = l /\ c = c /\ (↑(cntF c (List.take s l)) : Int) = (↑(cntF c (List.take s0.fst l) + List.count c (List.take s0.snd (l.getD s0.fst (dflt (Sh.nm NT.snap))).chunks)) : Int) /\ (↑s : Int) = (↑s0.fst : Int) /\ (0 : Int) = (↑s0.snd : Int)) /\ (s0.fst < l.length /\ s0.snd <= (l.getD s0.fst (dflt (Sh.nm NT.snap))).chunks.length) /\ s0.fst = s0.fst /\ ∀ (s_1 : Nat × Nat), s_1.fst < l.length /\ s_1.snd <= (l.getD s_1.fst (dflt (Sh.nm NT.snap))).chunks.length -> s_1.fst = s0.fst -> (0 : Int) <= (↑s_1.fst : Int) /\ (↑s_1.fst : Int) < (↑l.length : Int) /\ ∀ (x : Snap), l[s_1.fst]? = some x -> I64 x.id -> I64 x.set -> x.chunks.length * (8 : Nat) <= (140737488355328 : Nat) -> x.tag.b.length <= (140737488355328 : Nat) -> ((↑s_1.snd : Int) < (↑x.chunks.length : Int) -> (0 : Int) <= (↑s_1.fst : Int) /\ (↑s_1.fst : Int) < (↑l.length : Int) /\ ∀ (x : Snap), l[s_1.fst]? = some x -> I64 x.id -> I64 x.set -> x.chunks.length * (8 : Nat) <= (140737488355328 : Nat) -> x.tag.b.length <= (140737488355328 : Nat) -> (0 : Int) <= (↑s_1.snd : Int) /\ (↑s_1.snd : Int) < (↑x.chunks.length : Int) /\ ∀ (x_1 : Int), x.chunks[s_1.snd]? = some x_1 -> I64 x_1 -> (x_1 = c -> I64 ((↑(cntF c (List.take s_1.fst l) + List.count c (List.take s_1.snd (l.getD s_1.fst (dflt (Sh.nm NT.snap))).chunks)) : Int) + (1 : Int)) /\ I64 ((↑s_1.snd : Int) + (1 : Int)) /\ ∃ (s' : Nat × Nat), (l = l /\ c = c /\ (↑(cntF c (List.take s_1.fst l) + List.count c (List.take s_1.snd (l.getD s_1.fst (dflt (Sh.nm NT.snap))).chunks)) : Int) + (1 : Int) = (↑(cntF c (List.take s'.fst l) + List.count c (List.take s'.snd (l.getD s'.fst (dflt (Sh.nm NT.snap))).chunks)) : Int) /\ (↑s_1.fst : Int) = (↑s'.fst : Int) /\ (↑s_1.snd : Int) + (1 : Int) = (↑s'.snd : Int)) /\ (s'.fst < l.length /\ s'.snd <= (l.getD s'.fst (dflt (Sh.nm NT.snap))).chunks.length) /\ s'.fst = s0.fst /\ (l.getD s'.fst (dflt (Sh.nm NT.snap))).chunks.length - s'.snd < (l.getD s_1.fst (dflt (Sh.nm NT.snap))).chunks.length - s_1.snd) /\ (¬x_1 = c -> I64 ((↑s_1.snd : Int) + (1 : Int)) /\ ∃ (s' : Nat × Nat), (l = l /\ c = c /\ (↑(cntF c (List.take s_1.fst l) + List.count c (List.take s_1.snd (l.getD s_1.fst (dflt (Sh.nm NT.snap))).chunks)) : Int) = (↑(cntF c (List.take s'.fst l) + List.count c (List.take s'.snd (l.getD s'.fst (dflt (Sh.nm NT.snap))).chunks)) : Int) /\ (↑s_1.fst : Int) = (↑s'.fst : Int) /\ (↑s_1.snd : Int) + (1 : Int) = (↑s'.snd : Int)) /\ (s'.fst < l.length /\ s'.snd <= (l.getD s'.fst (dflt (Sh.nm NT.snap))).chunks.length) /\ s'.fst = s0.fst /\ (l.getD s'.fst (dflt (Sh.nm NT.snap))).chunks.length - s'.snd < (l.getD s_1.fst (dflt (Sh.nm NT.snap))).chunks.length - s_1.snd)) /\ ((↑x.chunks.length : Int) <= (↑s_1.snd : Int) -> I64 ((↑s_1.fst : Int) + (1 : Int)) /\ ∃ (s' : Nat), (l = l /\ c = c /\ (↑(cntF c (List.take s_1.fst l) + List.count c (List.take s_1.snd (l.getD s_1.fst (dflt (Sh.nm NT.snap))).chunks)) : Int) = (↑(cntF c (List.take s' l)) : Int) /\ (↑s_1.fst : Int) + (1 : Int) = (↑s' : Int)) /\ s' <= l.length /\ l.length - s' < l.length - s)) /\ ((↑l.length : Int) <= (↑s : Int) -> (↑(cntF c (List.take s l)) : Int) = r0)) := by kernel_rfl
theorem count6_s (l : List Snap) (c : Int) (h0 : nch l <= 1048576) : Sat Try.prog (shpOf tyT) 40 [.c (.fz (.nm .snap) (l)), .c (.int (c))] [] ⟨[nch l <= 1048576], [.c (.int (((cntF c l : Int))))], none, false⟩ := by
  refine sat_p O_P8_ok (Lcount6 l c) Try.func40 (by decide) (by kernel_rfl) ?_
  rw [count6_t]
  (repeat' (first | with_reducible refine And.intro ?_ ?_ | with_reducible refine and_imp.2 ?_ | intro))
  all_goals try (first | (first | with_reducible rfl | with_reducible assumption | omega | (refine I64_of ?_ ?_ <;> omega)) | exact cnt_0 | exact cnt_00 | exact (cnt_i (by with_reducible assumption) (by with_reducible assumption)) | exact (cnt_y (by with_reducible assumption) (by with_reducible assumption) (by with_reducible assumption)) | exact (cnt_n (by with_reducible assumption) (by with_reducible assumption) (by with_reducible assumption)) | exact (cnt_e (by with_reducible assumption) (by with_reducible assumption)) | exact (cnt_q (by with_reducible assumption) (by with_reducible assumption)) | exact (cnt_m (by with_reducible assumption) (by with_reducible assumption)) | exact (cnt_a (by omega)) | exact (cnt_x (by with_reducible assumption) (by with_reducible assumption) (by with_reducible assumption)) | exact (cnt_d (by with_reducible assumption) (by omega)))
  all_goals try (refine ⟨0, ?_⟩; (repeat' (first | with_reducible refine And.intro ?_ ?_ | with_reducible refine and_imp.2 ?_ | intro)))
  all_goals try (first | (first | with_reducible rfl | with_reducible assumption | omega | (refine I64_of ?_ ?_ <;> omega)) | exact cnt_0 | exact cnt_00 | exact (cnt_i (by with_reducible assumption) (by with_reducible assumption)) | exact (cnt_y (by with_reducible assumption) (by with_reducible assumption) (by with_reducible assumption)) | exact (cnt_n (by with_reducible assumption) (by with_reducible assumption) (by with_reducible assumption)) | exact (cnt_e (by with_reducible assumption) (by with_reducible assumption)) | exact (cnt_q (by with_reducible assumption) (by with_reducible assumption)) | exact (cnt_m (by with_reducible assumption) (by with_reducible assumption)) | exact (cnt_a (by omega)) | exact (cnt_x (by with_reducible assumption) (by with_reducible assumption) (by with_reducible assumption)) | exact (cnt_d (by with_reducible assumption) (by omega)))
  all_goals try (refine ⟨(‹Nat›, 0), ?_⟩; (repeat' (first | with_reducible refine And.intro ?_ ?_ | with_reducible refine and_imp.2 ?_ | intro)))
  all_goals try (first | (first | with_reducible rfl | with_reducible assumption | omega | (refine I64_of ?_ ?_ <;> omega)) | exact cnt_0 | exact cnt_00 | exact (cnt_i (by with_reducible assumption) (by with_reducible assumption)) | exact (cnt_y (by with_reducible assumption) (by with_reducible assumption) (by with_reducible assumption)) | exact (cnt_n (by with_reducible assumption) (by with_reducible assumption) (by with_reducible assumption)) | exact (cnt_e (by with_reducible assumption) (by with_reducible assumption)) | exact (cnt_q (by with_reducible assumption) (by with_reducible assumption)) | exact (cnt_m (by with_reducible assumption) (by with_reducible assumption)) | exact (cnt_a (by omega)) | exact (cnt_x (by with_reducible assumption) (by with_reducible assumption) (by with_reducible assumption)) | exact (cnt_d (by with_reducible assumption) (by omega)))
  all_goals try (refine ⟨(‹Nat × Nat›.1, ‹Nat × Nat›.2 + 1), ?_⟩; (repeat' (first | with_reducible refine And.intro ?_ ?_ | with_reducible refine and_imp.2 ?_ | intro)))
  all_goals try (first | (first | with_reducible rfl | with_reducible assumption | omega | (refine I64_of ?_ ?_ <;> omega)) | exact cnt_0 | exact cnt_00 | exact (cnt_i (by with_reducible assumption) (by with_reducible assumption)) | exact (cnt_y (by with_reducible assumption) (by with_reducible assumption) (by with_reducible assumption)) | exact (cnt_n (by with_reducible assumption) (by with_reducible assumption) (by with_reducible assumption)) | exact (cnt_e (by with_reducible assumption) (by with_reducible assumption)) | exact (cnt_q (by with_reducible assumption) (by with_reducible assumption)) | exact (cnt_m (by with_reducible assumption) (by with_reducible assumption)) | exact (cnt_a (by omega)) | exact (cnt_x (by with_reducible assumption) (by with_reducible assumption) (by with_reducible assumption)) | exact (cnt_d (by with_reducible assumption) (by omega)))
  all_goals try (refine ⟨‹Nat × Nat›.1 + 1, ?_⟩; (repeat' (first | with_reducible refine And.intro ?_ ?_ | with_reducible refine and_imp.2 ?_ | intro)))
  all_goals try (first | (first | with_reducible rfl | with_reducible assumption | omega | (refine I64_of ?_ ?_ <;> omega)) | exact cnt_0 | exact cnt_00 | exact (cnt_i (by with_reducible assumption) (by with_reducible assumption)) | exact (cnt_y (by with_reducible assumption) (by with_reducible assumption) (by with_reducible assumption)) | exact (cnt_n (by with_reducible assumption) (by with_reducible assumption) (by with_reducible assumption)) | exact (cnt_e (by with_reducible assumption) (by with_reducible assumption)) | exact (cnt_q (by with_reducible assumption) (by with_reducible assumption)) | exact (cnt_m (by with_reducible assumption) (by with_reducible assumption)) | exact (cnt_a (by omega)) | exact (cnt_x (by with_reducible assumption) (by with_reducible assumption) (by with_reducible assumption)) | exact (cnt_d (by with_reducible assumption) (by omega)))
  all_goals (first | (first | with_reducible rfl | with_reducible assumption | omega | (refine I64_of ?_ ?_ <;> omega)) | exact cnt_0 | exact cnt_00 | exact (cnt_i (by with_reducible assumption) (by with_reducible assumption)) | exact (cnt_y (by with_reducible assumption) (by with_reducible assumption) (by with_reducible assumption)) | exact (cnt_n (by with_reducible assumption) (by with_reducible assumption) (by with_reducible assumption)) | exact (cnt_e (by with_reducible assumption) (by with_reducible assumption)) | exact (cnt_q (by with_reducible assumption) (by with_reducible assumption)) | exact (cnt_m (by with_reducible assumption) (by with_reducible assumption)) | exact (cnt_a (by omega)) | exact (cnt_x (by with_reducible assumption) (by with_reducible assumption) (by with_reducible assumption)) | exact (cnt_d (by with_reducible assumption) (by omega)))
theorem without6_t (l : List Snap) (id : Int) (r0 : List Snap) : wpP tyT O_P8 (Lwithout6 l id) Try.f59 [.c (.fz (.nm .snap) (l)), .c (.int (id))] [] [.c (.fz (.nm .snap) (r0))] = (l.length * (64 : Nat) <= (140737488355328 : Nat) -> I64 id -> ∃ (s0 : Nat), (l = l /\ id = id /\ (0 : Int) = (↑s0 : Int) /\ withoutF id (List.take s0 l) = []) /\ s0 <= l.length /\ ∀ (s : Nat), s <= l.length -> ((↑s : Int) < (↑l.length : Int) -> (0 : Int) <= (↑s : Int) /\ (↑s : Int) < (↑l.length : Int) /\ ∀ (x : Snap), l[s]? = some x -> I64 x.id -> I64 x.set -> x.chunks.length * (8 : Nat) <= (140737488355328 : Nat) -> x.tag.b.length <= (140737488355328 : Nat) -> (¬x.id = id -> (0 : Int) <= (↑s : Int) /\ (↑s : Int) < (↑l.length : Int) /\ ∀ (x : Snap), l[s]? = some x -> I64 x.id -> I64 x.set -> x.chunks.length * (8 : Nat) <= (140737488355328 : Nat) -> x.tag.b.length <= (140737488355328 : Nat) -> ((withoutF id (List.take s l)).length + [x].length) * (64 : Nat) <= (140737488355328 : Nat) /\ I64 ((↑s : Int) + (1 : Int)) /\ ∃ (s' : Nat), (l = l /\ id = id /\ (↑s : Int) + (1 : Int) = (↑s' : Int) /\ withoutF id (List.take s l) ++ [x] = withoutF id (List.take s' l)) /\ s' <= l.length /\ l.length - s' < l.length - s) /\ (x.id = id -> I64 ((↑s : Int) + (1 : Int)) /\ ∃ (s' : Nat), (l = l /\ id = id /\ (↑s : Int) + (1 : Int) = (↑s' : Int) /\ withoutF id (List.take s l) = withoutF id (List.take s' l)) /\ s' <= l.length /\ l.length - s' < l.length - s)) /\ ((↑l.length : Int) <= (↑s : Int) -> withoutF id (List.take s l) = r0)) := by kernel_rfl
theorem without6_s (l : List Snap) (id : Int) : Sat Try.prog (shpOf tyT) 59 [.c (.fz (.nm .snap) (l)), .c (.int (id))] [] ⟨[], [.c (.fz (.nm .snap) ((withoutF id l)))], none, false⟩ := by
  refine sat_p O_P8_ok (Lwithout6 l id) Try.func59 (by decide) (by kernel_rfl) ?_
  rw [without6_t]
  (repeat' (first | with_reducible refine And.intro ?_ ?_ | with_reducible refine and_imp.2 ?_ | intro))
  all_goals try (first | (first | with_reducible rfl | with_reducible assumption | omega | (refine I64_of ?_ ?_ <;> omega)) | exact rfl | exact (wo_nx (by with_reducible assumption) (by with_reducible assumption) (by with_reducible assumption)) | exact (wo_no (by with_reducible assumption) (by with_reducible assumption)) | exact (wo_all (by omega)) | exact (wo_len (by omega) (by omega)))
  all_goals try (refine ⟨0, ?_⟩; (repeat' (first | with_reducible refine And.intro ?_ ?_ | with_reducible refine and_imp.2 ?_ | intro)))
  all_goals try (first | (first | with_reducible rfl | with_reducible assumption | omega | (refine I64_of ?_ ?_ <;> omega)) | exact rfl | exact (wo_nx (by with_reducible assumption) (by with_reducible assumption) (by with_reducible assumption)) | exact (wo_no (by with_reducible assumption) (by with_reducible assumption)) | exact (wo_all (by omega)) | exact (wo_len (by omega) (by omega)))
  all_goals try (refine ⟨‹Nat› + 1, ?_⟩; (repeat' (first | with_reducible refine And.intro ?_ ?_ | with_reducible refine and_imp.2 ?_ | intro)))
  all_goals (first | (first | with_reducible rfl | with_reducible assumption | omega | (refine I64_of ?_ ?_ <;> omega)) | exact rfl | exact (wo_nx (by with_reducible assumption) (by with_reducible assumption) (by with_reducible assumption)) | exact (wo_no (by with_reducible assumption) (by with_reducible assumption)) | exact (wo_all (by omega)) | exact (wo_len (by omega) (by omega)))
def O_P9 : Orc := (orc 59 (con (tCons (kC (cL (.nm .snap))) (tCons (kC cI) tNil)) hNil fun (l, id, _) (_) => ⟨[], [.c (.fz (.nm .snap) ((withoutF id l)))], none, false⟩) (orc 40 (con (tCons (kC (cL (.nm .snap))) (tCons (kC cI) tNil)) hNil fun (l, c, _) (_) => ⟨[nch l <= 1048576], [.c (.int (((cntF c l : Int))))], none, false⟩) (orc 80 (con (tCons (kT (.nm .state)) (tCons (kC cI) tNil)) hNil fun (st, at_, _) (_) => ⟨[], [.c (.bool (.atom ((keptF st at_))))], none, false⟩) (orc 19 (con (tCons (kT (.nm .state)) (tCons (kC cI) tNil)) hNil fun (st, at_, _) (_) => ⟨[], [.c (.bool (.atom ((keptF st at_))))], none, false⟩) (orc 18 (con (tCons (kT (.nm .state)) (tCons (kC cI) tNil)) hNil fun (st, x, _) (_) => ⟨[], [.c (.int ((placeF Snap.id x st.snaps)))], none, false⟩) (orc 23 (con (tCons (kT (.nm .state)) (tCons (kC cI) tNil)) hNil fun (st, x, _) (_) => ⟨[], [.c (.int ((placeF Opn.set x st.opens)))], none, false⟩) (orc 16 (con (tCons (kT (.nm .state)) (tCons (kC cI) tNil)) hNil fun (st, x, _) (_) => ⟨[], [.c (.int ((placeF Sess.client x st.sess)))], none, false⟩) (orc 38 (con (tCons (kC cI) (tCons (kC cB) (tCons (kC cI) (tCons (kC cI) tNil)))) hNil fun (n, used, lo, hi, _) (_) => ⟨[], [.c (.bool (.atom ((ndR n used lo hi))))], none, false⟩) (orc 37 (con (tCons (kC cI) tNil) hNil fun (x, _) (_) => ⟨[], [.c (.int ((needF x)))], none, false⟩) (orc 39 (con (tCons (kC (cL .int)) tNil) hNil fun (l, _) (_) => ⟨[], [.c (.bool (.atom ((rowF l))))], none, false⟩) O_P8))))))))))
theorem O_P9_ok : OrcOK Try.prog (shpOf tyT) O_P9 := (orc_ok (con_ok (tCons_ok (kC_ok cL_ok) (tCons_ok (kC_ok cI_ok) tNil_ok)) hNil_ok fun (l, id, _) (_) _ => without6_s l id ) (orc_ok (con_ok (tCons_ok (kC_ok cL_ok) (tCons_ok (kC_ok cI_ok) tNil_ok)) hNil_ok fun (l, c, _) (_) hp => count6_s l c (pr0 hp)) (orc_ok (con_ok (tCons_ok kT_ok (tCons_ok (kC_ok cI_ok) tNil_ok)) hNil_ok fun (st, at_, _) (_) _ => kept_s st at_ ) (orc_ok (con_ok (tCons_ok kT_ok (tCons_ok (kC_ok cI_ok) tNil_ok)) hNil_ok fun (st, at_, _) (_) _ => kept7_s st at_ ) (orc_ok (con_ok (tCons_ok kT_ok (tCons_ok (kC_ok cI_ok) tNil_ok)) hNil_ok fun (st, x, _) (_) _ => snap7_s st x ) (orc_ok (con_ok (tCons_ok kT_ok (tCons_ok (kC_ok cI_ok) tNil_ok)) hNil_ok fun (st, x, _) (_) _ => opened7_s st x ) (orc_ok (con_ok (tCons_ok kT_ok (tCons_ok (kC_ok cI_ok) tNil_ok)) hNil_ok fun (st, x, _) (_) _ => client7_s st x ) (orc_ok (con_ok (tCons_ok (kC_ok cI_ok) (tCons_ok (kC_ok cB_ok) (tCons_ok (kC_ok cI_ok) (tCons_ok (kC_ok cI_ok) tNil_ok)))) hNil_ok fun (n, used, lo, hi, _) (_) _ => needs5_s n used lo hi ) (orc_ok (con_ok (tCons_ok (kC_ok cI_ok) tNil_ok) hNil_ok fun (x, _) (_) _ => need5_s x ) (orc_ok (con_ok (tCons_ok (kC_ok cL_ok) tNil_ok) hNil_ok fun (l, _) (_) _ => row5_s l ) O_P8_ok))))))))))
end Go.Proofs.Ytbgkcbjebflmbaa
