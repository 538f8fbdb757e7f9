/- Contracts of functions, walked operation by operation. -/
import Derived.Test.YtaenkjlhdlddgaaB2
import Derived.Test.YtaenkjlhdlddgaaMix
namespace Go.Proofs.Ytaenkjlhdlddgaa
open Go.RowKit


theorem inf51 : (Try.prog.info? 51).map (fun i => (i.zero.map Value.cells, i.size, i.bytes)) = some (some ([.int .i64 0, .int .i64 0, .int .i64 0, .int .i64 0] : List Value).toArray, 4, 32) := by kernel_rfl
theorem inf53 : (Try.prog.info? 53).map (fun i => (i.zero.map Value.cells, i.size, i.bytes)) = some (some ([.int .i64 0, .int .i64 0] : List Value).toArray, 2, 16) := by kernel_rfl

set_option maxRecDepth 100000 in
set_option maxHeartbeats 400000 in
theorem cloneSess_s {w : World} {a_l : Option Addr} {c_l : Nat} {l : List Sess} (h_l : Sl false 0 w.heap.size w (.slice a_l l.length c_l) l) :
    Ret Try.prog 45 [.slice a_l l.length c_l].toArray w fun r w' => ∃ (ra0 : Option Addr) (rc0 : Nat), r = .slice ra0 (l).length rc0 ∧ Sl true w.heap.size w'.heap.size w' (.slice ra0 (l).length rc0) (l) ∧ Kp [] w w' := by
 have len_l : (l).length * 32 ≤ 140737488355328 := h_l.lenle
 refine Ret.enter Try.func45 rfl Try.ntmps45 rfl rfl ?_
 refine WC.sel [0] rfl ?_
 refine WC.seq ?_
 refine WC.region ?_
 refine WO.v (R.assign rfl) rfl ?_
 refine WO.nil ?_
 refine WX.sel [0, 2] rfl ?_
 refine WX.next ?_
 refine WC.seq ?_
 refine WC.seq ?_
 refine WC.region ?_
 refine WO.v (R.move rfl) rfl ?_
 refine WO.v (R.eqlNil rfl rfl Try.underlying30) rfl ?_
 refine WO.nil ?_
 refine WX.sel [0, 2, 4] rfl ?_
 refine WX.next ?_
 refine WC.cond rfl (fun q1 => ?_) (fun q1 => ?_)
 have p1 : (a_l.isNone) = true := q1
 refine WC.seq ?_
 refine WC.region ?_
 refine WO.v (R.assign rfl) rfl ?_
 refine WO.nil ?_
 refine WX.sel [0, 2, 4] rfl ?_
 refine WX.next ?_
 refine WC.ret ?_
 refine WX.thenRet ?_
 have e0 : ([] : List Sess) = (l) := by first | exact (Sl.isNone h_l q1).symm | rfl
 have n0 : 0 = (l).length := by rw [← e0]; simp only [List.length_nil]
 have f0 : Sl true w.heap.size w.heap.size w (.slice none 0 0) ([] : List Sess) := (Sl.nil _ _ _ _)
 refine WX.ret1 Try.results45 rfl ?_
 exact ⟨none, 0, by rw [n0], (sl_n f0 e0 n0), Kp.refl _⟩
 have p1 : (a_l.isNone) = false := q1
 refine WC.skip ?_
 refine WX.next ?_
 refine WC.seq ?_
 refine WC.region ?_
 refine WO.buildSlice (parts := []) (vss := []) Try.underlying30 sz51 zr51 rfl rfl (by simp) rfl rfl rfl ?_
 intro w2 n2
 have z2 : w.heap.size < w2.heap.size := n2.lt
 have b2 := old_kp0 (Below.refl w.heap.size w) n2.kp
 have y2 : w.heap.size ≤ w2.heap.size := b2.size
 have ac3 : Ac (α := Sess) (w.heap.size) true (w.heap.size) (w2.heap.size) (w2.heap.size) w2 (.slice (some ⟨w.heap.size, 0, none⟩) 0 0) ([] : List Sess) := Ac.lit (α := Sess) (ys := ([] : List Sess)) (css := []) n2.blk (.nil) (by omega) (by omega) (by simp [maxLen]) (by show 0 * 32 ≤ 140737488355328; decide) rfl
 have lenac3 : ([] : List Sess).length = 0 := rfl
 refine WO.v (R.move rfl) rfl ?_
 have ac9 : Ac (α := Sess) (w2.heap.size) true (w.heap.size) (w2.heap.size) (w2.heap.size) w2 (.slice (some ⟨w.heap.size, 0, none⟩) 0 0) ([] : List Sess) := Ac.empty _ _ _ _ _ _ _
 have bd4 := ac9.bd
 have ty10 := ac9.ty
 have lenac9 : (([] : List Sess)).length * 32 ≤ 140737488355328 := ac9.lenle
 have lxac9 : (([] : List Sess) ++ l).length = ([] : List Sess).length + l.length := List.length_append
 refine WO.append rfl ac9 (by omega) (by omega) (by omega) rfl rfl (ys := l) (Src.flat (((sl_old h_l b2).mono (lo' := 0) (hi' := w2.heap.size) (Nat.zero_le _) (by omega))) (fun h => h)) (.inl rfl) Try.underlying30 inf51 rfl rfl rfl (by decide) (by omega) (by omega) rfl ?_
 intro a6 c7 w5 h8 k5 or11
 have z5 : w2.heap.size ≤ w5.heap.size := k5.size
 have b5 := old_kp b2 k5 (fun g hg => by have := bd4 g hg; omega)
 have y5 : w.heap.size ≤ w5.heap.size := b5.size
 refine WO.v (R.assign rfl) rfl ?_
 refine WO.nil ?_
 refine WX.sel [0, 2, 4] rfl ?_
 refine WX.next ?_
 refine WC.ret ?_
 have e0 : (([] : List Sess) ++ l) = (l) := by first | exact (Sl.isNone h_l q1).symm | rfl
 have n0 : (([] : List Sess) ++ l).length = (l).length := by rw [e0]
 have f0 : Sl true w.heap.size w5.heap.size w5 (.slice a6 (([] : List Sess) ++ l).length c7) (([] : List Sess) ++ l) := ((h8).own (L := w.heap.size) (H := w5.heap.size) (by omega) (by omega) (by omega) (by omega))
 refine WX.ret1 Try.results45 rfl ?_
 exact ⟨a6, c7, by rw [n0], (sl_n f0 e0 n0), Kp.of_below b5⟩

set_option maxRecDepth 100000 in
set_option maxHeartbeats 400000 in
theorem cloneOpen_s {w : World} {a_l : Option Addr} {c_l : Nat} {l : List Opn} (h_l : Sl false 0 w.heap.size w (.slice a_l l.length c_l) l) :
    Ret Try.prog 46 [.slice a_l l.length c_l].toArray w fun r w' => ∃ (ra0 : Option Addr) (rc0 : Nat), r = .slice ra0 (l).length rc0 ∧ Sl true w.heap.size w'.heap.size w' (.slice ra0 (l).length rc0) (l) ∧ Kp [] w w' := by
 have len_l : (l).length * 16 ≤ 140737488355328 := h_l.lenle
 refine Ret.enter Try.func46 rfl Try.ntmps46 rfl rfl ?_
 refine WC.sel [0] rfl ?_
 refine WC.seq ?_
 refine WC.region ?_
 refine WO.v (R.assign rfl) rfl ?_
 refine WO.nil ?_
 refine WX.sel [0, 2] rfl ?_
 refine WX.next ?_
 refine WC.seq ?_
 refine WC.seq ?_
 refine WC.region ?_
 refine WO.v (R.move rfl) rfl ?_
 refine WO.v (R.eqlNil rfl rfl Try.underlying31) rfl ?_
 refine WO.nil ?_
 refine WX.sel [0, 2, 4] rfl ?_
 refine WX.next ?_
 refine WC.cond rfl (fun q1 => ?_) (fun q1 => ?_)
 have p1 : (a_l.isNone) = true := q1
 refine WC.seq ?_
 refine WC.region ?_
 refine WO.v (R.assign rfl) rfl ?_
 refine WO.nil ?_
 refine WX.sel [0, 2, 4] rfl ?_
 refine WX.next ?_
 refine WC.ret ?_
 refine WX.thenRet ?_
 have e0 : ([] : List Opn) = (l) := by first | exact (Sl.isNone h_l q1).symm | rfl
 have n0 : 0 = (l).length := by rw [← e0]; simp only [List.length_nil]
 have f0 : Sl true w.heap.size w.heap.size w (.slice none 0 0) ([] : List Opn) := (Sl.nil _ _ _ _)
 refine WX.ret1 Try.results46 rfl ?_
 exact ⟨none, 0, by rw [n0], (sl_n f0 e0 n0), Kp.refl _⟩
 have p1 : (a_l.isNone) = false := q1
 refine WC.skip ?_
 refine WX.next ?_
 refine WC.seq ?_
 refine WC.region ?_
 refine WO.buildSlice (parts := []) (vss := []) Try.underlying31 sz53 zr53 rfl rfl (by simp) rfl rfl rfl ?_
 intro w2 n2
 have z2 : w.heap.size < w2.heap.size := n2.lt
 have b2 := old_kp0 (Below.refl w.heap.size w) n2.kp
 have y2 : w.heap.size ≤ w2.heap.size := b2.size
 have ac3 : Ac (α := Opn) (w.heap.size) true (w.heap.size) (w2.heap.size) (w2.heap.size) w2 (.slice (some ⟨w.heap.size, 0, none⟩) 0 0) ([] : List Opn) := Ac.lit (α := Opn) (ys := ([] : List Opn)) (css := []) n2.blk (.nil) (by omega) (by omega) (by simp [maxLen]) (by show 0 * 16 ≤ 140737488355328; decide) rfl
 have lenac3 : ([] : List Opn).length = 0 := rfl
 refine WO.v (R.move rfl) rfl ?_
 have ac9 : Ac (α := Opn) (w2.heap.size) true (w.heap.size) (w2.heap.size) (w2.heap.size) w2 (.slice (some ⟨w.heap.size, 0, none⟩) 0 0) ([] : List Opn) := Ac.empty _ _ _ _ _ _ _
 have bd4 := ac9.bd
 have ty10 := ac9.ty
 have lenac9 : (([] : List Opn)).length * 16 ≤ 140737488355328 := ac9.lenle
 have lxac9 : (([] : List Opn) ++ l).length = ([] : List Opn).length + l.length := List.length_append
 refine WO.append rfl ac9 (by omega) (by omega) (by omega) rfl rfl (ys := l) (Src.flat (((sl_old h_l b2).mono (lo' := 0) (hi' := w2.heap.size) (Nat.zero_le _) (by omega))) (fun h => h)) (.inl rfl) Try.underlying31 inf53 rfl rfl rfl (by decide) (by omega) (by omega) rfl ?_
 intro a6 c7 w5 h8 k5 or11
 have z5 : w2.heap.size ≤ w5.heap.size := k5.size
 have b5 := old_kp b2 k5 (fun g hg => by have := bd4 g hg; omega)
 have y5 : w.heap.size ≤ w5.heap.size := b5.size
 refine WO.v (R.assign rfl) rfl ?_
 refine WO.nil ?_
 refine WX.sel [0, 2, 4] rfl ?_
 refine WX.next ?_
 refine WC.ret ?_
 have e0 : (([] : List Opn) ++ l) = (l) := by first | exact (Sl.isNone h_l q1).symm | rfl
 have n0 : (([] : List Opn) ++ l).length = (l).length := by rw [e0]
 have f0 : Sl true w.heap.size w5.heap.size w5 (.slice a6 (([] : List Opn) ++ l).length c7) (([] : List Opn) ++ l) := ((h8).own (L := w.heap.size) (H := w5.heap.size) (by omega) (by omega) (by omega) (by omega))
 refine WX.ret1 Try.results46 rfl ?_
 exact ⟨a6, c7, by rw [n0], (sl_n f0 e0 n0), Kp.of_below b5⟩

set_option maxRecDepth 100000 in
set_option maxHeartbeats 400000 in
theorem cloneSnap_s {w : World} {B : Nat} {a_l : Option Addr} {c_l : Nat} {l : List Snap} (hB_l : B ≤ w.heap.size) (h_l : Sl false 0 B w (.slice a_l l.length c_l) l) :
    Ret Try.prog 47 [.slice a_l l.length c_l].toArray w fun r w' => ∃ (ra0 : Option Addr) (rc0 : Nat), r = .slice ra0 (l).length rc0 ∧ Ac w.heap.size false 0 B w'.heap.size w' (.slice ra0 (l).length rc0) (l) ∧ Kp [] w w' := by
 have len_l : (l).length * 64 ≤ 140737488355328 := h_l.lenle
 refine Ret.enter Try.func47 rfl Try.ntmps47 rfl rfl ?_
 refine WC.sel [0] rfl ?_
 refine WC.seq ?_
 refine WC.region ?_
 refine WO.v (R.assign rfl) rfl ?_
 refine WO.nil ?_
 refine WX.sel [0, 2] rfl ?_
 refine WX.next ?_
 refine WC.seq ?_
 refine WC.seq ?_
 refine WC.region ?_
 refine WO.v (R.move rfl) rfl ?_
 refine WO.v (R.eqlNil rfl rfl Try.underlying32) rfl ?_
 refine WO.nil ?_
 refine WX.sel [0, 2, 4] rfl ?_
 refine WX.next ?_
 refine WC.cond rfl (fun q1 => ?_) (fun q1 => ?_)
 have p1 : (a_l.isNone) = true := q1
 refine WC.seq ?_
 refine WC.region ?_
 refine WO.v (R.assign rfl) rfl ?_
 refine WO.nil ?_
 refine WX.sel [0, 2, 4] rfl ?_
 refine WX.next ?_
 refine WC.ret ?_
 refine WX.thenRet ?_
 have e0 : ([] : List Snap) = (l) := by first | exact (Sl.isNone h_l q1).symm | rfl
 have n0 : 0 = (l).length := by rw [← e0]; simp only [List.length_nil]
 have f0 : Ac (α := Snap) w.heap.size false 0 B w.heap.size w (.slice none 0 0) ([] : List Snap) := Ac.empty _ _ _ _ _ _ _
 refine WX.ret1 Try.results47 rfl ?_
 exact ⟨none, 0, by rw [n0], (acl_n f0 e0 n0), Kp.refl _⟩
 have p1 : (a_l.isNone) = false := q1
 refine WC.skip ?_
 refine WX.next ?_
 refine WC.seq ?_
 refine WC.region ?_
 refine WO.buildSlice (parts := []) (vss := []) Try.underlying32 sz46 zr46 rfl rfl (by simp) rfl rfl rfl ?_
 intro w2 n2
 have z2 : w.heap.size < w2.heap.size := n2.lt
 have b2 := old_kp0 (Below.refl w.heap.size w) n2.kp
 have y2 : w.heap.size ≤ w2.heap.size := b2.size
 have ac3 : Ac (α := Snap) (w.heap.size) false (0) (w.heap.size) (w2.heap.size) w2 (.slice (some ⟨w.heap.size, 0, none⟩) 0 0) ([] : List Snap) := Ac.lit (α := Snap) (ys := ([] : List Snap)) (css := []) n2.blk (.nil) (by omega) (by omega) (by simp [maxLen]) (by show 0 * 64 ≤ 140737488355328; decide) rfl
 have lenac3 : ([] : List Snap).length = 0 := rfl
 refine WO.v (R.move rfl) rfl ?_
 have ac9 : Ac (α := Snap) (w2.heap.size) false (0) (B) (w2.heap.size) w2 (.slice (some ⟨w.heap.size, 0, none⟩) 0 0) ([] : List Snap) := Ac.empty _ _ _ _ _ _ _
 have bd4 := ac9.bd
 have ty10 := ac9.ty
 have lenac9 : (([] : List Snap)).length * 64 ≤ 140737488355328 := ac9.lenle
 have lxac9 : (([] : List Snap) ++ l).length = ([] : List Snap).length + l.length := List.length_append
 refine WO.append rfl ac9 (by omega) (by omega) (by omega) rfl rfl (ys := l) (Src.of_sl (sl_kp0 (h_l) n2.kp (by omega)) (fun h => by cases h) (by omega) (by omega)) (.inr (.inr (by omega))) Try.underlying32 inf46 rfl rfl rfl (by decide) (by omega) (by omega) rfl ?_
 intro a6 c7 w5 h8 k5 or11
 have z5 : w2.heap.size ≤ w5.heap.size := k5.size
 have b5 := old_kp b2 k5 (fun g hg => by have := bd4 g hg; omega)
 have y5 : w.heap.size ≤ w5.heap.size := b5.size
 refine WO.v (R.assign rfl) rfl ?_
 refine WO.nil ?_
 refine WX.sel [0, 2, 4] rfl ?_
 refine WX.next ?_
 refine WC.ret ?_
 have e0 : (([] : List Snap) ++ l) = (l) := by first | exact (Sl.isNone h_l q1).symm | rfl
 have n0 : (([] : List Snap) ++ l).length = (l).length := by rw [e0]
 have f0 : Ac (α := Snap) w.heap.size false 0 B w5.heap.size w5 (.slice a6 (([] : List Snap) ++ l).length c7) (([] : List Snap) ++ l) := ((h8).mono (by omega) (by omega) (by omega) (by omega))
 refine WX.ret1 Try.results47 rfl ?_
 exact ⟨a6, c7, by rw [n0], (acl_n f0 e0 n0), Kp.of_below b5⟩

set_option maxRecDepth 100000 in
set_option maxHeartbeats 400000 in
theorem cloneInt_s {w : World} {a_l : Option Addr} {c_l : Nat} {l : List Int} (h_l : Sl false 0 w.heap.size w (.slice a_l l.length c_l) l) :
    Ret Try.prog 48 [.slice a_l l.length c_l].toArray w fun r w' => ∃ (ra0 : Option Addr) (rc0 : Nat), r = .slice ra0 (l).length rc0 ∧ Sl true w.heap.size w'.heap.size w' (.slice ra0 (l).length rc0) (l) ∧ Kp [] w w' := by
 have len_l : (l).length * 8 ≤ 140737488355328 := h_l.lenle
 refine Ret.enter Try.func48 rfl Try.ntmps48 rfl rfl ?_
 refine WC.sel [0] rfl ?_
 refine WC.seq ?_
 refine WC.region ?_
 refine WO.v (R.assign rfl) rfl ?_
 refine WO.nil ?_
 refine WX.sel [0, 2] rfl ?_
 refine WX.next ?_
 refine WC.seq ?_
 refine WC.seq ?_
 refine WC.region ?_
 refine WO.v (R.move rfl) rfl ?_
 refine WO.v (R.eqlNil rfl rfl Try.underlying24) rfl ?_
 refine WO.nil ?_
 refine WX.sel [0, 2, 4] rfl ?_
 refine WX.next ?_
 refine WC.cond rfl (fun q1 => ?_) (fun q1 => ?_)
 have p1 : (a_l.isNone) = true := q1
 refine WC.seq ?_
 refine WC.region ?_
 refine WO.v (R.assign rfl) rfl ?_
 refine WO.nil ?_
 refine WX.sel [0, 2, 4] rfl ?_
 refine WX.next ?_
 refine WC.ret ?_
 refine WX.thenRet ?_
 have e0 : ([] : List Int) = (l) := by first | exact (Sl.isNone h_l q1).symm | rfl
 have n0 : 0 = (l).length := by rw [← e0]; simp only [List.length_nil]
 have f0 : Sl true w.heap.size w.heap.size w (.slice none 0 0) ([] : List Int) := (Sl.nil _ _ _ _)
 refine WX.ret1 Try.results48 rfl ?_
 exact ⟨none, 0, by rw [n0], (sl_n f0 e0 n0), Kp.refl _⟩
 have p1 : (a_l.isNone) = false := q1
 refine WC.skip ?_
 refine WX.next ?_
 refine WC.seq ?_
 refine WC.region ?_
 refine WO.buildSlice (parts := []) (vss := []) Try.underlying24 sz3 zr3 rfl rfl (by simp) rfl rfl rfl ?_
 intro w2 n2
 have z2 : w.heap.size < w2.heap.size := n2.lt
 have b2 := old_kp0 (Below.refl w.heap.size w) n2.kp
 have y2 : w.heap.size ≤ w2.heap.size := b2.size
 have ac3 : Ac (α := Int) (w.heap.size) true (w.heap.size) (w2.heap.size) (w2.heap.size) w2 (.slice (some ⟨w.heap.size, 0, none⟩) 0 0) ([] : List Int) := Ac.lit (α := Int) (ys := ([] : List Int)) (css := []) n2.blk (.nil) (by omega) (by omega) (by simp [maxLen]) (by show 0 * 8 ≤ 140737488355328; decide) rfl
 have lenac3 : ([] : List Int).length = 0 := rfl
 refine WO.v (R.move rfl) rfl ?_
 have ac9 : Ac (α := Int) (w2.heap.size) true (w.heap.size) (w2.heap.size) (w2.heap.size) w2 (.slice (some ⟨w.heap.size, 0, none⟩) 0 0) ([] : List Int) := Ac.empty _ _ _ _ _ _ _
 have bd4 := ac9.bd
 have ty10 := ac9.ty
 have lenac9 : (([] : List Int)).length * 8 ≤ 140737488355328 := ac9.lenle
 have lxac9 : (([] : List Int) ++ l).length = ([] : List Int).length + l.length := List.length_append
 refine WO.append rfl ac9 (by omega) (by omega) (by omega) rfl rfl (ys := l) (Src.flat (((sl_old h_l b2).mono (lo' := 0) (hi' := w2.heap.size) (Nat.zero_le _) (by omega))) (fun h => h)) (.inl rfl) Try.underlying24 inf3 rfl rfl rfl (by decide) (by omega) (by omega) rfl ?_
 intro a6 c7 w5 h8 k5 or11
 have z5 : w2.heap.size ≤ w5.heap.size := k5.size
 have b5 := old_kp b2 k5 (fun g hg => by have := bd4 g hg; omega)
 have y5 : w.heap.size ≤ w5.heap.size := b5.size
 refine WO.v (R.assign rfl) rfl ?_
 refine WO.nil ?_
 refine WX.sel [0, 2, 4] rfl ?_
 refine WX.next ?_
 refine WC.ret ?_
 have e0 : (([] : List Int) ++ l) = (l) := by first | exact (Sl.isNone h_l q1).symm | rfl
 have n0 : (([] : List Int) ++ l).length = (l).length := by rw [e0]
 have f0 : Sl true w.heap.size w5.heap.size w5 (.slice a6 (([] : List Int) ++ l).length c7) (([] : List Int) ++ l) := ((h8).own (L := w.heap.size) (H := w5.heap.size) (by omega) (by omega) (by omega) (by omega))
 refine WX.ret1 Try.results48 rfl ?_
 exact ⟨a6, c7, by rw [n0], (sl_n f0 e0 n0), Kp.of_below b5⟩


end Go.Proofs.Ytaenkjlhdlddgaa
