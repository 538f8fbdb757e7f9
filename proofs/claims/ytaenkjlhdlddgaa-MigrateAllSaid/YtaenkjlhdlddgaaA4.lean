/- Contracts of functions, walked operation by operation. -/
import Derived.Test.YtaenkjlhdlddgaaA3
namespace Go.Proofs.Ytaenkjlhdlddgaa
open Go.RowKit

def inL (n a b : Int) : Bool := decide (a ≤ n) && decide (n ≤ b)
def sessOk (x : Sess) : Bool := (inB x.seq 0 1048576 && inB x.last.code 0 99) && inB x.last.n 0 1048576
def openOk (x : Opn) : Bool := inB x.client 1 8
theorem all_next {α : Type} {p : α → Bool} {l : List α} {k : Nat} {x : α} (h : (l.take k).all p = true) (hx : l[k]? = some x) (hp : p x = true) : (l.take (k + 1)).all p = true := by
  rw [take_succ_get hx, List.all_append, h]; simp [hp]
theorem all_stop {α : Type} {p : α → Bool} {l : List α} {k : Nat} {x : α} (hx : l[k]? = some x) (hp : p x = false) : l.all p = false := by
  rw [List.all_eq_false]; exact ⟨x, List.mem_of_getElem? hx, by simp [hp]⟩
theorem all_done {α : Type} {p : α → Bool} {l : List α} {k : Nat} (h : (l.take k).all p = true) (hk : l.length ≤ k) : l.all p = true := by
  rwa [List.take_of_length_le hk] at h

theorem sz49 : (Try.prog.info? 49).map (·.size) = some 2 := by kernel_rfl
theorem sz27 : (Try.prog.info? 27).map (·.size) = some 1 := by kernel_rfl
theorem sz46 : (Try.prog.info? 46).map (·.size) = some 5 := by kernel_rfl
theorem sz51 : (Try.prog.info? 51).map (·.size) = some 4 := by kernel_rfl
theorem sz53 : (Try.prog.info? 53).map (·.size) = some 2 := by kernel_rfl
theorem fa46_0 {n : Nat} {fr : Fr} {w : World} {ty : TypeId} {x : Operand} {g k : Nat} (hx : ev fr x = some (.pointer (some ⟨g, k, none⟩))) : Runs Try.prog n fr w (.fieldAddr 46 x 0) ty (.pointer (some ⟨g, k + 0, none⟩)) w := R.fieldAddrB hx Try.underlying46 rfl rfl sz3
theorem fa49_0 {n : Nat} {fr : Fr} {w : World} {ty : TypeId} {x : Operand} {g k : Nat} (hx : ev fr x = some (.pointer (some ⟨g, k, none⟩))) : Runs Try.prog n fr w (.fieldAddr 49 x 0) ty (.pointer (some ⟨g, k + 0, none⟩)) w := R.fieldAddrB hx Try.underlying49 rfl rfl sz27
theorem fa49_1 {n : Nat} {fr : Fr} {w : World} {ty : TypeId} {x : Operand} {g k : Nat} (hx : ev fr x = some (.pointer (some ⟨g, k, none⟩))) : Runs Try.prog n fr w (.fieldAddr 49 x 1) ty (.pointer (some ⟨g, k + 1, none⟩)) w := R.fieldAddrB hx Try.underlying49 rfl rfl sz3
theorem fa51_1 {n : Nat} {fr : Fr} {w : World} {ty : TypeId} {x : Operand} {g k : Nat} (hx : ev fr x = some (.pointer (some ⟨g, k, none⟩))) : Runs Try.prog n fr w (.fieldAddr 51 x 1) ty (.pointer (some ⟨g, k + 1, none⟩)) w := R.fieldAddrB hx Try.underlying51 rfl rfl sz3
theorem fa51_2 {n : Nat} {fr : Fr} {w : World} {ty : TypeId} {x : Operand} {g k : Nat} (hx : ev fr x = some (.pointer (some ⟨g, k, none⟩))) : Runs Try.prog n fr w (.fieldAddr 51 x 2) ty (.pointer (some ⟨g, k + 2, none⟩)) w := R.fieldAddrB hx Try.underlying51 rfl rfl sz49
theorem fa53_0 {n : Nat} {fr : Fr} {w : World} {ty : TypeId} {x : Operand} {g k : Nat} (hx : ev fr x = some (.pointer (some ⟨g, k, none⟩))) : Runs Try.prog n fr w (.fieldAddr 53 x 0) ty (.pointer (some ⟨g, k + 0, none⟩)) w := R.fieldAddrB hx Try.underlying53 rfl rfl sz3
theorem fa53_1 {n : Nat} {fr : Fr} {w : World} {ty : TypeId} {x : Operand} {g k : Nat} (hx : ev fr x = some (.pointer (some ⟨g, k, none⟩))) : Runs Try.prog n fr w (.fieldAddr 53 x 1) ty (.pointer (some ⟨g, k + 1, none⟩)) w := R.fieldAddrB hx Try.underlying53 rfl rfl sz3
theorem zr46 : ((Try.prog.info? 46).bind (·.zero)).map Value.cells = some ([.int .i64 0, .int .i64 0, .slice none 0 0, .bool false, (⟨[]⟩ : Str).val] : List Value).toArray := by kernel_rfl
theorem zr51 : ((Try.prog.info? 51).bind (·.zero)).map Value.cells = some ([.int .i64 0, .int .i64 0, .int .i64 0, .int .i64 0] : List Value).toArray := by kernel_rfl
theorem zr53 : ((Try.prog.info? 53).bind (·.zero)).map Value.cells = some ([.int .i64 0, .int .i64 0] : List Value).toArray := by kernel_rfl

set_option maxRecDepth 100000 in
set_option maxHeartbeats 400000 in
theorem setOf_s {w : World} {cs_x : List Value} {x : Opn} (h_x : Rp.rp false 0 w.heap.size w cs_x x) :
    Ret Try.prog 41 [.agg cs_x.toArray].toArray w fun r w' => r = .int .i64 (x.set) ∧ Kp [] w w' := by
 obtain ⟨rfl, i1, i2⟩ := Opn.el h_x
 refine Ret.enter Try.func41 rfl Try.ntmps41 rfl rfl ?_
 refine WC.sel [0] rfl ?_
 refine WC.seq ?_
 refine WC.region ?_
 refine WO.box rfl rfl rfl ?_
 intro w3 n3
 have z3 : w.heap.size < w3.heap.size := n3.lt
 have b3 := old_kp0 (Below.refl w.heap.size w) n3.kp
 have y3 : w.heap.size ≤ w3.heap.size := b3.size
 refine WO.v (R.assign rfl) rfl ?_
 refine WO.nil ?_
 refine WX.sel [0, 1, 2] rfl ?_
 refine WX.next ?_
 refine WC.seq ?_
 refine WC.region ?_
 refine WO.v (fa53_0 rfl) rfl ?_
 refine WO.v (R.loadB rfl n3.blk rfl Try.underlying3 rfl) rfl ?_
 refine WO.v (R.assign rfl) rfl ?_
 refine WO.nil ?_
 refine WX.sel [0, 1, 2] rfl ?_
 refine WX.next ?_
 refine WC.ret ?_
 have e0 : x.set = (x.set) := by rfl
 refine WX.ret1 Try.results41 rfl ?_
 exact ⟨by rw [e0], Kp.of_below b3⟩

set_option maxRecDepth 100000 in
set_option maxHeartbeats 400000 in
theorem idOf_s {w : World} {cs_x : List Value} {x : Snap} (h_x : Rp.rp false 0 w.heap.size w cs_x x) :
    Ret Try.prog 57 [.agg cs_x.toArray].toArray w fun r w' => r = .int .i64 (x.id) ∧ Kp [] w w' := by
 obtain ⟨a3, c4, rfl, i1, i2, s5, i6⟩ := Snap.el h_x
 have ls5 : (x.chunks).length * 8 ≤ 140737488355328 := s5.lenle
 refine Ret.enter Try.func57 rfl Try.ntmps57 rfl rfl ?_
 refine WC.sel [0] rfl ?_
 refine WC.seq ?_
 refine WC.region ?_
 refine WO.box rfl rfl rfl ?_
 intro w7 n7
 have z7 : w.heap.size < w7.heap.size := n7.lt
 have b7 := old_kp0 (Below.refl w.heap.size w) n7.kp
 have y7 : w.heap.size ≤ w7.heap.size := b7.size
 refine WO.v (R.assign rfl) rfl ?_
 refine WO.nil ?_
 refine WX.sel [0, 1, 2] rfl ?_
 refine WX.next ?_
 refine WC.seq ?_
 refine WC.region ?_
 refine WO.v (fa46_0 rfl) rfl ?_
 refine WO.v (R.loadB rfl n7.blk rfl Try.underlying3 rfl) rfl ?_
 refine WO.v (R.assign rfl) rfl ?_
 refine WO.nil ?_
 refine WX.sel [0, 1, 2] rfl ?_
 refine WX.next ?_
 refine WC.ret ?_
 have e0 : x.id = (x.id) := by rfl
 refine WX.ret1 Try.results57 rfl ?_
 exact ⟨by rw [e0], Kp.of_below b7⟩

set_option maxRecDepth 100000 in
set_option maxHeartbeats 400000 in
theorem may1_s {w : World} {cs_x : List Value} {x : Sess} (h_x : Rp.rp false 0 w.heap.size w cs_x x) :
    Ret Try.prog 39 [.agg cs_x.toArray].toArray w fun r w' => r = .bool (sessOk x) ∧ Kp [] w w' := by
 obtain ⟨rfl, i1, i2, i3, i4⟩ := Sess.el h_x
 refine Ret.enter Try.func39 rfl Try.ntmps39 rfl rfl ?_
 refine WC.sel [0] rfl ?_
 refine WC.seq ?_
 refine WC.region ?_
 refine WO.box rfl rfl rfl ?_
 intro w5 n5
 have z5 : w.heap.size < w5.heap.size := n5.lt
 have b5 := old_kp0 (Below.refl w.heap.size w) n5.kp
 have y5 : w.heap.size ≤ w5.heap.size := b5.size
 refine WO.v (R.assign rfl) rfl ?_
 refine WO.nil ?_
 refine WX.sel [0, 1, 2] rfl ?_
 refine WX.next ?_
 refine WC.seq ?_
 refine WC.region ?_
 refine WO.v (fa51_1 rfl) rfl ?_
 refine WO.v (R.loadB rfl n5.blk rfl Try.underlying3 rfl) rfl ?_
 refine WO.c (E.call rfl rfl Try.func35 rfl rfl) (within_s (n := x.seq) (a := (0 : Int)) (b := (1048576 : Int)) ) rfl ?_
 rintro _ _ ⟨rfl, rfl⟩
 refine WO.v (R.move rfl) rfl ?_
 refine WO.cutP 5 [(11, (.bool (((decide (((0 : Int)) ≤ (x.seq))) && (decide ((x.seq) ≤ ((1048576 : Int))))) && ((decide (((0 : Int)) ≤ (x.last.code))) && (decide ((x.last.code) ≤ ((99 : Int))))))))] (fun w' => w5 = w') ?_ ?_
 rcases Bool.eq_false_or_eq_true ((decide (((0 : Int)) ≤ (x.seq))) && (decide ((x.seq) ≤ ((1048576 : Int))))) with hb6 | hb6
 have phb6 : (((0 : Int)) ≤ (x.seq)) ∧ ((x.seq) ≤ ((1048576 : Int))) := ⟨of_decide_eq_true (band_t hb6).1, of_decide_eq_true (band_t hb6).2⟩
 refine WO.on rfl rfl hb6 ?_
 refine WO.v (fa51_2 rfl) rfl ?_
 refine WO.on rfl rfl hb6 ?_
 refine WO.v (fa49_0 rfl) rfl ?_
 refine WO.on rfl rfl hb6 ?_
 refine WO.v (R.loadB rfl n5.blk rfl Try.underlying27 rfl) rfl ?_
 refine WO.on rfl rfl hb6 ?_
 refine WO.c (E.call rfl rfl Try.func35 rfl rfl) (within_s (n := x.last.code) (a := (0 : Int)) (b := (99 : Int)) ) rfl ?_
 rintro _ _ ⟨rfl, rfl⟩
 refine WO.v (R.pickT rfl hb6 rfl) rfl ?_
 refine WO.nil ?_
 exact WX.cutDoneP 5 rfl rfl ⟨⟨_, rfl, vb (band_on hb6)⟩, trivial⟩ (rfl)
 have phb6 : (¬ (((0 : Int)) ≤ (x.seq))) ∨ (¬ ((x.seq) ≤ ((1048576 : Int)))) := Or.imp (fun h => of_decide_eq_false h) (fun h => of_decide_eq_false h) (band_f hb6)
 refine WO.off rfl rfl hb6 rfl ?_
 refine WO.off rfl rfl hb6 rfl ?_
 refine WO.off rfl rfl hb6 rfl ?_
 refine WO.off rfl rfl hb6 rfl ?_
 refine WO.v (R.pickF rfl hb6 rfl) rfl ?_
 refine WO.nil ?_
 exact WX.cutDoneP 5 rfl rfl ⟨⟨_, rfl, vb (band_off hb6)⟩, trivial⟩ (rfl)
 rintro _ rfl
 refine WO.v (R.move rfl) rfl ?_
 refine WO.cutP 5 [(17, (.bool ((((decide (((0 : Int)) ≤ (x.seq))) && (decide ((x.seq) ≤ ((1048576 : Int))))) && ((decide (((0 : Int)) ≤ (x.last.code))) && (decide ((x.last.code) ≤ ((99 : Int)))))) && ((decide (((0 : Int)) ≤ (x.last.n))) && (decide ((x.last.n) ≤ ((1048576 : Int))))))))] (fun w' => w5 = w') ?_ ?_
 rcases Bool.eq_false_or_eq_true (((decide (((0 : Int)) ≤ (x.seq))) && (decide ((x.seq) ≤ ((1048576 : Int))))) && ((decide (((0 : Int)) ≤ (x.last.code))) && (decide ((x.last.code) ≤ ((99 : Int)))))) with hb7 | hb7
 have phb7 : ((((0 : Int)) ≤ (x.seq)) ∧ ((x.seq) ≤ ((1048576 : Int)))) ∧ ((((0 : Int)) ≤ (x.last.code)) ∧ ((x.last.code) ≤ ((99 : Int)))) := ⟨⟨of_decide_eq_true (band_t (band_t hb7).1).1, of_decide_eq_true (band_t (band_t hb7).1).2⟩, ⟨of_decide_eq_true (band_t (band_t hb7).2).1, of_decide_eq_true (band_t (band_t hb7).2).2⟩⟩
 refine WO.on rfl rfl hb7 ?_
 refine WO.v (fa51_2 rfl) rfl ?_
 refine WO.on rfl rfl hb7 ?_
 refine WO.v (fa49_1 rfl) rfl ?_
 refine WO.on rfl rfl hb7 ?_
 refine WO.v (R.loadB rfl n5.blk rfl Try.underlying3 rfl) rfl ?_
 refine WO.on rfl rfl hb7 ?_
 refine WO.c (E.call rfl rfl Try.func35 rfl rfl) (within_s (n := x.last.n) (a := (0 : Int)) (b := (1048576 : Int)) ) rfl ?_
 rintro _ _ ⟨rfl, rfl⟩
 refine WO.v (R.pickT rfl hb7 rfl) rfl ?_
 refine WO.nil ?_
 exact WX.cutDoneP 5 rfl rfl ⟨⟨_, rfl, vb (band_on hb7)⟩, trivial⟩ (rfl)
 have phb7 : ((¬ (((0 : Int)) ≤ (x.seq))) ∨ (¬ ((x.seq) ≤ ((1048576 : Int))))) ∨ ((¬ (((0 : Int)) ≤ (x.last.code))) ∨ (¬ ((x.last.code) ≤ ((99 : Int))))) := Or.imp (fun h => Or.imp (fun h => of_decide_eq_false h) (fun h => of_decide_eq_false h) (band_f h)) (fun h => Or.imp (fun h => of_decide_eq_false h) (fun h => of_decide_eq_false h) (band_f h)) (band_f hb7)
 refine WO.off rfl rfl hb7 rfl ?_
 refine WO.off rfl rfl hb7 rfl ?_
 refine WO.off rfl rfl hb7 rfl ?_
 refine WO.off rfl rfl hb7 rfl ?_
 refine WO.v (R.pickF rfl hb7 rfl) rfl ?_
 refine WO.nil ?_
 exact WX.cutDoneP 5 rfl rfl ⟨⟨_, rfl, vb (band_off hb7)⟩, trivial⟩ (rfl)
 rintro _ rfl
 refine WO.v (R.assign rfl) rfl ?_
 refine WO.nil ?_
 refine WX.sel [0, 1, 2] rfl ?_
 refine WX.next ?_
 refine WC.ret ?_
 have e0 : ((((decide (((0 : Int)) ≤ (x.seq))) && (decide ((x.seq) ≤ ((1048576 : Int))))) && ((decide (((0 : Int)) ≤ (x.last.code))) && (decide ((x.last.code) ≤ ((99 : Int)))))) && ((decide (((0 : Int)) ≤ (x.last.n))) && (decide ((x.last.n) ≤ ((1048576 : Int)))))) = (sessOk x) := by rfl
 refine WX.ret1 Try.results39 rfl ?_
 exact ⟨by rw [e0], Kp.of_below b5⟩

set_option maxRecDepth 100000 in
set_option maxHeartbeats 400000 in
theorem may2_s {w : World} {cs_x : List Value} {x : Opn} (h_x : Rp.rp false 0 w.heap.size w cs_x x) :
    Ret Try.prog 43 [.agg cs_x.toArray].toArray w fun r w' => r = .bool (openOk x) ∧ Kp [] w w' := by
 obtain ⟨rfl, i1, i2⟩ := Opn.el h_x
 refine Ret.enter Try.func43 rfl Try.ntmps43 rfl rfl ?_
 refine WC.sel [0] rfl ?_
 refine WC.seq ?_
 refine WC.region ?_
 refine WO.box rfl rfl rfl ?_
 intro w3 n3
 have z3 : w.heap.size < w3.heap.size := n3.lt
 have b3 := old_kp0 (Below.refl w.heap.size w) n3.kp
 have y3 : w.heap.size ≤ w3.heap.size := b3.size
 refine WO.v (R.assign rfl) rfl ?_
 refine WO.nil ?_
 refine WX.sel [0, 1, 2] rfl ?_
 refine WX.next ?_
 refine WC.seq ?_
 refine WC.region ?_
 refine WO.v (fa53_1 rfl) rfl ?_
 refine WO.v (R.loadB rfl n3.blk rfl Try.underlying3 rfl) rfl ?_
 refine WO.c (E.call rfl rfl Try.func35 rfl rfl) (within_s (n := x.client) (a := (1 : Int)) (b := (8 : Int)) ) rfl ?_
 rintro _ _ ⟨rfl, rfl⟩
 refine WO.v (R.assign rfl) rfl ?_
 refine WO.nil ?_
 refine WX.sel [0, 1, 2] rfl ?_
 refine WX.next ?_
 refine WC.ret ?_
 have e0 : ((decide (((1 : Int)) ≤ (x.client))) && (decide ((x.client) ≤ ((8 : Int))))) = (openOk x) := by rfl
 refine WX.ret1 Try.results43 rfl ?_
 exact ⟨by rw [e0], Kp.of_below b3⟩

set_option maxRecDepth 100000 in
set_option maxHeartbeats 400000 in
theorem risingSess_s {w : World} {a_l : Option Addr} {c_l : Nat} {l : List Sess} (most : Int) (h_l : Sl false 0 w.heap.size w (.slice a_l l.length c_l) l) (i_most : I64 most) (pre0 : most ≤ 4611686018427387904) :
    Ret Try.prog 36 [.slice a_l l.length c_l, .int .i64 most, .func (.func 37) #[] #[]].toArray w fun r w' => r = .bool (risingF Sess.client most 0 l) ∧ Kp [] w w' := by
 have len_l : (l).length * 32 ≤ 140737488355328 := h_l.lenle
 refine Ret.enter Try.func36 rfl Try.ntmps36 rfl rfl ?_
 refine WC.sel [0, 1, 2] rfl ?_
 refine WC.seq ?_
 refine WC.region ?_
 refine WO.v (R.assign rfl) rfl ?_
 refine WO.nil ?_
 refine WX.sel [0, 1, 2, 6] rfl ?_
 refine WX.next ?_
 refine WC.seq ?_
 refine WC.region ?_
 refine WO.v (R.assign rfl) rfl ?_
 refine WO.nil ?_
 refine WX.sel [0, 1, 2, 6, 7] rfl ?_
 refine WX.next ?_
 refine WC.seq ?_
 refine WC.seq ?_
 refine WC.region ?_
 refine WO.v (R.move rfl) rfl ?_
 refine WO.v (R.len rfl Try.underlying30) rfl ?_
 refine WO.v (R.move rfl) rfl ?_
 refine WO.nil ?_
 refine WX.sel [0, 1, 2, 6, 7, 10, 11, 12] rfl ?_
 refine WX.next ?_
 refine WC.block ?_
 refine WC.loopK [0, 1, 2, 6, 10, 11] rfl (fun zz : Nat => [(12, (.int .i64 (((zz) : Nat) : Int))), (7, (.int .i64 (lastK Sess.client 0 (l.take (zz)))))]) (fun (zz : Nat) (w' : World) => (Kp [] w w') ∧ ((zz) ≤ l.length) ∧ (risingF Sess.client most 0 (l.take (zz)) = true) ∧ (I64 (lastK Sess.client 0 (l.take (zz)) + 1))) (fun zz => l.length - (zz)) (0) ?_ ?_ ?_
 exact ⟨⟨_, rfl, rfl⟩, ⟨_, rfl, rfl⟩, trivial⟩
 exact ⟨Kp.refl _, Nat.zero_le _, rfl, (show I64 (0 + 1) from ⟨by omega, by omega⟩)⟩
 rintro k w1 ⟨k1, hk, hr, hi64⟩
 try dsimp only at hk hr hi64
 have z1 : w.heap.size ≤ w1.heap.size := k1.size
 have b1 := old_kp0 (Below.refl w.heap.size w) k1
 have y1 : w.heap.size ≤ w1.heap.size := b1.size
 refine (?_ : WC _ _ _ _ ([(12, (.int .i64 ((k : Nat) : Int))), (7, (.int .i64 (lastK Sess.client 0 (l.take k))))] ++ _) w1)
 refine WC.seq ?_
 refine WC.region ?_
 refine WO.v (R.lss rfl rfl) rfl ?_
 refine WO.nil ?_
 refine WX.sel [0, 1, 2, 6, 7, 10, 11, 12, 13] rfl ?_
 refine WX.next ?_
 refine WC.seq ?_
 refine WC.cond rfl (fun q2 => ?_) (fun q2 => ?_)
 have p2 : ((k : Nat) : Int) < ((l.length : Nat) : Int) := of_decide_eq_true q2
 refine WC.skip ?_
 refine WX.next ?_
 refine WC.seq ?_
 refine WC.block ?_
 refine WC.seq ?_
 refine WC.region ?_
 obtain ⟨x3, hx3⟩ := get_ex (xs := l) (i := k) (by omega)
 obtain ⟨A4, cs5, hA4, loA4, hiA4, ccA4, r6⟩ := (sl_old h_l b1).at_ hx3
 obtain ⟨rfl, i7, i8, i9, i10⟩ := Sess.el r6
 refine WO.v (R.indexAddrN rfl rfl Try.underlying30 sz51 hA4 (by omega)) rfl ?_
 refine WO.v (R.loadN (cs := [_, _, _, _]) rfl Try.underlying51 rfl sz51 ccA4) rfl ?_
 refine WO.alloc zr51 rfl ?_
 intro w11 n11
 have z11 : w1.heap.size < w11.heap.size := n11.lt
 have b11 := old_kp0 b1 n11.kp
 have y11 : w.heap.size ≤ w11.heap.size := b11.size
 refine WO.storeBN rfl rfl n11.blk rfl (by simp [Value.oneCell']) sz51 ?_
 intro w12 k12 B12 z_12
 have z12 : w11.heap.size = w12.heap.size := z_12.symm
 have b12 := old_kp b11 k12 (mem1 (by omega))
 have y12 : w.heap.size ≤ w12.heap.size := b12.size
 refine WO.nil ?_
 refine WX.sel [0, 1, 2, 6, 7, 9, 10, 11, 12, 13] rfl ?_
 refine WX.next ?_
 refine WC.seq ?_
 refine WC.seq ?_
 refine WC.region ?_
 refine WO.v (R.move rfl) rfl ?_
 refine WO.v (R.loadBN (vs := [_, _, _, _]) rfl B12 rfl Try.underlying51 rfl sz51) rfl ?_
 refine WO.c (E.call rfl rfl Try.func37 rfl rfl) (clientOf_s (x := x3) (Sess.mk_ (i7) (i8) (i9) (i10))) rfl ?_
 rintro _ w13 ⟨rfl, k13⟩
 have z13 : w12.heap.size ≤ w13.heap.size := k13.size
 have b13 := old_kp0 b12 k13
 have y13 : w.heap.size ≤ w13.heap.size := b13.size
 refine WO.v (R.move rfl) rfl ?_
 have i14 : I64 ((lastK Sess.client 0 (l.take k)) + (1 : Int)) := hi64
 refine WO.v (R.add rfl rfl i14) rfl ?_
 refine WO.v (R.move rfl) rfl ?_
 refine WO.c (E.call rfl rfl Try.func35 rfl rfl) (within_s (n := (x3).client) (a := ((lastK Sess.client 0 (l.take k)) + (1 : Int))) (b := most) ) rfl ?_
 rintro _ _ ⟨rfl, rfl⟩
 refine WO.v (R.not rfl) rfl ?_
 refine WO.nil ?_
 refine WX.sel [0, 1, 2, 6, 7, 9, 10, 11, 12, 13, 23] rfl ?_
 refine WX.next ?_
 refine WC.cond rfl (fun q15 => ?_) (fun q15 => ?_)
 have p15 : (¬ ((((lastK Sess.client 0 (l.take k)) + (1 : Int))) ≤ ((x3).client))) ∨ (¬ (((x3).client) ≤ (most))) := Or.imp (fun h => of_decide_eq_false h) (fun h => of_decide_eq_false h) (band_f (bnot_t q15))
 refine WC.seq ?_
 refine WC.region ?_
 refine WO.v (R.assign rfl) rfl ?_
 refine WO.nil ?_
 refine WX.sel [0, 1, 2, 6, 7, 9, 10, 11, 12, 13, 23] rfl ?_
 refine WX.next ?_
 refine WC.ret ?_
 refine WX.thenRet ?_
 refine WX.blkRet ?_
 refine WX.thenRet ?_
 refine WX.loopRet ?_
 refine WX.blkRet ?_
 refine WX.thenRet ?_
 have e0 : false = (risingF Sess.client most 0 l) := by first | exact (rising_done hr (by omega)).symm | exact (rising_stop (key := Sess.client) ‹l[k]? = some _› (by omega)).symm
 refine WX.ret1 Try.results36 rfl ?_
 exact ⟨by rw [e0], Kp.of_below b13⟩
 have p15 : ((((lastK Sess.client 0 (l.take k)) + (1 : Int))) ≤ ((x3).client)) ∧ (((x3).client) ≤ (most)) := ⟨of_decide_eq_true (band_t (bnot_f q15)).1, of_decide_eq_true (band_t (bnot_f q15)).2⟩
 refine WC.skip ?_
 refine WX.next ?_
 refine WC.region ?_
 refine WO.v (R.move rfl) rfl ?_
 have B16 := (B12).kp0 k13
 refine WO.v (R.loadBN (vs := [_, _, _, _]) rfl B16 rfl Try.underlying51 rfl sz51) rfl ?_
 refine WO.c (E.call rfl rfl Try.func37 rfl rfl) (clientOf_s (x := x3) (Sess.mk_ (i7) (i8) (i9) (i10))) rfl ?_
 rintro _ w17 ⟨rfl, k17⟩
 have z17 : w13.heap.size ≤ w17.heap.size := k17.size
 have b17 := old_kp0 b13 k17
 have y17 : w.heap.size ≤ w17.heap.size := b17.size
 refine WO.v (R.assign rfl) rfl ?_
 refine WO.nil ?_
 refine WX.sel [0, 1, 2, 6, 7, 9, 10, 11, 12, 13, 23] rfl ?_
 refine WX.blkNormal ?_
 refine WX.next ?_
 refine WC.region ?_
 refine WO.v (R.inc rfl (by omega)) rfl ?_
 refine WO.v (R.move rfl) rfl ?_
 refine WO.nil ?_
 refine WX.sel [0, 1, 2, 6, 7, 9, 10, 11, 12, 13, 23] rfl ?_
 have hstep := lastK_snoc (key := Sess.client) (a := 0) hx3
 exact WX.loopNextK [0, 1, 2, 6, 10, 11] (k + 1) rfl ⟨⟨_, rfl, rfl⟩, ⟨_, rfl, vi (lastK_snoc (key := Sess.client) hx3)⟩, trivial⟩ ⟨(((((Kp.refl _).step k1 (by simp)).step n11.kp (by simp)).step k12 (mem1 (.inr (by omega)))).step k13 (by simp)).step k17 (by simp), by omega, rising_next (key := Sess.client) hr hx3 (by omega) (by omega), by rw [← hstep]; unfold I64 at *; omega⟩ (by show (l.length - (k + 1)) < (l.length - k); omega)
 have p2 : ¬ (((k : Nat) : Int) < ((l.length : Nat) : Int)) := of_decide_eq_false q2
 refine WC.exit ?_
 refine WX.thenExit ?_
 refine WX.loopExit ?_
 refine WX.blkHit ?_
 refine WX.next ?_
 refine WC.seq ?_
 refine WC.region ?_
 refine WO.v (R.assign rfl) rfl ?_
 refine WO.nil ?_
 refine WX.sel [0, 1, 2, 6, 7, 10, 11, 12, 13] rfl ?_
 refine WX.next ?_
 refine WC.ret ?_
 have e0 : true = (risingF Sess.client most 0 l) := by first | exact (rising_done hr (by omega)).symm | exact (rising_stop (key := Sess.client) ‹l[k]? = some _› (by omega)).symm
 refine WX.ret1 Try.results36 rfl ?_
 exact ⟨by rw [e0], Kp.of_below b1⟩

set_option maxRecDepth 100000 in
set_option maxHeartbeats 400000 in
theorem risingOpen_s {w : World} {a_l : Option Addr} {c_l : Nat} {l : List Opn} (most : Int) (h_l : Sl false 0 w.heap.size w (.slice a_l l.length c_l) l) (i_most : I64 most) (pre0 : most ≤ 4611686018427387904) :
    Ret Try.prog 40 [.slice a_l l.length c_l, .int .i64 most, .func (.func 41) #[] #[]].toArray w fun r w' => r = .bool (risingF Opn.set most 0 l) ∧ Kp [] w w' := by
 have len_l : (l).length * 16 ≤ 140737488355328 := h_l.lenle
 refine Ret.enter Try.func40 rfl Try.ntmps40 rfl rfl ?_
 refine WC.sel [0, 1, 2] rfl ?_
 refine WC.seq ?_
 refine WC.region ?_
 refine WO.v (R.assign rfl) rfl ?_
 refine WO.nil ?_
 refine WX.sel [0, 1, 2, 6] rfl ?_
 refine WX.next ?_
 refine WC.seq ?_
 refine WC.region ?_
 refine WO.v (R.assign rfl) rfl ?_
 refine WO.nil ?_
 refine WX.sel [0, 1, 2, 6, 7] rfl ?_
 refine WX.next ?_
 refine WC.seq ?_
 refine WC.seq ?_
 refine WC.region ?_
 refine WO.v (R.move rfl) rfl ?_
 refine WO.v (R.len rfl Try.underlying31) rfl ?_
 refine WO.v (R.move rfl) rfl ?_
 refine WO.nil ?_
 refine WX.sel [0, 1, 2, 6, 7, 10, 11, 12] rfl ?_
 refine WX.next ?_
 refine WC.block ?_
 refine WC.loopK [0, 1, 2, 6, 10, 11] rfl (fun zz : Nat => [(12, (.int .i64 (((zz) : Nat) : Int))), (7, (.int .i64 (lastK Opn.set 0 (l.take (zz)))))]) (fun (zz : Nat) (w' : World) => (Kp [] w w') ∧ ((zz) ≤ l.length) ∧ (risingF Opn.set most 0 (l.take (zz)) = true) ∧ (I64 (lastK Opn.set 0 (l.take (zz)) + 1))) (fun zz => l.length - (zz)) (0) ?_ ?_ ?_
 exact ⟨⟨_, rfl, rfl⟩, ⟨_, rfl, rfl⟩, trivial⟩
 exact ⟨Kp.refl _, Nat.zero_le _, rfl, (show I64 (0 + 1) from ⟨by omega, by omega⟩)⟩
 rintro k w1 ⟨k1, hk, hr, hi64⟩
 try dsimp only at hk hr hi64
 have z1 : w.heap.size ≤ w1.heap.size := k1.size
 have b1 := old_kp0 (Below.refl w.heap.size w) k1
 have y1 : w.heap.size ≤ w1.heap.size := b1.size
 refine (?_ : WC _ _ _ _ ([(12, (.int .i64 ((k : Nat) : Int))), (7, (.int .i64 (lastK Opn.set 0 (l.take k))))] ++ _) w1)
 refine WC.seq ?_
 refine WC.region ?_
 refine WO.v (R.lss rfl rfl) rfl ?_
 refine WO.nil ?_
 refine WX.sel [0, 1, 2, 6, 7, 10, 11, 12, 13] rfl ?_
 refine WX.next ?_
 refine WC.seq ?_
 refine WC.cond rfl (fun q2 => ?_) (fun q2 => ?_)
 have p2 : ((k : Nat) : Int) < ((l.length : Nat) : Int) := of_decide_eq_true q2
 refine WC.skip ?_
 refine WX.next ?_
 refine WC.seq ?_
 refine WC.block ?_
 refine WC.seq ?_
 refine WC.region ?_
 obtain ⟨x3, hx3⟩ := get_ex (xs := l) (i := k) (by omega)
 obtain ⟨A4, cs5, hA4, loA4, hiA4, ccA4, r6⟩ := (sl_old h_l b1).at_ hx3
 obtain ⟨rfl, i7, i8⟩ := Opn.el r6
 refine WO.v (R.indexAddrN rfl rfl Try.underlying31 sz53 hA4 (by omega)) rfl ?_
 refine WO.v (R.loadN (cs := [_, _]) rfl Try.underlying53 rfl sz53 ccA4) rfl ?_
 refine WO.alloc zr53 rfl ?_
 intro w9 n9
 have z9 : w1.heap.size < w9.heap.size := n9.lt
 have b9 := old_kp0 b1 n9.kp
 have y9 : w.heap.size ≤ w9.heap.size := b9.size
 refine WO.storeBN rfl rfl n9.blk rfl (by simp [Value.oneCell']) sz53 ?_
 intro w10 k10 B10 z_10
 have z10 : w9.heap.size = w10.heap.size := z_10.symm
 have b10 := old_kp b9 k10 (mem1 (by omega))
 have y10 : w.heap.size ≤ w10.heap.size := b10.size
 refine WO.nil ?_
 refine WX.sel [0, 1, 2, 6, 7, 9, 10, 11, 12, 13] rfl ?_
 refine WX.next ?_
 refine WC.seq ?_
 refine WC.seq ?_
 refine WC.region ?_
 refine WO.v (R.move rfl) rfl ?_
 refine WO.v (R.loadBN (vs := [_, _]) rfl B10 rfl Try.underlying53 rfl sz53) rfl ?_
 refine WO.c (E.call rfl rfl Try.func41 rfl rfl) (setOf_s (x := x3) (Opn.mk_ (i7) (i8))) rfl ?_
 rintro _ w11 ⟨rfl, k11⟩
 have z11 : w10.heap.size ≤ w11.heap.size := k11.size
 have b11 := old_kp0 b10 k11
 have y11 : w.heap.size ≤ w11.heap.size := b11.size
 refine WO.v (R.move rfl) rfl ?_
 have i12 : I64 ((lastK Opn.set 0 (l.take k)) + (1 : Int)) := hi64
 refine WO.v (R.add rfl rfl i12) rfl ?_
 refine WO.v (R.move rfl) rfl ?_
 refine WO.c (E.call rfl rfl Try.func35 rfl rfl) (within_s (n := (x3).set) (a := ((lastK Opn.set 0 (l.take k)) + (1 : Int))) (b := most) ) rfl ?_
 rintro _ _ ⟨rfl, rfl⟩
 refine WO.v (R.not rfl) rfl ?_
 refine WO.nil ?_
 refine WX.sel [0, 1, 2, 6, 7, 9, 10, 11, 12, 13, 23] rfl ?_
 refine WX.next ?_
 refine WC.cond rfl (fun q13 => ?_) (fun q13 => ?_)
 have p13 : (¬ ((((lastK Opn.set 0 (l.take k)) + (1 : Int))) ≤ ((x3).set))) ∨ (¬ (((x3).set) ≤ (most))) := Or.imp (fun h => of_decide_eq_false h) (fun h => of_decide_eq_false h) (band_f (bnot_t q13))
 refine WC.seq ?_
 refine WC.region ?_
 refine WO.v (R.assign rfl) rfl ?_
 refine WO.nil ?_
 refine WX.sel [0, 1, 2, 6, 7, 9, 10, 11, 12, 13, 23] rfl ?_
 refine WX.next ?_
 refine WC.ret ?_
 refine WX.thenRet ?_
 refine WX.blkRet ?_
 refine WX.thenRet ?_
 refine WX.loopRet ?_
 refine WX.blkRet ?_
 refine WX.thenRet ?_
 have e0 : false = (risingF Opn.set most 0 l) := by first | exact (rising_done hr (by omega)).symm | exact (rising_stop (key := Opn.set) ‹l[k]? = some _› (by omega)).symm
 refine WX.ret1 Try.results40 rfl ?_
 exact ⟨by rw [e0], Kp.of_below b11⟩
 have p13 : ((((lastK Opn.set 0 (l.take k)) + (1 : Int))) ≤ ((x3).set)) ∧ (((x3).set) ≤ (most)) := ⟨of_decide_eq_true (band_t (bnot_f q13)).1, of_decide_eq_true (band_t (bnot_f q13)).2⟩
 refine WC.skip ?_
 refine WX.next ?_
 refine WC.region ?_
 refine WO.v (R.move rfl) rfl ?_
 have B14 := (B10).kp0 k11
 refine WO.v (R.loadBN (vs := [_, _]) rfl B14 rfl Try.underlying53 rfl sz53) rfl ?_
 refine WO.c (E.call rfl rfl Try.func41 rfl rfl) (setOf_s (x := x3) (Opn.mk_ (i7) (i8))) rfl ?_
 rintro _ w15 ⟨rfl, k15⟩
 have z15 : w11.heap.size ≤ w15.heap.size := k15.size
 have b15 := old_kp0 b11 k15
 have y15 : w.heap.size ≤ w15.heap.size := b15.size
 refine WO.v (R.assign rfl) rfl ?_
 refine WO.nil ?_
 refine WX.sel [0, 1, 2, 6, 7, 9, 10, 11, 12, 13, 23] rfl ?_
 refine WX.blkNormal ?_
 refine WX.next ?_
 refine WC.region ?_
 refine WO.v (R.inc rfl (by omega)) rfl ?_
 refine WO.v (R.move rfl) rfl ?_
 refine WO.nil ?_
 refine WX.sel [0, 1, 2, 6, 7, 9, 10, 11, 12, 13, 23] rfl ?_
 have hstep := lastK_snoc (key := Opn.set) (a := 0) hx3
 exact WX.loopNextK [0, 1, 2, 6, 10, 11] (k + 1) rfl ⟨⟨_, rfl, rfl⟩, ⟨_, rfl, vi (lastK_snoc (key := Opn.set) hx3)⟩, trivial⟩ ⟨(((((Kp.refl _).step k1 (by simp)).step n9.kp (by simp)).step k10 (mem1 (.inr (by omega)))).step k11 (by simp)).step k15 (by simp), by omega, rising_next (key := Opn.set) hr hx3 (by omega) (by omega), by rw [← hstep]; unfold I64 at *; omega⟩ (by show (l.length - (k + 1)) < (l.length - k); omega)
 have p2 : ¬ (((k : Nat) : Int) < ((l.length : Nat) : Int)) := of_decide_eq_false q2
 refine WC.exit ?_
 refine WX.thenExit ?_
 refine WX.loopExit ?_
 refine WX.blkHit ?_
 refine WX.next ?_
 refine WC.seq ?_
 refine WC.region ?_
 refine WO.v (R.assign rfl) rfl ?_
 refine WO.nil ?_
 refine WX.sel [0, 1, 2, 6, 7, 10, 11, 12, 13] rfl ?_
 refine WX.next ?_
 refine WC.ret ?_
 have e0 : true = (risingF Opn.set most 0 l) := by first | exact (rising_done hr (by omega)).symm | exact (rising_stop (key := Opn.set) ‹l[k]? = some _› (by omega)).symm
 refine WX.ret1 Try.results40 rfl ?_
 exact ⟨by rw [e0], Kp.of_below b1⟩

set_option maxRecDepth 100000 in
set_option maxHeartbeats 400000 in
theorem risingSnap_s {w : World} {a_l : Option Addr} {c_l : Nat} {l : List Snap} (most : Int) (h_l : Sl false 0 w.heap.size w (.slice a_l l.length c_l) l) (i_most : I64 most) (pre0 : most ≤ 4611686018427387904) :
    Ret Try.prog 56 [.slice a_l l.length c_l, .int .i64 most, .func (.func 57) #[] #[]].toArray w fun r w' => r = .bool (risingF Snap.id most 0 l) ∧ Kp [] w w' := by
 have len_l : (l).length * 64 ≤ 140737488355328 := h_l.lenle
 refine Ret.enter Try.func56 rfl Try.ntmps56 rfl rfl ?_
 refine WC.sel [0, 1, 2] rfl ?_
 refine WC.seq ?_
 refine WC.region ?_
 refine WO.v (R.assign rfl) rfl ?_
 refine WO.nil ?_
 refine WX.sel [0, 1, 2, 6] rfl ?_
 refine WX.next ?_
 refine WC.seq ?_
 refine WC.region ?_
 refine WO.v (R.assign rfl) rfl ?_
 refine WO.nil ?_
 refine WX.sel [0, 1, 2, 6, 7] rfl ?_
 refine WX.next ?_
 refine WC.seq ?_
 refine WC.seq ?_
 refine WC.region ?_
 refine WO.v (R.move rfl) rfl ?_
 refine WO.v (R.len rfl Try.underlying32) rfl ?_
 refine WO.v (R.move rfl) rfl ?_
 refine WO.nil ?_
 refine WX.sel [0, 1, 2, 6, 7, 10, 11, 12] rfl ?_
 refine WX.next ?_
 refine WC.block ?_
 refine WC.loopK [0, 1, 2, 6, 10, 11] rfl (fun zz : Nat => [(12, (.int .i64 (((zz) : Nat) : Int))), (7, (.int .i64 (lastK Snap.id 0 (l.take (zz)))))]) (fun (zz : Nat) (w' : World) => (Kp [] w w') ∧ ((zz) ≤ l.length) ∧ (risingF Snap.id most 0 (l.take (zz)) = true) ∧ (I64 (lastK Snap.id 0 (l.take (zz)) + 1))) (fun zz => l.length - (zz)) (0) ?_ ?_ ?_
 exact ⟨⟨_, rfl, rfl⟩, ⟨_, rfl, rfl⟩, trivial⟩
 exact ⟨Kp.refl _, Nat.zero_le _, rfl, (show I64 (0 + 1) from ⟨by omega, by omega⟩)⟩
 rintro k w1 ⟨k1, hk, hr, hi64⟩
 try dsimp only at hk hr hi64
 have z1 : w.heap.size ≤ w1.heap.size := k1.size
 have b1 := old_kp0 (Below.refl w.heap.size w) k1
 have y1 : w.heap.size ≤ w1.heap.size := b1.size
 refine (?_ : WC _ _ _ _ ([(12, (.int .i64 ((k : Nat) : Int))), (7, (.int .i64 (lastK Snap.id 0 (l.take k))))] ++ _) w1)
 refine WC.seq ?_
 refine WC.region ?_
 refine WO.v (R.lss rfl rfl) rfl ?_
 refine WO.nil ?_
 refine WX.sel [0, 1, 2, 6, 7, 10, 11, 12, 13] rfl ?_
 refine WX.next ?_
 refine WC.seq ?_
 refine WC.cond rfl (fun q2 => ?_) (fun q2 => ?_)
 have p2 : ((k : Nat) : Int) < ((l.length : Nat) : Int) := of_decide_eq_true q2
 refine WC.skip ?_
 refine WX.next ?_
 refine WC.seq ?_
 refine WC.block ?_
 refine WC.seq ?_
 refine WC.region ?_
 obtain ⟨x3, hx3⟩ := get_ex (xs := l) (i := k) (by omega)
 obtain ⟨A4, cs5, hA4, loA4, hiA4, ccA4, r6⟩ := (sl_old h_l b1).at_ hx3
 obtain ⟨a9, c10, rfl, i7, i8, s11, i12⟩ := Snap.el r6
 have ls11 : (x3.chunks).length * 8 ≤ 140737488355328 := s11.lenle
 refine WO.v (R.indexAddrN rfl rfl Try.underlying32 sz46 hA4 (by omega)) rfl ?_
 refine WO.v (R.loadN (cs := [_, _, _, _, _]) rfl Try.underlying46 rfl sz46 ccA4) rfl ?_
 refine WO.alloc zr46 rfl ?_
 intro w13 n13
 have z13 : w1.heap.size < w13.heap.size := n13.lt
 have b13 := old_kp0 b1 n13.kp
 have y13 : w.heap.size ≤ w13.heap.size := b13.size
 refine WO.storeBN rfl rfl n13.blk rfl (by simp [Value.oneCell', Str.val]) sz46 ?_
 intro w14 k14 B14 z_14
 have z14 : w13.heap.size = w14.heap.size := z_14.symm
 have b14 := old_kp b13 k14 (mem1 (by omega))
 have y14 : w.heap.size ≤ w14.heap.size := b14.size
 refine WO.nil ?_
 refine WX.sel [0, 1, 2, 6, 7, 9, 10, 11, 12, 13] rfl ?_
 refine WX.next ?_
 refine WC.seq ?_
 refine WC.seq ?_
 refine WC.region ?_
 refine WO.v (R.move rfl) rfl ?_
 refine WO.v (R.loadBN (vs := [_, _, _, _, _]) rfl B14 rfl Try.underlying46 rfl sz46) rfl ?_
 refine WO.c (E.call rfl rfl Try.func57 rfl rfl) (idOf_s (x := x3) (Snap.mk_ (i7) (i8) ((sl_kp (sl_kp0 (s11) n13.kp (by omega)) k14 (by omega) (mem1 (by omega))).mono (lo' := 0) (hi' := w14.heap.size) (Nat.zero_le _) (by omega)) i12)) rfl ?_
 rintro _ w15 ⟨rfl, k15⟩
 have z15 : w14.heap.size ≤ w15.heap.size := k15.size
 have b15 := old_kp0 b14 k15
 have y15 : w.heap.size ≤ w15.heap.size := b15.size
 refine WO.v (R.move rfl) rfl ?_
 have i16 : I64 ((lastK Snap.id 0 (l.take k)) + (1 : Int)) := hi64
 refine WO.v (R.add rfl rfl i16) rfl ?_
 refine WO.v (R.move rfl) rfl ?_
 refine WO.c (E.call rfl rfl Try.func35 rfl rfl) (within_s (n := (x3).id) (a := ((lastK Snap.id 0 (l.take k)) + (1 : Int))) (b := most) ) rfl ?_
 rintro _ _ ⟨rfl, rfl⟩
 refine WO.v (R.not rfl) rfl ?_
 refine WO.nil ?_
 refine WX.sel [0, 1, 2, 6, 7, 9, 10, 11, 12, 13, 23] rfl ?_
 refine WX.next ?_
 refine WC.cond rfl (fun q17 => ?_) (fun q17 => ?_)
 have p17 : (¬ ((((lastK Snap.id 0 (l.take k)) + (1 : Int))) ≤ ((x3).id))) ∨ (¬ (((x3).id) ≤ (most))) := Or.imp (fun h => of_decide_eq_false h) (fun h => of_decide_eq_false h) (band_f (bnot_t q17))
 refine WC.seq ?_
 refine WC.region ?_
 refine WO.v (R.assign rfl) rfl ?_
 refine WO.nil ?_
 refine WX.sel [0, 1, 2, 6, 7, 9, 10, 11, 12, 13, 23] rfl ?_
 refine WX.next ?_
 refine WC.ret ?_
 refine WX.thenRet ?_
 refine WX.blkRet ?_
 refine WX.thenRet ?_
 refine WX.loopRet ?_
 refine WX.blkRet ?_
 refine WX.thenRet ?_
 have e0 : false = (risingF Snap.id most 0 l) := by first | exact (rising_done hr (by omega)).symm | exact (rising_stop (key := Snap.id) ‹l[k]? = some _› (by omega)).symm
 refine WX.ret1 Try.results56 rfl ?_
 exact ⟨by rw [e0], Kp.of_below b15⟩
 have p17 : ((((lastK Snap.id 0 (l.take k)) + (1 : Int))) ≤ ((x3).id)) ∧ (((x3).id) ≤ (most)) := ⟨of_decide_eq_true (band_t (bnot_f q17)).1, of_decide_eq_true (band_t (bnot_f q17)).2⟩
 refine WC.skip ?_
 refine WX.next ?_
 refine WC.region ?_
 refine WO.v (R.move rfl) rfl ?_
 have B18 := (B14).kp0 k15
 refine WO.v (R.loadBN (vs := [_, _, _, _, _]) rfl B18 rfl Try.underlying46 rfl sz46) rfl ?_
 refine WO.c (E.call rfl rfl Try.func57 rfl rfl) (idOf_s (x := x3) (Snap.mk_ (i7) (i8) ((sl_kp0 (sl_kp (sl_kp0 (s11) n13.kp (by omega)) k14 (by omega) (mem1 (by omega))) k15 (by omega)).mono (lo' := 0) (hi' := w15.heap.size) (Nat.zero_le _) (by omega)) i12)) rfl ?_
 rintro _ w19 ⟨rfl, k19⟩
 have z19 : w15.heap.size ≤ w19.heap.size := k19.size
 have b19 := old_kp0 b15 k19
 have y19 : w.heap.size ≤ w19.heap.size := b19.size
 refine WO.v (R.assign rfl) rfl ?_
 refine WO.nil ?_
 refine WX.sel [0, 1, 2, 6, 7, 9, 10, 11, 12, 13, 23] rfl ?_
 refine WX.blkNormal ?_
 refine WX.next ?_
 refine WC.region ?_
 refine WO.v (R.inc rfl (by omega)) rfl ?_
 refine WO.v (R.move rfl) rfl ?_
 refine WO.nil ?_
 refine WX.sel [0, 1, 2, 6, 7, 9, 10, 11, 12, 13, 23] rfl ?_
 have hstep := lastK_snoc (key := Snap.id) (a := 0) hx3
 exact WX.loopNextK [0, 1, 2, 6, 10, 11] (k + 1) rfl ⟨⟨_, rfl, rfl⟩, ⟨_, rfl, vi (lastK_snoc (key := Snap.id) hx3)⟩, trivial⟩ ⟨(((((Kp.refl _).step k1 (by simp)).step n13.kp (by simp)).step k14 (mem1 (.inr (by omega)))).step k15 (by simp)).step k19 (by simp), by omega, rising_next (key := Snap.id) hr hx3 (by omega) (by omega), by rw [← hstep]; unfold I64 at *; omega⟩ (by show (l.length - (k + 1)) < (l.length - k); omega)
 have p2 : ¬ (((k : Nat) : Int) < ((l.length : Nat) : Int)) := of_decide_eq_false q2
 refine WC.exit ?_
 refine WX.thenExit ?_
 refine WX.loopExit ?_
 refine WX.blkHit ?_
 refine WX.next ?_
 refine WC.seq ?_
 refine WC.region ?_
 refine WO.v (R.assign rfl) rfl ?_
 refine WO.nil ?_
 refine WX.sel [0, 1, 2, 6, 7, 10, 11, 12, 13] rfl ?_
 refine WX.next ?_
 refine WC.ret ?_
 have e0 : true = (risingF Snap.id most 0 l) := by first | exact (rising_done hr (by omega)).symm | exact (rising_stop (key := Snap.id) ‹l[k]? = some _› (by omega)).symm
 refine WX.ret1 Try.results56 rfl ?_
 exact ⟨by rw [e0], Kp.of_below b1⟩

set_option maxRecDepth 100000 in
set_option maxHeartbeats 400000 in
theorem allSess_s {w : World} {a_l : Option Addr} {c_l : Nat} {l : List Sess} (h_l : Sl false 0 w.heap.size w (.slice a_l l.length c_l) l) :
    Ret Try.prog 38 [.slice a_l l.length c_l, .func (.func 39) #[] #[]].toArray w fun r w' => r = .bool (l.all sessOk) ∧ Kp [] w w' := by
 have len_l : (l).length * 32 ≤ 140737488355328 := h_l.lenle
 refine Ret.enter Try.func38 rfl Try.ntmps38 rfl rfl ?_
 refine WC.sel [0, 1] rfl ?_
 refine WC.seq ?_
 refine WC.region ?_
 refine WO.v (R.assign rfl) rfl ?_
 refine WO.nil ?_
 refine WX.sel [0, 1, 4] rfl ?_
 refine WX.next ?_
 refine WC.seq ?_
 refine WC.seq ?_
 refine WC.region ?_
 refine WO.v (R.move rfl) rfl ?_
 refine WO.v (R.len rfl Try.underlying30) rfl ?_
 refine WO.v (R.move rfl) rfl ?_
 refine WO.nil ?_
 refine WX.sel [0, 1, 4, 7, 8, 9] rfl ?_
 refine WX.next ?_
 refine WC.block ?_
 refine WC.loopK [0, 1, 4, 7, 8] rfl (fun zz : Nat => [(9, (.int .i64 (((zz) : Nat) : Int)))]) (fun (zz : Nat) (w' : World) => (Kp [] w w') ∧ ((zz) ≤ l.length) ∧ ((l.take (zz)).all sessOk = true)) (fun zz => l.length - (zz)) (0) ?_ ?_ ?_
 exact ⟨⟨_, rfl, rfl⟩, trivial⟩
 exact ⟨Kp.refl _, Nat.zero_le _, rfl⟩
 rintro k w1 ⟨k1, hk, hr⟩
 try dsimp only at hk hr
 have z1 : w.heap.size ≤ w1.heap.size := k1.size
 have b1 := old_kp0 (Below.refl w.heap.size w) k1
 have y1 : w.heap.size ≤ w1.heap.size := b1.size
 refine (?_ : WC _ _ _ _ ([(9, (.int .i64 ((k : Nat) : Int)))] ++ _) w1)
 refine WC.seq ?_
 refine WC.region ?_
 refine WO.v (R.lss rfl rfl) rfl ?_
 refine WO.nil ?_
 refine WX.sel [0, 1, 4, 7, 8, 9, 10] rfl ?_
 refine WX.next ?_
 refine WC.seq ?_
 refine WC.cond rfl (fun q2 => ?_) (fun q2 => ?_)
 have p2 : ((k : Nat) : Int) < ((l.length : Nat) : Int) := of_decide_eq_true q2
 refine WC.skip ?_
 refine WX.next ?_
 refine WC.seq ?_
 refine WC.block ?_
 refine WC.seq ?_
 refine WC.region ?_
 obtain ⟨x3, hx3⟩ := get_ex (xs := l) (i := k) (by omega)
 obtain ⟨A4, cs5, hA4, loA4, hiA4, ccA4, r6⟩ := (sl_old h_l b1).at_ hx3
 obtain ⟨rfl, i7, i8, i9, i10⟩ := Sess.el r6
 refine WO.v (R.indexAddrN rfl rfl Try.underlying30 sz51 hA4 (by omega)) rfl ?_
 refine WO.v (R.loadN (cs := [_, _, _, _]) rfl Try.underlying51 rfl sz51 ccA4) rfl ?_
 refine WO.alloc zr51 rfl ?_
 intro w11 n11
 have z11 : w1.heap.size < w11.heap.size := n11.lt
 have b11 := old_kp0 b1 n11.kp
 have y11 : w.heap.size ≤ w11.heap.size := b11.size
 refine WO.storeBN rfl rfl n11.blk rfl (by simp [Value.oneCell']) sz51 ?_
 intro w12 k12 B12 z_12
 have z12 : w11.heap.size = w12.heap.size := z_12.symm
 have b12 := old_kp b11 k12 (mem1 (by omega))
 have y12 : w.heap.size ≤ w12.heap.size := b12.size
 refine WO.nil ?_
 refine WX.sel [0, 1, 4, 6, 7, 8, 9, 10] rfl ?_
 refine WX.next ?_
 refine WC.seq ?_
 refine WC.region ?_
 refine WO.v (R.move rfl) rfl ?_
 refine WO.v (R.loadBN (vs := [_, _, _, _]) rfl B12 rfl Try.underlying51 rfl sz51) rfl ?_
 refine WO.c (E.call rfl rfl Try.func39 rfl rfl) (may1_s (x := x3) (Sess.mk_ (i7) (i8) (i9) (i10))) rfl ?_
 rintro _ w13 ⟨rfl, k13⟩
 have z13 : w12.heap.size ≤ w13.heap.size := k13.size
 have b13 := old_kp0 b12 k13
 have y13 : w.heap.size ≤ w13.heap.size := b13.size
 refine WO.v (R.not rfl) rfl ?_
 refine WO.nil ?_
 refine WX.sel [0, 1, 4, 6, 7, 8, 9, 10, 16] rfl ?_
 refine WX.next ?_
 refine WC.cond rfl (fun q14 => ?_) (fun q14 => ?_)
 have p14 : (sessOk (x3)) = false := (bnot_t q14)
 refine WC.seq ?_
 refine WC.region ?_
 refine WO.v (R.assign rfl) rfl ?_
 refine WO.nil ?_
 refine WX.sel [0, 1, 4, 6, 7, 8, 9, 10, 16] rfl ?_
 refine WX.next ?_
 refine WC.ret ?_
 refine WX.blkRet ?_
 refine WX.thenRet ?_
 refine WX.loopRet ?_
 refine WX.blkRet ?_
 refine WX.thenRet ?_
 have e0 : false = (l.all sessOk) := by first | exact (all_done hr (by omega)).symm | exact (all_stop ‹l[k]? = some _› (by simpa using q14)).symm
 refine WX.ret1 Try.results38 rfl ?_
 exact ⟨by rw [e0], Kp.of_below b13⟩
 have p14 : (sessOk (x3)) = true := (bnot_f q14)
 refine WC.skip ?_
 refine WX.blkNormal ?_
 refine WX.next ?_
 refine WC.region ?_
 refine WO.v (R.inc rfl (by omega)) rfl ?_
 refine WO.v (R.move rfl) rfl ?_
 refine WO.nil ?_
 refine WX.sel [0, 1, 4, 6, 7, 8, 9, 10, 16] rfl ?_
 exact WX.loopNextK [0, 1, 4, 7, 8] (k + 1) rfl ⟨⟨_, rfl, rfl⟩, trivial⟩ ⟨((((Kp.refl _).step k1 (by simp)).step n11.kp (by simp)).step k12 (mem1 (.inr (by omega)))).step k13 (by simp), by omega, all_next hr hx3 (by simpa using q14)⟩ (by show (l.length - (k + 1)) < (l.length - k); omega)
 have p2 : ¬ (((k : Nat) : Int) < ((l.length : Nat) : Int)) := of_decide_eq_false q2
 refine WC.exit ?_
 refine WX.thenExit ?_
 refine WX.loopExit ?_
 refine WX.blkHit ?_
 refine WX.next ?_
 refine WC.seq ?_
 refine WC.region ?_
 refine WO.v (R.assign rfl) rfl ?_
 refine WO.nil ?_
 refine WX.sel [0, 1, 4, 7, 8, 9, 10] rfl ?_
 refine WX.next ?_
 refine WC.ret ?_
 have e0 : true = (l.all sessOk) := by first | exact (all_done hr (by omega)).symm | exact (all_stop ‹l[k]? = some _› (by simpa using q2)).symm
 refine WX.ret1 Try.results38 rfl ?_
 exact ⟨by rw [e0], Kp.of_below b1⟩

set_option maxRecDepth 100000 in
set_option maxHeartbeats 400000 in
theorem allOpen_s {w : World} {a_l : Option Addr} {c_l : Nat} {l : List Opn} (h_l : Sl false 0 w.heap.size w (.slice a_l l.length c_l) l) :
    Ret Try.prog 42 [.slice a_l l.length c_l, .func (.func 43) #[] #[]].toArray w fun r w' => r = .bool (l.all openOk) ∧ Kp [] w w' := by
 have len_l : (l).length * 16 ≤ 140737488355328 := h_l.lenle
 refine Ret.enter Try.func42 rfl Try.ntmps42 rfl rfl ?_
 refine WC.sel [0, 1] rfl ?_
 refine WC.seq ?_
 refine WC.region ?_
 refine WO.v (R.assign rfl) rfl ?_
 refine WO.nil ?_
 refine WX.sel [0, 1, 4] rfl ?_
 refine WX.next ?_
 refine WC.seq ?_
 refine WC.seq ?_
 refine WC.region ?_
 refine WO.v (R.move rfl) rfl ?_
 refine WO.v (R.len rfl Try.underlying31) rfl ?_
 refine WO.v (R.move rfl) rfl ?_
 refine WO.nil ?_
 refine WX.sel [0, 1, 4, 7, 8, 9] rfl ?_
 refine WX.next ?_
 refine WC.block ?_
 refine WC.loopK [0, 1, 4, 7, 8] rfl (fun zz : Nat => [(9, (.int .i64 (((zz) : Nat) : Int)))]) (fun (zz : Nat) (w' : World) => (Kp [] w w') ∧ ((zz) ≤ l.length) ∧ ((l.take (zz)).all openOk = true)) (fun zz => l.length - (zz)) (0) ?_ ?_ ?_
 exact ⟨⟨_, rfl, rfl⟩, trivial⟩
 exact ⟨Kp.refl _, Nat.zero_le _, rfl⟩
 rintro k w1 ⟨k1, hk, hr⟩
 try dsimp only at hk hr
 have z1 : w.heap.size ≤ w1.heap.size := k1.size
 have b1 := old_kp0 (Below.refl w.heap.size w) k1
 have y1 : w.heap.size ≤ w1.heap.size := b1.size
 refine (?_ : WC _ _ _ _ ([(9, (.int .i64 ((k : Nat) : Int)))] ++ _) w1)
 refine WC.seq ?_
 refine WC.region ?_
 refine WO.v (R.lss rfl rfl) rfl ?_
 refine WO.nil ?_
 refine WX.sel [0, 1, 4, 7, 8, 9, 10] rfl ?_
 refine WX.next ?_
 refine WC.seq ?_
 refine WC.cond rfl (fun q2 => ?_) (fun q2 => ?_)
 have p2 : ((k : Nat) : Int) < ((l.length : Nat) : Int) := of_decide_eq_true q2
 refine WC.skip ?_
 refine WX.next ?_
 refine WC.seq ?_
 refine WC.block ?_
 refine WC.seq ?_
 refine WC.region ?_
 obtain ⟨x3, hx3⟩ := get_ex (xs := l) (i := k) (by omega)
 obtain ⟨A4, cs5, hA4, loA4, hiA4, ccA4, r6⟩ := (sl_old h_l b1).at_ hx3
 obtain ⟨rfl, i7, i8⟩ := Opn.el r6
 refine WO.v (R.indexAddrN rfl rfl Try.underlying31 sz53 hA4 (by omega)) rfl ?_
 refine WO.v (R.loadN (cs := [_, _]) rfl Try.underlying53 rfl sz53 ccA4) rfl ?_
 refine WO.alloc zr53 rfl ?_
 intro w9 n9
 have z9 : w1.heap.size < w9.heap.size := n9.lt
 have b9 := old_kp0 b1 n9.kp
 have y9 : w.heap.size ≤ w9.heap.size := b9.size
 refine WO.storeBN rfl rfl n9.blk rfl (by simp [Value.oneCell']) sz53 ?_
 intro w10 k10 B10 z_10
 have z10 : w9.heap.size = w10.heap.size := z_10.symm
 have b10 := old_kp b9 k10 (mem1 (by omega))
 have y10 : w.heap.size ≤ w10.heap.size := b10.size
 refine WO.nil ?_
 refine WX.sel [0, 1, 4, 6, 7, 8, 9, 10] rfl ?_
 refine WX.next ?_
 refine WC.seq ?_
 refine WC.region ?_
 refine WO.v (R.move rfl) rfl ?_
 refine WO.v (R.loadBN (vs := [_, _]) rfl B10 rfl Try.underlying53 rfl sz53) rfl ?_
 refine WO.c (E.call rfl rfl Try.func43 rfl rfl) (may2_s (x := x3) (Opn.mk_ (i7) (i8))) rfl ?_
 rintro _ w11 ⟨rfl, k11⟩
 have z11 : w10.heap.size ≤ w11.heap.size := k11.size
 have b11 := old_kp0 b10 k11
 have y11 : w.heap.size ≤ w11.heap.size := b11.size
 refine WO.v (R.not rfl) rfl ?_
 refine WO.nil ?_
 refine WX.sel [0, 1, 4, 6, 7, 8, 9, 10, 16] rfl ?_
 refine WX.next ?_
 refine WC.cond rfl (fun q12 => ?_) (fun q12 => ?_)
 have p12 : (openOk (x3)) = false := (bnot_t q12)
 refine WC.seq ?_
 refine WC.region ?_
 refine WO.v (R.assign rfl) rfl ?_
 refine WO.nil ?_
 refine WX.sel [0, 1, 4, 6, 7, 8, 9, 10, 16] rfl ?_
 refine WX.next ?_
 refine WC.ret ?_
 refine WX.blkRet ?_
 refine WX.thenRet ?_
 refine WX.loopRet ?_
 refine WX.blkRet ?_
 refine WX.thenRet ?_
 have e0 : false = (l.all openOk) := by first | exact (all_done hr (by omega)).symm | exact (all_stop ‹l[k]? = some _› (by simpa using q12)).symm
 refine WX.ret1 Try.results42 rfl ?_
 exact ⟨by rw [e0], Kp.of_below b11⟩
 have p12 : (openOk (x3)) = true := (bnot_f q12)
 refine WC.skip ?_
 refine WX.blkNormal ?_
 refine WX.next ?_
 refine WC.region ?_
 refine WO.v (R.inc rfl (by omega)) rfl ?_
 refine WO.v (R.move rfl) rfl ?_
 refine WO.nil ?_
 refine WX.sel [0, 1, 4, 6, 7, 8, 9, 10, 16] rfl ?_
 exact WX.loopNextK [0, 1, 4, 7, 8] (k + 1) rfl ⟨⟨_, rfl, rfl⟩, trivial⟩ ⟨((((Kp.refl _).step k1 (by simp)).step n9.kp (by simp)).step k10 (mem1 (.inr (by omega)))).step k11 (by simp), by omega, all_next hr hx3 (by simpa using q12)⟩ (by show (l.length - (k + 1)) < (l.length - k); omega)
 have p2 : ¬ (((k : Nat) : Int) < ((l.length : Nat) : Int)) := of_decide_eq_false q2
 refine WC.exit ?_
 refine WX.thenExit ?_
 refine WX.loopExit ?_
 refine WX.blkHit ?_
 refine WX.next ?_
 refine WC.seq ?_
 refine WC.region ?_
 refine WO.v (R.assign rfl) rfl ?_
 refine WO.nil ?_
 refine WX.sel [0, 1, 4, 7, 8, 9, 10] rfl ?_
 refine WX.next ?_
 refine WC.ret ?_
 have e0 : true = (l.all openOk) := by first | exact (all_done hr (by omega)).symm | exact (all_stop ‹l[k]? = some _› (by simpa using q2)).symm
 refine WX.ret1 Try.results42 rfl ?_
 exact ⟨by rw [e0], Kp.of_below b1⟩


end Go.Proofs.Ytaenkjlhdlddgaa
