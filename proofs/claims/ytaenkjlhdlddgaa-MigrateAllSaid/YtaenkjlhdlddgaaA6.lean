/- Contracts of functions, walked operation by operation. -/
import Derived.Test.YtaenkjlhdlddgaaA5
namespace Go.Proofs.Ytaenkjlhdlddgaa
open Go.RowKit

def snapOk (v t : Int) (x : Snap) : Bool := ((decide (chunksE x.chunks = 0) && inB x.set 1 8) && (!x.held || decide (2 ≤ v))) && decide (((x.tag.b.length : Nat) : Int) ≤ t)
def tagMax (v : Int) : Int := if v < 3 then 0 else 16
def snapsF (s : State) (v : Int) : Bool := !(decide (16 < ((s.snaps.length : Nat) : Int)) || !(risingF Snap.id (s.next - 1) 0 s.snaps)) && s.snaps.all (snapOk v (tagMax v))
def numbersF (s : State) (v : Int) : Bool := ((inB s.version 1 3 && inB s.next 1 1048576) && inB s.keep 0 8) && inB s.quota 0 (if v < 3 then 0 else 64)
def sessF (s : State) : Bool := risingF Sess.client 8 0 s.sess && s.sess.all sessOk
def opensF (s : State) : Bool := risingF Opn.set 8 0 s.opens && s.opens.all openOk
def mayF (s : State) (v : Int) : Int := if !(inB v 1 3) then 1 else if (((!numbersF s v || !sessF s) || !opensF s) || !snapsF s v) then 6 else 0

theorem sz9 : (Try.prog.info? 9).map (·.size) = some 1 := by kernel_rfl
theorem sz4 : (Try.prog.info? 4).map (·.size) = some 1 := by kernel_rfl
theorem sz24 : (Try.prog.info? 24).map (·.size) = some 1 := by kernel_rfl
theorem sz32 : (Try.prog.info? 32).map (·.size) = some 1 := by kernel_rfl
theorem fa34_1 {n : Nat} {fr : Fr} {w : World} {ty : TypeId} {x : Operand} {g k : Nat} (hx : ev fr x = some (.pointer (some ⟨g, k, none⟩))) : Runs Try.prog n fr w (.fieldAddr 34 x 1) ty (.pointer (some ⟨g, k + 1, none⟩)) w := R.fieldAddrB hx Try.underlying34 rfl rfl sz3
theorem fa34_6 {n : Nat} {fr : Fr} {w : World} {ty : TypeId} {x : Operand} {g k : Nat} (hx : ev fr x = some (.pointer (some ⟨g, k, none⟩))) : Runs Try.prog n fr w (.fieldAddr 34 x 6) ty (.pointer (some ⟨g, k + 6, none⟩)) w := R.fieldAddrB hx Try.underlying34 rfl rfl sz32
theorem fa46_1 {n : Nat} {fr : Fr} {w : World} {ty : TypeId} {x : Operand} {g k : Nat} (hx : ev fr x = some (.pointer (some ⟨g, k, none⟩))) : Runs Try.prog n fr w (.fieldAddr 46 x 1) ty (.pointer (some ⟨g, k + 1, none⟩)) w := R.fieldAddrB hx Try.underlying46 rfl rfl sz3
theorem fa46_2 {n : Nat} {fr : Fr} {w : World} {ty : TypeId} {x : Operand} {g k : Nat} (hx : ev fr x = some (.pointer (some ⟨g, k, none⟩))) : Runs Try.prog n fr w (.fieldAddr 46 x 2) ty (.pointer (some ⟨g, k + 2, none⟩)) w := R.fieldAddrB hx Try.underlying46 rfl rfl sz24
theorem fa46_3 {n : Nat} {fr : Fr} {w : World} {ty : TypeId} {x : Operand} {g k : Nat} (hx : ev fr x = some (.pointer (some ⟨g, k, none⟩))) : Runs Try.prog n fr w (.fieldAddr 46 x 3) ty (.pointer (some ⟨g, k + 3, none⟩)) w := R.fieldAddrB hx Try.underlying46 rfl rfl sz4
theorem fa46_4 {n : Nat} {fr : Fr} {w : World} {ty : TypeId} {x : Operand} {g k : Nat} (hx : ev fr x = some (.pointer (some ⟨g, k, none⟩))) : Runs Try.prog n fr w (.fieldAddr 46 x 4) ty (.pointer (some ⟨g, k + 4, none⟩)) w := R.fieldAddrB hx Try.underlying46 rfl rfl sz9

set_option maxRecDepth 100000 in
set_option maxHeartbeats 400000 in
theorem snaps1_s {w : World} {cs_x : List Value} {x : Snap} {p_v : Nat} (v : Int) {p_t : Nat} (t : Int) (h_x : Rp.rp false 0 w.heap.size w cs_x x) (h_p_v : Blk w p_v 3 [.int .i64 v]) (h_p_t : Blk w p_t 3 [.int .i64 t]) :
    Ret Try.prog 59 [.agg cs_x.toArray, .pointer (some ⟨p_v, 0, none⟩), .pointer (some ⟨p_t, 0, none⟩)].toArray w fun r w' => r = .bool (snapOk v t x) ∧ Kp [] w w' := by
 obtain ⟨a3, c4, rfl, i1, i2, s5, i6⟩ := Snap.el h_x
 have ls5 : (x.chunks).length * 8 ≤ 140737488355328 := s5.lenle
 have lt_p_v := h_p_v.lt
 have lt_p_t := h_p_t.lt
 refine Ret.enter Try.func59 rfl Try.ntmps59 rfl rfl ?_
 refine WC.sel [0, 1, 2] rfl ?_
 refine WC.seq ?_
 refine WC.region ?_
 refine WO.box rfl rfl rfl ?_
 intro w7 n7
 have z7 : w.heap.size < w7.heap.size := n7.lt
 have b7 := old_kp0 (Below.refl w.heap.size w) n7.kp
 have y7 : w.heap.size ≤ w7.heap.size := b7.size
 refine WO.v (R.assign rfl) rfl ?_
 refine WO.nil ?_
 refine WX.sel [0, 1, 2, 3, 4] rfl ?_
 refine WX.next ?_
 refine WC.seq ?_
 refine WC.region ?_
 refine WO.v (fa46_2 rfl) rfl ?_
 refine WO.v (R.loadB rfl n7.blk rfl Try.underlying24 rfl) rfl ?_
 refine WO.c (E.call rfl rfl Try.func60 rfl rfl) (chunks_s (l := x.chunks) (a_l := a3) (c_l := c4) ((sl_old s5 b7).mono (lo' := 0) (hi' := w7.heap.size) (Nat.zero_le _) (by omega))) rfl ?_
 rintro _ w8 ⟨a9, c10, rfl, s11, k8⟩
 have ls11 : (chunksB (x.chunks)).length * 1 ≤ 140737488355328 := s11.lenle
 have z8 : w7.heap.size ≤ w8.heap.size := k8.size
 have b8 := old_kp0 b7 k8
 have y8 : w.heap.size ≤ w8.heap.size := b8.size
 refine WO.v (R.move rfl) rfl ?_
 refine WO.v (R.extract rfl rfl) rfl ?_
 refine WO.v (R.extract rfl rfl) rfl ?_
 refine WO.v (R.assign rfl) rfl ?_
 refine WO.v (R.assign rfl) rfl ?_
 refine WO.nil ?_
 refine WX.sel [0, 1, 2, 3, 4, 6] rfl ?_
 refine WX.next ?_
 refine WC.seq ?_
 refine WC.region ?_
 refine WO.v (R.move rfl) rfl ?_
 refine WO.v (R.eql rfl rfl) rfl ?_
 refine WO.v (R.move rfl) rfl ?_
 refine WO.cutP 4 [(19, (.bool ((decide (chunksE (x.chunks) = (0 : Int))) && ((decide (((1 : Int)) ≤ (x.set))) && (decide ((x.set) ≤ ((8 : Int))))))))] (fun w' => w8 = w') ?_ ?_
 rcases Bool.eq_false_or_eq_true (decide (chunksE (x.chunks) = (0 : Int))) with hb12 | hb12
 have phb12 : chunksE (x.chunks) = (0 : Int) := of_decide_eq_true hb12
 refine WO.on rfl rfl hb12 ?_
 refine WO.v (fa46_1 rfl) rfl ?_
 refine WO.on rfl rfl hb12 ?_
 have B13 := (n7.blk).kp0 k8
 refine WO.v (R.loadB rfl B13 rfl Try.underlying3 rfl) rfl ?_
 refine WO.on rfl rfl hb12 ?_
 refine WO.c (E.call rfl rfl Try.func35 rfl rfl) (within_s (n := x.set) (a := (1 : Int)) (b := (8 : Int)) ) rfl ?_
 rintro _ _ ⟨rfl, rfl⟩
 refine WO.v (R.pickT rfl hb12 rfl) rfl ?_
 refine WO.nil ?_
 exact WX.cutDoneP 4 rfl rfl ⟨⟨_, rfl, vb (band_on hb12)⟩, trivial⟩ (rfl)
 have phb12 : ¬ (chunksE (x.chunks) = (0 : Int)) := of_decide_eq_false hb12
 refine WO.off rfl rfl hb12 rfl ?_
 refine WO.off rfl rfl hb12 rfl ?_
 refine WO.off rfl rfl hb12 rfl ?_
 refine WO.v (R.pickF rfl hb12 rfl) rfl ?_
 refine WO.nil ?_
 exact WX.cutDoneP 4 rfl rfl ⟨⟨_, rfl, vb (band_off hb12)⟩, trivial⟩ (rfl)
 rintro _ rfl
 refine WO.v (R.move rfl) rfl ?_
 refine WO.cutP 8 [(28, (.bool (((decide (chunksE (x.chunks) = (0 : Int))) && ((decide (((1 : Int)) ≤ (x.set))) && (decide ((x.set) ≤ ((8 : Int)))))) && ((!(x.held)) || (decide ((2 : Int) ≤ v))))))] (fun w' => w8 = w') ?_ ?_
 rcases Bool.eq_false_or_eq_true ((decide (chunksE (x.chunks) = (0 : Int))) && ((decide (((1 : Int)) ≤ (x.set))) && (decide ((x.set) ≤ ((8 : Int)))))) with hb14 | hb14
 have phb14 : (chunksE (x.chunks) = (0 : Int)) ∧ ((((1 : Int)) ≤ (x.set)) ∧ ((x.set) ≤ ((8 : Int)))) := ⟨of_decide_eq_true (band_t hb14).1, ⟨of_decide_eq_true (band_t (band_t hb14).2).1, of_decide_eq_true (band_t (band_t hb14).2).2⟩⟩
 refine WO.on rfl rfl hb14 ?_
 refine WO.v (fa46_3 rfl) rfl ?_
 refine WO.on rfl rfl hb14 ?_
 have B15 := (n7.blk).kp0 k8
 refine WO.v (R.loadB rfl B15 rfl Try.underlying4 rfl) rfl ?_
 refine WO.on rfl rfl hb14 ?_
 refine WO.v (R.not rfl) rfl ?_
 refine WO.on rfl rfl hb14 ?_
 refine WO.v (R.move rfl) rfl ?_
 refine WO.cutP 3 [(27, (.bool ((!(x.held)) || (decide ((2 : Int) ≤ v)))))] (fun w' => w8 = w') ?_ ?_
 rcases Bool.eq_false_or_eq_true (!(x.held)) with hb16 | hb16
 have phb16 : (x.held) = false := (bnot_t hb16)
 refine WO.off rfl rfl hb16 rfl ?_
 refine WO.off rfl rfl hb16 rfl ?_
 refine WO.on rfl rfl hb14 ?_
 refine WO.v (R.pickT rfl hb16 rfl) rfl ?_
 refine WO.nil ?_
 exact WX.cutDoneP 3 rfl rfl ⟨⟨_, rfl, vb (bor_on hb16)⟩, trivial⟩ (rfl)
 have phb16 : (x.held) = true := (bnot_f hb16)
 refine WO.on rfl rfl hb16 ?_
 have B17 := ((h_p_v).kp0 n7.kp).kp0 k8
 refine WO.v (R.loadB rfl B17 rfl Try.underlying3 rfl) rfl ?_
 refine WO.on rfl rfl hb16 ?_
 refine WO.v (R.geq rfl rfl) rfl ?_
 refine WO.on rfl rfl hb14 ?_
 refine WO.v (R.pickF rfl hb16 rfl) rfl ?_
 refine WO.nil ?_
 exact WX.cutDoneP 3 rfl rfl ⟨⟨_, rfl, vb (bor_off hb16)⟩, trivial⟩ (rfl)
 rintro _ rfl
 refine WO.v (R.pickT rfl hb14 rfl) rfl ?_
 refine WO.nil ?_
 exact WX.cutDoneP 6 rfl rfl ⟨⟨_, rfl, vb (band_on hb14)⟩, trivial⟩ (rfl)
 have phb14 : (¬ (chunksE (x.chunks) = (0 : Int))) ∨ ((¬ (((1 : Int)) ≤ (x.set))) ∨ (¬ ((x.set) ≤ ((8 : Int))))) := Or.imp (fun h => of_decide_eq_false h) (fun h => Or.imp (fun h => of_decide_eq_false h) (fun h => of_decide_eq_false h) (band_f h)) (band_f hb14)
 refine WO.off rfl rfl hb14 rfl ?_
 refine WO.off rfl rfl hb14 rfl ?_
 refine WO.off rfl rfl hb14 rfl ?_
 refine WO.off rfl rfl hb14 rfl ?_
 refine WO.offU rfl rfl rfl ?_
 refine WO.offU rfl rfl rfl ?_
 refine WO.off rfl rfl hb14 rfl ?_
 refine WO.v (R.pickF rfl hb14 rfl) rfl ?_
 refine WO.nil ?_
 exact WX.cutDoneP 8 rfl rfl ⟨⟨_, rfl, vb (band_off hb14)⟩, trivial⟩ (rfl)
 rintro _ rfl
 refine WO.v (R.move rfl) rfl ?_
 refine WO.cutP 6 [(35, (.bool ((((decide (chunksE (x.chunks) = (0 : Int))) && ((decide (((1 : Int)) ≤ (x.set))) && (decide ((x.set) ≤ ((8 : Int)))))) && ((!(x.held)) || (decide ((2 : Int) ≤ v)))) && (decide (((x.tag.b.length : Nat) : Int) ≤ t)))))] (fun w' => w8 = w') ?_ ?_
 rcases Bool.eq_false_or_eq_true (((decide (chunksE (x.chunks) = (0 : Int))) && ((decide (((1 : Int)) ≤ (x.set))) && (decide ((x.set) ≤ ((8 : Int)))))) && ((!(x.held)) || (decide ((2 : Int) ≤ v)))) with hb18 | hb18
 have phb18 : ((chunksE (x.chunks) = (0 : Int)) ∧ ((((1 : Int)) ≤ (x.set)) ∧ ((x.set) ≤ ((8 : Int))))) ∧ (((x.held) = false) ∨ ((2 : Int) ≤ v)) := ⟨⟨of_decide_eq_true (band_t (band_t hb18).1).1, ⟨of_decide_eq_true (band_t (band_t (band_t hb18).1).2).1, of_decide_eq_true (band_t (band_t (band_t hb18).1).2).2⟩⟩, Or.imp (fun h => (bnot_t h)) (fun h => of_decide_eq_true h) (bor_t (band_t hb18).2)⟩
 refine WO.on rfl rfl hb18 ?_
 refine WO.v (fa46_4 rfl) rfl ?_
 refine WO.on rfl rfl hb18 ?_
 have B19 := (n7.blk).kp0 k8
 refine WO.v (R.loadB rfl B19 rfl Try.underlying9 rfl) rfl ?_
 refine WO.on rfl rfl hb18 ?_
 refine WO.v (R.lenS rfl Try.underlying9) rfl ?_
 refine WO.on rfl rfl hb18 ?_
 have B20 := ((h_p_t).kp0 n7.kp).kp0 k8
 refine WO.v (R.loadB rfl B20 rfl Try.underlying3 rfl) rfl ?_
 refine WO.on rfl rfl hb18 ?_
 refine WO.v (R.leq rfl rfl) rfl ?_
 refine WO.v (R.pickT rfl hb18 rfl) rfl ?_
 refine WO.nil ?_
 exact WX.cutDoneP 6 rfl rfl ⟨⟨_, rfl, vb (band_on hb18)⟩, trivial⟩ (rfl)
 have phb18 : ((¬ (chunksE (x.chunks) = (0 : Int))) ∨ ((¬ (((1 : Int)) ≤ (x.set))) ∨ (¬ ((x.set) ≤ ((8 : Int)))))) ∨ (((x.held) = true) ∧ (¬ ((2 : Int) ≤ v))) := Or.imp (fun h => Or.imp (fun h => of_decide_eq_false h) (fun h => Or.imp (fun h => of_decide_eq_false h) (fun h => of_decide_eq_false h) (band_f h)) (band_f h)) (fun h => ⟨(bnot_f (bor_f h).1), of_decide_eq_false (bor_f h).2⟩) (band_f hb18)
 refine WO.off rfl rfl hb18 rfl ?_
 refine WO.off rfl rfl hb18 rfl ?_
 refine WO.off rfl rfl hb18 rfl ?_
 refine WO.off rfl rfl hb18 rfl ?_
 refine WO.off rfl rfl hb18 rfl ?_
 refine WO.v (R.pickF rfl hb18 rfl) rfl ?_
 refine WO.nil ?_
 exact WX.cutDoneP 6 rfl rfl ⟨⟨_, rfl, vb (band_off hb18)⟩, trivial⟩ (rfl)
 rintro _ rfl
 refine WO.v (R.assign rfl) rfl ?_
 refine WO.nil ?_
 refine WX.sel [0, 1, 2, 3, 4, 6] rfl ?_
 refine WX.next ?_
 refine WC.ret ?_
 have e0 : ((((decide (chunksE (x.chunks) = (0 : Int))) && ((decide (((1 : Int)) ≤ (x.set))) && (decide ((x.set) ≤ ((8 : Int)))))) && ((!(x.held)) || (decide ((2 : Int) ≤ v)))) && (decide (((x.tag.b.length : Nat) : Int) ≤ t))) = (snapOk v t x) := by rfl
 refine WX.ret1 Try.results59 rfl ?_
 exact ⟨by rw [e0], Kp.of_below b8⟩

set_option maxRecDepth 100000 in
set_option maxHeartbeats 400000 in
theorem allSnap_s {w : World} {a_l : Option Addr} {c_l : Nat} {l : List Snap} {p_v : Nat} (v : Int) {p_t : Nat} (t : Int) (h_l : Sl false 0 w.heap.size w (.slice a_l l.length c_l) l) (h_p_v : Blk w p_v 3 [.int .i64 v]) (h_p_t : Blk w p_t 3 [.int .i64 t]) :
    Ret Try.prog 58 [.slice a_l l.length c_l, .func (.func 59) #[] [.pointer (some ⟨p_v, 0, none⟩), .pointer (some ⟨p_t, 0, none⟩)].toArray].toArray w fun r w' => r = .bool (l.all (snapOk v t)) ∧ Kp [] w w' := by
 have len_l : (l).length * 64 ≤ 140737488355328 := h_l.lenle
 have lt_p_v := h_p_v.lt
 have lt_p_t := h_p_t.lt
 refine Ret.enter Try.func58 rfl Try.ntmps58 rfl rfl ?_
 refine WC.sel [0, 1] rfl ?_
 refine WC.seq ?_
 refine WC.region ?_
 refine WO.v (R.assign rfl) rfl ?_
 refine WO.nil ?_
 refine WX.sel [0, 1, 4] rfl ?_
 refine WX.next ?_
 refine WC.seq ?_
 refine WC.seq ?_
 refine WC.region ?_
 refine WO.v (R.move rfl) rfl ?_
 refine WO.v (R.len rfl Try.underlying32) rfl ?_
 refine WO.v (R.move rfl) rfl ?_
 refine WO.nil ?_
 refine WX.sel [0, 1, 4, 7, 8, 9] rfl ?_
 refine WX.next ?_
 refine WC.block ?_
 refine WC.loopK [0, 1, 4, 7, 8] rfl (fun zz : Nat => [(9, (.int .i64 (((zz) : Nat) : Int)))]) (fun (zz : Nat) (w' : World) => (Kp [] w w') ∧ ((zz) ≤ l.length) ∧ ((l.take (zz)).all (snapOk v t) = true)) (fun zz => l.length - (zz)) (0) ?_ ?_ ?_
 exact ⟨⟨_, rfl, rfl⟩, trivial⟩
 exact ⟨Kp.refl _, Nat.zero_le _, rfl⟩
 rintro k w1 ⟨k1, hk, hr⟩
 try dsimp only at hk hr
 have z1 : w.heap.size ≤ w1.heap.size := k1.size
 have b1 := old_kp0 (Below.refl w.heap.size w) k1
 have y1 : w.heap.size ≤ w1.heap.size := b1.size
 refine (?_ : WC _ _ _ _ ([(9, (.int .i64 ((k : Nat) : Int)))] ++ _) w1)
 refine WC.seq ?_
 refine WC.region ?_
 refine WO.v (R.lss rfl rfl) rfl ?_
 refine WO.nil ?_
 refine WX.sel [0, 1, 4, 7, 8, 9, 10] rfl ?_
 refine WX.next ?_
 refine WC.seq ?_
 refine WC.cond rfl (fun q2 => ?_) (fun q2 => ?_)
 have p2 : ((k : Nat) : Int) < ((l.length : Nat) : Int) := of_decide_eq_true q2
 refine WC.skip ?_
 refine WX.next ?_
 refine WC.seq ?_
 refine WC.block ?_
 refine WC.seq ?_
 refine WC.region ?_
 obtain ⟨x3, hx3⟩ := get_ex (xs := l) (i := k) (by omega)
 obtain ⟨A4, cs5, hA4, loA4, hiA4, ccA4, r6⟩ := (sl_old h_l b1).at_ hx3
 obtain ⟨a9, c10, rfl, i7, i8, s11, i12⟩ := Snap.el r6
 have ls11 : (x3.chunks).length * 8 ≤ 140737488355328 := s11.lenle
 refine WO.v (R.indexAddrN rfl rfl Try.underlying32 sz46 hA4 (by omega)) rfl ?_
 refine WO.v (R.loadN (cs := [_, _, _, _, _]) rfl Try.underlying46 rfl sz46 ccA4) rfl ?_
 refine WO.alloc zr46 rfl ?_
 intro w13 n13
 have z13 : w1.heap.size < w13.heap.size := n13.lt
 have b13 := old_kp0 b1 n13.kp
 have y13 : w.heap.size ≤ w13.heap.size := b13.size
 refine WO.storeBN rfl rfl n13.blk rfl (by simp [Value.oneCell', Str.val]) sz46 ?_
 intro w14 k14 B14 z_14
 have z14 : w13.heap.size = w14.heap.size := z_14.symm
 have b14 := old_kp b13 k14 (mem1 (by omega))
 have y14 : w.heap.size ≤ w14.heap.size := b14.size
 refine WO.nil ?_
 refine WX.sel [0, 1, 4, 6, 7, 8, 9, 10] rfl ?_
 refine WX.next ?_
 refine WC.seq ?_
 refine WC.region ?_
 refine WO.v (R.move rfl) rfl ?_
 refine WO.v (R.loadBN (vs := [_, _, _, _, _]) rfl B14 rfl Try.underlying46 rfl sz46) rfl ?_
 have B15 := (((h_p_v).kp0 k1).kp0 n13.kp).kp1 k14 (by omega)
 have B16 := (((h_p_t).kp0 k1).kp0 n13.kp).kp1 k14 (by omega)
 refine WO.c (E.call rfl rfl Try.func59 rfl rfl) (snaps1_s (x := x3) (p_v := p_v) (v := v) (p_t := p_t) (t := t) (Snap.mk_ (i7) (i8) ((sl_kp (sl_kp0 (s11) n13.kp (by omega)) k14 (by omega) (mem1 (by omega))).mono (lo' := 0) (hi' := w14.heap.size) (Nat.zero_le _) (by omega)) i12) B15 B16) rfl ?_
 rintro _ w17 ⟨rfl, k17⟩
 have z17 : w14.heap.size ≤ w17.heap.size := k17.size
 have b17 := old_kp0 b14 k17
 have y17 : w.heap.size ≤ w17.heap.size := b17.size
 refine WO.v (R.not rfl) rfl ?_
 refine WO.nil ?_
 refine WX.sel [0, 1, 4, 6, 7, 8, 9, 10, 16] rfl ?_
 refine WX.next ?_
 refine WC.cond rfl (fun q18 => ?_) (fun q18 => ?_)
 have p18 : (snapOk (v) (t) (x3)) = false := (bnot_t q18)
 refine WC.seq ?_
 refine WC.region ?_
 refine WO.v (R.assign rfl) rfl ?_
 refine WO.nil ?_
 refine WX.sel [0, 1, 4, 6, 7, 8, 9, 10, 16] rfl ?_
 refine WX.next ?_
 refine WC.ret ?_
 refine WX.blkRet ?_
 refine WX.thenRet ?_
 refine WX.loopRet ?_
 refine WX.blkRet ?_
 refine WX.thenRet ?_
 have e0 : false = (l.all (snapOk v t)) := by first | exact (all_done hr (by omega)).symm | exact (all_stop ‹l[k]? = some _› (by simpa using q18)).symm
 refine WX.ret1 Try.results58 rfl ?_
 exact ⟨by rw [e0], Kp.of_below b17⟩
 have p18 : (snapOk (v) (t) (x3)) = true := (bnot_f q18)
 refine WC.skip ?_
 refine WX.blkNormal ?_
 refine WX.next ?_
 refine WC.region ?_
 refine WO.v (R.inc rfl (by omega)) rfl ?_
 refine WO.v (R.move rfl) rfl ?_
 refine WO.nil ?_
 refine WX.sel [0, 1, 4, 6, 7, 8, 9, 10, 16] rfl ?_
 exact WX.loopNextK [0, 1, 4, 7, 8] (k + 1) rfl ⟨⟨_, rfl, rfl⟩, trivial⟩ ⟨((((Kp.refl _).step k1 (by simp)).step n13.kp (by simp)).step k14 (mem1 (.inr (by omega)))).step k17 (by simp), by omega, all_next hr hx3 (by simpa using q18)⟩ (by show (l.length - (k + 1)) < (l.length - k); omega)
 have p2 : ¬ (((k : Nat) : Int) < ((l.length : Nat) : Int)) := of_decide_eq_false q2
 refine WC.exit ?_
 refine WX.thenExit ?_
 refine WX.loopExit ?_
 refine WX.blkHit ?_
 refine WX.next ?_
 refine WC.seq ?_
 refine WC.region ?_
 refine WO.v (R.assign rfl) rfl ?_
 refine WO.nil ?_
 refine WX.sel [0, 1, 4, 7, 8, 9, 10] rfl ?_
 refine WX.next ?_
 refine WC.ret ?_
 have e0 : true = (l.all (snapOk v t)) := by first | exact (all_done hr (by omega)).symm | exact (all_stop ‹l[k]? = some _› (by simpa using q2)).symm
 refine WX.ret1 Try.results58 rfl ?_
 exact ⟨by rw [e0], Kp.of_below b1⟩

set_option maxRecDepth 100000 in
set_option maxHeartbeats 400000 in
theorem snaps_s {w : World} {cs_s : List Value} {s : State} (v : Int) (h_s : Rp.rp false 0 w.heap.size w cs_s s) (pre0 : 1 ≤ s.next ∧ s.next ≤ 1048576) :
    Ret Try.prog 44 [.agg cs_s.toArray, .int .i64 v].toArray w fun r w' => r = .bool (snapsF s v) ∧ Kp [] w w' := by
 obtain ⟨a5, c6, a8, c9, a11, c12, rfl, i1, i2, i3, i4, s7, s10, s13⟩ := State.el h_s
 have ls7 : (s.sess).length * 32 ≤ 140737488355328 := s7.lenle
 have ls10 : (s.opens).length * 16 ≤ 140737488355328 := s10.lenle
 have ls13 : (s.snaps).length * 64 ≤ 140737488355328 := s13.lenle
 refine Ret.enter Try.func44 rfl Try.ntmps44 rfl rfl ?_
 refine WC.sel [0, 1] rfl ?_
 refine WC.seq ?_
 refine WC.region ?_
 refine WO.box rfl rfl rfl ?_
 intro w14 n14
 have z14 : w.heap.size < w14.heap.size := n14.lt
 have b14 := old_kp0 (Below.refl w.heap.size w) n14.kp
 have y14 : w.heap.size ≤ w14.heap.size := b14.size
 refine WO.box rfl rfl rfl ?_
 intro w15 n15
 have z15 : w14.heap.size < w15.heap.size := n15.lt
 have b15 := old_kp0 b14 n15.kp
 have y15 : w.heap.size ≤ w15.heap.size := b15.size
 refine WO.v (R.assign rfl) rfl ?_
 refine WO.nil ?_
 refine WX.sel [0, 1, 2, 3, 4] rfl ?_
 refine WX.next ?_
 refine WC.seq ?_
 refine WC.seq ?_
 refine WC.region ?_
 refine WO.v (fa34_6 rfl) rfl ?_
 have B16 := (n14.blk).kp0 n15.kp
 refine WO.v (R.loadB rfl B16 rfl Try.underlying32 rfl) rfl ?_
 refine WO.v (R.len rfl Try.underlying32) rfl ?_
 refine WO.v (R.gtr rfl rfl) rfl ?_
 refine WO.v (R.move rfl) rfl ?_
 refine WO.cutP 8 [(18, (.bool ((decide ((16 : Int) < ((s.snaps.length : Nat) : Int))) || (!(risingF Snap.id ((s.next - (1 : Int))) 0 (s.snaps))))))] (fun w' => Kp [] w15 w') ?_ ?_
 rcases Bool.eq_false_or_eq_true (decide ((16 : Int) < ((s.snaps.length : Nat) : Int))) with hb17 | hb17
 have phb17 : (16 : Int) < ((s.snaps.length : Nat) : Int) := of_decide_eq_true hb17
 refine WO.off rfl rfl hb17 rfl ?_
 refine WO.off rfl rfl hb17 rfl ?_
 refine WO.off rfl rfl hb17 rfl ?_
 refine WO.off rfl rfl hb17 rfl ?_
 refine WO.off rfl rfl hb17 rfl ?_
 refine WO.off rfl rfl hb17 rfl ?_
 refine WO.off rfl rfl hb17 rfl ?_
 refine WO.v (R.pickT rfl hb17 rfl) rfl ?_
 refine WO.nil ?_
 exact WX.cutDoneP 8 rfl rfl ⟨⟨_, rfl, vb (bor_on hb17)⟩, trivial⟩ (Kp.refl _)
 have phb17 : ¬ ((16 : Int) < ((s.snaps.length : Nat) : Int)) := of_decide_eq_false hb17
 refine WO.on rfl rfl hb17 ?_
 refine WO.v (fa34_6 rfl) rfl ?_
 refine WO.on rfl rfl hb17 ?_
 refine WO.v (R.loadB rfl B16 rfl Try.underlying32 rfl) rfl ?_
 refine WO.on rfl rfl hb17 ?_
 refine WO.v (fa34_1 rfl) rfl ?_
 refine WO.on rfl rfl hb17 ?_
 refine WO.v (R.loadB rfl B16 rfl Try.underlying3 rfl) rfl ?_
 refine WO.on rfl rfl hb17 ?_
 have i18 : I64 (s.next - (1 : Int)) := by exact ⟨by omega, by omega⟩
 refine WO.v (R.sub rfl rfl i18) rfl ?_
 refine WO.on rfl rfl hb17 ?_
 refine WO.c (E.call rfl rfl Try.func56 rfl rfl) (risingSnap_s (most := (s.next - (1 : Int))) (l := s.snaps) (a_l := a11) (c_l := c12) ((sl_old s13 b15).mono (lo' := 0) (hi' := w15.heap.size) (Nat.zero_le _) (by omega)) (i18) (by omega)) rfl ?_
 rintro _ w19 ⟨rfl, k19⟩
 have z19 : w15.heap.size ≤ w19.heap.size := k19.size
 have b19 := old_kp0 b15 k19
 have y19 : w.heap.size ≤ w19.heap.size := b19.size
 refine WO.on rfl rfl hb17 ?_
 refine WO.v (R.not rfl) rfl ?_
 refine WO.v (R.pickF rfl hb17 rfl) rfl ?_
 refine WO.nil ?_
 exact WX.cutDoneP 8 rfl rfl ⟨⟨_, rfl, vb (bor_off hb17)⟩, trivial⟩ ((Kp.refl _).step k19 (by simp))
 intro w20 k20
 have z20 : w15.heap.size ≤ w20.heap.size := k20.size
 have b20 := old_kp0 b15 k20
 have y20 : w.heap.size ≤ w20.heap.size := b20.size
 refine WO.nil ?_
 refine WX.sel [0, 1, 2, 3, 4, 18] rfl ?_
 refine WX.next ?_
 refine WC.cond rfl (fun q21 => ?_) (fun q21 => ?_)
 have p21 : ((16 : Int) < ((s.snaps.length : Nat) : Int)) ∨ ((risingF Snap.id ((s.next - (1 : Int))) 0 (s.snaps)) = false) := Or.imp (fun h => of_decide_eq_true h) (fun h => (bnot_t h)) (bor_t q21)
 refine WC.seq ?_
 refine WC.region ?_
 refine WO.v (R.assign rfl) rfl ?_
 refine WO.nil ?_
 refine WX.sel [0, 1, 2, 3, 4, 18] rfl ?_
 refine WX.next ?_
 refine WC.ret ?_
 refine WX.thenRet ?_
 have e0 : false = (snapsF s v) := by first | (rw [snapsF, q21]; rfl) | (rw [snapsF, ‹(decide _ || _) = false›, tagMax, if_pos (by omega)]; rfl) | (rw [snapsF, ‹(decide _ || _) = false›, tagMax, if_neg (by omega)]; rfl)
 refine WX.ret1 Try.results44 rfl ?_
 exact ⟨by rw [e0], Kp.of_below b20⟩
 have p21 : (¬ ((16 : Int) < ((s.snaps.length : Nat) : Int))) ∧ ((risingF Snap.id ((s.next - (1 : Int))) 0 (s.snaps)) = true) := ⟨of_decide_eq_false (bor_f q21).1, (bnot_f (bor_f q21).2)⟩
 refine WC.skip ?_
 refine WX.next ?_
 refine WC.seq ?_
 refine WC.region ?_
 refine WO.alloc zr3 rfl ?_
 intro w22 n22
 have z22 : w20.heap.size < w22.heap.size := n22.lt
 have b22 := old_kp0 b20 n22.kp
 have y22 : w.heap.size ≤ w22.heap.size := b22.size
 refine WO.storeB (cs' := [_]) rfl rfl n22.blk rfl rfl sz3 rfl ?_
 intro w23 k23 B23 z_23
 have z23 : w22.heap.size = w23.heap.size := z_23.symm
 have b23 := old_kp b22 k23 (mem1 (by omega))
 have y23 : w.heap.size ≤ w23.heap.size := b23.size
 refine WO.nil ?_
 refine WX.sel [0, 1, 2, 3, 4, 5, 18] rfl ?_
 refine WX.next ?_
 refine WC.seq ?_
 refine WC.seq ?_
 refine WC.region ?_
 have B24 := (((n15.blk).kp0 k20).kp0 n22.kp).kp1 k23 (by omega)
 refine WO.v (R.loadB rfl B24 rfl Try.underlying3 rfl) rfl ?_
 refine WO.v (R.lss rfl rfl) rfl ?_
 refine WO.nil ?_
 refine WX.sel [0, 1, 2, 3, 4, 5, 18, 20] rfl ?_
 refine WX.next ?_
 refine WC.cond rfl (fun q25 => ?_) (fun q25 => ?_)
 have p25 : v < (3 : Int) := of_decide_eq_true q25
 refine WC.region ?_
 refine WO.storeB (cs' := [_]) rfl rfl B23 rfl rfl sz3 rfl ?_
 intro w26 k26 B26 z_26
 have z26 : w23.heap.size = w26.heap.size := z_26.symm
 have b26 := old_kp b23 k26 (mem1 (by omega))
 have y26 : w.heap.size ≤ w26.heap.size := b26.size
 refine WO.nil ?_
 refine WX.sel [0, 1, 2, 3, 4, 5, 18, 20] rfl ?_
 refine WX.next ?_
 refine WC.seq ?_
 refine WC.region ?_
 refine WO.v (fa34_6 rfl) rfl ?_
 have B27 := ((((B16).kp0 k20).kp0 n22.kp).kp1 k23 (by omega)).kp1 k26 (by omega)
 refine WO.v (R.loadB rfl B27 rfl Try.underlying32 rfl) rfl ?_
 refine WO.v (R.makeFunc2 rfl rfl) rfl ?_
 have B28 := (B24).kp1 k26 (by omega)
 refine WO.c (E.call rfl rfl Try.func58 rfl rfl) (allSnap_s (l := s.snaps) (a_l := a11) (c_l := c12) (p_v := w14.heap.size) (v := v) (p_t := w20.heap.size) (t := (0 : Int)) ((sl_old s13 b26).mono (lo' := 0) (hi' := w26.heap.size) (Nat.zero_le _) (by omega)) B28 B26) rfl ?_
 rintro _ w29 ⟨rfl, k29⟩
 have z29 : w26.heap.size ≤ w29.heap.size := k29.size
 have b29 := old_kp0 b26 k29
 have y29 : w.heap.size ≤ w29.heap.size := b29.size
 refine WO.v (R.assign rfl) rfl ?_
 refine WO.nil ?_
 refine WX.sel [0, 1, 2, 3, 4, 5, 18, 20] rfl ?_
 refine WX.next ?_
 refine WC.ret ?_
 have e0 : ((s.snaps).all (snapOk (v) ((0 : Int)))) = (snapsF s v) := by first | (rw [snapsF, q25]; rfl) | (rw [snapsF, ‹(decide _ || _) = false›, tagMax, if_pos (by omega)]; rfl) | (rw [snapsF, ‹(decide _ || _) = false›, tagMax, if_neg (by omega)]; rfl)
 refine WX.ret1 Try.results44 rfl ?_
 exact ⟨by rw [e0], Kp.of_below b29⟩
 have p25 : ¬ (v < (3 : Int)) := of_decide_eq_false q25
 refine WC.skip ?_
 refine WX.next ?_
 refine WC.seq ?_
 refine WC.region ?_
 refine WO.v (fa34_6 rfl) rfl ?_
 have B30 := (((B16).kp0 k20).kp0 n22.kp).kp1 k23 (by omega)
 refine WO.v (R.loadB rfl B30 rfl Try.underlying32 rfl) rfl ?_
 refine WO.v (R.makeFunc2 rfl rfl) rfl ?_
 refine WO.c (E.call rfl rfl Try.func58 rfl rfl) (allSnap_s (l := s.snaps) (a_l := a11) (c_l := c12) (p_v := w14.heap.size) (v := v) (p_t := w20.heap.size) (t := (16 : Int)) ((sl_old s13 b23).mono (lo' := 0) (hi' := w23.heap.size) (Nat.zero_le _) (by omega)) B24 B23) rfl ?_
 rintro _ w31 ⟨rfl, k31⟩
 have z31 : w23.heap.size ≤ w31.heap.size := k31.size
 have b31 := old_kp0 b23 k31
 have y31 : w.heap.size ≤ w31.heap.size := b31.size
 refine WO.v (R.assign rfl) rfl ?_
 refine WO.nil ?_
 refine WX.sel [0, 1, 2, 3, 4, 5, 18, 20] rfl ?_
 refine WX.next ?_
 refine WC.ret ?_
 have e0 : ((s.snaps).all (snapOk (v) ((16 : Int)))) = (snapsF s v) := by first | (rw [snapsF, q25]; rfl) | (rw [snapsF, ‹(decide _ || _) = false›, tagMax, if_pos (by omega)]; rfl) | (rw [snapsF, ‹(decide _ || _) = false›, tagMax, if_neg (by omega)]; rfl)
 refine WX.ret1 Try.results44 rfl ?_
 exact ⟨by rw [e0], Kp.of_below b31⟩


end Go.Proofs.Ytaenkjlhdlddgaa
