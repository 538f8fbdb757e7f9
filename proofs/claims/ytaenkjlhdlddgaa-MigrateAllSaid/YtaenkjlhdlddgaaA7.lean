/- Contracts of functions, walked operation by operation. -/
import Derived.Test.YtaenkjlhdlddgaaA6
namespace Go.Proofs.Ytaenkjlhdlddgaa
open Go.RowKit

theorem may1 {s : State} {v : Int} (h : (!(inB v 1 3)) = true) : 1 = mayF s v := by rw [mayF, if_pos h]
theorem may6 {s : State} {v q : Int} (h1 : (!(inB v 1 3)) = false) (hq : q = if v < 3 then 0 else 64) (h : (((!(((inB s.version 1 3 && inB s.next 1 1048576) && inB s.keep 0 8) && inB s.quota 0 q) || !sessF s) || !opensF s) || !snapsF s v) = true) : 6 = mayF s v := by
  subst hq
  rw [mayF, h1, if_neg (by decide)]
  exact (if_pos h).symm
theorem may0 {s : State} {v q : Int} (h1 : (!(inB v 1 3)) = false) (hq : q = if v < 3 then 0 else 64) (h : (((!(((inB s.version 1 3 && inB s.next 1 1048576) && inB s.keep 0 8) && inB s.quota 0 q) || !sessF s) || !opensF s) || !snapsF s v) = false) : 0 = mayF s v := by
  subst hq
  rw [mayF, h1, if_neg (by decide)]
  exact (if_neg (fun h2 => Bool.noConfusion (h.symm.trans (show _ = true from h2)))).symm

theorem sz31 : (Try.prog.info? 31).map (·.size) = some 1 := by kernel_rfl
theorem sz30 : (Try.prog.info? 30).map (·.size) = some 1 := by kernel_rfl
theorem sz34 : (Try.prog.info? 34).map (·.size) = some 7 := by kernel_rfl
theorem fa34_0 {n : Nat} {fr : Fr} {w : World} {ty : TypeId} {x : Operand} {g k : Nat} (hx : ev fr x = some (.pointer (some ⟨g, k, none⟩))) : Runs Try.prog n fr w (.fieldAddr 34 x 0) ty (.pointer (some ⟨g, k + 0, none⟩)) w := R.fieldAddrB hx Try.underlying34 rfl rfl sz3
theorem fa34_2 {n : Nat} {fr : Fr} {w : World} {ty : TypeId} {x : Operand} {g k : Nat} (hx : ev fr x = some (.pointer (some ⟨g, k, none⟩))) : Runs Try.prog n fr w (.fieldAddr 34 x 2) ty (.pointer (some ⟨g, k + 2, none⟩)) w := R.fieldAddrB hx Try.underlying34 rfl rfl sz3
theorem fa34_3 {n : Nat} {fr : Fr} {w : World} {ty : TypeId} {x : Operand} {g k : Nat} (hx : ev fr x = some (.pointer (some ⟨g, k, none⟩))) : Runs Try.prog n fr w (.fieldAddr 34 x 3) ty (.pointer (some ⟨g, k + 3, none⟩)) w := R.fieldAddrB hx Try.underlying34 rfl rfl sz3
theorem fa34_4 {n : Nat} {fr : Fr} {w : World} {ty : TypeId} {x : Operand} {g k : Nat} (hx : ev fr x = some (.pointer (some ⟨g, k, none⟩))) : Runs Try.prog n fr w (.fieldAddr 34 x 4) ty (.pointer (some ⟨g, k + 4, none⟩)) w := R.fieldAddrB hx Try.underlying34 rfl rfl sz30
theorem fa34_5 {n : Nat} {fr : Fr} {w : World} {ty : TypeId} {x : Operand} {g k : Nat} (hx : ev fr x = some (.pointer (some ⟨g, k, none⟩))) : Runs Try.prog n fr w (.fieldAddr 34 x 5) ty (.pointer (some ⟨g, k + 5, none⟩)) w := R.fieldAddrB hx Try.underlying34 rfl rfl sz31

set_option maxRecDepth 100000 in
set_option maxHeartbeats 400000 in
theorem may_s {w : World} {cs_s : List Value} {s : State} (v : Int) (h_s : Rp.rp false 0 w.heap.size w cs_s s) :
    Ret Try.prog 26 [.agg cs_s.toArray, .int .i64 v].toArray w fun r w' => r = .int .i64 (mayF s v) ∧ Kp [] w w' := by
 obtain ⟨a5, c6, a8, c9, a11, c12, rfl, i1, i2, i3, i4, s7, s10, s13⟩ := State.el h_s
 have ls7 : (s.sess).length * 32 ≤ 140737488355328 := s7.lenle
 have ls10 : (s.opens).length * 16 ≤ 140737488355328 := s10.lenle
 have ls13 : (s.snaps).length * 64 ≤ 140737488355328 := s13.lenle
 refine Ret.enter Try.func26 rfl Try.ntmps26 rfl rfl ?_
 refine WC.sel [0, 1] rfl ?_
 refine WC.seq ?_
 refine WC.region ?_
 refine WO.box rfl rfl rfl ?_
 intro w14 n14
 have z14 : w.heap.size < w14.heap.size := n14.lt
 have b14 := old_kp0 (Below.refl w.heap.size w) n14.kp
 have y14 : w.heap.size ≤ w14.heap.size := b14.size
 refine WO.v (R.assign rfl) rfl ?_
 refine WO.nil ?_
 refine WX.sel [0, 1, 2, 4] rfl ?_
 refine WX.next ?_
 refine WC.seq ?_
 refine WC.seq ?_
 refine WC.region ?_
 refine WO.v (R.move rfl) rfl ?_
 refine WO.c (E.call rfl rfl Try.func35 rfl rfl) (within_s (n := v) (a := (1 : Int)) (b := (3 : Int)) ) rfl ?_
 rintro _ _ ⟨rfl, rfl⟩
 refine WO.v (R.not rfl) rfl ?_
 refine WO.nil ?_
 refine WX.sel [0, 1, 2, 4, 11] rfl ?_
 refine WX.next ?_
 refine WC.cond rfl (fun q15 => ?_) (fun q15 => ?_)
 have p15 : (¬ (((1 : Int)) ≤ (v))) ∨ (¬ ((v) ≤ ((3 : Int)))) := Or.imp (fun h => of_decide_eq_false h) (fun h => of_decide_eq_false h) (band_f (bnot_t q15))
 refine WC.seq ?_
 refine WC.region ?_
 refine WO.v (R.assign rfl) rfl ?_
 refine WO.nil ?_
 refine WX.sel [0, 1, 2, 4, 11] rfl ?_
 refine WX.next ?_
 refine WC.ret ?_
 refine WX.thenRet ?_
 have e0 : (1 : Int) = (mayF s v) := by first | exact may1 q15 | exact may6 q15 (by first | rw [if_pos (by omega)] | rw [if_neg (by omega)]) q15 | exact may0 q15 (by first | rw [if_pos (by omega)] | rw [if_neg (by omega)]) q15
 refine WX.ret1 Try.results26 rfl ?_
 exact ⟨by rw [e0], Kp.of_below b14⟩
 have p15 : (((1 : Int)) ≤ (v)) ∧ ((v) ≤ ((3 : Int))) := ⟨of_decide_eq_true (band_t (bnot_f q15)).1, of_decide_eq_true (band_t (bnot_f q15)).2⟩
 refine WC.skip ?_
 refine WX.next ?_
 refine WC.seq ?_
 refine WC.region ?_
 refine WO.v (R.assign rfl) rfl ?_
 refine WO.nil ?_
 refine WX.sel [0, 1, 2, 4, 5, 11] rfl ?_
 refine WX.next ?_
 refine WC.seq ?_
 refine WC.seq ?_
 refine WC.region ?_
 refine WO.v (R.move rfl) rfl ?_
 refine WO.v (R.lss rfl rfl) rfl ?_
 refine WO.nil ?_
 refine WX.sel [0, 1, 2, 4, 5, 11, 13] rfl ?_
 refine WX.next ?_
 refine WC.cond rfl (fun q16 => ?_) (fun q16 => ?_)
 have p16 : v < (3 : Int) := of_decide_eq_true q16
 refine WC.region ?_
 refine WO.v (R.assign rfl) rfl ?_
 refine WO.nil ?_
 refine WX.sel [0, 1, 2, 4, 5, 11, 13] rfl ?_
 refine WX.next ?_
 refine WC.seq ?_
 refine WC.region ?_
 refine WO.v (fa34_0 rfl) rfl ?_
 refine WO.v (R.loadB rfl n14.blk rfl Try.underlying3 rfl) rfl ?_
 refine WO.c (E.call rfl rfl Try.func35 rfl rfl) (within_s (n := s.version) (a := (1 : Int)) (b := (3 : Int)) ) rfl ?_
 rintro _ _ ⟨rfl, rfl⟩
 refine WO.v (R.move rfl) rfl ?_
 refine WO.cutP 4 [(21, (.bool (((decide (((1 : Int)) ≤ (s.version))) && (decide ((s.version) ≤ ((3 : Int))))) && ((decide (((1 : Int)) ≤ (s.next))) && (decide ((s.next) ≤ ((1048576 : Int))))))))] (fun w' => w14 = w') ?_ ?_
 rcases Bool.eq_false_or_eq_true ((decide (((1 : Int)) ≤ (s.version))) && (decide ((s.version) ≤ ((3 : Int))))) with hb17 | hb17
 have phb17 : (((1 : Int)) ≤ (s.version)) ∧ ((s.version) ≤ ((3 : Int))) := ⟨of_decide_eq_true (band_t hb17).1, of_decide_eq_true (band_t hb17).2⟩
 refine WO.on rfl rfl hb17 ?_
 refine WO.v (fa34_1 rfl) rfl ?_
 refine WO.on rfl rfl hb17 ?_
 refine WO.v (R.loadB rfl n14.blk rfl Try.underlying3 rfl) rfl ?_
 refine WO.on rfl rfl hb17 ?_
 refine WO.c (E.call rfl rfl Try.func35 rfl rfl) (within_s (n := s.next) (a := (1 : Int)) (b := (1048576 : Int)) ) rfl ?_
 rintro _ _ ⟨rfl, rfl⟩
 refine WO.v (R.pickT rfl hb17 rfl) rfl ?_
 refine WO.nil ?_
 exact WX.cutDoneP 4 rfl rfl ⟨⟨_, rfl, vb (band_on hb17)⟩, trivial⟩ (rfl)
 have phb17 : (¬ (((1 : Int)) ≤ (s.version))) ∨ (¬ ((s.version) ≤ ((3 : Int)))) := Or.imp (fun h => of_decide_eq_false h) (fun h => of_decide_eq_false h) (band_f hb17)
 refine WO.off rfl rfl hb17 rfl ?_
 refine WO.off rfl rfl hb17 rfl ?_
 refine WO.off rfl rfl hb17 rfl ?_
 refine WO.v (R.pickF rfl hb17 rfl) rfl ?_
 refine WO.nil ?_
 exact WX.cutDoneP 4 rfl rfl ⟨⟨_, rfl, vb (band_off hb17)⟩, trivial⟩ (rfl)
 rintro _ rfl
 refine WO.v (R.move rfl) rfl ?_
 refine WO.cutP 4 [(26, (.bool ((((decide (((1 : Int)) ≤ (s.version))) && (decide ((s.version) ≤ ((3 : Int))))) && ((decide (((1 : Int)) ≤ (s.next))) && (decide ((s.next) ≤ ((1048576 : Int)))))) && ((decide (((0 : Int)) ≤ (s.keep))) && (decide ((s.keep) ≤ ((8 : Int))))))))] (fun w' => w14 = w') ?_ ?_
 rcases Bool.eq_false_or_eq_true (((decide (((1 : Int)) ≤ (s.version))) && (decide ((s.version) ≤ ((3 : Int))))) && ((decide (((1 : Int)) ≤ (s.next))) && (decide ((s.next) ≤ ((1048576 : Int)))))) with hb18 | hb18
 have phb18 : ((((1 : Int)) ≤ (s.version)) ∧ ((s.version) ≤ ((3 : Int)))) ∧ ((((1 : Int)) ≤ (s.next)) ∧ ((s.next) ≤ ((1048576 : Int)))) := ⟨⟨of_decide_eq_true (band_t (band_t hb18).1).1, of_decide_eq_true (band_t (band_t hb18).1).2⟩, ⟨of_decide_eq_true (band_t (band_t hb18).2).1, of_decide_eq_true (band_t (band_t hb18).2).2⟩⟩
 refine WO.on rfl rfl hb18 ?_
 refine WO.v (fa34_2 rfl) rfl ?_
 refine WO.on rfl rfl hb18 ?_
 refine WO.v (R.loadB rfl n14.blk rfl Try.underlying3 rfl) rfl ?_
 refine WO.on rfl rfl hb18 ?_
 refine WO.c (E.call rfl rfl Try.func35 rfl rfl) (within_s (n := s.keep) (a := (0 : Int)) (b := (8 : Int)) ) rfl ?_
 rintro _ _ ⟨rfl, rfl⟩
 refine WO.v (R.pickT rfl hb18 rfl) rfl ?_
 refine WO.nil ?_
 exact WX.cutDoneP 4 rfl rfl ⟨⟨_, rfl, vb (band_on hb18)⟩, trivial⟩ (rfl)
 have phb18 : ((¬ (((1 : Int)) ≤ (s.version))) ∨ (¬ ((s.version) ≤ ((3 : Int))))) ∨ ((¬ (((1 : Int)) ≤ (s.next))) ∨ (¬ ((s.next) ≤ ((1048576 : Int))))) := Or.imp (fun h => Or.imp (fun h => of_decide_eq_false h) (fun h => of_decide_eq_false h) (band_f h)) (fun h => Or.imp (fun h => of_decide_eq_false h) (fun h => of_decide_eq_false h) (band_f h)) (band_f hb18)
 refine WO.off rfl rfl hb18 rfl ?_
 refine WO.off rfl rfl hb18 rfl ?_
 refine WO.off rfl rfl hb18 rfl ?_
 refine WO.v (R.pickF rfl hb18 rfl) rfl ?_
 refine WO.nil ?_
 exact WX.cutDoneP 4 rfl rfl ⟨⟨_, rfl, vb (band_off hb18)⟩, trivial⟩ (rfl)
 rintro _ rfl
 refine WO.v (R.move rfl) rfl ?_
 refine WO.cutP 5 [(32, (.bool (((((decide (((1 : Int)) ≤ (s.version))) && (decide ((s.version) ≤ ((3 : Int))))) && ((decide (((1 : Int)) ≤ (s.next))) && (decide ((s.next) ≤ ((1048576 : Int)))))) && ((decide (((0 : Int)) ≤ (s.keep))) && (decide ((s.keep) ≤ ((8 : Int)))))) && ((decide (((0 : Int)) ≤ (s.quota))) && (decide ((s.quota) ≤ ((0 : Int))))))))] (fun w' => w14 = w') ?_ ?_
 rcases Bool.eq_false_or_eq_true ((((decide (((1 : Int)) ≤ (s.version))) && (decide ((s.version) ≤ ((3 : Int))))) && ((decide (((1 : Int)) ≤ (s.next))) && (decide ((s.next) ≤ ((1048576 : Int)))))) && ((decide (((0 : Int)) ≤ (s.keep))) && (decide ((s.keep) ≤ ((8 : Int)))))) with hb19 | hb19
 have phb19 : (((((1 : Int)) ≤ (s.version)) ∧ ((s.version) ≤ ((3 : Int)))) ∧ ((((1 : Int)) ≤ (s.next)) ∧ ((s.next) ≤ ((1048576 : Int))))) ∧ ((((0 : Int)) ≤ (s.keep)) ∧ ((s.keep) ≤ ((8 : Int)))) := ⟨⟨⟨of_decide_eq_true (band_t (band_t (band_t hb19).1).1).1, of_decide_eq_true (band_t (band_t (band_t hb19).1).1).2⟩, ⟨of_decide_eq_true (band_t (band_t (band_t hb19).1).2).1, of_decide_eq_true (band_t (band_t (band_t hb19).1).2).2⟩⟩, ⟨of_decide_eq_true (band_t (band_t hb19).2).1, of_decide_eq_true (band_t (band_t hb19).2).2⟩⟩
 refine WO.on rfl rfl hb19 ?_
 refine WO.v (fa34_3 rfl) rfl ?_
 refine WO.on rfl rfl hb19 ?_
 refine WO.v (R.loadB rfl n14.blk rfl Try.underlying3 rfl) rfl ?_
 refine WO.on rfl rfl hb19 ?_
 refine WO.v (R.move rfl) rfl ?_
 refine WO.on rfl rfl hb19 ?_
 refine WO.c (E.call rfl rfl Try.func35 rfl rfl) (within_s (n := s.quota) (a := (0 : Int)) (b := (0 : Int)) ) rfl ?_
 rintro _ _ ⟨rfl, rfl⟩
 refine WO.v (R.pickT rfl hb19 rfl) rfl ?_
 refine WO.nil ?_
 exact WX.cutDoneP 5 rfl rfl ⟨⟨_, rfl, vb (band_on hb19)⟩, trivial⟩ (rfl)
 have phb19 : (((¬ (((1 : Int)) ≤ (s.version))) ∨ (¬ ((s.version) ≤ ((3 : Int))))) ∨ ((¬ (((1 : Int)) ≤ (s.next))) ∨ (¬ ((s.next) ≤ ((1048576 : Int)))))) ∨ ((¬ (((0 : Int)) ≤ (s.keep))) ∨ (¬ ((s.keep) ≤ ((8 : Int))))) := Or.imp (fun h => Or.imp (fun h => Or.imp (fun h => of_decide_eq_false h) (fun h => of_decide_eq_false h) (band_f h)) (fun h => Or.imp (fun h => of_decide_eq_false h) (fun h => of_decide_eq_false h) (band_f h)) (band_f h)) (fun h => Or.imp (fun h => of_decide_eq_false h) (fun h => of_decide_eq_false h) (band_f h)) (band_f hb19)
 refine WO.off rfl rfl hb19 rfl ?_
 refine WO.off rfl rfl hb19 rfl ?_
 refine WO.off rfl rfl hb19 rfl ?_
 refine WO.off rfl rfl hb19 rfl ?_
 refine WO.v (R.pickF rfl hb19 rfl) rfl ?_
 refine WO.nil ?_
 exact WX.cutDoneP 5 rfl rfl ⟨⟨_, rfl, vb (band_off hb19)⟩, trivial⟩ (rfl)
 rintro _ rfl
 refine WO.v (R.assign rfl) rfl ?_
 refine WO.nil ?_
 refine WX.sel [0, 1, 2, 4, 5, 6, 11, 13] rfl ?_
 refine WX.next ?_
 refine WC.seq ?_
 refine WC.region ?_
 refine WO.v (fa34_4 rfl) rfl ?_
 refine WO.v (R.loadB rfl n14.blk rfl Try.underlying30 rfl) rfl ?_
 refine WO.c (E.call rfl rfl Try.func36 rfl rfl) (risingSess_s (most := (8 : Int)) (l := s.sess) (a_l := a5) (c_l := c6) ((sl_old s7 b14).mono (lo' := 0) (hi' := w14.heap.size) (Nat.zero_le _) (by omega)) (show I64 (8) from ⟨by omega, by omega⟩) (by omega)) rfl ?_
 rintro _ w20 ⟨rfl, k20⟩
 have z20 : w14.heap.size ≤ w20.heap.size := k20.size
 have b20 := old_kp0 b14 k20
 have y20 : w.heap.size ≤ w20.heap.size := b20.size
 refine WO.v (R.move rfl) rfl ?_
 refine WO.cutP 4 [(40, (.bool ((risingF Sess.client ((8 : Int)) 0 (s.sess)) && ((s.sess).all sessOk))))] (fun w' => Kp [] w20 w') ?_ ?_
 rcases Bool.eq_false_or_eq_true (risingF Sess.client ((8 : Int)) 0 (s.sess)) with hb21 | hb21
 have phb21 : (risingF Sess.client ((8 : Int)) 0 (s.sess)) = true := hb21
 refine WO.on rfl rfl hb21 ?_
 refine WO.v (fa34_4 rfl) rfl ?_
 refine WO.on rfl rfl hb21 ?_
 have B22 := (n14.blk).kp0 k20
 refine WO.v (R.loadB rfl B22 rfl Try.underlying30 rfl) rfl ?_
 refine WO.on rfl rfl hb21 ?_
 refine WO.c (E.call rfl rfl Try.func38 rfl rfl) (allSess_s (l := s.sess) (a_l := a5) (c_l := c6) ((sl_old s7 b20).mono (lo' := 0) (hi' := w20.heap.size) (Nat.zero_le _) (by omega))) rfl ?_
 rintro _ w23 ⟨rfl, k23⟩
 have z23 : w20.heap.size ≤ w23.heap.size := k23.size
 have b23 := old_kp0 b20 k23
 have y23 : w.heap.size ≤ w23.heap.size := b23.size
 refine WO.v (R.pickT rfl hb21 rfl) rfl ?_
 refine WO.nil ?_
 exact WX.cutDoneP 4 rfl rfl ⟨⟨_, rfl, vb (band_on hb21)⟩, trivial⟩ ((Kp.refl _).step k23 (by simp))
 have phb21 : (risingF Sess.client ((8 : Int)) 0 (s.sess)) = false := hb21
 refine WO.off rfl rfl hb21 rfl ?_
 refine WO.off rfl rfl hb21 rfl ?_
 refine WO.off rfl rfl hb21 rfl ?_
 refine WO.v (R.pickF rfl hb21 rfl) rfl ?_
 refine WO.nil ?_
 exact WX.cutDoneP 4 rfl rfl ⟨⟨_, rfl, vb (band_off hb21)⟩, trivial⟩ (Kp.refl _)
 intro w24 k24
 have z24 : w20.heap.size ≤ w24.heap.size := k24.size
 have b24 := old_kp0 b20 k24
 have y24 : w.heap.size ≤ w24.heap.size := b24.size
 refine WO.v (R.assign rfl) rfl ?_
 refine WO.nil ?_
 refine WX.sel [0, 1, 2, 4, 5, 6, 7, 11, 13] rfl ?_
 refine WX.next ?_
 refine WC.seq ?_
 refine WC.region ?_
 refine WO.v (fa34_5 rfl) rfl ?_
 have B25 := ((n14.blk).kp0 k20).kp0 k24
 refine WO.v (R.loadB rfl B25 rfl Try.underlying31 rfl) rfl ?_
 refine WO.c (E.call rfl rfl Try.func40 rfl rfl) (risingOpen_s (most := (8 : Int)) (l := s.opens) (a_l := a8) (c_l := c9) ((sl_old s10 b24).mono (lo' := 0) (hi' := w24.heap.size) (Nat.zero_le _) (by omega)) (show I64 (8) from ⟨by omega, by omega⟩) (by omega)) rfl ?_
 rintro _ w26 ⟨rfl, k26⟩
 have z26 : w24.heap.size ≤ w26.heap.size := k26.size
 have b26 := old_kp0 b24 k26
 have y26 : w.heap.size ≤ w26.heap.size := b26.size
 refine WO.v (R.move rfl) rfl ?_
 refine WO.cutP 4 [(48, (.bool ((risingF Opn.set ((8 : Int)) 0 (s.opens)) && ((s.opens).all openOk))))] (fun w' => Kp [] w26 w') ?_ ?_
 rcases Bool.eq_false_or_eq_true (risingF Opn.set ((8 : Int)) 0 (s.opens)) with hb27 | hb27
 have phb27 : (risingF Opn.set ((8 : Int)) 0 (s.opens)) = true := hb27
 refine WO.on rfl rfl hb27 ?_
 refine WO.v (fa34_5 rfl) rfl ?_
 refine WO.on rfl rfl hb27 ?_
 have B28 := (B25).kp0 k26
 refine WO.v (R.loadB rfl B28 rfl Try.underlying31 rfl) rfl ?_
 refine WO.on rfl rfl hb27 ?_
 refine WO.c (E.call rfl rfl Try.func42 rfl rfl) (allOpen_s (l := s.opens) (a_l := a8) (c_l := c9) ((sl_old s10 b26).mono (lo' := 0) (hi' := w26.heap.size) (Nat.zero_le _) (by omega))) rfl ?_
 rintro _ w29 ⟨rfl, k29⟩
 have z29 : w26.heap.size ≤ w29.heap.size := k29.size
 have b29 := old_kp0 b26 k29
 have y29 : w.heap.size ≤ w29.heap.size := b29.size
 refine WO.v (R.pickT rfl hb27 rfl) rfl ?_
 refine WO.nil ?_
 exact WX.cutDoneP 4 rfl rfl ⟨⟨_, rfl, vb (band_on hb27)⟩, trivial⟩ ((Kp.refl _).step k29 (by simp))
 have phb27 : (risingF Opn.set ((8 : Int)) 0 (s.opens)) = false := hb27
 refine WO.off rfl rfl hb27 rfl ?_
 refine WO.off rfl rfl hb27 rfl ?_
 refine WO.off rfl rfl hb27 rfl ?_
 refine WO.v (R.pickF rfl hb27 rfl) rfl ?_
 refine WO.nil ?_
 exact WX.cutDoneP 4 rfl rfl ⟨⟨_, rfl, vb (band_off hb27)⟩, trivial⟩ (Kp.refl _)
 intro w30 k30
 have z30 : w26.heap.size ≤ w30.heap.size := k30.size
 have b30 := old_kp0 b26 k30
 have y30 : w.heap.size ≤ w30.heap.size := b30.size
 refine WO.v (R.assign rfl) rfl ?_
 refine WO.nil ?_
 refine WX.sel [0, 1, 2, 4, 5, 6, 7, 8, 11, 13] rfl ?_
 refine WX.next ?_
 refine WC.seq ?_
 refine WC.seq ?_
 refine WC.region ?_
 refine WO.v (R.move rfl) rfl ?_
 refine WO.v (R.not rfl) rfl ?_
 refine WO.v (R.move rfl) rfl ?_
 refine WO.cutP 3 [(54, (.bool ((!(((((decide (((1 : Int)) ≤ (s.version))) && (decide ((s.version) ≤ ((3 : Int))))) && ((decide (((1 : Int)) ≤ (s.next))) && (decide ((s.next) ≤ ((1048576 : Int)))))) && ((decide (((0 : Int)) ≤ (s.keep))) && (decide ((s.keep) ≤ ((8 : Int)))))) && ((decide (((0 : Int)) ≤ (s.quota))) && (decide ((s.quota) ≤ ((0 : Int))))))) || (!((risingF Sess.client ((8 : Int)) 0 (s.sess)) && ((s.sess).all sessOk))))))] (fun w' => w30 = w') ?_ ?_
 rcases Bool.eq_false_or_eq_true (!(((((decide (((1 : Int)) ≤ (s.version))) && (decide ((s.version) ≤ ((3 : Int))))) && ((decide (((1 : Int)) ≤ (s.next))) && (decide ((s.next) ≤ ((1048576 : Int)))))) && ((decide (((0 : Int)) ≤ (s.keep))) && (decide ((s.keep) ≤ ((8 : Int)))))) && ((decide (((0 : Int)) ≤ (s.quota))) && (decide ((s.quota) ≤ ((0 : Int))))))) with hb31 | hb31
 have phb31 : ((((¬ (((1 : Int)) ≤ (s.version))) ∨ (¬ ((s.version) ≤ ((3 : Int))))) ∨ ((¬ (((1 : Int)) ≤ (s.next))) ∨ (¬ ((s.next) ≤ ((1048576 : Int)))))) ∨ ((¬ (((0 : Int)) ≤ (s.keep))) ∨ (¬ ((s.keep) ≤ ((8 : Int)))))) ∨ ((¬ (((0 : Int)) ≤ (s.quota))) ∨ (¬ ((s.quota) ≤ ((0 : Int))))) := Or.imp (fun h => Or.imp (fun h => Or.imp (fun h => Or.imp (fun h => of_decide_eq_false h) (fun h => of_decide_eq_false h) (band_f h)) (fun h => Or.imp (fun h => of_decide_eq_false h) (fun h => of_decide_eq_false h) (band_f h)) (band_f h)) (fun h => Or.imp (fun h => of_decide_eq_false h) (fun h => of_decide_eq_false h) (band_f h)) (band_f h)) (fun h => Or.imp (fun h => of_decide_eq_false h) (fun h => of_decide_eq_false h) (band_f h)) (band_f (bnot_t hb31))
 refine WO.off rfl rfl hb31 rfl ?_
 refine WO.off rfl rfl hb31 rfl ?_
 refine WO.v (R.pickT rfl hb31 rfl) rfl ?_
 refine WO.nil ?_
 exact WX.cutDoneP 3 rfl rfl ⟨⟨_, rfl, vb (bor_on hb31)⟩, trivial⟩ (rfl)
 have phb31 : ((((((1 : Int)) ≤ (s.version)) ∧ ((s.version) ≤ ((3 : Int)))) ∧ ((((1 : Int)) ≤ (s.next)) ∧ ((s.next) ≤ ((1048576 : Int))))) ∧ ((((0 : Int)) ≤ (s.keep)) ∧ ((s.keep) ≤ ((8 : Int))))) ∧ ((((0 : Int)) ≤ (s.quota)) ∧ ((s.quota) ≤ ((0 : Int)))) := ⟨⟨⟨⟨of_decide_eq_true (band_t (band_t (band_t (band_t (bnot_f hb31)).1).1).1).1, of_decide_eq_true (band_t (band_t (band_t (band_t (bnot_f hb31)).1).1).1).2⟩, ⟨of_decide_eq_true (band_t (band_t (band_t (band_t (bnot_f hb31)).1).1).2).1, of_decide_eq_true (band_t (band_t (band_t (band_t (bnot_f hb31)).1).1).2).2⟩⟩, ⟨of_decide_eq_true (band_t (band_t (band_t (bnot_f hb31)).1).2).1, of_decide_eq_true (band_t (band_t (band_t (bnot_f hb31)).1).2).2⟩⟩, ⟨of_decide_eq_true (band_t (band_t (bnot_f hb31)).2).1, of_decide_eq_true (band_t (band_t (bnot_f hb31)).2).2⟩⟩
 refine WO.on rfl rfl hb31 ?_
 refine WO.v (R.move rfl) rfl ?_
 refine WO.on rfl rfl hb31 ?_
 refine WO.v (R.not rfl) rfl ?_
 refine WO.v (R.pickF rfl hb31 rfl) rfl ?_
 refine WO.nil ?_
 exact WX.cutDoneP 3 rfl rfl ⟨⟨_, rfl, vb (bor_off hb31)⟩, trivial⟩ (rfl)
 rintro _ rfl
 refine WO.v (R.move rfl) rfl ?_
 refine WO.cutP 3 [(58, (.bool (((!(((((decide (((1 : Int)) ≤ (s.version))) && (decide ((s.version) ≤ ((3 : Int))))) && ((decide (((1 : Int)) ≤ (s.next))) && (decide ((s.next) ≤ ((1048576 : Int)))))) && ((decide (((0 : Int)) ≤ (s.keep))) && (decide ((s.keep) ≤ ((8 : Int)))))) && ((decide (((0 : Int)) ≤ (s.quota))) && (decide ((s.quota) ≤ ((0 : Int))))))) || (!((risingF Sess.client ((8 : Int)) 0 (s.sess)) && ((s.sess).all sessOk)))) || (!((risingF Opn.set ((8 : Int)) 0 (s.opens)) && ((s.opens).all openOk))))))] (fun w' => w30 = w') ?_ ?_
 rcases Bool.eq_false_or_eq_true ((!(((((decide (((1 : Int)) ≤ (s.version))) && (decide ((s.version) ≤ ((3 : Int))))) && ((decide (((1 : Int)) ≤ (s.next))) && (decide ((s.next) ≤ ((1048576 : Int)))))) && ((decide (((0 : Int)) ≤ (s.keep))) && (decide ((s.keep) ≤ ((8 : Int)))))) && ((decide (((0 : Int)) ≤ (s.quota))) && (decide ((s.quota) ≤ ((0 : Int))))))) || (!((risingF Sess.client ((8 : Int)) 0 (s.sess)) && ((s.sess).all sessOk)))) with hb32 | hb32
 have phb32 : (((((¬ (((1 : Int)) ≤ (s.version))) ∨ (¬ ((s.version) ≤ ((3 : Int))))) ∨ ((¬ (((1 : Int)) ≤ (s.next))) ∨ (¬ ((s.next) ≤ ((1048576 : Int)))))) ∨ ((¬ (((0 : Int)) ≤ (s.keep))) ∨ (¬ ((s.keep) ≤ ((8 : Int)))))) ∨ ((¬ (((0 : Int)) ≤ (s.quota))) ∨ (¬ ((s.quota) ≤ ((0 : Int)))))) ∨ (((risingF Sess.client ((8 : Int)) 0 (s.sess)) = false) ∨ (((s.sess).all sessOk) = false)) := Or.imp (fun h => Or.imp (fun h => Or.imp (fun h => Or.imp (fun h => Or.imp (fun h => of_decide_eq_false h) (fun h => of_decide_eq_false h) (band_f h)) (fun h => Or.imp (fun h => of_decide_eq_false h) (fun h => of_decide_eq_false h) (band_f h)) (band_f h)) (fun h => Or.imp (fun h => of_decide_eq_false h) (fun h => of_decide_eq_false h) (band_f h)) (band_f h)) (fun h => Or.imp (fun h => of_decide_eq_false h) (fun h => of_decide_eq_false h) (band_f h)) (band_f (bnot_t h))) (fun h => Or.imp (fun h => h) (fun h => h) (band_f (bnot_t h))) (bor_t hb32)
 refine WO.off rfl rfl hb32 rfl ?_
 refine WO.off rfl rfl hb32 rfl ?_
 refine WO.v (R.pickT rfl hb32 rfl) rfl ?_
 refine WO.nil ?_
 exact WX.cutDoneP 3 rfl rfl ⟨⟨_, rfl, vb (bor_on hb32)⟩, trivial⟩ (rfl)
 have phb32 : (((((((1 : Int)) ≤ (s.version)) ∧ ((s.version) ≤ ((3 : Int)))) ∧ ((((1 : Int)) ≤ (s.next)) ∧ ((s.next) ≤ ((1048576 : Int))))) ∧ ((((0 : Int)) ≤ (s.keep)) ∧ ((s.keep) ≤ ((8 : Int))))) ∧ ((((0 : Int)) ≤ (s.quota)) ∧ ((s.quota) ≤ ((0 : Int))))) ∧ (((risingF Sess.client ((8 : Int)) 0 (s.sess)) = true) ∧ (((s.sess).all sessOk) = true)) := ⟨⟨⟨⟨⟨of_decide_eq_true (band_t (band_t (band_t (band_t (bnot_f (bor_f hb32).1)).1).1).1).1, of_decide_eq_true (band_t (band_t (band_t (band_t (bnot_f (bor_f hb32).1)).1).1).1).2⟩, ⟨of_decide_eq_true (band_t (band_t (band_t (band_t (bnot_f (bor_f hb32).1)).1).1).2).1, of_decide_eq_true (band_t (band_t (band_t (band_t (bnot_f (bor_f hb32).1)).1).1).2).2⟩⟩, ⟨of_decide_eq_true (band_t (band_t (band_t (bnot_f (bor_f hb32).1)).1).2).1, of_decide_eq_true (band_t (band_t (band_t (bnot_f (bor_f hb32).1)).1).2).2⟩⟩, ⟨of_decide_eq_true (band_t (band_t (bnot_f (bor_f hb32).1)).2).1, of_decide_eq_true (band_t (band_t (bnot_f (bor_f hb32).1)).2).2⟩⟩, ⟨(band_t (bnot_f (bor_f hb32).2)).1, (band_t (bnot_f (bor_f hb32).2)).2⟩⟩
 refine WO.on rfl rfl hb32 ?_
 refine WO.v (R.move rfl) rfl ?_
 refine WO.on rfl rfl hb32 ?_
 refine WO.v (R.not rfl) rfl ?_
 refine WO.v (R.pickF rfl hb32 rfl) rfl ?_
 refine WO.nil ?_
 exact WX.cutDoneP 3 rfl rfl ⟨⟨_, rfl, vb (bor_off hb32)⟩, trivial⟩ (rfl)
 rintro _ rfl
 refine WO.v (R.move rfl) rfl ?_
 refine WO.cutP 5 [(64, (.bool ((((!(((((decide (((1 : Int)) ≤ (s.version))) && (decide ((s.version) ≤ ((3 : Int))))) && ((decide (((1 : Int)) ≤ (s.next))) && (decide ((s.next) ≤ ((1048576 : Int)))))) && ((decide (((0 : Int)) ≤ (s.keep))) && (decide ((s.keep) ≤ ((8 : Int)))))) && ((decide (((0 : Int)) ≤ (s.quota))) && (decide ((s.quota) ≤ ((0 : Int))))))) || (!((risingF Sess.client ((8 : Int)) 0 (s.sess)) && ((s.sess).all sessOk)))) || (!((risingF Opn.set ((8 : Int)) 0 (s.opens)) && ((s.opens).all openOk)))) || (!(snapsF (s) (v))))))] (fun w' => Kp [] w30 w') ?_ ?_
 rcases Bool.eq_false_or_eq_true (((!(((((decide (((1 : Int)) ≤ (s.version))) && (decide ((s.version) ≤ ((3 : Int))))) && ((decide (((1 : Int)) ≤ (s.next))) && (decide ((s.next) ≤ ((1048576 : Int)))))) && ((decide (((0 : Int)) ≤ (s.keep))) && (decide ((s.keep) ≤ ((8 : Int)))))) && ((decide (((0 : Int)) ≤ (s.quota))) && (decide ((s.quota) ≤ ((0 : Int))))))) || (!((risingF Sess.client ((8 : Int)) 0 (s.sess)) && ((s.sess).all sessOk)))) || (!((risingF Opn.set ((8 : Int)) 0 (s.opens)) && ((s.opens).all openOk)))) with hb33 | hb33
 have phb33 : ((((((¬ (((1 : Int)) ≤ (s.version))) ∨ (¬ ((s.version) ≤ ((3 : Int))))) ∨ ((¬ (((1 : Int)) ≤ (s.next))) ∨ (¬ ((s.next) ≤ ((1048576 : Int)))))) ∨ ((¬ (((0 : Int)) ≤ (s.keep))) ∨ (¬ ((s.keep) ≤ ((8 : Int)))))) ∨ ((¬ (((0 : Int)) ≤ (s.quota))) ∨ (¬ ((s.quota) ≤ ((0 : Int)))))) ∨ (((risingF Sess.client ((8 : Int)) 0 (s.sess)) = false) ∨ (((s.sess).all sessOk) = false))) ∨ (((risingF Opn.set ((8 : Int)) 0 (s.opens)) = false) ∨ (((s.opens).all openOk) = false)) := Or.imp (fun h => Or.imp (fun h => Or.imp (fun h => Or.imp (fun h => Or.imp (fun h => Or.imp (fun h => of_decide_eq_false h) (fun h => of_decide_eq_false h) (band_f h)) (fun h => Or.imp (fun h => of_decide_eq_false h) (fun h => of_decide_eq_false h) (band_f h)) (band_f h)) (fun h => Or.imp (fun h => of_decide_eq_false h) (fun h => of_decide_eq_false h) (band_f h)) (band_f h)) (fun h => Or.imp (fun h => of_decide_eq_false h) (fun h => of_decide_eq_false h) (band_f h)) (band_f (bnot_t h))) (fun h => Or.imp (fun h => h) (fun h => h) (band_f (bnot_t h))) (bor_t h)) (fun h => Or.imp (fun h => h) (fun h => h) (band_f (bnot_t h))) (bor_t hb33)
 refine WO.off rfl rfl hb33 rfl ?_
 refine WO.off rfl rfl hb33 rfl ?_
 refine WO.off rfl rfl hb33 rfl ?_
 refine WO.off rfl rfl hb33 rfl ?_
 refine WO.v (R.pickT rfl hb33 rfl) rfl ?_
 refine WO.nil ?_
 exact WX.cutDoneP 5 rfl rfl ⟨⟨_, rfl, vb (bor_on hb33)⟩, trivial⟩ (Kp.refl _)
 have phb33 : ((((((((1 : Int)) ≤ (s.version)) ∧ ((s.version) ≤ ((3 : Int)))) ∧ ((((1 : Int)) ≤ (s.next)) ∧ ((s.next) ≤ ((1048576 : Int))))) ∧ ((((0 : Int)) ≤ (s.keep)) ∧ ((s.keep) ≤ ((8 : Int))))) ∧ ((((0 : Int)) ≤ (s.quota)) ∧ ((s.quota) ≤ ((0 : Int))))) ∧ (((risingF Sess.client ((8 : Int)) 0 (s.sess)) = true) ∧ (((s.sess).all sessOk) = true))) ∧ (((risingF Opn.set ((8 : Int)) 0 (s.opens)) = true) ∧ (((s.opens).all openOk) = true)) := ⟨⟨⟨⟨⟨⟨of_decide_eq_true (band_t (band_t (band_t (band_t (bnot_f (bor_f (bor_f hb33).1).1)).1).1).1).1, of_decide_eq_true (band_t (band_t (band_t (band_t (bnot_f (bor_f (bor_f hb33).1).1)).1).1).1).2⟩, ⟨of_decide_eq_true (band_t (band_t (band_t (band_t (bnot_f (bor_f (bor_f hb33).1).1)).1).1).2).1, of_decide_eq_true (band_t (band_t (band_t (band_t (bnot_f (bor_f (bor_f hb33).1).1)).1).1).2).2⟩⟩, ⟨of_decide_eq_true (band_t (band_t (band_t (bnot_f (bor_f (bor_f hb33).1).1)).1).2).1, of_decide_eq_true (band_t (band_t (band_t (bnot_f (bor_f (bor_f hb33).1).1)).1).2).2⟩⟩, ⟨of_decide_eq_true (band_t (band_t (bnot_f (bor_f (bor_f hb33).1).1)).2).1, of_decide_eq_true (band_t (band_t (bnot_f (bor_f (bor_f hb33).1).1)).2).2⟩⟩, ⟨(band_t (bnot_f (bor_f (bor_f hb33).1).2)).1, (band_t (bnot_f (bor_f (bor_f hb33).1).2)).2⟩⟩, ⟨(band_t (bnot_f (bor_f hb33).2)).1, (band_t (bnot_f (bor_f hb33).2)).2⟩⟩
 refine WO.on rfl rfl hb33 ?_
 have B34 := ((B25).kp0 k26).kp0 k30
 refine WO.v (R.loadBN (vs := [_, _, _, _, _, _, _]) rfl B34 rfl Try.underlying34 rfl sz34) rfl ?_
 refine WO.on rfl rfl hb33 ?_
 refine WO.v (R.move rfl) rfl ?_
 refine WO.on rfl rfl hb33 ?_
 refine WO.c (E.call rfl rfl Try.func44 rfl rfl) (snaps_s (v := v) (s := s) (State.mk_ (i1) (i2) (i3) (i4) ((sl_old s7 b30).mono (lo' := 0) (hi' := w30.heap.size) (Nat.zero_le _) (by omega)) ((sl_old s10 b30).mono (lo' := 0) (hi' := w30.heap.size) (Nat.zero_le _) (by omega)) ((sl_old s13 b30).mono (lo' := 0) (hi' := w30.heap.size) (Nat.zero_le _) (by omega))) (by omega)) rfl ?_
 rintro _ w35 ⟨rfl, k35⟩
 have z35 : w30.heap.size ≤ w35.heap.size := k35.size
 have b35 := old_kp0 b30 k35
 have y35 : w.heap.size ≤ w35.heap.size := b35.size
 refine WO.on rfl rfl hb33 ?_
 refine WO.v (R.not rfl) rfl ?_
 refine WO.v (R.pickF rfl hb33 rfl) rfl ?_
 refine WO.nil ?_
 exact WX.cutDoneP 5 rfl rfl ⟨⟨_, rfl, vb (bor_off hb33)⟩, trivial⟩ ((Kp.refl _).step k35 (by simp))
 intro w36 k36
 have z36 : w30.heap.size ≤ w36.heap.size := k36.size
 have b36 := old_kp0 b30 k36
 have y36 : w.heap.size ≤ w36.heap.size := b36.size
 refine WO.nil ?_
 refine WX.sel [0, 1, 2, 4, 5, 6, 7, 8, 11, 13, 64] rfl ?_
 refine WX.next ?_
 refine WC.cond rfl (fun q37 => ?_) (fun q37 => ?_)
 have p37 : (((((((¬ (((1 : Int)) ≤ (s.version))) ∨ (¬ ((s.version) ≤ ((3 : Int))))) ∨ ((¬ (((1 : Int)) ≤ (s.next))) ∨ (¬ ((s.next) ≤ ((1048576 : Int)))))) ∨ ((¬ (((0 : Int)) ≤ (s.keep))) ∨ (¬ ((s.keep) ≤ ((8 : Int)))))) ∨ ((¬ (((0 : Int)) ≤ (s.quota))) ∨ (¬ ((s.quota) ≤ ((0 : Int)))))) ∨ (((risingF Sess.client ((8 : Int)) 0 (s.sess)) = false) ∨ (((s.sess).all sessOk) = false))) ∨ (((risingF Opn.set ((8 : Int)) 0 (s.opens)) = false) ∨ (((s.opens).all openOk) = false))) ∨ ((snapsF (s) (v)) = false) := Or.imp (fun h => Or.imp (fun h => Or.imp (fun h => Or.imp (fun h => Or.imp (fun h => Or.imp (fun h => Or.imp (fun h => of_decide_eq_false h) (fun h => of_decide_eq_false h) (band_f h)) (fun h => Or.imp (fun h => of_decide_eq_false h) (fun h => of_decide_eq_false h) (band_f h)) (band_f h)) (fun h => Or.imp (fun h => of_decide_eq_false h) (fun h => of_decide_eq_false h) (band_f h)) (band_f h)) (fun h => Or.imp (fun h => of_decide_eq_false h) (fun h => of_decide_eq_false h) (band_f h)) (band_f (bnot_t h))) (fun h => Or.imp (fun h => h) (fun h => h) (band_f (bnot_t h))) (bor_t h)) (fun h => Or.imp (fun h => h) (fun h => h) (band_f (bnot_t h))) (bor_t h)) (fun h => (bnot_t h)) (bor_t q37)
 refine WC.seq ?_
 refine WC.region ?_
 refine WO.v (R.assign rfl) rfl ?_
 refine WO.nil ?_
 refine WX.sel [0, 1, 2, 4, 5, 6, 7, 8, 11, 13, 64] rfl ?_
 refine WX.next ?_
 refine WC.ret ?_
 refine WX.thenRet ?_
 have e0 : (6 : Int) = (mayF s v) := by first | exact may1 q37 | exact may6 q15 (by first | rw [if_pos (by omega)] | rw [if_neg (by omega)]) q37 | exact may0 q15 (by first | rw [if_pos (by omega)] | rw [if_neg (by omega)]) q37
 refine WX.ret1 Try.results26 rfl ?_
 exact ⟨by rw [e0], Kp.of_below b36⟩
 have p37 : (((((((((1 : Int)) ≤ (s.version)) ∧ ((s.version) ≤ ((3 : Int)))) ∧ ((((1 : Int)) ≤ (s.next)) ∧ ((s.next) ≤ ((1048576 : Int))))) ∧ ((((0 : Int)) ≤ (s.keep)) ∧ ((s.keep) ≤ ((8 : Int))))) ∧ ((((0 : Int)) ≤ (s.quota)) ∧ ((s.quota) ≤ ((0 : Int))))) ∧ (((risingF Sess.client ((8 : Int)) 0 (s.sess)) = true) ∧ (((s.sess).all sessOk) = true))) ∧ (((risingF Opn.set ((8 : Int)) 0 (s.opens)) = true) ∧ (((s.opens).all openOk) = true))) ∧ ((snapsF (s) (v)) = true) := ⟨⟨⟨⟨⟨⟨⟨of_decide_eq_true (band_t (band_t (band_t (band_t (bnot_f (bor_f (bor_f (bor_f q37).1).1).1)).1).1).1).1, of_decide_eq_true (band_t (band_t (band_t (band_t (bnot_f (bor_f (bor_f (bor_f q37).1).1).1)).1).1).1).2⟩, ⟨of_decide_eq_true (band_t (band_t (band_t (band_t (bnot_f (bor_f (bor_f (bor_f q37).1).1).1)).1).1).2).1, of_decide_eq_true (band_t (band_t (band_t (band_t (bnot_f (bor_f (bor_f (bor_f q37).1).1).1)).1).1).2).2⟩⟩, ⟨of_decide_eq_true (band_t (band_t (band_t (bnot_f (bor_f (bor_f (bor_f q37).1).1).1)).1).2).1, of_decide_eq_true (band_t (band_t (band_t (bnot_f (bor_f (bor_f (bor_f q37).1).1).1)).1).2).2⟩⟩, ⟨of_decide_eq_true (band_t (band_t (bnot_f (bor_f (bor_f (bor_f q37).1).1).1)).2).1, of_decide_eq_true (band_t (band_t (bnot_f (bor_f (bor_f (bor_f q37).1).1).1)).2).2⟩⟩, ⟨(band_t (bnot_f (bor_f (bor_f (bor_f q37).1).1).2)).1, (band_t (bnot_f (bor_f (bor_f (bor_f q37).1).1).2)).2⟩⟩, ⟨(band_t (bnot_f (bor_f (bor_f q37).1).2)).1, (band_t (bnot_f (bor_f (bor_f q37).1).2)).2⟩⟩, (bnot_f (bor_f q37).2)⟩
 refine WC.skip ?_
 refine WX.next ?_
 refine WC.seq ?_
 refine WC.region ?_
 refine WO.v (R.assign rfl) rfl ?_
 refine WO.nil ?_
 refine WX.sel [0, 1, 2, 4, 5, 6, 7, 8, 11, 13, 64] rfl ?_
 refine WX.next ?_
 refine WC.ret ?_
 have e0 : (0 : Int) = (mayF s v) := by first | exact may1 q37 | exact may6 q15 (by first | rw [if_pos (by omega)] | rw [if_neg (by omega)]) q37 | exact may0 q15 (by first | rw [if_pos (by omega)] | rw [if_neg (by omega)]) q37
 refine WX.ret1 Try.results26 rfl ?_
 exact ⟨by rw [e0], Kp.of_below b36⟩
 have p16 : ¬ (v < (3 : Int)) := of_decide_eq_false q16
 refine WC.skip ?_
 refine WX.next ?_
 refine WC.seq ?_
 refine WC.region ?_
 refine WO.v (fa34_0 rfl) rfl ?_
 refine WO.v (R.loadB rfl n14.blk rfl Try.underlying3 rfl) rfl ?_
 refine WO.c (E.call rfl rfl Try.func35 rfl rfl) (within_s (n := s.version) (a := (1 : Int)) (b := (3 : Int)) ) rfl ?_
 rintro _ _ ⟨rfl, rfl⟩
 refine WO.v (R.move rfl) rfl ?_
 refine WO.cutP 4 [(21, (.bool (((decide (((1 : Int)) ≤ (s.version))) && (decide ((s.version) ≤ ((3 : Int))))) && ((decide (((1 : Int)) ≤ (s.next))) && (decide ((s.next) ≤ ((1048576 : Int))))))))] (fun w' => w14 = w') ?_ ?_
 rcases Bool.eq_false_or_eq_true ((decide (((1 : Int)) ≤ (s.version))) && (decide ((s.version) ≤ ((3 : Int))))) with hb38 | hb38
 have phb38 : (((1 : Int)) ≤ (s.version)) ∧ ((s.version) ≤ ((3 : Int))) := ⟨of_decide_eq_true (band_t hb38).1, of_decide_eq_true (band_t hb38).2⟩
 refine WO.on rfl rfl hb38 ?_
 refine WO.v (fa34_1 rfl) rfl ?_
 refine WO.on rfl rfl hb38 ?_
 refine WO.v (R.loadB rfl n14.blk rfl Try.underlying3 rfl) rfl ?_
 refine WO.on rfl rfl hb38 ?_
 refine WO.c (E.call rfl rfl Try.func35 rfl rfl) (within_s (n := s.next) (a := (1 : Int)) (b := (1048576 : Int)) ) rfl ?_
 rintro _ _ ⟨rfl, rfl⟩
 refine WO.v (R.pickT rfl hb38 rfl) rfl ?_
 refine WO.nil ?_
 exact WX.cutDoneP 4 rfl rfl ⟨⟨_, rfl, vb (band_on hb38)⟩, trivial⟩ (rfl)
 have phb38 : (¬ (((1 : Int)) ≤ (s.version))) ∨ (¬ ((s.version) ≤ ((3 : Int)))) := Or.imp (fun h => of_decide_eq_false h) (fun h => of_decide_eq_false h) (band_f hb38)
 refine WO.off rfl rfl hb38 rfl ?_
 refine WO.off rfl rfl hb38 rfl ?_
 refine WO.off rfl rfl hb38 rfl ?_
 refine WO.v (R.pickF rfl hb38 rfl) rfl ?_
 refine WO.nil ?_
 exact WX.cutDoneP 4 rfl rfl ⟨⟨_, rfl, vb (band_off hb38)⟩, trivial⟩ (rfl)
 rintro _ rfl
 refine WO.v (R.move rfl) rfl ?_
 refine WO.cutP 4 [(26, (.bool ((((decide (((1 : Int)) ≤ (s.version))) && (decide ((s.version) ≤ ((3 : Int))))) && ((decide (((1 : Int)) ≤ (s.next))) && (decide ((s.next) ≤ ((1048576 : Int)))))) && ((decide (((0 : Int)) ≤ (s.keep))) && (decide ((s.keep) ≤ ((8 : Int))))))))] (fun w' => w14 = w') ?_ ?_
 rcases Bool.eq_false_or_eq_true (((decide (((1 : Int)) ≤ (s.version))) && (decide ((s.version) ≤ ((3 : Int))))) && ((decide (((1 : Int)) ≤ (s.next))) && (decide ((s.next) ≤ ((1048576 : Int)))))) with hb39 | hb39
 have phb39 : ((((1 : Int)) ≤ (s.version)) ∧ ((s.version) ≤ ((3 : Int)))) ∧ ((((1 : Int)) ≤ (s.next)) ∧ ((s.next) ≤ ((1048576 : Int)))) := ⟨⟨of_decide_eq_true (band_t (band_t hb39).1).1, of_decide_eq_true (band_t (band_t hb39).1).2⟩, ⟨of_decide_eq_true (band_t (band_t hb39).2).1, of_decide_eq_true (band_t (band_t hb39).2).2⟩⟩
 refine WO.on rfl rfl hb39 ?_
 refine WO.v (fa34_2 rfl) rfl ?_
 refine WO.on rfl rfl hb39 ?_
 refine WO.v (R.loadB rfl n14.blk rfl Try.underlying3 rfl) rfl ?_
 refine WO.on rfl rfl hb39 ?_
 refine WO.c (E.call rfl rfl Try.func35 rfl rfl) (within_s (n := s.keep) (a := (0 : Int)) (b := (8 : Int)) ) rfl ?_
 rintro _ _ ⟨rfl, rfl⟩
 refine WO.v (R.pickT rfl hb39 rfl) rfl ?_
 refine WO.nil ?_
 exact WX.cutDoneP 4 rfl rfl ⟨⟨_, rfl, vb (band_on hb39)⟩, trivial⟩ (rfl)
 have phb39 : ((¬ (((1 : Int)) ≤ (s.version))) ∨ (¬ ((s.version) ≤ ((3 : Int))))) ∨ ((¬ (((1 : Int)) ≤ (s.next))) ∨ (¬ ((s.next) ≤ ((1048576 : Int))))) := Or.imp (fun h => Or.imp (fun h => of_decide_eq_false h) (fun h => of_decide_eq_false h) (band_f h)) (fun h => Or.imp (fun h => of_decide_eq_false h) (fun h => of_decide_eq_false h) (band_f h)) (band_f hb39)
 refine WO.off rfl rfl hb39 rfl ?_
 refine WO.off rfl rfl hb39 rfl ?_
 refine WO.off rfl rfl hb39 rfl ?_
 refine WO.v (R.pickF rfl hb39 rfl) rfl ?_
 refine WO.nil ?_
 exact WX.cutDoneP 4 rfl rfl ⟨⟨_, rfl, vb (band_off hb39)⟩, trivial⟩ (rfl)
 rintro _ rfl
 refine WO.v (R.move rfl) rfl ?_
 refine WO.cutP 5 [(32, (.bool (((((decide (((1 : Int)) ≤ (s.version))) && (decide ((s.version) ≤ ((3 : Int))))) && ((decide (((1 : Int)) ≤ (s.next))) && (decide ((s.next) ≤ ((1048576 : Int)))))) && ((decide (((0 : Int)) ≤ (s.keep))) && (decide ((s.keep) ≤ ((8 : Int)))))) && ((decide (((0 : Int)) ≤ (s.quota))) && (decide ((s.quota) ≤ ((64 : Int))))))))] (fun w' => w14 = w') ?_ ?_
 rcases Bool.eq_false_or_eq_true ((((decide (((1 : Int)) ≤ (s.version))) && (decide ((s.version) ≤ ((3 : Int))))) && ((decide (((1 : Int)) ≤ (s.next))) && (decide ((s.next) ≤ ((1048576 : Int)))))) && ((decide (((0 : Int)) ≤ (s.keep))) && (decide ((s.keep) ≤ ((8 : Int)))))) with hb40 | hb40
 have phb40 : (((((1 : Int)) ≤ (s.version)) ∧ ((s.version) ≤ ((3 : Int)))) ∧ ((((1 : Int)) ≤ (s.next)) ∧ ((s.next) ≤ ((1048576 : Int))))) ∧ ((((0 : Int)) ≤ (s.keep)) ∧ ((s.keep) ≤ ((8 : Int)))) := ⟨⟨⟨of_decide_eq_true (band_t (band_t (band_t hb40).1).1).1, of_decide_eq_true (band_t (band_t (band_t hb40).1).1).2⟩, ⟨of_decide_eq_true (band_t (band_t (band_t hb40).1).2).1, of_decide_eq_true (band_t (band_t (band_t hb40).1).2).2⟩⟩, ⟨of_decide_eq_true (band_t (band_t hb40).2).1, of_decide_eq_true (band_t (band_t hb40).2).2⟩⟩
 refine WO.on rfl rfl hb40 ?_
 refine WO.v (fa34_3 rfl) rfl ?_
 refine WO.on rfl rfl hb40 ?_
 refine WO.v (R.loadB rfl n14.blk rfl Try.underlying3 rfl) rfl ?_
 refine WO.on rfl rfl hb40 ?_
 refine WO.v (R.move rfl) rfl ?_
 refine WO.on rfl rfl hb40 ?_
 refine WO.c (E.call rfl rfl Try.func35 rfl rfl) (within_s (n := s.quota) (a := (0 : Int)) (b := (64 : Int)) ) rfl ?_
 rintro _ _ ⟨rfl, rfl⟩
 refine WO.v (R.pickT rfl hb40 rfl) rfl ?_
 refine WO.nil ?_
 exact WX.cutDoneP 5 rfl rfl ⟨⟨_, rfl, vb (band_on hb40)⟩, trivial⟩ (rfl)
 have phb40 : (((¬ (((1 : Int)) ≤ (s.version))) ∨ (¬ ((s.version) ≤ ((3 : Int))))) ∨ ((¬ (((1 : Int)) ≤ (s.next))) ∨ (¬ ((s.next) ≤ ((1048576 : Int)))))) ∨ ((¬ (((0 : Int)) ≤ (s.keep))) ∨ (¬ ((s.keep) ≤ ((8 : Int))))) := Or.imp (fun h => Or.imp (fun h => Or.imp (fun h => of_decide_eq_false h) (fun h => of_decide_eq_false h) (band_f h)) (fun h => Or.imp (fun h => of_decide_eq_false h) (fun h => of_decide_eq_false h) (band_f h)) (band_f h)) (fun h => Or.imp (fun h => of_decide_eq_false h) (fun h => of_decide_eq_false h) (band_f h)) (band_f hb40)
 refine WO.off rfl rfl hb40 rfl ?_
 refine WO.off rfl rfl hb40 rfl ?_
 refine WO.off rfl rfl hb40 rfl ?_
 refine WO.off rfl rfl hb40 rfl ?_
 refine WO.v (R.pickF rfl hb40 rfl) rfl ?_
 refine WO.nil ?_
 exact WX.cutDoneP 5 rfl rfl ⟨⟨_, rfl, vb (band_off hb40)⟩, trivial⟩ (rfl)
 rintro _ rfl
 refine WO.v (R.assign rfl) rfl ?_
 refine WO.nil ?_
 refine WX.sel [0, 1, 2, 4, 5, 6, 11, 13] rfl ?_
 refine WX.next ?_
 refine WC.seq ?_
 refine WC.region ?_
 refine WO.v (fa34_4 rfl) rfl ?_
 refine WO.v (R.loadB rfl n14.blk rfl Try.underlying30 rfl) rfl ?_
 refine WO.c (E.call rfl rfl Try.func36 rfl rfl) (risingSess_s (most := (8 : Int)) (l := s.sess) (a_l := a5) (c_l := c6) ((sl_old s7 b14).mono (lo' := 0) (hi' := w14.heap.size) (Nat.zero_le _) (by omega)) (show I64 (8) from ⟨by omega, by omega⟩) (by omega)) rfl ?_
 rintro _ w41 ⟨rfl, k41⟩
 have z41 : w14.heap.size ≤ w41.heap.size := k41.size
 have b41 := old_kp0 b14 k41
 have y41 : w.heap.size ≤ w41.heap.size := b41.size
 refine WO.v (R.move rfl) rfl ?_
 refine WO.cutP 4 [(40, (.bool ((risingF Sess.client ((8 : Int)) 0 (s.sess)) && ((s.sess).all sessOk))))] (fun w' => Kp [] w41 w') ?_ ?_
 rcases Bool.eq_false_or_eq_true (risingF Sess.client ((8 : Int)) 0 (s.sess)) with hb42 | hb42
 have phb42 : (risingF Sess.client ((8 : Int)) 0 (s.sess)) = true := hb42
 refine WO.on rfl rfl hb42 ?_
 refine WO.v (fa34_4 rfl) rfl ?_
 refine WO.on rfl rfl hb42 ?_
 have B43 := (n14.blk).kp0 k41
 refine WO.v (R.loadB rfl B43 rfl Try.underlying30 rfl) rfl ?_
 refine WO.on rfl rfl hb42 ?_
 refine WO.c (E.call rfl rfl Try.func38 rfl rfl) (allSess_s (l := s.sess) (a_l := a5) (c_l := c6) ((sl_old s7 b41).mono (lo' := 0) (hi' := w41.heap.size) (Nat.zero_le _) (by omega))) rfl ?_
 rintro _ w44 ⟨rfl, k44⟩
 have z44 : w41.heap.size ≤ w44.heap.size := k44.size
 have b44 := old_kp0 b41 k44
 have y44 : w.heap.size ≤ w44.heap.size := b44.size
 refine WO.v (R.pickT rfl hb42 rfl) rfl ?_
 refine WO.nil ?_
 exact WX.cutDoneP 4 rfl rfl ⟨⟨_, rfl, vb (band_on hb42)⟩, trivial⟩ ((Kp.refl _).step k44 (by simp))
 have phb42 : (risingF Sess.client ((8 : Int)) 0 (s.sess)) = false := hb42
 refine WO.off rfl rfl hb42 rfl ?_
 refine WO.off rfl rfl hb42 rfl ?_
 refine WO.off rfl rfl hb42 rfl ?_
 refine WO.v (R.pickF rfl hb42 rfl) rfl ?_
 refine WO.nil ?_
 exact WX.cutDoneP 4 rfl rfl ⟨⟨_, rfl, vb (band_off hb42)⟩, trivial⟩ (Kp.refl _)
 intro w45 k45
 have z45 : w41.heap.size ≤ w45.heap.size := k45.size
 have b45 := old_kp0 b41 k45
 have y45 : w.heap.size ≤ w45.heap.size := b45.size
 refine WO.v (R.assign rfl) rfl ?_
 refine WO.nil ?_
 refine WX.sel [0, 1, 2, 4, 5, 6, 7, 11, 13] rfl ?_
 refine WX.next ?_
 refine WC.seq ?_
 refine WC.region ?_
 refine WO.v (fa34_5 rfl) rfl ?_
 have B46 := ((n14.blk).kp0 k41).kp0 k45
 refine WO.v (R.loadB rfl B46 rfl Try.underlying31 rfl) rfl ?_
 refine WO.c (E.call rfl rfl Try.func40 rfl rfl) (risingOpen_s (most := (8 : Int)) (l := s.opens) (a_l := a8) (c_l := c9) ((sl_old s10 b45).mono (lo' := 0) (hi' := w45.heap.size) (Nat.zero_le _) (by omega)) (show I64 (8) from ⟨by omega, by omega⟩) (by omega)) rfl ?_
 rintro _ w47 ⟨rfl, k47⟩
 have z47 : w45.heap.size ≤ w47.heap.size := k47.size
 have b47 := old_kp0 b45 k47
 have y47 : w.heap.size ≤ w47.heap.size := b47.size
 refine WO.v (R.move rfl) rfl ?_
 refine WO.cutP 4 [(48, (.bool ((risingF Opn.set ((8 : Int)) 0 (s.opens)) && ((s.opens).all openOk))))] (fun w' => Kp [] w47 w') ?_ ?_
 rcases Bool.eq_false_or_eq_true (risingF Opn.set ((8 : Int)) 0 (s.opens)) with hb48 | hb48
 have phb48 : (risingF Opn.set ((8 : Int)) 0 (s.opens)) = true := hb48
 refine WO.on rfl rfl hb48 ?_
 refine WO.v (fa34_5 rfl) rfl ?_
 refine WO.on rfl rfl hb48 ?_
 have B49 := (B46).kp0 k47
 refine WO.v (R.loadB rfl B49 rfl Try.underlying31 rfl) rfl ?_
 refine WO.on rfl rfl hb48 ?_
 refine WO.c (E.call rfl rfl Try.func42 rfl rfl) (allOpen_s (l := s.opens) (a_l := a8) (c_l := c9) ((sl_old s10 b47).mono (lo' := 0) (hi' := w47.heap.size) (Nat.zero_le _) (by omega))) rfl ?_
 rintro _ w50 ⟨rfl, k50⟩
 have z50 : w47.heap.size ≤ w50.heap.size := k50.size
 have b50 := old_kp0 b47 k50
 have y50 : w.heap.size ≤ w50.heap.size := b50.size
 refine WO.v (R.pickT rfl hb48 rfl) rfl ?_
 refine WO.nil ?_
 exact WX.cutDoneP 4 rfl rfl ⟨⟨_, rfl, vb (band_on hb48)⟩, trivial⟩ ((Kp.refl _).step k50 (by simp))
 have phb48 : (risingF Opn.set ((8 : Int)) 0 (s.opens)) = false := hb48
 refine WO.off rfl rfl hb48 rfl ?_
 refine WO.off rfl rfl hb48 rfl ?_
 refine WO.off rfl rfl hb48 rfl ?_
 refine WO.v (R.pickF rfl hb48 rfl) rfl ?_
 refine WO.nil ?_
 exact WX.cutDoneP 4 rfl rfl ⟨⟨_, rfl, vb (band_off hb48)⟩, trivial⟩ (Kp.refl _)
 intro w51 k51
 have z51 : w47.heap.size ≤ w51.heap.size := k51.size
 have b51 := old_kp0 b47 k51
 have y51 : w.heap.size ≤ w51.heap.size := b51.size
 refine WO.v (R.assign rfl) rfl ?_
 refine WO.nil ?_
 refine WX.sel [0, 1, 2, 4, 5, 6, 7, 8, 11, 13] rfl ?_
 refine WX.next ?_
 refine WC.seq ?_
 refine WC.seq ?_
 refine WC.region ?_
 refine WO.v (R.move rfl) rfl ?_
 refine WO.v (R.not rfl) rfl ?_
 refine WO.v (R.move rfl) rfl ?_
 refine WO.cutP 3 [(54, (.bool ((!(((((decide (((1 : Int)) ≤ (s.version))) && (decide ((s.version) ≤ ((3 : Int))))) && ((decide (((1 : Int)) ≤ (s.next))) && (decide ((s.next) ≤ ((1048576 : Int)))))) && ((decide (((0 : Int)) ≤ (s.keep))) && (decide ((s.keep) ≤ ((8 : Int)))))) && ((decide (((0 : Int)) ≤ (s.quota))) && (decide ((s.quota) ≤ ((64 : Int))))))) || (!((risingF Sess.client ((8 : Int)) 0 (s.sess)) && ((s.sess).all sessOk))))))] (fun w' => w51 = w') ?_ ?_
 rcases Bool.eq_false_or_eq_true (!(((((decide (((1 : Int)) ≤ (s.version))) && (decide ((s.version) ≤ ((3 : Int))))) && ((decide (((1 : Int)) ≤ (s.next))) && (decide ((s.next) ≤ ((1048576 : Int)))))) && ((decide (((0 : Int)) ≤ (s.keep))) && (decide ((s.keep) ≤ ((8 : Int)))))) && ((decide (((0 : Int)) ≤ (s.quota))) && (decide ((s.quota) ≤ ((64 : Int))))))) with hb52 | hb52
 have phb52 : ((((¬ (((1 : Int)) ≤ (s.version))) ∨ (¬ ((s.version) ≤ ((3 : Int))))) ∨ ((¬ (((1 : Int)) ≤ (s.next))) ∨ (¬ ((s.next) ≤ ((1048576 : Int)))))) ∨ ((¬ (((0 : Int)) ≤ (s.keep))) ∨ (¬ ((s.keep) ≤ ((8 : Int)))))) ∨ ((¬ (((0 : Int)) ≤ (s.quota))) ∨ (¬ ((s.quota) ≤ ((64 : Int))))) := Or.imp (fun h => Or.imp (fun h => Or.imp (fun h => Or.imp (fun h => of_decide_eq_false h) (fun h => of_decide_eq_false h) (band_f h)) (fun h => Or.imp (fun h => of_decide_eq_false h) (fun h => of_decide_eq_false h) (band_f h)) (band_f h)) (fun h => Or.imp (fun h => of_decide_eq_false h) (fun h => of_decide_eq_false h) (band_f h)) (band_f h)) (fun h => Or.imp (fun h => of_decide_eq_false h) (fun h => of_decide_eq_false h) (band_f h)) (band_f (bnot_t hb52))
 refine WO.off rfl rfl hb52 rfl ?_
 refine WO.off rfl rfl hb52 rfl ?_
 refine WO.v (R.pickT rfl hb52 rfl) rfl ?_
 refine WO.nil ?_
 exact WX.cutDoneP 3 rfl rfl ⟨⟨_, rfl, vb (bor_on hb52)⟩, trivial⟩ (rfl)
 have phb52 : ((((((1 : Int)) ≤ (s.version)) ∧ ((s.version) ≤ ((3 : Int)))) ∧ ((((1 : Int)) ≤ (s.next)) ∧ ((s.next) ≤ ((1048576 : Int))))) ∧ ((((0 : Int)) ≤ (s.keep)) ∧ ((s.keep) ≤ ((8 : Int))))) ∧ ((((0 : Int)) ≤ (s.quota)) ∧ ((s.quota) ≤ ((64 : Int)))) := ⟨⟨⟨⟨of_decide_eq_true (band_t (band_t (band_t (band_t (bnot_f hb52)).1).1).1).1, of_decide_eq_true (band_t (band_t (band_t (band_t (bnot_f hb52)).1).1).1).2⟩, ⟨of_decide_eq_true (band_t (band_t (band_t (band_t (bnot_f hb52)).1).1).2).1, of_decide_eq_true (band_t (band_t (band_t (band_t (bnot_f hb52)).1).1).2).2⟩⟩, ⟨of_decide_eq_true (band_t (band_t (band_t (bnot_f hb52)).1).2).1, of_decide_eq_true (band_t (band_t (band_t (bnot_f hb52)).1).2).2⟩⟩, ⟨of_decide_eq_true (band_t (band_t (bnot_f hb52)).2).1, of_decide_eq_true (band_t (band_t (bnot_f hb52)).2).2⟩⟩
 refine WO.on rfl rfl hb52 ?_
 refine WO.v (R.move rfl) rfl ?_
 refine WO.on rfl rfl hb52 ?_
 refine WO.v (R.not rfl) rfl ?_
 refine WO.v (R.pickF rfl hb52 rfl) rfl ?_
 refine WO.nil ?_
 exact WX.cutDoneP 3 rfl rfl ⟨⟨_, rfl, vb (bor_off hb52)⟩, trivial⟩ (rfl)
 rintro _ rfl
 refine WO.v (R.move rfl) rfl ?_
 refine WO.cutP 3 [(58, (.bool (((!(((((decide (((1 : Int)) ≤ (s.version))) && (decide ((s.version) ≤ ((3 : Int))))) && ((decide (((1 : Int)) ≤ (s.next))) && (decide ((s.next) ≤ ((1048576 : Int)))))) && ((decide (((0 : Int)) ≤ (s.keep))) && (decide ((s.keep) ≤ ((8 : Int)))))) && ((decide (((0 : Int)) ≤ (s.quota))) && (decide ((s.quota) ≤ ((64 : Int))))))) || (!((risingF Sess.client ((8 : Int)) 0 (s.sess)) && ((s.sess).all sessOk)))) || (!((risingF Opn.set ((8 : Int)) 0 (s.opens)) && ((s.opens).all openOk))))))] (fun w' => w51 = w') ?_ ?_
 rcases Bool.eq_false_or_eq_true ((!(((((decide (((1 : Int)) ≤ (s.version))) && (decide ((s.version) ≤ ((3 : Int))))) && ((decide (((1 : Int)) ≤ (s.next))) && (decide ((s.next) ≤ ((1048576 : Int)))))) && ((decide (((0 : Int)) ≤ (s.keep))) && (decide ((s.keep) ≤ ((8 : Int)))))) && ((decide (((0 : Int)) ≤ (s.quota))) && (decide ((s.quota) ≤ ((64 : Int))))))) || (!((risingF Sess.client ((8 : Int)) 0 (s.sess)) && ((s.sess).all sessOk)))) with hb53 | hb53
 have phb53 : (((((¬ (((1 : Int)) ≤ (s.version))) ∨ (¬ ((s.version) ≤ ((3 : Int))))) ∨ ((¬ (((1 : Int)) ≤ (s.next))) ∨ (¬ ((s.next) ≤ ((1048576 : Int)))))) ∨ ((¬ (((0 : Int)) ≤ (s.keep))) ∨ (¬ ((s.keep) ≤ ((8 : Int)))))) ∨ ((¬ (((0 : Int)) ≤ (s.quota))) ∨ (¬ ((s.quota) ≤ ((64 : Int)))))) ∨ (((risingF Sess.client ((8 : Int)) 0 (s.sess)) = false) ∨ (((s.sess).all sessOk) = false)) := Or.imp (fun h => Or.imp (fun h => Or.imp (fun h => Or.imp (fun h => Or.imp (fun h => of_decide_eq_false h) (fun h => of_decide_eq_false h) (band_f h)) (fun h => Or.imp (fun h => of_decide_eq_false h) (fun h => of_decide_eq_false h) (band_f h)) (band_f h)) (fun h => Or.imp (fun h => of_decide_eq_false h) (fun h => of_decide_eq_false h) (band_f h)) (band_f h)) (fun h => Or.imp (fun h => of_decide_eq_false h) (fun h => of_decide_eq_false h) (band_f h)) (band_f (bnot_t h))) (fun h => Or.imp (fun h => h) (fun h => h) (band_f (bnot_t h))) (bor_t hb53)
 refine WO.off rfl rfl hb53 rfl ?_
 refine WO.off rfl rfl hb53 rfl ?_
 refine WO.v (R.pickT rfl hb53 rfl) rfl ?_
 refine WO.nil ?_
 exact WX.cutDoneP 3 rfl rfl ⟨⟨_, rfl, vb (bor_on hb53)⟩, trivial⟩ (rfl)
 have phb53 : (((((((1 : Int)) ≤ (s.version)) ∧ ((s.version) ≤ ((3 : Int)))) ∧ ((((1 : Int)) ≤ (s.next)) ∧ ((s.next) ≤ ((1048576 : Int))))) ∧ ((((0 : Int)) ≤ (s.keep)) ∧ ((s.keep) ≤ ((8 : Int))))) ∧ ((((0 : Int)) ≤ (s.quota)) ∧ ((s.quota) ≤ ((64 : Int))))) ∧ (((risingF Sess.client ((8 : Int)) 0 (s.sess)) = true) ∧ (((s.sess).all sessOk) = true)) := ⟨⟨⟨⟨⟨of_decide_eq_true (band_t (band_t (band_t (band_t (bnot_f (bor_f hb53).1)).1).1).1).1, of_decide_eq_true (band_t (band_t (band_t (band_t (bnot_f (bor_f hb53).1)).1).1).1).2⟩, ⟨of_decide_eq_true (band_t (band_t (band_t (band_t (bnot_f (bor_f hb53).1)).1).1).2).1, of_decide_eq_true (band_t (band_t (band_t (band_t (bnot_f (bor_f hb53).1)).1).1).2).2⟩⟩, ⟨of_decide_eq_true (band_t (band_t (band_t (bnot_f (bor_f hb53).1)).1).2).1, of_decide_eq_true (band_t (band_t (band_t (bnot_f (bor_f hb53).1)).1).2).2⟩⟩, ⟨of_decide_eq_true (band_t (band_t (bnot_f (bor_f hb53).1)).2).1, of_decide_eq_true (band_t (band_t (bnot_f (bor_f hb53).1)).2).2⟩⟩, ⟨(band_t (bnot_f (bor_f hb53).2)).1, (band_t (bnot_f (bor_f hb53).2)).2⟩⟩
 refine WO.on rfl rfl hb53 ?_
 refine WO.v (R.move rfl) rfl ?_
 refine WO.on rfl rfl hb53 ?_
 refine WO.v (R.not rfl) rfl ?_
 refine WO.v (R.pickF rfl hb53 rfl) rfl ?_
 refine WO.nil ?_
 exact WX.cutDoneP 3 rfl rfl ⟨⟨_, rfl, vb (bor_off hb53)⟩, trivial⟩ (rfl)
 rintro _ rfl
 refine WO.v (R.move rfl) rfl ?_
 refine WO.cutP 5 [(64, (.bool ((((!(((((decide (((1 : Int)) ≤ (s.version))) && (decide ((s.version) ≤ ((3 : Int))))) && ((decide (((1 : Int)) ≤ (s.next))) && (decide ((s.next) ≤ ((1048576 : Int)))))) && ((decide (((0 : Int)) ≤ (s.keep))) && (decide ((s.keep) ≤ ((8 : Int)))))) && ((decide (((0 : Int)) ≤ (s.quota))) && (decide ((s.quota) ≤ ((64 : Int))))))) || (!((risingF Sess.client ((8 : Int)) 0 (s.sess)) && ((s.sess).all sessOk)))) || (!((risingF Opn.set ((8 : Int)) 0 (s.opens)) && ((s.opens).all openOk)))) || (!(snapsF (s) (v))))))] (fun w' => Kp [] w51 w') ?_ ?_
 rcases Bool.eq_false_or_eq_true (((!(((((decide (((1 : Int)) ≤ (s.version))) && (decide ((s.version) ≤ ((3 : Int))))) && ((decide (((1 : Int)) ≤ (s.next))) && (decide ((s.next) ≤ ((1048576 : Int)))))) && ((decide (((0 : Int)) ≤ (s.keep))) && (decide ((s.keep) ≤ ((8 : Int)))))) && ((decide (((0 : Int)) ≤ (s.quota))) && (decide ((s.quota) ≤ ((64 : Int))))))) || (!((risingF Sess.client ((8 : Int)) 0 (s.sess)) && ((s.sess).all sessOk)))) || (!((risingF Opn.set ((8 : Int)) 0 (s.opens)) && ((s.opens).all openOk)))) with hb54 | hb54
 have phb54 : ((((((¬ (((1 : Int)) ≤ (s.version))) ∨ (¬ ((s.version) ≤ ((3 : Int))))) ∨ ((¬ (((1 : Int)) ≤ (s.next))) ∨ (¬ ((s.next) ≤ ((1048576 : Int)))))) ∨ ((¬ (((0 : Int)) ≤ (s.keep))) ∨ (¬ ((s.keep) ≤ ((8 : Int)))))) ∨ ((¬ (((0 : Int)) ≤ (s.quota))) ∨ (¬ ((s.quota) ≤ ((64 : Int)))))) ∨ (((risingF Sess.client ((8 : Int)) 0 (s.sess)) = false) ∨ (((s.sess).all sessOk) = false))) ∨ (((risingF Opn.set ((8 : Int)) 0 (s.opens)) = false) ∨ (((s.opens).all openOk) = false)) := Or.imp (fun h => Or.imp (fun h => Or.imp (fun h => Or.imp (fun h => Or.imp (fun h => Or.imp (fun h => of_decide_eq_false h) (fun h => of_decide_eq_false h) (band_f h)) (fun h => Or.imp (fun h => of_decide_eq_false h) (fun h => of_decide_eq_false h) (band_f h)) (band_f h)) (fun h => Or.imp (fun h => of_decide_eq_false h) (fun h => of_decide_eq_false h) (band_f h)) (band_f h)) (fun h => Or.imp (fun h => of_decide_eq_false h) (fun h => of_decide_eq_false h) (band_f h)) (band_f (bnot_t h))) (fun h => Or.imp (fun h => h) (fun h => h) (band_f (bnot_t h))) (bor_t h)) (fun h => Or.imp (fun h => h) (fun h => h) (band_f (bnot_t h))) (bor_t hb54)
 refine WO.off rfl rfl hb54 rfl ?_
 refine WO.off rfl rfl hb54 rfl ?_
 refine WO.off rfl rfl hb54 rfl ?_
 refine WO.off rfl rfl hb54 rfl ?_
 refine WO.v (R.pickT rfl hb54 rfl) rfl ?_
 refine WO.nil ?_
 exact WX.cutDoneP 5 rfl rfl ⟨⟨_, rfl, vb (bor_on hb54)⟩, trivial⟩ (Kp.refl _)
 have phb54 : ((((((((1 : Int)) ≤ (s.version)) ∧ ((s.version) ≤ ((3 : Int)))) ∧ ((((1 : Int)) ≤ (s.next)) ∧ ((s.next) ≤ ((1048576 : Int))))) ∧ ((((0 : Int)) ≤ (s.keep)) ∧ ((s.keep) ≤ ((8 : Int))))) ∧ ((((0 : Int)) ≤ (s.quota)) ∧ ((s.quota) ≤ ((64 : Int))))) ∧ (((risingF Sess.client ((8 : Int)) 0 (s.sess)) = true) ∧ (((s.sess).all sessOk) = true))) ∧ (((risingF Opn.set ((8 : Int)) 0 (s.opens)) = true) ∧ (((s.opens).all openOk) = true)) := ⟨⟨⟨⟨⟨⟨of_decide_eq_true (band_t (band_t (band_t (band_t (bnot_f (bor_f (bor_f hb54).1).1)).1).1).1).1, of_decide_eq_true (band_t (band_t (band_t (band_t (bnot_f (bor_f (bor_f hb54).1).1)).1).1).1).2⟩, ⟨of_decide_eq_true (band_t (band_t (band_t (band_t (bnot_f (bor_f (bor_f hb54).1).1)).1).1).2).1, of_decide_eq_true (band_t (band_t (band_t (band_t (bnot_f (bor_f (bor_f hb54).1).1)).1).1).2).2⟩⟩, ⟨of_decide_eq_true (band_t (band_t (band_t (bnot_f (bor_f (bor_f hb54).1).1)).1).2).1, of_decide_eq_true (band_t (band_t (band_t (bnot_f (bor_f (bor_f hb54).1).1)).1).2).2⟩⟩, ⟨of_decide_eq_true (band_t (band_t (bnot_f (bor_f (bor_f hb54).1).1)).2).1, of_decide_eq_true (band_t (band_t (bnot_f (bor_f (bor_f hb54).1).1)).2).2⟩⟩, ⟨(band_t (bnot_f (bor_f (bor_f hb54).1).2)).1, (band_t (bnot_f (bor_f (bor_f hb54).1).2)).2⟩⟩, ⟨(band_t (bnot_f (bor_f hb54).2)).1, (band_t (bnot_f (bor_f hb54).2)).2⟩⟩
 refine WO.on rfl rfl hb54 ?_
 have B55 := ((B46).kp0 k47).kp0 k51
 refine WO.v (R.loadBN (vs := [_, _, _, _, _, _, _]) rfl B55 rfl Try.underlying34 rfl sz34) rfl ?_
 refine WO.on rfl rfl hb54 ?_
 refine WO.v (R.move rfl) rfl ?_
 refine WO.on rfl rfl hb54 ?_
 refine WO.c (E.call rfl rfl Try.func44 rfl rfl) (snaps_s (v := v) (s := s) (State.mk_ (i1) (i2) (i3) (i4) ((sl_old s7 b51).mono (lo' := 0) (hi' := w51.heap.size) (Nat.zero_le _) (by omega)) ((sl_old s10 b51).mono (lo' := 0) (hi' := w51.heap.size) (Nat.zero_le _) (by omega)) ((sl_old s13 b51).mono (lo' := 0) (hi' := w51.heap.size) (Nat.zero_le _) (by omega))) (by omega)) rfl ?_
 rintro _ w56 ⟨rfl, k56⟩
 have z56 : w51.heap.size ≤ w56.heap.size := k56.size
 have b56 := old_kp0 b51 k56
 have y56 : w.heap.size ≤ w56.heap.size := b56.size
 refine WO.on rfl rfl hb54 ?_
 refine WO.v (R.not rfl) rfl ?_
 refine WO.v (R.pickF rfl hb54 rfl) rfl ?_
 refine WO.nil ?_
 exact WX.cutDoneP 5 rfl rfl ⟨⟨_, rfl, vb (bor_off hb54)⟩, trivial⟩ ((Kp.refl _).step k56 (by simp))
 intro w57 k57
 have z57 : w51.heap.size ≤ w57.heap.size := k57.size
 have b57 := old_kp0 b51 k57
 have y57 : w.heap.size ≤ w57.heap.size := b57.size
 refine WO.nil ?_
 refine WX.sel [0, 1, 2, 4, 5, 6, 7, 8, 11, 13, 64] rfl ?_
 refine WX.next ?_
 refine WC.cond rfl (fun q58 => ?_) (fun q58 => ?_)
 have p58 : (((((((¬ (((1 : Int)) ≤ (s.version))) ∨ (¬ ((s.version) ≤ ((3 : Int))))) ∨ ((¬ (((1 : Int)) ≤ (s.next))) ∨ (¬ ((s.next) ≤ ((1048576 : Int)))))) ∨ ((¬ (((0 : Int)) ≤ (s.keep))) ∨ (¬ ((s.keep) ≤ ((8 : Int)))))) ∨ ((¬ (((0 : Int)) ≤ (s.quota))) ∨ (¬ ((s.quota) ≤ ((64 : Int)))))) ∨ (((risingF Sess.client ((8 : Int)) 0 (s.sess)) = false) ∨ (((s.sess).all sessOk) = false))) ∨ (((risingF Opn.set ((8 : Int)) 0 (s.opens)) = false) ∨ (((s.opens).all openOk) = false))) ∨ ((snapsF (s) (v)) = false) := Or.imp (fun h => Or.imp (fun h => Or.imp (fun h => Or.imp (fun h => Or.imp (fun h => Or.imp (fun h => Or.imp (fun h => of_decide_eq_false h) (fun h => of_decide_eq_false h) (band_f h)) (fun h => Or.imp (fun h => of_decide_eq_false h) (fun h => of_decide_eq_false h) (band_f h)) (band_f h)) (fun h => Or.imp (fun h => of_decide_eq_false h) (fun h => of_decide_eq_false h) (band_f h)) (band_f h)) (fun h => Or.imp (fun h => of_decide_eq_false h) (fun h => of_decide_eq_false h) (band_f h)) (band_f (bnot_t h))) (fun h => Or.imp (fun h => h) (fun h => h) (band_f (bnot_t h))) (bor_t h)) (fun h => Or.imp (fun h => h) (fun h => h) (band_f (bnot_t h))) (bor_t h)) (fun h => (bnot_t h)) (bor_t q58)
 refine WC.seq ?_
 refine WC.region ?_
 refine WO.v (R.assign rfl) rfl ?_
 refine WO.nil ?_
 refine WX.sel [0, 1, 2, 4, 5, 6, 7, 8, 11, 13, 64] rfl ?_
 refine WX.next ?_
 refine WC.ret ?_
 refine WX.thenRet ?_
 have e0 : (6 : Int) = (mayF s v) := by first | exact may1 q58 | exact may6 q15 (by first | rw [if_pos (by omega)] | rw [if_neg (by omega)]) q58 | exact may0 q15 (by first | rw [if_pos (by omega)] | rw [if_neg (by omega)]) q58
 refine WX.ret1 Try.results26 rfl ?_
 exact ⟨by rw [e0], Kp.of_below b57⟩
 have p58 : (((((((((1 : Int)) ≤ (s.version)) ∧ ((s.version) ≤ ((3 : Int)))) ∧ ((((1 : Int)) ≤ (s.next)) ∧ ((s.next) ≤ ((1048576 : Int))))) ∧ ((((0 : Int)) ≤ (s.keep)) ∧ ((s.keep) ≤ ((8 : Int))))) ∧ ((((0 : Int)) ≤ (s.quota)) ∧ ((s.quota) ≤ ((64 : Int))))) ∧ (((risingF Sess.client ((8 : Int)) 0 (s.sess)) = true) ∧ (((s.sess).all sessOk) = true))) ∧ (((risingF Opn.set ((8 : Int)) 0 (s.opens)) = true) ∧ (((s.opens).all openOk) = true))) ∧ ((snapsF (s) (v)) = true) := ⟨⟨⟨⟨⟨⟨⟨of_decide_eq_true (band_t (band_t (band_t (band_t (bnot_f (bor_f (bor_f (bor_f q58).1).1).1)).1).1).1).1, of_decide_eq_true (band_t (band_t (band_t (band_t (bnot_f (bor_f (bor_f (bor_f q58).1).1).1)).1).1).1).2⟩, ⟨of_decide_eq_true (band_t (band_t (band_t (band_t (bnot_f (bor_f (bor_f (bor_f q58).1).1).1)).1).1).2).1, of_decide_eq_true (band_t (band_t (band_t (band_t (bnot_f (bor_f (bor_f (bor_f q58).1).1).1)).1).1).2).2⟩⟩, ⟨of_decide_eq_true (band_t (band_t (band_t (bnot_f (bor_f (bor_f (bor_f q58).1).1).1)).1).2).1, of_decide_eq_true (band_t (band_t (band_t (bnot_f (bor_f (bor_f (bor_f q58).1).1).1)).1).2).2⟩⟩, ⟨of_decide_eq_true (band_t (band_t (bnot_f (bor_f (bor_f (bor_f q58).1).1).1)).2).1, of_decide_eq_true (band_t (band_t (bnot_f (bor_f (bor_f (bor_f q58).1).1).1)).2).2⟩⟩, ⟨(band_t (bnot_f (bor_f (bor_f (bor_f q58).1).1).2)).1, (band_t (bnot_f (bor_f (bor_f (bor_f q58).1).1).2)).2⟩⟩, ⟨(band_t (bnot_f (bor_f (bor_f q58).1).2)).1, (band_t (bnot_f (bor_f (bor_f q58).1).2)).2⟩⟩, (bnot_f (bor_f q58).2)⟩
 refine WC.skip ?_
 refine WX.next ?_
 refine WC.seq ?_
 refine WC.region ?_
 refine WO.v (R.assign rfl) rfl ?_
 refine WO.nil ?_
 refine WX.sel [0, 1, 2, 4, 5, 6, 7, 8, 11, 13, 64] rfl ?_
 refine WX.next ?_
 refine WC.ret ?_
 have e0 : (0 : Int) = (mayF s v) := by first | exact may1 q58 | exact may6 q15 (by first | rw [if_pos (by omega)] | rw [if_neg (by omega)]) q58 | exact may0 q15 (by first | rw [if_pos (by omega)] | rw [if_neg (by omega)]) q58
 refine WX.ret1 Try.results26 rfl ?_
 exact ⟨by rw [e0], Kp.of_below b57⟩


end Go.Proofs.Ytaenkjlhdlddgaa
