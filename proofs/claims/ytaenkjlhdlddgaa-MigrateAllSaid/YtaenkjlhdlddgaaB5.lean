/- Contracts of functions, walked operation by operation. -/
import Derived.Test.YtaenkjlhdlddgaaB4
namespace Go.Proofs.Ytaenkjlhdlddgaa
open Go.RowKit

def upBad (s : State) (v : Int) : Bool := !(inB v 1 3) || !(decide (mayF s s.version = 0))
def upE (s : State) (v : Int) : Int := if upBad s v = true then 1 else if v < s.version then 32 else 0
def upS (s : State) (v : Int) : State := if upBad s v = true then ⟨0, 0, 0, 0, [], [], []⟩ else if v < s.version then ⟨0, 0, 0, 0, [], [], []⟩ else { s with version := v }
theorem upE1 {s : State} {v : Int} (h : upBad s v = true) : 1 = upE s v := by rw [upE, if_pos h]
theorem upS1 {s : State} {v : Int} (h : upBad s v = true) : (⟨0, 0, 0, 0, [], [], []⟩ : State) = upS s v := by rw [upS, if_pos h]
theorem upE2 {s : State} {v : Int} (h : upBad s v = false) (h2 : v < s.version) : 32 = upE s v := by rw [upE, h, if_neg (by decide), if_pos h2]
theorem upS2 {s : State} {v : Int} (h : upBad s v = false) (h2 : v < s.version) : (⟨0, 0, 0, 0, [], [], []⟩ : State) = upS s v := by rw [upS, h, if_neg (by decide), if_pos h2]
theorem upE3 {s : State} {v : Int} (h : upBad s v = false) (h2 : ¬ v < s.version) : 0 = upE s v := by rw [upE, h, if_neg (by decide), if_neg h2]
theorem upS3 {s : State} {v : Int} (h : upBad s v = false) (h2 : ¬ v < s.version) : ({ s with version := v } : State) = upS s v := by rw [upS, h, if_neg (by decide), if_neg h2]



set_option maxRecDepth 100000 in
set_option maxHeartbeats 400000 in
theorem up_s {w : World} {cs_s : List Value} {s : State} (v : Int) (h_s : Rp.rp false 0 w.heap.size w cs_s s) (i_v : I64 v) :
    Ret Try.prog 12 [.agg cs_s.toArray, .int .i64 v].toArray w fun r w' => ∃ (rs0 : List Value), r = .tuple #[.agg rs0.toArray, .int .i64 (upE s v)] ∧ Rp.rp true w.heap.size w'.heap.size w' rs0 (upS s v) ∧ Kp [] w w' := by
 obtain ⟨a5, c6, a8, c9, a11, c12, rfl, i1, i2, i3, i4, s7, s10, s13⟩ := State.el h_s
 have ls7 : (s.sess).length * 32 ≤ 140737488355328 := s7.lenle
 have ls10 : (s.opens).length * 16 ≤ 140737488355328 := s10.lenle
 have ls13 : (s.snaps).length * 64 ≤ 140737488355328 := s13.lenle
 refine Ret.enter Try.func12 rfl Try.ntmps12 rfl rfl ?_
 refine WC.sel [0, 1] rfl ?_
 refine WC.seq ?_
 refine WC.region ?_
 refine WO.box rfl rfl rfl ?_
 intro w14 n14
 have z14 : w.heap.size < w14.heap.size := n14.lt
 have b14 := old_kp0 (Below.refl w.heap.size w) n14.kp
 have y14 : w.heap.size ≤ w14.heap.size := b14.size
 refine WO.alloc zr34 rfl ?_
 intro w15 n15
 have z15 : w14.heap.size < w15.heap.size := n15.lt
 have b15 := old_kp0 b14 n15.kp
 have y15 : w.heap.size ≤ w15.heap.size := b15.size
 refine WO.v (R.assign rfl) rfl ?_
 refine WO.nil ?_
 refine WX.sel [0, 1, 2, 4, 5] rfl ?_
 refine WX.next ?_
 refine WC.seq ?_
 refine WC.block ?_
 refine WC.seq ?_
 refine WC.region ?_
 refine WO.v (R.move rfl) rfl ?_
 refine WO.c (E.call rfl rfl Try.func23 rfl rfl) (there_s (n := v) ) rfl ?_
 rintro _ _ ⟨rfl, rfl⟩
 refine WO.v (R.not rfl) rfl ?_
 refine WO.v (R.move rfl) rfl ?_
 refine WO.cutP 6 [(16, (.bool ((!((decide (1 ≤ (v))) && (decide ((v) ≤ 3)))) || (!(decide (mayF (s) (s.version) = (0 : Int)))))))] (fun w' => Kp [] w15 w') ?_ ?_
 rcases Bool.eq_false_or_eq_true (!((decide (1 ≤ (v))) && (decide ((v) ≤ 3)))) with hb16 | hb16
 have phb16 : (¬ (1 ≤ (v))) ∨ (¬ ((v) ≤ 3)) := Or.imp (fun h => of_decide_eq_false h) (fun h => of_decide_eq_false h) (band_f (bnot_t hb16))
 refine WO.off rfl rfl hb16 rfl ?_
 refine WO.off rfl rfl hb16 rfl ?_
 refine WO.off rfl rfl hb16 rfl ?_
 refine WO.off rfl rfl hb16 rfl ?_
 refine WO.off rfl rfl hb16 rfl ?_
 refine WO.v (R.pickT rfl hb16 rfl) rfl ?_
 refine WO.nil ?_
 exact WX.cutDoneP 6 rfl rfl ⟨⟨_, rfl, vb (bor_on hb16)⟩, trivial⟩ (Kp.refl _)
 have phb16 : (1 ≤ (v)) ∧ ((v) ≤ 3) := ⟨of_decide_eq_true (band_t (bnot_f hb16)).1, of_decide_eq_true (band_t (bnot_f hb16)).2⟩
 refine WO.on rfl rfl hb16 ?_
 have B17 := (n14.blk).kp0 n15.kp
 refine WO.v (R.loadBN (vs := [_, _, _, _, _, _, _]) rfl B17 rfl Try.underlying34 rfl sz34) rfl ?_
 refine WO.on rfl rfl hb16 ?_
 refine WO.v (fa34_0 rfl) rfl ?_
 refine WO.on rfl rfl hb16 ?_
 refine WO.v (R.loadB rfl B17 rfl Try.underlying3 rfl) rfl ?_
 refine WO.on rfl rfl hb16 ?_
 refine WO.c (E.call rfl rfl Try.func26 rfl rfl) (may_s (v := s.version) (s := s) (State.mk_ (i1) (i2) (i3) (i4) ((sl_old s7 b15).mono (lo' := 0) (hi' := w15.heap.size) (Nat.zero_le _) (by omega)) ((sl_old s10 b15).mono (lo' := 0) (hi' := w15.heap.size) (Nat.zero_le _) (by omega)) ((sl_old s13 b15).mono (lo' := 0) (hi' := w15.heap.size) (Nat.zero_le _) (by omega)))) rfl ?_
 rintro _ w18 ⟨rfl, k18⟩
 have z18 : w15.heap.size ≤ w18.heap.size := k18.size
 have b18 := old_kp0 b15 k18
 have y18 : w.heap.size ≤ w18.heap.size := b18.size
 refine WO.on rfl rfl hb16 ?_
 refine WO.v (R.neq rfl rfl) rfl ?_
 refine WO.v (R.pickF rfl hb16 rfl) rfl ?_
 refine WO.nil ?_
 exact WX.cutDoneP 6 rfl rfl ⟨⟨_, rfl, vb (bor_off hb16)⟩, trivial⟩ ((Kp.refl _).step k18 (by simp))
 intro w19 k19
 have z19 : w15.heap.size ≤ w19.heap.size := k19.size
 have b19 := old_kp0 b15 k19
 have y19 : w.heap.size ≤ w19.heap.size := b19.size
 refine WO.v (R.assign rfl) rfl ?_
 refine WO.nil ?_
 refine WX.sel [0, 1, 2, 4, 5, 6] rfl ?_
 refine WX.next ?_
 refine WC.cond rfl (fun q20 => ?_) (fun q20 => ?_)
 have p20 : ((¬ (1 ≤ (v))) ∨ (¬ ((v) ≤ 3))) ∨ (¬ (mayF (s) (s.version) = (0 : Int))) := Or.imp (fun h => Or.imp (fun h => of_decide_eq_false h) (fun h => of_decide_eq_false h) (band_f (bnot_t h))) (fun h => of_decide_eq_false (bnot_t h)) (bor_t q20)
 refine WC.seq ?_
 refine WC.region ?_
 refine WO.v (R.buildL (parts := []) (cells := #[(.int .i64 (0 : Int)), (.int .i64 (0 : Int)), (.int .i64 (0 : Int)), (.int .i64 (0 : Int)), (.slice none 0 0), (.slice none 0 0), (.slice none 0 0)]) rfl (by kernel_rfl)) rfl ?_
 have B21 := (n15.blk).kp0 k19
 refine WO.storeBN rfl rfl B21 rfl (by simp [Value.oneCell']) sz34 ?_
 intro w22 k22 B22 z_22
 have z22 : w19.heap.size = w22.heap.size := z_22.symm
 have b22 := old_kp b19 k22 (mem1 (by omega))
 have y22 : w.heap.size ≤ w22.heap.size := b22.size
 refine WO.v (R.assign rfl) rfl ?_
 refine WO.nil ?_
 refine WX.sel [0, 1, 2, 4, 5, 6] rfl ?_
 refine WX.next ?_
 refine WC.ret ?_
 refine WX.blkRet ?_
 refine WX.thenRet ?_
 have e0 : (⟨(0 : Int), (0 : Int), (0 : Int), (0 : Int), [], [], []⟩ : State) = (upS s v) := by first | exact upS1 q20 | exact upS2 q20 (by omega) | exact upS3 q20 (by omega)
 have f0 : Rp.rp true w.heap.size w22.heap.size w22 [(.int .i64 (0 : Int)), (.int .i64 (0 : Int)), (.int .i64 (0 : Int)), (.int .i64 (0 : Int)), (.slice none 0 0), (.slice none 0 0), (.slice none 0 0)] (⟨(0 : Int), (0 : Int), (0 : Int), (0 : Int), [], [], []⟩ : State) := (State.mk_ (show I64 0 from ⟨by omega, by omega⟩) (show I64 0 from ⟨by omega, by omega⟩) (show I64 0 from ⟨by omega, by omega⟩) (show I64 0 from ⟨by omega, by omega⟩) (x4 := []) (Sl.nil _ _ _ _) (x5 := []) (Sl.nil _ _ _ _) (x6 := []) (Sl.nil _ _ _ _))
 have e1 : (1 : Int) = (upE s v) := by first | exact upE1 q20 | exact upE2 q20 (by omega) | exact upE3 q20 (by omega)
 refine WX.retCT Try.results12 rfl rfl B22 Try.underlying34 rfl sz34 ?_
 exact ⟨[(.int .i64 (0 : Int)), (.int .i64 (0 : Int)), (.int .i64 (0 : Int)), (.int .i64 (0 : Int)), (.slice none 0 0), (.slice none 0 0), (.slice none 0 0)], by rw [e1], (Eq.mp (congrArg (Rp.rp _ _ _ _ _) e0) f0), Kp.of_below b22⟩
 have p20 : ((1 ≤ (v)) ∧ ((v) ≤ 3)) ∧ (mayF (s) (s.version) = (0 : Int)) := ⟨⟨of_decide_eq_true (band_t (bnot_f (bor_f q20).1)).1, of_decide_eq_true (band_t (bnot_f (bor_f q20).1)).2⟩, of_decide_eq_true (bnot_f (bor_f q20).2)⟩
 refine WC.seq ?_
 refine WC.region ?_
 refine WO.v (R.move rfl) rfl ?_
 refine WO.v (fa34_0 rfl) rfl ?_
 have B23 := ((n14.blk).kp0 n15.kp).kp0 k19
 refine WO.v (R.loadB rfl B23 rfl Try.underlying3 rfl) rfl ?_
 refine WO.v (R.lss rfl rfl) rfl ?_
 refine WO.v (R.assign rfl) rfl ?_
 refine WO.nil ?_
 refine WX.sel [0, 1, 2, 4, 5, 6, 18] rfl ?_
 refine WX.next ?_
 refine WC.cond rfl (fun q24 => ?_) (fun q24 => ?_)
 have p24 : v < s.version := of_decide_eq_true q24
 refine WC.seq ?_
 refine WC.region ?_
 refine WO.v (R.buildL (parts := []) (cells := #[(.int .i64 (0 : Int)), (.int .i64 (0 : Int)), (.int .i64 (0 : Int)), (.int .i64 (0 : Int)), (.slice none 0 0), (.slice none 0 0), (.slice none 0 0)]) rfl (by kernel_rfl)) rfl ?_
 have B25 := (n15.blk).kp0 k19
 refine WO.storeBN rfl rfl B25 rfl (by simp [Value.oneCell']) sz34 ?_
 intro w26 k26 B26 z_26
 have z26 : w19.heap.size = w26.heap.size := z_26.symm
 have b26 := old_kp b19 k26 (mem1 (by omega))
 have y26 : w.heap.size ≤ w26.heap.size := b26.size
 refine WO.v (R.assign rfl) rfl ?_
 refine WO.nil ?_
 refine WX.sel [0, 1, 2, 4, 5, 6, 18] rfl ?_
 refine WX.next ?_
 refine WC.ret ?_
 refine WX.blkRet ?_
 refine WX.thenRet ?_
 have e0 : (⟨(0 : Int), (0 : Int), (0 : Int), (0 : Int), [], [], []⟩ : State) = (upS s v) := by first | exact upS1 q20 | exact upS2 q20 (by omega) | exact upS3 q20 (by omega)
 have f0 : Rp.rp true w.heap.size w26.heap.size w26 [(.int .i64 (0 : Int)), (.int .i64 (0 : Int)), (.int .i64 (0 : Int)), (.int .i64 (0 : Int)), (.slice none 0 0), (.slice none 0 0), (.slice none 0 0)] (⟨(0 : Int), (0 : Int), (0 : Int), (0 : Int), [], [], []⟩ : State) := (State.mk_ (show I64 0 from ⟨by omega, by omega⟩) (show I64 0 from ⟨by omega, by omega⟩) (show I64 0 from ⟨by omega, by omega⟩) (show I64 0 from ⟨by omega, by omega⟩) (x4 := []) (Sl.nil _ _ _ _) (x5 := []) (Sl.nil _ _ _ _) (x6 := []) (Sl.nil _ _ _ _))
 have e1 : (32 : Int) = (upE s v) := by first | exact upE1 q20 | exact upE2 q20 (by omega) | exact upE3 q20 (by omega)
 refine WX.retCT Try.results12 rfl rfl B26 Try.underlying34 rfl sz34 ?_
 exact ⟨[(.int .i64 (0 : Int)), (.int .i64 (0 : Int)), (.int .i64 (0 : Int)), (.int .i64 (0 : Int)), (.slice none 0 0), (.slice none 0 0), (.slice none 0 0)], by rw [e1], (Eq.mp (congrArg (Rp.rp _ _ _ _ _) e0) f0), Kp.of_below b26⟩
 have p24 : ¬ (v < s.version) := of_decide_eq_false q24
 refine WC.skip ?_
 refine WX.blkNormal ?_
 refine WX.next ?_
 refine WC.seq ?_
 refine WC.region ?_
 refine WO.v (R.loadBN (vs := [_, _, _, _, _, _, _]) rfl B23 rfl Try.underlying34 rfl sz34) rfl ?_
 refine WO.c (E.call rfl rfl Try.func27 rfl rfl) (copy_s (s := s) (State.mk_ (i1) (i2) (i3) (i4) ((sl_old s7 b19).mono (lo' := 0) (hi' := w19.heap.size) (Nat.zero_le _) (by omega)) ((sl_old s10 b19).mono (lo' := 0) (hi' := w19.heap.size) (Nat.zero_le _) (by omega)) ((sl_old s13 b19).mono (lo' := 0) (hi' := w19.heap.size) (Nat.zero_le _) (by omega)))) rfl ?_
 rintro _ w27 ⟨cs28, rfl, r29, k27⟩
 have z27 : w19.heap.size ≤ w27.heap.size := k27.size
 have b27 := old_kp0 b19 k27
 have y27 : w.heap.size ≤ w27.heap.size := b27.size
 obtain ⟨a34, c35, a37, c38, a40, c41, rfl, i30, i31, i32, i33, s36, s39, s42⟩ := State.el r29
 have ls36 : (((s)).sess).length * 32 ≤ 140737488355328 := s36.lenle
 have ls39 : (((s)).opens).length * 16 ≤ 140737488355328 := s39.lenle
 have ls42 : (((s)).snaps).length * 64 ≤ 140737488355328 := s42.lenle
 have B43 := (B23).kp0 k27
 refine WO.storeBN rfl rfl B43 rfl (by simp [Value.oneCell']) sz34 ?_
 intro w44 k44 B44 z_44
 have z44 : w27.heap.size = w44.heap.size := z_44.symm
 have b44 := old_kp b27 k44 (mem1 (by omega))
 have y44 : w.heap.size ≤ w44.heap.size := b44.size
 refine WO.nil ?_
 refine WX.sel [0, 1, 2, 4, 5, 6, 18] rfl ?_
 refine WX.next ?_
 refine WC.seq ?_
 refine WC.region ?_
 refine WO.v (R.move rfl) rfl ?_
 refine WO.v (fa34_0 rfl) rfl ?_
 refine WO.storeB (cs' := [_, _, _, _, _, _, _]) rfl rfl B44 rfl rfl sz3 rfl ?_
 intro w45 k45 B45 z_45
 have z45 : w44.heap.size = w45.heap.size := z_45.symm
 have b45 := old_kp b44 k45 (mem1 (by omega))
 have y45 : w.heap.size ≤ w45.heap.size := b45.size
 refine WO.nil ?_
 refine WX.sel [0, 1, 2, 4, 5, 6, 18] rfl ?_
 refine WX.next ?_
 refine WC.seq ?_
 refine WC.region ?_
 refine WO.v (R.loadBN (vs := [_, _, _, _, _, _, _]) rfl B45 rfl Try.underlying34 rfl sz34) rfl ?_
 have B46 := ((((n15.blk).kp0 k19).kp0 k27).kp1 k44 (by omega)).kp1 k45 (by omega)
 refine WO.storeBN rfl rfl B46 rfl (by simp [Value.oneCell']) sz34 ?_
 intro w47 k47 B47 z_47
 have z47 : w45.heap.size = w47.heap.size := z_47.symm
 have b47 := old_kp b45 k47 (mem1 (by omega))
 have y47 : w.heap.size ≤ w47.heap.size := b47.size
 refine WO.v (R.assign rfl) rfl ?_
 refine WO.nil ?_
 refine WX.sel [0, 1, 2, 4, 5, 6, 18] rfl ?_
 refine WX.next ?_
 refine WC.ret ?_
 have e0 : (⟨v, ((s)).next, ((s)).keep, ((s)).quota, ((s)).sess, ((s)).opens, ((s)).snaps⟩ : State) = (upS s v) := by first | exact upS1 q20 | exact upS2 q20 (by omega) | exact upS3 q20 (by omega)
 have f0 : Rp.rp true w.heap.size w47.heap.size w47 [(.int .i64 v), (.int .i64 ((s)).next), (.int .i64 ((s)).keep), (.int .i64 ((s)).quota), (.slice a34 ((s)).sess.length c35), (.slice a37 ((s)).opens.length c38), (.slice a40 ((s)).snaps.length c41)] (⟨v, ((s)).next, ((s)).keep, ((s)).quota, ((s)).sess, ((s)).opens, ((s)).snaps⟩ : State) := (State.mk_ (i_v) (i31) (i32) (i33) ((sl_kp (sl_kp (sl_kp (s36) k44 (by omega) (mem1 (by omega))) k45 (by omega) (mem1 (by omega))) k47 (by omega) (mem1 (by omega))).mono (lo' := w.heap.size) (hi' := w47.heap.size) (by omega) (by omega)) ((sl_kp (sl_kp (sl_kp (s39) k44 (by omega) (mem1 (by omega))) k45 (by omega) (mem1 (by omega))) k47 (by omega) (mem1 (by omega))).mono (lo' := w.heap.size) (hi' := w47.heap.size) (by omega) (by omega)) ((sl_kp (sl_kp (sl_kp (s42) k44 (by omega) (mem1 (by omega))) k45 (by omega) (mem1 (by omega))) k47 (by omega) (mem1 (by omega))).mono (lo' := w.heap.size) (hi' := w47.heap.size) (by omega) (by omega)))
 have e1 : (0 : Int) = (upE s v) := by first | exact upE1 q20 | exact upE2 q20 (by omega) | exact upE3 q20 (by omega)
 refine WX.retCT Try.results12 rfl rfl B47 Try.underlying34 rfl sz34 ?_
 exact ⟨[(.int .i64 v), (.int .i64 ((s)).next), (.int .i64 ((s)).keep), (.int .i64 ((s)).quota), (.slice a34 ((s)).sess.length c35), (.slice a37 ((s)).opens.length c38), (.slice a40 ((s)).snaps.length c41)], by rw [e1], (Eq.mp (congrArg (Rp.rp _ _ _ _ _) e0) f0), Kp.of_below b47⟩


end Go.Proofs.Ytaenkjlhdlddgaa
