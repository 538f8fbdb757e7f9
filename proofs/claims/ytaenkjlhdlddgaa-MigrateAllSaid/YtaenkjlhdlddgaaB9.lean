/- Contracts of functions, walked operation by operation. -/
import Derived.Test.YtaenkjlhdlddgaaB8
namespace Go.Proofs.Ytaenkjlhdlddgaa
open Go.RowKit

def unheld (x : Snap) : Snap := ⟨x.id, x.set, x.chunks, false, x.tag⟩
def untag (x : Snap) : Snap := ⟨x.id, x.set, x.chunks, x.held, ⟨[]⟩⟩
theorem view_1 {s : State} {v : Int} (h : v < 2) : (⟨s.version, s.next, s.keep, 0, s.sess, s.opens, (s.snaps.map unheld).map untag⟩ : State) = viewT s v := by
  simp only [viewT, List.map_map, if_pos (show v < 3 by omega)]
  congr 1
  refine List.map_congr_left fun x _ => ?_
  simp [hideV, unheld, untag, h, show v < 3 by omega]
theorem view_2 {s : State} {v : Int} (h : v < 3) (h2 : ¬ v < 2) : (⟨s.version, s.next, s.keep, 0, s.sess, s.opens, s.snaps.map untag⟩ : State) = viewT s v := by
  simp only [viewT, if_pos h]
  congr 1
  refine List.map_congr_left fun x _ => ?_
  simp [hideV, untag, h, h2]
theorem upto_len_ {α : Type} {f : α → α} {l : List α} {k : Nat} : (upto f l k).length = l.length := upto_len

theorem sz58 : (Try.prog.info? 58).map (·.size) = some 1 := by kernel_rfl
theorem sz60 : (Try.prog.info? 60).map (·.size) = some 2 := by kernel_rfl
theorem fa60_0 {n : Nat} {fr : Fr} {w : World} {ty : TypeId} {x : Operand} {g k : Nat} (hx : ev fr x = some (.pointer (some ⟨g, k, none⟩))) : Runs Try.prog n fr w (.fieldAddr 60 x 0) ty (.pointer (some ⟨g, k + 0, none⟩)) w := R.fieldAddrB hx Try.underlying60 rfl rfl sz3
theorem fa60_1 {n : Nat} {fr : Fr} {w : World} {ty : TypeId} {x : Operand} {g k : Nat} (hx : ev fr x = some (.pointer (some ⟨g, k, none⟩))) : Runs Try.prog n fr w (.fieldAddr 60 x 1) ty (.pointer (some ⟨g, k + 1, none⟩)) w := R.fieldAddrB hx Try.underlying60 rfl rfl sz58
theorem zr60 : ((Try.prog.info? 60).bind (·.zero)).map Value.cells = some ([.int .i64 0, .nilFunc] : List Value).toArray := by kernel_rfl

set_option maxRecDepth 100000 in
set_option maxHeartbeats 400000 in
theorem view_s {w : World} {cs_s : List Value} {s : State} (v : Int) (h_s : Rp.rp false 0 w.heap.size w cs_s s) :
    Ret Try.prog 15 [.agg cs_s.toArray, .int .i64 v].toArray w fun r w' => ∃ (rs0 : List Value), r = .tuple #[.agg rs0.toArray, .int .i64 (viewE s v)] ∧ Rp.rp true w.heap.size w'.heap.size w' rs0 (viewS s v) ∧ Kp [] w w' := by
 obtain ⟨a5, c6, a8, c9, a11, c12, rfl, i1, i2, i3, i4, s7, s10, s13⟩ := State.el h_s
 have ls7 : (s.sess).length * 32 ≤ 140737488355328 := s7.lenle
 have ls10 : (s.opens).length * 16 ≤ 140737488355328 := s10.lenle
 have ls13 : (s.snaps).length * 64 ≤ 140737488355328 := s13.lenle
 refine Ret.enter Try.func15 rfl Try.ntmps15 rfl rfl ?_
 refine WC.sel [0, 1] rfl ?_
 refine WC.seq ?_
 refine WC.region ?_
 refine WO.box rfl rfl rfl ?_
 intro w14 n14
 have z14 : w.heap.size < w14.heap.size := n14.lt
 have b14 := old_kp0 (Below.refl w.heap.size w) n14.kp
 have y14 : w.heap.size ≤ w14.heap.size := b14.size
 refine WO.alloc zr34 rfl ?_
 intro w15 n15
 have z15 : w14.heap.size < w15.heap.size := n15.lt
 have b15 := old_kp0 b14 n15.kp
 have y15 : w.heap.size ≤ w15.heap.size := b15.size
 refine WO.v (R.assign rfl) rfl ?_
 refine WO.nil ?_
 refine WX.sel [0, 1, 2, 4, 5] rfl ?_
 refine WX.next ?_
 refine WC.seq ?_
 refine WC.seq ?_
 refine WC.region ?_
 refine WO.v (R.move rfl) rfl ?_
 refine WO.c (E.call rfl rfl Try.func23 rfl rfl) (there_s (n := v) ) rfl ?_
 rintro _ _ ⟨rfl, rfl⟩
 refine WO.v (R.not rfl) rfl ?_
 refine WO.v (R.move rfl) rfl ?_
 refine WO.cutP 4 [(15, (.bool ((!((decide (1 ≤ (v))) && (decide ((v) ≤ 3)))) || (!(decide (mayF (s) ((3 : Int)) = (0 : Int)))))))] (fun w' => Kp [] w15 w') ?_ ?_
 rcases Bool.eq_false_or_eq_true (!((decide (1 ≤ (v))) && (decide ((v) ≤ 3)))) with hb16 | hb16
 have phb16 : (¬ (1 ≤ (v))) ∨ (¬ ((v) ≤ 3)) := Or.imp (fun h => of_decide_eq_false h) (fun h => of_decide_eq_false h) (band_f (bnot_t hb16))
 refine WO.off rfl rfl hb16 rfl ?_
 refine WO.off rfl rfl hb16 rfl ?_
 refine WO.off rfl rfl hb16 rfl ?_
 refine WO.v (R.pickT rfl hb16 rfl) rfl ?_
 refine WO.nil ?_
 exact WX.cutDoneP 4 rfl rfl ⟨⟨_, rfl, vb (bor_on hb16)⟩, trivial⟩ (Kp.refl _)
 have phb16 : (1 ≤ (v)) ∧ ((v) ≤ 3) := ⟨of_decide_eq_true (band_t (bnot_f hb16)).1, of_decide_eq_true (band_t (bnot_f hb16)).2⟩
 refine WO.on rfl rfl hb16 ?_
 have B17 := (n14.blk).kp0 n15.kp
 refine WO.v (R.loadBN (vs := [_, _, _, _, _, _, _]) rfl B17 rfl Try.underlying34 rfl sz34) rfl ?_
 refine WO.on rfl rfl hb16 ?_
 refine WO.c (E.call rfl rfl Try.func26 rfl rfl) (may_s (v := (3 : Int)) (s := s) (State.mk_ (i1) (i2) (i3) (i4) ((sl_old s7 b15).mono (lo' := 0) (hi' := w15.heap.size) (Nat.zero_le _) (by omega)) ((sl_old s10 b15).mono (lo' := 0) (hi' := w15.heap.size) (Nat.zero_le _) (by omega)) ((sl_old s13 b15).mono (lo' := 0) (hi' := w15.heap.size) (Nat.zero_le _) (by omega)))) rfl ?_
 rintro _ w18 ⟨rfl, k18⟩
 have z18 : w15.heap.size ≤ w18.heap.size := k18.size
 have b18 := old_kp0 b15 k18
 have y18 : w.heap.size ≤ w18.heap.size := b18.size
 refine WO.on rfl rfl hb16 ?_
 refine WO.v (R.neq rfl rfl) rfl ?_
 refine WO.v (R.pickF rfl hb16 rfl) rfl ?_
 refine WO.nil ?_
 exact WX.cutDoneP 4 rfl rfl ⟨⟨_, rfl, vb (bor_off hb16)⟩, trivial⟩ ((Kp.refl _).step k18 (by simp))
 intro w19 k19
 have z19 : w15.heap.size ≤ w19.heap.size := k19.size
 have b19 := old_kp0 b15 k19
 have y19 : w.heap.size ≤ w19.heap.size := b19.size
 refine WO.nil ?_
 refine WX.sel [0, 1, 2, 4, 5, 15] rfl ?_
 refine WX.next ?_
 refine WC.cond rfl (fun q20 => ?_) (fun q20 => ?_)
 have p20 : ((¬ (1 ≤ (v))) ∨ (¬ ((v) ≤ 3))) ∨ (¬ (mayF (s) ((3 : Int)) = (0 : Int))) := Or.imp (fun h => Or.imp (fun h => of_decide_eq_false h) (fun h => of_decide_eq_false h) (band_f (bnot_t h))) (fun h => of_decide_eq_false (bnot_t h)) (bor_t q20)
 refine WC.seq ?_
 refine WC.region ?_
 refine WO.v (R.buildL (parts := []) (cells := #[(.int .i64 (0 : Int)), (.int .i64 (0 : Int)), (.int .i64 (0 : Int)), (.int .i64 (0 : Int)), (.slice none 0 0), (.slice none 0 0), (.slice none 0 0)]) rfl (by kernel_rfl)) rfl ?_
 have B21 := (n15.blk).kp0 k19
 refine WO.storeBN rfl rfl B21 rfl (by simp [Value.oneCell']) sz34 ?_
 intro w22 k22 B22 z_22
 have z22 : w19.heap.size = w22.heap.size := z_22.symm
 have b22 := old_kp b19 k22 (mem1 (by omega))
 have y22 : w.heap.size ≤ w22.heap.size := b22.size
 refine WO.v (R.assign rfl) rfl ?_
 refine WO.nil ?_
 refine WX.sel [0, 1, 2, 4, 5, 15] rfl ?_
 refine WX.next ?_
 refine WC.ret ?_
 refine WX.thenRet ?_
 have e0 : (⟨(0 : Int), (0 : Int), (0 : Int), (0 : Int), [], [], []⟩ : State) = (viewS s v) := by first | exact viewS1 q20 | (rw [← viewS2 q20, upto_all (l := upto _ _ _) (by rw [upto_len]; omega), upto_all (by omega)]; exact view_1 (by omega)) | (rw [← viewS2 q20, upto_all (by omega)]; exact view_2 (by omega) (by omega)) | (rw [← viewS2 q20]; exact view_3 (by omega) rfl)
 have f0 : Rp.rp true w.heap.size w22.heap.size w22 [(.int .i64 (0 : Int)), (.int .i64 (0 : Int)), (.int .i64 (0 : Int)), (.int .i64 (0 : Int)), (.slice none 0 0), (.slice none 0 0), (.slice none 0 0)] (⟨(0 : Int), (0 : Int), (0 : Int), (0 : Int), [], [], []⟩ : State) := (State.mk_ (show I64 0 from ⟨by omega, by omega⟩) (show I64 0 from ⟨by omega, by omega⟩) (show I64 0 from ⟨by omega, by omega⟩) (show I64 0 from ⟨by omega, by omega⟩) (x4 := []) (Sl.nil _ _ _ _) (x5 := []) (Sl.nil _ _ _ _) (x6 := []) (Sl.nil _ _ _ _))
 have e1 : (1 : Int) = (viewE s v) := by first | exact viewE1 q20 | exact viewE2 q20
 refine WX.retCT Try.results15 rfl rfl B22 Try.underlying34 rfl sz34 ?_
 exact ⟨[(.int .i64 (0 : Int)), (.int .i64 (0 : Int)), (.int .i64 (0 : Int)), (.int .i64 (0 : Int)), (.slice none 0 0), (.slice none 0 0), (.slice none 0 0)], by rw [e1], (Eq.mp (congrArg (Rp.rp _ _ _ _ _) e0) f0), Kp.of_below b22⟩
 have p20 : ((1 ≤ (v)) ∧ ((v) ≤ 3)) ∧ (mayF (s) ((3 : Int)) = (0 : Int)) := ⟨⟨of_decide_eq_true (band_t (bnot_f (bor_f q20).1)).1, of_decide_eq_true (band_t (bnot_f (bor_f q20).1)).2⟩, of_decide_eq_true (bnot_f (bor_f q20).2)⟩
 refine WC.skip ?_
 refine WX.next ?_
 refine WC.seq ?_
 refine WC.region ?_
 have B23 := ((n14.blk).kp0 n15.kp).kp0 k19
 refine WO.v (R.loadBN (vs := [_, _, _, _, _, _, _]) rfl B23 rfl Try.underlying34 rfl sz34) rfl ?_
 refine WO.c (E.call rfl rfl Try.func27 rfl rfl) (copy_s (s := s) (State.mk_ (i1) (i2) (i3) (i4) ((sl_old s7 b19).mono (lo' := 0) (hi' := w19.heap.size) (Nat.zero_le _) (by omega)) ((sl_old s10 b19).mono (lo' := 0) (hi' := w19.heap.size) (Nat.zero_le _) (by omega)) ((sl_old s13 b19).mono (lo' := 0) (hi' := w19.heap.size) (Nat.zero_le _) (by omega)))) rfl ?_
 rintro _ w24 ⟨cs25, rfl, r26, k24⟩
 have z24 : w19.heap.size ≤ w24.heap.size := k24.size
 have b24 := old_kp0 b19 k24
 have y24 : w.heap.size ≤ w24.heap.size := b24.size
 obtain ⟨a31, c32, a34, c35, a37, c38, rfl, i27, i28, i29, i30, s33, s36, s39⟩ := State.el r26
 have ls33 : (((s)).sess).length * 32 ≤ 140737488355328 := s33.lenle
 have ls36 : (((s)).opens).length * 16 ≤ 140737488355328 := s36.lenle
 have ls39 : (((s)).snaps).length * 64 ≤ 140737488355328 := s39.lenle
 have B40 := (B23).kp0 k24
 refine WO.storeBN rfl rfl B40 rfl (by simp [Value.oneCell']) sz34 ?_
 intro w41 k41 B41 z_41
 have z41 : w24.heap.size = w41.heap.size := z_41.symm
 have b41 := old_kp b24 k41 (mem1 (by omega))
 have y41 : w.heap.size ≤ w41.heap.size := b41.size
 refine WO.nil ?_
 refine WX.sel [0, 1, 2, 4, 5, 15] rfl ?_
 refine WX.next ?_
 refine WC.seq ?_
 refine WC.seq ?_
 refine WC.region ?_
 refine WO.inl [] (E.call rfl rfl Try.func31 rfl rfl) rfl rfl ?_
 refine Ret.enter Try.func31 rfl Try.ntmps31 rfl rfl ?_
 refine WC.sel [] rfl ?_
 refine WC.seq ?_
 refine WC.region ?_
 refine WO.v (R.assign rfl) rfl ?_
 refine WO.nil ?_
 refine WX.sel [0] rfl ?_
 refine WX.next ?_
 refine WC.seq ?_
 refine WC.region ?_
 refine WO.v (R.assign rfl) rfl ?_
 refine WO.nil ?_
 refine WX.sel [0, 1] rfl ?_
 refine WX.next ?_
 refine WC.seq ?_
 refine WC.region ?_
 refine WO.v (R.move rfl) rfl ?_
 refine WO.inl [(.func (.func 53) #[] [].toArray)] (E.call rfl rfl Try.func51 rfl rfl) rfl rfl ?_
 refine Ret.enter Try.func51 rfl Try.ntmps51 rfl rfl ?_
 refine WC.sel [0] rfl ?_
 refine WC.seq ?_
 refine WC.region ?_
 refine WO.box rfl rfl rfl ?_
 intro w42 n42
 have z42 : w41.heap.size < w42.heap.size := n42.lt
 have b42 := old_kp0 b41 n42.kp
 have y42 : w.heap.size ≤ w42.heap.size := b42.size
 refine WO.v (R.assign rfl) rfl ?_
 refine WO.nil ?_
 refine WX.sel [0, 1, 2] rfl ?_
 refine WX.next ?_
 refine WC.seq ?_
 refine WC.region ?_
 refine WO.v (R.makeFunc1 rfl) rfl ?_
 refine WO.v (R.assign rfl) rfl ?_
 refine WO.nil ?_
 refine WX.sel [0, 1, 2] rfl ?_
 refine WX.next ?_
 refine WC.ret ?_
 refine WX.ret1 Try.results51 rfl ?_
 refine WO.v (R.buildL (parts := [_, _]) (cells := #[(.int .i64 (2 : Int)), (.func (.func 52) #[] [(.pointer (some ⟨w41.heap.size, 0, none⟩))].toArray)]) rfl (by kernel_rfl)) rfl ?_
 refine WO.v (R.move rfl) rfl ?_
 refine WO.inl [(.func (.func 54) #[] [].toArray)] (E.call rfl rfl Try.func51 rfl rfl) rfl rfl ?_
 refine Ret.enter Try.func51 rfl Try.ntmps51 rfl rfl ?_
 refine WC.sel [0] rfl ?_
 refine WC.seq ?_
 refine WC.region ?_
 refine WO.box rfl rfl rfl ?_
 intro w43 n43
 have z43 : w42.heap.size < w43.heap.size := n43.lt
 have b43 := old_kp0 b42 n43.kp
 have y43 : w.heap.size ≤ w43.heap.size := b43.size
 refine WO.v (R.assign rfl) rfl ?_
 refine WO.nil ?_
 refine WX.sel [0, 1, 2] rfl ?_
 refine WX.next ?_
 refine WC.seq ?_
 refine WC.region ?_
 refine WO.v (R.makeFunc1 rfl) rfl ?_
 refine WO.v (R.assign rfl) rfl ?_
 refine WO.nil ?_
 refine WX.sel [0, 1, 2] rfl ?_
 refine WX.next ?_
 refine WC.ret ?_
 refine WX.ret1 Try.results51 rfl ?_
 refine WO.v (R.buildL (parts := [_, _]) (cells := #[(.int .i64 (3 : Int)), (.func (.func 52) #[] [(.pointer (some ⟨w42.heap.size, 0, none⟩))].toArray)]) rfl (by kernel_rfl)) rfl ?_
 refine WO.v (R.buildL (parts := [_, _]) (cells := #[(.int .i64 (3 : Int)), (.func (.func 55) #[] [].toArray)]) rfl (by kernel_rfl)) rfl ?_
 refine WO.buildSlice (parts := [_, _, _]) (vss := [[_, _], [_, _], [_, _]]) Try.underlying56 sz60 zr60 rfl rfl (by simp) rfl rfl rfl ?_
 intro w44 n44
 have z44 : w43.heap.size < w44.heap.size := n44.lt
 have b44 := old_kp0 b43 n44.kp
 have y44 : w.heap.size ≤ w44.heap.size := b44.size
 refine WO.v (R.assign rfl) rfl ?_
 refine WO.nil ?_
 refine WX.sel [0, 1] rfl ?_
 refine WX.next ?_
 refine WC.ret ?_
 refine WX.ret1 Try.results31 rfl ?_
 refine WO.v (R.len rfl Try.underlying56) rfl ?_
 refine WO.v (R.move rfl) rfl ?_
 refine WO.nil ?_
 refine WX.sel [0, 1, 2, 4, 5, 15, 19, 20, 21] rfl ?_
 refine WX.next ?_
 refine WC.block ?_
 refine WC.unroll ?_
 refine WC.seq ?_
 refine WC.region ?_
 refine WO.v (R.lss rfl rfl) rfl ?_
 refine WO.nil ?_
 refine WX.sel [0, 1, 2, 4, 5, 15, 19, 20, 21, 22] rfl ?_
 refine WX.next ?_
 refine WC.seq ?_
 refine WC.cond rfl (fun q45 => ?_) (fun q45 => ?_)
 have p45 : (0 : Int) < ((3 : Nat) : Int) := of_decide_eq_true q45
 refine WC.skip ?_
 refine WX.next ?_
 refine WC.seq ?_
 refine WC.block ?_
 refine WC.seq ?_
 refine WC.region ?_
 refine WO.v (R.indexAddrRaw (i := 0) (k := 0) rfl rfl Try.underlying56 sz60 (by omega) rfl) rfl ?_
 refine WO.v (R.loadBN (vs := [_, _]) rfl n44.blk rfl Try.underlying60 rfl sz60) rfl ?_
 refine WO.alloc zr60 rfl ?_
 intro w46 n46
 have z46 : w44.heap.size < w46.heap.size := n46.lt
 have b46 := old_kp0 b44 n46.kp
 have y46 : w.heap.size ≤ w46.heap.size := b46.size
 refine WO.storeBN rfl rfl n46.blk rfl (by simp [Value.oneCell']) sz60 ?_
 intro w47 k47 B47 z_47
 have z47 : w46.heap.size = w47.heap.size := z_47.symm
 have b47 := old_kp b46 k47 (mem1 (by omega))
 have y47 : w.heap.size ≤ w47.heap.size := b47.size
 refine WO.nil ?_
 refine WX.sel [0, 1, 2, 4, 5, 7, 15, 19, 20, 21, 22] rfl ?_
 refine WX.next ?_
 refine WC.seq ?_
 refine WC.region ?_
 refine WO.v (R.move rfl) rfl ?_
 refine WO.v (fa60_0 rfl) rfl ?_
 refine WO.v (R.loadB rfl B47 rfl Try.underlying3 rfl) rfl ?_
 refine WO.v (R.lss rfl rfl) rfl ?_
 refine WO.nil ?_
 refine WX.sel [0, 1, 2, 4, 5, 7, 15, 19, 20, 21, 22, 28] rfl ?_
 refine WX.next ?_
 refine WC.cond rfl (fun q48 => ?_) (fun q48 => ?_)
 have p48 : v < (2 : Int) := of_decide_eq_true q48
 refine WC.region ?_
 refine WO.v (fa60_1 rfl) rfl ?_
 refine WO.v (R.loadB rfl B47 rfl Try.underlying58 rfl) rfl ?_
 refine WO.inl [(.pointer (some ⟨w.heap.size, 0, none⟩)), (.pointer (some ⟨w41.heap.size, 0, none⟩))] (E.call rfl rfl Try.func52 rfl rfl) rfl rfl ?_
 refine Ret.enter Try.func52 rfl Try.ntmps52 rfl rfl ?_
 refine WC.sel [0, 1] rfl ?_
 refine WC.seq ?_
 refine WC.region ?_
 refine WO.v (R.move rfl) rfl ?_
 refine WO.v (R.nilCheckP rfl) rfl ?_
 refine WO.v (fa34_6 rfl) rfl ?_
 have B49 := (((((B41).kp0 n42.kp).kp0 n43.kp).kp0 n44.kp).kp0 n46.kp).kp1 k47 (by omega)
 refine WO.v (R.loadB rfl B49 rfl Try.underlying32 rfl) rfl ?_
 refine WO.v (R.len rfl Try.underlying32) rfl ?_
 refine WO.v (R.move rfl) rfl ?_
 refine WO.nil ?_
 refine WX.sel [0, 1, 8, 9] rfl ?_
 refine WX.next ?_
 refine WC.block ?_
 have ac50 := (sl_kp (sl_kp0 (sl_kp0 (sl_kp0 (sl_kp0 (sl_kp (s39) k41 (by omega) (mem1 (by omega))) n42.kp (by omega)) n43.kp (by omega)) n44.kp (by omega)) n46.kp (by omega)) k47 (by omega) (mem1 (by omega))).ac
 have bd51 := ac50.bd
 have ty52 := ac50.ty
 refine WC.loopK [0, 1, 8] rfl (fun zz : Nat => [(9, (.int .i64 (((zz) : Nat) : Int)))]) (fun (zz : Nat) (w' : World) => (Kp (ob (.slice a37 ((s)).snaps.length c38)) w47 w') ∧ (Blk w' (w.heap.size) 34 [(.int .i64 ((s)).version), (.int .i64 ((s)).next), (.int .i64 ((s)).keep), (.int .i64 ((s)).quota), (.slice a31 ((s)).sess.length c32), (.slice a34 ((s)).opens.length c35), (.slice a37 ((s)).snaps.length c38)]) ∧ ((zz) ≤ ((s)).snaps.length) ∧ (Ac (α := Snap) (w19.heap.size) true (w19.heap.size) (w24.heap.size) (w24.heap.size) w' (.slice a37 ((s)).snaps.length c38) (upto unheld ((s)).snaps (zz)))) (fun zz => ((s)).snaps.length - (zz)) (0) ?_ ?_ ?_
 exact ⟨⟨_, rfl, rfl⟩, trivial⟩
 exact ⟨(Kp.refl _).sub (by simp), B49, Nat.zero_le _, ac_n ((ac50).mono (Nat.le_refl _) (Nat.le_refl _) (by omega) (by omega)) upto_zero rfl⟩
 rintro k w55 ⟨k55, Bl55_0, hkhup53, hup53⟩
 try dsimp only at Bl55_0 hkhup53 hup53
 have z55 : w47.heap.size ≤ w55.heap.size := k55.size
 have b55 := old_kp b47 k55 (fun g hg => by have := bd51 g hg; omega)
 have y55 : w.heap.size ≤ w55.heap.size := b55.size
 refine (?_ : WC _ _ _ _ ([(9, (.int .i64 ((k : Nat) : Int)))] ++ _) w55)
 have ulhup53 : (upto unheld ((s)).snaps k).length = (((s)).snaps).length := upto_len
 have lenhup53 : ((upto unheld ((s)).snaps k)).length * 64 ≤ 140737488355328 := hup53.lenle
 refine WC.seq ?_
 refine WC.region ?_
 refine WO.v (R.lss rfl rfl) rfl ?_
 refine WO.nil ?_
 refine WX.sel [0, 1, 8, 9, 10] rfl ?_
 refine WX.next ?_
 refine WC.seq ?_
 refine WC.cond rfl (fun q56 => ?_) (fun q56 => ?_)
 have p56 : ((k : Nat) : Int) < ((((s)).snaps.length : Nat) : Int) := of_decide_eq_true q56
 refine WC.skip ?_
 refine WX.next ?_
 refine WC.seq ?_
 refine WC.block ?_
 refine WC.seq ?_
 refine WC.region ?_
 refine WO.v (R.move rfl) rfl ?_
 refine WO.v (R.assign rfl) rfl ?_
 refine WO.nil ?_
 refine WX.sel [0, 1, 3, 8, 9, 10] rfl ?_
 refine WX.next ?_
 refine WC.sel [0, 1, 3, 8, 9, 10] rfl ?_
 have B57 := (((((n42.blk).kp0 n43.kp).kp0 n44.kp).kp0 n46.kp).kp1 k47 (by omega)).kp k55 (fun hm => by have := bd51 _ hm; omega)
 obtain ⟨x58, hx58⟩ := get_ex (xs := (upto unheld ((s)).snaps k)) (i := k) (by omega)
 obtain ⟨A59, cs60, hA59, loA59, hiA59, ccA59, r61⟩ := (((hup53).pub (L := 0) (H := w55.heap.size) (by omega) (by omega) (by omega) (by omega))).at_ hx58
 obtain ⟨a64, c65, rfl, i62, i63, s66, i67⟩ := Snap.el r61
 have ls66 : (x58.chunks).length * 8 ≤ 140737488355328 := s66.lenle
 refine WC.draw' mixed_orders [.ex [] (.func (.func 53) #[] [].toArray), .ex [] (.pointer (some ⟨w.heap.size, 0, none⟩)), .ex [1] (.pointer (some ⟨w.heap.size, 0, none⟩)), .ex [2] (.pointer (some ⟨w.heap.size, 6, none⟩)), .ex [3] (.slice a37 ((s)).snaps.length c38), .ex [] (.int .i64 ((k : Nat) : Int)), .ex [4, 5] (.pointer (some (A59.add (k * 5))))] 7 (by kernel_rfl) ⟨fun _ _ _ h _ => h, fun _ _ _ h _ => h, fun _ _ _ h _ => h, fun _ _ _ h _ => h, fun _ _ _ h _ => h, fun _ _ _ h _ => h, fun _ _ _ h _ => h, trivial⟩ ⟨?_, ?_, ?_, ?_, ?_, ?_, ?_, trivial⟩ ?_
 rintro vs w68 k68 ⟨-⟩
 replace k68 : Kp [] w55 w68 := k68
 have z68 : w55.heap.size ≤ w68.heap.size := k68.size
 have b68 := old_kp0 b55 k68
 have y68 : w.heap.size ≤ w68.heap.size := b68.size
 refine WO.haves (fr' := [(1, (.pointer (some ⟨w41.heap.size, 0, none⟩)))]) ⟨⟨_, rfl, rfl⟩, trivial⟩ ?_
 have B69 := ((((((n42.blk).kp0 n43.kp).kp0 n44.kp).kp0 n46.kp).kp1 k47 (by omega)).kp k55 (fun hm => by have := bd51 _ hm; omega)).kp0 k68
 refine WO.v (R.loadB rfl B69 rfl Try.underlying77 rfl) rfl ?_
 refine WO.nil ?_
 exact WX.stepDone rfl rfl (Kp.refl _)
 rintro vs w70 k70 ⟨-⟩
 replace k70 : Kp [] w55 w70 := k70
 refine WO.haves (fr' := [(0, (.pointer (some ⟨w.heap.size, 0, none⟩)))]) ⟨⟨_, rfl, rfl⟩, trivial⟩ ?_
 refine WO.v (R.move rfl) rfl ?_
 refine WO.nil ?_
 exact WX.stepDone rfl rfl (Kp.refl _)
 rintro vs w71 k71 ⟨e72, -⟩
 replace k71 : Kp [] w55 w71 := k71
 refine WO.haves (fr' := [(13, (.pointer (some ⟨w.heap.size, 0, none⟩)))]) ⟨⟨_, rfl, e72⟩, trivial⟩ ?_
 refine WO.v (R.nilCheckP rfl) rfl ?_
 refine WO.nil ?_
 exact WX.stepDone rfl rfl (Kp.refl _)
 rintro vs w73 k73 ⟨e74, -⟩
 replace k73 : Kp [] w55 w73 := k73
 refine WO.haves (fr' := [(14, (.pointer (some ⟨w.heap.size, 0, none⟩)))]) ⟨⟨_, rfl, e74⟩, trivial⟩ ?_
 refine WO.v (fa34_6 rfl) rfl ?_
 refine WO.nil ?_
 exact WX.stepDone rfl rfl (Kp.refl _)
 rintro vs w75 k75 ⟨e76, -⟩
 replace k75 : Kp [] w55 w75 := k75
 have z75 : w55.heap.size ≤ w75.heap.size := k75.size
 have b75 := old_kp0 b55 k75
 have y75 : w.heap.size ≤ w75.heap.size := b75.size
 refine WO.haves (fr' := [(15, (.pointer (some ⟨w.heap.size, 6, none⟩)))]) ⟨⟨_, rfl, e76⟩, trivial⟩ ?_
 have B77 := (Bl55_0).kp0 k75
 refine WO.v (R.loadB rfl B77 rfl Try.underlying32 rfl) rfl ?_
 refine WO.nil ?_
 exact WX.stepDone rfl rfl (Kp.refl _)
 rintro vs w78 k78 ⟨-⟩
 replace k78 : Kp [] w55 w78 := k78
 refine WO.haves (fr' := [(3, (.int .i64 ((k : Nat) : Int)))]) ⟨⟨_, rfl, rfl⟩, trivial⟩ ?_
 refine WO.v (R.move rfl) rfl ?_
 refine WO.nil ?_
 exact WX.stepDone rfl rfl (Kp.refl _)
 rintro vs w79 k79 ⟨e80, e81, -⟩
 replace k79 : Kp [] w55 w79 := k79
 refine WO.haves (fr' := [(16, (.slice a37 ((s)).snaps.length c38)), (17, (.int .i64 ((k : Nat) : Int)))]) ⟨⟨_, rfl, e80⟩, ⟨_, rfl, e81⟩, trivial⟩ ?_
 refine WO.v (R.indexAddrN rfl rfl Try.underlying32 sz46 hA59 (by omega)) rfl ?_
 refine WO.nil ?_
 exact WX.stepDone rfl rfl (Kp.refl _)
 rintro vs w82 k82 ⟨e83, -, -, -, -, -, e89, -⟩
 replace k82 : Kp [] w55 w82 := k82
 have z82 : w55.heap.size ≤ w82.heap.size := k82.size
 have b82 := old_kp0 b55 k82
 have y82 : w.heap.size ≤ w82.heap.size := b82.size
 refine WO.haves (fr' := [(12, (.func (.func 53) #[] [].toArray)), (18, (.pointer (some (A59.add (k * 5))))), (0, (.pointer (some ⟨w.heap.size, 0, none⟩))), (1, (.pointer (some ⟨w41.heap.size, 0, none⟩))), (3, (.int .i64 ((k : Nat) : Int))), (8, (.int .i64 ((((s)).snaps.length : Nat) : Int))), (9, (.int .i64 ((k : Nat) : Int))), (10, (.bool (decide (((k : Nat) : Int) < ((((s)).snaps.length : Nat) : Int)))))]) ⟨⟨_, rfl, e83⟩, ⟨_, rfl, e89⟩, ⟨_, rfl, rfl⟩, ⟨_, rfl, rfl⟩, ⟨_, rfl, rfl⟩, ⟨_, rfl, rfl⟩, ⟨_, rfl, rfl⟩, ⟨_, rfl, rfl⟩, trivial⟩ ?_
 refine WO.inl [(.pointer (some (A59.add (k * 5))))] (E.call rfl rfl Try.func53 rfl rfl) rfl rfl ?_
 refine Ret.enter Try.func53 rfl Try.ntmps53 rfl rfl ?_
 refine WC.sel [0] rfl ?_
 refine WC.region ?_
 refine WO.v (R.move rfl) rfl ?_
 refine WO.v (R.nilCheckP rfl) rfl ?_
 refine WO.v (fe46_3 rfl) rfl ?_
 have ac90 := (ac_kp0 (hup53) k82 (by omega) (by omega)).mono (Nat.le_refl _) (Nat.le_refl _) (by omega : _ ≤ w24.heap.size) (Nat.le_refl _)
 have bd91 := ac90.bd
 have ty92 := ac90.ty
 refine WO.storeE (j := 3) (z := (⟨x58.id, x58.set, x58.chunks, false, x58.tag⟩ : Snap)) rfl rfl ac90 (by omega) hA59 hx58 (by decide) rfl rfl sz4 (.inr (.inl ⟨rfl, by decide⟩)) (fun cs h => set_Snap_3 h) ?_
 intro w93 h94 k93 z_93
 have z93 : w82.heap.size = w93.heap.size := z_93.symm
 have b93 := old_kp b82 k93 (fun g hg => by have := bd91 g hg; omega)
 have y93 : w.heap.size ≤ w93.heap.size := b93.size
 have lsh94 : ((upto unheld ((s)).snaps k).set k (⟨x58.id, x58.set, x58.chunks, false, x58.tag⟩ : Snap)).length = (upto unheld ((s)).snaps k).length := List.length_set
 refine WO.nil ?_
 refine WX.sel [0] rfl ?_
 refine WX.endRet ?_
 refine WX.ret0 Try.results53 ?_
 refine WO.nil ?_
 refine WX.sel [0, 1, 3, 8, 9, 10] rfl ?_
 refine WX.blkNormal ?_
 refine WX.next ?_
 refine WC.region ?_
 refine WO.v (R.inc rfl (by omega)) rfl ?_
 refine WO.v (R.move rfl) rfl ?_
 refine WO.nil ?_
 refine WX.sel [0, 1, 3, 8, 9, 10] rfl ?_
 have E95 : ((upto unheld ((s)).snaps k).set k (⟨x58.id, x58.set, x58.chunks, false, x58.tag⟩ : Snap)) = (upto unheld ((s)).snaps (k + 1)) := upto_set (by assumption)
 have B96 := ((Bl55_0).kp0 k82).kp k93 (fun hm => by have := bd91 _ hm; omega)
 exact WX.loopNextK [0, 1, 8] (k + 1) rfl ⟨⟨_, rfl, rfl⟩, trivial⟩ ⟨((((Kp.refl _).sub (by simp)).step k55 (fun g hg => .inl hg)).step k82 (by simp)).step k93 (fun g hg => .inl hg), B96, by omega, ac_n ((h94).mono (by omega) (by omega) (by omega) (by omega)) E95 rfl⟩ (by show (((s)).snaps.length - (k + 1)) < (((s)).snaps.length - k); omega)
 have p56 : ¬ (((k : Nat) : Int) < ((((s)).snaps.length : Nat) : Int)) := of_decide_eq_false q56
 refine WC.exit ?_
 refine WX.thenExit ?_
 refine WX.loopExit ?_
 refine WX.blkHit ?_
 refine WX.endRet ?_
 refine WX.ret0 Try.results52 ?_
 refine WO.nil ?_
 refine WX.sel [0, 1, 2, 4, 5, 7, 15, 19, 20, 21, 22, 28] rfl ?_
 refine WX.blkNormal ?_
 refine WX.next ?_
 refine WC.region ?_
 refine WO.v (R.inc (m := 0) rfl (by omega)) rfl ?_
 refine WO.v (R.move rfl) rfl ?_
 refine WO.nil ?_
 refine WX.sel [0, 1, 2, 4, 5, 7, 15, 19, 20, 21, 22, 28] rfl ?_
 refine WX.unrNext ?_
 refine WC.seq ?_
 refine WC.region ?_
 refine WO.v (R.lss rfl rfl) rfl ?_
 refine WO.nil ?_
 refine WX.sel [0, 1, 2, 4, 5, 7, 15, 19, 20, 21, 22, 28] rfl ?_
 refine WX.next ?_
 refine WC.seq ?_
 refine WC.cond rfl (fun q97 => ?_) (fun q97 => ?_)
 have p97 : ((1 : Nat) : Int) < ((3 : Nat) : Int) := of_decide_eq_true q97
 refine WC.skip ?_
 refine WX.next ?_
 refine WC.seq ?_
 refine WC.block ?_
 refine WC.seq ?_
 refine WC.region ?_
 refine WO.v (R.indexAddrRaw (i := 1) (k := 2) rfl rfl Try.underlying56 sz60 (by omega) rfl) rfl ?_
 have B98 := (((n44.blk).kp0 n46.kp).kp1 k47 (by omega)).kp k55 (fun hm => by have := bd51 _ hm; omega)
 refine WO.v (R.loadBN (vs := [_, _]) rfl B98 rfl Try.underlying60 rfl sz60) rfl ?_
 refine WO.alloc zr60 rfl ?_
 intro w99 n99
 have z99 : w55.heap.size < w99.heap.size := n99.lt
 have b99 := old_kp0 b55 n99.kp
 have y99 : w.heap.size ≤ w99.heap.size := b99.size
 refine WO.storeBN rfl rfl n99.blk rfl (by simp [Value.oneCell']) sz60 ?_
 intro w100 k100 B100 z_100
 have z100 : w99.heap.size = w100.heap.size := z_100.symm
 have b100 := old_kp b99 k100 (mem1 (by omega))
 have y100 : w.heap.size ≤ w100.heap.size := b100.size
 refine WO.nil ?_
 refine WX.sel [0, 1, 2, 4, 5, 7, 15, 19, 20, 21, 22, 28] rfl ?_
 refine WX.next ?_
 refine WC.seq ?_
 refine WC.region ?_
 refine WO.v (R.move rfl) rfl ?_
 refine WO.v (fa60_0 rfl) rfl ?_
 refine WO.v (R.loadB rfl B100 rfl Try.underlying3 rfl) rfl ?_
 refine WO.v (R.lss rfl rfl) rfl ?_
 refine WO.nil ?_
 refine WX.sel [0, 1, 2, 4, 5, 7, 15, 19, 20, 21, 22, 28] rfl ?_
 refine WX.next ?_
 refine WC.cond rfl (fun q101 => ?_) (fun q101 => ?_)
 have p101 : v < (3 : Int) := of_decide_eq_true q101
 refine WC.region ?_
 refine WO.v (fa60_1 rfl) rfl ?_
 refine WO.v (R.loadB rfl B100 rfl Try.underlying58 rfl) rfl ?_
 refine WO.inl [(.pointer (some ⟨w.heap.size, 0, none⟩)), (.pointer (some ⟨w42.heap.size, 0, none⟩))] (E.call rfl rfl Try.func52 rfl rfl) rfl rfl ?_
 refine Ret.enter Try.func52 rfl Try.ntmps52 rfl rfl ?_
 refine WC.sel [0, 1] rfl ?_
 refine WC.seq ?_
 refine WC.region ?_
 refine WO.v (R.move rfl) rfl ?_
 refine WO.v (R.nilCheckP rfl) rfl ?_
 refine WO.v (fa34_6 rfl) rfl ?_
 have B102 := ((Bl55_0).kp0 n99.kp).kp1 k100 (by omega)
 refine WO.v (R.loadB rfl B102 rfl Try.underlying32 rfl) rfl ?_
 refine WO.v (R.len rfl Try.underlying32) rfl ?_
 refine WO.v (R.move rfl) rfl ?_
 refine WO.nil ?_
 refine WX.sel [0, 1, 8, 9] rfl ?_
 refine WX.next ?_
 refine WC.block ?_
 have ac103 := ac_kp (ac_kp0 (hup53) n99.kp (by omega) (by omega)) k100 (by omega) (by omega) (mem1 (by omega))
 have bd104 := ac103.bd
 have ty105 := ac103.ty
 refine WC.loopK [0, 1, 8] rfl (fun zz : Nat => [(9, (.int .i64 (((zz) : Nat) : Int)))]) (fun (zz : Nat) (w' : World) => (Kp (ob (.slice a37 ((s)).snaps.length c38)) w100 w') ∧ (Blk w' (w.heap.size) 34 [(.int .i64 ((s)).version), (.int .i64 ((s)).next), (.int .i64 ((s)).keep), (.int .i64 ((s)).quota), (.slice a31 ((s)).sess.length c32), (.slice a34 ((s)).opens.length c35), (.slice a37 ((s)).snaps.length c38)]) ∧ ((zz) ≤ ((s)).snaps.length) ∧ (Ac (α := Snap) (w19.heap.size) true (w19.heap.size) (w24.heap.size) (w24.heap.size) w' (.slice a37 ((s)).snaps.length c38) (upto untag (upto unheld ((s)).snaps k) (zz)))) (fun zz => ((s)).snaps.length - (zz)) (0) ?_ ?_ ?_
 exact ⟨⟨_, rfl, rfl⟩, trivial⟩
 exact ⟨(Kp.refl _).sub (by simp), B102, Nat.zero_le _, ac_n ((ac103).mono (Nat.le_refl _) (Nat.le_refl _) (by omega) (by omega)) upto_zero rfl⟩
 rintro j w108 ⟨k108, Bl108_0, hkhup106, hup106⟩
 try dsimp only at Bl108_0 hkhup106 hup106
 have z108 : w100.heap.size ≤ w108.heap.size := k108.size
 have b108 := old_kp b100 k108 (fun g hg => by have := bd104 g hg; omega)
 have y108 : w.heap.size ≤ w108.heap.size := b108.size
 refine (?_ : WC _ _ _ _ ([(9, (.int .i64 ((j : Nat) : Int)))] ++ _) w108)
 have ulhup106 : (upto untag (upto unheld ((s)).snaps k) j).length = ((upto unheld ((s)).snaps k)).length := upto_len
 have lenhup106 : ((upto untag (upto unheld ((s)).snaps k) j)).length * 64 ≤ 140737488355328 := hup106.lenle
 refine WC.seq ?_
 refine WC.region ?_
 refine WO.v (R.lss rfl rfl) rfl ?_
 refine WO.nil ?_
 refine WX.sel [0, 1, 8, 9, 10] rfl ?_
 refine WX.next ?_
 refine WC.seq ?_
 refine WC.cond rfl (fun q109 => ?_) (fun q109 => ?_)
 have p109 : ((j : Nat) : Int) < ((((s)).snaps.length : Nat) : Int) := of_decide_eq_true q109
 refine WC.skip ?_
 refine WX.next ?_
 refine WC.seq ?_
 refine WC.block ?_
 refine WC.seq ?_
 refine WC.region ?_
 refine WO.v (R.move rfl) rfl ?_
 refine WO.v (R.assign rfl) rfl ?_
 refine WO.nil ?_
 refine WX.sel [0, 1, 3, 8, 9, 10] rfl ?_
 refine WX.next ?_
 refine WC.sel [0, 1, 3, 8, 9, 10] rfl ?_
 have B110 := (((((((n43.blk).kp0 n44.kp).kp0 n46.kp).kp1 k47 (by omega)).kp k55 (fun hm => by have := bd51 _ hm; omega)).kp0 n99.kp).kp1 k100 (by omega)).kp k108 (fun hm => by have := bd104 _ hm; omega)
 obtain ⟨x111, hx111⟩ := get_ex (xs := (upto untag (upto unheld ((s)).snaps k) j)) (i := j) (by omega)
 obtain ⟨A112, cs113, hA112, loA112, hiA112, ccA112, r114⟩ := (((hup106).pub (L := 0) (H := w108.heap.size) (by omega) (by omega) (by omega) (by omega))).at_ hx111
 obtain ⟨a117, c118, rfl, i115, i116, s119, i120⟩ := Snap.el r114
 have ls119 : (x111.chunks).length * 8 ≤ 140737488355328 := s119.lenle
 refine WC.draw' mixed_orders [.ex [] (.func (.func 54) #[] [].toArray), .ex [] (.pointer (some ⟨w.heap.size, 0, none⟩)), .ex [1] (.pointer (some ⟨w.heap.size, 0, none⟩)), .ex [2] (.pointer (some ⟨w.heap.size, 6, none⟩)), .ex [3] (.slice a37 ((s)).snaps.length c38), .ex [] (.int .i64 ((j : Nat) : Int)), .ex [4, 5] (.pointer (some (A112.add (j * 5))))] 7 (by kernel_rfl) ⟨fun _ _ _ h _ => h, fun _ _ _ h _ => h, fun _ _ _ h _ => h, fun _ _ _ h _ => h, fun _ _ _ h _ => h, fun _ _ _ h _ => h, fun _ _ _ h _ => h, trivial⟩ ⟨?_, ?_, ?_, ?_, ?_, ?_, ?_, trivial⟩ ?_
 rintro vs w121 k121 ⟨-⟩
 replace k121 : Kp [] w108 w121 := k121
 have z121 : w108.heap.size ≤ w121.heap.size := k121.size
 have b121 := old_kp0 b108 k121
 have y121 : w.heap.size ≤ w121.heap.size := b121.size
 refine WO.haves (fr' := [(1, (.pointer (some ⟨w42.heap.size, 0, none⟩)))]) ⟨⟨_, rfl, rfl⟩, trivial⟩ ?_
 have B122 := ((((((((n43.blk).kp0 n44.kp).kp0 n46.kp).kp1 k47 (by omega)).kp k55 (fun hm => by have := bd51 _ hm; omega)).kp0 n99.kp).kp1 k100 (by omega)).kp k108 (fun hm => by have := bd104 _ hm; omega)).kp0 k121
 refine WO.v (R.loadB rfl B122 rfl Try.underlying77 rfl) rfl ?_
 refine WO.nil ?_
 exact WX.stepDone rfl rfl (Kp.refl _)
 rintro vs w123 k123 ⟨-⟩
 replace k123 : Kp [] w108 w123 := k123
 refine WO.haves (fr' := [(0, (.pointer (some ⟨w.heap.size, 0, none⟩)))]) ⟨⟨_, rfl, rfl⟩, trivial⟩ ?_
 refine WO.v (R.move rfl) rfl ?_
 refine WO.nil ?_
 exact WX.stepDone rfl rfl (Kp.refl _)
 rintro vs w124 k124 ⟨e125, -⟩
 replace k124 : Kp [] w108 w124 := k124
 refine WO.haves (fr' := [(13, (.pointer (some ⟨w.heap.size, 0, none⟩)))]) ⟨⟨_, rfl, e125⟩, trivial⟩ ?_
 refine WO.v (R.nilCheckP rfl) rfl ?_
 refine WO.nil ?_
 exact WX.stepDone rfl rfl (Kp.refl _)
 rintro vs w126 k126 ⟨e127, -⟩
 replace k126 : Kp [] w108 w126 := k126
 refine WO.haves (fr' := [(14, (.pointer (some ⟨w.heap.size, 0, none⟩)))]) ⟨⟨_, rfl, e127⟩, trivial⟩ ?_
 refine WO.v (fa34_6 rfl) rfl ?_
 refine WO.nil ?_
 exact WX.stepDone rfl rfl (Kp.refl _)
 rintro vs w128 k128 ⟨e129, -⟩
 replace k128 : Kp [] w108 w128 := k128
 have z128 : w108.heap.size ≤ w128.heap.size := k128.size
 have b128 := old_kp0 b108 k128
 have y128 : w.heap.size ≤ w128.heap.size := b128.size
 refine WO.haves (fr' := [(15, (.pointer (some ⟨w.heap.size, 6, none⟩)))]) ⟨⟨_, rfl, e129⟩, trivial⟩ ?_
 have B130 := (Bl108_0).kp0 k128
 refine WO.v (R.loadB rfl B130 rfl Try.underlying32 rfl) rfl ?_
 refine WO.nil ?_
 exact WX.stepDone rfl rfl (Kp.refl _)
 rintro vs w131 k131 ⟨-⟩
 replace k131 : Kp [] w108 w131 := k131
 refine WO.haves (fr' := [(3, (.int .i64 ((j : Nat) : Int)))]) ⟨⟨_, rfl, rfl⟩, trivial⟩ ?_
 refine WO.v (R.move rfl) rfl ?_
 refine WO.nil ?_
 exact WX.stepDone rfl rfl (Kp.refl _)
 rintro vs w132 k132 ⟨e133, e134, -⟩
 replace k132 : Kp [] w108 w132 := k132
 refine WO.haves (fr' := [(16, (.slice a37 ((s)).snaps.length c38)), (17, (.int .i64 ((j : Nat) : Int)))]) ⟨⟨_, rfl, e133⟩, ⟨_, rfl, e134⟩, trivial⟩ ?_
 refine WO.v (R.indexAddrN rfl rfl Try.underlying32 sz46 hA112 (by omega)) rfl ?_
 refine WO.nil ?_
 exact WX.stepDone rfl rfl (Kp.refl _)
 rintro vs w135 k135 ⟨e136, -, -, -, -, -, e142, -⟩
 replace k135 : Kp [] w108 w135 := k135
 have z135 : w108.heap.size ≤ w135.heap.size := k135.size
 have b135 := old_kp0 b108 k135
 have y135 : w.heap.size ≤ w135.heap.size := b135.size
 refine WO.haves (fr' := [(12, (.func (.func 54) #[] [].toArray)), (18, (.pointer (some (A112.add (j * 5))))), (0, (.pointer (some ⟨w.heap.size, 0, none⟩))), (1, (.pointer (some ⟨w42.heap.size, 0, none⟩))), (3, (.int .i64 ((j : Nat) : Int))), (8, (.int .i64 ((((s)).snaps.length : Nat) : Int))), (9, (.int .i64 ((j : Nat) : Int))), (10, (.bool (decide (((j : Nat) : Int) < ((((s)).snaps.length : Nat) : Int)))))]) ⟨⟨_, rfl, e136⟩, ⟨_, rfl, e142⟩, ⟨_, rfl, rfl⟩, ⟨_, rfl, rfl⟩, ⟨_, rfl, rfl⟩, ⟨_, rfl, rfl⟩, ⟨_, rfl, rfl⟩, ⟨_, rfl, rfl⟩, trivial⟩ ?_
 refine WO.inl [(.pointer (some (A112.add (j * 5))))] (E.call rfl rfl Try.func54 rfl rfl) rfl rfl ?_
 refine Ret.enter Try.func54 rfl Try.ntmps54 rfl rfl ?_
 refine WC.sel [0] rfl ?_
 refine WC.region ?_
 refine WO.v (R.move rfl) rfl ?_
 refine WO.v (R.nilCheckP rfl) rfl ?_
 refine WO.v (fe46_4 rfl) rfl ?_
 have ac143 := (ac_kp0 (hup106) k135 (by omega) (by omega)).mono (Nat.le_refl _) (Nat.le_refl _) (by omega : _ ≤ w24.heap.size) (Nat.le_refl _)
 have bd144 := ac143.bd
 have ty145 := ac143.ty
 refine WO.storeE (j := 4) (z := (⟨x111.id, x111.set, x111.chunks, x111.held, (⟨[]⟩ : Str)⟩ : Snap)) rfl rfl ac143 (by omega) hA112 hx111 (by decide) rfl rfl sz9 (.inr (.inl ⟨rfl, by decide⟩)) (fun cs h => set_Snap_4 h (by simp)) ?_
 intro w146 h147 k146 z_146
 have z146 : w135.heap.size = w146.heap.size := z_146.symm
 have b146 := old_kp b135 k146 (fun g hg => by have := bd144 g hg; omega)
 have y146 : w.heap.size ≤ w146.heap.size := b146.size
 have lsh147 : ((upto untag (upto unheld ((s)).snaps k) j).set j (⟨x111.id, x111.set, x111.chunks, x111.held, (⟨[]⟩ : Str)⟩ : Snap)).length = (upto untag (upto unheld ((s)).snaps k) j).length := List.length_set
 refine WO.nil ?_
 refine WX.sel [0] rfl ?_
 refine WX.endRet ?_
 refine WX.ret0 Try.results54 ?_
 refine WO.nil ?_
 refine WX.sel [0, 1, 3, 8, 9, 10] rfl ?_
 refine WX.blkNormal ?_
 refine WX.next ?_
 refine WC.region ?_
 refine WO.v (R.inc rfl (by omega)) rfl ?_
 refine WO.v (R.move rfl) rfl ?_
 refine WO.nil ?_
 refine WX.sel [0, 1, 3, 8, 9, 10] rfl ?_
 have E148 : ((upto untag (upto unheld ((s)).snaps k) j).set j (⟨x111.id, x111.set, x111.chunks, x111.held, (⟨[]⟩ : Str)⟩ : Snap)) = (upto untag (upto unheld ((s)).snaps k) (j + 1)) := upto_set (by assumption)
 have B149 := ((Bl108_0).kp0 k135).kp k146 (fun hm => by have := bd144 _ hm; omega)
 exact WX.loopNextK [0, 1, 8] (j + 1) rfl ⟨⟨_, rfl, rfl⟩, trivial⟩ ⟨((((Kp.refl _).sub (by simp)).step k108 (fun g hg => .inl hg)).step k135 (by simp)).step k146 (fun g hg => .inl hg), B149, by omega, ac_n ((h147).mono (by omega) (by omega) (by omega) (by omega)) E148 rfl⟩ (by show (((s)).snaps.length - (j + 1)) < (((s)).snaps.length - j); omega)
 have p109 : ¬ (((j : Nat) : Int) < ((((s)).snaps.length : Nat) : Int)) := of_decide_eq_false q109
 refine WC.exit ?_
 refine WX.thenExit ?_
 refine WX.loopExit ?_
 refine WX.blkHit ?_
 refine WX.endRet ?_
 refine WX.ret0 Try.results52 ?_
 refine WO.nil ?_
 refine WX.sel [0, 1, 2, 4, 5, 7, 15, 19, 20, 21, 22, 28] rfl ?_
 refine WX.blkNormal ?_
 refine WX.next ?_
 refine WC.region ?_
 refine WO.v (R.inc (m := 1) rfl (by omega)) rfl ?_
 refine WO.v (R.move rfl) rfl ?_
 refine WO.nil ?_
 refine WX.sel [0, 1, 2, 4, 5, 7, 15, 19, 20, 21, 22, 28] rfl ?_
 refine WX.unrNext ?_
 refine WC.seq ?_
 refine WC.region ?_
 refine WO.v (R.lss rfl rfl) rfl ?_
 refine WO.nil ?_
 refine WX.sel [0, 1, 2, 4, 5, 7, 15, 19, 20, 21, 22, 28] rfl ?_
 refine WX.next ?_
 refine WC.seq ?_
 refine WC.cond rfl (fun q150 => ?_) (fun q150 => ?_)
 have p150 : ((2 : Nat) : Int) < ((3 : Nat) : Int) := of_decide_eq_true q150
 refine WC.skip ?_
 refine WX.next ?_
 refine WC.seq ?_
 refine WC.block ?_
 refine WC.seq ?_
 refine WC.region ?_
 refine WO.v (R.indexAddrRaw (i := 2) (k := 4) rfl rfl Try.underlying56 sz60 (by omega) rfl) rfl ?_
 have B151 := (((B98).kp0 n99.kp).kp1 k100 (by omega)).kp k108 (fun hm => by have := bd104 _ hm; omega)
 refine WO.v (R.loadBN (vs := [_, _]) rfl B151 rfl Try.underlying60 rfl sz60) rfl ?_
 refine WO.alloc zr60 rfl ?_
 intro w152 n152
 have z152 : w108.heap.size < w152.heap.size := n152.lt
 have b152 := old_kp0 b108 n152.kp
 have y152 : w.heap.size ≤ w152.heap.size := b152.size
 refine WO.storeBN rfl rfl n152.blk rfl (by simp [Value.oneCell']) sz60 ?_
 intro w153 k153 B153 z_153
 have z153 : w152.heap.size = w153.heap.size := z_153.symm
 have b153 := old_kp b152 k153 (mem1 (by omega))
 have y153 : w.heap.size ≤ w153.heap.size := b153.size
 refine WO.nil ?_
 refine WX.sel [0, 1, 2, 4, 5, 7, 15, 19, 20, 21, 22, 28] rfl ?_
 refine WX.next ?_
 refine WC.seq ?_
 refine WC.region ?_
 refine WO.v (R.move rfl) rfl ?_
 refine WO.v (fa60_0 rfl) rfl ?_
 refine WO.v (R.loadB rfl B153 rfl Try.underlying3 rfl) rfl ?_
 refine WO.v (R.lss rfl rfl) rfl ?_
 refine WO.nil ?_
 refine WX.sel [0, 1, 2, 4, 5, 7, 15, 19, 20, 21, 22, 28] rfl ?_
 refine WX.next ?_
 refine WC.cond rfl (fun q154 => ?_) (fun q154 => ?_)
 have p154 : v < (3 : Int) := of_decide_eq_true q154
 refine WC.region ?_
 refine WO.v (fa60_1 rfl) rfl ?_
 refine WO.v (R.loadB rfl B153 rfl Try.underlying58 rfl) rfl ?_
 refine WO.inl [(.pointer (some ⟨w.heap.size, 0, none⟩))] (E.call rfl rfl Try.func55 rfl rfl) rfl rfl ?_
 refine Ret.enter Try.func55 rfl Try.ntmps55 rfl rfl ?_
 refine WC.sel [0] rfl ?_
 refine WC.region ?_
 refine WO.v (R.move rfl) rfl ?_
 refine WO.v (R.nilCheckP rfl) rfl ?_
 refine WO.v (fa34_3 rfl) rfl ?_
 have B155 := ((Bl108_0).kp0 n152.kp).kp1 k153 (by omega)
 refine WO.storeB (cs' := [_, _, _, _, _, _, _]) rfl rfl B155 rfl rfl sz3 rfl ?_
 intro w156 k156 B156 z_156
 have z156 : w153.heap.size = w156.heap.size := z_156.symm
 have b156 := old_kp b153 k156 (mem1 (by omega))
 have y156 : w.heap.size ≤ w156.heap.size := b156.size
 refine WO.nil ?_
 refine WX.sel [0] rfl ?_
 refine WX.endRet ?_
 refine WX.ret0 Try.results55 ?_
 refine WO.nil ?_
 refine WX.sel [0, 1, 2, 4, 5, 7, 15, 19, 20, 21, 22, 28] rfl ?_
 refine WX.blkNormal ?_
 refine WX.next ?_
 refine WC.region ?_
 refine WO.v (R.inc (m := 2) rfl (by omega)) rfl ?_
 refine WO.v (R.move rfl) rfl ?_
 refine WO.nil ?_
 refine WX.sel [0, 1, 2, 4, 5, 7, 15, 19, 20, 21, 22, 28] rfl ?_
 refine WX.unrNext ?_
 refine WC.seq ?_
 refine WC.region ?_
 refine WO.v (R.lss rfl rfl) rfl ?_
 refine WO.nil ?_
 refine WX.sel [0, 1, 2, 4, 5, 7, 15, 19, 20, 21, 22, 28] rfl ?_
 refine WX.next ?_
 refine WC.seq ?_
 refine WC.cond rfl (fun q157 => ?_) (fun q157 => ?_)
 have p157 : ((3 : Nat) : Int) < ((3 : Nat) : Int) := of_decide_eq_true q157
 exact False.elim (by omega)
 have p157 : ¬ (((3 : Nat) : Int) < ((3 : Nat) : Int)) := of_decide_eq_false q157
 refine WC.exit ?_
 refine WX.thenExit ?_
 refine WX.unrExit ?_
 refine WX.blkHit ?_
 refine WX.next ?_
 refine WC.seq ?_
 refine WC.region ?_
 refine WO.v (R.loadBN (vs := [_, _, _, _, _, _, _]) rfl B156 rfl Try.underlying34 rfl sz34) rfl ?_
 have B158 := (((((((((((((((n15.blk).kp0 k19).kp0 k24).kp1 k41 (by omega)).kp0 n42.kp).kp0 n43.kp).kp0 n44.kp).kp0 n46.kp).kp1 k47 (by omega)).kp k55 (fun hm => by have := bd51 _ hm; omega)).kp0 n99.kp).kp1 k100 (by omega)).kp k108 (fun hm => by have := bd104 _ hm; omega)).kp0 n152.kp).kp1 k153 (by omega)).kp1 k156 (by omega)
 refine WO.storeBN rfl rfl B158 rfl (by simp [Value.oneCell']) sz34 ?_
 intro w159 k159 B159 z_159
 have z159 : w156.heap.size = w159.heap.size := z_159.symm
 have b159 := old_kp b156 k159 (mem1 (by omega))
 have y159 : w.heap.size ≤ w159.heap.size := b159.size
 refine WO.v (R.assign rfl) rfl ?_
 refine WO.nil ?_
 refine WX.sel [0, 1, 2, 4, 5, 7, 15, 19, 20, 21, 22, 28] rfl ?_
 refine WX.next ?_
 refine WC.ret ?_
 have E160 : ((s)).snaps.length = ((upto untag (upto unheld ((s)).snaps k) j)).length := by (try simp only [List.length_nil]); omega
 have e0 : (⟨((s)).version, ((s)).next, ((s)).keep, (0 : Int), ((s)).sess, ((s)).opens, (upto untag (upto unheld ((s)).snaps k) j)⟩ : State) = (viewS s v) := by first | exact viewS1 q20 | (rw [← viewS2 q20, upto_all (l := upto _ _ _) (by rw [upto_len]; omega), upto_all (by omega)]; exact view_1 (by omega)) | (rw [← viewS2 q20, upto_all (by omega)]; exact view_2 (by omega) (by omega)) | (rw [← viewS2 q20]; exact view_3 (by omega) rfl)
 have f0 : Rp.rp true w.heap.size w159.heap.size w159 [(.int .i64 ((s)).version), (.int .i64 ((s)).next), (.int .i64 ((s)).keep), (.int .i64 (0 : Int)), (.slice a31 ((s)).sess.length c32), (.slice a34 ((s)).opens.length c35), (.slice a37 ((s)).snaps.length c38)] (⟨((s)).version, ((s)).next, ((s)).keep, (0 : Int), ((s)).sess, ((s)).opens, (upto untag (upto unheld ((s)).snaps k) j)⟩ : State) := (rp_cast (by rw [← E160]; try rfl) (State.mk_ (i27) (i28) (i29) (show I64 (0) from ⟨by omega, by omega⟩) ((sl_kp (sl_kp (sl_kp (sl_kp0 (sl_kpT (sl_kp (sl_kp0 (sl_kpT (sl_kp (sl_kp0 (sl_kp0 (sl_kp0 (sl_kp0 (sl_kp (s33) k41 (by omega) (mem1 (by omega))) n42.kp (by omega)) n43.kp (by omega)) n44.kp (by omega)) n46.kp (by omega)) k47 (by omega) (mem1 (by omega))) k55 (by omega) ty52 (by decide)) n99.kp (by omega)) k100 (by omega) (mem1 (by omega))) k108 (by omega) ty105 (by decide)) n152.kp (by omega)) k153 (by omega) (mem1 (by omega))) k156 (by omega) (mem1 (by omega))) k159 (by omega) (mem1 (by omega))).mono (lo' := w.heap.size) (hi' := w159.heap.size) (by omega) (by omega)) ((sl_kp (sl_kp (sl_kp (sl_kp0 (sl_kpT (sl_kp (sl_kp0 (sl_kpT (sl_kp (sl_kp0 (sl_kp0 (sl_kp0 (sl_kp0 (sl_kp (s36) k41 (by omega) (mem1 (by omega))) n42.kp (by omega)) n43.kp (by omega)) n44.kp (by omega)) n46.kp (by omega)) k47 (by omega) (mem1 (by omega))) k55 (by omega) ty52 (by decide)) n99.kp (by omega)) k100 (by omega) (mem1 (by omega))) k108 (by omega) ty105 (by decide)) n152.kp (by omega)) k153 (by omega) (mem1 (by omega))) k156 (by omega) (mem1 (by omega))) k159 (by omega) (mem1 (by omega))).mono (lo' := w.heap.size) (hi' := w159.heap.size) (by omega) (by omega)) (sl_n ((ac_kp (ac_kp (ac_kp (ac_kp0 (hup106) n152.kp (by omega) (by omega)) k153 (by omega) (by omega) (mem1 (by omega))) k156 (by omega) (by omega) (mem1 (by omega))) k159 (by omega) (by omega) (mem1 (by omega))).own (L := w.heap.size) (H := w159.heap.size) (by omega) (by omega) (by omega) (by omega)) rfl E160)))
 have e1 : (0 : Int) = (viewE s v) := by first | exact viewE1 q20 | exact viewE2 q20
 refine WX.retCT Try.results15 rfl rfl B159 Try.underlying34 rfl sz34 ?_
 exact ⟨[(.int .i64 ((s)).version), (.int .i64 ((s)).next), (.int .i64 ((s)).keep), (.int .i64 (0 : Int)), (.slice a31 ((s)).sess.length c32), (.slice a34 ((s)).opens.length c35), (.slice a37 ((s)).snaps.length c38)], by rw [e1], (Eq.mp (congrArg (Rp.rp _ _ _ _ _) e0) f0), Kp.of_below b159⟩
 have p154 : ¬ (v < (3 : Int)) := of_decide_eq_false q154
 exact False.elim (by omega)
 have p150 : ¬ (((2 : Nat) : Int) < ((3 : Nat) : Int)) := of_decide_eq_false q150
 exact False.elim (by omega)
 have p101 : ¬ (v < (3 : Int)) := of_decide_eq_false q101
 exact False.elim (by omega)
 have p97 : ¬ (((1 : Nat) : Int) < ((3 : Nat) : Int)) := of_decide_eq_false q97
 exact False.elim (by omega)
 have p48 : ¬ (v < (2 : Int)) := of_decide_eq_false q48
 refine WC.skip ?_
 refine WX.blkNormal ?_
 refine WX.next ?_
 refine WC.region ?_
 refine WO.v (R.inc (m := 0) rfl (by omega)) rfl ?_
 refine WO.v (R.move rfl) rfl ?_
 refine WO.nil ?_
 refine WX.sel [0, 1, 2, 4, 5, 7, 15, 19, 20, 21, 22, 28] rfl ?_
 refine WX.unrNext ?_
 refine WC.seq ?_
 refine WC.region ?_
 refine WO.v (R.lss rfl rfl) rfl ?_
 refine WO.nil ?_
 refine WX.sel [0, 1, 2, 4, 5, 7, 15, 19, 20, 21, 22, 28] rfl ?_
 refine WX.next ?_
 refine WC.seq ?_
 refine WC.cond rfl (fun q161 => ?_) (fun q161 => ?_)
 have p161 : ((1 : Nat) : Int) < ((3 : Nat) : Int) := of_decide_eq_true q161
 refine WC.skip ?_
 refine WX.next ?_
 refine WC.seq ?_
 refine WC.block ?_
 refine WC.seq ?_
 refine WC.region ?_
 refine WO.v (R.indexAddrRaw (i := 1) (k := 2) rfl rfl Try.underlying56 sz60 (by omega) rfl) rfl ?_
 have B162 := ((n44.blk).kp0 n46.kp).kp1 k47 (by omega)
 refine WO.v (R.loadBN (vs := [_, _]) rfl B162 rfl Try.underlying60 rfl sz60) rfl ?_
 refine WO.alloc zr60 rfl ?_
 intro w163 n163
 have z163 : w47.heap.size < w163.heap.size := n163.lt
 have b163 := old_kp0 b47 n163.kp
 have y163 : w.heap.size ≤ w163.heap.size := b163.size
 refine WO.storeBN rfl rfl n163.blk rfl (by simp [Value.oneCell']) sz60 ?_
 intro w164 k164 B164 z_164
 have z164 : w163.heap.size = w164.heap.size := z_164.symm
 have b164 := old_kp b163 k164 (mem1 (by omega))
 have y164 : w.heap.size ≤ w164.heap.size := b164.size
 refine WO.nil ?_
 refine WX.sel [0, 1, 2, 4, 5, 7, 15, 19, 20, 21, 22, 28] rfl ?_
 refine WX.next ?_
 refine WC.seq ?_
 refine WC.region ?_
 refine WO.v (R.move rfl) rfl ?_
 refine WO.v (fa60_0 rfl) rfl ?_
 refine WO.v (R.loadB rfl B164 rfl Try.underlying3 rfl) rfl ?_
 refine WO.v (R.lss rfl rfl) rfl ?_
 refine WO.nil ?_
 refine WX.sel [0, 1, 2, 4, 5, 7, 15, 19, 20, 21, 22, 28] rfl ?_
 refine WX.next ?_
 refine WC.cond rfl (fun q165 => ?_) (fun q165 => ?_)
 have p165 : v < (3 : Int) := of_decide_eq_true q165
 refine WC.region ?_
 refine WO.v (fa60_1 rfl) rfl ?_
 refine WO.v (R.loadB rfl B164 rfl Try.underlying58 rfl) rfl ?_
 refine WO.inl [(.pointer (some ⟨w.heap.size, 0, none⟩)), (.pointer (some ⟨w42.heap.size, 0, none⟩))] (E.call rfl rfl Try.func52 rfl rfl) rfl rfl ?_
 refine Ret.enter Try.func52 rfl Try.ntmps52 rfl rfl ?_
 refine WC.sel [0, 1] rfl ?_
 refine WC.seq ?_
 refine WC.region ?_
 refine WO.v (R.move rfl) rfl ?_
 refine WO.v (R.nilCheckP rfl) rfl ?_
 refine WO.v (fa34_6 rfl) rfl ?_
 have B166 := (((((((B41).kp0 n42.kp).kp0 n43.kp).kp0 n44.kp).kp0 n46.kp).kp1 k47 (by omega)).kp0 n163.kp).kp1 k164 (by omega)
 refine WO.v (R.loadB rfl B166 rfl Try.underlying32 rfl) rfl ?_
 refine WO.v (R.len rfl Try.underlying32) rfl ?_
 refine WO.v (R.move rfl) rfl ?_
 refine WO.nil ?_
 refine WX.sel [0, 1, 8, 9] rfl ?_
 refine WX.next ?_
 refine WC.block ?_
 have ac167 := (sl_kp (sl_kp0 (sl_kp (sl_kp0 (sl_kp0 (sl_kp0 (sl_kp0 (sl_kp (s39) k41 (by omega) (mem1 (by omega))) n42.kp (by omega)) n43.kp (by omega)) n44.kp (by omega)) n46.kp (by omega)) k47 (by omega) (mem1 (by omega))) n163.kp (by omega)) k164 (by omega) (mem1 (by omega))).ac
 have bd168 := ac167.bd
 have ty169 := ac167.ty
 refine WC.loopK [0, 1, 8] rfl (fun zz : Nat => [(9, (.int .i64 (((zz) : Nat) : Int)))]) (fun (zz : Nat) (w' : World) => (Kp (ob (.slice a37 ((s)).snaps.length c38)) w164 w') ∧ (Blk w' (w.heap.size) 34 [(.int .i64 ((s)).version), (.int .i64 ((s)).next), (.int .i64 ((s)).keep), (.int .i64 ((s)).quota), (.slice a31 ((s)).sess.length c32), (.slice a34 ((s)).opens.length c35), (.slice a37 ((s)).snaps.length c38)]) ∧ ((zz) ≤ ((s)).snaps.length) ∧ (Ac (α := Snap) (w19.heap.size) true (w19.heap.size) (w24.heap.size) (w24.heap.size) w' (.slice a37 ((s)).snaps.length c38) (upto untag ((s)).snaps (zz)))) (fun zz => ((s)).snaps.length - (zz)) (0) ?_ ?_ ?_
 exact ⟨⟨_, rfl, rfl⟩, trivial⟩
 exact ⟨(Kp.refl _).sub (by simp), B166, Nat.zero_le _, ac_n ((ac167).mono (Nat.le_refl _) (Nat.le_refl _) (by omega) (by omega)) upto_zero rfl⟩
 rintro j w172 ⟨k172, Bl172_0, hkhup170, hup170⟩
 try dsimp only at Bl172_0 hkhup170 hup170
 have z172 : w164.heap.size ≤ w172.heap.size := k172.size
 have b172 := old_kp b164 k172 (fun g hg => by have := bd168 g hg; omega)
 have y172 : w.heap.size ≤ w172.heap.size := b172.size
 refine (?_ : WC _ _ _ _ ([(9, (.int .i64 ((j : Nat) : Int)))] ++ _) w172)
 have ulhup170 : (upto untag ((s)).snaps j).length = (((s)).snaps).length := upto_len
 have lenhup170 : ((upto untag ((s)).snaps j)).length * 64 ≤ 140737488355328 := hup170.lenle
 refine WC.seq ?_
 refine WC.region ?_
 refine WO.v (R.lss rfl rfl) rfl ?_
 refine WO.nil ?_
 refine WX.sel [0, 1, 8, 9, 10] rfl ?_
 refine WX.next ?_
 refine WC.seq ?_
 refine WC.cond rfl (fun q173 => ?_) (fun q173 => ?_)
 have p173 : ((j : Nat) : Int) < ((((s)).snaps.length : Nat) : Int) := of_decide_eq_true q173
 refine WC.skip ?_
 refine WX.next ?_
 refine WC.seq ?_
 refine WC.block ?_
 refine WC.seq ?_
 refine WC.region ?_
 refine WO.v (R.move rfl) rfl ?_
 refine WO.v (R.assign rfl) rfl ?_
 refine WO.nil ?_
 refine WX.sel [0, 1, 3, 8, 9, 10] rfl ?_
 refine WX.next ?_
 refine WC.sel [0, 1, 3, 8, 9, 10] rfl ?_
 have B174 := ((((((n43.blk).kp0 n44.kp).kp0 n46.kp).kp1 k47 (by omega)).kp0 n163.kp).kp1 k164 (by omega)).kp k172 (fun hm => by have := bd168 _ hm; omega)
 obtain ⟨x175, hx175⟩ := get_ex (xs := (upto untag ((s)).snaps j)) (i := j) (by omega)
 obtain ⟨A176, cs177, hA176, loA176, hiA176, ccA176, r178⟩ := (((hup170).pub (L := 0) (H := w172.heap.size) (by omega) (by omega) (by omega) (by omega))).at_ hx175
 obtain ⟨a181, c182, rfl, i179, i180, s183, i184⟩ := Snap.el r178
 have ls183 : (x175.chunks).length * 8 ≤ 140737488355328 := s183.lenle
 refine WC.draw' mixed_orders [.ex [] (.func (.func 54) #[] [].toArray), .ex [] (.pointer (some ⟨w.heap.size, 0, none⟩)), .ex [1] (.pointer (some ⟨w.heap.size, 0, none⟩)), .ex [2] (.pointer (some ⟨w.heap.size, 6, none⟩)), .ex [3] (.slice a37 ((s)).snaps.length c38), .ex [] (.int .i64 ((j : Nat) : Int)), .ex [4, 5] (.pointer (some (A176.add (j * 5))))] 7 (by kernel_rfl) ⟨fun _ _ _ h _ => h, fun _ _ _ h _ => h, fun _ _ _ h _ => h, fun _ _ _ h _ => h, fun _ _ _ h _ => h, fun _ _ _ h _ => h, fun _ _ _ h _ => h, trivial⟩ ⟨?_, ?_, ?_, ?_, ?_, ?_, ?_, trivial⟩ ?_
 rintro vs w185 k185 ⟨-⟩
 replace k185 : Kp [] w172 w185 := k185
 have z185 : w172.heap.size ≤ w185.heap.size := k185.size
 have b185 := old_kp0 b172 k185
 have y185 : w.heap.size ≤ w185.heap.size := b185.size
 refine WO.haves (fr' := [(1, (.pointer (some ⟨w42.heap.size, 0, none⟩)))]) ⟨⟨_, rfl, rfl⟩, trivial⟩ ?_
 have B186 := (((((((n43.blk).kp0 n44.kp).kp0 n46.kp).kp1 k47 (by omega)).kp0 n163.kp).kp1 k164 (by omega)).kp k172 (fun hm => by have := bd168 _ hm; omega)).kp0 k185
 refine WO.v (R.loadB rfl B186 rfl Try.underlying77 rfl) rfl ?_
 refine WO.nil ?_
 exact WX.stepDone rfl rfl (Kp.refl _)
 rintro vs w187 k187 ⟨-⟩
 replace k187 : Kp [] w172 w187 := k187
 refine WO.haves (fr' := [(0, (.pointer (some ⟨w.heap.size, 0, none⟩)))]) ⟨⟨_, rfl, rfl⟩, trivial⟩ ?_
 refine WO.v (R.move rfl) rfl ?_
 refine WO.nil ?_
 exact WX.stepDone rfl rfl (Kp.refl _)
 rintro vs w188 k188 ⟨e189, -⟩
 replace k188 : Kp [] w172 w188 := k188
 refine WO.haves (fr' := [(13, (.pointer (some ⟨w.heap.size, 0, none⟩)))]) ⟨⟨_, rfl, e189⟩, trivial⟩ ?_
 refine WO.v (R.nilCheckP rfl) rfl ?_
 refine WO.nil ?_
 exact WX.stepDone rfl rfl (Kp.refl _)
 rintro vs w190 k190 ⟨e191, -⟩
 replace k190 : Kp [] w172 w190 := k190
 refine WO.haves (fr' := [(14, (.pointer (some ⟨w.heap.size, 0, none⟩)))]) ⟨⟨_, rfl, e191⟩, trivial⟩ ?_
 refine WO.v (fa34_6 rfl) rfl ?_
 refine WO.nil ?_
 exact WX.stepDone rfl rfl (Kp.refl _)
 rintro vs w192 k192 ⟨e193, -⟩
 replace k192 : Kp [] w172 w192 := k192
 have z192 : w172.heap.size ≤ w192.heap.size := k192.size
 have b192 := old_kp0 b172 k192
 have y192 : w.heap.size ≤ w192.heap.size := b192.size
 refine WO.haves (fr' := [(15, (.pointer (some ⟨w.heap.size, 6, none⟩)))]) ⟨⟨_, rfl, e193⟩, trivial⟩ ?_
 have B194 := (Bl172_0).kp0 k192
 refine WO.v (R.loadB rfl B194 rfl Try.underlying32 rfl) rfl ?_
 refine WO.nil ?_
 exact WX.stepDone rfl rfl (Kp.refl _)
 rintro vs w195 k195 ⟨-⟩
 replace k195 : Kp [] w172 w195 := k195
 refine WO.haves (fr' := [(3, (.int .i64 ((j : Nat) : Int)))]) ⟨⟨_, rfl, rfl⟩, trivial⟩ ?_
 refine WO.v (R.move rfl) rfl ?_
 refine WO.nil ?_
 exact WX.stepDone rfl rfl (Kp.refl _)
 rintro vs w196 k196 ⟨e197, e198, -⟩
 replace k196 : Kp [] w172 w196 := k196
 refine WO.haves (fr' := [(16, (.slice a37 ((s)).snaps.length c38)), (17, (.int .i64 ((j : Nat) : Int)))]) ⟨⟨_, rfl, e197⟩, ⟨_, rfl, e198⟩, trivial⟩ ?_
 refine WO.v (R.indexAddrN rfl rfl Try.underlying32 sz46 hA176 (by omega)) rfl ?_
 refine WO.nil ?_
 exact WX.stepDone rfl rfl (Kp.refl _)
 rintro vs w199 k199 ⟨e200, -, -, -, -, -, e206, -⟩
 replace k199 : Kp [] w172 w199 := k199
 have z199 : w172.heap.size ≤ w199.heap.size := k199.size
 have b199 := old_kp0 b172 k199
 have y199 : w.heap.size ≤ w199.heap.size := b199.size
 refine WO.haves (fr' := [(12, (.func (.func 54) #[] [].toArray)), (18, (.pointer (some (A176.add (j * 5))))), (0, (.pointer (some ⟨w.heap.size, 0, none⟩))), (1, (.pointer (some ⟨w42.heap.size, 0, none⟩))), (3, (.int .i64 ((j : Nat) : Int))), (8, (.int .i64 ((((s)).snaps.length : Nat) : Int))), (9, (.int .i64 ((j : Nat) : Int))), (10, (.bool (decide (((j : Nat) : Int) < ((((s)).snaps.length : Nat) : Int)))))]) ⟨⟨_, rfl, e200⟩, ⟨_, rfl, e206⟩, ⟨_, rfl, rfl⟩, ⟨_, rfl, rfl⟩, ⟨_, rfl, rfl⟩, ⟨_, rfl, rfl⟩, ⟨_, rfl, rfl⟩, ⟨_, rfl, rfl⟩, trivial⟩ ?_
 refine WO.inl [(.pointer (some (A176.add (j * 5))))] (E.call rfl rfl Try.func54 rfl rfl) rfl rfl ?_
 refine Ret.enter Try.func54 rfl Try.ntmps54 rfl rfl ?_
 refine WC.sel [0] rfl ?_
 refine WC.region ?_
 refine WO.v (R.move rfl) rfl ?_
 refine WO.v (R.nilCheckP rfl) rfl ?_
 refine WO.v (fe46_4 rfl) rfl ?_
 have ac207 := (ac_kp0 (hup170) k199 (by omega) (by omega)).mono (Nat.le_refl _) (Nat.le_refl _) (by omega : _ ≤ w24.heap.size) (Nat.le_refl _)
 have bd208 := ac207.bd
 have ty209 := ac207.ty
 refine WO.storeE (j := 4) (z := (⟨x175.id, x175.set, x175.chunks, x175.held, (⟨[]⟩ : Str)⟩ : Snap)) rfl rfl ac207 (by omega) hA176 hx175 (by decide) rfl rfl sz9 (.inr (.inl ⟨rfl, by decide⟩)) (fun cs h => set_Snap_4 h (by simp)) ?_
 intro w210 h211 k210 z_210
 have z210 : w199.heap.size = w210.heap.size := z_210.symm
 have b210 := old_kp b199 k210 (fun g hg => by have := bd208 g hg; omega)
 have y210 : w.heap.size ≤ w210.heap.size := b210.size
 have lsh211 : ((upto untag ((s)).snaps j).set j (⟨x175.id, x175.set, x175.chunks, x175.held, (⟨[]⟩ : Str)⟩ : Snap)).length = (upto untag ((s)).snaps j).length := List.length_set
 refine WO.nil ?_
 refine WX.sel [0] rfl ?_
 refine WX.endRet ?_
 refine WX.ret0 Try.results54 ?_
 refine WO.nil ?_
 refine WX.sel [0, 1, 3, 8, 9, 10] rfl ?_
 refine WX.blkNormal ?_
 refine WX.next ?_
 refine WC.region ?_
 refine WO.v (R.inc rfl (by omega)) rfl ?_
 refine WO.v (R.move rfl) rfl ?_
 refine WO.nil ?_
 refine WX.sel [0, 1, 3, 8, 9, 10] rfl ?_
 have E212 : ((upto untag ((s)).snaps j).set j (⟨x175.id, x175.set, x175.chunks, x175.held, (⟨[]⟩ : Str)⟩ : Snap)) = (upto untag ((s)).snaps (j + 1)) := upto_set (by assumption)
 have B213 := ((Bl172_0).kp0 k199).kp k210 (fun hm => by have := bd208 _ hm; omega)
 exact WX.loopNextK [0, 1, 8] (j + 1) rfl ⟨⟨_, rfl, rfl⟩, trivial⟩ ⟨((((Kp.refl _).sub (by simp)).step k172 (fun g hg => .inl hg)).step k199 (by simp)).step k210 (fun g hg => .inl hg), B213, by omega, ac_n ((h211).mono (by omega) (by omega) (by omega) (by omega)) E212 rfl⟩ (by show (((s)).snaps.length - (j + 1)) < (((s)).snaps.length - j); omega)
 have p173 : ¬ (((j : Nat) : Int) < ((((s)).snaps.length : Nat) : Int)) := of_decide_eq_false q173
 refine WC.exit ?_
 refine WX.thenExit ?_
 refine WX.loopExit ?_
 refine WX.blkHit ?_
 refine WX.endRet ?_
 refine WX.ret0 Try.results52 ?_
 refine WO.nil ?_
 refine WX.sel [0, 1, 2, 4, 5, 7, 15, 19, 20, 21, 22, 28] rfl ?_
 refine WX.blkNormal ?_
 refine WX.next ?_
 refine WC.region ?_
 refine WO.v (R.inc (m := 1) rfl (by omega)) rfl ?_
 refine WO.v (R.move rfl) rfl ?_
 refine WO.nil ?_
 refine WX.sel [0, 1, 2, 4, 5, 7, 15, 19, 20, 21, 22, 28] rfl ?_
 refine WX.unrNext ?_
 refine WC.seq ?_
 refine WC.region ?_
 refine WO.v (R.lss rfl rfl) rfl ?_
 refine WO.nil ?_
 refine WX.sel [0, 1, 2, 4, 5, 7, 15, 19, 20, 21, 22, 28] rfl ?_
 refine WX.next ?_
 refine WC.seq ?_
 refine WC.cond rfl (fun q214 => ?_) (fun q214 => ?_)
 have p214 : ((2 : Nat) : Int) < ((3 : Nat) : Int) := of_decide_eq_true q214
 refine WC.skip ?_
 refine WX.next ?_
 refine WC.seq ?_
 refine WC.block ?_
 refine WC.seq ?_
 refine WC.region ?_
 refine WO.v (R.indexAddrRaw (i := 2) (k := 4) rfl rfl Try.underlying56 sz60 (by omega) rfl) rfl ?_
 have B215 := (((B162).kp0 n163.kp).kp1 k164 (by omega)).kp k172 (fun hm => by have := bd168 _ hm; omega)
 refine WO.v (R.loadBN (vs := [_, _]) rfl B215 rfl Try.underlying60 rfl sz60) rfl ?_
 refine WO.alloc zr60 rfl ?_
 intro w216 n216
 have z216 : w172.heap.size < w216.heap.size := n216.lt
 have b216 := old_kp0 b172 n216.kp
 have y216 : w.heap.size ≤ w216.heap.size := b216.size
 refine WO.storeBN rfl rfl n216.blk rfl (by simp [Value.oneCell']) sz60 ?_
 intro w217 k217 B217 z_217
 have z217 : w216.heap.size = w217.heap.size := z_217.symm
 have b217 := old_kp b216 k217 (mem1 (by omega))
 have y217 : w.heap.size ≤ w217.heap.size := b217.size
 refine WO.nil ?_
 refine WX.sel [0, 1, 2, 4, 5, 7, 15, 19, 20, 21, 22, 28] rfl ?_
 refine WX.next ?_
 refine WC.seq ?_
 refine WC.region ?_
 refine WO.v (R.move rfl) rfl ?_
 refine WO.v (fa60_0 rfl) rfl ?_
 refine WO.v (R.loadB rfl B217 rfl Try.underlying3 rfl) rfl ?_
 refine WO.v (R.lss rfl rfl) rfl ?_
 refine WO.nil ?_
 refine WX.sel [0, 1, 2, 4, 5, 7, 15, 19, 20, 21, 22, 28] rfl ?_
 refine WX.next ?_
 refine WC.cond rfl (fun q218 => ?_) (fun q218 => ?_)
 have p218 : v < (3 : Int) := of_decide_eq_true q218
 refine WC.region ?_
 refine WO.v (fa60_1 rfl) rfl ?_
 refine WO.v (R.loadB rfl B217 rfl Try.underlying58 rfl) rfl ?_
 refine WO.inl [(.pointer (some ⟨w.heap.size, 0, none⟩))] (E.call rfl rfl Try.func55 rfl rfl) rfl rfl ?_
 refine Ret.enter Try.func55 rfl Try.ntmps55 rfl rfl ?_
 refine WC.sel [0] rfl ?_
 refine WC.region ?_
 refine WO.v (R.move rfl) rfl ?_
 refine WO.v (R.nilCheckP rfl) rfl ?_
 refine WO.v (fa34_3 rfl) rfl ?_
 have B219 := ((Bl172_0).kp0 n216.kp).kp1 k217 (by omega)
 refine WO.storeB (cs' := [_, _, _, _, _, _, _]) rfl rfl B219 rfl rfl sz3 rfl ?_
 intro w220 k220 B220 z_220
 have z220 : w217.heap.size = w220.heap.size := z_220.symm
 have b220 := old_kp b217 k220 (mem1 (by omega))
 have y220 : w.heap.size ≤ w220.heap.size := b220.size
 refine WO.nil ?_
 refine WX.sel [0] rfl ?_
 refine WX.endRet ?_
 refine WX.ret0 Try.results55 ?_
 refine WO.nil ?_
 refine WX.sel [0, 1, 2, 4, 5, 7, 15, 19, 20, 21, 22, 28] rfl ?_
 refine WX.blkNormal ?_
 refine WX.next ?_
 refine WC.region ?_
 refine WO.v (R.inc (m := 2) rfl (by omega)) rfl ?_
 refine WO.v (R.move rfl) rfl ?_
 refine WO.nil ?_
 refine WX.sel [0, 1, 2, 4, 5, 7, 15, 19, 20, 21, 22, 28] rfl ?_
 refine WX.unrNext ?_
 refine WC.seq ?_
 refine WC.region ?_
 refine WO.v (R.lss rfl rfl) rfl ?_
 refine WO.nil ?_
 refine WX.sel [0, 1, 2, 4, 5, 7, 15, 19, 20, 21, 22, 28] rfl ?_
 refine WX.next ?_
 refine WC.seq ?_
 refine WC.cond rfl (fun q221 => ?_) (fun q221 => ?_)
 have p221 : ((3 : Nat) : Int) < ((3 : Nat) : Int) := of_decide_eq_true q221
 exact False.elim (by omega)
 have p221 : ¬ (((3 : Nat) : Int) < ((3 : Nat) : Int)) := of_decide_eq_false q221
 refine WC.exit ?_
 refine WX.thenExit ?_
 refine WX.unrExit ?_
 refine WX.blkHit ?_
 refine WX.next ?_
 refine WC.seq ?_
 refine WC.region ?_
 refine WO.v (R.loadBN (vs := [_, _, _, _, _, _, _]) rfl B220 rfl Try.underlying34 rfl sz34) rfl ?_
 have B222 := ((((((((((((((n15.blk).kp0 k19).kp0 k24).kp1 k41 (by omega)).kp0 n42.kp).kp0 n43.kp).kp0 n44.kp).kp0 n46.kp).kp1 k47 (by omega)).kp0 n163.kp).kp1 k164 (by omega)).kp k172 (fun hm => by have := bd168 _ hm; omega)).kp0 n216.kp).kp1 k217 (by omega)).kp1 k220 (by omega)
 refine WO.storeBN rfl rfl B222 rfl (by simp [Value.oneCell']) sz34 ?_
 intro w223 k223 B223 z_223
 have z223 : w220.heap.size = w223.heap.size := z_223.symm
 have b223 := old_kp b220 k223 (mem1 (by omega))
 have y223 : w.heap.size ≤ w223.heap.size := b223.size
 refine WO.v (R.assign rfl) rfl ?_
 refine WO.nil ?_
 refine WX.sel [0, 1, 2, 4, 5, 7, 15, 19, 20, 21, 22, 28] rfl ?_
 refine WX.next ?_
 refine WC.ret ?_
 have E224 : ((s)).snaps.length = ((upto untag ((s)).snaps j)).length := by (try simp only [List.length_nil]); omega
 have e0 : (⟨((s)).version, ((s)).next, ((s)).keep, (0 : Int), ((s)).sess, ((s)).opens, (upto untag ((s)).snaps j)⟩ : State) = (viewS s v) := by first | exact viewS1 q20 | (rw [← viewS2 q20, upto_all (l := upto _ _ _) (by rw [upto_len]; omega), upto_all (by omega)]; exact view_1 (by omega)) | (rw [← viewS2 q20, upto_all (by omega)]; exact view_2 (by omega) (by omega)) | (rw [← viewS2 q20]; exact view_3 (by omega) rfl)
 have f0 : Rp.rp true w.heap.size w223.heap.size w223 [(.int .i64 ((s)).version), (.int .i64 ((s)).next), (.int .i64 ((s)).keep), (.int .i64 (0 : Int)), (.slice a31 ((s)).sess.length c32), (.slice a34 ((s)).opens.length c35), (.slice a37 ((s)).snaps.length c38)] (⟨((s)).version, ((s)).next, ((s)).keep, (0 : Int), ((s)).sess, ((s)).opens, (upto untag ((s)).snaps j)⟩ : State) := (rp_cast (by rw [← E224]; try rfl) (State.mk_ (i27) (i28) (i29) (show I64 (0) from ⟨by omega, by omega⟩) ((sl_kp (sl_kp (sl_kp (sl_kp0 (sl_kpT (sl_kp (sl_kp0 (sl_kp (sl_kp0 (sl_kp0 (sl_kp0 (sl_kp0 (sl_kp (s33) k41 (by omega) (mem1 (by omega))) n42.kp (by omega)) n43.kp (by omega)) n44.kp (by omega)) n46.kp (by omega)) k47 (by omega) (mem1 (by omega))) n163.kp (by omega)) k164 (by omega) (mem1 (by omega))) k172 (by omega) ty169 (by decide)) n216.kp (by omega)) k217 (by omega) (mem1 (by omega))) k220 (by omega) (mem1 (by omega))) k223 (by omega) (mem1 (by omega))).mono (lo' := w.heap.size) (hi' := w223.heap.size) (by omega) (by omega)) ((sl_kp (sl_kp (sl_kp (sl_kp0 (sl_kpT (sl_kp (sl_kp0 (sl_kp (sl_kp0 (sl_kp0 (sl_kp0 (sl_kp0 (sl_kp (s36) k41 (by omega) (mem1 (by omega))) n42.kp (by omega)) n43.kp (by omega)) n44.kp (by omega)) n46.kp (by omega)) k47 (by omega) (mem1 (by omega))) n163.kp (by omega)) k164 (by omega) (mem1 (by omega))) k172 (by omega) ty169 (by decide)) n216.kp (by omega)) k217 (by omega) (mem1 (by omega))) k220 (by omega) (mem1 (by omega))) k223 (by omega) (mem1 (by omega))).mono (lo' := w.heap.size) (hi' := w223.heap.size) (by omega) (by omega)) (sl_n ((ac_kp (ac_kp (ac_kp (ac_kp0 (hup170) n216.kp (by omega) (by omega)) k217 (by omega) (by omega) (mem1 (by omega))) k220 (by omega) (by omega) (mem1 (by omega))) k223 (by omega) (by omega) (mem1 (by omega))).own (L := w.heap.size) (H := w223.heap.size) (by omega) (by omega) (by omega) (by omega)) rfl E224)))
 have e1 : (0 : Int) = (viewE s v) := by first | exact viewE1 q20 | exact viewE2 q20
 refine WX.retCT Try.results15 rfl rfl B223 Try.underlying34 rfl sz34 ?_
 exact ⟨[(.int .i64 ((s)).version), (.int .i64 ((s)).next), (.int .i64 ((s)).keep), (.int .i64 (0 : Int)), (.slice a31 ((s)).sess.length c32), (.slice a34 ((s)).opens.length c35), (.slice a37 ((s)).snaps.length c38)], by rw [e1], (Eq.mp (congrArg (Rp.rp _ _ _ _ _) e0) f0), Kp.of_below b223⟩
 have p218 : ¬ (v < (3 : Int)) := of_decide_eq_false q218
 exact False.elim (by omega)
 have p214 : ¬ (((2 : Nat) : Int) < ((3 : Nat) : Int)) := of_decide_eq_false q214
 exact False.elim (by omega)
 have p165 : ¬ (v < (3 : Int)) := of_decide_eq_false q165
 refine WC.skip ?_
 refine WX.blkNormal ?_
 refine WX.next ?_
 refine WC.region ?_
 refine WO.v (R.inc (m := 1) rfl (by omega)) rfl ?_
 refine WO.v (R.move rfl) rfl ?_
 refine WO.nil ?_
 refine WX.sel [0, 1, 2, 4, 5, 7, 15, 19, 20, 21, 22, 28] rfl ?_
 refine WX.unrNext ?_
 refine WC.seq ?_
 refine WC.region ?_
 refine WO.v (R.lss rfl rfl) rfl ?_
 refine WO.nil ?_
 refine WX.sel [0, 1, 2, 4, 5, 7, 15, 19, 20, 21, 22, 28] rfl ?_
 refine WX.next ?_
 refine WC.seq ?_
 refine WC.cond rfl (fun q225 => ?_) (fun q225 => ?_)
 have p225 : ((2 : Nat) : Int) < ((3 : Nat) : Int) := of_decide_eq_true q225
 refine WC.skip ?_
 refine WX.next ?_
 refine WC.seq ?_
 refine WC.block ?_
 refine WC.seq ?_
 refine WC.region ?_
 refine WO.v (R.indexAddrRaw (i := 2) (k := 4) rfl rfl Try.underlying56 sz60 (by omega) rfl) rfl ?_
 have B226 := ((B162).kp0 n163.kp).kp1 k164 (by omega)
 refine WO.v (R.loadBN (vs := [_, _]) rfl B226 rfl Try.underlying60 rfl sz60) rfl ?_
 refine WO.alloc zr60 rfl ?_
 intro w227 n227
 have z227 : w164.heap.size < w227.heap.size := n227.lt
 have b227 := old_kp0 b164 n227.kp
 have y227 : w.heap.size ≤ w227.heap.size := b227.size
 refine WO.storeBN rfl rfl n227.blk rfl (by simp [Value.oneCell']) sz60 ?_
 intro w228 k228 B228 z_228
 have z228 : w227.heap.size = w228.heap.size := z_228.symm
 have b228 := old_kp b227 k228 (mem1 (by omega))
 have y228 : w.heap.size ≤ w228.heap.size := b228.size
 refine WO.nil ?_
 refine WX.sel [0, 1, 2, 4, 5, 7, 15, 19, 20, 21, 22, 28] rfl ?_
 refine WX.next ?_
 refine WC.seq ?_
 refine WC.region ?_
 refine WO.v (R.move rfl) rfl ?_
 refine WO.v (fa60_0 rfl) rfl ?_
 refine WO.v (R.loadB rfl B228 rfl Try.underlying3 rfl) rfl ?_
 refine WO.v (R.lss rfl rfl) rfl ?_
 refine WO.nil ?_
 refine WX.sel [0, 1, 2, 4, 5, 7, 15, 19, 20, 21, 22, 28] rfl ?_
 refine WX.next ?_
 refine WC.cond rfl (fun q229 => ?_) (fun q229 => ?_)
 have p229 : v < (3 : Int) := of_decide_eq_true q229
 exact False.elim (by omega)
 have p229 : ¬ (v < (3 : Int)) := of_decide_eq_false q229
 refine WC.skip ?_
 refine WX.blkNormal ?_
 refine WX.next ?_
 refine WC.region ?_
 refine WO.v (R.inc (m := 2) rfl (by omega)) rfl ?_
 refine WO.v (R.move rfl) rfl ?_
 refine WO.nil ?_
 refine WX.sel [0, 1, 2, 4, 5, 7, 15, 19, 20, 21, 22, 28] rfl ?_
 refine WX.unrNext ?_
 refine WC.seq ?_
 refine WC.region ?_
 refine WO.v (R.lss rfl rfl) rfl ?_
 refine WO.nil ?_
 refine WX.sel [0, 1, 2, 4, 5, 7, 15, 19, 20, 21, 22, 28] rfl ?_
 refine WX.next ?_
 refine WC.seq ?_
 refine WC.cond rfl (fun q230 => ?_) (fun q230 => ?_)
 have p230 : ((3 : Nat) : Int) < ((3 : Nat) : Int) := of_decide_eq_true q230
 exact False.elim (by omega)
 have p230 : ¬ (((3 : Nat) : Int) < ((3 : Nat) : Int)) := of_decide_eq_false q230
 refine WC.exit ?_
 refine WX.thenExit ?_
 refine WX.unrExit ?_
 refine WX.blkHit ?_
 refine WX.next ?_
 refine WC.seq ?_
 refine WC.region ?_
 have B231 := (((((((((B41).kp0 n42.kp).kp0 n43.kp).kp0 n44.kp).kp0 n46.kp).kp1 k47 (by omega)).kp0 n163.kp).kp1 k164 (by omega)).kp0 n227.kp).kp1 k228 (by omega)
 refine WO.v (R.loadBN (vs := [_, _, _, _, _, _, _]) rfl B231 rfl Try.underlying34 rfl sz34) rfl ?_
 have B232 := ((((((((((((n15.blk).kp0 k19).kp0 k24).kp1 k41 (by omega)).kp0 n42.kp).kp0 n43.kp).kp0 n44.kp).kp0 n46.kp).kp1 k47 (by omega)).kp0 n163.kp).kp1 k164 (by omega)).kp0 n227.kp).kp1 k228 (by omega)
 refine WO.storeBN rfl rfl B232 rfl (by simp [Value.oneCell']) sz34 ?_
 intro w233 k233 B233 z_233
 have z233 : w228.heap.size = w233.heap.size := z_233.symm
 have b233 := old_kp b228 k233 (mem1 (by omega))
 have y233 : w.heap.size ≤ w233.heap.size := b233.size
 refine WO.v (R.assign rfl) rfl ?_
 refine WO.nil ?_
 refine WX.sel [0, 1, 2, 4, 5, 7, 15, 19, 20, 21, 22, 28] rfl ?_
 refine WX.next ?_
 refine WC.ret ?_
 have e0 : ((s)) = (viewS s v) := by first | exact viewS1 q20 | (rw [← viewS2 q20, upto_all (l := upto _ _ _) (by rw [upto_len]; omega), upto_all (by omega)]; exact view_1 (by omega)) | (rw [← viewS2 q20, upto_all (by omega)]; exact view_2 (by omega) (by omega)) | (rw [← viewS2 q20]; exact view_3 (by omega) rfl)
 have f0 : Rp.rp true w.heap.size w233.heap.size w233 [(.int .i64 ((s)).version), (.int .i64 ((s)).next), (.int .i64 ((s)).keep), (.int .i64 ((s)).quota), (.slice a31 ((s)).sess.length c32), (.slice a34 ((s)).opens.length c35), (.slice a37 ((s)).snaps.length c38)] ((s)) := (State.mk_ (i27) (i28) (i29) (i30) ((sl_kp (sl_kp (sl_kp0 (sl_kp (sl_kp0 (sl_kp (sl_kp0 (sl_kp0 (sl_kp0 (sl_kp0 (sl_kp (s33) k41 (by omega) (mem1 (by omega))) n42.kp (by omega)) n43.kp (by omega)) n44.kp (by omega)) n46.kp (by omega)) k47 (by omega) (mem1 (by omega))) n163.kp (by omega)) k164 (by omega) (mem1 (by omega))) n227.kp (by omega)) k228 (by omega) (mem1 (by omega))) k233 (by omega) (mem1 (by omega))).mono (lo' := w.heap.size) (hi' := w233.heap.size) (by omega) (by omega)) ((sl_kp (sl_kp (sl_kp0 (sl_kp (sl_kp0 (sl_kp (sl_kp0 (sl_kp0 (sl_kp0 (sl_kp0 (sl_kp (s36) k41 (by omega) (mem1 (by omega))) n42.kp (by omega)) n43.kp (by omega)) n44.kp (by omega)) n46.kp (by omega)) k47 (by omega) (mem1 (by omega))) n163.kp (by omega)) k164 (by omega) (mem1 (by omega))) n227.kp (by omega)) k228 (by omega) (mem1 (by omega))) k233 (by omega) (mem1 (by omega))).mono (lo' := w.heap.size) (hi' := w233.heap.size) (by omega) (by omega)) ((sl_kp (sl_kp (sl_kp0 (sl_kp (sl_kp0 (sl_kp (sl_kp0 (sl_kp0 (sl_kp0 (sl_kp0 (sl_kp (s39) k41 (by omega) (mem1 (by omega))) n42.kp (by omega)) n43.kp (by omega)) n44.kp (by omega)) n46.kp (by omega)) k47 (by omega) (mem1 (by omega))) n163.kp (by omega)) k164 (by omega) (mem1 (by omega))) n227.kp (by omega)) k228 (by omega) (mem1 (by omega))) k233 (by omega) (mem1 (by omega))).mono (lo' := w.heap.size) (hi' := w233.heap.size) (by omega) (by omega)))
 have e1 : (0 : Int) = (viewE s v) := by first | exact viewE1 q20 | exact viewE2 q20
 refine WX.retCT Try.results15 rfl rfl B233 Try.underlying34 rfl sz34 ?_
 exact ⟨[(.int .i64 ((s)).version), (.int .i64 ((s)).next), (.int .i64 ((s)).keep), (.int .i64 ((s)).quota), (.slice a31 ((s)).sess.length c32), (.slice a34 ((s)).opens.length c35), (.slice a37 ((s)).snaps.length c38)], by rw [e1], (Eq.mp (congrArg (Rp.rp _ _ _ _ _) e0) f0), Kp.of_below b233⟩
 have p225 : ¬ (((2 : Nat) : Int) < ((3 : Nat) : Int)) := of_decide_eq_false q225
 exact False.elim (by omega)
 have p161 : ¬ (((1 : Nat) : Int) < ((3 : Nat) : Int)) := of_decide_eq_false q161
 exact False.elim (by omega)
 have p45 : ¬ ((0 : Int) < ((3 : Nat) : Int)) := of_decide_eq_false q45
 exact False.elim (by omega)


end Go.Proofs.Ytaenkjlhdlddgaa
