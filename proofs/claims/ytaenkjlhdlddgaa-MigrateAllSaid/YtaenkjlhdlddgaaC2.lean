/- Contracts of functions, walked operation by operation. -/
import Derived.Test.YtaenkjlhdlddgaaB9
namespace Go.Proofs.Ytaenkjlhdlddgaa
open Go.RowKit

def shortF (l : List Int) : List Int := l.take 20


set_option maxRecDepth 100000 in
set_option maxHeartbeats 400000 in
theorem short_s {w : World} {a_l : Option Addr} {c_l : Nat} {l : List Int} (h_l : Sl false 0 w.heap.size w (.slice a_l l.length c_l) l) :
    Ret Try.prog 16 [.slice a_l l.length c_l].toArray w fun r w' => ∃ (ra0 : Option Addr) (rc0 : Nat), r = .slice ra0 (shortF l).length rc0 ∧ Sl false 0 w'.heap.size w' (.slice ra0 (shortF l).length rc0) (shortF l) ∧ Kp [] w w' := by
 have len_l : (l).length * 8 ≤ 140737488355328 := h_l.lenle
 refine Ret.enter Try.func16 rfl Try.ntmps16 rfl rfl ?_
 refine WC.sel [0] rfl ?_
 refine WC.seq ?_
 refine WC.region ?_
 refine WO.v (R.assign rfl) rfl ?_
 refine WO.nil ?_
 refine WX.sel [0, 2] rfl ?_
 refine WX.next ?_
 refine WC.seq ?_
 refine WC.seq ?_
 refine WC.region ?_
 refine WO.v (R.move rfl) rfl ?_
 refine WO.v (R.len rfl Try.underlying24) rfl ?_
 refine WO.v (R.gtr rfl rfl) rfl ?_
 refine WO.nil ?_
 refine WX.sel [0, 2, 5] rfl ?_
 refine WX.next ?_
 refine WC.cond rfl (fun q1 => ?_) (fun q1 => ?_)
 have p1 : (20 : Int) < ((l.length : Nat) : Int) := of_decide_eq_true q1
 refine WC.seq ?_
 refine WC.region ?_
 refine WO.v (R.move rfl) rfl ?_
 obtain ⟨a2, ha3, s4, mc5, ln6⟩ := Sl.cut (i := 0) (j := 20) (s := 1) (h_l) rfl (by omega) (by omega)
 refine WO.v (R.sliceH (j := 20) rfl rfl Try.underlying24 sz3 ha3 (by omega)) rfl ?_
 replace s4 : Sl false (0) (w.heap.size) w (.slice a2 20 c_l) (l.take 20) := s4
 replace ln6 : (l.take 20).length = 20 := ln6
 have ls4 : ((l.take 20)).length * 8 ≤ 140737488355328 := s4.lenle
 refine WO.v (R.assign rfl) rfl ?_
 refine WO.nil ?_
 refine WX.sel [0, 2, 5] rfl ?_
 refine WX.next ?_
 refine WC.ret ?_
 refine WX.thenRet ?_
 have e0 : (l.take 20) = (shortF l) := by first | rfl | exact (List.take_of_length_le (by omega)).symm
 have n0 : 20 = (shortF l).length := by rw [← e0]; exact ln6.symm
 have f0 : Sl false 0 w.heap.size w (.slice a2 20 c_l) (l.take 20) := ((s4).mono (lo' := 0) (hi' := w.heap.size) (Nat.zero_le _) (by omega))
 refine WX.ret1 Try.results16 rfl ?_
 exact ⟨a2, c_l, by first | (rw [n0]; done) | (rw [n0]; rfl), (sl_n f0 e0 n0), Kp.refl _⟩
 have p1 : ¬ ((20 : Int) < ((l.length : Nat) : Int)) := of_decide_eq_false q1
 refine WC.skip ?_
 refine WX.next ?_
 refine WC.seq ?_
 refine WC.region ?_
 refine WO.v (R.move rfl) rfl ?_
 refine WO.v (R.assign rfl) rfl ?_
 refine WO.nil ?_
 refine WX.sel [0, 2, 5] rfl ?_
 refine WX.next ?_
 refine WC.ret ?_
 have e0 : l = (shortF l) := by first | rfl | exact (List.take_of_length_le (by omega)).symm
 have n0 : l.length = (shortF l).length := by exact congrArg List.length e0
 have f0 : Sl false 0 w.heap.size w (.slice a_l l.length c_l) l := ((h_l).mono (lo' := 0) (hi' := w.heap.size) (Nat.zero_le _) (by omega))
 refine WX.ret1 Try.results16 rfl ?_
 exact ⟨a_l, c_l, by rw [n0], (sl_n f0 e0 n0), Kp.refl _⟩

set_option maxRecDepth 100000 in
set_option maxHeartbeats 400000 in
theorem all_s {w : World} {cs_s : List Value} {s : State} (version : Int) {a_l : Option Addr} {c_l : Nat} {l : List Int} (h_s : Rp.rp false 0 w.heap.size w cs_s s) (i_version : I64 version) (h_l : Sl false 0 w.heap.size w (.slice a_l l.length c_l) l) :
    Ret Try.prog 6 [.agg cs_s.toArray, .int .i64 version, .slice a_l l.length c_l].toArray w fun r w' => r = .bool true ∧ Kp [] w w' := by
 obtain ⟨a5, c6, a8, c9, a11, c12, rfl, i1, i2, i3, i4, s7, s10, s13⟩ := State.el h_s
 have ls7 : (s.sess).length * 32 ≤ 140737488355328 := s7.lenle
 have ls10 : (s.opens).length * 16 ≤ 140737488355328 := s10.lenle
 have ls13 : (s.snaps).length * 64 ≤ 140737488355328 := s13.lenle
 have len_l : (l).length * 8 ≤ 140737488355328 := h_l.lenle
 refine Ret.enter Try.func6 rfl Try.ntmps6 rfl rfl ?_
 refine WC.sel [0, 1, 2] rfl ?_
 refine WC.seq ?_
 refine WC.region ?_
 refine WO.box rfl rfl rfl ?_
 intro w14 n14
 have z14 : w.heap.size < w14.heap.size := n14.lt
 have b14 := old_kp0 (Below.refl w.heap.size w) n14.kp
 have y14 : w.heap.size ≤ w14.heap.size := b14.size
 refine WO.v (R.assign rfl) rfl ?_
 refine WO.nil ?_
 refine WX.sel [0, 1, 2, 3, 6] rfl ?_
 refine WX.next ?_
 refine WC.seq ?_
 refine WC.region ?_
 refine WO.c (E.call rfl rfl Try.func7 rfl rfl) (shown_s  ) rfl ?_
 rintro _ w15 ⟨rfl, k15⟩
 have z15 : w14.heap.size ≤ w15.heap.size := k15.size
 have b15 := old_kp0 b14 k15
 have y15 : w.heap.size ≤ w15.heap.size := b15.size
 refine WO.v (R.assign rfl) rfl ?_
 refine WO.nil ?_
 refine WX.sel [0, 1, 2, 3, 6, 7] rfl ?_
 refine WX.next ?_
 refine WC.seq ?_
 refine WC.region ?_
 have B16 := (n14.blk).kp0 k15
 refine WO.v (R.loadBN (vs := [_, _, _, _, _, _, _]) rfl B16 rfl Try.underlying34 rfl sz34) rfl ?_
 refine WO.c (E.call rfl rfl Try.func11 rfl rfl) (less_s (s := s) (B := w.heap.size) (by omega) (State.mk_ (i1) (i2) (i3) (i4) ((sl_old s7 b15).mono (lo' := 0) (hi' := w.heap.size) (Nat.zero_le _) (by omega)) ((sl_old s10 b15).mono (lo' := 0) (hi' := w.heap.size) (Nat.zero_le _) (by omega)) ((sl_old s13 b15).mono (lo' := 0) (hi' := w.heap.size) (Nat.zero_le _) (by omega)))) rfl ?_
 rintro _ w17 ⟨a22, c23, a25, c26, a28, c29, rfl, i18, i19, i20, i21, s24, s27, s30, k17⟩
 have z17 : w15.heap.size ≤ w17.heap.size := k17.size
 have b17 := old_kp0 b15 k17
 have y17 : w.heap.size ≤ w17.heap.size := b17.size
 have ls24 : ((lessF (s)).sess).length * 32 ≤ 140737488355328 := s24.lenle
 have ls27 : ((lessF (s)).opens).length * 16 ≤ 140737488355328 := s27.lenle
 have ls30 : ((lessF (s)).snaps).length * 64 ≤ 140737488355328 := s30.lenle
 have B31 := (B16).kp0 k17
 refine WO.storeBN rfl rfl B31 rfl (by simp [Value.oneCell']) sz34 ?_
 intro w32 k32 B32 z_32
 have z32 : w17.heap.size = w32.heap.size := z_32.symm
 have b32 := old_kp b17 k32 (mem1 (by omega))
 have y32 : w.heap.size ≤ w32.heap.size := b32.size
 refine WO.nil ?_
 refine WX.sel [0, 1, 2, 3, 6, 7] rfl ?_
 refine WX.next ?_
 refine WC.seq ?_
 refine WC.region ?_
 refine WO.v (R.move rfl) rfl ?_
 refine WO.c (E.call rfl rfl Try.func16 rfl rfl) (short_s (l := l) (a_l := a_l) (c_l := c_l) ((sl_old h_l b32).mono (lo' := 0) (hi' := w32.heap.size) (Nat.zero_le _) (by omega))) rfl ?_
 rintro _ w33 ⟨a34, c35, rfl, s36, k33⟩
 have ls36 : (shortF (l)).length * 8 ≤ 140737488355328 := s36.lenle
 have z33 : w32.heap.size ≤ w33.heap.size := k33.size
 have b33 := old_kp0 b32 k33
 have y33 : w.heap.size ≤ w33.heap.size := b33.size
 refine WO.v (R.assign rfl) rfl ?_
 refine WO.nil ?_
 refine WX.sel [0, 1, 2, 3, 6, 7] rfl ?_
 refine WX.next ?_
 refine WC.seq ?_
 refine WC.region ?_
 have B37 := (B32).kp0 k33
 refine WO.v (R.loadBN (vs := [_, _, _, _, _, _, _]) rfl B37 rfl Try.underlying34 rfl sz34) rfl ?_
 refine WO.v (R.move rfl) rfl ?_
 refine WO.c (E.call rfl rfl Try.func12 rfl rfl) (up_s (v := version) (s := (lessF (s))) (State.mk_ (i18) (i19) (i20) (i21) ((sl_kp0 (sl_kp (s24) k32 (by omega) (mem1 (by omega))) k33 (by omega)).mono (lo' := 0) (hi' := w33.heap.size) (Nat.zero_le _) (by omega)) ((sl_kp0 (sl_kp (s27) k32 (by omega) (mem1 (by omega))) k33 (by omega)).mono (lo' := 0) (hi' := w33.heap.size) (Nat.zero_le _) (by omega)) ((ac_kp0 (ac_kp (s30) k32 (by omega) (by omega) (mem1 (by omega))) k33 (by omega) (by omega)).pub (L := 0) (H := w33.heap.size) (by omega) (by omega) (by omega) (by omega))) (i_version)) rfl ?_
 rintro _ w38 ⟨cs39, rfl, r40, k38⟩
 have z38 : w33.heap.size ≤ w38.heap.size := k38.size
 have b38 := old_kp0 b33 k38
 have y38 : w.heap.size ≤ w38.heap.size := b38.size
 obtain ⟨a45, c46, a48, c49, a51, c52, rfl, i41, i42, i43, i44, s47, s50, s53⟩ := State.el r40
 have ls47 : ((upS ((lessF (s))) (version)).sess).length * 32 ≤ 140737488355328 := s47.lenle
 have ls50 : ((upS ((lessF (s))) (version)).opens).length * 16 ≤ 140737488355328 := s50.lenle
 have ls53 : ((upS ((lessF (s))) (version)).snaps).length * 64 ≤ 140737488355328 := s53.lenle
 refine WO.v (R.move rfl) rfl ?_
 refine WO.v (R.extract rfl rfl) rfl ?_
 refine WO.v (R.extract rfl rfl) rfl ?_
 refine WO.alloc zr34 rfl ?_
 intro w54 n54
 have z54 : w38.heap.size < w54.heap.size := n54.lt
 have b54 := old_kp0 b38 n54.kp
 have y54 : w.heap.size ≤ w54.heap.size := b54.size
 refine WO.storeBN rfl rfl n54.blk rfl (by simp [Value.oneCell']) sz34 ?_
 intro w55 k55 B55 z_55
 have z55 : w54.heap.size = w55.heap.size := z_55.symm
 have b55 := old_kp b54 k55 (mem1 (by omega))
 have y55 : w.heap.size ≤ w55.heap.size := b55.size
 refine WO.v (R.assign rfl) rfl ?_
 refine WO.nil ?_
 refine WX.sel [0, 1, 2, 3, 6, 7, 8, 9] rfl ?_
 refine WX.next ?_
 refine WC.seq ?_
 refine WC.region ?_
 have B56 := (((B37).kp0 k38).kp0 n54.kp).kp1 k55 (by omega)
 refine WO.v (R.loadBN (vs := [_, _, _, _, _, _, _]) rfl B56 rfl Try.underlying34 rfl sz34) rfl ?_
 refine WO.v (R.move rfl) rfl ?_
 refine WO.c (E.call rfl rfl Try.func17 rfl rfl) (upR_s (v := version) (s := (lessF (s))) (State.mk_ (i18) (i19) (i20) (i21) ((sl_kp (sl_kp0 (sl_kp0 (sl_kp0 (sl_kp (s24) k32 (by omega) (mem1 (by omega))) k33 (by omega)) k38 (by omega)) n54.kp (by omega)) k55 (by omega) (mem1 (by omega))).mono (lo' := 0) (hi' := w55.heap.size) (Nat.zero_le _) (by omega)) ((sl_kp (sl_kp0 (sl_kp0 (sl_kp0 (sl_kp (s27) k32 (by omega) (mem1 (by omega))) k33 (by omega)) k38 (by omega)) n54.kp (by omega)) k55 (by omega) (mem1 (by omega))).mono (lo' := 0) (hi' := w55.heap.size) (Nat.zero_le _) (by omega)) ((ac_kp (ac_kp0 (ac_kp0 (ac_kp0 (ac_kp (s30) k32 (by omega) (by omega) (mem1 (by omega))) k33 (by omega) (by omega)) k38 (by omega) (by omega)) n54.kp (by omega) (by omega)) k55 (by omega) (by omega) (mem1 (by omega))).pub (L := 0) (H := w55.heap.size) (by omega) (by omega) (by omega) (by omega))) (i_version)) rfl ?_
 rintro _ w57 ⟨cs58, rfl, r59, k57⟩
 have z57 : w55.heap.size ≤ w57.heap.size := k57.size
 have b57 := old_kp0 b55 k57
 have y57 : w.heap.size ≤ w57.heap.size := b57.size
 obtain ⟨a64, c65, a67, c68, a70, c71, rfl, i60, i61, i62, i63, s66, s69, s72⟩ := State.el r59
 have ls66 : ((upS ((lessF (s))) (version)).sess).length * 32 ≤ 140737488355328 := s66.lenle
 have ls69 : ((upS ((lessF (s))) (version)).opens).length * 16 ≤ 140737488355328 := s69.lenle
 have ls72 : ((upS ((lessF (s))) (version)).snaps).length * 64 ≤ 140737488355328 := s72.lenle
 refine WO.v (R.move rfl) rfl ?_
 refine WO.v (R.extract rfl rfl) rfl ?_
 refine WO.v (R.extract rfl rfl) rfl ?_
 refine WO.alloc zr34 rfl ?_
 intro w73 n73
 have z73 : w57.heap.size < w73.heap.size := n73.lt
 have b73 := old_kp0 b57 n73.kp
 have y73 : w.heap.size ≤ w73.heap.size := b73.size
 refine WO.storeBN rfl rfl n73.blk rfl (by simp [Value.oneCell']) sz34 ?_
 intro w74 k74 B74 z_74
 have z74 : w73.heap.size = w74.heap.size := z_74.symm
 have b74 := old_kp b73 k74 (mem1 (by omega))
 have y74 : w.heap.size ≤ w74.heap.size := b74.size
 refine WO.v (R.assign rfl) rfl ?_
 refine WO.nil ?_
 refine WX.sel [0, 1, 2, 3, 6, 7, 8, 9, 10, 11] rfl ?_
 refine WX.next ?_
 refine WC.seq ?_
 refine WC.region ?_
 have B75 := (((B56).kp0 k57).kp0 n73.kp).kp1 k74 (by omega)
 refine WO.v (R.loadBN (vs := [_, _, _, _, _, _, _]) rfl B75 rfl Try.underlying34 rfl sz34) rfl ?_
 refine WO.v (R.move rfl) rfl ?_
 refine WO.c (E.call rfl rfl Try.func15 rfl rfl) (view_s (v := version) (s := (lessF (s))) (State.mk_ (i18) (i19) (i20) (i21) ((sl_kp (sl_kp0 (sl_kp0 (sl_kp (sl_kp0 (sl_kp0 (sl_kp0 (sl_kp (s24) k32 (by omega) (mem1 (by omega))) k33 (by omega)) k38 (by omega)) n54.kp (by omega)) k55 (by omega) (mem1 (by omega))) k57 (by omega)) n73.kp (by omega)) k74 (by omega) (mem1 (by omega))).mono (lo' := 0) (hi' := w74.heap.size) (Nat.zero_le _) (by omega)) ((sl_kp (sl_kp0 (sl_kp0 (sl_kp (sl_kp0 (sl_kp0 (sl_kp0 (sl_kp (s27) k32 (by omega) (mem1 (by omega))) k33 (by omega)) k38 (by omega)) n54.kp (by omega)) k55 (by omega) (mem1 (by omega))) k57 (by omega)) n73.kp (by omega)) k74 (by omega) (mem1 (by omega))).mono (lo' := 0) (hi' := w74.heap.size) (Nat.zero_le _) (by omega)) ((ac_kp (ac_kp0 (ac_kp0 (ac_kp (ac_kp0 (ac_kp0 (ac_kp0 (ac_kp (s30) k32 (by omega) (by omega) (mem1 (by omega))) k33 (by omega) (by omega)) k38 (by omega) (by omega)) n54.kp (by omega) (by omega)) k55 (by omega) (by omega) (mem1 (by omega))) k57 (by omega) (by omega)) n73.kp (by omega) (by omega)) k74 (by omega) (by omega) (mem1 (by omega))).pub (L := 0) (H := w74.heap.size) (by omega) (by omega) (by omega) (by omega)))) rfl ?_
 rintro _ w76 ⟨cs77, rfl, r78, k76⟩
 have z76 : w74.heap.size ≤ w76.heap.size := k76.size
 have b76 := old_kp0 b74 k76
 have y76 : w.heap.size ≤ w76.heap.size := b76.size
 obtain ⟨a83, c84, a86, c87, a89, c90, rfl, i79, i80, i81, i82, s85, s88, s91⟩ := State.el r78
 have ls85 : ((viewS ((lessF (s))) (version)).sess).length * 32 ≤ 140737488355328 := s85.lenle
 have ls88 : ((viewS ((lessF (s))) (version)).opens).length * 16 ≤ 140737488355328 := s88.lenle
 have ls91 : ((viewS ((lessF (s))) (version)).snaps).length * 64 ≤ 140737488355328 := s91.lenle
 refine WO.v (R.move rfl) rfl ?_
 refine WO.v (R.extract rfl rfl) rfl ?_
 refine WO.v (R.extract rfl rfl) rfl ?_
 refine WO.alloc zr34 rfl ?_
 intro w92 n92
 have z92 : w76.heap.size < w92.heap.size := n92.lt
 have b92 := old_kp0 b76 n92.kp
 have y92 : w.heap.size ≤ w92.heap.size := b92.size
 refine WO.storeBN rfl rfl n92.blk rfl (by simp [Value.oneCell']) sz34 ?_
 intro w93 k93 B93 z_93
 have z93 : w92.heap.size = w93.heap.size := z_93.symm
 have b93 := old_kp b92 k93 (mem1 (by omega))
 have y93 : w.heap.size ≤ w93.heap.size := b93.size
 refine WO.v (R.assign rfl) rfl ?_
 refine WO.nil ?_
 refine WX.sel [0, 1, 2, 3, 6, 7, 8, 9, 10, 11, 12, 13] rfl ?_
 refine WX.next ?_
 refine WC.seq ?_
 refine WC.region ?_
 have B94 := (((B75).kp0 k76).kp0 n92.kp).kp1 k93 (by omega)
 refine WO.v (R.loadBN (vs := [_, _, _, _, _, _, _]) rfl B94 rfl Try.underlying34 rfl sz34) rfl ?_
 refine WO.v (R.move rfl) rfl ?_
 refine WO.c (E.call rfl rfl Try.func18 rfl rfl) (viewR_s (v := version) (s := (lessF (s))) (State.mk_ (i18) (i19) (i20) (i21) ((sl_kp (sl_kp0 (sl_kp0 (sl_kp (sl_kp0 (sl_kp0 (sl_kp (sl_kp0 (sl_kp0 (sl_kp0 (sl_kp (s24) k32 (by omega) (mem1 (by omega))) k33 (by omega)) k38 (by omega)) n54.kp (by omega)) k55 (by omega) (mem1 (by omega))) k57 (by omega)) n73.kp (by omega)) k74 (by omega) (mem1 (by omega))) k76 (by omega)) n92.kp (by omega)) k93 (by omega) (mem1 (by omega))).mono (lo' := 0) (hi' := w93.heap.size) (Nat.zero_le _) (by omega)) ((sl_kp (sl_kp0 (sl_kp0 (sl_kp (sl_kp0 (sl_kp0 (sl_kp (sl_kp0 (sl_kp0 (sl_kp0 (sl_kp (s27) k32 (by omega) (mem1 (by omega))) k33 (by omega)) k38 (by omega)) n54.kp (by omega)) k55 (by omega) (mem1 (by omega))) k57 (by omega)) n73.kp (by omega)) k74 (by omega) (mem1 (by omega))) k76 (by omega)) n92.kp (by omega)) k93 (by omega) (mem1 (by omega))).mono (lo' := 0) (hi' := w93.heap.size) (Nat.zero_le _) (by omega)) ((ac_kp (ac_kp0 (ac_kp0 (ac_kp (ac_kp0 (ac_kp0 (ac_kp (ac_kp0 (ac_kp0 (ac_kp0 (ac_kp (s30) k32 (by omega) (by omega) (mem1 (by omega))) k33 (by omega) (by omega)) k38 (by omega) (by omega)) n54.kp (by omega) (by omega)) k55 (by omega) (by omega) (mem1 (by omega))) k57 (by omega) (by omega)) n73.kp (by omega) (by omega)) k74 (by omega) (by omega) (mem1 (by omega))) k76 (by omega) (by omega)) n92.kp (by omega) (by omega)) k93 (by omega) (by omega) (mem1 (by omega))).pub (L := 0) (H := w93.heap.size) (by omega) (by omega) (by omega) (by omega)))) rfl ?_
 rintro _ w95 ⟨cs96, rfl, r97, k95⟩
 have z95 : w93.heap.size ≤ w95.heap.size := k95.size
 have b95 := old_kp0 b93 k95
 have y95 : w.heap.size ≤ w95.heap.size := b95.size
 obtain ⟨a102, c103, a105, c106, a108, c109, rfl, i98, i99, i100, i101, s104, s107, s110⟩ := State.el r97
 have ls104 : ((viewS ((lessF (s))) (version)).sess).length * 32 ≤ 140737488355328 := s104.lenle
 have ls107 : ((viewS ((lessF (s))) (version)).opens).length * 16 ≤ 140737488355328 := s107.lenle
 have ls110 : ((viewS ((lessF (s))) (version)).snaps).length * 64 ≤ 140737488355328 := s110.lenle
 refine WO.v (R.move rfl) rfl ?_
 refine WO.v (R.extract rfl rfl) rfl ?_
 refine WO.v (R.extract rfl rfl) rfl ?_
 refine WO.alloc zr34 rfl ?_
 intro w111 n111
 have z111 : w95.heap.size < w111.heap.size := n111.lt
 have b111 := old_kp0 b95 n111.kp
 have y111 : w.heap.size ≤ w111.heap.size := b111.size
 refine WO.storeBN rfl rfl n111.blk rfl (by simp [Value.oneCell']) sz34 ?_
 intro w112 k112 B112 z_112
 have z112 : w111.heap.size = w112.heap.size := z_112.symm
 have b112 := old_kp b111 k112 (mem1 (by omega))
 have y112 : w.heap.size ≤ w112.heap.size := b112.size
 refine WO.v (R.assign rfl) rfl ?_
 refine WO.nil ?_
 refine WX.sel [0, 1, 2, 3, 6, 7, 8, 9, 10, 11, 12, 13, 14, 15] rfl ?_
 refine WX.next ?_
 refine WC.seq ?_
 refine WC.region ?_
 have B113 := (((((((((B55).kp0 k57).kp0 n73.kp).kp1 k74 (by omega)).kp0 k76).kp0 n92.kp).kp1 k93 (by omega)).kp0 k95).kp0 n111.kp).kp1 k112 (by omega)
 refine WO.v (R.loadBN (vs := [_, _, _, _, _, _, _]) rfl B113 rfl Try.underlying34 rfl sz34) rfl ?_
 have B114 := ((((((B74).kp0 k76).kp0 n92.kp).kp1 k93 (by omega)).kp0 k95).kp0 n111.kp).kp1 k112 (by omega)
 refine WO.v (R.loadBN (vs := [_, _, _, _, _, _, _]) rfl B114 rfl Try.underlying34 rfl sz34) rfl ?_
 refine WO.c (E.call rfl rfl Try.func14 rfl rfl) (same7_s (s := (upS ((lessF (s))) (version))) (t := (upS ((lessF (s))) (version))) (State.mk_ (i41) (i42) (i43) (i44) (((sl_kp (sl_kp0 (sl_kp0 (sl_kp (sl_kp0 (sl_kp0 (sl_kp (sl_kp0 (sl_kp0 (sl_kp (sl_kp0 (s47) n54.kp (by omega)) k55 (by omega) (mem1 (by omega))) k57 (by omega)) n73.kp (by omega)) k74 (by omega) (mem1 (by omega))) k76 (by omega)) n92.kp (by omega)) k93 (by omega) (mem1 (by omega))) k95 (by omega)) n111.kp (by omega)) k112 (by omega) (mem1 (by omega))).weak).mono (lo' := 0) (hi' := w112.heap.size) (Nat.zero_le _) (by omega)) (((sl_kp (sl_kp0 (sl_kp0 (sl_kp (sl_kp0 (sl_kp0 (sl_kp (sl_kp0 (sl_kp0 (sl_kp (sl_kp0 (s50) n54.kp (by omega)) k55 (by omega) (mem1 (by omega))) k57 (by omega)) n73.kp (by omega)) k74 (by omega) (mem1 (by omega))) k76 (by omega)) n92.kp (by omega)) k93 (by omega) (mem1 (by omega))) k95 (by omega)) n111.kp (by omega)) k112 (by omega) (mem1 (by omega))).weak).mono (lo' := 0) (hi' := w112.heap.size) (Nat.zero_le _) (by omega)) (((sl_kp (sl_kp0 (sl_kp0 (sl_kp (sl_kp0 (sl_kp0 (sl_kp (sl_kp0 (sl_kp0 (sl_kp (sl_kp0 (s53) n54.kp (by omega)) k55 (by omega) (mem1 (by omega))) k57 (by omega)) n73.kp (by omega)) k74 (by omega) (mem1 (by omega))) k76 (by omega)) n92.kp (by omega)) k93 (by omega) (mem1 (by omega))) k95 (by omega)) n111.kp (by omega)) k112 (by omega) (mem1 (by omega))).weak).mono (lo' := 0) (hi' := w112.heap.size) (Nat.zero_le _) (by omega))) (State.mk_ (i60) (i61) (i62) (i63) (((sl_kp (sl_kp0 (sl_kp0 (sl_kp (sl_kp0 (sl_kp0 (sl_kp (sl_kp0 (s66) n73.kp (by omega)) k74 (by omega) (mem1 (by omega))) k76 (by omega)) n92.kp (by omega)) k93 (by omega) (mem1 (by omega))) k95 (by omega)) n111.kp (by omega)) k112 (by omega) (mem1 (by omega))).weak).mono (lo' := 0) (hi' := w112.heap.size) (Nat.zero_le _) (by omega)) (((sl_kp (sl_kp0 (sl_kp0 (sl_kp (sl_kp0 (sl_kp0 (sl_kp (sl_kp0 (s69) n73.kp (by omega)) k74 (by omega) (mem1 (by omega))) k76 (by omega)) n92.kp (by omega)) k93 (by omega) (mem1 (by omega))) k95 (by omega)) n111.kp (by omega)) k112 (by omega) (mem1 (by omega))).weak).mono (lo' := 0) (hi' := w112.heap.size) (Nat.zero_le _) (by omega)) (((sl_kp (sl_kp0 (sl_kp0 (sl_kp (sl_kp0 (sl_kp0 (sl_kp (sl_kp0 (s72) n73.kp (by omega)) k74 (by omega) (mem1 (by omega))) k76 (by omega)) n92.kp (by omega)) k93 (by omega) (mem1 (by omega))) k95 (by omega)) n111.kp (by omega)) k112 (by omega) (mem1 (by omega))).weak).mono (lo' := 0) (hi' := w112.heap.size) (Nat.zero_le _) (by omega)))) rfl ?_
 rintro _ w115 ⟨rfl, k115⟩
 have z115 : w112.heap.size ≤ w115.heap.size := k115.size
 have b115 := old_kp0 b112 k115
 have y115 : w.heap.size ≤ w115.heap.size := b115.size
 refine WO.v (R.assign rfl) rfl ?_
 refine WO.nil ?_
 refine WX.sel [0, 1, 2, 3, 6, 7, 8, 9, 10, 11, 12, 13, 14, 15, 16] rfl ?_
 refine WX.next ?_
 refine WC.seq ?_
 refine WC.region ?_
 have B116 := ((((B93).kp0 k95).kp0 n111.kp).kp1 k112 (by omega)).kp0 k115
 refine WO.v (R.loadBN (vs := [_, _, _, _, _, _, _]) rfl B116 rfl Try.underlying34 rfl sz34) rfl ?_
 have B117 := (B112).kp0 k115
 refine WO.v (R.loadBN (vs := [_, _, _, _, _, _, _]) rfl B117 rfl Try.underlying34 rfl sz34) rfl ?_
 refine WO.c (E.call rfl rfl Try.func14 rfl rfl) (same7_s (s := (viewS ((lessF (s))) (version))) (t := (viewS ((lessF (s))) (version))) (State.mk_ (i79) (i80) (i81) (i82) (((sl_kp0 (sl_kp (sl_kp0 (sl_kp0 (sl_kp (sl_kp0 (s85) n92.kp (by omega)) k93 (by omega) (mem1 (by omega))) k95 (by omega)) n111.kp (by omega)) k112 (by omega) (mem1 (by omega))) k115 (by omega)).weak).mono (lo' := 0) (hi' := w115.heap.size) (Nat.zero_le _) (by omega)) (((sl_kp0 (sl_kp (sl_kp0 (sl_kp0 (sl_kp (sl_kp0 (s88) n92.kp (by omega)) k93 (by omega) (mem1 (by omega))) k95 (by omega)) n111.kp (by omega)) k112 (by omega) (mem1 (by omega))) k115 (by omega)).weak).mono (lo' := 0) (hi' := w115.heap.size) (Nat.zero_le _) (by omega)) (((sl_kp0 (sl_kp (sl_kp0 (sl_kp0 (sl_kp (sl_kp0 (s91) n92.kp (by omega)) k93 (by omega) (mem1 (by omega))) k95 (by omega)) n111.kp (by omega)) k112 (by omega) (mem1 (by omega))) k115 (by omega)).weak).mono (lo' := 0) (hi' := w115.heap.size) (Nat.zero_le _) (by omega))) (State.mk_ (i98) (i99) (i100) (i101) (((sl_kp0 (sl_kp (sl_kp0 (s104) n111.kp (by omega)) k112 (by omega) (mem1 (by omega))) k115 (by omega)).weak).mono (lo' := 0) (hi' := w115.heap.size) (Nat.zero_le _) (by omega)) (((sl_kp0 (sl_kp (sl_kp0 (s107) n111.kp (by omega)) k112 (by omega) (mem1 (by omega))) k115 (by omega)).weak).mono (lo' := 0) (hi' := w115.heap.size) (Nat.zero_le _) (by omega)) (((sl_kp0 (sl_kp (sl_kp0 (s110) n111.kp (by omega)) k112 (by omega) (mem1 (by omega))) k115 (by omega)).weak).mono (lo' := 0) (hi' := w115.heap.size) (Nat.zero_le _) (by omega)))) rfl ?_
 rintro _ w118 ⟨rfl, k118⟩
 have z118 : w115.heap.size ≤ w118.heap.size := k118.size
 have b118 := old_kp0 b115 k118
 have y118 : w.heap.size ≤ w118.heap.size := b118.size
 refine WO.v (R.assign rfl) rfl ?_
 refine WO.nil ?_
 refine WX.sel [0, 1, 2, 3, 6, 7, 8, 9, 10, 11, 12, 13, 14, 15, 16, 17] rfl ?_
 refine WX.next ?_
 refine WC.seq ?_
 refine WC.region ?_
 refine WO.v (R.assign rfl) rfl ?_
 refine WO.nil ?_
 refine WX.sel [0, 1, 2, 3, 6, 7, 8, 9, 10, 11, 12, 13, 14, 15, 16, 17, 18] rfl ?_
 refine WX.next ?_
 refine WC.seq ?_
 refine WC.seq ?_
 refine WC.region ?_
 refine WO.v (R.assign rfl) rfl ?_
 refine WO.nil ?_
 refine WX.sel [0, 1, 2, 3, 6, 7, 8, 9, 10, 11, 12, 13, 14, 15, 16, 17, 18, 19] rfl ?_
 refine WX.next ?_
 refine WC.block ?_
 refine WC.loopK [0, 1, 2, 3, 6, 7, 8, 9, 10, 11, 12, 13, 14, 15, 16, 17] rfl (fun zz : Nat => [(19, (.int .i64 (((zz) : Nat) : Int))), (18, (.bool true))]) (fun (zz : Nat) (w' : World) => (Kp [] w118 w') ∧ ((zz) ≤ (shortF (l)).length)) (fun zz => (shortF (l)).length - (zz)) (0) ?_ ?_ ?_
 exact ⟨⟨_, rfl, rfl⟩, ⟨_, rfl, rfl⟩, trivial⟩
 exact ⟨Kp.refl _, Nat.zero_le _⟩
 rintro k w119 ⟨k119, hk⟩
 try dsimp only at hk
 have z119 : w118.heap.size ≤ w119.heap.size := k119.size
 have b119 := old_kp0 b118 k119
 have y119 : w.heap.size ≤ w119.heap.size := b119.size
 refine (?_ : WC _ _ _ _ ([(19, (.int .i64 ((k : Nat) : Int))), (18, (.bool true))] ++ _) w119)
 refine WC.seq ?_
 refine WC.seq ?_
 refine WC.region ?_
 refine WO.v (R.move rfl) rfl ?_
 refine WO.v (R.move rfl) rfl ?_
 refine WO.v (R.len rfl Try.underlying24) rfl ?_
 refine WO.v (R.lss rfl rfl) rfl ?_
 refine WO.nil ?_
 refine WX.sel [0, 1, 2, 3, 6, 7, 8, 9, 10, 11, 12, 13, 14, 15, 16, 17, 18, 19, 58] rfl ?_
 refine WX.next ?_
 refine WC.cond rfl (fun q120 => ?_) (fun q120 => ?_)
 have p120 : ((k : Nat) : Int) < (((shortF (l)).length : Nat) : Int) := of_decide_eq_true q120
 refine WC.skip ?_
 refine WX.next ?_
 refine WC.seq ?_
 refine WC.block ?_
 refine WC.sel [0, 1, 2, 3, 6, 7, 8, 9, 10, 11, 12, 13, 14, 15, 16, 17, 18, 19, 58] rfl ?_
 obtain ⟨x121, hx121⟩ := get_ex (xs := (shortF (l))) (i := k) (by omega)
 obtain ⟨A122, cs123, hA122, loA122, hiA122, ccA122, r124⟩ := (sl_kp0 (sl_kp0 (sl_kp0 (sl_kp (sl_kp0 (sl_kp0 (sl_kp (sl_kp0 (sl_kp0 (sl_kp (sl_kp0 (sl_kp0 (sl_kp (sl_kp0 (sl_kp0 (s36) k38 (by omega)) n54.kp (by omega)) k55 (by omega) (mem1 (by omega))) k57 (by omega)) n73.kp (by omega)) k74 (by omega) (mem1 (by omega))) k76 (by omega)) n92.kp (by omega)) k93 (by omega) (mem1 (by omega))) k95 (by omega)) n111.kp (by omega)) k112 (by omega) (mem1 (by omega))) k115 (by omega)) k118 (by omega)) k119 (by omega)).at_ hx121
 obtain ⟨rfl, i125⟩ := r124
 obtain ⟨A127, cs128, hA127, loA127, hiA127, ccA127, r129⟩ := (sl_kp0 (sl_kp0 (sl_kp0 (sl_kp (sl_kp0 (sl_kp0 (sl_kp (sl_kp0 (sl_kp0 (sl_kp (sl_kp0 (sl_kp0 (sl_kp (sl_kp0 (sl_kp0 (s36) k38 (by omega)) n54.kp (by omega)) k55 (by omega) (mem1 (by omega))) k57 (by omega)) n73.kp (by omega)) k74 (by omega) (mem1 (by omega))) k76 (by omega)) n92.kp (by omega)) k93 (by omega) (mem1 (by omega))) k95 (by omega)) n111.kp (by omega)) k112 (by omega) (mem1 (by omega))) k115 (by omega)) k118 (by omega)) k119 (by omega)).at_ hx121
 obtain ⟨rfl, i130⟩ := r129
 refine WC.draw' mixed_orders [.ex [] (.bool true), .ex [0] (.bool true), .ex [1] (.slice a34 (shortF (l)).length c35), .ex [1] (.int .i64 ((k : Nat) : Int)), .ex [1, 2, 3] (.pointer (some (A122.add (k * 1)))), .ex [1, 4] (.int .i64 x121), .ex [1] (.int .i64 version), .ex [1, 5, 6] (.int .i64 (startsF (x121) (version))), .ex [1] (.slice a34 (shortF (l)).length c35), .ex [1] (.int .i64 ((k : Nat) : Int)), .ex [1, 8, 9] (.pointer (some (A127.add (k * 1)))), .ex [1, 10] (.int .i64 x121), .ex [1] (.int .i64 version), .ex [1, 11, 12] (.int .i64 (startsF (x121) (version))), .ex [1, 7, 13] (.bool (decide (startsF (x121) (version) = startsF (x121) (version)))), .ex [1, 14] (.bool (decide (startsF (x121) (version) = startsF (x121) (version))))] 16 (by kernel_rfl) ⟨fun _ _ _ h _ => h, fun _ _ _ h _ => h, fun _ _ _ h _ => h, fun _ _ _ h _ => h, fun _ _ _ h _ => h, fun _ _ _ h _ => h, fun _ _ _ h _ => h, fun _ _ _ h _ => h, fun _ _ _ h _ => h, fun _ _ _ h _ => h, fun _ _ _ h _ => h, fun _ _ _ h _ => h, fun _ _ _ h _ => h, fun _ _ _ h _ => h, fun _ _ _ h _ => h, fun _ _ _ h _ => h, trivial⟩ ⟨?_, ?_, ?_, ?_, ?_, ?_, ?_, ?_, ?_, ?_, ?_, ?_, ?_, ?_, ?_, ?_, trivial⟩ ?_
 rintro vs w131 k131 ⟨-⟩
 replace k131 : Kp [] w119 w131 := k131
 refine WO.haves (fr' := [(18, (.bool true))]) ⟨⟨_, rfl, rfl⟩, trivial⟩ ?_
 refine WO.v (R.move rfl) rfl ?_
 refine WO.nil ?_
 exact WX.stepDone rfl rfl (Kp.refl _)
 rintro vs w132 k132 ⟨e133, -⟩
 replace k132 : Kp [] w119 w132 := k132
 refine WO.haves (fr' := [(61, (.bool true))]) ⟨⟨_, rfl, e133⟩, trivial⟩ ?_
 refine WO.v (R.move rfl) rfl ?_
 refine WO.nil ?_
 exact WX.stepDone rfl rfl (Kp.refl _)
 rintro vs w134 k134 ⟨e135, -⟩
 replace k134 : Kp [] w119 w134 := k134
 refine WO.haves (fr' := [(62, (.bool true)), (2, (.slice a34 (shortF (l)).length c35))]) ⟨⟨_, rfl, e135⟩, ⟨_, rfl, rfl⟩, trivial⟩ ?_
 refine WO.on rfl rfl rfl ?_
 refine WO.v (R.move rfl) rfl ?_
 refine WO.nil ?_
 exact WX.stepDone rfl rfl (Kp.refl _)
 rintro vs w136 k136 ⟨e137, -⟩
 replace k136 : Kp [] w119 w136 := k136
 refine WO.haves (fr' := [(62, (.bool true)), (19, (.int .i64 ((k : Nat) : Int)))]) ⟨⟨_, rfl, e137⟩, ⟨_, rfl, rfl⟩, trivial⟩ ?_
 refine WO.on rfl rfl rfl ?_
 refine WO.v (R.move rfl) rfl ?_
 refine WO.nil ?_
 exact WX.stepDone rfl rfl (Kp.refl _)
 rintro vs w138 k138 ⟨e139, e140, e141, -⟩
 replace k138 : Kp [] w119 w138 := k138
 refine WO.haves (fr' := [(62, (.bool true)), (63, (.slice a34 (shortF (l)).length c35)), (64, (.int .i64 ((k : Nat) : Int)))]) ⟨⟨_, rfl, e139⟩, ⟨_, rfl, e140⟩, ⟨_, rfl, e141⟩, trivial⟩ ?_
 refine WO.on rfl rfl rfl ?_
 refine WO.v (R.indexAddrN rfl rfl Try.underlying24 sz3 hA122 (by omega)) rfl ?_
 refine WO.nil ?_
 exact WX.stepDone rfl rfl (Kp.refl _)
 rintro vs w142 k142 ⟨e143, e144, -⟩
 replace k142 : Kp [] w119 w142 := k142
 have z142 : w119.heap.size ≤ w142.heap.size := k142.size
 have b142 := old_kp0 b119 k142
 have y142 : w.heap.size ≤ w142.heap.size := b142.size
 refine WO.haves (fr' := [(62, (.bool true)), (65, (.pointer (some (A122.add (k * 1)))))]) ⟨⟨_, rfl, e143⟩, ⟨_, rfl, e144⟩, trivial⟩ ?_
 refine WO.on rfl rfl rfl ?_
 refine WO.v (R.load1 rfl Try.underlying3 rfl (CellsAt.one0 ((ccA122).kpA k142 (by omega) (by simp)))) rfl ?_
 refine WO.nil ?_
 exact WX.stepDone rfl rfl (Kp.refl _)
 rintro vs w145 k145 ⟨e146, -⟩
 replace k145 : Kp [] w119 w145 := k145
 refine WO.haves (fr' := [(62, (.bool true)), (1, (.int .i64 version))]) ⟨⟨_, rfl, e146⟩, ⟨_, rfl, rfl⟩, trivial⟩ ?_
 refine WO.on rfl rfl rfl ?_
 refine WO.v (R.move rfl) rfl ?_
 refine WO.nil ?_
 exact WX.stepDone rfl rfl (Kp.refl _)
 rintro vs w147 k147 ⟨e148, e149, e150, -⟩
 replace k147 : Kp [] w119 w147 := k147
 have z147 : w119.heap.size ≤ w147.heap.size := k147.size
 have b147 := old_kp0 b119 k147
 have y147 : w.heap.size ≤ w147.heap.size := b147.size
 refine WO.haves (fr' := [(62, (.bool true)), (66, (.int .i64 x121)), (67, (.int .i64 version))]) ⟨⟨_, rfl, e148⟩, ⟨_, rfl, e149⟩, ⟨_, rfl, e150⟩, trivial⟩ ?_
 refine WO.on rfl rfl rfl ?_
 refine WO.c (E.call rfl rfl Try.func10 rfl rfl) (starts_s (a := x121) (b := version) ) rfl ?_
 rintro _ _ ⟨rfl, rfl⟩
 refine WO.nil ?_
 exact WX.stepDone rfl rfl (Kp.refl _)
 rintro vs w151 k151 ⟨e152, -⟩
 replace k151 : Kp [] w119 w151 := k151
 refine WO.haves (fr' := [(62, (.bool true)), (2, (.slice a34 (shortF (l)).length c35))]) ⟨⟨_, rfl, e152⟩, ⟨_, rfl, rfl⟩, trivial⟩ ?_
 refine WO.on rfl rfl rfl ?_
 refine WO.v (R.move rfl) rfl ?_
 refine WO.nil ?_
 exact WX.stepDone rfl rfl (Kp.refl _)
 rintro vs w153 k153 ⟨e154, -⟩
 replace k153 : Kp [] w119 w153 := k153
 refine WO.haves (fr' := [(62, (.bool true)), (19, (.int .i64 ((k : Nat) : Int)))]) ⟨⟨_, rfl, e154⟩, ⟨_, rfl, rfl⟩, trivial⟩ ?_
 refine WO.on rfl rfl rfl ?_
 refine WO.v (R.move rfl) rfl ?_
 refine WO.nil ?_
 exact WX.stepDone rfl rfl (Kp.refl _)
 rintro vs w155 k155 ⟨e156, e157, e158, -⟩
 replace k155 : Kp [] w119 w155 := k155
 refine WO.haves (fr' := [(62, (.bool true)), (69, (.slice a34 (shortF (l)).length c35)), (70, (.int .i64 ((k : Nat) : Int)))]) ⟨⟨_, rfl, e156⟩, ⟨_, rfl, e157⟩, ⟨_, rfl, e158⟩, trivial⟩ ?_
 refine WO.on rfl rfl rfl ?_
 refine WO.v (R.indexAddrN rfl rfl Try.underlying24 sz3 hA127 (by omega)) rfl ?_
 refine WO.nil ?_
 exact WX.stepDone rfl rfl (Kp.refl _)
 rintro vs w159 k159 ⟨e160, e161, -⟩
 replace k159 : Kp [] w119 w159 := k159
 have z159 : w119.heap.size ≤ w159.heap.size := k159.size
 have b159 := old_kp0 b119 k159
 have y159 : w.heap.size ≤ w159.heap.size := b159.size
 refine WO.haves (fr' := [(62, (.bool true)), (71, (.pointer (some (A127.add (k * 1)))))]) ⟨⟨_, rfl, e160⟩, ⟨_, rfl, e161⟩, trivial⟩ ?_
 refine WO.on rfl rfl rfl ?_
 refine WO.v (R.load1 rfl Try.underlying3 rfl (CellsAt.one0 ((ccA127).kpA k159 (by omega) (by simp)))) rfl ?_
 refine WO.nil ?_
 exact WX.stepDone rfl rfl (Kp.refl _)
 rintro vs w162 k162 ⟨e163, -⟩
 replace k162 : Kp [] w119 w162 := k162
 refine WO.haves (fr' := [(62, (.bool true)), (1, (.int .i64 version))]) ⟨⟨_, rfl, e163⟩, ⟨_, rfl, rfl⟩, trivial⟩ ?_
 refine WO.on rfl rfl rfl ?_
 refine WO.v (R.move rfl) rfl ?_
 refine WO.nil ?_
 exact WX.stepDone rfl rfl (Kp.refl _)
 rintro vs w164 k164 ⟨e165, e166, e167, -⟩
 replace k164 : Kp [] w119 w164 := k164
 have z164 : w119.heap.size ≤ w164.heap.size := k164.size
 have b164 := old_kp0 b119 k164
 have y164 : w.heap.size ≤ w164.heap.size := b164.size
 refine WO.haves (fr' := [(62, (.bool true)), (72, (.int .i64 x121)), (73, (.int .i64 version))]) ⟨⟨_, rfl, e165⟩, ⟨_, rfl, e166⟩, ⟨_, rfl, e167⟩, trivial⟩ ?_
 refine WO.on rfl rfl rfl ?_
 refine WO.c (E.call rfl rfl Try.func19 rfl rfl) (startsR_s (a := x121) (b := version) ) rfl ?_
 rintro _ _ ⟨rfl, rfl⟩
 refine WO.nil ?_
 exact WX.stepDone rfl rfl (Kp.refl _)
 rintro vs w168 k168 ⟨e169, e170, e171, -⟩
 replace k168 : Kp [] w119 w168 := k168
 refine WO.haves (fr' := [(62, (.bool true)), (68, (.int .i64 (startsF (x121) (version)))), (74, (.int .i64 (startsF (x121) (version))))]) ⟨⟨_, rfl, e169⟩, ⟨_, rfl, e170⟩, ⟨_, rfl, e171⟩, trivial⟩ ?_
 refine WO.on rfl rfl rfl ?_
 refine WO.v (R.eql rfl rfl) rfl ?_
 refine WO.nil ?_
 exact WX.stepDone rfl rfl (Kp.refl _)
 rintro vs w172 k172 ⟨e173, e174, -⟩
 replace k172 : Kp [] w119 w172 := k172
 refine WO.haves (fr' := [(62, (.bool true)), (75, (.bool (decide (startsF (x121) (version) = startsF (x121) (version)))))]) ⟨⟨_, rfl, e173⟩, ⟨_, rfl, e174⟩, trivial⟩ ?_
 refine WO.v (R.pickT rfl rfl rfl) rfl ?_
 refine WO.nil ?_
 exact WX.stepDone rfl rfl (Kp.refl _)
 rintro vs w175 k175 ⟨-, -, -, -, -, -, -, -, -, -, -, -, -, -, -, e191, -⟩
 replace k175 : Kp [] w119 w175 := k175
 have z175 : w119.heap.size ≤ w175.heap.size := k175.size
 have b175 := old_kp0 b119 k175
 have y175 : w.heap.size ≤ w175.heap.size := b175.size
 refine WO.haves (fr' := [(76, (.bool (decide (startsF (x121) (version) = startsF (x121) (version))))), (0, (.agg #[(.int .i64 s.version), (.int .i64 s.next), (.int .i64 s.keep), (.int .i64 s.quota), (.slice a5 s.sess.length c6), (.slice a8 s.opens.length c9), (.slice a11 s.snaps.length c12)])), (1, (.int .i64 version)), (2, (.slice a34 (shortF (l)).length c35)), (3, (.pointer (some ⟨w.heap.size, 0, none⟩))), (6, (.bool false)), (7, (.bool true)), (8, (.pointer (some ⟨w38.heap.size, 0, none⟩))), (9, (.int .i64 (upE ((lessF (s))) (version)))), (10, (.pointer (some ⟨w57.heap.size, 0, none⟩))), (11, (.int .i64 (upE ((lessF (s))) (version)))), (12, (.pointer (some ⟨w76.heap.size, 0, none⟩))), (13, (.int .i64 (viewE ((lessF (s))) (version)))), (14, (.pointer (some ⟨w95.heap.size, 0, none⟩))), (15, (.int .i64 (viewE ((lessF (s))) (version)))), (16, (.bool (decide (((upS ((lessF (s))) (version))) = ((upS ((lessF (s))) (version))))))), (17, (.bool (decide (((viewS ((lessF (s))) (version))) = ((viewS ((lessF (s))) (version))))))), (18, (.bool true)), (19, (.int .i64 ((k : Nat) : Int))), (58, (.bool (decide (((k : Nat) : Int) < (((shortF (l)).length : Nat) : Int)))))]) ⟨⟨_, rfl, e191⟩, ⟨_, rfl, rfl⟩, ⟨_, rfl, rfl⟩, ⟨_, rfl, rfl⟩, ⟨_, rfl, rfl⟩, ⟨_, rfl, rfl⟩, ⟨_, rfl, rfl⟩, ⟨_, rfl, rfl⟩, ⟨_, rfl, rfl⟩, ⟨_, rfl, rfl⟩, ⟨_, rfl, rfl⟩, ⟨_, rfl, rfl⟩, ⟨_, rfl, rfl⟩, ⟨_, rfl, rfl⟩, ⟨_, rfl, rfl⟩, ⟨_, rfl, rfl⟩, ⟨_, rfl, rfl⟩, ⟨_, rfl, rfl⟩, ⟨_, rfl, rfl⟩, ⟨_, rfl, rfl⟩, trivial⟩ ?_
 refine WO.v (R.assign rfl) rfl ?_
 refine WO.nil ?_
 refine WX.sel [0, 1, 2, 3, 6, 7, 8, 9, 10, 11, 12, 13, 14, 15, 16, 17, 18, 19, 58] rfl ?_
 refine WX.blkNormal ?_
 refine WX.next ?_
 refine WC.region ?_
 refine WO.v (R.move rfl) rfl ?_
 refine WO.v (R.inc rfl (by omega)) rfl ?_
 refine WO.v (R.assign rfl) rfl ?_
 refine WO.nil ?_
 refine WX.sel [0, 1, 2, 3, 6, 7, 8, 9, 10, 11, 12, 13, 14, 15, 16, 17, 18, 19, 58] rfl ?_
 exact WX.loopNextK [0, 1, 2, 3, 6, 7, 8, 9, 10, 11, 12, 13, 14, 15, 16, 17] (k + 1) rfl ⟨⟨_, rfl, rfl⟩, ⟨_, rfl, vb (by simp)⟩, trivial⟩ ⟨((Kp.refl _).step k119 (by simp)).step k175 (by simp), by omega⟩ (by show ((shortF (l)).length - (k + 1)) < ((shortF (l)).length - k); omega)
 have p120 : ¬ (((k : Nat) : Int) < (((shortF (l)).length : Nat) : Int)) := of_decide_eq_false q120
 refine WC.exit ?_
 refine WX.thenExit ?_
 refine WX.loopExit ?_
 refine WX.blkHit ?_
 refine WX.next ?_
 refine WC.seq ?_
 refine WC.region ?_
 refine WO.v (R.move rfl) rfl ?_
 refine WO.v (R.move rfl) rfl ?_
 refine WO.on rfl rfl rfl ?_
 refine WO.v (R.move rfl) rfl ?_
 refine WO.v (R.pickT rfl rfl rfl) rfl ?_
 refine WO.v (R.move rfl) rfl ?_
 refine WO.cutP 4 [(85, (.bool ((decide (((upS ((lessF (s))) (version))) = ((upS ((lessF (s))) (version))))) && (decide (upE ((lessF (s))) (version) = upE ((lessF (s))) (version))))))] (fun w' => w119 = w') ?_ ?_
 rcases Bool.eq_false_or_eq_true (decide (((upS ((lessF (s))) (version))) = ((upS ((lessF (s))) (version))))) with hb192 | hb192
 have phb192 : (decide (((upS ((lessF (s))) (version))) = ((upS ((lessF (s))) (version))))) = true := hb192
 refine WO.on rfl rfl hb192 ?_
 refine WO.v (R.move rfl) rfl ?_
 refine WO.on rfl rfl hb192 ?_
 refine WO.v (R.move rfl) rfl ?_
 refine WO.on rfl rfl hb192 ?_
 refine WO.v (R.eql rfl rfl) rfl ?_
 refine WO.v (R.pickT rfl hb192 rfl) rfl ?_
 refine WO.nil ?_
 exact WX.cutDoneP 4 rfl rfl ⟨⟨_, rfl, vb (band_on hb192)⟩, trivial⟩ (rfl)
 have phb192 : (decide (((upS ((lessF (s))) (version))) = ((upS ((lessF (s))) (version))))) = false := hb192
 refine WO.off rfl rfl hb192 rfl ?_
 refine WO.off rfl rfl hb192 rfl ?_
 refine WO.off rfl rfl hb192 rfl ?_
 refine WO.v (R.pickF rfl hb192 rfl) rfl ?_
 refine WO.nil ?_
 exact WX.cutDoneP 4 rfl rfl ⟨⟨_, rfl, vb (band_off hb192)⟩, trivial⟩ (rfl)
 rintro _ rfl
 refine WO.v (R.move rfl) rfl ?_
 refine WO.cutP 2 [(88, (.bool (((decide (((upS ((lessF (s))) (version))) = ((upS ((lessF (s))) (version))))) && (decide (upE ((lessF (s))) (version) = upE ((lessF (s))) (version)))) && (decide (((viewS ((lessF (s))) (version))) = ((viewS ((lessF (s))) (version))))))))] (fun w' => w119 = w') ?_ ?_
 rcases Bool.eq_false_or_eq_true ((decide (((upS ((lessF (s))) (version))) = ((upS ((lessF (s))) (version))))) && (decide (upE ((lessF (s))) (version) = upE ((lessF (s))) (version)))) with hb193 | hb193
 have phb193 : ((decide (((upS ((lessF (s))) (version))) = ((upS ((lessF (s))) (version))))) = true) ∧ (upE ((lessF (s))) (version) = upE ((lessF (s))) (version)) := ⟨(band_t hb193).1, of_decide_eq_true (band_t hb193).2⟩
 refine WO.on rfl rfl hb193 ?_
 refine WO.v (R.move rfl) rfl ?_
 refine WO.v (R.pickT rfl hb193 rfl) rfl ?_
 refine WO.nil ?_
 exact WX.cutDoneP 2 rfl rfl ⟨⟨_, rfl, vb (band_on hb193)⟩, trivial⟩ (rfl)
 have phb193 : ((decide (((upS ((lessF (s))) (version))) = ((upS ((lessF (s))) (version))))) = false) ∨ (¬ (upE ((lessF (s))) (version) = upE ((lessF (s))) (version))) := Or.imp (fun h => h) (fun h => of_decide_eq_false h) (band_f hb193)
 refine WO.off rfl rfl hb193 rfl ?_
 refine WO.v (R.pickF rfl hb193 rfl) rfl ?_
 refine WO.nil ?_
 exact WX.cutDoneP 2 rfl rfl ⟨⟨_, rfl, vb (band_off hb193)⟩, trivial⟩ (rfl)
 rintro _ rfl
 refine WO.v (R.move rfl) rfl ?_
 refine WO.cutP 4 [(93, (.bool ((((decide (((upS ((lessF (s))) (version))) = ((upS ((lessF (s))) (version))))) && (decide (upE ((lessF (s))) (version) = upE ((lessF (s))) (version)))) && (decide (((viewS ((lessF (s))) (version))) = ((viewS ((lessF (s))) (version)))))) && (decide (viewE ((lessF (s))) (version) = viewE ((lessF (s))) (version))))))] (fun w' => w119 = w') ?_ ?_
 rcases Bool.eq_false_or_eq_true (((decide (((upS ((lessF (s))) (version))) = ((upS ((lessF (s))) (version))))) && (decide (upE ((lessF (s))) (version) = upE ((lessF (s))) (version)))) && (decide (((viewS ((lessF (s))) (version))) = ((viewS ((lessF (s))) (version)))))) with hb194 | hb194
 have phb194 : (((decide (((upS ((lessF (s))) (version))) = ((upS ((lessF (s))) (version))))) = true) ∧ (upE ((lessF (s))) (version) = upE ((lessF (s))) (version))) ∧ ((decide (((viewS ((lessF (s))) (version))) = ((viewS ((lessF (s))) (version))))) = true) := ⟨⟨(band_t (band_t hb194).1).1, of_decide_eq_true (band_t (band_t hb194).1).2⟩, (band_t hb194).2⟩
 refine WO.on rfl rfl hb194 ?_
 refine WO.v (R.move rfl) rfl ?_
 refine WO.on rfl rfl hb194 ?_
 refine WO.v (R.move rfl) rfl ?_
 refine WO.on rfl rfl hb194 ?_
 refine WO.v (R.eql rfl rfl) rfl ?_
 refine WO.v (R.pickT rfl hb194 rfl) rfl ?_
 refine WO.nil ?_
 exact WX.cutDoneP 4 rfl rfl ⟨⟨_, rfl, vb (band_on hb194)⟩, trivial⟩ (rfl)
 have phb194 : (((decide (((upS ((lessF (s))) (version))) = ((upS ((lessF (s))) (version))))) = false) ∨ (¬ (upE ((lessF (s))) (version) = upE ((lessF (s))) (version)))) ∨ ((decide (((viewS ((lessF (s))) (version))) = ((viewS ((lessF (s))) (version))))) = false) := Or.imp (fun h => Or.imp (fun h => h) (fun h => of_decide_eq_false h) (band_f h)) (fun h => h) (band_f hb194)
 refine WO.off rfl rfl hb194 rfl ?_
 refine WO.off rfl rfl hb194 rfl ?_
 refine WO.off rfl rfl hb194 rfl ?_
 refine WO.v (R.pickF rfl hb194 rfl) rfl ?_
 refine WO.nil ?_
 exact WX.cutDoneP 4 rfl rfl ⟨⟨_, rfl, vb (band_off hb194)⟩, trivial⟩ (rfl)
 rintro _ rfl
 refine WO.v (R.move rfl) rfl ?_
 refine WO.cutP 2 [(96, (.bool (((((decide (((upS ((lessF (s))) (version))) = ((upS ((lessF (s))) (version))))) && (decide (upE ((lessF (s))) (version) = upE ((lessF (s))) (version)))) && (decide (((viewS ((lessF (s))) (version))) = ((viewS ((lessF (s))) (version)))))) && (decide (viewE ((lessF (s))) (version) = viewE ((lessF (s))) (version)))) && true)))] (fun w' => w119 = w') ?_ ?_
 rcases Bool.eq_false_or_eq_true ((((decide (((upS ((lessF (s))) (version))) = ((upS ((lessF (s))) (version))))) && (decide (upE ((lessF (s))) (version) = upE ((lessF (s))) (version)))) && (decide (((viewS ((lessF (s))) (version))) = ((viewS ((lessF (s))) (version)))))) && (decide (viewE ((lessF (s))) (version) = viewE ((lessF (s))) (version)))) with hb195 | hb195
 have phb195 : ((((decide (((upS ((lessF (s))) (version))) = ((upS ((lessF (s))) (version))))) = true) ∧ (upE ((lessF (s))) (version) = upE ((lessF (s))) (version))) ∧ ((decide (((viewS ((lessF (s))) (version))) = ((viewS ((lessF (s))) (version))))) = true)) ∧ (viewE ((lessF (s))) (version) = viewE ((lessF (s))) (version)) := ⟨⟨⟨(band_t (band_t (band_t hb195).1).1).1, of_decide_eq_true (band_t (band_t (band_t hb195).1).1).2⟩, (band_t (band_t hb195).1).2⟩, of_decide_eq_true (band_t hb195).2⟩
 refine WO.on rfl rfl hb195 ?_
 refine WO.v (R.move rfl) rfl ?_
 refine WO.v (R.pickT rfl hb195 rfl) rfl ?_
 refine WO.nil ?_
 exact WX.cutDoneP 2 rfl rfl ⟨⟨_, rfl, vb (band_on hb195)⟩, trivial⟩ (rfl)
 have phb195 : ((((decide (((upS ((lessF (s))) (version))) = ((upS ((lessF (s))) (version))))) = false) ∨ (¬ (upE ((lessF (s))) (version) = upE ((lessF (s))) (version)))) ∨ ((decide (((viewS ((lessF (s))) (version))) = ((viewS ((lessF (s))) (version))))) = false)) ∨ (¬ (viewE ((lessF (s))) (version) = viewE ((lessF (s))) (version))) := Or.imp (fun h => Or.imp (fun h => Or.imp (fun h => h) (fun h => of_decide_eq_false h) (band_f h)) (fun h => h) (band_f h)) (fun h => of_decide_eq_false h) (band_f hb195)
 refine WO.off rfl rfl hb195 rfl ?_
 refine WO.v (R.pickF rfl hb195 rfl) rfl ?_
 refine WO.nil ?_
 exact WX.cutDoneP 2 rfl rfl ⟨⟨_, rfl, vb (band_off hb195)⟩, trivial⟩ (rfl)
 rintro _ rfl
 refine WO.v (R.move rfl) rfl ?_
 refine WO.cutP 6 [(103, (.bool ((((((decide (((upS ((lessF (s))) (version))) = ((upS ((lessF (s))) (version))))) && (decide (upE ((lessF (s))) (version) = upE ((lessF (s))) (version)))) && (decide (((viewS ((lessF (s))) (version))) = ((viewS ((lessF (s))) (version)))))) && (decide (viewE ((lessF (s))) (version) = viewE ((lessF (s))) (version)))) && true) && (decide (agreeF ((shortF (l))) = agreeF ((shortF (l))))))))] (fun w' => Kp [] w119 w') ?_ ?_
 rcases Bool.eq_false_or_eq_true (((((decide (((upS ((lessF (s))) (version))) = ((upS ((lessF (s))) (version))))) && (decide (upE ((lessF (s))) (version) = upE ((lessF (s))) (version)))) && (decide (((viewS ((lessF (s))) (version))) = ((viewS ((lessF (s))) (version)))))) && (decide (viewE ((lessF (s))) (version) = viewE ((lessF (s))) (version)))) && true) with hb196 | hb196
 refine WO.on rfl rfl hb196 ?_
 refine WO.v (R.move rfl) rfl ?_
 refine WO.on rfl rfl hb196 ?_
 refine WO.c (E.call rfl rfl Try.func8 rfl rfl) (agree_s (l := (shortF (l))) (a_l := a34) (c_l := c35) ((sl_kp0 (sl_kp0 (sl_kp0 (sl_kp (sl_kp0 (sl_kp0 (sl_kp (sl_kp0 (sl_kp0 (sl_kp (sl_kp0 (sl_kp0 (sl_kp (sl_kp0 (sl_kp0 (s36) k38 (by omega)) n54.kp (by omega)) k55 (by omega) (mem1 (by omega))) k57 (by omega)) n73.kp (by omega)) k74 (by omega) (mem1 (by omega))) k76 (by omega)) n92.kp (by omega)) k93 (by omega) (mem1 (by omega))) k95 (by omega)) n111.kp (by omega)) k112 (by omega) (mem1 (by omega))) k115 (by omega)) k118 (by omega)) k119 (by omega)).mono (lo' := 0) (hi' := w119.heap.size) (Nat.zero_le _) (by omega))) rfl ?_
 rintro _ w197 ⟨rfl, k197⟩
 have z197 : w119.heap.size ≤ w197.heap.size := k197.size
 have b197 := old_kp0 b119 k197
 have y197 : w.heap.size ≤ w197.heap.size := b197.size
 refine WO.on rfl rfl hb196 ?_
 refine WO.v (R.move rfl) rfl ?_
 refine WO.on rfl rfl hb196 ?_
 refine WO.c (E.call rfl rfl Try.func20 rfl rfl) (agreeR_s (l := (shortF (l))) (a_l := a34) (c_l := c35) ((sl_kp0 (sl_kp0 (sl_kp0 (sl_kp0 (sl_kp (sl_kp0 (sl_kp0 (sl_kp (sl_kp0 (sl_kp0 (sl_kp (sl_kp0 (sl_kp0 (sl_kp (sl_kp0 (sl_kp0 (s36) k38 (by omega)) n54.kp (by omega)) k55 (by omega) (mem1 (by omega))) k57 (by omega)) n73.kp (by omega)) k74 (by omega) (mem1 (by omega))) k76 (by omega)) n92.kp (by omega)) k93 (by omega) (mem1 (by omega))) k95 (by omega)) n111.kp (by omega)) k112 (by omega) (mem1 (by omega))) k115 (by omega)) k118 (by omega)) k119 (by omega)) k197 (by omega)).mono (lo' := 0) (hi' := w197.heap.size) (Nat.zero_le _) (by omega))) rfl ?_
 rintro _ w198 ⟨rfl, k198⟩
 have z198 : w197.heap.size ≤ w198.heap.size := k198.size
 have b198 := old_kp0 b197 k198
 have y198 : w.heap.size ≤ w198.heap.size := b198.size
 refine WO.on rfl rfl hb196 ?_
 refine WO.v (R.eql rfl rfl) rfl ?_
 refine WO.v (R.pickT rfl hb196 rfl) rfl ?_
 refine WO.nil ?_
 exact WX.cutDoneP 6 rfl rfl ⟨⟨_, rfl, vb (band_on hb196)⟩, trivial⟩ (((Kp.refl _).step k197 (by simp)).step k198 (by simp))
 refine WO.off rfl rfl hb196 rfl ?_
 refine WO.off rfl rfl hb196 rfl ?_
 refine WO.off rfl rfl hb196 rfl ?_
 refine WO.off rfl rfl hb196 rfl ?_
 refine WO.off rfl rfl hb196 rfl ?_
 refine WO.v (R.pickF rfl hb196 rfl) rfl ?_
 refine WO.nil ?_
 exact WX.cutDoneP 6 rfl rfl ⟨⟨_, rfl, vb (band_off hb196)⟩, trivial⟩ (Kp.refl _)
 intro w199 k199
 have z199 : w119.heap.size ≤ w199.heap.size := k199.size
 have b199 := old_kp0 b119 k199
 have y199 : w.heap.size ≤ w199.heap.size := b199.size
 refine WO.v (R.move rfl) rfl ?_
 refine WO.cutP 8 [(112, (.bool (((((((decide (((upS ((lessF (s))) (version))) = ((upS ((lessF (s))) (version))))) && (decide (upE ((lessF (s))) (version) = upE ((lessF (s))) (version)))) && (decide (((viewS ((lessF (s))) (version))) = ((viewS ((lessF (s))) (version)))))) && (decide (viewE ((lessF (s))) (version) = viewE ((lessF (s))) (version)))) && true) && (decide (agreeF ((shortF (l))) = agreeF ((shortF (l)))))) && (((readyF (version) ((shortF (l)))) == (readyF (version) ((shortF (l)))))))))] (fun w' => Kp [] w199 w') ?_ ?_
 rcases Bool.eq_false_or_eq_true ((((((decide (((upS ((lessF (s))) (version))) = ((upS ((lessF (s))) (version))))) && (decide (upE ((lessF (s))) (version) = upE ((lessF (s))) (version)))) && (decide (((viewS ((lessF (s))) (version))) = ((viewS ((lessF (s))) (version)))))) && (decide (viewE ((lessF (s))) (version) = viewE ((lessF (s))) (version)))) && true) && (decide (agreeF ((shortF (l))) = agreeF ((shortF (l)))))) with hb200 | hb200
 refine WO.on rfl rfl hb200 ?_
 refine WO.v (R.move rfl) rfl ?_
 refine WO.on rfl rfl hb200 ?_
 refine WO.v (R.move rfl) rfl ?_
 refine WO.on rfl rfl hb200 ?_
 refine WO.c (E.call rfl rfl Try.func9 rfl rfl) (ready_s (v := version) (l := (shortF (l))) (a_l := a34) (c_l := c35) ((sl_kp0 (sl_kp0 (sl_kp0 (sl_kp0 (sl_kp (sl_kp0 (sl_kp0 (sl_kp (sl_kp0 (sl_kp0 (sl_kp (sl_kp0 (sl_kp0 (sl_kp (sl_kp0 (sl_kp0 (s36) k38 (by omega)) n54.kp (by omega)) k55 (by omega) (mem1 (by omega))) k57 (by omega)) n73.kp (by omega)) k74 (by omega) (mem1 (by omega))) k76 (by omega)) n92.kp (by omega)) k93 (by omega) (mem1 (by omega))) k95 (by omega)) n111.kp (by omega)) k112 (by omega) (mem1 (by omega))) k115 (by omega)) k118 (by omega)) k119 (by omega)) k199 (by omega)).mono (lo' := 0) (hi' := w199.heap.size) (Nat.zero_le _) (by omega))) rfl ?_
 rintro _ w201 ⟨rfl, k201⟩
 have z201 : w199.heap.size ≤ w201.heap.size := k201.size
 have b201 := old_kp0 b199 k201
 have y201 : w.heap.size ≤ w201.heap.size := b201.size
 refine WO.on rfl rfl hb200 ?_
 refine WO.v (R.move rfl) rfl ?_
 refine WO.on rfl rfl hb200 ?_
 refine WO.v (R.move rfl) rfl ?_
 refine WO.on rfl rfl hb200 ?_
 refine WO.c (E.call rfl rfl Try.func21 rfl rfl) (readyR_s (v := version) (l := (shortF (l))) (a_l := a34) (c_l := c35) ((sl_kp0 (sl_kp0 (sl_kp0 (sl_kp0 (sl_kp0 (sl_kp (sl_kp0 (sl_kp0 (sl_kp (sl_kp0 (sl_kp0 (sl_kp (sl_kp0 (sl_kp0 (sl_kp (sl_kp0 (sl_kp0 (s36) k38 (by omega)) n54.kp (by omega)) k55 (by omega) (mem1 (by omega))) k57 (by omega)) n73.kp (by omega)) k74 (by omega) (mem1 (by omega))) k76 (by omega)) n92.kp (by omega)) k93 (by omega) (mem1 (by omega))) k95 (by omega)) n111.kp (by omega)) k112 (by omega) (mem1 (by omega))) k115 (by omega)) k118 (by omega)) k119 (by omega)) k199 (by omega)) k201 (by omega)).mono (lo' := 0) (hi' := w201.heap.size) (Nat.zero_le _) (by omega))) rfl ?_
 rintro _ w202 ⟨rfl, k202⟩
 have z202 : w201.heap.size ≤ w202.heap.size := k202.size
 have b202 := old_kp0 b201 k202
 have y202 : w.heap.size ≤ w202.heap.size := b202.size
 refine WO.on rfl rfl hb200 ?_
 refine WO.v (R.eqlB rfl rfl Try.underlying4) rfl ?_
 refine WO.v (R.pickT rfl hb200 rfl) rfl ?_
 refine WO.nil ?_
 exact WX.cutDoneP 8 rfl rfl ⟨⟨_, rfl, vb (band_on hb200)⟩, trivial⟩ (((Kp.refl _).step k201 (by simp)).step k202 (by simp))
 refine WO.off rfl rfl hb200 rfl ?_
 refine WO.off rfl rfl hb200 rfl ?_
 refine WO.off rfl rfl hb200 rfl ?_
 refine WO.off rfl rfl hb200 rfl ?_
 refine WO.off rfl rfl hb200 rfl ?_
 refine WO.off rfl rfl hb200 rfl ?_
 refine WO.off rfl rfl hb200 rfl ?_
 refine WO.v (R.pickF rfl hb200 rfl) rfl ?_
 refine WO.nil ?_
 exact WX.cutDoneP 8 rfl rfl ⟨⟨_, rfl, vb (band_off hb200)⟩, trivial⟩ (Kp.refl _)
 intro w203 k203
 have z203 : w199.heap.size ≤ w203.heap.size := k203.size
 have b203 := old_kp0 b199 k203
 have y203 : w.heap.size ≤ w203.heap.size := b203.size
 refine WO.v (R.assign rfl) rfl ?_
 refine WO.nil ?_
 refine WX.sel [0, 1, 2, 3, 6, 7, 8, 9, 10, 11, 12, 13, 14, 15, 16, 17, 18, 19, 58] rfl ?_
 refine WX.next ?_
 refine WC.ret ?_
 have e0 : (((((((decide (((upS ((lessF (s))) (version))) = ((upS ((lessF (s))) (version))))) && (decide (upE ((lessF (s))) (version) = upE ((lessF (s))) (version)))) && (decide (((viewS ((lessF (s))) (version))) = ((viewS ((lessF (s))) (version)))))) && (decide (viewE ((lessF (s))) (version) = viewE ((lessF (s))) (version)))) && true) && (decide (agreeF ((shortF (l))) = agreeF ((shortF (l)))))) && (((readyF (version) ((shortF (l)))) == (readyF (version) ((shortF (l))))))) = true := by simp
 refine WX.ret1 Try.results6 rfl ?_
 exact ⟨by rw [e0], Kp.of_below b203⟩


end Go.Proofs.Ytaenkjlhdlddgaa
