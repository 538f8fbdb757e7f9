/- Contracts of functions, walked operation by operation. -/
import Derived.Test.YtfmlgeeogbhppaaE12
namespace Go.Proofs.Ytfmlgeeogbhppaa
open Go.RowKit




set_option maxRecDepth 100000 in
set_option maxHeartbeats 1000000 in
theorem cmdputs_s {w : World} {cs_c : List Value} {c : Command} {a_rest : Option Addr} {c_rest : Nat} {rest : List Field} (version : Int) (h_c : Rp.rp false 0 w.heap.size w cs_c c) (h_rest : Sl false 0 w.heap.size w (.slice a_rest rest.length c_rest) rest) :
    Ret Try.prog 3 [.agg cs_c.toArray, .slice a_rest rest.length c_rest, .int .i64 version].toArray w fun r w' => r = .bool true ∧ Kp [] w w' := by
 obtain ⟨a7, c8, rfl, i1, i2, i3, i4, i5, i6, s9, i10⟩ := Command.el h_c
 have ls9 : (c.chunks).length * 8 ≤ 140737488355328 := s9.lenle
 have len_rest : (rest).length * 48 ≤ 140737488355328 := h_rest.lenle
 refine Ret.enter Try.func3 rfl Try.ntmps3 rfl rfl ?_
 refine WC.sel [0, 1, 2] rfl ?_
 refine WC.seq ?_
 refine WC.region ?_
 refine WO.box rfl rfl rfl ?_
 intro w11 n11
 have z11 := n11.lt
 have b11 := old_kp0 (Below.refl w.heap.size w) n11.kp
 have y11 := b11.size
 refine WO.v (R.assign rfl) rfl ?_
 refine WO.nil ?_
 refine WX.sel [0, 1, 2, 3, 6] rfl ?_
 refine WX.next ?_
 refine WC.seq ?_
 refine WC.region ?_
 refine WO.c (E.call rfl rfl Try.func11 rfl rfl) (shown5_s  ) rfl ?_
 rintro _ w12 ⟨rfl, k12⟩
 have z12 := k12.size
 have b12 := old_kp0 b11 k12
 have y12 := b12.size
 refine WO.v (R.assign rfl) rfl ?_
 refine WO.nil ?_
 refine WX.sel [0, 1, 2, 3, 6, 7] rfl ?_
 refine WX.next ?_
 refine WC.seq ?_
 refine WC.region ?_
 have B13 := (n11.blk).kp0 k12
 refine WO.v (R.loadBN (vs := [_, _, _, _, _, _, _, _]) rfl B13 rfl Try.underlying24 rfl sz24) rfl ?_
 refine WO.c (E.call rfl rfl Try.func13 rfl rfl) (few_s (c := c) (B := w.heap.size) (by omega) (Command.mk_ (i1) (i2) (i3) (i4) (i5) (i6) ((sl_old s9 b12).mono (lo' := 0) (hi' := w.heap.size) (Nat.zero_le _) (by omega)) i10)) rfl ?_
 rintro _ w14 ⟨a21, c22, rfl, i15, i16, i17, i18, i19, i20, s23, i24, k14⟩
 have z14 := k14.size
 have b14 := old_kp0 b12 k14
 have y14 := b14.size
 have ls23 : ((fewF (c)).chunks).length * 8 ≤ 140737488355328 := s23.lenle
 refine WO.v (R.move rfl) rfl ?_
 refine WO.c (E.call rfl rfl Try.func14 rfl rfl) (some5_s (l := rest) (a_l := a_rest) (c_l := c_rest) (B := w.heap.size) (by omega) (sl_old h_rest b14)) rfl ?_
 rintro _ w25 ⟨a26, c27, rfl, s28, k25⟩
 have ls28 : (someF (rest)).length * 48 ≤ 140737488355328 := s28.lenle
 have z25 := k25.size
 have b25 := old_kp0 b14 k25
 have y25 := b25.size
 have := some_len (l := (rest))
 refine WO.v (R.move rfl) rfl ?_
 refine WO.c (E.call rfl rfl Try.func12 rfl rfl) (putC_s (v := version) (rest := (someF (rest))) (a_rest := a26) (c_rest := c27) (c := (fewF (c))) (Command.mk_ (i15) (i16) (i17) (i18) (i19) (i20) ((sl_kp0 (s23) k25 (by omega)).mono (lo' := 0) (hi' := w25.heap.size) (Nat.zero_le _) (by omega)) i24) ((s28).pub (L := 0) (H := w25.heap.size) (by omega) (by omega) (by omega) (by omega)) (by omega)) rfl ?_
 rintro _ w29 ⟨a30, c31, rfl, s32, k29⟩
 have ls32 : (putCB ((fewF (c))) ((someF (rest))) (version)).length * 1 ≤ 140737488355328 := s32.lenle
 have z29 := k29.size
 have b29 := old_kp0 b25 k29
 have y29 := b29.size
 refine WO.v (R.move rfl) rfl ?_
 refine WO.v (R.extract rfl rfl) rfl ?_
 refine WO.v (R.extract rfl rfl) rfl ?_
 refine WO.v (R.assign rfl) rfl ?_
 refine WO.v (R.assign rfl) rfl ?_
 refine WO.nil ?_
 refine WX.sel [0, 1, 2, 3, 6, 7, 8, 9] rfl ?_
 refine WX.next ?_
 refine WC.seq ?_
 refine WC.region ?_
 have B33 := (((B13).kp0 k14).kp0 k25).kp0 k29
 refine WO.v (R.loadBN (vs := [_, _, _, _, _, _, _, _]) rfl B33 rfl Try.underlying24 rfl sz24) rfl ?_
 refine WO.c (E.call rfl rfl Try.func13 rfl rfl) (few_s (c := c) (B := w.heap.size) (by omega) (Command.mk_ (i1) (i2) (i3) (i4) (i5) (i6) ((sl_old s9 b29).mono (lo' := 0) (hi' := w.heap.size) (Nat.zero_le _) (by omega)) i10)) rfl ?_
 rintro _ w34 ⟨a41, c42, rfl, i35, i36, i37, i38, i39, i40, s43, i44, k34⟩
 have z34 := k34.size
 have b34 := old_kp0 b29 k34
 have y34 := b34.size
 have ls43 : ((fewF (c)).chunks).length * 8 ≤ 140737488355328 := s43.lenle
 refine WO.v (R.move rfl) rfl ?_
 refine WO.c (E.call rfl rfl Try.func14 rfl rfl) (some5_s (l := rest) (a_l := a_rest) (c_l := c_rest) (B := w.heap.size) (by omega) (sl_old h_rest b34)) rfl ?_
 rintro _ w45 ⟨a46, c47, rfl, s48, k45⟩
 have ls48 : (someF (rest)).length * 48 ≤ 140737488355328 := s48.lenle
 have z45 := k45.size
 have b45 := old_kp0 b34 k45
 have y45 := b45.size
 have := some_len (l := (rest))
 refine WO.v (R.move rfl) rfl ?_
 refine WO.c (E.call rfl rfl Try.func15 rfl rfl) (putRC_s (v := version) (rest := (someF (rest))) (a_rest := a46) (c_rest := c47) (c := (fewF (c))) (Command.mk_ (i35) (i36) (i37) (i38) (i39) (i40) ((sl_kp0 (s43) k45 (by omega)).mono (lo' := 0) (hi' := w45.heap.size) (Nat.zero_le _) (by omega)) i44) ((s48).pub (L := 0) (H := w45.heap.size) (by omega) (by omega) (by omega) (by omega)) (by omega)) rfl ?_
 rintro _ w49 ⟨a50, c51, rfl, s52, k49⟩
 have ls52 : (putCB ((fewF (c))) ((someF (rest))) (version)).length * 1 ≤ 140737488355328 := s52.lenle
 have z49 := k49.size
 have b49 := old_kp0 b45 k49
 have y49 := b49.size
 refine WO.v (R.move rfl) rfl ?_
 refine WO.v (R.extract rfl rfl) rfl ?_
 refine WO.v (R.extract rfl rfl) rfl ?_
 refine WO.v (R.assign rfl) rfl ?_
 refine WO.v (R.assign rfl) rfl ?_
 refine WO.nil ?_
 refine WX.sel [0, 1, 2, 3, 6, 7, 8, 9, 10, 11] rfl ?_
 refine WX.next ?_
 refine WC.seq ?_
 refine WC.region ?_
 refine WO.v (R.move rfl) rfl ?_
 refine WO.v (R.move rfl) rfl ?_
 refine WO.on rfl rfl rfl ?_
 refine WO.v (R.move rfl) rfl ?_
 refine WO.on rfl rfl rfl ?_
 refine WO.v (R.toStr rfl Try.underlying27 Try.underlying9 Try.underlying5 (((ac_kp0 (ac_kp0 (ac_kp0 (s32) k34 (by omega) (by omega)) k45 (by omega) (by omega)) k49 (by omega) (by omega)).pub (L := 0) (H := w49.heap.size) (by omega) (by omega) (by omega) (by omega)))) rfl ?_
 refine WO.on rfl rfl rfl ?_
 refine WO.v (R.move rfl) rfl ?_
 refine WO.on rfl rfl rfl ?_
 refine WO.v (R.toStr rfl Try.underlying27 Try.underlying9 Try.underlying5 (((s52).pub (L := 0) (H := w49.heap.size) (by omega) (by omega) (by omega) (by omega)))) rfl ?_
 refine WO.on rfl rfl rfl ?_
 refine WO.v (R.eqlS rfl rfl) rfl ?_
 refine WO.v (R.pickT rfl rfl rfl) rfl ?_
 refine WO.v (R.move rfl) rfl ?_
 refine WO.cutP 4 [(43, (.bool ((decide ((⟨(putCB ((fewF (c))) ((someF (rest))) (version))⟩ : Str) = (⟨(putCB ((fewF (c))) ((someF (rest))) (version))⟩ : Str))) && (decide (putCE ((fewF (c))) ((someF (rest))) (version) = putCE ((fewF (c))) ((someF (rest))) (version))))))] (fun w' => w49 = w') ?_ ?_
 rcases Bool.eq_false_or_eq_true (decide ((⟨(putCB ((fewF (c))) ((someF (rest))) (version))⟩ : Str) = (⟨(putCB ((fewF (c))) ((someF (rest))) (version))⟩ : Str))) with hb53 | hb53
 have phb53 : (⟨(putCB ((fewF (c))) ((someF (rest))) (version))⟩ : Str) = (⟨(putCB ((fewF (c))) ((someF (rest))) (version))⟩ : Str) := of_decide_eq_true hb53
 refine WO.on rfl rfl hb53 ?_
 refine WO.v (R.move rfl) rfl ?_
 refine WO.on rfl rfl hb53 ?_
 refine WO.v (R.move rfl) rfl ?_
 refine WO.on rfl rfl hb53 ?_
 refine WO.v (R.eql rfl rfl) rfl ?_
 refine WO.v (R.pickT rfl hb53 rfl) rfl ?_
 refine WO.nil ?_
 exact WX.cutDoneP 4 rfl rfl ⟨⟨_, rfl, vb (band_on hb53)⟩, trivial⟩ (rfl)
 have phb53 : ¬ ((⟨(putCB ((fewF (c))) ((someF (rest))) (version))⟩ : Str) = (⟨(putCB ((fewF (c))) ((someF (rest))) (version))⟩ : Str)) := of_decide_eq_false hb53
 refine WO.off rfl rfl hb53 rfl ?_
 refine WO.off rfl rfl hb53 rfl ?_
 refine WO.off rfl rfl hb53 rfl ?_
 refine WO.v (R.pickF rfl hb53 rfl) rfl ?_
 refine WO.nil ?_
 exact WX.cutDoneP 4 rfl rfl ⟨⟨_, rfl, vb (band_off hb53)⟩, trivial⟩ (rfl)
 rintro _ rfl
 refine WO.v (R.assign rfl) rfl ?_
 refine WO.nil ?_
 refine WX.sel [0, 1, 2, 3, 6, 7, 8, 9, 10, 11] rfl ?_
 refine WX.next ?_
 refine WC.ret ?_
 have e0 : ((decide ((⟨(putCB ((fewF (c))) ((someF (rest))) (version))⟩ : Str) = (⟨(putCB ((fewF (c))) ((someF (rest))) (version))⟩ : Str))) && (decide (putCE ((fewF (c))) ((someF (rest))) (version) = putCE ((fewF (c))) ((someF (rest))) (version)))) = true := by simp
 refine WX.ret1 Try.results3 rfl ?_
 exact ⟨by rw [e0], Kp.of_below b49⟩


end Go.Proofs.Ytfmlgeeogbhppaa
