/- Contracts of functions, walked operation by operation. -/
import Derived.Test.YtfmlgeeogbhppaaE5
namespace Go.Proofs.Ytfmlgeeogbhppaa
open Go.RowKit




set_option maxRecDepth 100000 in
set_option maxHeartbeats 1000000 in
theorem cmdmay_s {w : World} {cs_c : List Value} {c : Command} (version : Int) {a_b : Option Addr} {c_b : Nat} {b : List UInt8} (h_c : Rp.rp false 0 w.heap.size w cs_c c) (h_b : Sl false 0 w.heap.size w (.slice a_b b.length c_b) b) :
    Ret Try.prog 7 [.agg cs_c.toArray, .int .i64 version, .slice a_b b.length c_b].toArray w fun r w' => r = .bool true ∧ Kp [] w w' := by
 obtain ⟨a7, c8, rfl, i1, i2, i3, i4, i5, i6, s9, i10⟩ := Command.el h_c
 have ls9 : (c.chunks).length * 8 ≤ 140737488355328 := s9.lenle
 have len_b : (b).length * 1 ≤ 140737488355328 := h_b.lenle
 refine Ret.enter Try.func7 rfl Try.ntmps7 rfl rfl ?_
 refine WC.sel [0, 1, 2] rfl ?_
 refine WC.seq ?_
 refine WC.region ?_
 refine WO.box rfl rfl rfl ?_
 intro w11 n11
 have z11 := n11.lt
 have b11 := old_kp0 (Below.refl w.heap.size w) n11.kp
 have y11 := b11.size
 refine WO.v (R.assign rfl) rfl ?_
 refine WO.nil ?_
 refine WX.sel [0, 1, 2, 3, 6] rfl ?_
 refine WX.next ?_
 refine WC.seq ?_
 refine WC.region ?_
 refine WO.c (E.call rfl rfl Try.func11 rfl rfl) (shown5_s  ) rfl ?_
 rintro _ w12 ⟨rfl, k12⟩
 have z12 := k12.size
 have b12 := old_kp0 b11 k12
 have y12 := b12.size
 refine WO.v (R.assign rfl) rfl ?_
 refine WO.nil ?_
 refine WX.sel [0, 1, 2, 3, 6, 7] rfl ?_
 refine WX.next ?_
 refine WC.seq ?_
 refine WC.region ?_
 have B13 := (n11.blk).kp0 k12
 refine WO.v (R.loadBN (vs := [_, _, _, _, _, _, _, _]) rfl B13 rfl Try.underlying24 rfl sz24) rfl ?_
 refine WO.c (E.call rfl rfl Try.func13 rfl rfl) (few_s (c := c) (B := w.heap.size) (by omega) (Command.mk_ (i1) (i2) (i3) (i4) (i5) (i6) ((sl_old s9 b12).mono (lo' := 0) (hi' := w.heap.size) (Nat.zero_le _) (by omega)) i10)) rfl ?_
 rintro _ w14 ⟨a21, c22, rfl, i15, i16, i17, i18, i19, i20, s23, i24, k14⟩
 have z14 := k14.size
 have b14 := old_kp0 b12 k14
 have y14 := b14.size
 have ls23 : ((fewF (c)).chunks).length * 8 ≤ 140737488355328 := s23.lenle
 have B25 := (B13).kp0 k14
 refine WO.storeBN rfl rfl B25 rfl (by simp [Value.oneCell', Str.val]) sz24 ?_
 intro w26 k26 B26 z_26
 have z26 := z_26.symm
 have b26 := old_kp b14 k26 (mem1 (by omega))
 have y26 := b26.size
 refine WO.nil ?_
 refine WX.sel [0, 1, 2, 3, 6, 7] rfl ?_
 refine WX.next ?_
 refine WC.seq ?_
 refine WC.region ?_
 refine WO.v (fa24_6 rfl) rfl ?_
 refine WO.v (R.loadB rfl B26 rfl Try.underlying22 rfl) rfl ?_
 refine WO.c (E.call rfl rfl Try.func20 rfl rfl) (chunks_s (l := (fewF (c)).chunks) (a_l := a21) (c_l := c22) ((sl_kp (s23) k26 (by omega) (mem1 (by omega))).mono (lo' := 0) (hi' := w26.heap.size) (Nat.zero_le _) (by omega))) rfl ?_
 rintro _ w27 ⟨a28, c29, rfl, s30, k27⟩
 have ls30 : (chunksB ((fewF (c)).chunks)).length * 1 ≤ 140737488355328 := s30.lenle
 have z27 := k27.size
 have b27 := old_kp0 b26 k27
 have y27 := b27.size
 refine WO.v (R.move rfl) rfl ?_
 refine WO.v (R.extract rfl rfl) rfl ?_
 refine WO.v (R.extract rfl rfl) rfl ?_
 refine WO.v (R.assign rfl) rfl ?_
 refine WO.v (R.assign rfl) rfl ?_
 refine WO.nil ?_
 refine WX.sel [0, 1, 2, 3, 6, 7, 8, 9] rfl ?_
 refine WX.next ?_
 refine WC.seq ?_
 refine WC.region ?_
 refine WO.v (fa24_6 rfl) rfl ?_
 have B31 := (B26).kp0 k27
 refine WO.v (R.loadB rfl B31 rfl Try.underlying22 rfl) rfl ?_
 refine WO.c (E.call rfl rfl Try.func23 rfl rfl) (chunksR_s (l := (fewF (c)).chunks) (a_l := a21) (c_l := c22) ((sl_kp0 (sl_kp (s23) k26 (by omega) (mem1 (by omega))) k27 (by omega)).mono (lo' := 0) (hi' := w27.heap.size) (Nat.zero_le _) (by omega))) rfl ?_
 rintro _ w32 ⟨a33, c34, rfl, s35, k32⟩
 have ls35 : (chunksB ((fewF (c)).chunks)).length * 1 ≤ 140737488355328 := s35.lenle
 have z32 := k32.size
 have b32 := old_kp0 b27 k32
 have y32 := b32.size
 refine WO.v (R.move rfl) rfl ?_
 refine WO.v (R.extract rfl rfl) rfl ?_
 refine WO.v (R.extract rfl rfl) rfl ?_
 refine WO.v (R.assign rfl) rfl ?_
 refine WO.v (R.assign rfl) rfl ?_
 refine WO.nil ?_
 refine WX.sel [0, 1, 2, 3, 6, 7, 8, 9, 10, 11] rfl ?_
 refine WX.next ?_
 refine WC.seq ?_
 refine WC.region ?_
 refine WO.v (R.move rfl) rfl ?_
 refine WO.c (E.call rfl rfl Try.func24 rfl rfl) (short5_s (l := b) (a_l := a_b) (c_l := c_b) ((sl_old h_b b32).mono (lo' := 0) (hi' := w32.heap.size) (Nat.zero_le _) (by omega))) rfl ?_
 rintro _ w36 ⟨a37, c38, rfl, s39, k36⟩
 have ls39 : (shortB (b)).length * 1 ≤ 140737488355328 := s39.lenle
 have z36 := k36.size
 have b36 := old_kp0 b32 k36
 have y36 := b36.size
 have := shortB_len (b)
 refine WO.c (E.call rfl rfl Try.func21 rfl rfl) (unch_s (b := (shortB (b))) (a_b := a37) (c_b := c38) ((s39).mono (lo' := 0) (hi' := w36.heap.size) (Nat.zero_le _) (by omega)) (by omega)) rfl ?_
 rintro _ w40 ⟨a41, c42, rfl, s43, k40⟩
 have ls43 : (unchB ((shortB (b)))).length * 8 ≤ 140737488355328 := s43.lenle
 have z40 := k40.size
 have b40 := old_kp0 b36 k40
 have y40 := b40.size
 refine WO.v (R.move rfl) rfl ?_
 refine WO.v (R.extract rfl rfl) rfl ?_
 refine WO.v (R.extract rfl rfl) rfl ?_
 refine WO.v (R.assign rfl) rfl ?_
 refine WO.v (R.assign rfl) rfl ?_
 refine WO.nil ?_
 refine WX.sel [0, 1, 2, 3, 6, 7, 8, 9, 10, 11, 12, 13] rfl ?_
 refine WX.next ?_
 refine WC.seq ?_
 refine WC.region ?_
 refine WO.v (R.move rfl) rfl ?_
 refine WO.c (E.call rfl rfl Try.func24 rfl rfl) (short5_s (l := b) (a_l := a_b) (c_l := c_b) ((sl_old h_b b40).mono (lo' := 0) (hi' := w40.heap.size) (Nat.zero_le _) (by omega))) rfl ?_
 rintro _ w44 ⟨a45, c46, rfl, s47, k44⟩
 have ls47 : (shortB (b)).length * 1 ≤ 140737488355328 := s47.lenle
 have z44 := k44.size
 have b44 := old_kp0 b40 k44
 have y44 := b44.size
 have := shortB_len (b)
 refine WO.c (E.call rfl rfl Try.func25 rfl rfl) (unchR_s (b := (shortB (b))) (a_b := a45) (c_b := c46) ((s47).mono (lo' := 0) (hi' := w44.heap.size) (Nat.zero_le _) (by omega)) (by omega)) rfl ?_
 rintro _ w48 ⟨a49, c50, rfl, s51, k48⟩
 have ls51 : (unchB ((shortB (b)))).length * 8 ≤ 140737488355328 := s51.lenle
 have z48 := k48.size
 have b48 := old_kp0 b44 k48
 have y48 := b48.size
 refine WO.v (R.move rfl) rfl ?_
 refine WO.v (R.extract rfl rfl) rfl ?_
 refine WO.v (R.extract rfl rfl) rfl ?_
 refine WO.v (R.assign rfl) rfl ?_
 refine WO.v (R.assign rfl) rfl ?_
 refine WO.nil ?_
 refine WX.sel [0, 1, 2, 3, 6, 7, 8, 9, 10, 11, 12, 13, 14, 15] rfl ?_
 refine WX.next ?_
 refine WC.seq ?_
 refine WC.region ?_
 refine WO.v (R.move rfl) rfl ?_
 refine WO.v (R.move rfl) rfl ?_
 refine WO.c (E.call rfl rfl Try.func22 rfl rfl) (ints_s (l := (unchB ((shortB (b))))) (a_l := a41) (c_l := c42) (m := (unchB ((shortB (b))))) (a_m := a49) (c_m := c50) ((ac_kp0 (ac_kp0 (s43) k44 (by omega) (by omega)) k48 (by omega) (by omega)).pub (L := 0) (H := w48.heap.size) (by omega) (by omega) (by omega) (by omega)) ((s51).pub (L := 0) (H := w48.heap.size) (by omega) (by omega) (by omega) (by omega))) rfl ?_
 rintro _ w52 ⟨rfl, k52⟩
 have z52 := k52.size
 have b52 := old_kp0 b48 k52
 have y52 := b52.size
 refine WO.v (R.assign rfl) rfl ?_
 refine WO.nil ?_
 refine WX.sel [0, 1, 2, 3, 6, 7, 8, 9, 10, 11, 12, 13, 14, 15, 16] rfl ?_
 refine WX.next ?_
 refine WC.seq ?_
 refine WC.sel [0, 1, 2, 3, 6, 7, 8, 9, 10, 11, 12, 13, 14, 15, 16] rfl ?_
 refine WC.draw' mixed_orders [.ex [] (.agg #[(.int .i64 (fewF (c)).kind), (.int .i64 (fewF (c)).client), (.int .i64 (fewF (c)).seq), (.int .i64 (fewF (c)).set), (.int .i64 (fewF (c)).id), (.int .i64 (fewF (c)).n), (.slice a21 (fewF (c)).chunks.length c22), (fewF (c)).text.val]), .ex [] (.int .i64 version), ⟨[0, 1], [], fun u w' => ∃ cs, u = .agg cs.toArray ∧ Rp.rp (α := Command) false 0 w'.heap.size w' cs (projF ((fewF (c))) (version))⟩, .ex [] (.agg #[(.int .i64 (fewF (c)).kind), (.int .i64 (fewF (c)).client), (.int .i64 (fewF (c)).seq), (.int .i64 (fewF (c)).set), (.int .i64 (fewF (c)).id), (.int .i64 (fewF (c)).n), (.slice a21 (fewF (c)).chunks.length c22), (fewF (c)).text.val]), .ex [] (.int .i64 version), ⟨[3, 4], [], fun u w' => ∃ cs, u = .agg cs.toArray ∧ Rp.rp (α := Command) false 0 w'.heap.size w' cs (projF ((fewF (c))) (version))⟩, .ex [2, 5] (.bool (decide (((projF ((fewF (c))) (version))) = ((projF ((fewF (c))) (version)))))), .ex [6] (.bool (decide (((projF ((fewF (c))) (version))) = ((projF ((fewF (c))) (version))))))] 8 (by kernel_rfl) ⟨fun _ _ _ h _ => h, fun _ _ _ h _ => h, fun _ _ _ h k => stabAgg h k, fun _ _ _ h _ => h, fun _ _ _ h _ => h, fun _ _ _ h k => stabAgg h k, fun _ _ _ h _ => h, fun _ _ _ h _ => h, trivial⟩ ⟨?_, ?_, ?_, ?_, ?_, ?_, ?_, ?_, trivial⟩ ?_
 rintro vs w82 k82 ⟨-⟩
 replace k82 : Kp [] w52 w82 := k82
 have z82 := k82.size
 have b82 := old_kp0 b52 k82
 have y82 := b82.size
 refine WO.haves (fr' := [(3, _)]) ⟨⟨_, rfl, rfl⟩, trivial⟩ ?_
 have B83 := (((((((B31).kp0 k32).kp0 k36).kp0 k40).kp0 k44).kp0 k48).kp0 k52).kp0 k82
 refine WO.v (R.loadBN (vs := [_, _, _, _, _, _, _, _]) rfl B83 rfl Try.underlying24 rfl sz24) rfl ?_
 refine WO.nil ?_
 exact WX.stepDone rfl rfl (Kp.refl _)
 rintro vs w84 k84 ⟨-⟩
 replace k84 : Kp [] w52 w84 := k84
 refine WO.haves (fr' := [(1, _)]) ⟨⟨_, rfl, rfl⟩, trivial⟩ ?_
 refine WO.v (R.move rfl) rfl ?_
 refine WO.nil ?_
 exact WX.stepDone rfl rfl (Kp.refl _)
 rintro vs w85 k85 ⟨e86, e87, -⟩
 replace k85 : Kp [] w52 w85 := k85
 have z85 := k85.size
 have b85 := old_kp0 b52 k85
 have y85 := b85.size
 refine WO.haves (fr' := [(48, _), (49, _)]) ⟨⟨_, rfl, e86⟩, ⟨_, rfl, e87⟩, trivial⟩ ?_
 refine WO.c (E.call rfl rfl Try.func19 rfl rfl) (proj_s (v := version) (c := (fewF (c))) (Command.mk_ (i15) (i16) (i17) (i18) (i19) (i20) ((sl_kp0 (sl_kp0 (sl_kp0 (sl_kp0 (sl_kp0 (sl_kp0 (sl_kp0 (sl_kp0 (sl_kp (s23) k26 (by omega) (mem1 (by omega))) k27 (by omega)) k32 (by omega)) k36 (by omega)) k40 (by omega)) k44 (by omega)) k48 (by omega)) k52 (by omega)) k85 (by omega)).mono (lo' := 0) (hi' := w85.heap.size) (Nat.zero_le _) (by omega)) i24)) rfl ?_
 rintro _ w88 ⟨cs89, rfl, r90, k88⟩
 have z88 := k88.size
 have b88 := old_kp0 b85 k88
 have y88 := b88.size
 obtain ⟨a97, c98, rfl, i91, i92, i93, i94, i95, i96, s99, i100⟩ := Command.el r90
 have ls99 : ((projF ((fewF (c))) (version)).chunks).length * 8 ≤ 140737488355328 := s99.lenle
 refine WO.nil ?_
 exact WX.stepDone rfl ⟨[(.int .i64 (projF ((fewF (c))) (version)).kind), (.int .i64 (projF ((fewF (c))) (version)).client), (.int .i64 (projF ((fewF (c))) (version)).seq), (.int .i64 (projF ((fewF (c))) (version)).set), (.int .i64 (projF ((fewF (c))) (version)).id), (.int .i64 (projF ((fewF (c))) (version)).n), (.slice a97 (projF ((fewF (c))) (version)).chunks.length c98), (projF ((fewF (c))) (version)).text.val], rfl, (Command.mk_ (i91) (i92) (i93) (i94) (i95) (i96) ((s99).mono (lo' := 0) (hi' := w88.heap.size) (Nat.zero_le _) (by omega)) i100)⟩ ((Kp.refl _).step k88 (by simp))
 rintro vs w101 k101 ⟨-⟩
 replace k101 : Kp [] w52 w101 := k101
 have z101 := k101.size
 have b101 := old_kp0 b52 k101
 have y101 := b101.size
 refine WO.haves (fr' := [(3, _)]) ⟨⟨_, rfl, rfl⟩, trivial⟩ ?_
 have B102 := (((((((B31).kp0 k32).kp0 k36).kp0 k40).kp0 k44).kp0 k48).kp0 k52).kp0 k101
 refine WO.v (R.loadBN (vs := [_, _, _, _, _, _, _, _]) rfl B102 rfl Try.underlying24 rfl sz24) rfl ?_
 refine WO.nil ?_
 exact WX.stepDone rfl rfl (Kp.refl _)
 rintro vs w103 k103 ⟨-⟩
 replace k103 : Kp [] w52 w103 := k103
 refine WO.haves (fr' := [(1, _)]) ⟨⟨_, rfl, rfl⟩, trivial⟩ ?_
 refine WO.v (R.move rfl) rfl ?_
 refine WO.nil ?_
 exact WX.stepDone rfl rfl (Kp.refl _)
 rintro vs w104 k104 ⟨e105, e106, -⟩
 replace k104 : Kp [] w52 w104 := k104
 have z104 := k104.size
 have b104 := old_kp0 b52 k104
 have y104 := b104.size
 refine WO.haves (fr' := [(51, _), (52, _)]) ⟨⟨_, rfl, e105⟩, ⟨_, rfl, e106⟩, trivial⟩ ?_
 refine WO.c (E.call rfl rfl Try.func26 rfl rfl) (projR_s (v := version) (c := (fewF (c))) (Command.mk_ (i15) (i16) (i17) (i18) (i19) (i20) ((sl_kp0 (sl_kp0 (sl_kp0 (sl_kp0 (sl_kp0 (sl_kp0 (sl_kp0 (sl_kp0 (sl_kp (s23) k26 (by omega) (mem1 (by omega))) k27 (by omega)) k32 (by omega)) k36 (by omega)) k40 (by omega)) k44 (by omega)) k48 (by omega)) k52 (by omega)) k104 (by omega)).mono (lo' := 0) (hi' := w104.heap.size) (Nat.zero_le _) (by omega)) i24)) rfl ?_
 rintro _ w107 ⟨cs108, rfl, r109, k107⟩
 have z107 := k107.size
 have b107 := old_kp0 b104 k107
 have y107 := b107.size
 obtain ⟨a116, c117, rfl, i110, i111, i112, i113, i114, i115, s118, i119⟩ := Command.el r109
 have ls118 : ((projF ((fewF (c))) (version)).chunks).length * 8 ≤ 140737488355328 := s118.lenle
 refine WO.nil ?_
 exact WX.stepDone rfl ⟨[(.int .i64 (projF ((fewF (c))) (version)).kind), (.int .i64 (projF ((fewF (c))) (version)).client), (.int .i64 (projF ((fewF (c))) (version)).seq), (.int .i64 (projF ((fewF (c))) (version)).set), (.int .i64 (projF ((fewF (c))) (version)).id), (.int .i64 (projF ((fewF (c))) (version)).n), (.slice a116 (projF ((fewF (c))) (version)).chunks.length c117), (projF ((fewF (c))) (version)).text.val], rfl, (Command.mk_ (i110) (i111) (i112) (i113) (i114) (i115) ((s118).mono (lo' := 0) (hi' := w107.heap.size) (Nat.zero_le _) (by omega)) i119)⟩ ((Kp.refl _).step k107 (by simp))
 rintro vs w120 k120 ⟨e121, e122, -⟩
 replace k120 : Kp [] w52 w120 := k120
 have z120 := k120.size
 have b120 := old_kp0 b52 k120
 have y120 := b120.size
 obtain ⟨cs123, e124, r125⟩ := e121
 obtain ⟨a132, c133, rfl, i126, i127, i128, i129, i130, i131, s134, i135⟩ := Command.el r125
 have ls134 : ((projF ((fewF (c))) (version)).chunks).length * 8 ≤ 140737488355328 := s134.lenle
 obtain ⟨cs136, e137, r138⟩ := e122
 obtain ⟨a145, c146, rfl, i139, i140, i141, i142, i143, i144, s147, i148⟩ := Command.el r138
 have ls147 : ((projF ((fewF (c))) (version)).chunks).length * 8 ≤ 140737488355328 := s147.lenle
 refine WO.haves (fr' := [(50, _), (53, _)]) ⟨⟨_, rfl, e124⟩, ⟨_, rfl, e137⟩, trivial⟩ ?_
 refine WO.c (E.call rfl rfl Try.func16 rfl rfl) (same5_s (a := (projF ((fewF (c))) (version))) (b := (projF ((fewF (c))) (version))) (Command.mk_ (i126) (i127) (i128) (i129) (i130) (i131) ((s134).mono (lo' := 0) (hi' := w120.heap.size) (Nat.zero_le _) (by omega)) i135) (Command.mk_ (i139) (i140) (i141) (i142) (i143) (i144) ((s147).mono (lo' := 0) (hi' := w120.heap.size) (Nat.zero_le _) (by omega)) i148)) rfl ?_
 rintro _ w149 ⟨rfl, k149⟩
 have z149 := k149.size
 have b149 := old_kp0 b120 k149
 have y149 := b149.size
 refine WO.nil ?_
 exact WX.stepDone rfl rfl ((Kp.refl _).step k149 (by simp))
 rintro vs w150 k150 ⟨e151, -⟩
 replace k150 : Kp [] w52 w150 := k150
 have z150 := k150.size
 have b150 := old_kp0 b52 k150
 have y150 := b150.size
 refine WO.haves (fr' := [(54, _)]) ⟨⟨_, rfl, e151⟩, trivial⟩ ?_
 refine WO.v (R.assign rfl) rfl ?_
 refine WO.nil ?_
 exact WX.stepDone rfl rfl (Kp.refl _)
 rintro vs w152 k152 ⟨-, -, -, -, -, -, -, e160, -⟩
 replace k152 : Kp [] w52 w152 := k152
 have z152 := k152.size
 have b152 := old_kp0 b52 k152
 have y152 := b152.size
 refine WO.haves (fr' := [(17, _), (0, _), (1, _), (2, _), (3, _), (6, _), (7, _), (8, _), (9, _), (10, _), (11, _), (12, _), (13, _), (14, _), (15, _), (16, _)]) ⟨⟨_, rfl, e160⟩, ⟨_, rfl, rfl⟩, ⟨_, rfl, rfl⟩, ⟨_, rfl, rfl⟩, ⟨_, rfl, rfl⟩, ⟨_, rfl, rfl⟩, ⟨_, rfl, rfl⟩, ⟨_, rfl, rfl⟩, ⟨_, rfl, rfl⟩, ⟨_, rfl, rfl⟩, ⟨_, rfl, rfl⟩, ⟨_, rfl, rfl⟩, ⟨_, rfl, rfl⟩, ⟨_, rfl, rfl⟩, ⟨_, rfl, rfl⟩, ⟨_, rfl, rfl⟩, trivial⟩ ?_
 refine WO.nil ?_
 refine WX.sel [0, 1, 2, 3, 6, 7, 8, 9, 10, 11, 12, 13, 14, 15, 16, 17] rfl ?_
 refine WX.next ?_
 refine WC.seq ?_
 refine WC.sel [0, 1, 2, 3, 6, 7, 8, 9, 10, 11, 12, 13, 14, 15, 16, 17] rfl ?_
 obtain ⟨G165, eG166⟩ : ∃ b : Bool, b = (decide (needF ((fewF (c)).kind) = needF ((fewF (c)).kind))) := ⟨_, rfl⟩
 obtain ⟨G171, eG172⟩ : ∃ b : Bool, b = ((G165) && (decide (mayC ((fewF (c))) (version) = mayC ((fewF (c))) (version)))) := ⟨_, rfl⟩
 obtain ⟨G173, eG174⟩ : ∃ b : Bool, b = ((G171) && (decide ((⟨(chunksB ((fewF (c)).chunks))⟩ : Str) = (⟨(chunksB ((fewF (c)).chunks))⟩ : Str)))) := ⟨_, rfl⟩
 obtain ⟨G175, eG176⟩ : ∃ b : Bool, b = ((G173) && (decide (chunksE ((fewF (c)).chunks) = chunksE ((fewF (c)).chunks)))) := ⟨_, rfl⟩
 obtain ⟨G177, eG178⟩ : ∃ zz_ : Bool, zz_ = ((G175) && (decide (((unchB ((shortB (b))))) = ((unchB ((shortB (b)))))))) := ⟨_, rfl⟩
 obtain ⟨G179, eG180⟩ : ∃ zz_ : Bool, zz_ = ((G177) && (decide (unchE ((shortB (b))) = unchE ((shortB (b)))))) := ⟨_, rfl⟩
 refine WC.draw' mixed_orders [.ex [] (.bool true), .ex [0] (.bool true), .ex [1] (.pointer (some ⟨w.heap.size, 0, none⟩)), .ex [1, 2] (.int .i64 (fewF (c)).kind), .ex [1, 3] (.int .i64 (needF ((fewF (c)).kind))), .ex [1] (.pointer (some ⟨w.heap.size, 0, none⟩)), .ex [1, 5] (.int .i64 (fewF (c)).kind), .ex [1, 6] (.int .i64 (needF ((fewF (c)).kind))), .ex [1, 4, 7] (.bool (decide (needF ((fewF (c)).kind) = needF ((fewF (c)).kind)))), .ex [1, 8] (.bool (decide (needF ((fewF (c)).kind) = needF ((fewF (c)).kind)))), .ex [9] (.bool (G165)), .ex [10] (sel (G165) (.agg #[(.int .i64 (fewF (c)).kind), (.int .i64 (fewF (c)).client), (.int .i64 (fewF (c)).seq), (.int .i64 (fewF (c)).set), (.int .i64 (fewF (c)).id), (.int .i64 (fewF (c)).n), (.slice a21 (fewF (c)).chunks.length c22), (fewF (c)).text.val])), .ex [10] (sel (G165) (.int .i64 version)), .ex [10, 11, 12] (sel (G165) (.int .i64 (mayC ((fewF (c))) (version)))), .ex [10] (sel (G165) (.agg #[(.int .i64 (fewF (c)).kind), (.int .i64 (fewF (c)).client), (.int .i64 (fewF (c)).seq), (.int .i64 (fewF (c)).set), (.int .i64 (fewF (c)).id), (.int .i64 (fewF (c)).n), (.slice a21 (fewF (c)).chunks.length c22), (fewF (c)).text.val])), .ex [10] (sel (G165) (.int .i64 version)), .ex [10, 14, 15] (sel (G165) (.int .i64 (mayC ((fewF (c))) (version)))), .ex [10, 13, 16] (sel (G165) (.bool (decide (mayC ((fewF (c))) (version) = mayC ((fewF (c))) (version))))), .ex [10, 17] (.bool ((G165) && (decide (mayC ((fewF (c))) (version) = mayC ((fewF (c))) (version))))), .ex [18] (.bool (G171)), .ex [19] (sel (G171) (.slice a28 (chunksB ((fewF (c)).chunks)).length c29)), .ex [19, 20] (sel (G171) (⟨(chunksB ((fewF (c)).chunks))⟩ : Str).val), .ex [19] (sel (G171) (.slice a33 (chunksB ((fewF (c)).chunks)).length c34)), .ex [19, 22] (sel (G171) (⟨(chunksB ((fewF (c)).chunks))⟩ : Str).val), .ex [19, 21, 23] (sel (G171) (.bool (decide ((⟨(chunksB ((fewF (c)).chunks))⟩ : Str) = (⟨(chunksB ((fewF (c)).chunks))⟩ : Str))))), .ex [19, 24] (.bool ((G171) && (decide ((⟨(chunksB ((fewF (c)).chunks))⟩ : Str) = (⟨(chunksB ((fewF (c)).chunks))⟩ : Str))))), .ex [25] (.bool (G173)), .ex [26] (sel (G173) (.int .i64 (chunksE ((fewF (c)).chunks)))), .ex [26] (sel (G173) (.int .i64 (chunksE ((fewF (c)).chunks)))), .ex [26, 27, 28] (sel (G173) (.bool (decide (chunksE ((fewF (c)).chunks) = chunksE ((fewF (c)).chunks))))), .ex [26, 29] (.bool ((G173) && (decide (chunksE ((fewF (c)).chunks) = chunksE ((fewF (c)).chunks))))), .ex [30] (.bool (G175)), .ex [31] (sel (G175) (.bool (decide (((unchB ((shortB (b))))) = ((unchB ((shortB (b))))))))), .ex [31, 32] (.bool ((G175) && (decide (((unchB ((shortB (b))))) = ((unchB ((shortB (b))))))))), .ex [33] (.bool (G177)), .ex [34] (sel (G177) (.int .i64 (unchE ((shortB (b)))))), .ex [34] (sel (G177) (.int .i64 (unchE ((shortB (b)))))), .ex [34, 35, 36] (sel (G177) (.bool (decide (unchE ((shortB (b))) = unchE ((shortB (b))))))), .ex [34, 37] (.bool ((G177) && (decide (unchE ((shortB (b))) = unchE ((shortB (b))))))), .ex [38] (.bool (G179)), .ex [39] (sel (G179) (.bool (decide (((projF ((fewF (c))) (version))) = ((projF ((fewF (c))) (version))))))), .ex [39, 40] (.bool ((G179) && (decide (((projF ((fewF (c))) (version))) = ((projF ((fewF (c))) (version)))))))] 42 (by kernel_rfl) ⟨fun _ _ _ h _ => h, fun _ _ _ h _ => h, fun _ _ _ h _ => h, fun _ _ _ h _ => h, fun _ _ _ h _ => h, fun _ _ _ h _ => h, fun _ _ _ h _ => h, fun _ _ _ h _ => h, fun _ _ _ h _ => h, fun _ _ _ h _ => h, fun _ _ _ h _ => h, fun _ _ _ h _ => h, fun _ _ _ h _ => h, fun _ _ _ h _ => h, fun _ _ _ h _ => h, fun _ _ _ h _ => h, fun _ _ _ h _ => h, fun _ _ _ h _ => h, fun _ _ _ h _ => h, fun _ _ _ h _ => h, fun _ _ _ h _ => h, fun _ _ _ h _ => h, fun _ _ _ h _ => h, fun _ _ _ h _ => h, fun _ _ _ h _ => h, fun _ _ _ h _ => h, fun _ _ _ h _ => h, fun _ _ _ h _ => h, fun _ _ _ h _ => h, fun _ _ _ h _ => h, fun _ _ _ h _ => h, fun _ _ _ h _ => h, fun _ _ _ h _ => h, fun _ _ _ h _ => h, fun _ _ _ h _ => h, fun _ _ _ h _ => h, fun _ _ _ h _ => h, fun _ _ _ h _ => h, fun _ _ _ h _ => h, fun _ _ _ h _ => h, fun _ _ _ h _ => h, fun _ _ _ h _ => h, trivial⟩ ⟨?_, ?_, ?_, ?_, ?_, ?_, ?_, ?_, ?_, ?_, ?_, ?_, ?_, ?_, ?_, ?_, ?_, ?_, ?_, ?_, ?_, ?_, ?_, ?_, ?_, ?_, ?_, ?_, ?_, ?_, ?_, ?_, ?_, ?_, ?_, ?_, ?_, ?_, ?_, ?_, ?_, ?_, trivial⟩ ?_
 rintro vs w181 k181 ⟨-⟩
 replace k181 : Kp [] w152 w181 := k181
 refine WO.haves (fr' := [(7, _)]) ⟨⟨_, rfl, rfl⟩, trivial⟩ ?_
 refine WO.v (R.move rfl) rfl ?_
 refine WO.nil ?_
 exact WX.stepDone rfl rfl (Kp.refl _)
 rintro vs w182 k182 ⟨e183, -⟩
 replace k182 : Kp [] w152 w182 := k182
 refine WO.haves (fr' := [(55, _)]) ⟨⟨_, rfl, e183⟩, trivial⟩ ?_
 refine WO.v (R.move rfl) rfl ?_
 refine WO.nil ?_
 exact WX.stepDone rfl rfl (Kp.refl _)
 rintro vs w184 k184 ⟨e185, -⟩
 replace k184 : Kp [] w152 w184 := k184
 refine WO.haves (fr' := [(56, _), (3, _)]) ⟨⟨_, rfl, e185⟩, ⟨_, rfl, rfl⟩, trivial⟩ ?_
 refine WO.on rfl rfl rfl ?_
 refine WO.v (fa24_0 rfl) rfl ?_
 refine WO.nil ?_
 exact WX.stepDone rfl rfl (Kp.refl _)
 rintro vs w186 k186 ⟨e187, e188, -⟩
 replace k186 : Kp [] w152 w186 := k186
 have z186 := k186.size
 have b186 := old_kp0 b152 k186
 have y186 := b186.size
 refine WO.haves (fr' := [(56, _), (57, _)]) ⟨⟨_, rfl, e187⟩, ⟨_, rfl, e188⟩, trivial⟩ ?_
 refine WO.on rfl rfl rfl ?_
 have B189 := ((((((((B31).kp0 k32).kp0 k36).kp0 k40).kp0 k44).kp0 k48).kp0 k52).kp0 k152).kp0 k186
 refine WO.v (R.loadB rfl B189 rfl Try.underlying3 rfl) rfl ?_
 refine WO.nil ?_
 exact WX.stepDone rfl rfl (Kp.refl _)
 rintro vs w190 k190 ⟨e191, e192, -⟩
 replace k190 : Kp [] w152 w190 := k190
 have z190 := k190.size
 have b190 := old_kp0 b152 k190
 have y190 := b190.size
 refine WO.haves (fr' := [(56, _), (58, _)]) ⟨⟨_, rfl, e191⟩, ⟨_, rfl, e192⟩, trivial⟩ ?_
 refine WO.on rfl rfl rfl ?_
 refine WO.c (E.call rfl rfl Try.func18 rfl rfl) (need_s (k := (fewF (c)).kind) ) rfl ?_
 rintro _ w193 ⟨rfl, k193⟩
 have z193 := k193.size
 have b193 := old_kp0 b190 k193
 have y193 := b193.size
 refine WO.nil ?_
 exact WX.stepDone rfl rfl ((Kp.refl _).step k193 (by simp))
 rintro vs w194 k194 ⟨e195, -⟩
 replace k194 : Kp [] w152 w194 := k194
 refine WO.haves (fr' := [(56, _), (3, _)]) ⟨⟨_, rfl, e195⟩, ⟨_, rfl, rfl⟩, trivial⟩ ?_
 refine WO.on rfl rfl rfl ?_
 refine WO.v (fa24_0 rfl) rfl ?_
 refine WO.nil ?_
 exact WX.stepDone rfl rfl (Kp.refl _)
 rintro vs w196 k196 ⟨e197, e198, -⟩
 replace k196 : Kp [] w152 w196 := k196
 have z196 := k196.size
 have b196 := old_kp0 b152 k196
 have y196 := b196.size
 refine WO.haves (fr' := [(56, _), (60, _)]) ⟨⟨_, rfl, e197⟩, ⟨_, rfl, e198⟩, trivial⟩ ?_
 refine WO.on rfl rfl rfl ?_
 have B199 := ((((((((B31).kp0 k32).kp0 k36).kp0 k40).kp0 k44).kp0 k48).kp0 k52).kp0 k152).kp0 k196
 refine WO.v (R.loadB rfl B199 rfl Try.underlying3 rfl) rfl ?_
 refine WO.nil ?_
 exact WX.stepDone rfl rfl (Kp.refl _)
 rintro vs w200 k200 ⟨e201, e202, -⟩
 replace k200 : Kp [] w152 w200 := k200
 have z200 := k200.size
 have b200 := old_kp0 b152 k200
 have y200 := b200.size
 refine WO.haves (fr' := [(56, _), (61, _)]) ⟨⟨_, rfl, e201⟩, ⟨_, rfl, e202⟩, trivial⟩ ?_
 refine WO.on rfl rfl rfl ?_
 refine WO.c (E.call rfl rfl Try.func27 rfl rfl) (needR_s (k := (fewF (c)).kind) ) rfl ?_
 rintro _ w203 ⟨rfl, k203⟩
 have z203 := k203.size
 have b203 := old_kp0 b200 k203
 have y203 := b203.size
 refine WO.nil ?_
 exact WX.stepDone rfl rfl ((Kp.refl _).step k203 (by simp))
 rintro vs w204 k204 ⟨e205, e206, e207, -⟩
 replace k204 : Kp [] w152 w204 := k204
 refine WO.haves (fr' := [(56, _), (59, _), (62, _)]) ⟨⟨_, rfl, e205⟩, ⟨_, rfl, e206⟩, ⟨_, rfl, e207⟩, trivial⟩ ?_
 refine WO.on rfl rfl rfl ?_
 refine WO.v (R.eql rfl rfl) rfl ?_
 refine WO.nil ?_
 exact WX.stepDone rfl rfl (Kp.refl _)
 rintro vs w208 k208 ⟨e209, e210, -⟩
 replace k208 : Kp [] w152 w208 := k208
 refine WO.haves (fr' := [(56, _), (63, _)]) ⟨⟨_, rfl, e209⟩, ⟨_, rfl, e210⟩, trivial⟩ ?_
 refine WO.v (R.pickT rfl rfl rfl) rfl ?_
 refine WO.nil ?_
 exact WX.stepDone rfl rfl (Kp.refl _)
 rintro vs w211 k211 ⟨e212, -⟩
 replace k211 : Kp [] w152 w211 := k211
 refine WO.haves (fr' := [(64, _)]) ⟨⟨_, rfl, e212⟩, trivial⟩ ?_
 refine WO.v (R.move rfl) rfl ?_
 refine WO.nil ?_
 exact WX.stepDone rfl (vb eG166.symm) (Kp.refl _)
 rintro vs w213 k213 ⟨e214, -⟩
 replace k213 : Kp [] w152 w213 := k213
 have z213 := k213.size
 have b213 := old_kp0 b152 k213
 have y213 := b213.size
 rcases Bool.eq_false_or_eq_true (G165) with hb215 | hb215
 have phb215 : needF ((fewF (c)).kind) = needF ((fewF (c)).kind) := of_decide_eq_true (eG166.symm.trans hb215)
 refine WO.haves (fr' := [(65, _), (3, _)]) ⟨⟨_, rfl, e214⟩, ⟨_, rfl, rfl⟩, trivial⟩ ?_
 refine WO.on rfl rfl hb215 ?_
 have B216 := ((((((((B31).kp0 k32).kp0 k36).kp0 k40).kp0 k44).kp0 k48).kp0 k52).kp0 k152).kp0 k213
 refine WO.v (R.loadBN (vs := [_, _, _, _, _, _, _, _]) rfl B216 rfl Try.underlying24 rfl sz24) rfl ?_
 refine WO.nil ?_
 exact WX.stepDone rfl (sel_on hb215 rfl) (Kp.refl _)
 have phb215 : ¬ (needF ((fewF (c)).kind) = needF ((fewF (c)).kind)) := of_decide_eq_false (eG166.symm.trans hb215)
 refine WO.haves (fr' := [(65, _)]) ⟨⟨_, rfl, e214⟩, trivial⟩ ?_
 refine WO.off rfl rfl hb215 rfl ?_
 refine WO.nil ?_
 exact WX.stepDone rfl (sel_of hb215) (Kp.refl _)
 rintro vs w217 k217 ⟨e218, -⟩
 replace k217 : Kp [] w152 w217 := k217
 rcases Bool.eq_false_or_eq_true (G165) with hb219 | hb219
 have phb219 : needF ((fewF (c)).kind) = needF ((fewF (c)).kind) := of_decide_eq_true (eG166.symm.trans hb219)
 refine WO.haves (fr' := [(65, _), (1, _)]) ⟨⟨_, rfl, e218⟩, ⟨_, rfl, rfl⟩, trivial⟩ ?_
 refine WO.on rfl rfl hb219 ?_
 refine WO.v (R.move rfl) rfl ?_
 refine WO.nil ?_
 exact WX.stepDone rfl (sel_on hb219 rfl) (Kp.refl _)
 have phb219 : ¬ (needF ((fewF (c)).kind) = needF ((fewF (c)).kind)) := of_decide_eq_false (eG166.symm.trans hb219)
 refine WO.haves (fr' := [(65, _)]) ⟨⟨_, rfl, e218⟩, trivial⟩ ?_
 refine WO.off rfl rfl hb219 rfl ?_
 refine WO.nil ?_
 exact WX.stepDone rfl (sel_of hb219) (Kp.refl _)
 rintro vs w220 k220 ⟨e221, e222, e223, -⟩
 replace k220 : Kp [] w152 w220 := k220
 have z220 := k220.size
 have b220 := old_kp0 b152 k220
 have y220 := b220.size
 rcases Bool.eq_false_or_eq_true (G165) with hb224 | hb224
 have phb224 : needF ((fewF (c)).kind) = needF ((fewF (c)).kind) := of_decide_eq_true (eG166.symm.trans hb224)
 refine WO.haves (fr' := [(65, _), (66, _), (67, _)]) ⟨⟨_, rfl, e221⟩, ⟨_, rfl, sel_t e222 hb224⟩, ⟨_, rfl, sel_t e223 hb224⟩, trivial⟩ ?_
 refine WO.on rfl rfl hb224 ?_
 refine WO.c (E.call rfl rfl Try.func17 rfl rfl) (mayC_s (v := version) (c := (fewF (c))) (Command.mk_ (i15) (i16) (i17) (i18) (i19) (i20) ((sl_kp0 (sl_kp0 (sl_kp0 (sl_kp0 (sl_kp0 (sl_kp0 (sl_kp0 (sl_kp0 (sl_kp0 (sl_kp (s23) k26 (by omega) (mem1 (by omega))) k27 (by omega)) k32 (by omega)) k36 (by omega)) k40 (by omega)) k44 (by omega)) k48 (by omega)) k52 (by omega)) k152 (by omega)) k220 (by omega)).mono (lo' := 0) (hi' := w220.heap.size) (Nat.zero_le _) (by omega)) i24)) rfl ?_
 rintro _ w225 ⟨rfl, k225⟩
 have z225 := k225.size
 have b225 := old_kp0 b220 k225
 have y225 := b225.size
 refine WO.nil ?_
 exact WX.stepDone rfl (sel_on hb224 rfl) ((Kp.refl _).step k225 (by simp))
 have phb224 : ¬ (needF ((fewF (c)).kind) = needF ((fewF (c)).kind)) := of_decide_eq_false (eG166.symm.trans hb224)
 refine WO.haves (fr' := [(65, _)]) ⟨⟨_, rfl, e221⟩, trivial⟩ ?_
 refine WO.off rfl rfl hb224 rfl ?_
 refine WO.nil ?_
 exact WX.stepDone rfl (sel_of hb224) (Kp.refl _)
 rintro vs w226 k226 ⟨e227, -⟩
 replace k226 : Kp [] w152 w226 := k226
 have z226 := k226.size
 have b226 := old_kp0 b152 k226
 have y226 := b226.size
 rcases Bool.eq_false_or_eq_true (G165) with hb228 | hb228
 have phb228 : needF ((fewF (c)).kind) = needF ((fewF (c)).kind) := of_decide_eq_true (eG166.symm.trans hb228)
 refine WO.haves (fr' := [(65, _), (3, _)]) ⟨⟨_, rfl, e227⟩, ⟨_, rfl, rfl⟩, trivial⟩ ?_
 refine WO.on rfl rfl hb228 ?_
 have B229 := ((((((((B31).kp0 k32).kp0 k36).kp0 k40).kp0 k44).kp0 k48).kp0 k52).kp0 k152).kp0 k226
 refine WO.v (R.loadBN (vs := [_, _, _, _, _, _, _, _]) rfl B229 rfl Try.underlying24 rfl sz24) rfl ?_
 refine WO.nil ?_
 exact WX.stepDone rfl (sel_on hb228 rfl) (Kp.refl _)
 have phb228 : ¬ (needF ((fewF (c)).kind) = needF ((fewF (c)).kind)) := of_decide_eq_false (eG166.symm.trans hb228)
 refine WO.haves (fr' := [(65, _)]) ⟨⟨_, rfl, e227⟩, trivial⟩ ?_
 refine WO.off rfl rfl hb228 rfl ?_
 refine WO.nil ?_
 exact WX.stepDone rfl (sel_of hb228) (Kp.refl _)
 rintro vs w230 k230 ⟨e231, -⟩
 replace k230 : Kp [] w152 w230 := k230
 rcases Bool.eq_false_or_eq_true (G165) with hb232 | hb232
 have phb232 : needF ((fewF (c)).kind) = needF ((fewF (c)).kind) := of_decide_eq_true (eG166.symm.trans hb232)
 refine WO.haves (fr' := [(65, _), (1, _)]) ⟨⟨_, rfl, e231⟩, ⟨_, rfl, rfl⟩, trivial⟩ ?_
 refine WO.on rfl rfl hb232 ?_
 refine WO.v (R.move rfl) rfl ?_
 refine WO.nil ?_
 exact WX.stepDone rfl (sel_on hb232 rfl) (Kp.refl _)
 have phb232 : ¬ (needF ((fewF (c)).kind) = needF ((fewF (c)).kind)) := of_decide_eq_false (eG166.symm.trans hb232)
 refine WO.haves (fr' := [(65, _)]) ⟨⟨_, rfl, e231⟩, trivial⟩ ?_
 refine WO.off rfl rfl hb232 rfl ?_
 refine WO.nil ?_
 exact WX.stepDone rfl (sel_of hb232) (Kp.refl _)
 rintro vs w233 k233 ⟨e234, e235, e236, -⟩
 replace k233 : Kp [] w152 w233 := k233
 have z233 := k233.size
 have b233 := old_kp0 b152 k233
 have y233 := b233.size
 rcases Bool.eq_false_or_eq_true (G165) with hb237 | hb237
 have phb237 : needF ((fewF (c)).kind) = needF ((fewF (c)).kind) := of_decide_eq_true (eG166.symm.trans hb237)
 refine WO.haves (fr' := [(65, _), (69, _), (70, _)]) ⟨⟨_, rfl, e234⟩, ⟨_, rfl, sel_t e235 hb237⟩, ⟨_, rfl, sel_t e236 hb237⟩, trivial⟩ ?_
 refine WO.on rfl rfl hb237 ?_
 refine WO.c (E.call rfl rfl Try.func28 rfl rfl) (mayR_s (v := version) (c := (fewF (c))) (Command.mk_ (i15) (i16) (i17) (i18) (i19) (i20) ((sl_kp0 (sl_kp0 (sl_kp0 (sl_kp0 (sl_kp0 (sl_kp0 (sl_kp0 (sl_kp0 (sl_kp0 (sl_kp (s23) k26 (by omega) (mem1 (by omega))) k27 (by omega)) k32 (by omega)) k36 (by omega)) k40 (by omega)) k44 (by omega)) k48 (by omega)) k52 (by omega)) k152 (by omega)) k233 (by omega)).mono (lo' := 0) (hi' := w233.heap.size) (Nat.zero_le _) (by omega)) i24)) rfl ?_
 rintro _ w238 ⟨rfl, k238⟩
 have z238 := k238.size
 have b238 := old_kp0 b233 k238
 have y238 := b238.size
 refine WO.nil ?_
 exact WX.stepDone rfl (sel_on hb237 rfl) ((Kp.refl _).step k238 (by simp))
 have phb237 : ¬ (needF ((fewF (c)).kind) = needF ((fewF (c)).kind)) := of_decide_eq_false (eG166.symm.trans hb237)
 refine WO.haves (fr' := [(65, _)]) ⟨⟨_, rfl, e234⟩, trivial⟩ ?_
 refine WO.off rfl rfl hb237 rfl ?_
 refine WO.nil ?_
 exact WX.stepDone rfl (sel_of hb237) (Kp.refl _)
 rintro vs w239 k239 ⟨e240, e241, e242, -⟩
 replace k239 : Kp [] w152 w239 := k239
 rcases Bool.eq_false_or_eq_true (G165) with hb243 | hb243
 have phb243 : needF ((fewF (c)).kind) = needF ((fewF (c)).kind) := of_decide_eq_true (eG166.symm.trans hb243)
 refine WO.haves (fr' := [(65, _), (68, _), (71, _)]) ⟨⟨_, rfl, e240⟩, ⟨_, rfl, sel_t e241 hb243⟩, ⟨_, rfl, sel_t e242 hb243⟩, trivial⟩ ?_
 refine WO.on rfl rfl hb243 ?_
 refine WO.v (R.eql rfl rfl) rfl ?_
 refine WO.nil ?_
 exact WX.stepDone rfl (sel_on hb243 rfl) (Kp.refl _)
 have phb243 : ¬ (needF ((fewF (c)).kind) = needF ((fewF (c)).kind)) := of_decide_eq_false (eG166.symm.trans hb243)
 refine WO.haves (fr' := [(65, _)]) ⟨⟨_, rfl, e240⟩, trivial⟩ ?_
 refine WO.off rfl rfl hb243 rfl ?_
 refine WO.nil ?_
 exact WX.stepDone rfl (sel_of hb243) (Kp.refl _)
 rintro vs w244 k244 ⟨e245, e246, -⟩
 replace k244 : Kp [] w152 w244 := k244
 rcases Bool.eq_false_or_eq_true (G165) with hb247 | hb247
 refine WO.haves (fr' := [(65, _), (72, _)]) ⟨⟨_, rfl, e245⟩, ⟨_, rfl, sel_t e246 hb247⟩, trivial⟩ ?_
 refine WO.v (R.pickT rfl hb247 rfl) rfl ?_
 refine WO.nil ?_
 exact WX.stepDone rfl (vb (band_on hb247)) (Kp.refl _)
 refine WO.haves (fr' := [(65, _)]) ⟨⟨_, rfl, e245⟩, trivial⟩ ?_
 refine WO.v (R.pickF rfl hb247 rfl) rfl ?_
 refine WO.nil ?_
 exact WX.stepDone rfl (vb (band_off hb247)) (Kp.refl _)
 rintro vs w248 k248 ⟨e249, -⟩
 replace k248 : Kp [] w152 w248 := k248
 refine WO.haves (fr' := [(73, _)]) ⟨⟨_, rfl, e249⟩, trivial⟩ ?_
 refine WO.v (R.move rfl) rfl ?_
 refine WO.nil ?_
 exact WX.stepDone rfl (vb eG172.symm) (Kp.refl _)
 rintro vs w250 k250 ⟨e251, -⟩
 replace k250 : Kp [] w152 w250 := k250
 rcases Bool.eq_false_or_eq_true (G171) with hb252 | hb252
 have phb252 : ((G165) = true) ∧ (mayC ((fewF (c))) (version) = mayC ((fewF (c))) (version)) := ⟨(band_t (eG172.symm.trans hb252)).1, of_decide_eq_true (band_t (eG172.symm.trans hb252)).2⟩
 refine WO.haves (fr' := [(74, _), (8, _)]) ⟨⟨_, rfl, e251⟩, ⟨_, rfl, rfl⟩, trivial⟩ ?_
 refine WO.on rfl rfl hb252 ?_
 refine WO.v (R.move rfl) rfl ?_
 refine WO.nil ?_
 exact WX.stepDone rfl (sel_on hb252 rfl) (Kp.refl _)
 have phb252 : ((G165) = false) ∨ (¬ (mayC ((fewF (c))) (version) = mayC ((fewF (c))) (version))) := Or.imp (fun h => h) (fun h => of_decide_eq_false h) (band_f (eG172.symm.trans hb252))
 refine WO.haves (fr' := [(74, _)]) ⟨⟨_, rfl, e251⟩, trivial⟩ ?_
 refine WO.off rfl rfl hb252 rfl ?_
 refine WO.nil ?_
 exact WX.stepDone rfl (sel_of hb252) (Kp.refl _)
 rintro vs w253 k253 ⟨e254, e255, -⟩
 replace k253 : Kp [] w152 w253 := k253
 have z253 := k253.size
 have b253 := old_kp0 b152 k253
 have y253 := b253.size
 rcases Bool.eq_false_or_eq_true (G171) with hb256 | hb256
 have phb256 : ((G165) = true) ∧ (mayC ((fewF (c))) (version) = mayC ((fewF (c))) (version)) := ⟨(band_t (eG172.symm.trans hb256)).1, of_decide_eq_true (band_t (eG172.symm.trans hb256)).2⟩
 refine WO.haves (fr' := [(74, _), (75, _)]) ⟨⟨_, rfl, e254⟩, ⟨_, rfl, sel_t e255 hb256⟩, trivial⟩ ?_
 refine WO.on rfl rfl hb256 ?_
 refine WO.v (R.toStr rfl Try.underlying27 Try.underlying9 Try.underlying5 (((ac_kp0 (ac_kp0 (ac_kp0 (ac_kp0 (ac_kp0 (ac_kp0 (ac_kp0 (ac_kp0 (s30) k32 (by omega) (by omega)) k36 (by omega) (by omega)) k40 (by omega) (by omega)) k44 (by omega) (by omega)) k48 (by omega) (by omega)) k52 (by omega) (by omega)) k152 (by omega) (by omega)) k253 (by omega) (by omega)).pub (L := 0) (H := w253.heap.size) (by omega) (by omega) (by omega) (by omega)))) rfl ?_
 refine WO.nil ?_
 exact WX.stepDone rfl (sel_on hb256 rfl) (Kp.refl _)
 have phb256 : ((G165) = false) ∨ (¬ (mayC ((fewF (c))) (version) = mayC ((fewF (c))) (version))) := Or.imp (fun h => h) (fun h => of_decide_eq_false h) (band_f (eG172.symm.trans hb256))
 refine WO.haves (fr' := [(74, _)]) ⟨⟨_, rfl, e254⟩, trivial⟩ ?_
 refine WO.off rfl rfl hb256 rfl ?_
 refine WO.nil ?_
 exact WX.stepDone rfl (sel_of hb256) (Kp.refl _)
 rintro vs w257 k257 ⟨e258, -⟩
 replace k257 : Kp [] w152 w257 := k257
 rcases Bool.eq_false_or_eq_true (G171) with hb259 | hb259
 have phb259 : ((G165) = true) ∧ (mayC ((fewF (c))) (version) = mayC ((fewF (c))) (version)) := ⟨(band_t (eG172.symm.trans hb259)).1, of_decide_eq_true (band_t (eG172.symm.trans hb259)).2⟩
 refine WO.haves (fr' := [(74, _), (10, _)]) ⟨⟨_, rfl, e258⟩, ⟨_, rfl, rfl⟩, trivial⟩ ?_
 refine WO.on rfl rfl hb259 ?_
 refine WO.v (R.move rfl) rfl ?_
 refine WO.nil ?_
 exact WX.stepDone rfl (sel_on hb259 rfl) (Kp.refl _)
 have phb259 : ((G165) = false) ∨ (¬ (mayC ((fewF (c))) (version) = mayC ((fewF (c))) (version))) := Or.imp (fun h => h) (fun h => of_decide_eq_false h) (band_f (eG172.symm.trans hb259))
 refine WO.haves (fr' := [(74, _)]) ⟨⟨_, rfl, e258⟩, trivial⟩ ?_
 refine WO.off rfl rfl hb259 rfl ?_
 refine WO.nil ?_
 exact WX.stepDone rfl (sel_of hb259) (Kp.refl _)
 rintro vs w260 k260 ⟨e261, e262, -⟩
 replace k260 : Kp [] w152 w260 := k260
 have z260 := k260.size
 have b260 := old_kp0 b152 k260
 have y260 := b260.size
 rcases Bool.eq_false_or_eq_true (G171) with hb263 | hb263
 have phb263 : ((G165) = true) ∧ (mayC ((fewF (c))) (version) = mayC ((fewF (c))) (version)) := ⟨(band_t (eG172.symm.trans hb263)).1, of_decide_eq_true (band_t (eG172.symm.trans hb263)).2⟩
 refine WO.haves (fr' := [(74, _), (77, _)]) ⟨⟨_, rfl, e261⟩, ⟨_, rfl, sel_t e262 hb263⟩, trivial⟩ ?_
 refine WO.on rfl rfl hb263 ?_
 refine WO.v (R.toStr rfl Try.underlying27 Try.underlying9 Try.underlying5 (((ac_kp0 (ac_kp0 (ac_kp0 (ac_kp0 (ac_kp0 (ac_kp0 (ac_kp0 (s35) k36 (by omega) (by omega)) k40 (by omega) (by omega)) k44 (by omega) (by omega)) k48 (by omega) (by omega)) k52 (by omega) (by omega)) k152 (by omega) (by omega)) k260 (by omega) (by omega)).pub (L := 0) (H := w260.heap.size) (by omega) (by omega) (by omega) (by omega)))) rfl ?_
 refine WO.nil ?_
 exact WX.stepDone rfl (sel_on hb263 rfl) (Kp.refl _)
 have phb263 : ((G165) = false) ∨ (¬ (mayC ((fewF (c))) (version) = mayC ((fewF (c))) (version))) := Or.imp (fun h => h) (fun h => of_decide_eq_false h) (band_f (eG172.symm.trans hb263))
 refine WO.haves (fr' := [(74, _)]) ⟨⟨_, rfl, e261⟩, trivial⟩ ?_
 refine WO.off rfl rfl hb263 rfl ?_
 refine WO.nil ?_
 exact WX.stepDone rfl (sel_of hb263) (Kp.refl _)
 rintro vs w264 k264 ⟨e265, e266, e267, -⟩
 replace k264 : Kp [] w152 w264 := k264
 rcases Bool.eq_false_or_eq_true (G171) with hb268 | hb268
 have phb268 : ((G165) = true) ∧ (mayC ((fewF (c))) (version) = mayC ((fewF (c))) (version)) := ⟨(band_t (eG172.symm.trans hb268)).1, of_decide_eq_true (band_t (eG172.symm.trans hb268)).2⟩
 refine WO.haves (fr' := [(74, _), (76, _), (78, _)]) ⟨⟨_, rfl, e265⟩, ⟨_, rfl, sel_t e266 hb268⟩, ⟨_, rfl, sel_t e267 hb268⟩, trivial⟩ ?_
 refine WO.on rfl rfl hb268 ?_
 refine WO.v (R.eqlS rfl rfl) rfl ?_
 refine WO.nil ?_
 exact WX.stepDone rfl (sel_on hb268 rfl) (Kp.refl _)
 have phb268 : ((G165) = false) ∨ (¬ (mayC ((fewF (c))) (version) = mayC ((fewF (c))) (version))) := Or.imp (fun h => h) (fun h => of_decide_eq_false h) (band_f (eG172.symm.trans hb268))
 refine WO.haves (fr' := [(74, _)]) ⟨⟨_, rfl, e265⟩, trivial⟩ ?_
 refine WO.off rfl rfl hb268 rfl ?_
 refine WO.nil ?_
 exact WX.stepDone rfl (sel_of hb268) (Kp.refl _)
 rintro vs w269 k269 ⟨e270, e271, -⟩
 replace k269 : Kp [] w152 w269 := k269
 rcases Bool.eq_false_or_eq_true (G171) with hb272 | hb272
 refine WO.haves (fr' := [(74, _), (79, _)]) ⟨⟨_, rfl, e270⟩, ⟨_, rfl, sel_t e271 hb272⟩, trivial⟩ ?_
 refine WO.v (R.pickT rfl hb272 rfl) rfl ?_
 refine WO.nil ?_
 exact WX.stepDone rfl (vb (band_on hb272)) (Kp.refl _)
 refine WO.haves (fr' := [(74, _)]) ⟨⟨_, rfl, e270⟩, trivial⟩ ?_
 refine WO.v (R.pickF rfl hb272 rfl) rfl ?_
 refine WO.nil ?_
 exact WX.stepDone rfl (vb (band_off hb272)) (Kp.refl _)
 rintro vs w273 k273 ⟨e274, -⟩
 replace k273 : Kp [] w152 w273 := k273
 refine WO.haves (fr' := [(80, _)]) ⟨⟨_, rfl, e274⟩, trivial⟩ ?_
 refine WO.v (R.move rfl) rfl ?_
 refine WO.nil ?_
 exact WX.stepDone rfl (vb eG174.symm) (Kp.refl _)
 rintro vs w275 k275 ⟨e276, -⟩
 replace k275 : Kp [] w152 w275 := k275
 rcases Bool.eq_false_or_eq_true (G173) with hb277 | hb277
 have phb277 : ((G171) = true) ∧ ((⟨(chunksB ((fewF (c)).chunks))⟩ : Str) = (⟨(chunksB ((fewF (c)).chunks))⟩ : Str)) := ⟨(band_t (eG174.symm.trans hb277)).1, of_decide_eq_true (band_t (eG174.symm.trans hb277)).2⟩
 refine WO.haves (fr' := [(81, _), (9, _)]) ⟨⟨_, rfl, e276⟩, ⟨_, rfl, rfl⟩, trivial⟩ ?_
 refine WO.on rfl rfl hb277 ?_
 refine WO.v (R.move rfl) rfl ?_
 refine WO.nil ?_
 exact WX.stepDone rfl (sel_on hb277 rfl) (Kp.refl _)
 have phb277 : ((G171) = false) ∨ (¬ ((⟨(chunksB ((fewF (c)).chunks))⟩ : Str) = (⟨(chunksB ((fewF (c)).chunks))⟩ : Str))) := Or.imp (fun h => h) (fun h => of_decide_eq_false h) (band_f (eG174.symm.trans hb277))
 refine WO.haves (fr' := [(81, _)]) ⟨⟨_, rfl, e276⟩, trivial⟩ ?_
 refine WO.off rfl rfl hb277 rfl ?_
 refine WO.nil ?_
 exact WX.stepDone rfl (sel_of hb277) (Kp.refl _)
 rintro vs w278 k278 ⟨e279, -⟩
 replace k278 : Kp [] w152 w278 := k278
 rcases Bool.eq_false_or_eq_true (G173) with hb280 | hb280
 have phb280 : ((G171) = true) ∧ ((⟨(chunksB ((fewF (c)).chunks))⟩ : Str) = (⟨(chunksB ((fewF (c)).chunks))⟩ : Str)) := ⟨(band_t (eG174.symm.trans hb280)).1, of_decide_eq_true (band_t (eG174.symm.trans hb280)).2⟩
 refine WO.haves (fr' := [(81, _), (11, _)]) ⟨⟨_, rfl, e279⟩, ⟨_, rfl, rfl⟩, trivial⟩ ?_
 refine WO.on rfl rfl hb280 ?_
 refine WO.v (R.move rfl) rfl ?_
 refine WO.nil ?_
 exact WX.stepDone rfl (sel_on hb280 rfl) (Kp.refl _)
 have phb280 : ((G171) = false) ∨ (¬ ((⟨(chunksB ((fewF (c)).chunks))⟩ : Str) = (⟨(chunksB ((fewF (c)).chunks))⟩ : Str))) := Or.imp (fun h => h) (fun h => of_decide_eq_false h) (band_f (eG174.symm.trans hb280))
 refine WO.haves (fr' := [(81, _)]) ⟨⟨_, rfl, e279⟩, trivial⟩ ?_
 refine WO.off rfl rfl hb280 rfl ?_
 refine WO.nil ?_
 exact WX.stepDone rfl (sel_of hb280) (Kp.refl _)
 rintro vs w281 k281 ⟨e282, e283, e284, -⟩
 replace k281 : Kp [] w152 w281 := k281
 rcases Bool.eq_false_or_eq_true (G173) with hb285 | hb285
 have phb285 : ((G171) = true) ∧ ((⟨(chunksB ((fewF (c)).chunks))⟩ : Str) = (⟨(chunksB ((fewF (c)).chunks))⟩ : Str)) := ⟨(band_t (eG174.symm.trans hb285)).1, of_decide_eq_true (band_t (eG174.symm.trans hb285)).2⟩
 refine WO.haves (fr' := [(81, _), (82, _), (83, _)]) ⟨⟨_, rfl, e282⟩, ⟨_, rfl, sel_t e283 hb285⟩, ⟨_, rfl, sel_t e284 hb285⟩, trivial⟩ ?_
 refine WO.on rfl rfl hb285 ?_
 refine WO.v (R.eql rfl rfl) rfl ?_
 refine WO.nil ?_
 exact WX.stepDone rfl (sel_on hb285 rfl) (Kp.refl _)
 have phb285 : ((G171) = false) ∨ (¬ ((⟨(chunksB ((fewF (c)).chunks))⟩ : Str) = (⟨(chunksB ((fewF (c)).chunks))⟩ : Str))) := Or.imp (fun h => h) (fun h => of_decide_eq_false h) (band_f (eG174.symm.trans hb285))
 refine WO.haves (fr' := [(81, _)]) ⟨⟨_, rfl, e282⟩, trivial⟩ ?_
 refine WO.off rfl rfl hb285 rfl ?_
 refine WO.nil ?_
 exact WX.stepDone rfl (sel_of hb285) (Kp.refl _)
 rintro vs w286 k286 ⟨e287, e288, -⟩
 replace k286 : Kp [] w152 w286 := k286
 rcases Bool.eq_false_or_eq_true (G173) with hb289 | hb289
 refine WO.haves (fr' := [(81, _), (84, _)]) ⟨⟨_, rfl, e287⟩, ⟨_, rfl, sel_t e288 hb289⟩, trivial⟩ ?_
 refine WO.v (R.pickT rfl hb289 rfl) rfl ?_
 refine WO.nil ?_
 exact WX.stepDone rfl (vb (band_on hb289)) (Kp.refl _)
 refine WO.haves (fr' := [(81, _)]) ⟨⟨_, rfl, e287⟩, trivial⟩ ?_
 refine WO.v (R.pickF rfl hb289 rfl) rfl ?_
 refine WO.nil ?_
 exact WX.stepDone rfl (vb (band_off hb289)) (Kp.refl _)
 rintro vs w290 k290 ⟨e291, -⟩
 replace k290 : Kp [] w152 w290 := k290
 refine WO.haves (fr' := [(85, _)]) ⟨⟨_, rfl, e291⟩, trivial⟩ ?_
 refine WO.v (R.move rfl) rfl ?_
 refine WO.nil ?_
 exact WX.stepDone rfl (vb eG176.symm) (Kp.refl _)
 rintro vs w292 k292 ⟨e293, -⟩
 replace k292 : Kp [] w152 w292 := k292
 rcases Bool.eq_false_or_eq_true (G175) with hb294 | hb294
 have phb294 : ((G173) = true) ∧ (chunksE ((fewF (c)).chunks) = chunksE ((fewF (c)).chunks)) := ⟨(band_t (eG176.symm.trans hb294)).1, of_decide_eq_true (band_t (eG176.symm.trans hb294)).2⟩
 refine WO.haves (fr' := [(86, _), (16, _)]) ⟨⟨_, rfl, e293⟩, ⟨_, rfl, rfl⟩, trivial⟩ ?_
 refine WO.on rfl rfl hb294 ?_
 refine WO.v (R.move rfl) rfl ?_
 refine WO.nil ?_
 exact WX.stepDone rfl (sel_on hb294 rfl) (Kp.refl _)
 have phb294 : ((G173) = false) ∨ (¬ (chunksE ((fewF (c)).chunks) = chunksE ((fewF (c)).chunks))) := Or.imp (fun h => h) (fun h => of_decide_eq_false h) (band_f (eG176.symm.trans hb294))
 refine WO.haves (fr' := [(86, _)]) ⟨⟨_, rfl, e293⟩, trivial⟩ ?_
 refine WO.off rfl rfl hb294 rfl ?_
 refine WO.nil ?_
 exact WX.stepDone rfl (sel_of hb294) (Kp.refl _)
 rintro vs w295 k295 ⟨e296, e297, -⟩
 replace k295 : Kp [] w152 w295 := k295
 rcases Bool.eq_false_or_eq_true (G175) with hb298 | hb298
 refine WO.haves (fr' := [(86, _), (87, _)]) ⟨⟨_, rfl, e296⟩, ⟨_, rfl, sel_t e297 hb298⟩, trivial⟩ ?_
 refine WO.v (R.pickT rfl hb298 rfl) rfl ?_
 refine WO.nil ?_
 exact WX.stepDone rfl (vb (band_on hb298)) (Kp.refl _)
 refine WO.haves (fr' := [(86, _)]) ⟨⟨_, rfl, e296⟩, trivial⟩ ?_
 refine WO.v (R.pickF rfl hb298 rfl) rfl ?_
 refine WO.nil ?_
 exact WX.stepDone rfl (vb (band_off hb298)) (Kp.refl _)
 rintro vs w299 k299 ⟨e300, -⟩
 replace k299 : Kp [] w152 w299 := k299
 refine WO.haves (fr' := [(88, _)]) ⟨⟨_, rfl, e300⟩, trivial⟩ ?_
 refine WO.v (R.move rfl) rfl ?_
 refine WO.nil ?_
 exact WX.stepDone rfl (vb eG178.symm) (Kp.refl _)
 rintro vs w301 k301 ⟨e302, -⟩
 replace k301 : Kp [] w152 w301 := k301
 rcases Bool.eq_false_or_eq_true (G177) with hb303 | hb303
 have phb303 : ((G175) = true) ∧ ((decide (((unchB ((shortB (b))))) = ((unchB ((shortB (b))))))) = true) := ⟨(band_t (eG178.symm.trans hb303)).1, (band_t (eG178.symm.trans hb303)).2⟩
 refine WO.haves (fr' := [(89, _), (13, _)]) ⟨⟨_, rfl, e302⟩, ⟨_, rfl, rfl⟩, trivial⟩ ?_
 refine WO.on rfl rfl hb303 ?_
 refine WO.v (R.move rfl) rfl ?_
 refine WO.nil ?_
 exact WX.stepDone rfl (sel_on hb303 rfl) (Kp.refl _)
 have phb303 : ((G175) = false) ∨ ((decide (((unchB ((shortB (b))))) = ((unchB ((shortB (b))))))) = false) := Or.imp (fun h => h) (fun h => h) (band_f (eG178.symm.trans hb303))
 refine WO.haves (fr' := [(89, _)]) ⟨⟨_, rfl, e302⟩, trivial⟩ ?_
 refine WO.off rfl rfl hb303 rfl ?_
 refine WO.nil ?_
 exact WX.stepDone rfl (sel_of hb303) (Kp.refl _)
 rintro vs w304 k304 ⟨e305, -⟩
 replace k304 : Kp [] w152 w304 := k304
 rcases Bool.eq_false_or_eq_true (G177) with hb306 | hb306
 have phb306 : ((G175) = true) ∧ ((decide (((unchB ((shortB (b))))) = ((unchB ((shortB (b))))))) = true) := ⟨(band_t (eG178.symm.trans hb306)).1, (band_t (eG178.symm.trans hb306)).2⟩
 refine WO.haves (fr' := [(89, _), (15, _)]) ⟨⟨_, rfl, e305⟩, ⟨_, rfl, rfl⟩, trivial⟩ ?_
 refine WO.on rfl rfl hb306 ?_
 refine WO.v (R.move rfl) rfl ?_
 refine WO.nil ?_
 exact WX.stepDone rfl (sel_on hb306 rfl) (Kp.refl _)
 have phb306 : ((G175) = false) ∨ ((decide (((unchB ((shortB (b))))) = ((unchB ((shortB (b))))))) = false) := Or.imp (fun h => h) (fun h => h) (band_f (eG178.symm.trans hb306))
 refine WO.haves (fr' := [(89, _)]) ⟨⟨_, rfl, e305⟩, trivial⟩ ?_
 refine WO.off rfl rfl hb306 rfl ?_
 refine WO.nil ?_
 exact WX.stepDone rfl (sel_of hb306) (Kp.refl _)
 rintro vs w307 k307 ⟨e308, e309, e310, -⟩
 replace k307 : Kp [] w152 w307 := k307
 rcases Bool.eq_false_or_eq_true (G177) with hb311 | hb311
 have phb311 : ((G175) = true) ∧ ((decide (((unchB ((shortB (b))))) = ((unchB ((shortB (b))))))) = true) := ⟨(band_t (eG178.symm.trans hb311)).1, (band_t (eG178.symm.trans hb311)).2⟩
 refine WO.haves (fr' := [(89, _), (90, _), (91, _)]) ⟨⟨_, rfl, e308⟩, ⟨_, rfl, sel_t e309 hb311⟩, ⟨_, rfl, sel_t e310 hb311⟩, trivial⟩ ?_
 refine WO.on rfl rfl hb311 ?_
 refine WO.v (R.eql rfl rfl) rfl ?_
 refine WO.nil ?_
 exact WX.stepDone rfl (sel_on hb311 rfl) (Kp.refl _)
 have phb311 : ((G175) = false) ∨ ((decide (((unchB ((shortB (b))))) = ((unchB ((shortB (b))))))) = false) := Or.imp (fun h => h) (fun h => h) (band_f (eG178.symm.trans hb311))
 refine WO.haves (fr' := [(89, _)]) ⟨⟨_, rfl, e308⟩, trivial⟩ ?_
 refine WO.off rfl rfl hb311 rfl ?_
 refine WO.nil ?_
 exact WX.stepDone rfl (sel_of hb311) (Kp.refl _)
 rintro vs w312 k312 ⟨e313, e314, -⟩
 replace k312 : Kp [] w152 w312 := k312
 rcases Bool.eq_false_or_eq_true (G177) with hb315 | hb315
 refine WO.haves (fr' := [(89, _), (92, _)]) ⟨⟨_, rfl, e313⟩, ⟨_, rfl, sel_t e314 hb315⟩, trivial⟩ ?_
 refine WO.v (R.pickT rfl hb315 rfl) rfl ?_
 refine WO.nil ?_
 exact WX.stepDone rfl (vb (band_on hb315)) (Kp.refl _)
 refine WO.haves (fr' := [(89, _)]) ⟨⟨_, rfl, e313⟩, trivial⟩ ?_
 refine WO.v (R.pickF rfl hb315 rfl) rfl ?_
 refine WO.nil ?_
 exact WX.stepDone rfl (vb (band_off hb315)) (Kp.refl _)
 rintro vs w316 k316 ⟨e317, -⟩
 replace k316 : Kp [] w152 w316 := k316
 refine WO.haves (fr' := [(93, _)]) ⟨⟨_, rfl, e317⟩, trivial⟩ ?_
 refine WO.v (R.move rfl) rfl ?_
 refine WO.nil ?_
 exact WX.stepDone rfl (vb eG180.symm) (Kp.refl _)
 rintro vs w318 k318 ⟨e319, -⟩
 replace k318 : Kp [] w152 w318 := k318
 rcases Bool.eq_false_or_eq_true (G179) with hb320 | hb320
 have phb320 : ((G177) = true) ∧ (unchE ((shortB (b))) = unchE ((shortB (b)))) := ⟨(band_t (eG180.symm.trans hb320)).1, of_decide_eq_true (band_t (eG180.symm.trans hb320)).2⟩
 refine WO.haves (fr' := [(94, _), (17, _)]) ⟨⟨_, rfl, e319⟩, ⟨_, rfl, rfl⟩, trivial⟩ ?_
 refine WO.on rfl rfl hb320 ?_
 refine WO.v (R.move rfl) rfl ?_
 refine WO.nil ?_
 exact WX.stepDone rfl (sel_on hb320 rfl) (Kp.refl _)
 have phb320 : ((G177) = false) ∨ (¬ (unchE ((shortB (b))) = unchE ((shortB (b))))) := Or.imp (fun h => h) (fun h => of_decide_eq_false h) (band_f (eG180.symm.trans hb320))
 refine WO.haves (fr' := [(94, _)]) ⟨⟨_, rfl, e319⟩, trivial⟩ ?_
 refine WO.off rfl rfl hb320 rfl ?_
 refine WO.nil ?_
 exact WX.stepDone rfl (sel_of hb320) (Kp.refl _)
 rintro vs w321 k321 ⟨e322, e323, -⟩
 replace k321 : Kp [] w152 w321 := k321
 rcases Bool.eq_false_or_eq_true (G179) with hb324 | hb324
 refine WO.haves (fr' := [(94, _), (95, _)]) ⟨⟨_, rfl, e322⟩, ⟨_, rfl, sel_t e323 hb324⟩, trivial⟩ ?_
 refine WO.v (R.pickT rfl hb324 rfl) rfl ?_
 refine WO.nil ?_
 exact WX.stepDone rfl (vb (band_on hb324)) (Kp.refl _)
 refine WO.haves (fr' := [(94, _)]) ⟨⟨_, rfl, e322⟩, trivial⟩ ?_
 refine WO.v (R.pickF rfl hb324 rfl) rfl ?_
 refine WO.nil ?_
 exact WX.stepDone rfl (vb (band_off hb324)) (Kp.refl _)
 rintro vs w325 k325 ⟨-, -, -, -, -, -, -, -, -, -, -, -, -, -, -, -, -, -, -, -, -, -, -, -, -, -, -, -, -, -, -, -, -, -, -, -, -, -, -, -, -, e367, -⟩
 replace k325 : Kp [] w152 w325 := k325
 have z325 := k325.size
 have b325 := old_kp0 b152 k325
 have y325 := b325.size
 subst eG166 eG172 eG174 eG176 eG178 eG180
 refine WO.haves (fr' := [(96, _), (0, _), (1, _), (2, _), (3, _), (6, _), (7, _), (8, _), (9, _), (10, _), (11, _), (12, _), (13, _), (14, _), (15, _), (16, _), (17, _)]) ⟨⟨_, rfl, e367⟩, ⟨_, rfl, rfl⟩, ⟨_, rfl, rfl⟩, ⟨_, rfl, rfl⟩, ⟨_, rfl, rfl⟩, ⟨_, rfl, rfl⟩, ⟨_, rfl, rfl⟩, ⟨_, rfl, rfl⟩, ⟨_, rfl, rfl⟩, ⟨_, rfl, rfl⟩, ⟨_, rfl, rfl⟩, ⟨_, rfl, rfl⟩, ⟨_, rfl, rfl⟩, ⟨_, rfl, rfl⟩, ⟨_, rfl, rfl⟩, ⟨_, rfl, rfl⟩, ⟨_, rfl, rfl⟩, trivial⟩ ?_
 refine WO.v (R.assign rfl) rfl ?_
 refine WO.nil ?_
 refine WX.sel [0, 1, 2, 3, 6, 7, 8, 9, 10, 11, 12, 13, 14, 15, 16, 17] rfl ?_
 refine WX.next ?_
 refine WC.ret ?_
 have e0 : (((((((decide (needF ((fewF (c)).kind) = needF ((fewF (c)).kind))) && (decide (mayC ((fewF (c))) (version) = mayC ((fewF (c))) (version)))) && (decide ((⟨(chunksB ((fewF (c)).chunks))⟩ : Str) = (⟨(chunksB ((fewF (c)).chunks))⟩ : Str)))) && (decide (chunksE ((fewF (c)).chunks) = chunksE ((fewF (c)).chunks)))) && (decide (((unchB ((shortB (b))))) = ((unchB ((shortB (b)))))))) && (decide (unchE ((shortB (b))) = unchE ((shortB (b)))))) && (decide (((projF ((fewF (c))) (version))) = ((projF ((fewF (c))) (version)))))) = true := by simp
 refine WX.ret1 Try.results7 rfl ?_
 exact ⟨by rw [e0], Kp.of_below b325⟩


end Go.Proofs.Ytfmlgeeogbhppaa
