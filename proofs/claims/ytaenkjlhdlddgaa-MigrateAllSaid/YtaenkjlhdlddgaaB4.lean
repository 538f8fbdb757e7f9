/- Contracts of functions, walked operation by operation. -/
import Derived.Test.YtaenkjlhdlddgaaB3
namespace Go.Proofs.Ytaenkjlhdlddgaa
open Go.RowKit


theorem fe46_2 {n : Nat} {fr : Fr} {w : World} {ty : TypeId} {x : Operand} {a : Addr} (hx : ev fr x = some (.pointer (some a))) : Runs Try.prog n fr w (.fieldAddr 46 x 2) ty (.pointer (some (a.add 2))) w := R.fieldAddr hx Try.underlying46 rfl rfl sz24

set_option maxRecDepth 100000 in
set_option maxHeartbeats 400000 in
theorem copy_s {w : World} {cs_s : List Value} {s : State} (h_s : Rp.rp false 0 w.heap.size w cs_s s) :
    Ret Try.prog 27 [.agg cs_s.toArray].toArray w fun r w' => ∃ (rs0 : List Value), r = .agg rs0.toArray ∧ Rp.rp true w.heap.size w'.heap.size w' rs0 (s) ∧ Kp [] w w' := by
 obtain ⟨a5, c6, a8, c9, a11, c12, rfl, i1, i2, i3, i4, s7, s10, s13⟩ := State.el h_s
 have ls7 : (s.sess).length * 32 ≤ 140737488355328 := s7.lenle
 have ls10 : (s.opens).length * 16 ≤ 140737488355328 := s10.lenle
 have ls13 : (s.snaps).length * 64 ≤ 140737488355328 := s13.lenle
 refine Ret.enter Try.func27 rfl Try.ntmps27 rfl rfl ?_
 refine WC.sel [0] rfl ?_
 refine WC.seq ?_
 refine WC.region ?_
 refine WO.box rfl rfl rfl ?_
 intro w14 n14
 have z14 : w.heap.size < w14.heap.size := n14.lt
 have b14 := old_kp0 (Below.refl w.heap.size w) n14.kp
 have y14 : w.heap.size ≤ w14.heap.size := b14.size
 refine WO.alloc zr34 rfl ?_
 intro w15 n15
 have z15 : w14.heap.size < w15.heap.size := n15.lt
 have b15 := old_kp0 b14 n15.kp
 have y15 : w.heap.size ≤ w15.heap.size := b15.size
 refine WO.nil ?_
 refine WX.sel [0, 1, 2] rfl ?_
 refine WX.next ?_
 refine WC.seq ?_
 refine WC.region ?_
 refine WO.v (fa34_4 rfl) rfl ?_
 have B16 := (n14.blk).kp0 n15.kp
 refine WO.v (R.loadB rfl B16 rfl Try.underlying30 rfl) rfl ?_
 refine WO.c (E.call rfl rfl Try.func45 rfl rfl) (cloneSess_s (l := s.sess) (a_l := a5) (c_l := c6) ((sl_old s7 b15).mono (lo' := 0) (hi' := w15.heap.size) (Nat.zero_le _) (by omega))) rfl ?_
 rintro _ w17 ⟨a18, c19, rfl, s20, k17⟩
 have ls20 : ((s.sess)).length * 32 ≤ 140737488355328 := s20.lenle
 have z17 : w15.heap.size ≤ w17.heap.size := k17.size
 have b17 := old_kp0 b15 k17
 have y17 : w.heap.size ≤ w17.heap.size := b17.size
 refine WO.v (fa34_4 rfl) rfl ?_
 have B21 := (B16).kp0 k17
 refine WO.storeB (cs' := [_, _, _, _, _, _, _]) rfl rfl B21 rfl rfl sz30 rfl ?_
 intro w22 k22 B22 z_22
 have z22 : w17.heap.size = w22.heap.size := z_22.symm
 have b22 := old_kp b17 k22 (mem1 (by omega))
 have y22 : w.heap.size ≤ w22.heap.size := b22.size
 refine WO.nil ?_
 refine WX.sel [0, 1, 2] rfl ?_
 refine WX.next ?_
 refine WC.seq ?_
 refine WC.region ?_
 refine WO.v (fa34_5 rfl) rfl ?_
 refine WO.v (R.loadB rfl B22 rfl Try.underlying31 rfl) rfl ?_
 refine WO.c (E.call rfl rfl Try.func46 rfl rfl) (cloneOpen_s (l := s.opens) (a_l := a8) (c_l := c9) ((sl_old s10 b22).mono (lo' := 0) (hi' := w22.heap.size) (Nat.zero_le _) (by omega))) rfl ?_
 rintro _ w23 ⟨a24, c25, rfl, s26, k23⟩
 have ls26 : ((s.opens)).length * 16 ≤ 140737488355328 := s26.lenle
 have z23 : w22.heap.size ≤ w23.heap.size := k23.size
 have b23 := old_kp0 b22 k23
 have y23 : w.heap.size ≤ w23.heap.size := b23.size
 refine WO.v (fa34_5 rfl) rfl ?_
 have B27 := (B22).kp0 k23
 refine WO.storeB (cs' := [_, _, _, _, _, _, _]) rfl rfl B27 rfl rfl sz31 rfl ?_
 intro w28 k28 B28 z_28
 have z28 : w23.heap.size = w28.heap.size := z_28.symm
 have b28 := old_kp b23 k28 (mem1 (by omega))
 have y28 : w.heap.size ≤ w28.heap.size := b28.size
 refine WO.nil ?_
 refine WX.sel [0, 1, 2] rfl ?_
 refine WX.next ?_
 refine WC.seq ?_
 refine WC.region ?_
 refine WO.v (fa34_6 rfl) rfl ?_
 refine WO.v (R.loadB rfl B28 rfl Try.underlying32 rfl) rfl ?_
 refine WO.c (E.call rfl rfl Try.func47 rfl rfl) (cloneSnap_s (l := s.snaps) (a_l := a11) (c_l := c12) (B := w.heap.size) (by omega) (sl_old s13 b28)) rfl ?_
 rintro _ w29 ⟨a30, c31, rfl, s32, k29⟩
 have ls32 : ((s.snaps)).length * 64 ≤ 140737488355328 := s32.lenle
 have z29 : w28.heap.size ≤ w29.heap.size := k29.size
 have b29 := old_kp0 b28 k29
 have y29 : w.heap.size ≤ w29.heap.size := b29.size
 refine WO.v (fa34_6 rfl) rfl ?_
 have B33 := (B28).kp0 k29
 refine WO.storeB (cs' := [_, _, _, _, _, _, _]) rfl rfl B33 rfl rfl sz32 rfl ?_
 intro w34 k34 B34 z_34
 have z34 : w29.heap.size = w34.heap.size := z_34.symm
 have b34 := old_kp b29 k34 (mem1 (by omega))
 have y34 : w.heap.size ≤ w34.heap.size := b34.size
 refine WO.nil ?_
 refine WX.sel [0, 1, 2] rfl ?_
 refine WX.next ?_
 refine WC.seq ?_
 refine WC.seq ?_
 refine WC.region ?_
 refine WO.v (fa34_6 rfl) rfl ?_
 refine WO.v (R.loadB rfl B34 rfl Try.underlying32 rfl) rfl ?_
 refine WO.v (R.len rfl Try.underlying32) rfl ?_
 refine WO.v (R.move rfl) rfl ?_
 refine WO.nil ?_
 refine WX.sel [0, 1, 2, 18, 19] rfl ?_
 refine WX.next ?_
 refine WC.block ?_
 have ac35 := ac_kp (s32) k34 (by omega) (by omega) (mem1 (by omega))
 have bd36 := ac35.bd
 have ty37 := ac35.ty
 refine WC.loopK [0, 1, 2, 18] rfl (fun zz : Nat => [(19, (.int .i64 (((zz) : Nat) : Int)))]) (fun (zz : Nat) (w' : World) => (Kp (ob (.slice a30 ((s.snaps)).length c31)) w34 w') ∧ ((zz) ≤ s.snaps.length) ∧ (Mix (α := Snap) (zz) (w28.heap.size) (w28.heap.size) w'.heap.size w'.heap.size w' (.slice a30 ((s.snaps)).length c31) s.snaps)) (fun zz => s.snaps.length - (zz)) (0) ?_ ?_ ?_
 exact ⟨⟨_, rfl, rfl⟩, trivial⟩
 exact ⟨(Kp.refl _).sub (by simp), Nat.zero_le _, (((ac35).mono (Nat.le_refl _) (Nat.le_refl _) (by omega : _ ≤ w28.heap.size) (Nat.le_refl _)).mix (hi2 := w28.heap.size)).kp0 (Kp.refl _) (by omega) (by omega) (by omega)⟩
 rintro k w38 ⟨k38, hk, hmix⟩
 try dsimp only at hk hmix
 have z38 : w34.heap.size ≤ w38.heap.size := k38.size
 have b38 := old_kp b34 k38 (fun g hg => by have := bd36 g hg; omega)
 have y38 : w.heap.size ≤ w38.heap.size := b38.size
 refine (?_ : WC _ _ _ _ ([(19, (.int .i64 ((k : Nat) : Int)))] ++ _) w38)
 refine WC.seq ?_
 refine WC.region ?_
 refine WO.v (R.lss rfl rfl) rfl ?_
 refine WO.nil ?_
 refine WX.sel [0, 1, 2, 18, 19, 20] rfl ?_
 refine WX.next ?_
 refine WC.seq ?_
 refine WC.cond rfl (fun q39 => ?_) (fun q39 => ?_)
 have p39 : ((k : Nat) : Int) < ((((s.snaps)).length : Nat) : Int) := of_decide_eq_true q39
 refine WC.skip ?_
 refine WX.next ?_
 refine WC.seq ?_
 refine WC.block ?_
 refine WC.seq ?_
 refine WC.region ?_
 refine WO.v (R.move rfl) rfl ?_
 refine WO.v (R.assign rfl) rfl ?_
 refine WO.nil ?_
 refine WX.sel [0, 1, 2, 3, 18, 19, 20] rfl ?_
 refine WX.next ?_
 refine WC.sel [0, 1, 2, 3, 18, 19, 20] rfl ?_
 have B40 := (B34).kp k38 (fun hm => by have := bd36 _ hm; omega)
 have B41 := (B34).kp k38 (fun hm => by have := bd36 _ hm; omega)
 obtain ⟨x42, hx42⟩ := get_ex (xs := s.snaps) (i := k) (by omega)
 obtain ⟨A43, cs44, hA43, loA43, hiA43, ccA43, r45⟩ := (hmix).at_ hx42 (Nat.le_refl _)
 obtain ⟨a48, c49, rfl, i46, i47, s50, i51⟩ := Snap.el r45
 have ls50 : (x42.chunks).length * 8 ≤ 140737488355328 := s50.lenle
 obtain ⟨A57, cs58, hA57, loA57, hiA57, ccA57, r59⟩ := (hmix).at_ hx42 (Nat.le_refl _)
 obtain ⟨a62, c63, rfl, i60, i61, s64, i65⟩ := Snap.el r59
 have ls64 : (x42.chunks).length * 8 ≤ 140737488355328 := s64.lenle
 refine WC.draw' mixed_orders [.ex [] (.pointer (some ⟨w.heap.size, 6, none⟩)), .ex [0] (.slice a30 ((s.snaps)).length c31), .ex [] (.int .i64 ((k : Nat) : Int)), .ex [] (.pointer (some ⟨w.heap.size, 6, none⟩)), .ex [3] (.slice a30 ((s.snaps)).length c31), .ex [] (.int .i64 ((k : Nat) : Int)), .ex [4, 5] (.pointer (some (A43.add (k * 5)))), .ex [6] (.pointer (some ((A43.add (k * 5)).add 2))), .ex [7] (.slice a48 x42.chunks.length c49), ⟨[8], [], fun u w' => ∃ a c, u = .slice a ((x42.chunks)).length c ∧ Sl (α := Int) true w38.heap.size w'.heap.size w' (.slice a ((x42.chunks)).length c) ((x42.chunks))⟩, .ex [1, 2] (.pointer (some (A57.add (k * 5)))), .ex [10] (.pointer (some ((A57.add (k * 5)).add 2)))] 12 (by kernel_rfl) ⟨fun _ _ _ h _ => h, fun _ _ _ h _ => h, fun _ _ _ h _ => h, fun _ _ _ h _ => h, fun _ _ _ h _ => h, fun _ _ _ h _ => h, fun _ _ _ h _ => h, fun _ _ _ h _ => h, fun _ _ _ h _ => h, fun _ _ _ ⟨a, c, e, h⟩ k => ⟨a, c, e, (sl_kp0 h k (Nat.le_refl _)).mono (Nat.le_refl _) k.size⟩, fun _ _ _ h _ => h, fun _ _ _ h _ => h, trivial⟩ ⟨?_, ?_, ?_, ?_, ?_, ?_, ?_, ?_, ?_, ?_, ?_, ?_, trivial⟩ ?_
 rintro vs w66 k66 ⟨-⟩
 replace k66 : Kp [] w38 w66 := k66
 refine WO.haves (fr' := [(1, (.pointer (some ⟨w.heap.size, 0, none⟩)))]) ⟨⟨_, rfl, rfl⟩, trivial⟩ ?_
 refine WO.v (fa34_6 rfl) rfl ?_
 refine WO.nil ?_
 exact WX.stepDone rfl rfl (Kp.refl _)
 rintro vs w67 k67 ⟨e68, -⟩
 replace k67 : Kp [] w38 w67 := k67
 have z67 : w38.heap.size ≤ w67.heap.size := k67.size
 have b67 := old_kp0 b38 k67
 have y67 : w.heap.size ≤ w67.heap.size := b67.size
 refine WO.haves (fr' := [(22, (.pointer (some ⟨w.heap.size, 6, none⟩)))]) ⟨⟨_, rfl, e68⟩, trivial⟩ ?_
 have B69 := ((B34).kp k38 (fun hm => by have := bd36 _ hm; omega)).kp0 k67
 refine WO.v (R.loadB rfl B69 rfl Try.underlying32 rfl) rfl ?_
 refine WO.nil ?_
 exact WX.stepDone rfl rfl (Kp.refl _)
 rintro vs w70 k70 ⟨-⟩
 replace k70 : Kp [] w38 w70 := k70
 refine WO.haves (fr' := [(3, (.int .i64 ((k : Nat) : Int)))]) ⟨⟨_, rfl, rfl⟩, trivial⟩ ?_
 refine WO.v (R.move rfl) rfl ?_
 refine WO.nil ?_
 exact WX.stepDone rfl rfl (Kp.refl _)
 rintro vs w71 k71 ⟨-⟩
 replace k71 : Kp [] w38 w71 := k71
 refine WO.haves (fr' := [(1, (.pointer (some ⟨w.heap.size, 0, none⟩)))]) ⟨⟨_, rfl, rfl⟩, trivial⟩ ?_
 refine WO.v (fa34_6 rfl) rfl ?_
 refine WO.nil ?_
 exact WX.stepDone rfl rfl (Kp.refl _)
 rintro vs w72 k72 ⟨e73, -⟩
 replace k72 : Kp [] w38 w72 := k72
 have z72 : w38.heap.size ≤ w72.heap.size := k72.size
 have b72 := old_kp0 b38 k72
 have y72 : w.heap.size ≤ w72.heap.size := b72.size
 refine WO.haves (fr' := [(25, (.pointer (some ⟨w.heap.size, 6, none⟩)))]) ⟨⟨_, rfl, e73⟩, trivial⟩ ?_
 have B74 := ((B34).kp k38 (fun hm => by have := bd36 _ hm; omega)).kp0 k72
 refine WO.v (R.loadB rfl B74 rfl Try.underlying32 rfl) rfl ?_
 refine WO.nil ?_
 exact WX.stepDone rfl rfl (Kp.refl _)
 rintro vs w75 k75 ⟨-⟩
 replace k75 : Kp [] w38 w75 := k75
 refine WO.haves (fr' := [(3, (.int .i64 ((k : Nat) : Int)))]) ⟨⟨_, rfl, rfl⟩, trivial⟩ ?_
 refine WO.v (R.move rfl) rfl ?_
 refine WO.nil ?_
 exact WX.stepDone rfl rfl (Kp.refl _)
 rintro vs w76 k76 ⟨e77, e78, -⟩
 replace k76 : Kp [] w38 w76 := k76
 refine WO.haves (fr' := [(26, (.slice a30 ((s.snaps)).length c31)), (27, (.int .i64 ((k : Nat) : Int)))]) ⟨⟨_, rfl, e77⟩, ⟨_, rfl, e78⟩, trivial⟩ ?_
 refine WO.v (R.indexAddrN rfl rfl Try.underlying32 sz46 hA43 (by omega)) rfl ?_
 refine WO.nil ?_
 exact WX.stepDone rfl rfl (Kp.refl _)
 rintro vs w79 k79 ⟨e80, -⟩
 replace k79 : Kp [] w38 w79 := k79
 refine WO.haves (fr' := [(28, (.pointer (some (A43.add (k * 5)))))]) ⟨⟨_, rfl, e80⟩, trivial⟩ ?_
 refine WO.v (fe46_2 rfl) rfl ?_
 refine WO.nil ?_
 exact WX.stepDone rfl rfl (Kp.refl _)
 rintro vs w81 k81 ⟨e82, -⟩
 replace k81 : Kp [] w38 w81 := k81
 have z81 : w38.heap.size ≤ w81.heap.size := k81.size
 have b81 := old_kp0 b38 k81
 have y81 : w.heap.size ≤ w81.heap.size := b81.size
 refine WO.haves (fr' := [(29, (.pointer (some ((A43.add (k * 5)).add 2))))]) ⟨⟨_, rfl, e82⟩, trivial⟩ ?_
 refine WO.v (R.load1 rfl Try.underlying24 rfl (((ccA43).kpA k81 (by omega) (by simp)).one (j := 2) rfl)) rfl ?_
 refine WO.nil ?_
 exact WX.stepDone rfl rfl (Kp.refl _)
 rintro vs w83 k83 ⟨e84, -⟩
 replace k83 : Kp [] w38 w83 := k83
 have z83 : w38.heap.size ≤ w83.heap.size := k83.size
 have b83 := old_kp0 b38 k83
 have y83 : w.heap.size ≤ w83.heap.size := b83.size
 refine WO.haves (fr' := [(30, (.slice a48 x42.chunks.length c49))]) ⟨⟨_, rfl, e84⟩, trivial⟩ ?_
 refine WO.c (E.call rfl rfl Try.func48 rfl rfl) (cloneInt_s (l := x42.chunks) (a_l := a48) (c_l := c49) ((sl_kp0 (s50) k83 (by omega)).mono (lo' := 0) (hi' := w83.heap.size) (Nat.zero_le _) (by omega))) rfl ?_
 rintro _ w85 ⟨a86, c87, rfl, s88, k85⟩
 have ls88 : ((x42.chunks)).length * 8 ≤ 140737488355328 := s88.lenle
 have z85 : w83.heap.size ≤ w85.heap.size := k85.size
 have b85 := old_kp0 b83 k85
 have y85 : w.heap.size ≤ w85.heap.size := b85.size
 refine WO.nil ?_
 exact WX.stepDone rfl ⟨a86, c87, rfl, (s88).mono (by omega) (by omega)⟩ ((Kp.refl _).step k85 (by simp))
 rintro vs w89 k89 ⟨e90, e91, -⟩
 replace k89 : Kp [] w38 w89 := k89
 refine WO.haves (fr' := [(23, (.slice a30 ((s.snaps)).length c31)), (24, (.int .i64 ((k : Nat) : Int)))]) ⟨⟨_, rfl, e90⟩, ⟨_, rfl, e91⟩, trivial⟩ ?_
 refine WO.v (R.indexAddrN rfl rfl Try.underlying32 sz46 hA57 (by omega)) rfl ?_
 refine WO.nil ?_
 exact WX.stepDone rfl rfl (Kp.refl _)
 rintro vs w92 k92 ⟨e93, -⟩
 replace k92 : Kp [] w38 w92 := k92
 refine WO.haves (fr' := [(32, (.pointer (some (A57.add (k * 5)))))]) ⟨⟨_, rfl, e93⟩, trivial⟩ ?_
 refine WO.v (fe46_2 rfl) rfl ?_
 refine WO.nil ?_
 exact WX.stepDone rfl rfl (Kp.refl _)
 rintro vs w94 k94 ⟨-, -, -, -, -, -, -, -, -, e104, -, e106, -⟩
 replace k94 : Kp [] w38 w94 := k94
 have z94 : w38.heap.size ≤ w94.heap.size := k94.size
 have b94 := old_kp0 b38 k94
 have y94 : w.heap.size ≤ w94.heap.size := b94.size
 obtain ⟨a107, c108, e109, s110⟩ := e104
 have ls110 : (((x42.chunks))).length * 8 ≤ 140737488355328 := s110.lenle
 refine WO.haves (fr' := [(31, (.slice a107 ((x42.chunks)).length c108)), (33, (.pointer (some ((A57.add (k * 5)).add 2)))), (0, (.agg #[(.int .i64 s.version), (.int .i64 s.next), (.int .i64 s.keep), (.int .i64 s.quota), (.slice a5 s.sess.length c6), (.slice a8 s.opens.length c9), (.slice a11 s.snaps.length c12)])), (1, (.pointer (some ⟨w.heap.size, 0, none⟩))), (2, (.pointer (some ⟨w14.heap.size, 0, none⟩))), (3, (.int .i64 ((k : Nat) : Int))), (18, (.int .i64 ((((s.snaps)).length : Nat) : Int))), (19, (.int .i64 ((k : Nat) : Int))), (20, (.bool (decide (((k : Nat) : Int) < ((((s.snaps)).length : Nat) : Int)))))]) ⟨⟨_, rfl, e109⟩, ⟨_, rfl, e106⟩, ⟨_, rfl, rfl⟩, ⟨_, rfl, rfl⟩, ⟨_, rfl, rfl⟩, ⟨_, rfl, rfl⟩, ⟨_, rfl, rfl⟩, ⟨_, rfl, rfl⟩, ⟨_, rfl, rfl⟩, trivial⟩ ?_
 have mx111 := (hmix).kp0 k94 (by omega) (by omega) (by omega)
 have bd112 := mx111.bd
 refine WO.storeM (j := 2) rfl rfl mx111 (by omega) (by omega) (by omega) hA57 hx42 (by decide) rfl rfl sz24 (by decide) (fun cs h => by obtain ⟨_, _, rfl, h0, h1, h2, h4⟩ := Snap.el h; exact Snap.mk_ h0 h1 ((s110).mono (lo' := w28.heap.size) (hi' := w94.heap.size) (by omega) (by omega)) h4) ?_
 intro w113 h114 k113 z_113
 have z113 : w94.heap.size = w113.heap.size := z_113.symm
 have b113 := old_kp b94 k113 (fun g hg => by have := bd112 g hg; omega)
 have y113 : w.heap.size ≤ w113.heap.size := b113.size
 refine WO.nil ?_
 refine WX.sel [0, 1, 2, 3, 18, 19, 20] rfl ?_
 refine WX.blkNormal ?_
 refine WX.next ?_
 refine WC.region ?_
 refine WO.v (R.inc rfl (by omega)) rfl ?_
 refine WO.v (R.move rfl) rfl ?_
 refine WO.nil ?_
 refine WX.sel [0, 1, 2, 3, 18, 19, 20] rfl ?_
 exact WX.loopNextK [0, 1, 2, 18] (k + 1) rfl ⟨⟨_, rfl, rfl⟩, trivial⟩ ⟨((((Kp.refl _).sub (by simp)).step k38 (fun g hg => .inl hg)).step k94 (by simp)).step k113 (fun g hg => .inl hg), by omega, h114⟩ (by show (s.snaps.length - (k + 1)) < (s.snaps.length - k); omega)
 have p39 : ¬ (((k : Nat) : Int) < ((((s.snaps)).length : Nat) : Int)) := of_decide_eq_false q39
 refine WC.exit ?_
 refine WX.thenExit ?_
 refine WX.loopExit ?_
 have s115 : Sl true w28.heap.size w38.heap.size w38 (.slice a30 ((s.snaps)).length c31) s.snaps := (hmix).done (by omega) (by omega) (by omega) (by omega) (by omega)
 refine WX.blkHit ?_
 refine WX.next ?_
 refine WC.seq ?_
 refine WC.region ?_
 have B116 := (B34).kp k38 (fun hm => by have := bd36 _ hm; omega)
 refine WO.v (R.loadBN (vs := [_, _, _, _, _, _, _]) rfl B116 rfl Try.underlying34 rfl sz34) rfl ?_
 have B117 := (((((((n15.blk).kp0 k17).kp1 k22 (by omega)).kp0 k23).kp1 k28 (by omega)).kp0 k29).kp1 k34 (by omega)).kp k38 (fun hm => by have := bd36 _ hm; omega)
 refine WO.storeBN rfl rfl B117 rfl (by simp [Value.oneCell']) sz34 ?_
 intro w118 k118 B118 z_118
 have z118 : w38.heap.size = w118.heap.size := z_118.symm
 have b118 := old_kp b38 k118 (mem1 (by omega))
 have y118 : w.heap.size ≤ w118.heap.size := b118.size
 refine WO.nil ?_
 refine WX.sel [0, 1, 2, 18, 19, 20] rfl ?_
 refine WX.next ?_
 refine WC.ret ?_
 have e0 : (⟨s.version, s.next, s.keep, s.quota, ((s.sess)), ((s.opens)), s.snaps⟩ : State) = (s) := by rfl
 have f0 : Rp.rp true w.heap.size w118.heap.size w118 [(.int .i64 s.version), (.int .i64 s.next), (.int .i64 s.keep), (.int .i64 s.quota), (.slice a18 ((s.sess)).length c19), (.slice a24 ((s.opens)).length c25), (.slice a30 ((s.snaps)).length c31)] (⟨s.version, s.next, s.keep, s.quota, ((s.sess)), ((s.opens)), s.snaps⟩ : State) := (State.mk_ (i1) (i2) (i3) (i4) ((sl_kp (sl_kp (sl_kp (sl_kp0 (sl_kp (sl_kp0 (sl_kp (s20) k22 (by omega) (mem1 (by omega))) k23 (by omega)) k28 (by omega) (mem1 (by omega))) k29 (by omega)) k34 (by omega) (mem1 (by omega))) k38 (by omega) (fun g hg => by have := bd36 g hg; omega)) k118 (by omega) (mem1 (by omega))).mono (lo' := w.heap.size) (hi' := w118.heap.size) (by omega) (by omega)) ((sl_kp (sl_kp (sl_kp (sl_kp0 (sl_kp (s26) k28 (by omega) (mem1 (by omega))) k29 (by omega)) k34 (by omega) (mem1 (by omega))) k38 (by omega) (fun g hg => by have := bd36 g hg; omega)) k118 (by omega) (mem1 (by omega))).mono (lo' := w.heap.size) (hi' := w118.heap.size) (by omega) (by omega)) ((sl_kp (s115) k118 (by omega) (mem1 (by omega))).mono (lo' := w.heap.size) (hi' := w118.heap.size) (by omega) (by omega)))
 refine WX.retC Try.results27 rfl B118 Try.underlying34 rfl sz34 ?_
 exact ⟨[(.int .i64 s.version), (.int .i64 s.next), (.int .i64 s.keep), (.int .i64 s.quota), (.slice a18 ((s.sess)).length c19), (.slice a24 ((s.opens)).length c25), (.slice a30 ((s.snaps)).length c31)], by rfl, (Eq.mp (congrArg (Rp.rp _ _ _ _ _) e0) f0), Kp.of_below b118⟩


end Go.Proofs.Ytaenkjlhdlddgaa
