/- Contracts of functions, walked operation by operation. -/
import Derived.Test.YtaenkjlhdlddgaaB6
namespace Go.Proofs.Ytaenkjlhdlddgaa
open Go.RowKit




set_option maxRecDepth 100000 in
set_option maxHeartbeats 400000 in
theorem copy7_s {w : World} {cs_s : List Value} {s : State} (h_s : Rp.rp false 0 w.heap.size w cs_s s) :
    Ret Try.prog 33 [.agg cs_s.toArray].toArray w fun r w' => ∃ (rs0 : List Value), r = .agg rs0.toArray ∧ Rp.rp true w.heap.size w'.heap.size w' rs0 (s) ∧ Kp [] w w' := by
 obtain ⟨a5, c6, a8, c9, a11, c12, rfl, i1, i2, i3, i4, s7, s10, s13⟩ := State.el h_s
 have ls7 : (s.sess).length * 32 ≤ 140737488355328 := s7.lenle
 have ls10 : (s.opens).length * 16 ≤ 140737488355328 := s10.lenle
 have ls13 : (s.snaps).length * 64 ≤ 140737488355328 := s13.lenle
 refine Ret.enter Try.func33 rfl Try.ntmps33 rfl rfl ?_
 refine WC.sel [0] rfl ?_
 refine WC.seq ?_
 refine WC.region ?_
 refine WO.box rfl rfl rfl ?_
 intro w14 n14
 have z14 : w.heap.size < w14.heap.size := n14.lt
 have b14 := old_kp0 (Below.refl w.heap.size w) n14.kp
 have y14 : w.heap.size ≤ w14.heap.size := b14.size
 refine WO.alloc zr34 rfl ?_
 intro w15 n15
 have z15 : w14.heap.size < w15.heap.size := n15.lt
 have b15 := old_kp0 b14 n15.kp
 have y15 : w.heap.size ≤ w15.heap.size := b15.size
 refine WO.nil ?_
 refine WX.sel [0, 1, 2] rfl ?_
 refine WX.next ?_
 refine WC.seq ?_
 refine WC.region ?_
 have B16 := (n14.blk).kp0 n15.kp
 refine WO.v (R.loadBN (vs := [_, _, _, _, _, _, _]) rfl B16 rfl Try.underlying34 rfl sz34) rfl ?_
 refine WO.alloc zr34 rfl ?_
 intro w17 n17
 have z17 : w15.heap.size < w17.heap.size := n17.lt
 have b17 := old_kp0 b15 n17.kp
 have y17 : w.heap.size ≤ w17.heap.size := b17.size
 refine WO.storeBN rfl rfl n17.blk rfl (by simp [Value.oneCell']) sz34 ?_
 intro w18 k18 B18 z_18
 have z18 : w17.heap.size = w18.heap.size := z_18.symm
 have b18 := old_kp b17 k18 (mem1 (by omega))
 have y18 : w.heap.size ≤ w18.heap.size := b18.size
 refine WO.nil ?_
 refine WX.sel [0, 1, 2, 3] rfl ?_
 refine WX.next ?_
 refine WC.seq ?_
 refine WC.region ?_
 refine WO.buildSlice (parts := []) (vss := []) Try.underlying30 sz51 zr51 rfl rfl (by simp) rfl rfl rfl ?_
 intro w19 n19
 have z19 : w18.heap.size < w19.heap.size := n19.lt
 have b19 := old_kp0 b18 n19.kp
 have y19 : w.heap.size ≤ w19.heap.size := b19.size
 have ac20 : Ac (α := Sess) (w18.heap.size) true (w.heap.size) (w19.heap.size) (w19.heap.size) w19 (.slice (some ⟨w18.heap.size, 0, none⟩) 0 0) ([] : List Sess) := Ac.lit (α := Sess) (ys := ([] : List Sess)) (css := []) n19.blk (.nil) (by omega) (by omega) (by simp [maxLen]) (by show 0 * 32 ≤ 140737488355328; decide) rfl
 have lenac20 : ([] : List Sess).length = 0 := rfl
 refine WO.v (fa34_4 rfl) rfl ?_
 have B21 := (((B16).kp0 n17.kp).kp1 k18 (by omega)).kp0 n19.kp
 refine WO.v (R.loadB rfl B21 rfl Try.underlying30 rfl) rfl ?_
 have ac27 : Ac (α := Sess) (w19.heap.size) true (w.heap.size) (w19.heap.size) (w19.heap.size) w19 (.slice (some ⟨w18.heap.size, 0, none⟩) 0 0) ([] : List Sess) := Ac.empty _ _ _ _ _ _ _
 have bd22 := ac27.bd
 have ty28 := ac27.ty
 have lenac27 : (([] : List Sess)).length * 32 ≤ 140737488355328 := ac27.lenle
 have lxac27 : (([] : List Sess) ++ s.sess).length = ([] : List Sess).length + s.sess.length := List.length_append
 refine WO.append rfl ac27 (by omega) (by omega) (by omega) rfl rfl (ys := s.sess) (Src.flat (((sl_old s7 b19).mono (lo' := 0) (hi' := w19.heap.size) (Nat.zero_le _) (by omega))) (fun h => h)) (.inl rfl) Try.underlying30 inf51 rfl rfl rfl (by decide) (by omega) (by omega) rfl ?_
 intro a24 c25 w23 h26 k23 or29
 have z23 : w19.heap.size ≤ w23.heap.size := k23.size
 have b23 := old_kp b19 k23 (fun g hg => by have := bd22 g hg; omega)
 have y23 : w.heap.size ≤ w23.heap.size := b23.size
 refine WO.v (fa34_4 rfl) rfl ?_
 have B30 := ((B18).kp0 n19.kp).kp k23 (fun hm => by have := bd22 _ hm; omega)
 refine WO.storeB (cs' := [_, _, _, _, _, _, _]) rfl rfl B30 rfl rfl sz30 rfl ?_
 intro w31 k31 B31 z_31
 have z31 : w23.heap.size = w31.heap.size := z_31.symm
 have b31 := old_kp b23 k31 (mem1 (by omega))
 have y31 : w.heap.size ≤ w31.heap.size := b31.size
 refine WO.nil ?_
 refine WX.sel [0, 1, 2, 3] rfl ?_
 refine WX.next ?_
 refine WC.seq ?_
 refine WC.region ?_
 refine WO.buildSlice (parts := []) (vss := []) Try.underlying31 sz53 zr53 rfl rfl (by simp) rfl rfl rfl ?_
 intro w32 n32
 have z32 : w31.heap.size < w32.heap.size := n32.lt
 have b32 := old_kp0 b31 n32.kp
 have y32 : w.heap.size ≤ w32.heap.size := b32.size
 have ac33 : Ac (α := Opn) (w31.heap.size) true (w.heap.size) (w32.heap.size) (w32.heap.size) w32 (.slice (some ⟨w31.heap.size, 0, none⟩) 0 0) ([] : List Opn) := Ac.lit (α := Opn) (ys := ([] : List Opn)) (css := []) n32.blk (.nil) (by omega) (by omega) (by simp [maxLen]) (by show 0 * 16 ≤ 140737488355328; decide) rfl
 have lenac33 : ([] : List Opn).length = 0 := rfl
 refine WO.v (fa34_5 rfl) rfl ?_
 have B34 := (((B21).kp k23 (fun hm => by have := bd22 _ hm; omega)).kp1 k31 (by omega)).kp0 n32.kp
 refine WO.v (R.loadB rfl B34 rfl Try.underlying31 rfl) rfl ?_
 have ac40 : Ac (α := Opn) (w32.heap.size) true (w.heap.size) (w32.heap.size) (w32.heap.size) w32 (.slice (some ⟨w31.heap.size, 0, none⟩) 0 0) ([] : List Opn) := Ac.empty _ _ _ _ _ _ _
 have bd35 := ac40.bd
 have ty41 := ac40.ty
 have lenac40 : (([] : List Opn)).length * 16 ≤ 140737488355328 := ac40.lenle
 have lxac40 : (([] : List Opn) ++ s.opens).length = ([] : List Opn).length + s.opens.length := List.length_append
 refine WO.append rfl ac40 (by omega) (by omega) (by omega) rfl rfl (ys := s.opens) (Src.flat (((sl_old s10 b32).mono (lo' := 0) (hi' := w32.heap.size) (Nat.zero_le _) (by omega))) (fun h => h)) (.inl rfl) Try.underlying31 inf53 rfl rfl rfl (by decide) (by omega) (by omega) rfl ?_
 intro a37 c38 w36 h39 k36 or42
 have z36 : w32.heap.size ≤ w36.heap.size := k36.size
 have b36 := old_kp b32 k36 (fun g hg => by have := bd35 g hg; omega)
 have y36 : w.heap.size ≤ w36.heap.size := b36.size
 refine WO.v (fa34_5 rfl) rfl ?_
 have B43 := ((B31).kp0 n32.kp).kp k36 (fun hm => by have := bd35 _ hm; omega)
 refine WO.storeB (cs' := [_, _, _, _, _, _, _]) rfl rfl B43 rfl rfl sz31 rfl ?_
 intro w44 k44 B44 z_44
 have z44 : w36.heap.size = w44.heap.size := z_44.symm
 have b44 := old_kp b36 k44 (mem1 (by omega))
 have y44 : w.heap.size ≤ w44.heap.size := b44.size
 refine WO.nil ?_
 refine WX.sel [0, 1, 2, 3] rfl ?_
 refine WX.next ?_
 refine WC.seq ?_
 refine WC.region ?_
 refine WO.v (fa34_6 rfl) rfl ?_
 refine WO.storeB (cs' := [_, _, _, _, _, _, _]) rfl rfl B44 rfl rfl sz32 rfl ?_
 intro w45 k45 B45 z_45
 have z45 : w44.heap.size = w45.heap.size := z_45.symm
 have b45 := old_kp b44 k45 (mem1 (by omega))
 have y45 : w.heap.size ≤ w45.heap.size := b45.size
 refine WO.nil ?_
 refine WX.sel [0, 1, 2, 3] rfl ?_
 refine WX.next ?_
 refine WC.seq ?_
 refine WC.seq ?_
 refine WC.region ?_
 refine WO.v (R.assign rfl) rfl ?_
 refine WO.nil ?_
 refine WX.sel [0, 1, 2, 3, 4] rfl ?_
 refine WX.next ?_
 refine WC.block ?_
 refine WC.loopK [0, 1, 2, 3] rfl (fun zz : Nat × Option Addr × Nat => [(4, (.int .i64 (((zz.1) : Nat) : Int)))]) (fun (zz : Nat × Option Addr × Nat) (w' : World) => (Kp [w15.heap.size] w45 w') ∧ (Blk w' (w15.heap.size) 34 [(.int .i64 s.version), (.int .i64 s.next), (.int .i64 s.keep), (.int .i64 s.quota), (.slice a24 (([] : List Sess) ++ s.sess).length c25), (.slice a37 (([] : List Opn) ++ s.opens).length c38), (.slice (zz.2.1) (s.snaps.take (zz.1)).length (zz.2.2))]) ∧ ((zz.1) ≤ s.snaps.length) ∧ (Ac (α := Snap) (w45.heap.size) true (w.heap.size) w'.heap.size w'.heap.size w' (.slice (zz.2.1) (s.snaps.take (zz.1)).length (zz.2.2)) (s.snaps.take (zz.1)))) (fun zz => s.snaps.length - (zz.1)) (0, none, 0) ?_ ?_ ?_
 exact ⟨⟨_, rfl, rfl⟩, trivial⟩
 exact ⟨(Kp.refl _).sub (by simp), B45, Nat.zero_le _, Ac.empty _ _ _ _ _ _ _⟩
 rintro ⟨k, aa, ac⟩ w46 ⟨k46, Bl46_0, hk, hac⟩
 try dsimp only at Bl46_0 hk hac
 have z46 : w45.heap.size ≤ w46.heap.size := k46.size
 have b46 := old_kp b45 k46 (mem1 (by omega))
 have y46 : w.heap.size ≤ w46.heap.size := b46.size
 refine (?_ : WC _ _ _ _ ([(4, (.int .i64 ((k : Nat) : Int)))] ++ _) w46)
 have htl : (s.snaps.take k).length ≤ k := by simp; omega
 have lenhac : (s.snaps.take k).length * 64 ≤ 140737488355328 := hac.lenle
 refine WC.seq ?_
 refine WC.seq ?_
 refine WC.region ?_
 refine WO.v (R.move rfl) rfl ?_
 refine WO.v (fa34_6 rfl) rfl ?_
 have B47 := ((((B34).kp k36 (fun hm => by have := bd35 _ hm; omega)).kp1 k44 (by omega)).kp1 k45 (by omega)).kp1 k46 (by omega)
 refine WO.v (R.loadB rfl B47 rfl Try.underlying32 rfl) rfl ?_
 refine WO.v (R.len rfl Try.underlying32) rfl ?_
 refine WO.v (R.lss rfl rfl) rfl ?_
 refine WO.nil ?_
 refine WX.sel [0, 1, 2, 3, 4, 22] rfl ?_
 refine WX.next ?_
 refine WC.cond rfl (fun q48 => ?_) (fun q48 => ?_)
 have p48 : ((k : Nat) : Int) < ((s.snaps.length : Nat) : Int) := of_decide_eq_true q48
 refine WC.skip ?_
 refine WX.next ?_
 refine WC.seq ?_
 refine WC.block ?_
 refine WC.seq ?_
 refine WC.region ?_
 refine WO.v (fa34_6 rfl) rfl ?_
 refine WO.v (R.loadB rfl B47 rfl Try.underlying32 rfl) rfl ?_
 refine WO.v (R.move rfl) rfl ?_
 obtain ⟨x49, hx49⟩ := get_ex (xs := s.snaps) (i := k) (by omega)
 obtain ⟨A50, cs51, hA50, loA50, hiA50, ccA50, r52⟩ := (sl_old s13 b46).at_ hx49
 obtain ⟨a55, c56, rfl, i53, i54, s57, i58⟩ := Snap.el r52
 have ls57 : (x49.chunks).length * 8 ≤ 140737488355328 := s57.lenle
 refine WO.v (R.indexAddrN rfl rfl Try.underlying32 sz46 hA50 (by omega)) rfl ?_
 refine WO.v (R.loadN (cs := [_, _, _, _, _]) rfl Try.underlying46 rfl sz46 ccA50) rfl ?_
 refine WO.alloc zr46 rfl ?_
 intro w59 n59
 have z59 : w46.heap.size < w59.heap.size := n59.lt
 have b59 := old_kp0 b46 n59.kp
 have y59 : w.heap.size ≤ w59.heap.size := b59.size
 refine WO.storeBN rfl rfl n59.blk rfl (by simp [Value.oneCell', Str.val]) sz46 ?_
 intro w60 k60 B60 z_60
 have z60 : w59.heap.size = w60.heap.size := z_60.symm
 have b60 := old_kp b59 k60 (mem1 (by omega))
 have y60 : w.heap.size ≤ w60.heap.size := b60.size
 refine WO.nil ?_
 refine WX.sel [0, 1, 2, 3, 4, 5, 22] rfl ?_
 refine WX.next ?_
 refine WC.seq ?_
 refine WC.region ?_
 refine WO.buildSlice (parts := []) (vss := []) Try.underlying24 sz3 zr3 rfl rfl (by simp) rfl rfl rfl ?_
 intro w61 n61
 have z61 : w60.heap.size < w61.heap.size := n61.lt
 have b61 := old_kp0 b60 n61.kp
 have y61 : w.heap.size ≤ w61.heap.size := b61.size
 have ac62 : Ac (α := Int) (w60.heap.size) true (w.heap.size) (w61.heap.size) (w61.heap.size) w61 (.slice (some ⟨w60.heap.size, 0, none⟩) 0 0) ([] : List Int) := Ac.lit (α := Int) (ys := ([] : List Int)) (css := []) n61.blk (.nil) (by omega) (by omega) (by simp [maxLen]) (by show 0 * 8 ≤ 140737488355328; decide) rfl
 have lenac62 : ([] : List Int).length = 0 := rfl
 refine WO.v (fa46_2 rfl) rfl ?_
 have B63 := (B60).kp0 n61.kp
 refine WO.v (R.loadB rfl B63 rfl Try.underlying24 rfl) rfl ?_
 have ac69 : Ac (α := Int) (w61.heap.size) true (w.heap.size) (w61.heap.size) (w61.heap.size) w61 (.slice (some ⟨w60.heap.size, 0, none⟩) 0 0) ([] : List Int) := Ac.empty _ _ _ _ _ _ _
 have bd64 := ac69.bd
 have ty70 := ac69.ty
 have lenac69 : (([] : List Int)).length * 8 ≤ 140737488355328 := ac69.lenle
 have lxac69 : (([] : List Int) ++ x49.chunks).length = ([] : List Int).length + x49.chunks.length := List.length_append
 refine WO.append rfl ac69 (by omega) (by omega) (by omega) rfl rfl (ys := x49.chunks) (Src.flat (((sl_kp0 (sl_kp (sl_kp0 (s57) n59.kp (by omega)) k60 (by omega) (mem1 (by omega))) n61.kp (by omega)).mono (lo' := 0) (hi' := w61.heap.size) (Nat.zero_le _) (by omega))) (fun h => h)) (.inl rfl) Try.underlying24 inf3 rfl rfl rfl (by decide) (by omega) (by omega) rfl ?_
 intro a66 c67 w65 h68 k65 or71
 have z65 : w61.heap.size ≤ w65.heap.size := k65.size
 have b65 := old_kp b61 k65 (fun g hg => by have := bd64 g hg; omega)
 have y65 : w.heap.size ≤ w65.heap.size := b65.size
 refine WO.v (fa46_2 rfl) rfl ?_
 have B72 := (B63).kp k65 (fun hm => by have := bd64 _ hm; omega)
 refine WO.storeB (cs' := [_, _, _, _, _]) rfl rfl B72 rfl rfl sz24 rfl ?_
 intro w73 k73 B73 z_73
 have z73 : w65.heap.size = w73.heap.size := z_73.symm
 have b73 := old_kp b65 k73 (mem1 (by omega))
 have y73 : w.heap.size ≤ w73.heap.size := b73.size
 refine WO.nil ?_
 refine WX.sel [0, 1, 2, 3, 4, 5, 22] rfl ?_
 refine WX.next ?_
 refine WC.region ?_
 refine WO.v (fa34_6 rfl) rfl ?_
 have B74 := (((((Bl46_0).kp0 n59.kp).kp1 k60 (by omega)).kp0 n61.kp).kp k65 (fun hm => by have := bd64 _ hm; omega)).kp1 k73 (by omega)
 refine WO.v (R.loadB rfl B74 rfl Try.underlying32 rfl) rfl ?_
 refine WO.v (R.loadBN (vs := [_, _, _, _, _]) rfl B73 rfl Try.underlying46 rfl sz46) rfl ?_
 refine WO.buildSlice (parts := [_]) (vss := [[_, _, _, _, _]]) Try.underlying32 sz46 zr46 rfl rfl (by simp) rfl rfl rfl ?_
 intro w75 n75
 have z75 : w73.heap.size < w75.heap.size := n75.lt
 have b75 := old_kp0 b73 n75.kp
 have y75 : w.heap.size ≤ w75.heap.size := b75.size
 have ac76 : Ac (α := Snap) (w73.heap.size) true (w.heap.size) (w75.heap.size) (w75.heap.size) w75 (.slice (some ⟨w73.heap.size, 0, none⟩) 1 1) ([(⟨x49.id, x49.set, (([] : List Int) ++ x49.chunks), (x49.held), x49.tag⟩ : Snap)] : List Snap) := Ac.lit (α := Snap) (ys := ([(⟨x49.id, x49.set, (([] : List Int) ++ x49.chunks), (x49.held), x49.tag⟩ : Snap)] : List Snap)) (css := [[_, _, _, _, _]]) n75.blk (.cons ((Snap.mk_ (i53) (i54) ((ac_kp0 (ac_kpF (h68) k73 (by omega) (by omega) (mem1 (by omega)) rfl) n75.kp (by omega) (by omega)).own (L := w.heap.size) (H := w75.heap.size) (by omega) (by omega) (by omega) (by omega)) i58)) (.nil)) (by omega) (by omega) (by simp [maxLen]) (by show 1 * 64 ≤ 140737488355328; decide) rfl
 have lenac76 : ([(⟨x49.id, x49.set, (([] : List Int) ++ x49.chunks), (x49.held), x49.tag⟩ : Snap)] : List Snap).length = 1 := rfl
 have ac82 : Ac (α := Snap) (w45.heap.size) true (w.heap.size) (w75.heap.size) (w46.heap.size) w75 (.slice aa (s.snaps.take k).length ac) (s.snaps.take k) := (ac_kp0 (ac_kp (ac_kp (ac_kp0 (ac_kp (ac_kp0 (hac) n59.kp (by omega) (by omega)) k60 (by omega) (by omega) (mem1 (by omega))) n61.kp (by omega) (by omega)) k65 (by omega) (by omega) (fun g hg => by have := bd64 g hg; omega)) k73 (by omega) (by omega) (mem1 (by omega))) n75.kp (by omega) (by omega)).mono (Nat.le_refl _) (Nat.le_refl _) (by omega) (Nat.le_refl _)
 have bd77 := ac82.bd
 have ty83 := ac82.ty
 have lenac82 : ((s.snaps.take k)).length * 64 ≤ 140737488355328 := ac82.lenle
 have lxac82 : ((s.snaps.take k) ++ ([(⟨x49.id, x49.set, (([] : List Int) ++ x49.chunks), (x49.held), x49.tag⟩ : Snap)] : List Snap)).length = (s.snaps.take k).length + ([(⟨x49.id, x49.set, (([] : List Int) ++ x49.chunks), (x49.held), x49.tag⟩ : Snap)] : List Snap).length := List.length_append
 refine WO.append rfl ac82 (by omega) (by omega) (by omega) rfl rfl (ys := ([(⟨x49.id, x49.set, (([] : List Int) ++ x49.chunks), (x49.held), x49.tag⟩ : Snap)] : List Snap)) (Src.of_ac ((ac76).mono (Nat.le_refl _) (by omega) (by omega) (Nat.le_refl _))) (.inr (.inl ⟨rfl, by decide⟩)) Try.underlying32 inf46 rfl rfl rfl (by decide) (by omega) (by omega) rfl ?_
 intro a79 c80 w78 h81 k78 or84
 have z78 : w75.heap.size ≤ w78.heap.size := k78.size
 have b78 := old_kp b75 k78 (fun g hg => by have := bd77 g hg; omega)
 have y78 : w.heap.size ≤ w78.heap.size := b78.size
 refine WO.v (fa34_6 rfl) rfl ?_
 have B85 := ((B74).kp0 n75.kp).kp k78 (fun hm => by have := bd77 _ hm; omega)
 refine WO.storeB (cs' := [_, _, _, _, _, _, _]) rfl rfl B85 rfl rfl sz32 rfl ?_
 intro w86 k86 B86 z_86
 have z86 : w78.heap.size = w86.heap.size := z_86.symm
 have b86 := old_kp b78 k86 (mem1 (by omega))
 have y86 : w.heap.size ≤ w86.heap.size := b86.size
 refine WO.nil ?_
 refine WX.sel [0, 1, 2, 3, 4, 5, 22] rfl ?_
 refine WX.blkNormal ?_
 refine WX.next ?_
 refine WC.region ?_
 refine WO.v (R.move rfl) rfl ?_
 refine WO.v (R.inc rfl (by omega)) rfl ?_
 refine WO.v (R.assign rfl) rfl ?_
 refine WO.nil ?_
 refine WX.sel [0, 1, 2, 3, 4, 5, 22] rfl ?_
 have E87 : ((s.snaps.take k) ++ ([(⟨x49.id, x49.set, (([] : List Int) ++ x49.chunks), (x49.held), x49.tag⟩ : Snap)] : List Snap)) = s.snaps.take (k + 1) := (take_succ_get hx49).symm
 have nE87 : ((s.snaps.take k) ++ ([(⟨x49.id, x49.set, (([] : List Int) ++ x49.chunks), (x49.held), x49.tag⟩ : Snap)] : List Snap)).length = (s.snaps.take (k + 1)).length := by rw [E87]
 exact WX.loopNextK [0, 1, 2, 3] (k + 1, a79, c80) rfl ⟨⟨_, rfl, rfl⟩, trivial⟩ ⟨((((((((((Kp.refl _).sub (by simp)).step k46 (mem1 (.inl (by simp)))).step n59.kp (by simp)).step k60 (mem1 (.inr (by omega)))).step n61.kp (by simp)).step k65 (fun g hg => .inr (by have := bd64 g hg; omega))).step k73 (mem1 (.inr (by omega)))).step n75.kp (by simp)).step k78 (fun g hg => .inr (by have := bd77 g hg; omega))).step k86 (mem1 (.inl (by simp))), (by rw [← nE87]; exact B86), by omega, ac_n ((ac_kpB (h81) k86 (by omega) (by omega) (mem1 (by omega)) (mem1 ⟨_, _, B85, by decide⟩)).mono (by omega) (by omega) (by omega) (by omega)) E87 nE87⟩ (by show (s.snaps.length - (k + 1)) < (s.snaps.length - k); omega)
 have p48 : ¬ (((k : Nat) : Int) < ((s.snaps.length : Nat) : Int)) := of_decide_eq_false q48
 refine WC.exit ?_
 refine WX.thenExit ?_
 refine WX.loopExit ?_
 refine WX.blkHit ?_
 refine WX.next ?_
 refine WC.seq ?_
 refine WC.region ?_
 refine WO.v (R.loadBN (vs := [_, _, _, _, _, _, _]) rfl Bl46_0 rfl Try.underlying34 rfl sz34) rfl ?_
 have B88 := ((((((((((n15.blk).kp0 n17.kp).kp1 k18 (by omega)).kp0 n19.kp).kp k23 (fun hm => by have := bd22 _ hm; omega)).kp1 k31 (by omega)).kp0 n32.kp).kp k36 (fun hm => by have := bd35 _ hm; omega)).kp1 k44 (by omega)).kp1 k45 (by omega)).kp1 k46 (by omega)
 refine WO.storeBN rfl rfl B88 rfl (by simp [Value.oneCell']) sz34 ?_
 intro w89 k89 B89 z_89
 have z89 : w46.heap.size = w89.heap.size := z_89.symm
 have b89 := old_kp b46 k89 (mem1 (by omega))
 have y89 : w.heap.size ≤ w89.heap.size := b89.size
 refine WO.nil ?_
 refine WX.sel [0, 1, 2, 3, 4, 22] rfl ?_
 refine WX.next ?_
 refine WC.ret ?_
 have e0 : (⟨s.version, s.next, s.keep, s.quota, (([] : List Sess) ++ s.sess), (([] : List Opn) ++ s.opens), (s.snaps.take k)⟩ : State) = (s) := by rw [show s.snaps.take k = s.snaps from List.take_of_length_le (by omega)]; rfl
 have f0 : Rp.rp true w.heap.size w89.heap.size w89 [(.int .i64 s.version), (.int .i64 s.next), (.int .i64 s.keep), (.int .i64 s.quota), (.slice a24 (([] : List Sess) ++ s.sess).length c25), (.slice a37 (([] : List Opn) ++ s.opens).length c38), (.slice aa (s.snaps.take k).length ac)] (⟨s.version, s.next, s.keep, s.quota, (([] : List Sess) ++ s.sess), (([] : List Opn) ++ s.opens), (s.snaps.take k)⟩ : State) := (State.mk_ (i1) (i2) (i3) (i4) ((ac_kpF (ac_kpF (ac_kpF (ac_kpF (ac_kp (ac_kp0 (ac_kpF (h26) k31 (by omega) (by omega) (mem1 (by omega)) rfl) n32.kp (by omega) (by omega)) k36 (by omega) (by omega) (fun g hg => by have := bd35 g hg; omega)) k44 (by omega) (by omega) (mem1 (by omega)) rfl) k45 (by omega) (by omega) (mem1 (by omega)) rfl) k46 (by omega) (by omega) (mem1 (by omega)) rfl) k89 (by omega) (by omega) (mem1 (by omega)) rfl).own (L := w.heap.size) (H := w89.heap.size) (by omega) (by omega) (by omega) (by omega)) ((ac_kpF (ac_kpF (ac_kpF (ac_kpF (h39) k44 (by omega) (by omega) (mem1 (by omega)) rfl) k45 (by omega) (by omega) (mem1 (by omega)) rfl) k46 (by omega) (by omega) (mem1 (by omega)) rfl) k89 (by omega) (by omega) (mem1 (by omega)) rfl).own (L := w.heap.size) (H := w89.heap.size) (by omega) (by omega) (by omega) (by omega)) ((ac_kpB (hac) k89 (by omega) (by omega) (mem1 (by omega)) (mem1 ⟨_, _, B88, by decide⟩)).own (L := w.heap.size) (H := w89.heap.size) (by omega) (by omega) (by omega) (by omega)))
 refine WX.retC Try.results33 rfl B89 Try.underlying34 rfl sz34 ?_
 exact ⟨[(.int .i64 s.version), (.int .i64 s.next), (.int .i64 s.keep), (.int .i64 s.quota), (.slice a24 (([] : List Sess) ++ s.sess).length c25), (.slice a37 (([] : List Opn) ++ s.opens).length c38), (.slice aa (s.snaps.take k).length ac)], by rfl, (Eq.mp (congrArg (Rp.rp _ _ _ _ _) e0) f0), Kp.of_below b89⟩


end Go.Proofs.Ytaenkjlhdlddgaa
