/- Contracts of functions, walked operation by operation. -/
import Derived.Test.YtaenkjlhdlddgaaA9
namespace Go.Proofs.Ytaenkjlhdlddgaa
open Go.RowKit

theorem take_min {α : Type} {l : List α} {k n : Nat} (h : k = min l.length n) : l.take k = l.take n := by
  subst h
  rcases Nat.le_total l.length n with h | h
  · rw [Nat.min_eq_left h, List.take_length, List.take_of_length_le h]
  · rw [Nat.min_eq_right h]
def lessSnap (x : Snap) : Snap := { x with chunks := x.chunks.take 12, tag := x.tag.cut 0 40 }
def lessF (s : State) : State := { s with sess := s.sess.take 20, opens := s.opens.take 20, snaps := (s.snaps.take 20).map lessSnap }
theorem less_step {l : List Snap} {k : Nat} {x : Snap} (hx : l[k]? = some x) : (l.take k).map lessSnap ++ ([⟨x.id, x.set, x.chunks.take 12, x.held, x.tag.cut 0 40⟩] : List Snap) = (l.take (k + 1)).map lessSnap := by
  rw [take_succ_get hx, List.map_append]; rfl

theorem inf46 : (Try.prog.info? 46).map (fun i => (i.zero.map Value.cells, i.size, i.bytes)) = some (some ([.int .i64 0, .int .i64 0, .slice none 0 0, .bool false, (⟨[]⟩ : Str).val] : List Value).toArray, 5, 64) := by kernel_rfl
theorem zr34 : ((Try.prog.info? 34).bind (·.zero)).map Value.cells = some ([.int .i64 0, .int .i64 0, .int .i64 0, .int .i64 0, .slice none 0 0, .slice none 0 0, .slice none 0 0] : List Value).toArray := by kernel_rfl

set_option maxRecDepth 100000 in
set_option maxHeartbeats 400000 in
theorem less_s {w : World} {B : Nat} {cs_s : List Value} {s : State} (hB_s : B ≤ w.heap.size) (h_s : Rp.rp false 0 B w cs_s s) :
    Ret Try.prog 11 [.agg cs_s.toArray].toArray w fun r w' => ∃ (xa4 : Option Addr) (xc4 : Nat) (xa5 : Option Addr) (xc5 : Nat) (xa6 : Option Addr) (xc6 : Nat), r = .agg #[.int .i64 (lessF s).version, .int .i64 (lessF s).next, .int .i64 (lessF s).keep, .int .i64 (lessF s).quota, .slice xa4 (lessF s).sess.length xc4, .slice xa5 (lessF s).opens.length xc5, .slice xa6 (lessF s).snaps.length xc6] ∧ I64 (lessF s).version ∧ I64 (lessF s).next ∧ I64 (lessF s).keep ∧ I64 (lessF s).quota ∧ Sl false 0 B w' (.slice xa4 (lessF s).sess.length xc4) (lessF s).sess ∧ Sl false 0 B w' (.slice xa5 (lessF s).opens.length xc5) (lessF s).opens ∧ Ac w.heap.size false 0 B w'.heap.size w' (.slice xa6 (lessF s).snaps.length xc6) (lessF s).snaps ∧ Kp [] w w' := by
 obtain ⟨a5, c6, a8, c9, a11, c12, rfl, i1, i2, i3, i4, s7, s10, s13⟩ := State.el h_s
 have ls7 : (s.sess).length * 32 ≤ 140737488355328 := s7.lenle
 have ls10 : (s.opens).length * 16 ≤ 140737488355328 := s10.lenle
 have ls13 : (s.snaps).length * 64 ≤ 140737488355328 := s13.lenle
 refine Ret.enter Try.func11 rfl Try.ntmps11 rfl rfl ?_
 refine WC.sel [0] rfl ?_
 refine WC.seq ?_
 refine WC.region ?_
 refine WO.box rfl rfl rfl ?_
 intro w14 n14
 have z14 : w.heap.size < w14.heap.size := n14.lt
 have b14 := old_kp0 (Below.refl w.heap.size w) n14.kp
 have y14 : w.heap.size ≤ w14.heap.size := b14.size
 refine WO.alloc zr34 rfl ?_
 intro w15 n15
 have z15 : w14.heap.size < w15.heap.size := n15.lt
 have b15 := old_kp0 b14 n15.kp
 have y15 : w.heap.size ≤ w15.heap.size := b15.size
 refine WO.nil ?_
 refine WX.sel [0, 1, 2] rfl ?_
 refine WX.next ?_
 refine WC.seq ?_
 refine WC.seq ?_
 refine WC.region ?_
 refine WO.v (fa34_4 rfl) rfl ?_
 have B16 := (n14.blk).kp0 n15.kp
 refine WO.v (R.loadB rfl B16 rfl Try.underlying30 rfl) rfl ?_
 refine WO.v (R.len rfl Try.underlying30) rfl ?_
 refine WO.v (R.gtr rfl rfl) rfl ?_
 refine WO.nil ?_
 refine WX.sel [0, 1, 2, 9] rfl ?_
 refine WX.next ?_
 refine WC.cutEndK [0, 1, 2, 9] rfl [] (fun w' => ∃ (ja17 : Option Addr) (jc18 : Nat), Kp [w.heap.size] w15 w' ∧ Blk w' (w.heap.size) 34 [(.int .i64 s.version), (.int .i64 s.next), (.int .i64 s.keep), (.int .i64 s.quota), (.slice ja17 (s.sess.take 20).length jc18), (.slice a8 s.opens.length c9), (.slice a11 s.snaps.length c12)] ∧ Sl (α := Sess) false 0 B w' (.slice ja17 (s.sess.take 20).length jc18) (s.sess.take 20)) ?_ ?_
 refine WC.cond rfl (fun q20 => ?_) (fun q20 => ?_)
 have p20 : (20 : Int) < ((s.sess.length : Nat) : Int) := of_decide_eq_true q20
 refine WC.region ?_
 refine WO.v (fa34_4 rfl) rfl ?_
 refine WO.v (R.loadB rfl B16 rfl Try.underlying30 rfl) rfl ?_
 obtain ⟨a21, ha22, s23, mc24, ln25⟩ := Sl.cut (i := 0) (j := 20) (s := 4) (sl_kp0 (sl_kp0 (s7) n14.kp (by omega)) n15.kp (by omega)) rfl (by omega) (by omega)
 refine WO.v (R.sliceH (j := 20) rfl rfl Try.underlying30 sz51 ha22 (by omega)) rfl ?_
 replace s23 : Sl false (0) (B) w15 (.slice a21 20 c6) (s.sess.take 20) := s23
 replace ln25 : (s.sess.take 20).length = 20 := ln25
 have ls23 : ((s.sess.take 20)).length * 32 ≤ 140737488355328 := s23.lenle
 refine WO.v (fa34_4 rfl) rfl ?_
 refine WO.storeB (cs' := [_, _, _, _, _, _, _]) rfl rfl B16 rfl rfl sz30 rfl ?_
 intro w26 k26 B26 z_26
 have z26 : w15.heap.size = w26.heap.size := z_26.symm
 have b26 := old_kp b15 k26 (mem1 (by omega))
 have y26 : w.heap.size ≤ w26.heap.size := b26.size
 refine WO.nil ?_
 refine WX.sel [0, 1, 2, 9] rfl ?_
 have E27 : (s.sess.take 20) = s.sess.take 20 := rfl
 have nE27 : 20 = (s.sess.take 20).length := by rw [← E27]; simp only [List.length_take]; omega
 exact WX.cutDoneK [0, 1, 2, 9] rfl trivial ⟨a21, c6, (((Kp.refl _).sub (by simp)).step k26 (by simp)), (by rw [← nE27]; exact B26), (sl_n ((sl_kp (s23) k26 (by omega) (mem1 (by omega))).mono (lo' := 0) (hi' := B) (Nat.zero_le _) (by omega)) E27 nE27)⟩
 have p20 : ¬ ((20 : Int) < ((s.sess.length : Nat) : Int)) := of_decide_eq_false q20
 refine WC.skip ?_
 have E28 : s.sess = s.sess.take 20 := (List.take_of_length_le (by omega)).symm
 have nE28 : s.sess.length = (s.sess.take 20).length := by rw [← E28]
 exact WX.cutDoneK [0, 1, 2, 9] rfl trivial ⟨a5, c6, ((Kp.refl _).sub (by simp)), (by rw [← nE28]; exact B16), (sl_n ((sl_kp0 (sl_kp0 (s7) n14.kp (by omega)) n15.kp (by omega)).mono (lo' := 0) (hi' := B) (Nat.zero_le _) (by omega)) E28 nE28)⟩
 rintro w29 ⟨ja17, jc18, k29, Bj30, jf19⟩
 have z29 : w15.heap.size ≤ w29.heap.size := k29.size
 have b29 := old_kp b15 k29 (mem1 (by omega))
 have y29 : w.heap.size ≤ w29.heap.size := b29.size
 have ljf19 : ((s.sess.take 20)).length * 32 ≤ 140737488355328 := jf19.lenle
 refine WX.next ?_
 refine WC.seq ?_
 refine WC.seq ?_
 refine WC.region ?_
 refine WO.v (fa34_5 rfl) rfl ?_
 refine WO.v (R.loadB rfl Bj30 rfl Try.underlying31 rfl) rfl ?_
 refine WO.v (R.len rfl Try.underlying31) rfl ?_
 refine WO.v (R.gtr rfl rfl) rfl ?_
 refine WO.nil ?_
 refine WX.sel [0, 1, 2, 9, 17] rfl ?_
 refine WX.next ?_
 refine WC.cutEndK [0, 1, 2, 9, 17] rfl [] (fun w' => ∃ (ja31 : Option Addr) (jc32 : Nat), Kp [w.heap.size] w29 w' ∧ Blk w' (w.heap.size) 34 [(.int .i64 s.version), (.int .i64 s.next), (.int .i64 s.keep), (.int .i64 s.quota), (.slice ja17 (s.sess.take 20).length jc18), (.slice ja31 (s.opens.take 20).length jc32), (.slice a11 s.snaps.length c12)] ∧ Sl (α := Opn) false 0 B w' (.slice ja31 (s.opens.take 20).length jc32) (s.opens.take 20)) ?_ ?_
 refine WC.cond rfl (fun q34 => ?_) (fun q34 => ?_)
 have p34 : (20 : Int) < ((s.opens.length : Nat) : Int) := of_decide_eq_true q34
 refine WC.region ?_
 refine WO.v (fa34_5 rfl) rfl ?_
 refine WO.v (R.loadB rfl Bj30 rfl Try.underlying31 rfl) rfl ?_
 obtain ⟨a35, ha36, s37, mc38, ln39⟩ := Sl.cut (i := 0) (j := 20) (s := 2) (sl_kp (sl_kp0 (sl_kp0 (s10) n14.kp (by omega)) n15.kp (by omega)) k29 (by omega) (mem1 (by omega))) rfl (by omega) (by omega)
 refine WO.v (R.sliceH (j := 20) rfl rfl Try.underlying31 sz53 ha36 (by omega)) rfl ?_
 replace s37 : Sl false (0) (B) w29 (.slice a35 20 c9) (s.opens.take 20) := s37
 replace ln39 : (s.opens.take 20).length = 20 := ln39
 have ls37 : ((s.opens.take 20)).length * 16 ≤ 140737488355328 := s37.lenle
 refine WO.v (fa34_5 rfl) rfl ?_
 refine WO.storeB (cs' := [_, _, _, _, _, _, _]) rfl rfl Bj30 rfl rfl sz31 rfl ?_
 intro w40 k40 B40 z_40
 have z40 : w29.heap.size = w40.heap.size := z_40.symm
 have b40 := old_kp b29 k40 (mem1 (by omega))
 have y40 : w.heap.size ≤ w40.heap.size := b40.size
 refine WO.nil ?_
 refine WX.sel [0, 1, 2, 9, 17] rfl ?_
 have E41 : (s.opens.take 20) = s.opens.take 20 := rfl
 have nE41 : 20 = (s.opens.take 20).length := by rw [← E41]; simp only [List.length_take]; omega
 exact WX.cutDoneK [0, 1, 2, 9, 17] rfl trivial ⟨a35, c9, (((Kp.refl _).sub (by simp)).step k40 (by simp)), (by rw [← nE41]; exact B40), (sl_n ((sl_kp (s37) k40 (by omega) (mem1 (by omega))).mono (lo' := 0) (hi' := B) (Nat.zero_le _) (by omega)) E41 nE41)⟩
 have p34 : ¬ ((20 : Int) < ((s.opens.length : Nat) : Int)) := of_decide_eq_false q34
 refine WC.skip ?_
 have E42 : s.opens = s.opens.take 20 := (List.take_of_length_le (by omega)).symm
 have nE42 : s.opens.length = (s.opens.take 20).length := by rw [← E42]
 exact WX.cutDoneK [0, 1, 2, 9, 17] rfl trivial ⟨a8, c9, ((Kp.refl _).sub (by simp)), (by rw [← nE42]; exact Bj30), (sl_n ((sl_kp (sl_kp0 (sl_kp0 (s10) n14.kp (by omega)) n15.kp (by omega)) k29 (by omega) (mem1 (by omega))).mono (lo' := 0) (hi' := B) (Nat.zero_le _) (by omega)) E42 nE42)⟩
 rintro w43 ⟨ja31, jc32, k43, Bj44, jf33⟩
 have z43 : w29.heap.size ≤ w43.heap.size := k43.size
 have b43 := old_kp b29 k43 (mem1 (by omega))
 have y43 : w.heap.size ≤ w43.heap.size := b43.size
 have ljf33 : ((s.opens.take 20)).length * 16 ≤ 140737488355328 := jf33.lenle
 refine WX.next ?_
 refine WC.seq ?_
 refine WC.region ?_
 refine WO.buildSlice (parts := []) (vss := []) Try.underlying32 sz46 zr46 rfl rfl (by simp) rfl rfl rfl ?_
 intro w45 n45
 have z45 : w43.heap.size < w45.heap.size := n45.lt
 have b45 := old_kp0 b43 n45.kp
 have y45 : w.heap.size ≤ w45.heap.size := b45.size
 have ac46 : Ac (α := Snap) (w43.heap.size) false (0) (B) (w45.heap.size) w45 (.slice (some ⟨w43.heap.size, 0, none⟩) 0 0) ([] : List Snap) := Ac.lit (α := Snap) (ys := ([] : List Snap)) (css := []) n45.blk (.nil) (by omega) (by omega) (by simp [maxLen]) (by show 0 * 64 ≤ 140737488355328; decide) rfl
 have lenac46 : ([] : List Snap).length = 0 := rfl
 refine WO.v (R.assign rfl) rfl ?_
 refine WO.nil ?_
 refine WX.sel [0, 1, 2, 3, 9, 17] rfl ?_
 refine WX.next ?_
 refine WC.seq ?_
 refine WC.seq ?_
 refine WC.region ?_
 refine WO.v (R.assign rfl) rfl ?_
 refine WO.nil ?_
 refine WX.sel [0, 1, 2, 3, 4, 9, 17] rfl ?_
 refine WX.next ?_
 refine WC.block ?_
 refine WC.loopK [0, 1, 2, 9, 17] rfl (fun zz : Nat × Option Addr × Nat => [(4, (.int .i64 (((zz.1) : Nat) : Int))), (3, (.slice (zz.2.1) ((s.snaps.take (zz.1)).map lessSnap).length (zz.2.2)))]) (fun (zz : Nat × Option Addr × Nat) (w' : World) => (Kp [] w45 w') ∧ ((zz.1) ≤ (min s.snaps.length 20)) ∧ (Ac (α := Snap) (w45.heap.size) false (0) (B) w'.heap.size w' (.slice (zz.2.1) ((s.snaps.take (zz.1)).map lessSnap).length (zz.2.2)) ((s.snaps.take (zz.1)).map lessSnap))) (fun zz => (min s.snaps.length 20) - (zz.1)) (0, (some ⟨w43.heap.size, 0, none⟩), 0) ?_ ?_ ?_
 exact ⟨⟨_, rfl, rfl⟩, ⟨_, rfl, rfl⟩, trivial⟩
 exact ⟨Kp.refl _, Nat.zero_le _, Ac.empty _ _ _ _ _ _ _⟩
 rintro ⟨k, aa0, ac0⟩ w47 ⟨k47, hk, hac46_0⟩
 try dsimp only at hk hac46_0
 have z47 : w45.heap.size ≤ w47.heap.size := k47.size
 have b47 := old_kp0 b45 k47
 have y47 : w.heap.size ≤ w47.heap.size := b47.size
 refine (?_ : WC _ _ _ _ ([(4, (.int .i64 ((k : Nat) : Int))), (3, (.slice aa0 ((s.snaps.take k).map lessSnap).length ac0))] ++ _) w47)
 have : ((s.snaps.take k).map lessSnap).length ≤ k := by simp; omega
 have lenhac46_0 : ((s.snaps.take k).map lessSnap).length * 64 ≤ 140737488355328 := hac46_0.lenle
 refine WC.seq ?_
 refine WC.seq ?_
 refine WC.region ?_
 refine WO.v (R.move rfl) rfl ?_
 refine WO.v (fa34_6 rfl) rfl ?_
 have B48 := ((Bj44).kp0 n45.kp).kp0 k47
 refine WO.v (R.loadB rfl B48 rfl Try.underlying32 rfl) rfl ?_
 refine WO.v (R.len rfl Try.underlying32) rfl ?_
 refine WO.v (R.lss rfl rfl) rfl ?_
 refine WO.v (R.move rfl) rfl ?_
 refine WO.cutP 3 [(31, (.bool ((decide (((k : Nat) : Int) < ((s.snaps.length : Nat) : Int))) && (decide (((k : Nat) : Int) < (20 : Int))))))] (fun w' => w47 = w') ?_ ?_
 rcases Bool.eq_false_or_eq_true (decide (((k : Nat) : Int) < ((s.snaps.length : Nat) : Int))) with hb49 | hb49
 have phb49 : ((k : Nat) : Int) < ((s.snaps.length : Nat) : Int) := of_decide_eq_true hb49
 refine WO.on rfl rfl hb49 ?_
 refine WO.v (R.move rfl) rfl ?_
 refine WO.on rfl rfl hb49 ?_
 refine WO.v (R.lss rfl rfl) rfl ?_
 refine WO.v (R.pickT rfl hb49 rfl) rfl ?_
 refine WO.nil ?_
 exact WX.cutDoneP 3 rfl rfl ⟨⟨_, rfl, vb (band_on hb49)⟩, trivial⟩ (rfl)
 have phb49 : ¬ (((k : Nat) : Int) < ((s.snaps.length : Nat) : Int)) := of_decide_eq_false hb49
 refine WO.off rfl rfl hb49 rfl ?_
 refine WO.off rfl rfl hb49 rfl ?_
 refine WO.v (R.pickF rfl hb49 rfl) rfl ?_
 refine WO.nil ?_
 exact WX.cutDoneP 3 rfl rfl ⟨⟨_, rfl, vb (band_off hb49)⟩, trivial⟩ (rfl)
 rintro _ rfl
 refine WO.nil ?_
 refine WX.sel [0, 1, 2, 3, 4, 9, 17, 31] rfl ?_
 refine WX.next ?_
 refine WC.cond rfl (fun q50 => ?_) (fun q50 => ?_)
 have p50 : (((k : Nat) : Int) < ((s.snaps.length : Nat) : Int)) ∧ (((k : Nat) : Int) < (20 : Int)) := ⟨of_decide_eq_true (band_t q50).1, of_decide_eq_true (band_t q50).2⟩
 refine WC.skip ?_
 refine WX.next ?_
 refine WC.seq ?_
 refine WC.block ?_
 refine WC.seq ?_
 refine WC.region ?_
 refine WO.v (fa34_6 rfl) rfl ?_
 refine WO.v (R.loadB rfl B48 rfl Try.underlying32 rfl) rfl ?_
 refine WO.v (R.move rfl) rfl ?_
 obtain ⟨x51, hx51⟩ := get_ex (xs := s.snaps) (i := k) (by omega)
 obtain ⟨A52, cs53, hA52, loA52, hiA52, ccA52, r54⟩ := (sl_kp0 (sl_kp0 (sl_kp (sl_kp (sl_kp0 (sl_kp0 (s13) n14.kp (by omega)) n15.kp (by omega)) k29 (by omega) (mem1 (by omega))) k43 (by omega) (mem1 (by omega))) n45.kp (by omega)) k47 (by omega)).at_ hx51
 obtain ⟨a57, c58, rfl, i55, i56, s59, i60⟩ := Snap.el r54
 have ls59 : (x51.chunks).length * 8 ≤ 140737488355328 := s59.lenle
 refine WO.v (R.indexAddrN rfl rfl Try.underlying32 sz46 hA52 (by omega)) rfl ?_
 refine WO.v (R.loadN (cs := [_, _, _, _, _]) rfl Try.underlying46 rfl sz46 ccA52) rfl ?_
 refine WO.alloc zr46 rfl ?_
 intro w61 n61
 have z61 : w47.heap.size < w61.heap.size := n61.lt
 have b61 := old_kp0 b47 n61.kp
 have y61 : w.heap.size ≤ w61.heap.size := b61.size
 refine WO.storeBN rfl rfl n61.blk rfl (by simp [Value.oneCell', Str.val]) sz46 ?_
 intro w62 k62 B62 z_62
 have z62 : w61.heap.size = w62.heap.size := z_62.symm
 have b62 := old_kp b61 k62 (mem1 (by omega))
 have y62 : w.heap.size ≤ w62.heap.size := b62.size
 refine WO.nil ?_
 refine WX.sel [0, 1, 2, 3, 4, 5, 9, 17, 31] rfl ?_
 refine WX.next ?_
 refine WC.seq ?_
 refine WC.seq ?_
 refine WC.region ?_
 refine WO.v (fa46_2 rfl) rfl ?_
 refine WO.v (R.loadB rfl B62 rfl Try.underlying24 rfl) rfl ?_
 refine WO.v (R.len rfl Try.underlying24) rfl ?_
 refine WO.v (R.gtr rfl rfl) rfl ?_
 refine WO.nil ?_
 refine WX.sel [0, 1, 2, 3, 4, 5, 9, 17, 31, 42] rfl ?_
 refine WX.next ?_
 refine WC.cutEndK [0, 1, 2, 3, 4, 5, 9, 17, 31, 42] rfl [] (fun w' => ∃ (ja63 : Option Addr) (jc64 : Nat), Kp [w47.heap.size] w62 w' ∧ Blk w' (w47.heap.size) 46 [(.int .i64 x51.id), (.int .i64 x51.set), (.slice ja63 (x51.chunks.take 12).length jc64), (.bool (x51.held)), x51.tag.val] ∧ Sl (α := Int) false 0 B w' (.slice ja63 (x51.chunks.take 12).length jc64) (x51.chunks.take 12)) ?_ ?_
 refine WC.cond rfl (fun q66 => ?_) (fun q66 => ?_)
 have p66 : (12 : Int) < ((x51.chunks.length : Nat) : Int) := of_decide_eq_true q66
 refine WC.region ?_
 refine WO.v (fa46_2 rfl) rfl ?_
 refine WO.v (R.loadB rfl B62 rfl Try.underlying24 rfl) rfl ?_
 obtain ⟨a67, ha68, s69, mc70, ln71⟩ := Sl.cut (i := 0) (j := 12) (s := 1) (sl_kp (sl_kp0 (s59) n61.kp (by omega)) k62 (by omega) (mem1 (by omega))) rfl (by omega) (by omega)
 refine WO.v (R.sliceH (j := 12) rfl rfl Try.underlying24 sz3 ha68 (by omega)) rfl ?_
 replace s69 : Sl false (0) (B) w62 (.slice a67 12 c58) (x51.chunks.take 12) := s69
 replace ln71 : (x51.chunks.take 12).length = 12 := ln71
 have ls69 : ((x51.chunks.take 12)).length * 8 ≤ 140737488355328 := s69.lenle
 refine WO.v (fa46_2 rfl) rfl ?_
 refine WO.storeB (cs' := [_, _, _, _, _]) rfl rfl B62 rfl rfl sz24 rfl ?_
 intro w72 k72 B72 z_72
 have z72 : w62.heap.size = w72.heap.size := z_72.symm
 have b72 := old_kp b62 k72 (mem1 (by omega))
 have y72 : w.heap.size ≤ w72.heap.size := b72.size
 refine WO.nil ?_
 refine WX.sel [0, 1, 2, 3, 4, 5, 9, 17, 31, 42] rfl ?_
 have E73 : (x51.chunks.take 12) = x51.chunks.take 12 := rfl
 have nE73 : 12 = (x51.chunks.take 12).length := by rw [← E73]; simp only [List.length_take]; omega
 exact WX.cutDoneK [0, 1, 2, 3, 4, 5, 9, 17, 31, 42] rfl trivial ⟨a67, c58, (((Kp.refl _).sub (by simp)).step k72 (by simp)), (by rw [← nE73]; exact B72), (sl_n ((sl_kp (s69) k72 (by omega) (mem1 (by omega))).mono (lo' := 0) (hi' := B) (Nat.zero_le _) (by omega)) E73 nE73)⟩
 have p66 : ¬ ((12 : Int) < ((x51.chunks.length : Nat) : Int)) := of_decide_eq_false q66
 refine WC.skip ?_
 have E74 : x51.chunks = x51.chunks.take 12 := (List.take_of_length_le (by omega)).symm
 have nE74 : x51.chunks.length = (x51.chunks.take 12).length := by rw [← E74]
 exact WX.cutDoneK [0, 1, 2, 3, 4, 5, 9, 17, 31, 42] rfl trivial ⟨a57, c58, ((Kp.refl _).sub (by simp)), (by rw [← nE74]; exact B62), (sl_n ((sl_kp (sl_kp0 (s59) n61.kp (by omega)) k62 (by omega) (mem1 (by omega))).mono (lo' := 0) (hi' := B) (Nat.zero_le _) (by omega)) E74 nE74)⟩
 rintro w75 ⟨ja63, jc64, k75, Bj76, jf65⟩
 have z75 : w62.heap.size ≤ w75.heap.size := k75.size
 have b75 := old_kp b62 k75 (mem1 (by omega))
 have y75 : w.heap.size ≤ w75.heap.size := b75.size
 have ljf65 : ((x51.chunks.take 12)).length * 8 ≤ 140737488355328 := jf65.lenle
 refine WX.next ?_
 refine WC.seq ?_
 refine WC.seq ?_
 refine WC.region ?_
 refine WO.v (fa46_4 rfl) rfl ?_
 refine WO.v (R.loadB rfl Bj76 rfl Try.underlying9 rfl) rfl ?_
 refine WO.v (R.lenS rfl Try.underlying9) rfl ?_
 refine WO.v (R.gtr rfl rfl) rfl ?_
 refine WO.nil ?_
 refine WX.sel [0, 1, 2, 3, 4, 5, 9, 17, 31, 42, 50] rfl ?_
 refine WX.next ?_
 refine WC.cutEndK [0, 1, 2, 3, 4, 5, 9, 17, 31, 42, 50] rfl [] (fun w' => Kp [w47.heap.size] w75 w' ∧ Blk w' (w47.heap.size) 46 [(.int .i64 x51.id), (.int .i64 x51.set), (.slice ja63 (x51.chunks.take 12).length jc64), (.bool (x51.held)), (x51.tag.cut 0 40).val]) ?_ ?_
 refine WC.cond rfl (fun q77 => ?_) (fun q77 => ?_)
 have p77 : (40 : Int) < ((x51.tag.b.length : Nat) : Int) := of_decide_eq_true q77
 refine WC.region ?_
 refine WO.v (fa46_4 rfl) rfl ?_
 refine WO.v (R.loadB rfl Bj76 rfl Try.underlying9 rfl) rfl ?_
 refine WO.v (R.strH (s := x51.tag) (j := 40) rfl rfl Try.underlying9 (by omega)) rfl ?_
 refine WO.v (fa46_4 rfl) rfl ?_
 refine WO.storeB (cs' := [_, _, _, _, _]) rfl rfl Bj76 rfl rfl sz9 rfl ?_
 intro w78 k78 B78 z_78
 have z78 : w75.heap.size = w78.heap.size := z_78.symm
 have b78 := old_kp b75 k78 (mem1 (by omega))
 have y78 : w.heap.size ≤ w78.heap.size := b78.size
 refine WO.nil ?_
 refine WX.sel [0, 1, 2, 3, 4, 5, 9, 17, 31, 42, 50] rfl ?_
 have E79 : (Str.cut x51.tag 0 40) = x51.tag.cut 0 40 := rfl
 exact WX.cutDoneK [0, 1, 2, 3, 4, 5, 9, 17, 31, 42, 50] rfl trivial ⟨(((Kp.refl _).sub (by simp)).step k78 (by simp)), (by rw [← E79]; exact B78)⟩
 have p77 : ¬ ((40 : Int) < ((x51.tag.b.length : Nat) : Int)) := of_decide_eq_false q77
 refine WC.skip ?_
 have E80 : x51.tag = x51.tag.cut 0 40 := Str.cut_all (by omega)
 exact WX.cutDoneK [0, 1, 2, 3, 4, 5, 9, 17, 31, 42, 50] rfl trivial ⟨((Kp.refl _).sub (by simp)), (by rw [← E80]; exact Bj76)⟩
 rintro w81 ⟨k81, Bj82⟩
 have z81 : w75.heap.size ≤ w81.heap.size := k81.size
 have b81 := old_kp b75 k81 (mem1 (by omega))
 have y81 : w.heap.size ≤ w81.heap.size := b81.size
 refine WX.next ?_
 refine WC.region ?_
 refine WO.v (R.move rfl) rfl ?_
 refine WO.v (R.loadBN (vs := [_, _, _, _, _]) rfl Bj82 rfl Try.underlying46 rfl sz46) rfl ?_
 refine WO.buildSlice (parts := [_]) (vss := [[_, _, _, _, _]]) Try.underlying32 sz46 zr46 rfl rfl (by simp) rfl rfl rfl ?_
 intro w83 n83
 have z83 : w81.heap.size < w83.heap.size := n83.lt
 have b83 := old_kp0 b81 n83.kp
 have y83 : w.heap.size ≤ w83.heap.size := b83.size
 have ac84 : Ac (α := Snap) (w81.heap.size) false (0) (B) (w83.heap.size) w83 (.slice (some ⟨w81.heap.size, 0, none⟩) 1 1) ([(⟨x51.id, x51.set, (x51.chunks.take 12), (x51.held), (x51.tag.cut 0 40)⟩ : Snap)] : List Snap) := Ac.lit (α := Snap) (ys := ([(⟨x51.id, x51.set, (x51.chunks.take 12), (x51.held), (x51.tag.cut 0 40)⟩ : Snap)] : List Snap)) (css := [[_, _, _, _, _]]) n83.blk (.cons ((Snap.mk_ (i55) (i56) ((sl_kp0 (sl_kp (jf65) k81 (by omega) (mem1 (by omega))) n83.kp (by omega)).mono (lo' := 0) (hi' := B) (Nat.zero_le _) (by omega)) (Nat.le_trans (Str.cut_len _ _ _) i60))) (.nil)) (by omega) (by omega) (by simp [maxLen]) (by show 1 * 64 ≤ 140737488355328; decide) rfl
 have lenac84 : ([(⟨x51.id, x51.set, (x51.chunks.take 12), (x51.held), (x51.tag.cut 0 40)⟩ : Snap)] : List Snap).length = 1 := rfl
 have ac90 : Ac (α := Snap) (w45.heap.size) false (0) (B) (w47.heap.size) w83 (.slice aa0 ((s.snaps.take k).map lessSnap).length ac0) ((s.snaps.take k).map lessSnap) := ac_kp0 (ac_kp (ac_kp (ac_kp (ac_kp0 (hac46_0) n61.kp (by omega) (by omega)) k62 (by omega) (by omega) (mem1 (by omega))) k75 (by omega) (by omega) (mem1 (by omega))) k81 (by omega) (by omega) (mem1 (by omega))) n83.kp (by omega) (by omega)
 have bd85 := ac90.bd
 have ty91 := ac90.ty
 have lenac90 : (((s.snaps.take k).map lessSnap)).length * 64 ≤ 140737488355328 := ac90.lenle
 have lxac90 : (((s.snaps.take k).map lessSnap) ++ ([(⟨x51.id, x51.set, (x51.chunks.take 12), (x51.held), (x51.tag.cut 0 40)⟩ : Snap)] : List Snap)).length = ((s.snaps.take k).map lessSnap).length + ([(⟨x51.id, x51.set, (x51.chunks.take 12), (x51.held), (x51.tag.cut 0 40)⟩ : Snap)] : List Snap).length := List.length_append
 refine WO.append rfl ac90 (by omega) (by omega) (by omega) rfl rfl (ys := ([(⟨x51.id, x51.set, (x51.chunks.take 12), (x51.held), (x51.tag.cut 0 40)⟩ : Snap)] : List Snap)) (Src.of_ac ((ac84).mono (Nat.le_refl _) (by omega) (by omega) (Nat.le_refl _))) (.inr (.inr (by omega))) Try.underlying32 inf46 rfl rfl rfl (by decide) (by omega) (by omega) rfl ?_
 intro a87 c88 w86 h89 k86 or92
 have z86 : w83.heap.size ≤ w86.heap.size := k86.size
 have b86 := old_kp b83 k86 (fun g hg => by have := bd85 g hg; omega)
 have y86 : w.heap.size ≤ w86.heap.size := b86.size
 refine WO.v (R.assign rfl) rfl ?_
 refine WO.nil ?_
 refine WX.sel [0, 1, 2, 3, 4, 5, 9, 17, 31, 42, 50] rfl ?_
 refine WX.blkNormal ?_
 refine WX.next ?_
 refine WC.region ?_
 refine WO.v (R.move rfl) rfl ?_
 refine WO.v (R.inc rfl (by omega)) rfl ?_
 refine WO.v (R.assign rfl) rfl ?_
 refine WO.nil ?_
 refine WX.sel [0, 1, 2, 3, 4, 5, 9, 17, 31, 42, 50] rfl ?_
 have E93 : (((s.snaps.take k).map lessSnap) ++ ([(⟨x51.id, x51.set, (x51.chunks.take 12), (x51.held), (x51.tag.cut 0 40)⟩ : Snap)] : List Snap)) = (s.snaps.take (k + 1)).map lessSnap := less_step hx51
 have nE93 : (((s.snaps.take k).map lessSnap) ++ ([(⟨x51.id, x51.set, (x51.chunks.take 12), (x51.held), (x51.tag.cut 0 40)⟩ : Snap)] : List Snap)).length = ((s.snaps.take (k + 1)).map lessSnap).length := by rw [E93]
 exact WX.loopNextK [0, 1, 2, 9, 17] (k + 1, a87, c88) rfl ⟨⟨_, rfl, rfl⟩, ⟨_, rfl, vs_n nE93⟩, trivial⟩ ⟨(((((((Kp.refl _).step k47 (by simp)).step n61.kp (by simp)).step k62 (mem1 (.inr (by omega)))).step k75 (mem1 (.inr (by omega)))).step k81 (mem1 (.inr (by omega)))).step n83.kp (by simp)).step k86 (fun g hg => .inr (by have := bd85 g hg; omega)), by omega, ac_n ((h89).mono (by omega) (by omega) (by omega) (by omega)) E93 nE93⟩ (by show ((min s.snaps.length 20) - (k + 1)) < ((min s.snaps.length 20) - k); omega)
 have p50 : (¬ (((k : Nat) : Int) < ((s.snaps.length : Nat) : Int))) ∨ (¬ (((k : Nat) : Int) < (20 : Int))) := Or.imp (fun h => of_decide_eq_false h) (fun h => of_decide_eq_false h) (band_f q50)
 refine WC.exit ?_
 refine WX.thenExit ?_
 refine WX.loopExit ?_
 refine WX.blkHit ?_
 refine WX.next ?_
 refine WC.seq ?_
 refine WC.region ?_
 refine WO.v (R.move rfl) rfl ?_
 refine WO.v (fa34_6 rfl) rfl ?_
 refine WO.storeB (cs' := [_, _, _, _, _, _, _]) rfl rfl B48 rfl rfl sz32 rfl ?_
 intro w94 k94 B94 z_94
 have z94 : w47.heap.size = w94.heap.size := z_94.symm
 have b94 := old_kp b47 k94 (mem1 (by omega))
 have y94 : w.heap.size ≤ w94.heap.size := b94.size
 refine WO.nil ?_
 refine WX.sel [0, 1, 2, 3, 4, 9, 17, 31] rfl ?_
 refine WX.next ?_
 refine WC.seq ?_
 refine WC.region ?_
 refine WO.v (R.loadBN (vs := [_, _, _, _, _, _, _]) rfl B94 rfl Try.underlying34 rfl sz34) rfl ?_
 have B95 := (((((n15.blk).kp1 k29 (by omega)).kp1 k43 (by omega)).kp0 n45.kp).kp0 k47).kp1 k94 (by omega)
 refine WO.storeBN rfl rfl B95 rfl (by simp [Value.oneCell']) sz34 ?_
 intro w96 k96 B96 z_96
 have z96 : w94.heap.size = w96.heap.size := z_96.symm
 have b96 := old_kp b94 k96 (mem1 (by omega))
 have y96 : w.heap.size ≤ w96.heap.size := b96.size
 refine WO.nil ?_
 refine WX.sel [0, 1, 2, 3, 4, 9, 17, 31] rfl ?_
 refine WX.next ?_
 refine WC.ret ?_
 have e0 : (⟨s.version, s.next, s.keep, s.quota, (s.sess.take 20), (s.opens.take 20), ((s.snaps.take k).map lessSnap)⟩ : State) = (lessF s) := by show _ = lessF s; rw [lessF, show s.snaps.take k = s.snaps.take 20 from take_min (by omega)]
 refine WX.retC Try.results11 rfl B96 Try.underlying34 rfl sz34 ?_
 rw [← e0]
 exact ⟨ja17, jc18, ja31, jc32, aa0, ac0, rfl, (i1), (i2), (i3), (i4), ((sl_kp (sl_kp (sl_kp0 (sl_kp0 (sl_kp (jf19) k43 (by omega) (mem1 (by omega))) n45.kp (by omega)) k47 (by omega)) k94 (by omega) (mem1 (by omega))) k96 (by omega) (mem1 (by omega))).mono (lo' := 0) (hi' := B) (Nat.zero_le _) (by omega)), ((sl_kp (sl_kp (sl_kp0 (sl_kp0 (jf33) n45.kp (by omega)) k47 (by omega)) k94 (by omega) (mem1 (by omega))) k96 (by omega) (mem1 (by omega))).mono (lo' := 0) (hi' := B) (Nat.zero_le _) (by omega)), ((ac_kp (ac_kp (hac46_0) k94 (by omega) (by omega) (mem1 (by omega))) k96 (by omega) (by omega) (mem1 (by omega))).mono (by omega) (by omega) (by omega) (by omega)), Kp.of_below b96⟩


end Go.Proofs.Ytaenkjlhdlddgaa
