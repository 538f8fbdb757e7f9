/- Contracts of functions, walked operation by operation. -/
import Derived.Test.YtfmlgeeogbhppaaE8
namespace Go.Proofs.Ytfmlgeeogbhppaa
open Go.RowKit




set_option maxRecDepth 100000 in
set_option maxHeartbeats 400000 in
theorem put03_s {w : World} {a_l : Option Addr} {c_l : Nat} {l : List Field} (h_l : Sl false 0 w.heap.size w (.slice a_l l.length c_l) l) :
    Ret Try.prog 40 [.slice a_l l.length c_l].toArray w fun r w' => ∃ (ra0 : Option Addr) (rc0 : Nat), r = .tuple #[.slice ra0 (putTF l).length rc0, .int .i64 (mayT l)] ∧ Ac w.heap.size true w.heap.size w'.heap.size w'.heap.size w' (.slice ra0 (putTF l).length rc0) (putTF l) ∧ Kp [] w w' := by
 have len_l : (l).length * 48 ≤ 140737488355328 := h_l.lenle
 refine Ret.enter Try.func40 rfl Try.ntmps40 rfl rfl ?_
 refine WC.sel [0] rfl ?_
 refine WC.seq ?_
 refine WC.region ?_
 refine WO.v (R.assign rfl) rfl ?_
 refine WO.v (R.assign rfl) rfl ?_
 refine WO.nil ?_
 refine WX.sel [0, 2, 3] rfl ?_
 refine WX.next ?_
 refine WC.seq ?_
 refine WC.region ?_
 refine WO.v (R.move rfl) rfl ?_
 refine WO.c (E.call rfl rfl Try.func64 rfl rfl) (may03_s (l := l) (a_l := a_l) (c_l := c_l) ((h_l).mono (lo' := 0) (hi' := w.heap.size) (Nat.zero_le _) (by omega))) rfl ?_
 rintro _ w1 ⟨rfl, k1⟩
 have z1 := k1.size
 have b1 := old_kp0 (Below.refl w.heap.size w) k1
 have y1 := b1.size
 refine WO.v (R.assign rfl) rfl ?_
 refine WO.nil ?_
 refine WX.sel [0, 2, 3, 4] rfl ?_
 refine WX.next ?_
 refine WC.seq ?_
 refine WC.seq ?_
 refine WC.region ?_
 refine WO.v (R.move rfl) rfl ?_
 refine WO.v (R.neq rfl rfl) rfl ?_
 refine WO.nil ?_
 refine WX.sel [0, 2, 3, 4, 10] rfl ?_
 refine WX.next ?_
 refine WC.cond rfl (fun q2 => ?_) (fun q2 => ?_)
 have p2 : ¬ (mayT (l) = (0 : Int)) := of_decide_eq_false (bnot_t q2)
 refine WC.seq ?_
 refine WC.region ?_
 refine WO.v (R.move rfl) rfl ?_
 refine WO.v (R.assign rfl) rfl ?_
 refine WO.v (R.assign rfl) rfl ?_
 refine WO.nil ?_
 refine WX.sel [0, 2, 3, 4, 10] rfl ?_
 refine WX.next ?_
 refine WC.ret ?_
 refine WX.thenRet ?_
 have e0 : ([] : List UInt8) = (putTF l) := by first | exact put_yes (by omega) (by omega) | exact put_no (by omega)
 have n0 : 0 = (putTF l).length := by rw [← e0]; simp only [List.length_nil]
 have f0 : Ac (α := UInt8) w.heap.size true w.heap.size w1.heap.size w1.heap.size w1 (.slice none 0 0) ([] : List UInt8) := Ac.empty _ _ _ _ _ _ _
 have e1 : mayT (l) = (mayT l) := by first | rfl | omega
 refine WX.ret2 Try.results40 rfl rfl ?_
 exact ⟨none, 0, by rw [n0, e1], (acl_n f0 e0 n0), Kp.of_below b1⟩
 have p2 : mayT (l) = (0 : Int) := of_decide_eq_true (bnot_f q2)
 refine WC.skip ?_
 refine WX.next ?_
 refine WC.seq ?_
 refine WC.region ?_
 refine WO.buildSlice (parts := []) (vss := []) Try.underlying27 sz5 zr5 rfl rfl (by simp) rfl rfl rfl ?_
 intro w3 n3
 have z3 := n3.lt
 have b3 := old_kp0 b1 n3.kp
 have y3 := b3.size
 have ac4 : Ac (α := UInt8) (w1.heap.size) true (w.heap.size) (w3.heap.size) (w3.heap.size) w3 (.slice (some ⟨w1.heap.size, 0, none⟩) 0 0) ([] : List UInt8) := Ac.lit (α := UInt8) (ys := ([] : List UInt8)) (css := []) n3.blk (.nil) (by omega) (by omega) (by simp [maxLen]) (by show 0 * 1 ≤ 140737488355328; decide) rfl
 have lenac4 : ([] : List UInt8).length = 0 := rfl
 refine WO.v (R.assign rfl) rfl ?_
 refine WO.nil ?_
 refine WX.sel [0, 2, 3, 4, 5, 10] rfl ?_
 refine WX.next ?_
 refine WC.seq ?_
 refine WC.seq ?_
 refine WC.region ?_
 refine WO.v (R.assign rfl) rfl ?_
 refine WO.nil ?_
 refine WX.sel [0, 2, 3, 4, 5, 6, 10] rfl ?_
 refine WX.next ?_
 refine WC.block ?_
 refine WC.loopK [0, 2, 3, 4, 10] rfl (fun zz : Nat × Option Addr × Nat => [(6, (.int .i64 (((zz.1) : Nat) : Int))), (5, (.slice (zz.2.1) (((l.take (zz.1)).map fieldB).flatten).length (zz.2.2)))]) (fun (zz : Nat × Option Addr × Nat) (w' : World) => (Kp [] w3 w') ∧ ((zz.1) ≤ l.length) ∧ (Ac (α := UInt8) (w3.heap.size) true (w.heap.size) (w'.heap.size) w'.heap.size w' (.slice (zz.2.1) (((l.take (zz.1)).map fieldB).flatten).length (zz.2.2)) (((l.take (zz.1)).map fieldB).flatten))) (fun zz => l.length - (zz.1)) (0, (some ⟨w1.heap.size, 0, none⟩), 0) ?_ ?_ ?_
 exact ⟨⟨_, rfl, rfl⟩, ⟨_, rfl, rfl⟩, trivial⟩
 exact ⟨Kp.refl _, Nat.zero_le _, Ac.empty _ _ _ _ _ _ _⟩
 rintro ⟨k, aa0, ac0⟩ w5 ⟨k5, hk, hac4_0⟩
 try dsimp only at hk hac4_0
 have z5 := k5.size
 have b5 := old_kp0 b3 k5
 have y5 := b5.size
 refine (?_ : WC _ _ _ _ ([(6, (.int .i64 ((k : Nat) : Int))), (5, (.slice aa0 (((l.take k).map fieldB).flatten).length ac0))] ++ _) w5)
 have hmay : mayT l = 0 := (by omega)
 have : (((l.take k).map fieldB).flatten).length ≤ 16384 := by exact flat_len (by omega)
 have lenhac4_0 : (((l.take k).map fieldB).flatten).length * 1 ≤ 140737488355328 := hac4_0.lenle
 refine WC.seq ?_
 refine WC.seq ?_
 refine WC.region ?_
 refine WO.v (R.move rfl) rfl ?_
 refine WO.v (R.move rfl) rfl ?_
 refine WO.v (R.len rfl Try.underlying25) rfl ?_
 refine WO.v (R.lss rfl rfl) rfl ?_
 refine WO.nil ?_
 refine WX.sel [0, 2, 3, 4, 5, 6, 10, 16] rfl ?_
 refine WX.next ?_
 refine WC.cond rfl (fun q6 => ?_) (fun q6 => ?_)
 have p6 : ((k : Nat) : Int) < ((l.length : Nat) : Int) := of_decide_eq_true q6
 refine WC.skip ?_
 refine WX.next ?_
 refine WC.seq ?_
 refine WC.block ?_
 refine WC.region ?_
 refine WO.v (R.move rfl) rfl ?_
 refine WO.v (R.move rfl) rfl ?_
 refine WO.v (R.move rfl) rfl ?_
 obtain ⟨x7, hx7⟩ := get_ex (xs := l) (i := k) (by omega)
 have := may_len (show mayT l = 0 by omega) (List.mem_of_getElem? hx7)
 obtain ⟨A8, cs9, hA8, loA8, hiA8, ccA8, r10⟩ := (sl_old h_l b5).at_ hx7
 obtain ⟨a14, c15, rfl, i11, i12, i13, s16⟩ := Field.el r10
 have ls16 : (x7.b).length * 1 ≤ 140737488355328 := s16.lenle
 refine WO.v (R.indexAddrN rfl rfl Try.underlying25 sz37 hA8 (by omega)) rfl ?_
 refine WO.v (R.loadN (cs := [_, _, _, _]) rfl Try.underlying37 rfl sz37 ccA8) rfl ?_
 refine WO.c (E.call rfl rfl Try.func65 rfl rfl) (onef_s (f := x7) (Field.mk_ (i11) (i12) (i13) ((s16).mono (lo' := 0) (hi' := w5.heap.size) (Nat.zero_le _) (by omega))) (by omega)) rfl ?_
 rintro _ w17 ⟨a18, c19, rfl, s20, k17⟩
 have ls20 : (fieldB (x7)).length * 1 ≤ 140737488355328 := s20.lenle
 have z17 := k17.size
 have b17 := old_kp0 b5 k17
 have y17 := b17.size
 have := fieldB_len (f := (x7)) (by omega) (by omega)
 have ac26 : Ac (α := UInt8) (w3.heap.size) true (w.heap.size) (w17.heap.size) (w5.heap.size) w17 (.slice aa0 (((l.take k).map fieldB).flatten).length ac0) (((l.take k).map fieldB).flatten) := (ac_kp0 (hac4_0) k17 (by omega) (by omega)).mono (Nat.le_refl _) (Nat.le_refl _) (by omega) (Nat.le_refl _)
 have bd21 := ac26.bd
 have ty27 := ac26.ty
 have lenac26 : ((((l.take k).map fieldB).flatten)).length * 1 ≤ 140737488355328 := ac26.lenle
 have lxac26 : ((((l.take k).map fieldB).flatten) ++ (fieldB (x7))).length = (((l.take k).map fieldB).flatten).length + (fieldB (x7)).length := List.length_append
 refine WO.append rfl ac26 (by omega) (by omega) (by omega) rfl rfl (ys := (fieldB (x7))) (Src.flat (((s20).pub (L := 0) (H := w17.heap.size) (by omega) (by omega) (by omega) (by omega))) (fun h => h)) (.inl rfl) Try.underlying27 inf5 rfl rfl rfl (by decide) (by omega) (by omega) rfl ?_
 intro a23 c24 w22 h25 k22 or28
 have z22 := k22.size
 have b22 := old_kp b17 k22 (fun g hg => by have := bd21 g hg; omega)
 have y22 := b22.size
 refine WO.v (R.assign rfl) rfl ?_
 refine WO.nil ?_
 refine WX.sel [0, 2, 3, 4, 5, 6, 10, 16] rfl ?_
 refine WX.blkNormal ?_
 refine WX.next ?_
 refine WC.region ?_
 refine WO.v (R.move rfl) rfl ?_
 refine WO.v (R.inc rfl (by omega)) rfl ?_
 refine WO.v (R.assign rfl) rfl ?_
 refine WO.nil ?_
 refine WX.sel [0, 2, 3, 4, 5, 6, 10, 16] rfl ?_
 have E29 : ((((l.take k).map fieldB).flatten) ++ (fieldB (x7))) = ((l.take (k + 1)).map fieldB).flatten := flat_next hx7
 have nE29 : ((((l.take k).map fieldB).flatten) ++ (fieldB (x7))).length = (((l.take (k + 1)).map fieldB).flatten).length := by rw [E29]
 exact WX.loopNextK [0, 2, 3, 4, 10] (k + 1, a23, c24) rfl ⟨⟨_, rfl, rfl⟩, ⟨_, rfl, vs_n nE29⟩, trivial⟩ ⟨(((Kp.refl _).step k5 (by simp)).step k17 (by simp)).step k22 (fun g hg => .inr (by have := bd21 g hg; omega)), by omega, ac_n ((h25).mono (by omega) (by omega) (by omega) (by omega)) E29 nE29⟩ (by show (l.length - (k + 1)) < (l.length - k); omega)
 have p6 : ¬ (((k : Nat) : Int) < ((l.length : Nat) : Int)) := of_decide_eq_false q6
 refine WC.exit ?_
 refine WX.thenExit ?_
 refine WX.loopExit ?_
 refine WX.blkHit ?_
 refine WX.next ?_
 refine WC.seq ?_
 refine WC.region ?_
 refine WO.v (R.move rfl) rfl ?_
 refine WO.v (R.assign rfl) rfl ?_
 refine WO.v (R.assign rfl) rfl ?_
 refine WO.nil ?_
 refine WX.sel [0, 2, 3, 4, 5, 6, 10, 16] rfl ?_
 refine WX.next ?_
 refine WC.ret ?_
 have e0 : (((l.take k).map fieldB).flatten) = (putTF l) := by first | exact put_yes (by omega) (by omega) | exact put_no (by omega)
 have n0 : (((l.take k).map fieldB).flatten).length = (putTF l).length := by rw [e0]
 have f0 : Ac (α := UInt8) w.heap.size true w.heap.size w5.heap.size w5.heap.size w5 (.slice aa0 (((l.take k).map fieldB).flatten).length ac0) (((l.take k).map fieldB).flatten) := ((hac4_0).mono (by omega) (by omega) (by omega) (by omega))
 have e1 : (0 : Int) = (mayT l) := by first | rfl | omega
 refine WX.ret2 Try.results40 rfl rfl ?_
 exact ⟨aa0, ac0, by rw [n0, e1], (acl_n f0 e0 n0), Kp.of_below b5⟩

set_option maxRecDepth 100000 in
set_option maxHeartbeats 400000 in
theorem num04_s {w : World} (a : Int) (b : Int) (n : Bool) (i_a : I64 a) (i_b : I64 b) :
    Ret Try.prog 93 [.int .i64 a, .int .i64 b, .bool n].toArray w fun r w' => ∃ (rs0 : List Value), r = .agg rs0.toArray ∧ Rp.rp false 0 w'.heap.size w' rs0 ((⟨a, 0, b, n, false⟩ : Spec)) ∧ Kp [] w w' := by
 refine Ret.enter Try.func93 rfl Try.ntmps93 rfl rfl ?_
 refine WC.sel [0, 1, 2] rfl ?_
 refine WC.seq ?_
 refine WC.region ?_
 refine WO.alloc zr83 rfl ?_
 intro w1 n1
 have z1 := n1.lt
 have b1 := old_kp0 (Below.refl w.heap.size w) n1.kp
 have y1 := b1.size
 refine WO.nil ?_
 refine WX.sel [0, 1, 2, 6] rfl ?_
 refine WX.next ?_
 refine WC.seq ?_
 refine WC.region ?_
 refine WO.v (R.move rfl) rfl ?_
 refine WO.v (R.move rfl) rfl ?_
 refine WO.v (R.move rfl) rfl ?_
 refine WO.v (R.buildL (parts := [_, _, _, _]) (cells := #[(.int .i64 a), (.int .i64 (0 : Int)), (.int .i64 b), (.bool (n)), (.bool false)]) rfl (by kernel_rfl)) rfl ?_
 refine WO.storeBN rfl rfl n1.blk rfl (by simp [Value.oneCell']) sz83 ?_
 intro w2 k2 B2 z_2
 have z2 := z_2.symm
 have b2 := old_kp b1 k2 (mem1 (by omega))
 have y2 := b2.size
 refine WO.nil ?_
 refine WX.sel [0, 1, 2, 6] rfl ?_
 refine WX.next ?_
 refine WC.ret ?_
 have e0 : (⟨a, (0 : Int), b, (n), false⟩ : Spec) = ((⟨a, 0, b, n, false⟩ : Spec)) := by rfl
 have f0 : Rp.rp false 0 w2.heap.size w2 [(.int .i64 a), (.int .i64 (0 : Int)), (.int .i64 b), (.bool (n)), (.bool false)] (⟨a, (0 : Int), b, (n), false⟩ : Spec) := (Spec.mk_ (i_a) (show I64 (0) from ⟨by omega, by omega⟩) (i_b))
 refine WX.retC Try.results93 rfl B2 Try.underlying83 rfl sz83 ?_
 exact ⟨[(.int .i64 a), (.int .i64 (0 : Int)), (.int .i64 b), (.bool (n)), (.bool false)], by rfl, (Eq.mp (congrArg (Rp.rp _ _ _ _ _) e0) f0), Kp.of_below b2⟩

set_option maxRecDepth 100000 in
set_option maxHeartbeats 400000 in
theorem byt04_s {w : World} (a : Int) (b : Int) (n : Bool) (m : Bool) (i_a : I64 a) (i_b : I64 b) :
    Ret Try.prog 94 [.int .i64 a, .int .i64 b, .bool n, .bool m].toArray w fun r w' => ∃ (rs0 : List Value), r = .agg rs0.toArray ∧ Rp.rp false 0 w'.heap.size w' rs0 ((⟨a, 2, b, n, m⟩ : Spec)) ∧ Kp [] w w' := by
 refine Ret.enter Try.func94 rfl Try.ntmps94 rfl rfl ?_
 refine WC.sel [0, 1, 2, 3] rfl ?_
 refine WC.seq ?_
 refine WC.region ?_
 refine WO.alloc zr83 rfl ?_
 intro w1 n1
 have z1 := n1.lt
 have b1 := old_kp0 (Below.refl w.heap.size w) n1.kp
 have y1 := b1.size
 refine WO.nil ?_
 refine WX.sel [0, 1, 2, 3, 8] rfl ?_
 refine WX.next ?_
 refine WC.seq ?_
 refine WC.region ?_
 refine WO.v (R.move rfl) rfl ?_
 refine WO.v (R.move rfl) rfl ?_
 refine WO.v (R.move rfl) rfl ?_
 refine WO.v (R.move rfl) rfl ?_
 refine WO.v (R.buildL (parts := [_, _, _, _, _]) (cells := #[(.int .i64 a), (.int .i64 (2 : Int)), (.int .i64 b), (.bool (n)), (.bool (m))]) rfl (by kernel_rfl)) rfl ?_
 refine WO.storeBN rfl rfl n1.blk rfl (by simp [Value.oneCell']) sz83 ?_
 intro w2 k2 B2 z_2
 have z2 := z_2.symm
 have b2 := old_kp b1 k2 (mem1 (by omega))
 have y2 := b2.size
 refine WO.nil ?_
 refine WX.sel [0, 1, 2, 3, 8] rfl ?_
 refine WX.next ?_
 refine WC.ret ?_
 have e0 : (⟨a, (2 : Int), b, (n), (m)⟩ : Spec) = ((⟨a, 2, b, n, m⟩ : Spec)) := by rfl
 have f0 : Rp.rp false 0 w2.heap.size w2 [(.int .i64 a), (.int .i64 (2 : Int)), (.int .i64 b), (.bool (n)), (.bool (m))] (⟨a, (2 : Int), b, (n), (m)⟩ : Spec) := (Spec.mk_ (i_a) (show I64 (2) from ⟨by omega, by omega⟩) (i_b))
 refine WX.retC Try.results94 rfl B2 Try.underlying83 rfl sz83 ?_
 exact ⟨[(.int .i64 a), (.int .i64 (2 : Int)), (.int .i64 b), (.bool (n)), (.bool (m))], by rfl, (Eq.mp (congrArg (Rp.rp _ _ _ _ _) e0) f0), Kp.of_below b2⟩

set_option maxRecDepth 100000 in
set_option maxHeartbeats 1000000 in
theorem all04_s {w : World}   :
    Ret Try.prog 84 [.int .i64 1].toArray w fun r w' => ∃ (ra0 : Option Addr) (rc0 : Nat), r = .slice ra0 (specsL).length rc0 ∧ Sl true w.heap.size w'.heap.size w' (.slice ra0 (specsL).length rc0) (specsL) ∧ Kp [] w w' := by
 refine Ret.enter Try.func84 rfl Try.ntmps84 rfl rfl ?_
 refine WC.sel [0] rfl ?_
 refine WC.seq ?_
 refine WC.region ?_
 refine WO.v (R.assign rfl) rfl ?_
 refine WO.nil ?_
 refine WX.sel [0, 2] rfl ?_
 refine WX.next ?_
 refine WC.seq ?_
 refine WC.seq ?_
 refine WC.region ?_
 refine WO.v (R.move rfl) rfl ?_
 refine WO.nil ?_
 refine WX.sel [0, 2, 3] rfl ?_
 refine WX.next ?_
 refine WC.block ?_
 refine WC.seq ?_
 refine WC.region ?_
 refine WO.v (R.eql rfl rfl) rfl ?_
 refine WO.v (R.assign rfl) rfl ?_
 refine WO.nil ?_
 refine WX.sel [0, 2, 3, 4] rfl ?_
 refine WX.next ?_
 refine WC.cond rfl (fun q1 => ?_) (fun q1 => ?_)
 have p1 : (1 : Int) = (1 : Int) := of_decide_eq_true q1
 refine WC.seq ?_
 refine WC.region ?_
 refine WO.c (E.call rfl rfl Try.func93 rfl rfl) (num04_s (a := (1 : Int)) (b := (1 : Int)) (n := true) (show I64 (1) from ⟨by omega, by omega⟩) (show I64 (1) from ⟨by omega, by omega⟩)) rfl ?_
 rintro _ w2 ⟨cs3, rfl, r4, k2⟩
 have z2 := k2.size
 have b2 := old_kp0 (Below.refl w.heap.size w) k2
 have y2 := b2.size
 obtain ⟨rfl, i5, i6, i7⟩ := Spec.el r4
 refine WO.c (E.call rfl rfl Try.func93 rfl rfl) (num04_s (a := (2 : Int)) (b := (1 : Int)) (n := false) (show I64 (2) from ⟨by omega, by omega⟩) (show I64 (1) from ⟨by omega, by omega⟩)) rfl ?_
 rintro _ w8 ⟨cs9, rfl, r10, k8⟩
 have z8 := k8.size
 have b8 := old_kp0 b2 k8
 have y8 := b8.size
 obtain ⟨rfl, i11, i12, i13⟩ := Spec.el r10
 refine WO.c (E.call rfl rfl Try.func93 rfl rfl) (num04_s (a := (3 : Int)) (b := (1 : Int)) (n := false) (show I64 (3) from ⟨by omega, by omega⟩) (show I64 (1) from ⟨by omega, by omega⟩)) rfl ?_
 rintro _ w14 ⟨cs15, rfl, r16, k14⟩
 have z14 := k14.size
 have b14 := old_kp0 b8 k14
 have y14 := b14.size
 obtain ⟨rfl, i17, i18, i19⟩ := Spec.el r16
 refine WO.c (E.call rfl rfl Try.func93 rfl rfl) (num04_s (a := (4 : Int)) (b := (1 : Int)) (n := false) (show I64 (4) from ⟨by omega, by omega⟩) (show I64 (1) from ⟨by omega, by omega⟩)) rfl ?_
 rintro _ w20 ⟨cs21, rfl, r22, k20⟩
 have z20 := k20.size
 have b20 := old_kp0 b14 k20
 have y20 := b20.size
 obtain ⟨rfl, i23, i24, i25⟩ := Spec.el r22
 refine WO.c (E.call rfl rfl Try.func93 rfl rfl) (num04_s (a := (5 : Int)) (b := (1 : Int)) (n := false) (show I64 (5) from ⟨by omega, by omega⟩) (show I64 (1) from ⟨by omega, by omega⟩)) rfl ?_
 rintro _ w26 ⟨cs27, rfl, r28, k26⟩
 have z26 := k26.size
 have b26 := old_kp0 b20 k26
 have y26 := b26.size
 obtain ⟨rfl, i29, i30, i31⟩ := Spec.el r28
 refine WO.c (E.call rfl rfl Try.func93 rfl rfl) (num04_s (a := (6 : Int)) (b := (1 : Int)) (n := false) (show I64 (6) from ⟨by omega, by omega⟩) (show I64 (1) from ⟨by omega, by omega⟩)) rfl ?_
 rintro _ w32 ⟨cs33, rfl, r34, k32⟩
 have z32 := k32.size
 have b32 := old_kp0 b26 k32
 have y32 := b32.size
 obtain ⟨rfl, i35, i36, i37⟩ := Spec.el r34
 refine WO.c (E.call rfl rfl Try.func94 rfl rfl) (byt04_s (a := (7 : Int)) (b := (1 : Int)) (n := false) (m := false) (show I64 (7) from ⟨by omega, by omega⟩) (show I64 (1) from ⟨by omega, by omega⟩)) rfl ?_
 rintro _ w38 ⟨cs39, rfl, r40, k38⟩
 have z38 := k38.size
 have b38 := old_kp0 b32 k38
 have y38 := b38.size
 obtain ⟨rfl, i41, i42, i43⟩ := Spec.el r40
 refine WO.c (E.call rfl rfl Try.func94 rfl rfl) (byt04_s (a := (8 : Int)) (b := (3 : Int)) (n := false) (m := false) (show I64 (8) from ⟨by omega, by omega⟩) (show I64 (3) from ⟨by omega, by omega⟩)) rfl ?_
 rintro _ w44 ⟨cs45, rfl, r46, k44⟩
 have z44 := k44.size
 have b44 := old_kp0 b38 k44
 have y44 := b44.size
 obtain ⟨rfl, i47, i48, i49⟩ := Spec.el r46
 refine WO.buildSlice (parts := [_, _, _, _, _, _, _, _]) (vss := [[_, _, _, _, _], [_, _, _, _, _], [_, _, _, _, _], [_, _, _, _, _], [_, _, _, _, _], [_, _, _, _, _], [_, _, _, _, _], [_, _, _, _, _]]) Try.underlying80 sz83 zr83 rfl rfl (by simp) rfl rfl rfl ?_
 intro w50 n50
 have z50 := n50.lt
 have b50 := old_kp0 b44 n50.kp
 have y50 := b50.size
 have ac51 : Ac (α := Spec) (w44.heap.size) true (w.heap.size) (w50.heap.size) (w50.heap.size) w50 (.slice (some ⟨w44.heap.size, 0, none⟩) 8 8) ([(⟨((1 : Int)), (0 : Int), ((1 : Int)), ((true)), (false)⟩ : Spec), (⟨((2 : Int)), (0 : Int), ((1 : Int)), ((false)), (false)⟩ : Spec), (⟨((3 : Int)), (0 : Int), ((1 : Int)), ((false)), (false)⟩ : Spec), (⟨((4 : Int)), (0 : Int), ((1 : Int)), ((false)), (false)⟩ : Spec), (⟨((5 : Int)), (0 : Int), ((1 : Int)), ((false)), (false)⟩ : Spec), (⟨((6 : Int)), (0 : Int), ((1 : Int)), ((false)), (false)⟩ : Spec), (⟨((7 : Int)), (2 : Int), ((1 : Int)), ((false)), ((false))⟩ : Spec), (⟨((8 : Int)), (2 : Int), ((3 : Int)), ((false)), ((false))⟩ : Spec)] : List Spec) := Ac.lit (α := Spec) (ys := ([(⟨((1 : Int)), (0 : Int), ((1 : Int)), ((true)), (false)⟩ : Spec), (⟨((2 : Int)), (0 : Int), ((1 : Int)), ((false)), (false)⟩ : Spec), (⟨((3 : Int)), (0 : Int), ((1 : Int)), ((false)), (false)⟩ : Spec), (⟨((4 : Int)), (0 : Int), ((1 : Int)), ((false)), (false)⟩ : Spec), (⟨((5 : Int)), (0 : Int), ((1 : Int)), ((false)), (false)⟩ : Spec), (⟨((6 : Int)), (0 : Int), ((1 : Int)), ((false)), (false)⟩ : Spec), (⟨((7 : Int)), (2 : Int), ((1 : Int)), ((false)), ((false))⟩ : Spec), (⟨((8 : Int)), (2 : Int), ((3 : Int)), ((false)), ((false))⟩ : Spec)] : List Spec)) (css := [[_, _, _, _, _], [_, _, _, _, _], [_, _, _, _, _], [_, _, _, _, _], [_, _, _, _, _], [_, _, _, _, _], [_, _, _, _, _], [_, _, _, _, _]]) n50.blk (.cons ((Spec.mk_ (i5) (i6) (i7))) (.cons ((Spec.mk_ (i11) (i12) (i13))) (.cons ((Spec.mk_ (i17) (i18) (i19))) (.cons ((Spec.mk_ (i23) (i24) (i25))) (.cons ((Spec.mk_ (i29) (i30) (i31))) (.cons ((Spec.mk_ (i35) (i36) (i37))) (.cons ((Spec.mk_ (i41) (i42) (i43))) (.cons ((Spec.mk_ (i47) (i48) (i49))) (.nil))))))))) (by omega) (by omega) (by simp [maxLen]) (by show 8 * 32 ≤ 140737488355328; decide) rfl
 have lenac51 : ([(⟨((1 : Int)), (0 : Int), ((1 : Int)), ((true)), (false)⟩ : Spec), (⟨((2 : Int)), (0 : Int), ((1 : Int)), ((false)), (false)⟩ : Spec), (⟨((3 : Int)), (0 : Int), ((1 : Int)), ((false)), (false)⟩ : Spec), (⟨((4 : Int)), (0 : Int), ((1 : Int)), ((false)), (false)⟩ : Spec), (⟨((5 : Int)), (0 : Int), ((1 : Int)), ((false)), (false)⟩ : Spec), (⟨((6 : Int)), (0 : Int), ((1 : Int)), ((false)), (false)⟩ : Spec), (⟨((7 : Int)), (2 : Int), ((1 : Int)), ((false)), ((false))⟩ : Spec), (⟨((8 : Int)), (2 : Int), ((3 : Int)), ((false)), ((false))⟩ : Spec)] : List Spec).length = 8 := rfl
 refine WO.v (R.assign rfl) rfl ?_
 refine WO.nil ?_
 refine WX.sel [0, 2, 3, 4] rfl ?_
 refine WX.next ?_
 refine WC.ret ?_
 refine WX.blkRet ?_
 refine WX.thenRet ?_
 have e0 : ([(⟨((1 : Int)), (0 : Int), ((1 : Int)), ((true)), (false)⟩ : Spec), (⟨((2 : Int)), (0 : Int), ((1 : Int)), ((false)), (false)⟩ : Spec), (⟨((3 : Int)), (0 : Int), ((1 : Int)), ((false)), (false)⟩ : Spec), (⟨((4 : Int)), (0 : Int), ((1 : Int)), ((false)), (false)⟩ : Spec), (⟨((5 : Int)), (0 : Int), ((1 : Int)), ((false)), (false)⟩ : Spec), (⟨((6 : Int)), (0 : Int), ((1 : Int)), ((false)), (false)⟩ : Spec), (⟨((7 : Int)), (2 : Int), ((1 : Int)), ((false)), ((false))⟩ : Spec), (⟨((8 : Int)), (2 : Int), ((3 : Int)), ((false)), ((false))⟩ : Spec)] : List Spec) = (specsL) := by rfl
 have n0 : 8 = (specsL).length := by first | (rw [← e0]; done) | (rw [← e0]; rfl)
 have f0 : Sl true w.heap.size w50.heap.size w50 (.slice (some ⟨w44.heap.size, 0, none⟩) 8 8) ([(⟨((1 : Int)), (0 : Int), ((1 : Int)), ((true)), (false)⟩ : Spec), (⟨((2 : Int)), (0 : Int), ((1 : Int)), ((false)), (false)⟩ : Spec), (⟨((3 : Int)), (0 : Int), ((1 : Int)), ((false)), (false)⟩ : Spec), (⟨((4 : Int)), (0 : Int), ((1 : Int)), ((false)), (false)⟩ : Spec), (⟨((5 : Int)), (0 : Int), ((1 : Int)), ((false)), (false)⟩ : Spec), (⟨((6 : Int)), (0 : Int), ((1 : Int)), ((false)), (false)⟩ : Spec), (⟨((7 : Int)), (2 : Int), ((1 : Int)), ((false)), ((false))⟩ : Spec), (⟨((8 : Int)), (2 : Int), ((3 : Int)), ((false)), ((false))⟩ : Spec)] : List Spec) := ((ac51).own (L := w.heap.size) (H := w50.heap.size) (by omega) (by omega) (by omega) (by omega))
 refine WX.ret1 Try.results84 rfl ?_
 exact ⟨(some ⟨w44.heap.size, 0, none⟩), 8, by rw [n0], (sl_n f0 e0 n0), Kp.of_below b50⟩
 have p1 : ¬ ((1 : Int) = (1 : Int)) := of_decide_eq_false q1
 exact False.elim (by omega)


end Go.Proofs.Ytfmlgeeogbhppaa
