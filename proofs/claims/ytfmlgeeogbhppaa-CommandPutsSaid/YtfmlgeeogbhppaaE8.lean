/- Contracts of functions, walked operation by operation. -/
import Derived.Test.YtfmlgeeogbhppaaE7
namespace Go.Proofs.Ytfmlgeeogbhppaa
open Go.RowKit

theorem al_t {f : Field} (h : (((!decide (tagE f.num f.wire = 0)) || (decide (f.wire = 0) && decide ((0 : Int) < ((f.b.length : Nat) : Int)))) || (decide (f.wire = 2) && (!decide ((f.n.n : Int) = 0)))) = false) : aloneF f = true := by
  rw [alone_eq] at h; simpa using h
theorem al_f {f : Field} (h : (((!decide (tagE f.num f.wire = 0)) || (decide (f.wire = 0) && decide ((0 : Int) < ((f.b.length : Nat) : Int)))) || (decide (f.wire = 2) && (!decide ((f.n.n : Int) = 0)))) = true) : aloneF f = false := by
  rw [alone_eq] at h; simpa using h
theorem may_end4j {l : List Field} {k : Nat} (hc : chkT none l = 0) (hk : l.length ≤ k) (hs : (16384 : Int) < ((sumT (l.take k) : Nat) : Int)) : 4 = mayT l := by
  rw [List.take_of_length_le hk] at hs; rw [mayT, if_pos hc, if_pos hs]
theorem may_end0j {l : List Field} {k : Nat} (hc : chkT none l = 0) (hk : l.length ≤ k) (hs : ¬ (16384 : Int) < ((sumT (l.take k) : Nat) : Int)) : 0 = mayT l := by
  rw [List.take_of_length_le hk] at hs; rw [mayT, if_pos hc, if_neg hs]



set_option maxRecDepth 100000 in
set_option maxHeartbeats 400000 in
theorem may03_s {w : World} {a_l : Option Addr} {c_l : Nat} {l : List Field} (h_l : Sl false 0 w.heap.size w (.slice a_l l.length c_l) l) :
    Ret Try.prog 64 [.slice a_l l.length c_l].toArray w fun r w' => r = .int .i64 (mayT l) ∧ Kp [] w w' := by
 have len_l : (l).length * 48 ≤ 140737488355328 := h_l.lenle
 refine Ret.enter Try.func64 rfl Try.ntmps64 rfl rfl ?_
 refine WC.sel [0] rfl ?_
 refine WC.seq ?_
 refine WC.region ?_
 refine WO.v (R.assign rfl) rfl ?_
 refine WO.nil ?_
 refine WX.sel [0, 2] rfl ?_
 refine WX.next ?_
 refine WC.seq ?_
 refine WC.seq ?_
 refine WC.region ?_
 refine WO.v (R.assign rfl) rfl ?_
 refine WO.nil ?_
 refine WX.sel [0, 2, 3] rfl ?_
 refine WX.next ?_
 refine WC.block ?_
 refine WC.loopK [0, 2] rfl (fun zz : Nat => [(3, (.int .i64 (((zz) : Nat) : Int)))]) (fun (zz : Nat) (w' : World) => (Kp [] w w') ∧ ((zz) ≤ l.length) ∧ (chkT none l = chkT (prevF l (zz)) (l.drop (zz)))) (fun zz => l.length - (zz)) (0) ?_ ?_ ?_
 exact ⟨⟨_, rfl, rfl⟩, trivial⟩
 exact ⟨Kp.refl _, Nat.zero_le _, rfl⟩
 rintro k w1 ⟨k1, hk, hchk⟩
 try dsimp only at hk hchk
 have z1 := k1.size
 have b1 := old_kp0 (Below.refl w.heap.size w) k1
 have y1 := b1.size
 refine (?_ : WC _ _ _ _ ([(3, (.int .i64 ((k : Nat) : Int)))] ++ _) w1)
 refine WC.seq ?_
 refine WC.seq ?_
 refine WC.region ?_
 refine WO.v (R.move rfl) rfl ?_
 refine WO.v (R.move rfl) rfl ?_
 refine WO.v (R.len rfl Try.underlying25) rfl ?_
 refine WO.v (R.lss rfl rfl) rfl ?_
 refine WO.nil ?_
 refine WX.sel [0, 2, 3, 12] rfl ?_
 refine WX.next ?_
 refine WC.cond rfl (fun q2 => ?_) (fun q2 => ?_)
 have p2 : ((k : Nat) : Int) < ((l.length : Nat) : Int) := of_decide_eq_true q2
 refine WC.skip ?_
 refine WX.next ?_
 refine WC.seq ?_
 refine WC.block ?_
 refine WC.seq ?_
 refine WC.region ?_
 refine WO.v (R.move rfl) rfl ?_
 refine WO.v (R.move rfl) rfl ?_
 obtain ⟨x3, hx3⟩ := get_ex (xs := l) (i := k) (by omega)
 obtain ⟨A4, cs5, hA4, loA4, hiA4, ccA4, r6⟩ := (sl_old h_l b1).at_ hx3
 obtain ⟨a10, c11, rfl, i7, i8, i9, s12⟩ := Field.el r6
 have ls12 : (x3.b).length * 1 ≤ 140737488355328 := s12.lenle
 refine WO.v (R.indexAddrN rfl rfl Try.underlying25 sz37 hA4 (by omega)) rfl ?_
 refine WO.v (R.loadN (cs := [_, _, _, _]) rfl Try.underlying37 rfl sz37 ccA4) rfl ?_
 refine WO.alloc zr37 rfl ?_
 intro w13 n13
 have z13 := n13.lt
 have b13 := old_kp0 b1 n13.kp
 have y13 := b13.size
 refine WO.storeBN rfl rfl n13.blk rfl (by simp [Value.oneCell']) sz37 ?_
 intro w14 k14 B14 z_14
 have z14 := z_14.symm
 have b14 := old_kp b13 k14 (mem1 (by omega))
 have y14 := b14.size
 refine WO.nil ?_
 refine WX.sel [0, 2, 3, 4, 12] rfl ?_
 refine WX.next ?_
 refine WC.seq ?_
 refine WC.region ?_
 refine WO.v (fa37_0 rfl) rfl ?_
 refine WO.v (R.loadB rfl B14 rfl Try.underlying3 rfl) rfl ?_
 refine WO.v (fa37_1 rfl) rfl ?_
 refine WO.v (R.loadB rfl B14 rfl Try.underlying3 rfl) rfl ?_
 refine WO.c (E.call rfl rfl Try.func85 rfl rfl) (tagR_s (num := x3.num) (wire := x3.wire) ) rfl ?_
 rintro _ w15 ⟨a16, c17, rfl, s18, k15⟩
 have ls18 : (tagB (x3.num) (x3.wire)).length * 1 ≤ 140737488355328 := s18.lenle
 have z15 := k15.size
 have b15 := old_kp0 b14 k15
 have y15 := b15.size
 have := tagB_len (x3.num) (x3.wire)
 refine WO.v (R.move rfl) rfl ?_
 refine WO.v (R.extract rfl rfl) rfl ?_
 refine WO.v (R.extract rfl rfl) rfl ?_
 refine WO.v (R.assign rfl) rfl ?_
 refine WO.v (R.assign rfl) rfl ?_
 refine WO.nil ?_
 refine WX.sel [0, 2, 3, 4, 6, 12] rfl ?_
 refine WX.next ?_
 refine WC.seq ?_
 refine WC.seq ?_
 refine WC.region ?_
 refine WO.v (R.move rfl) rfl ?_
 refine WO.v (R.neq rfl rfl) rfl ?_
 refine WO.v (R.move rfl) rfl ?_
 refine WO.cutP 10 [(39, (.bool ((!(decide (tagE (x3.num) (x3.wire) = (0 : Int)))) || ((decide (x3.wire = (0 : Int))) && (decide ((0 : Int) < ((x3.b.length : Nat) : Int)))))))] (fun w' => w15 = w') ?_ ?_
 rcases Bool.eq_false_or_eq_true (!(decide (tagE (x3.num) (x3.wire) = (0 : Int)))) with hb19 | hb19
 have phb19 : ¬ (tagE (x3.num) (x3.wire) = (0 : Int)) := of_decide_eq_false (bnot_t hb19)
 refine WO.off rfl rfl hb19 rfl ?_
 refine WO.off rfl rfl hb19 rfl ?_
 refine WO.off rfl rfl hb19 rfl ?_
 refine WO.off rfl rfl hb19 rfl ?_
 refine WO.offU rfl rfl rfl ?_
 refine WO.offU rfl rfl rfl ?_
 refine WO.offU rfl rfl rfl ?_
 refine WO.offU rfl rfl rfl ?_
 refine WO.off rfl rfl hb19 rfl ?_
 refine WO.v (R.pickT rfl hb19 rfl) rfl ?_
 refine WO.nil ?_
 exact WX.cutDoneP 10 rfl rfl ⟨⟨_, rfl, vb (bor_on hb19)⟩, trivial⟩ (rfl)
 have phb19 : tagE (x3.num) (x3.wire) = (0 : Int) := of_decide_eq_true (bnot_f hb19)
 refine WO.on rfl rfl hb19 ?_
 refine WO.v (fa37_1 rfl) rfl ?_
 refine WO.on rfl rfl hb19 ?_
 have B20 := (B14).kp0 k15
 refine WO.v (R.loadB rfl B20 rfl Try.underlying3 rfl) rfl ?_
 refine WO.on rfl rfl hb19 ?_
 refine WO.v (R.eql rfl rfl) rfl ?_
 refine WO.on rfl rfl hb19 ?_
 refine WO.v (R.move rfl) rfl ?_
 refine WO.cutP 5 [(38, (.bool ((decide (x3.wire = (0 : Int))) && (decide ((0 : Int) < ((x3.b.length : Nat) : Int))))))] (fun w' => w15 = w') ?_ ?_
 rcases Bool.eq_false_or_eq_true (decide (x3.wire = (0 : Int))) with hb21 | hb21
 have phb21 : x3.wire = (0 : Int) := of_decide_eq_true hb21
 refine WO.on rfl rfl hb21 ?_
 refine WO.v (fa37_3 rfl) rfl ?_
 refine WO.on rfl rfl hb21 ?_
 refine WO.v (R.loadB rfl B20 rfl Try.underlying27 rfl) rfl ?_
 refine WO.on rfl rfl hb21 ?_
 refine WO.v (R.len rfl Try.underlying27) rfl ?_
 refine WO.on rfl rfl hb21 ?_
 refine WO.v (R.gtr rfl rfl) rfl ?_
 refine WO.on rfl rfl hb19 ?_
 refine WO.v (R.pickT rfl hb21 rfl) rfl ?_
 refine WO.nil ?_
 exact WX.cutDoneP 5 rfl rfl ⟨⟨_, rfl, vb (band_on hb21)⟩, trivial⟩ (rfl)
 have phb21 : ¬ (x3.wire = (0 : Int)) := of_decide_eq_false hb21
 refine WO.off rfl rfl hb21 rfl ?_
 refine WO.off rfl rfl hb21 rfl ?_
 refine WO.off rfl rfl hb21 rfl ?_
 refine WO.off rfl rfl hb21 rfl ?_
 refine WO.on rfl rfl hb19 ?_
 refine WO.v (R.pickF rfl hb21 rfl) rfl ?_
 refine WO.nil ?_
 exact WX.cutDoneP 5 rfl rfl ⟨⟨_, rfl, vb (band_off hb21)⟩, trivial⟩ (rfl)
 rintro _ rfl
 refine WO.v (R.pickF rfl hb19 rfl) rfl ?_
 refine WO.nil ?_
 exact WX.cutDoneP 6 rfl rfl ⟨⟨_, rfl, vb (bor_off hb19)⟩, trivial⟩ (rfl)
 rintro _ rfl
 refine WO.v (R.move rfl) rfl ?_
 refine WO.cutP 9 [(49, (.bool (((!(decide (tagE (x3.num) (x3.wire) = (0 : Int)))) || ((decide (x3.wire = (0 : Int))) && (decide ((0 : Int) < ((x3.b.length : Nat) : Int))))) || ((decide (x3.wire = (2 : Int))) && (!(decide ((x3.n.n : Int) = (0 : Int))))))))] (fun w' => w15 = w') ?_ ?_
 rcases Bool.eq_false_or_eq_true ((!(decide (tagE (x3.num) (x3.wire) = (0 : Int)))) || ((decide (x3.wire = (0 : Int))) && (decide ((0 : Int) < ((x3.b.length : Nat) : Int))))) with hb22 | hb22
 have phb22 : (¬ (tagE (x3.num) (x3.wire) = (0 : Int))) ∨ ((x3.wire = (0 : Int)) ∧ ((0 : Int) < ((x3.b.length : Nat) : Int))) := Or.imp (fun h => of_decide_eq_false (bnot_t h)) (fun h => ⟨of_decide_eq_true (band_t h).1, of_decide_eq_true (band_t h).2⟩) (bor_t hb22)
 refine WO.off rfl rfl hb22 rfl ?_
 refine WO.off rfl rfl hb22 rfl ?_
 refine WO.off rfl rfl hb22 rfl ?_
 refine WO.off rfl rfl hb22 rfl ?_
 refine WO.offU rfl rfl rfl ?_
 refine WO.offU rfl rfl rfl ?_
 refine WO.offU rfl rfl rfl ?_
 refine WO.off rfl rfl hb22 rfl ?_
 refine WO.v (R.pickT rfl hb22 rfl) rfl ?_
 refine WO.nil ?_
 exact WX.cutDoneP 9 rfl rfl ⟨⟨_, rfl, vb (bor_on hb22)⟩, trivial⟩ (rfl)
 have phb22 : (tagE (x3.num) (x3.wire) = (0 : Int)) ∧ ((¬ (x3.wire = (0 : Int))) ∨ (¬ ((0 : Int) < ((x3.b.length : Nat) : Int)))) := ⟨of_decide_eq_true (bnot_f (bor_f hb22).1), Or.imp (fun h => of_decide_eq_false h) (fun h => of_decide_eq_false h) (band_f (bor_f hb22).2)⟩
 refine WO.on rfl rfl hb22 ?_
 refine WO.v (fa37_1 rfl) rfl ?_
 refine WO.on rfl rfl hb22 ?_
 have B23 := (B14).kp0 k15
 refine WO.v (R.loadB rfl B23 rfl Try.underlying3 rfl) rfl ?_
 refine WO.on rfl rfl hb22 ?_
 refine WO.v (R.eql rfl rfl) rfl ?_
 refine WO.on rfl rfl hb22 ?_
 refine WO.v (R.move rfl) rfl ?_
 refine WO.cutP 4 [(48, (.bool ((decide (x3.wire = (2 : Int))) && (!(decide ((x3.n.n : Int) = (0 : Int)))))))] (fun w' => w15 = w') ?_ ?_
 rcases Bool.eq_false_or_eq_true (decide (x3.wire = (2 : Int))) with hb24 | hb24
 have phb24 : x3.wire = (2 : Int) := of_decide_eq_true hb24
 refine WO.on rfl rfl hb24 ?_
 refine WO.v (fa37_2 rfl) rfl ?_
 refine WO.on rfl rfl hb24 ?_
 refine WO.v (R.loadB rfl B23 rfl Try.underlying35 rfl) rfl ?_
 refine WO.on rfl rfl hb24 ?_
 refine WO.v (R.neq rfl rfl) rfl ?_
 refine WO.on rfl rfl hb22 ?_
 refine WO.v (R.pickT rfl hb24 rfl) rfl ?_
 refine WO.nil ?_
 exact WX.cutDoneP 4 rfl rfl ⟨⟨_, rfl, vb (band_on hb24)⟩, trivial⟩ (rfl)
 have phb24 : ¬ (x3.wire = (2 : Int)) := of_decide_eq_false hb24
 refine WO.off rfl rfl hb24 rfl ?_
 refine WO.off rfl rfl hb24 rfl ?_
 refine WO.off rfl rfl hb24 rfl ?_
 refine WO.on rfl rfl hb22 ?_
 refine WO.v (R.pickF rfl hb24 rfl) rfl ?_
 refine WO.nil ?_
 exact WX.cutDoneP 4 rfl rfl ⟨⟨_, rfl, vb (band_off hb24)⟩, trivial⟩ (rfl)
 rintro _ rfl
 refine WO.v (R.pickF rfl hb22 rfl) rfl ?_
 refine WO.nil ?_
 exact WX.cutDoneP 6 rfl rfl ⟨⟨_, rfl, vb (bor_off hb22)⟩, trivial⟩ (rfl)
 rintro _ rfl
 refine WO.nil ?_
 refine WX.sel [0, 2, 3, 4, 6, 12, 49] rfl ?_
 refine WX.next ?_
 refine WC.cond rfl (fun q25 => ?_) (fun q25 => ?_)
 have p25 : ((¬ (tagE (x3.num) (x3.wire) = (0 : Int))) ∨ ((x3.wire = (0 : Int)) ∧ ((0 : Int) < ((x3.b.length : Nat) : Int)))) ∨ ((x3.wire = (2 : Int)) ∧ (¬ ((x3.n.n : Int) = (0 : Int)))) := Or.imp (fun h => Or.imp (fun h => of_decide_eq_false (bnot_t h)) (fun h => ⟨of_decide_eq_true (band_t h).1, of_decide_eq_true (band_t h).2⟩) (bor_t h)) (fun h => ⟨of_decide_eq_true (band_t h).1, of_decide_eq_false (bnot_t (band_t h).2)⟩) (bor_t q25)
 refine WC.seq ?_
 refine WC.region ?_
 refine WO.v (R.assign rfl) rfl ?_
 refine WO.nil ?_
 refine WX.sel [0, 2, 3, 4, 6, 12, 49] rfl ?_
 refine WX.next ?_
 refine WC.ret ?_
 refine WX.thenRet ?_
 refine WX.blkRet ?_
 refine WX.thenRet ?_
 refine WX.loopRet ?_
 refine WX.blkRet ?_
 refine WX.thenRet ?_
 have e0 : (1 : Int) = (mayT l) := by first | exact may_e1 hchk (by assumption) (al_f (by assumption)) | exact may_e5 hchk (by assumption) (al_t (by assumption)) (by omega) (by assumption) (by assumption) | exact may_e4 hchk (by assumption) (al_t (by assumption)) (by first | exact .inl (by omega) | exact .inr ⟨_, by assumption, by assumption⟩) (by omega) | exact may_end4j (k := j) hc0 (by omega) (by omega) | exact may_end0j (k := j) hc0 (by omega) (by omega)
 refine WX.ret1 Try.results64 rfl ?_
 exact ⟨by rw [e0], Kp.of_below b15⟩
 have p25 : ((tagE (x3.num) (x3.wire) = (0 : Int)) ∧ ((¬ (x3.wire = (0 : Int))) ∨ (¬ ((0 : Int) < ((x3.b.length : Nat) : Int))))) ∧ ((¬ (x3.wire = (2 : Int))) ∨ ((x3.n.n : Int) = (0 : Int))) := ⟨⟨of_decide_eq_true (bnot_f (bor_f (bor_f q25).1).1), Or.imp (fun h => of_decide_eq_false h) (fun h => of_decide_eq_false h) (band_f (bor_f (bor_f q25).1).2)⟩, Or.imp (fun h => of_decide_eq_false h) (fun h => of_decide_eq_true (bnot_f h)) (band_f (bor_f q25).2)⟩
 refine WC.skip ?_
 refine WX.next ?_
 refine WC.seq ?_
 refine WC.seq ?_
 refine WC.sel [0, 2, 3, 4, 6, 12, 49] rfl ?_
 rcases Bool.eq_false_or_eq_true (decide ((0 : Int) < ((k : Nat) : Int))) with hb26 | hb26
 have phb26 : (0 : Int) < ((k : Nat) : Int) := of_decide_eq_true hb26
 have i27 : I64 (((k : Nat) : Int) - (1 : Int)) := by exact ⟨by omega, by omega⟩
 obtain ⟨x28, hx28⟩ := get_ex (xs := l) (i := (k - 1)) (by omega)
 obtain ⟨A29, cs30, hA29, loA29, hiA29, ccA29, r31⟩ := (sl_old h_l b15).at_ hx28
 obtain ⟨a35, c36, rfl, i32, i33, i34, s37⟩ := Field.el r31
 have ls37 : (x28.b).length * 1 ≤ 140737488355328 := s37.lenle
 have B38 := (B14).kp0 k15
 refine WC.draw' mixed_orders [.ex [] (.int .i64 ((k : Nat) : Int)), .ex [0] (.bool (decide ((0 : Int) < ((k : Nat) : Int)))), .ex [1] (.bool true), .ex [2] (.slice a_l l.length c_l), .ex [2] (.int .i64 ((k : Nat) : Int)), .ex [2, 4] (.int .i64 (((k : Nat) : Int) - (1 : Int))), .ex [2, 3, 5] (.pointer (some (A29.add ((k - 1) * 4)))), .ex [2, 6] (.agg #[(.int .i64 x28.num), (.int .i64 x28.wire), (.int .u64 (x28.n.n : Int)), (.slice a35 x28.b.length c36)]), .ex [2] (.agg #[(.int .i64 x3.num), (.int .i64 x3.wire), (.int .u64 (x3.n.n : Int)), (.slice a10 x3.b.length c11)]), .ex [2, 7, 8] (.bool (!(risesF (x28) (x3)))), .ex [2, 9] (.bool (!(risesF (x28) (x3))))] 11 (by kernel_rfl) ⟨fun _ _ _ h _ => h, fun _ _ _ h _ => h, fun _ _ _ h _ => h, fun _ _ _ h _ => h, fun _ _ _ h _ => h, fun _ _ _ h _ => h, fun _ _ _ h _ => h, fun _ _ _ h _ => h, fun _ _ _ h _ => h, fun _ _ _ h _ => h, fun _ _ _ h _ => h, trivial⟩ ⟨?_, ?_, ?_, ?_, ?_, ?_, ?_, ?_, ?_, ?_, ?_, trivial⟩ ?_
 rintro vs w40 k40 ⟨-⟩
 replace k40 : Kp [] w15 w40 := k40
 refine WO.haves (fr' := [(3, _)]) ⟨⟨_, rfl, rfl⟩, trivial⟩ ?_
 refine WO.v (R.move rfl) rfl ?_
 refine WO.nil ?_
 exact WX.stepDone rfl rfl (Kp.refl _)
 rintro vs w41 k41 ⟨e42, -⟩
 replace k41 : Kp [] w15 w41 := k41
 refine WO.haves (fr' := [(50, _)]) ⟨⟨_, rfl, e42⟩, trivial⟩ ?_
 refine WO.v (R.gtr rfl rfl) rfl ?_
 refine WO.nil ?_
 exact WX.stepDone rfl rfl (Kp.refl _)
 rintro vs w43 k43 ⟨e44, -⟩
 replace k43 : Kp [] w15 w43 := k43
 refine WO.haves (fr' := [(51, _)]) ⟨⟨_, rfl, e44⟩, trivial⟩ ?_
 refine WO.v (R.move rfl) rfl ?_
 refine WO.nil ?_
 exact WX.stepDone rfl (vb hb26) (Kp.refl _)
 rintro vs w45 k45 ⟨e46, -⟩
 replace k45 : Kp [] w15 w45 := k45
 refine WO.haves (fr' := [(52, _), (0, _)]) ⟨⟨_, rfl, e46⟩, ⟨_, rfl, rfl⟩, trivial⟩ ?_
 refine WO.on rfl rfl rfl ?_
 refine WO.v (R.move rfl) rfl ?_
 refine WO.nil ?_
 exact WX.stepDone rfl rfl (Kp.refl _)
 rintro vs w47 k47 ⟨e48, -⟩
 replace k47 : Kp [] w15 w47 := k47
 refine WO.haves (fr' := [(52, _), (3, _)]) ⟨⟨_, rfl, e48⟩, ⟨_, rfl, rfl⟩, trivial⟩ ?_
 refine WO.on rfl rfl rfl ?_
 refine WO.v (R.move rfl) rfl ?_
 refine WO.nil ?_
 exact WX.stepDone rfl rfl (Kp.refl _)
 rintro vs w49 k49 ⟨e50, e51, -⟩
 replace k49 : Kp [] w15 w49 := k49
 refine WO.haves (fr' := [(52, _), (54, _)]) ⟨⟨_, rfl, e50⟩, ⟨_, rfl, e51⟩, trivial⟩ ?_
 refine WO.on rfl rfl rfl ?_
 have i52 : I64 (((k : Nat) : Int) - (1 : Int)) := by exact ⟨by omega, by omega⟩
 refine WO.v (R.sub rfl rfl i52) rfl ?_
 refine WO.nil ?_
 exact WX.stepDone rfl rfl (Kp.refl _)
 rintro vs w53 k53 ⟨e54, e55, e56, -⟩
 replace k53 : Kp [] w15 w53 := k53
 refine WO.haves (fr' := [(52, _), (53, _), (55, _)]) ⟨⟨_, rfl, e54⟩, ⟨_, rfl, e55⟩, ⟨_, rfl, e56⟩, trivial⟩ ?_
 refine WO.on rfl rfl rfl ?_
 refine WO.v (R.indexAddrJ rfl rfl Try.underlying25 sz37 hA29 (i := (k - 1)) (by omega) (by omega)) rfl ?_
 refine WO.nil ?_
 exact WX.stepDone rfl rfl (Kp.refl _)
 rintro vs w57 k57 ⟨e58, e59, -⟩
 replace k57 : Kp [] w15 w57 := k57
 have z57 := k57.size
 have b57 := old_kp0 b15 k57
 have y57 := b57.size
 refine WO.haves (fr' := [(52, _), (56, _)]) ⟨⟨_, rfl, e58⟩, ⟨_, rfl, e59⟩, trivial⟩ ?_
 refine WO.on rfl rfl rfl ?_
 refine WO.v (R.loadN (cs := [_, _, _, _]) rfl Try.underlying37 rfl sz37 ((ccA29).kpA k57 (by omega) (by simp))) rfl ?_
 refine WO.nil ?_
 exact WX.stepDone rfl rfl (Kp.refl _)
 rintro vs w60 k60 ⟨e61, -⟩
 replace k60 : Kp [] w15 w60 := k60
 have z60 := k60.size
 have b60 := old_kp0 b15 k60
 have y60 := b60.size
 refine WO.haves (fr' := [(52, _), (4, _)]) ⟨⟨_, rfl, e61⟩, ⟨_, rfl, rfl⟩, trivial⟩ ?_
 refine WO.on rfl rfl rfl ?_
 have B62 := ((B14).kp0 k15).kp0 k60
 refine WO.v (R.loadBN (vs := [_, _, _, _]) rfl B62 rfl Try.underlying37 rfl sz37) rfl ?_
 refine WO.nil ?_
 exact WX.stepDone rfl rfl (Kp.refl _)
 rintro vs w63 k63 ⟨e64, e65, e66, -⟩
 replace k63 : Kp [] w15 w63 := k63
 have z63 := k63.size
 have b63 := old_kp0 b15 k63
 have y63 := b63.size
 refine WO.haves (fr' := [(52, _), (57, _), (58, _)]) ⟨⟨_, rfl, e64⟩, ⟨_, rfl, e65⟩, ⟨_, rfl, e66⟩, trivial⟩ ?_
 refine WO.on rfl rfl rfl ?_
 refine WO.c (E.call rfl rfl Try.func80 rfl rfl) (falls_s (a := x28) (f := x3) (Field.mk_ (i32) (i33) (i34) ((sl_kp0 (s37) k63 (by omega)).mono (lo' := 0) (hi' := w63.heap.size) (Nat.zero_le _) (by omega))) (Field.mk_ (i7) (i8) (i9) ((sl_kp0 (sl_kp0 (sl_kp (sl_kp0 (s12) n13.kp (by omega)) k14 (by omega) (mem1 (by omega))) k15 (by omega)) k63 (by omega)).mono (lo' := 0) (hi' := w63.heap.size) (Nat.zero_le _) (by omega)))) rfl ?_
 rintro _ w67 ⟨rfl, k67⟩
 have z67 := k67.size
 have b67 := old_kp0 b63 k67
 have y67 := b67.size
 refine WO.nil ?_
 exact WX.stepDone rfl rfl ((Kp.refl _).step k67 (by simp))
 rintro vs w68 k68 ⟨e69, e70, -⟩
 replace k68 : Kp [] w15 w68 := k68
 refine WO.haves (fr' := [(52, _), (59, _)]) ⟨⟨_, rfl, e69⟩, ⟨_, rfl, e70⟩, trivial⟩ ?_
 refine WO.v (R.pickT rfl rfl rfl) rfl ?_
 refine WO.nil ?_
 exact WX.stepDone rfl rfl (Kp.refl _)
 rintro vs w71 k71 ⟨-, -, -, -, -, -, -, -, -, -, e82, -⟩
 replace k71 : Kp [] w15 w71 := k71
 have z71 := k71.size
 have b71 := old_kp0 b15 k71
 have y71 := b71.size
 refine WO.haves (fr' := [(60, _), (0, _), (2, _), (3, _), (4, _), (6, _), (12, _), (49, _)]) ⟨⟨_, rfl, e82⟩, ⟨_, rfl, rfl⟩, ⟨_, rfl, rfl⟩, ⟨_, rfl, rfl⟩, ⟨_, rfl, rfl⟩, ⟨_, rfl, rfl⟩, ⟨_, rfl, rfl⟩, ⟨_, rfl, rfl⟩, trivial⟩ ?_
 refine WO.nil ?_
 refine WX.sel [0, 2, 3, 4, 6, 12, 49, 60] rfl ?_
 refine WX.next ?_
 refine WC.cond rfl (fun q83 => ?_) (fun q83 => ?_)
 have p83 : (risesF (x28) (x3)) = false := (bnot_t q83)
 refine WC.seq ?_
 refine WC.region ?_
 refine WO.v (R.assign rfl) rfl ?_
 refine WO.nil ?_
 refine WX.sel [0, 2, 3, 4, 6, 12, 49, 60] rfl ?_
 refine WX.next ?_
 refine WC.ret ?_
 refine WX.thenRet ?_
 refine WX.blkRet ?_
 refine WX.thenRet ?_
 refine WX.loopRet ?_
 refine WX.blkRet ?_
 refine WX.thenRet ?_
 have e0 : (5 : Int) = (mayT l) := by first | exact may_e1 hchk (by assumption) (al_f (by assumption)) | exact may_e5 hchk (by assumption) (al_t (by assumption)) (by omega) (by assumption) (by assumption) | exact may_e4 hchk (by assumption) (al_t (by assumption)) (by first | exact .inl (by omega) | exact .inr ⟨_, by assumption, by assumption⟩) (by omega) | exact may_end4j (k := j) hc0 (by omega) (by omega) | exact may_end0j (k := j) hc0 (by omega) (by omega)
 refine WX.ret1 Try.results64 rfl ?_
 exact ⟨by rw [e0], Kp.of_below b71⟩
 have p83 : (risesF (x28) (x3)) = true := (bnot_f q83)
 refine WC.skip ?_
 refine WX.next ?_
 refine WC.seq ?_
 refine WC.region ?_
 refine WO.v (fa37_3 rfl) rfl ?_
 have B84 := ((B14).kp0 k15).kp0 k71
 refine WO.v (R.loadB rfl B84 rfl Try.underlying27 rfl) rfl ?_
 refine WO.v (R.len rfl Try.underlying27) rfl ?_
 refine WO.v (R.gtr rfl rfl) rfl ?_
 refine WO.nil ?_
 refine WX.sel [0, 2, 3, 4, 6, 12, 49, 60, 64] rfl ?_
 refine WX.next ?_
 refine WC.cond rfl (fun q85 => ?_) (fun q85 => ?_)
 have p85 : (16384 : Int) < ((x3.b.length : Nat) : Int) := of_decide_eq_true q85
 refine WC.seq ?_
 refine WC.region ?_
 refine WO.v (R.assign rfl) rfl ?_
 refine WO.nil ?_
 refine WX.sel [0, 2, 3, 4, 6, 12, 49, 60, 64] rfl ?_
 refine WX.next ?_
 refine WC.ret ?_
 refine WX.blkRet ?_
 refine WX.thenRet ?_
 refine WX.loopRet ?_
 refine WX.blkRet ?_
 refine WX.thenRet ?_
 have e0 : (4 : Int) = (mayT l) := by first | exact may_e1 hchk (by assumption) (al_f (by assumption)) | exact may_e5 hchk (by assumption) (al_t (by assumption)) (by omega) (by assumption) (by assumption) | exact may_e4 hchk (by assumption) (al_t (by assumption)) (by first | exact .inl (by omega) | exact .inr ⟨_, by assumption, by assumption⟩) (by omega) | exact may_end4j (k := j) hc0 (by omega) (by omega) | exact may_end0j (k := j) hc0 (by omega) (by omega)
 refine WX.ret1 Try.results64 rfl ?_
 exact ⟨by rw [e0], Kp.of_below b71⟩
 have p85 : ¬ ((16384 : Int) < ((x3.b.length : Nat) : Int)) := of_decide_eq_false q85
 refine WC.skip ?_
 refine WX.blkNormal ?_
 refine WX.next ?_
 refine WC.region ?_
 refine WO.v (R.move rfl) rfl ?_
 refine WO.v (R.inc rfl (by omega)) rfl ?_
 refine WO.v (R.assign rfl) rfl ?_
 refine WO.nil ?_
 refine WX.sel [0, 2, 3, 4, 6, 12, 49, 60, 64] rfl ?_
 exact WX.loopNextK [0, 2] (k + 1) rfl ⟨⟨_, rfl, rfl⟩, trivial⟩ ⟨(((((Kp.refl _).step k1 (by simp)).step n13.kp (by simp)).step k14 (mem1 (.inr (by omega)))).step k15 (by simp)).step k71 (by simp), by omega, chk_next hchk hx3 (al_t (by assumption)) (by first | exact .inl (by omega) | exact .inr ⟨_, by assumption, by assumption⟩) (by omega)⟩ (by show (l.length - (k + 1)) < (l.length - k); omega)
 have phb26 : ¬ ((0 : Int) < ((k : Nat) : Int)) := of_decide_eq_false hb26
 refine WC.draw' mixed_orders [.ex [] (.int .i64 ((k : Nat) : Int)), .ex [0] (.bool (decide ((0 : Int) < ((k : Nat) : Int)))), .ex [1] (.bool false), .ex [2] undef, .ex [2] undef, .ex [2] undef, .ex [2] undef, .ex [2] undef, .ex [2] undef, .ex [2] undef, .ex [2] (.bool false)] 11 (by kernel_rfl) ⟨fun _ _ _ h _ => h, fun _ _ _ h _ => h, fun _ _ _ h _ => h, fun _ _ _ h _ => h, fun _ _ _ h _ => h, fun _ _ _ h _ => h, fun _ _ _ h _ => h, fun _ _ _ h _ => h, fun _ _ _ h _ => h, fun _ _ _ h _ => h, fun _ _ _ h _ => h, trivial⟩ ⟨?_, ?_, ?_, ?_, ?_, ?_, ?_, ?_, ?_, ?_, ?_, trivial⟩ ?_
 rintro vs w86 k86 ⟨-⟩
 replace k86 : Kp [] w15 w86 := k86
 refine WO.haves (fr' := [(3, _)]) ⟨⟨_, rfl, rfl⟩, trivial⟩ ?_
 refine WO.v (R.move rfl) rfl ?_
 refine WO.nil ?_
 exact WX.stepDone rfl rfl (Kp.refl _)
 rintro vs w87 k87 ⟨e88, -⟩
 replace k87 : Kp [] w15 w87 := k87
 refine WO.haves (fr' := [(50, _)]) ⟨⟨_, rfl, e88⟩, trivial⟩ ?_
 refine WO.v (R.gtr rfl rfl) rfl ?_
 refine WO.nil ?_
 exact WX.stepDone rfl rfl (Kp.refl _)
 rintro vs w89 k89 ⟨e90, -⟩
 replace k89 : Kp [] w15 w89 := k89
 refine WO.haves (fr' := [(51, _)]) ⟨⟨_, rfl, e90⟩, trivial⟩ ?_
 refine WO.v (R.move rfl) rfl ?_
 refine WO.nil ?_
 exact WX.stepDone rfl (vb hb26) (Kp.refl _)
 rintro vs w91 k91 ⟨e92, -⟩
 replace k91 : Kp [] w15 w91 := k91
 refine WO.haves (fr' := [(52, _), (0, _)]) ⟨⟨_, rfl, e92⟩, ⟨_, rfl, rfl⟩, trivial⟩ ?_
 refine WO.off rfl rfl rfl rfl ?_
 refine WO.nil ?_
 exact WX.stepDone rfl rfl (Kp.refl _)
 rintro vs w93 k93 ⟨e94, -⟩
 replace k93 : Kp [] w15 w93 := k93
 refine WO.haves (fr' := [(52, _), (3, _)]) ⟨⟨_, rfl, e94⟩, ⟨_, rfl, rfl⟩, trivial⟩ ?_
 refine WO.off rfl rfl rfl rfl ?_
 refine WO.nil ?_
 exact WX.stepDone rfl rfl (Kp.refl _)
 rintro vs w95 k95 ⟨e96, -⟩
 replace k95 : Kp [] w15 w95 := k95
 refine WO.haves (fr' := [(52, _)]) ⟨⟨_, rfl, e96⟩, trivial⟩ ?_
 refine WO.off rfl rfl rfl rfl ?_
 refine WO.nil ?_
 exact WX.stepDone rfl rfl (Kp.refl _)
 rintro vs w97 k97 ⟨e98, -⟩
 replace k97 : Kp [] w15 w97 := k97
 refine WO.haves (fr' := [(52, _)]) ⟨⟨_, rfl, e98⟩, trivial⟩ ?_
 refine WO.off rfl rfl rfl rfl ?_
 refine WO.nil ?_
 exact WX.stepDone rfl rfl (Kp.refl _)
 rintro vs w99 k99 ⟨e100, -⟩
 replace k99 : Kp [] w15 w99 := k99
 refine WO.haves (fr' := [(52, _)]) ⟨⟨_, rfl, e100⟩, trivial⟩ ?_
 refine WO.off rfl rfl rfl rfl ?_
 refine WO.nil ?_
 exact WX.stepDone rfl rfl (Kp.refl _)
 rintro vs w101 k101 ⟨e102, -⟩
 replace k101 : Kp [] w15 w101 := k101
 refine WO.haves (fr' := [(52, _), (4, _)]) ⟨⟨_, rfl, e102⟩, ⟨_, rfl, rfl⟩, trivial⟩ ?_
 refine WO.off rfl rfl rfl rfl ?_
 refine WO.nil ?_
 exact WX.stepDone rfl rfl (Kp.refl _)
 rintro vs w103 k103 ⟨e104, -⟩
 replace k103 : Kp [] w15 w103 := k103
 refine WO.haves (fr' := [(52, _)]) ⟨⟨_, rfl, e104⟩, trivial⟩ ?_
 refine WO.off rfl rfl rfl rfl ?_
 refine WO.nil ?_
 exact WX.stepDone rfl rfl (Kp.refl _)
 rintro vs w105 k105 ⟨e106, -⟩
 replace k105 : Kp [] w15 w105 := k105
 refine WO.haves (fr' := [(52, _)]) ⟨⟨_, rfl, e106⟩, trivial⟩ ?_
 refine WO.v (R.pickF rfl rfl rfl) rfl ?_
 refine WO.nil ?_
 exact WX.stepDone rfl rfl (Kp.refl _)
 rintro vs w107 k107 ⟨-, -, -, -, -, -, -, -, -, -, e118, -⟩
 replace k107 : Kp [] w15 w107 := k107
 have z107 := k107.size
 have b107 := old_kp0 b15 k107
 have y107 := b107.size
 refine WO.haves (fr' := [(60, _), (0, _), (2, _), (3, _), (4, _), (6, _), (12, _), (49, _)]) ⟨⟨_, rfl, e118⟩, ⟨_, rfl, rfl⟩, ⟨_, rfl, rfl⟩, ⟨_, rfl, rfl⟩, ⟨_, rfl, rfl⟩, ⟨_, rfl, rfl⟩, ⟨_, rfl, rfl⟩, ⟨_, rfl, rfl⟩, trivial⟩ ?_
 refine WO.nil ?_
 refine WX.sel [0, 2, 3, 4, 6, 12, 49, 60] rfl ?_
 refine WX.next ?_
 refine WC.condF rfl ?_
 refine WC.skip ?_
 refine WX.next ?_
 refine WC.seq ?_
 refine WC.region ?_
 refine WO.v (fa37_3 rfl) rfl ?_
 have B119 := ((B14).kp0 k15).kp0 k107
 refine WO.v (R.loadB rfl B119 rfl Try.underlying27 rfl) rfl ?_
 refine WO.v (R.len rfl Try.underlying27) rfl ?_
 refine WO.v (R.gtr rfl rfl) rfl ?_
 refine WO.nil ?_
 refine WX.sel [0, 2, 3, 4, 6, 12, 49, 60, 64] rfl ?_
 refine WX.next ?_
 refine WC.cond rfl (fun q120 => ?_) (fun q120 => ?_)
 have p120 : (16384 : Int) < ((x3.b.length : Nat) : Int) := of_decide_eq_true q120
 refine WC.seq ?_
 refine WC.region ?_
 refine WO.v (R.assign rfl) rfl ?_
 refine WO.nil ?_
 refine WX.sel [0, 2, 3, 4, 6, 12, 49, 60, 64] rfl ?_
 refine WX.next ?_
 refine WC.ret ?_
 refine WX.blkRet ?_
 refine WX.thenRet ?_
 refine WX.loopRet ?_
 refine WX.blkRet ?_
 refine WX.thenRet ?_
 have e0 : (4 : Int) = (mayT l) := by first | exact may_e1 hchk (by assumption) (al_f (by assumption)) | exact may_e5 hchk (by assumption) (al_t (by assumption)) (by omega) (by assumption) (by assumption) | exact may_e4 hchk (by assumption) (al_t (by assumption)) (by first | exact .inl (by omega) | exact .inr ⟨_, by assumption, by assumption⟩) (by omega) | exact may_end4j (k := j) hc0 (by omega) (by omega) | exact may_end0j (k := j) hc0 (by omega) (by omega)
 refine WX.ret1 Try.results64 rfl ?_
 exact ⟨by rw [e0], Kp.of_below b107⟩
 have p120 : ¬ ((16384 : Int) < ((x3.b.length : Nat) : Int)) := of_decide_eq_false q120
 refine WC.skip ?_
 refine WX.blkNormal ?_
 refine WX.next ?_
 refine WC.region ?_
 refine WO.v (R.move rfl) rfl ?_
 refine WO.v (R.inc rfl (by omega)) rfl ?_
 refine WO.v (R.assign rfl) rfl ?_
 refine WO.nil ?_
 refine WX.sel [0, 2, 3, 4, 6, 12, 49, 60, 64] rfl ?_
 exact WX.loopNextK [0, 2] (k + 1) rfl ⟨⟨_, rfl, rfl⟩, trivial⟩ ⟨(((((Kp.refl _).step k1 (by simp)).step n13.kp (by simp)).step k14 (mem1 (.inr (by omega)))).step k15 (by simp)).step k107 (by simp), by omega, chk_next hchk hx3 (al_t (by assumption)) (by first | exact .inl (by omega) | exact .inr ⟨_, by assumption, by assumption⟩) (by omega)⟩ (by show (l.length - (k + 1)) < (l.length - k); omega)
 have p2 : ¬ (((k : Nat) : Int) < ((l.length : Nat) : Int)) := of_decide_eq_false q2
 refine WC.exit ?_
 refine WX.thenExit ?_
 refine WX.loopExit ?_
 refine WX.blkHit ?_
 refine WX.next ?_
 refine WC.seq ?_
 refine WC.region ?_
 refine WO.v (R.assign rfl) rfl ?_
 refine WO.nil ?_
 refine WX.sel [0, 2, 3, 7, 12] rfl ?_
 refine WX.next ?_
 refine WC.seq ?_
 refine WC.seq ?_
 refine WC.region ?_
 refine WO.v (R.assign rfl) rfl ?_
 refine WO.nil ?_
 refine WX.sel [0, 2, 3, 7, 8, 12] rfl ?_
 refine WX.next ?_
 refine WC.block ?_
 refine WC.loopK [0, 2, 3, 12] rfl (fun zz : Nat => [(8, (.int .i64 (((zz) : Nat) : Int))), (7, (.int .i64 (((sumT (l.take (zz))) : Nat) : Int)))]) (fun (zz : Nat) (w' : World) => (Kp [] w1 w') ∧ ((zz) ≤ l.length) ∧ (sumT (l.take (zz)) ≤ (zz) * 16404)) (fun zz => l.length - (zz)) (0) ?_ ?_ ?_
 exact ⟨⟨_, rfl, rfl⟩, ⟨_, rfl, vi (by rfl)⟩, trivial⟩
 exact ⟨Kp.refl _, Nat.zero_le _, by simp [sumT]⟩
 rintro j w121 ⟨k121, hj, hsum⟩
 try dsimp only at hj hsum
 have z121 := k121.size
 have b121 := old_kp0 b1 k121
 have y121 := b121.size
 refine (?_ : WC _ _ _ _ ([(8, (.int .i64 ((j : Nat) : Int))), (7, (.int .i64 (((sumT (l.take j)) : Nat) : Int)))] ++ _) w121)
 have hc0 : chkT none l = 0 := chk_end hchk (by omega)
 refine WC.seq ?_
 refine WC.seq ?_
 refine WC.region ?_
 refine WO.v (R.move rfl) rfl ?_
 refine WO.v (R.move rfl) rfl ?_
 refine WO.v (R.len rfl Try.underlying25) rfl ?_
 refine WO.v (R.lss rfl rfl) rfl ?_
 refine WO.nil ?_
 refine WX.sel [0, 2, 3, 7, 8, 12, 68] rfl ?_
 refine WX.next ?_
 refine WC.cond rfl (fun q122 => ?_) (fun q122 => ?_)
 have p122 : ((j : Nat) : Int) < ((l.length : Nat) : Int) := of_decide_eq_true q122
 refine WC.skip ?_
 refine WX.next ?_
 refine WC.seq ?_
 refine WC.block ?_
 refine WC.region ?_
 refine WO.v (R.move rfl) rfl ?_
 refine WO.v (R.move rfl) rfl ?_
 refine WO.v (R.move rfl) rfl ?_
 obtain ⟨x123, hx123⟩ := get_ex (xs := l) (i := j) (by omega)
 have := chk_len (show chkT none l = 0 by assumption) _ (List.mem_of_getElem? hx123)
 obtain ⟨A124, cs125, hA124, loA124, hiA124, ccA124, r126⟩ := (sl_old h_l b121).at_ hx123
 obtain ⟨a130, c131, rfl, i127, i128, i129, s132⟩ := Field.el r126
 have ls132 : (x123.b).length * 1 ≤ 140737488355328 := s132.lenle
 refine WO.v (R.indexAddrN rfl rfl Try.underlying25 sz37 hA124 (by omega)) rfl ?_
 refine WO.v (R.loadN (cs := [_, _, _, _]) rfl Try.underlying37 rfl sz37 ccA124) rfl ?_
 refine WO.c (E.call rfl rfl Try.func65 rfl rfl) (onef_s (f := x123) (Field.mk_ (i127) (i128) (i129) ((s132).mono (lo' := 0) (hi' := w121.heap.size) (Nat.zero_le _) (by omega))) (by omega)) rfl ?_
 rintro _ w133 ⟨a134, c135, rfl, s136, k133⟩
 have ls136 : (fieldB (x123)).length * 1 ≤ 140737488355328 := s136.lenle
 have z133 := k133.size
 have b133 := old_kp0 b121 k133
 have y133 := b133.size
 have := fieldB_len (f := (x123)) (by omega) (by omega)
 refine WO.v (R.len rfl Try.underlying27) rfl ?_
 refine WO.v (R.addN (a := (sumT (l.take j))) (b := (fieldB (x123)).length) rfl rfl (by omega)) rfl ?_
 refine WO.v (R.assign rfl) rfl ?_
 refine WO.nil ?_
 refine WX.sel [0, 2, 3, 7, 8, 12, 68] rfl ?_
 refine WX.blkNormal ?_
 refine WX.next ?_
 refine WC.region ?_
 refine WO.v (R.move rfl) rfl ?_
 refine WO.v (R.inc rfl (by omega)) rfl ?_
 refine WO.v (R.assign rfl) rfl ?_
 refine WO.nil ?_
 refine WX.sel [0, 2, 3, 7, 8, 12, 68] rfl ?_
 exact WX.loopNextK [0, 2, 3, 12] (j + 1) rfl ⟨⟨_, rfl, rfl⟩, ⟨_, rfl, vi (by rw [sum_next hx123])⟩, trivial⟩ ⟨((Kp.refl _).step k121 (by simp)).step k133 (by simp), by omega, (by have h1 := sum_next hx123; have h2 := fieldB_len (f := x123) (by omega) (by assumption); show sumT (l.take (j + 1)) ≤ (j + 1) * 16404; omega)⟩ (by show (l.length - (j + 1)) < (l.length - j); omega)
 have p122 : ¬ (((j : Nat) : Int) < ((l.length : Nat) : Int)) := of_decide_eq_false q122
 refine WC.exit ?_
 refine WX.thenExit ?_
 refine WX.loopExit ?_
 refine WX.blkHit ?_
 refine WX.next ?_
 refine WC.seq ?_
 refine WC.seq ?_
 refine WC.region ?_
 refine WO.v (R.move rfl) rfl ?_
 refine WO.v (R.gtr rfl rfl) rfl ?_
 refine WO.nil ?_
 refine WX.sel [0, 2, 3, 7, 8, 12, 68, 80] rfl ?_
 refine WX.next ?_
 refine WC.cond rfl (fun q137 => ?_) (fun q137 => ?_)
 have p137 : (16384 : Int) < (((sumT (l.take j)) : Nat) : Int) := of_decide_eq_true q137
 refine WC.seq ?_
 refine WC.region ?_
 refine WO.v (R.assign rfl) rfl ?_
 refine WO.nil ?_
 refine WX.sel [0, 2, 3, 7, 8, 12, 68, 80] rfl ?_
 refine WX.next ?_
 refine WC.ret ?_
 refine WX.thenRet ?_
 have e0 : (4 : Int) = (mayT l) := by first | exact may_e1 hchk (by assumption) (al_f (by assumption)) | exact may_e5 hchk (by assumption) (al_t (by assumption)) (by omega) (by assumption) (by assumption) | exact may_e4 hchk (by assumption) (al_t (by assumption)) (by first | exact .inl (by omega) | exact .inr ⟨_, by assumption, by assumption⟩) (by omega) | exact may_end4j (k := j) hc0 (by omega) (by omega) | exact may_end0j (k := j) hc0 (by omega) (by omega)
 refine WX.ret1 Try.results64 rfl ?_
 exact ⟨by rw [e0], Kp.of_below b121⟩
 have p137 : ¬ ((16384 : Int) < (((sumT (l.take j)) : Nat) : Int)) := of_decide_eq_false q137
 refine WC.skip ?_
 refine WX.next ?_
 refine WC.seq ?_
 refine WC.region ?_
 refine WO.v (R.assign rfl) rfl ?_
 refine WO.nil ?_
 refine WX.sel [0, 2, 3, 7, 8, 12, 68, 80] rfl ?_
 refine WX.next ?_
 refine WC.ret ?_
 have e0 : (0 : Int) = (mayT l) := by first | exact may_e1 hchk (by assumption) (al_f (by assumption)) | exact may_e5 hchk (by assumption) (al_t (by assumption)) (by omega) (by assumption) (by assumption) | exact may_e4 hchk (by assumption) (al_t (by assumption)) (by first | exact .inl (by omega) | exact .inr ⟨_, by assumption, by assumption⟩) (by omega) | exact may_end4j (k := j) hc0 (by omega) (by omega) | exact may_end0j (k := j) hc0 (by omega) (by omega)
 refine WX.ret1 Try.results64 rfl ?_
 exact ⟨by rw [e0], Kp.of_below b121⟩


end Go.Proofs.Ytfmlgeeogbhppaa
