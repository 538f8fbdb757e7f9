/- Contracts of functions, walked operation by operation. -/
import Derived.Test.YtfmlgeeogbhppaaE5
import Derived.Test.YtfmlgeeogbhppaaDrawU
namespace Go.Proofs.Ytfmlgeeogbhppaa
open Go.RowKit

theorem alone_eq {f : Field} : (((!decide (tagE f.num f.wire = 0)) || (decide (f.wire = 0) && decide ((0 : Int) < ((f.b.length : Nat) : Int)))) || (decide (f.wire = 2) && (!decide ((f.n.n : Int) = 0)))) = !aloneF f := by
  by_cases h : (f.num < 1 ∨ 1000 < f.num)
  · rw [← alone_no h, ← tagE_no (Or.inl h)]; simp
  · by_cases h0 : f.wire = 0
    · have e : decide ((0 : Int) < ((f.b.length : Nat) : Int)) = !decide (((f.b.length : Nat) : Int) = 0) := by
        rw [Bool.eq_iff_iff]; simp only [Bool.not_eq_true', decide_eq_true_eq, decide_eq_false_iff_not]; omega
      rw [alone_in h, if_pos h0, ← tagE_yes (by omega), e, decide_eq_true h0, decide_eq_false (show ¬ f.wire = 2 by omega)]; simp
    · by_cases h2 : f.wire = 2
      · rw [alone_in h, if_neg h0, if_pos h2, ← tagE_yes (by omega), Bool.eq_iff_iff]; simp [h2]
      · rw [alone_in h, if_neg h0, if_neg h2, ← tagE_no (by omega)]; simp
theorem falls_eq {a f : Field} : (decide (f.num < a.num) || (decide (f.num = a.num) && ((!decide (a.wire = 2)) || (!decide (f.wire = 2))))) = !risesF a f := by
  unfold risesF
  by_cases h : f.num = a.num
  · rw [if_pos h, decide_eq_false (show ¬ f.num < a.num by omega), decide_eq_true h]
    cases decide (a.wire = 2) <;> cases decide (f.wire = 2) <;> rfl
  · rw [if_neg h, decide_eq_false h, Bool.eq_iff_iff]; simp; omega



set_option maxRecDepth 100000 in
set_option maxHeartbeats 400000 in
theorem tagR_s {w : World} (num : Int) (wire : Int)  :
    Ret Try.prog 85 [.int .i64 num, .int .i64 wire].toArray w fun r w' => ∃ (ra0 : Option Addr) (rc0 : Nat), r = .tuple #[.slice ra0 (tagB num wire).length rc0, .int .i64 (tagE num wire)] ∧ Ac w.heap.size true w.heap.size w'.heap.size w'.heap.size w' (.slice ra0 (tagB num wire).length rc0) (tagB num wire) ∧ Kp [] w w' := by
 refine Ret.enter Try.func85 rfl Try.ntmps85 rfl rfl ?_
 refine WC.sel [0, 1] rfl ?_
 refine WC.seq ?_
 refine WC.region ?_
 refine WO.v (R.assign rfl) rfl ?_
 refine WO.v (R.assign rfl) rfl ?_
 refine WO.nil ?_
 refine WX.sel [0, 1, 4, 5] rfl ?_
 refine WX.next ?_
 refine WC.seq ?_
 refine WC.seq ?_
 refine WC.region ?_
 refine WO.v (R.move rfl) rfl ?_
 refine WO.v (R.lss rfl rfl) rfl ?_
 refine WO.v (R.move rfl) rfl ?_
 refine WO.cutP 3 [(11, (.bool ((decide (num < (1 : Int))) || (decide ((1000 : Int) < num)))))] (fun w' => w = w') ?_ ?_
 rcases Bool.eq_false_or_eq_true (decide (num < (1 : Int))) with hb1 | hb1
 have phb1 : num < (1 : Int) := of_decide_eq_true hb1
 refine WO.off rfl rfl hb1 rfl ?_
 refine WO.off rfl rfl hb1 rfl ?_
 refine WO.v (R.pickT rfl hb1 rfl) rfl ?_
 refine WO.nil ?_
 exact WX.cutDoneP 3 rfl rfl ⟨⟨_, rfl, vb (bor_on hb1)⟩, trivial⟩ (rfl)
 have phb1 : ¬ (num < (1 : Int)) := of_decide_eq_false hb1
 refine WO.on rfl rfl hb1 ?_
 refine WO.v (R.move rfl) rfl ?_
 refine WO.on rfl rfl hb1 ?_
 refine WO.v (R.gtr rfl rfl) rfl ?_
 refine WO.v (R.pickF rfl hb1 rfl) rfl ?_
 refine WO.nil ?_
 exact WX.cutDoneP 3 rfl rfl ⟨⟨_, rfl, vb (bor_off hb1)⟩, trivial⟩ (rfl)
 rintro _ rfl
 refine WO.v (R.move rfl) rfl ?_
 refine WO.cutP 7 [(19, (.bool (((decide (num < (1 : Int))) || (decide ((1000 : Int) < num))) || ((!(decide (wire = (0 : Int)))) && (!(decide (wire = (2 : Int))))))))] (fun w' => w = w') ?_ ?_
 rcases Bool.eq_false_or_eq_true ((decide (num < (1 : Int))) || (decide ((1000 : Int) < num))) with hb2 | hb2
 have phb2 : (num < (1 : Int)) ∨ ((1000 : Int) < num) := Or.imp (fun h => of_decide_eq_true h) (fun h => of_decide_eq_true h) (bor_t hb2)
 refine WO.off rfl rfl hb2 rfl ?_
 refine WO.off rfl rfl hb2 rfl ?_
 refine WO.off rfl rfl hb2 rfl ?_
 refine WO.offU rfl rfl rfl ?_
 refine WO.offU rfl rfl rfl ?_
 refine WO.off rfl rfl hb2 rfl ?_
 refine WO.v (R.pickT rfl hb2 rfl) rfl ?_
 refine WO.nil ?_
 exact WX.cutDoneP 7 rfl rfl ⟨⟨_, rfl, vb (bor_on hb2)⟩, trivial⟩ (rfl)
 have phb2 : (¬ (num < (1 : Int))) ∧ (¬ ((1000 : Int) < num)) := ⟨of_decide_eq_false (bor_f hb2).1, of_decide_eq_false (bor_f hb2).2⟩
 refine WO.on rfl rfl hb2 ?_
 refine WO.v (R.move rfl) rfl ?_
 refine WO.on rfl rfl hb2 ?_
 refine WO.v (R.neq rfl rfl) rfl ?_
 refine WO.on rfl rfl hb2 ?_
 refine WO.v (R.move rfl) rfl ?_
 refine WO.cutP 3 [(18, (.bool ((!(decide (wire = (0 : Int)))) && (!(decide (wire = (2 : Int)))))))] (fun w' => w = w') ?_ ?_
 rcases Bool.eq_false_or_eq_true (!(decide (wire = (0 : Int)))) with hb3 | hb3
 have phb3 : ¬ (wire = (0 : Int)) := of_decide_eq_false (bnot_t hb3)
 refine WO.on rfl rfl hb3 ?_
 refine WO.v (R.move rfl) rfl ?_
 refine WO.on rfl rfl hb3 ?_
 refine WO.v (R.neq rfl rfl) rfl ?_
 refine WO.on rfl rfl hb2 ?_
 refine WO.v (R.pickT rfl hb3 rfl) rfl ?_
 refine WO.nil ?_
 exact WX.cutDoneP 3 rfl rfl ⟨⟨_, rfl, vb (band_on hb3)⟩, trivial⟩ (rfl)
 have phb3 : wire = (0 : Int) := of_decide_eq_true (bnot_f hb3)
 refine WO.off rfl rfl hb3 rfl ?_
 refine WO.off rfl rfl hb3 rfl ?_
 refine WO.on rfl rfl hb2 ?_
 refine WO.v (R.pickF rfl hb3 rfl) rfl ?_
 refine WO.nil ?_
 exact WX.cutDoneP 3 rfl rfl ⟨⟨_, rfl, vb (band_off hb3)⟩, trivial⟩ (rfl)
 rintro _ rfl
 refine WO.v (R.pickF rfl hb2 rfl) rfl ?_
 refine WO.nil ?_
 exact WX.cutDoneP 5 rfl rfl ⟨⟨_, rfl, vb (bor_off hb2)⟩, trivial⟩ (rfl)
 rintro _ rfl
 refine WO.nil ?_
 refine WX.sel [0, 1, 4, 5, 19] rfl ?_
 refine WX.next ?_
 refine WC.cond rfl (fun q4 => ?_) (fun q4 => ?_)
 have p4 : ((num < (1 : Int)) ∨ ((1000 : Int) < num)) ∨ ((¬ (wire = (0 : Int))) ∧ (¬ (wire = (2 : Int)))) := Or.imp (fun h => Or.imp (fun h => of_decide_eq_true h) (fun h => of_decide_eq_true h) (bor_t h)) (fun h => ⟨of_decide_eq_false (bnot_t (band_t h).1), of_decide_eq_false (bnot_t (band_t h).2)⟩) (bor_t q4)
 refine WC.seq ?_
 refine WC.region ?_
 refine WO.v (R.assign rfl) rfl ?_
 refine WO.v (R.assign rfl) rfl ?_
 refine WO.nil ?_
 refine WX.sel [0, 1, 4, 5, 19] rfl ?_
 refine WX.next ?_
 refine WC.ret ?_
 refine WX.thenRet ?_
 have e0 : ([] : List UInt8) = (tagB num wire) := by first | exact tagB_no (by omega) | exact tagB_yes (by omega)
 have n0 : 0 = (tagB num wire).length := by rw [← e0]; simp only [List.length_nil]
 have f0 : Ac (α := UInt8) w.heap.size true w.heap.size w.heap.size w.heap.size w (.slice none 0 0) ([] : List UInt8) := Ac.empty _ _ _ _ _ _ _
 have e1 : (1 : Int) = (tagE num wire) := by first | exact tagE_no (by omega) | exact tagE_yes (by omega)
 refine WX.ret2 Try.results85 rfl rfl ?_
 exact ⟨none, 0, by rw [n0, e1], (acl_n f0 e0 n0), Kp.refl _⟩
 have p4 : ((¬ (num < (1 : Int))) ∧ (¬ ((1000 : Int) < num))) ∧ ((wire = (0 : Int)) ∨ (wire = (2 : Int))) := ⟨⟨of_decide_eq_false (bor_f (bor_f q4).1).1, of_decide_eq_false (bor_f (bor_f q4).1).2⟩, Or.imp (fun h => of_decide_eq_true (bnot_f h)) (fun h => of_decide_eq_true (bnot_f h)) (band_f (bor_f q4).2)⟩
 refine WC.skip ?_
 refine WX.next ?_
 refine WC.seq ?_
 refine WC.region ?_
 refine WO.v (R.move rfl) rfl ?_
 have i5 : I64 ((8 : Int) * num) := by exact ⟨by omega, by omega⟩
 refine WO.v (R.mul rfl rfl i5) rfl ?_
 refine WO.v (R.move rfl) rfl ?_
 have i6 : I64 (((8 : Int) * num) + wire) := by exact ⟨by omega, by omega⟩
 refine WO.v (R.add rfl rfl i6) rfl ?_
 have hN7 : ((((8 : Int) * num) + wire)).toNat < 18446744073709551616 := by have := i6; unfold I64 at this; omega
 refine WO.v (R.toU64J (a := ((((8 : Int) * num) + wire)).toNat) rfl Try.underlying3 Try.underlying35 (by omega) hN7) rfl ?_
 refine WO.c (E.call rfl rfl Try.func48 rfl rfl) (put1_s (n := ((((8 : Int) * num) + wire)).toNat) (hN7)) rfl ?_
 rintro _ w8 ⟨a9, c10, rfl, s11, k8⟩
 have ls11 : (putF (((((8 : Int) * num) + wire)).toNat)).length * 1 ≤ 140737488355328 := s11.lenle
 have z8 := k8.size
 have b8 := old_kp0 (Below.refl w.heap.size w) k8
 have y8 := b8.size
 have := putF_len10 (n := (((((8 : Int) * num) + wire)).toNat)) (by omega)
 refine WO.v (R.assign rfl) rfl ?_
 refine WO.v (R.assign rfl) rfl ?_
 refine WO.nil ?_
 refine WX.sel [0, 1, 4, 5, 19] rfl ?_
 refine WX.next ?_
 refine WC.ret ?_
 have e0 : (putF (((((8 : Int) * num) + wire)).toNat)) = (tagB num wire) := by first | exact tagB_no (by omega) | exact tagB_yes (by omega)
 have n0 : (putF (((((8 : Int) * num) + wire)).toNat)).length = (tagB num wire).length := by rw [e0]
 have f0 : Ac (α := UInt8) w.heap.size true w.heap.size w8.heap.size w8.heap.size w8 (.slice a9 (putF (((((8 : Int) * num) + wire)).toNat)).length c10) (putF (((((8 : Int) * num) + wire)).toNat)) := ((s11).mono (by omega) (by omega) (by omega) (by omega))
 have e1 : (0 : Int) = (tagE num wire) := by first | exact tagE_no (by omega) | exact tagE_yes (by omega)
 refine WX.ret2 Try.results85 rfl rfl ?_
 exact ⟨a9, c10, by rw [n0, e1], (acl_n f0 e0 n0), Kp.of_below b8⟩

set_option maxRecDepth 100000 in
set_option maxHeartbeats 400000 in
theorem falls_s {w : World} {cs_a : List Value} {a : Field} {cs_f : List Value} {f : Field} (h_a : Rp.rp false 0 w.heap.size w cs_a a) (h_f : Rp.rp false 0 w.heap.size w cs_f f) :
    Ret Try.prog 80 [.agg cs_a.toArray, .agg cs_f.toArray].toArray w fun r w' => r = .bool (!(risesF a f)) ∧ Kp [] w w' := by
 obtain ⟨a4, c5, rfl, i1, i2, i3, s6⟩ := Field.el h_a
 have ls6 : (a.b).length * 1 ≤ 140737488355328 := s6.lenle
 obtain ⟨a10, c11, rfl, i7, i8, i9, s12⟩ := Field.el h_f
 have ls12 : (f.b).length * 1 ≤ 140737488355328 := s12.lenle
 refine Ret.enter Try.func80 rfl Try.ntmps80 rfl rfl ?_
 refine WC.sel [0, 1] rfl ?_
 refine WC.seq ?_
 refine WC.region ?_
 refine WO.box rfl rfl rfl ?_
 intro w13 n13
 have z13 := n13.lt
 have b13 := old_kp0 (Below.refl w.heap.size w) n13.kp
 have y13 := b13.size
 refine WO.box rfl rfl rfl ?_
 intro w14 n14
 have z14 := n14.lt
 have b14 := old_kp0 b13 n14.kp
 have y14 := b14.size
 refine WO.v (R.assign rfl) rfl ?_
 refine WO.nil ?_
 refine WX.sel [0, 1, 2, 3, 4] rfl ?_
 refine WX.next ?_
 refine WC.seq ?_
 refine WC.region ?_
 refine WO.v (fa37_0 rfl) rfl ?_
 refine WO.v (R.loadB rfl n14.blk rfl Try.underlying3 rfl) rfl ?_
 refine WO.v (fa37_0 rfl) rfl ?_
 have B15 := (n13.blk).kp0 n14.kp
 refine WO.v (R.loadB rfl B15 rfl Try.underlying3 rfl) rfl ?_
 refine WO.v (R.lss rfl rfl) rfl ?_
 refine WO.v (R.move rfl) rfl ?_
 refine WO.cutP 16 [(26, (.bool ((decide (f.num < a.num)) || ((decide (f.num = a.num)) && ((!(decide (a.wire = (2 : Int)))) || (!(decide (f.wire = (2 : Int)))))))))] (fun w' => w14 = w') ?_ ?_
 rcases Bool.eq_false_or_eq_true (decide (f.num < a.num)) with hb16 | hb16
 have phb16 : f.num < a.num := of_decide_eq_true hb16
 refine WO.off rfl rfl hb16 rfl ?_
 refine WO.off rfl rfl hb16 rfl ?_
 refine WO.off rfl rfl hb16 rfl ?_
 refine WO.off rfl rfl hb16 rfl ?_
 refine WO.off rfl rfl hb16 rfl ?_
 refine WO.off rfl rfl hb16 rfl ?_
 refine WO.offU rfl rfl rfl ?_
 refine WO.offU rfl rfl rfl ?_
 refine WO.offU rfl rfl rfl ?_
 refine WO.offU rfl rfl rfl ?_
 refine WO.offU rfl rfl rfl ?_
 refine WO.offU rfl rfl rfl ?_
 refine WO.offU rfl rfl rfl ?_
 refine WO.offU rfl rfl rfl ?_
 refine WO.off rfl rfl hb16 rfl ?_
 refine WO.v (R.pickT rfl hb16 rfl) rfl ?_
 refine WO.nil ?_
 exact WX.cutDoneP 16 rfl rfl ⟨⟨_, rfl, vb (bor_on hb16)⟩, trivial⟩ (rfl)
 have phb16 : ¬ (f.num < a.num) := of_decide_eq_false hb16
 refine WO.on rfl rfl hb16 ?_
 refine WO.v (fa37_0 rfl) rfl ?_
 refine WO.on rfl rfl hb16 ?_
 refine WO.v (R.loadB rfl n14.blk rfl Try.underlying3 rfl) rfl ?_
 refine WO.on rfl rfl hb16 ?_
 refine WO.v (fa37_0 rfl) rfl ?_
 refine WO.on rfl rfl hb16 ?_
 refine WO.v (R.loadB rfl B15 rfl Try.underlying3 rfl) rfl ?_
 refine WO.on rfl rfl hb16 ?_
 refine WO.v (R.eql rfl rfl) rfl ?_
 refine WO.on rfl rfl hb16 ?_
 refine WO.v (R.move rfl) rfl ?_
 refine WO.cutP 9 [(25, (.bool ((decide (f.num = a.num)) && ((!(decide (a.wire = (2 : Int)))) || (!(decide (f.wire = (2 : Int))))))))] (fun w' => w14 = w') ?_ ?_
 rcases Bool.eq_false_or_eq_true (decide (f.num = a.num)) with hb17 | hb17
 have phb17 : f.num = a.num := of_decide_eq_true hb17
 refine WO.on rfl rfl hb17 ?_
 refine WO.v (fa37_1 rfl) rfl ?_
 refine WO.on rfl rfl hb17 ?_
 refine WO.v (R.loadB rfl B15 rfl Try.underlying3 rfl) rfl ?_
 refine WO.on rfl rfl hb17 ?_
 refine WO.v (R.neq rfl rfl) rfl ?_
 refine WO.on rfl rfl hb17 ?_
 refine WO.v (R.move rfl) rfl ?_
 refine WO.cutP 4 [(24, (.bool ((!(decide (a.wire = (2 : Int)))) || (!(decide (f.wire = (2 : Int)))))))] (fun w' => w14 = w') ?_ ?_
 rcases Bool.eq_false_or_eq_true (!(decide (a.wire = (2 : Int)))) with hb18 | hb18
 have phb18 : ¬ (a.wire = (2 : Int)) := of_decide_eq_false (bnot_t hb18)
 refine WO.off rfl rfl hb18 rfl ?_
 refine WO.off rfl rfl hb18 rfl ?_
 refine WO.off rfl rfl hb18 rfl ?_
 refine WO.on rfl rfl hb17 ?_
 refine WO.v (R.pickT rfl hb18 rfl) rfl ?_
 refine WO.nil ?_
 exact WX.cutDoneP 4 rfl rfl ⟨⟨_, rfl, vb (bor_on hb18)⟩, trivial⟩ (rfl)
 have phb18 : a.wire = (2 : Int) := of_decide_eq_true (bnot_f hb18)
 refine WO.on rfl rfl hb18 ?_
 refine WO.v (fa37_1 rfl) rfl ?_
 refine WO.on rfl rfl hb18 ?_
 refine WO.v (R.loadB rfl n14.blk rfl Try.underlying3 rfl) rfl ?_
 refine WO.on rfl rfl hb18 ?_
 refine WO.v (R.neq rfl rfl) rfl ?_
 refine WO.on rfl rfl hb17 ?_
 refine WO.v (R.pickF rfl hb18 rfl) rfl ?_
 refine WO.nil ?_
 exact WX.cutDoneP 4 rfl rfl ⟨⟨_, rfl, vb (bor_off hb18)⟩, trivial⟩ (rfl)
 rintro _ rfl
 refine WO.on rfl rfl hb16 ?_
 refine WO.v (R.pickT rfl hb17 rfl) rfl ?_
 refine WO.nil ?_
 exact WX.cutDoneP 6 rfl rfl ⟨⟨_, rfl, vb (band_on hb17)⟩, trivial⟩ (rfl)
 have phb17 : ¬ (f.num = a.num) := of_decide_eq_false hb17
 refine WO.off rfl rfl hb17 rfl ?_
 refine WO.off rfl rfl hb17 rfl ?_
 refine WO.off rfl rfl hb17 rfl ?_
 refine WO.off rfl rfl hb17 rfl ?_
 refine WO.offU rfl rfl rfl ?_
 refine WO.offU rfl rfl rfl ?_
 refine WO.offU rfl rfl rfl ?_
 refine WO.off rfl rfl hb17 rfl ?_
 refine WO.on rfl rfl hb16 ?_
 refine WO.v (R.pickF rfl hb17 rfl) rfl ?_
 refine WO.nil ?_
 exact WX.cutDoneP 9 rfl rfl ⟨⟨_, rfl, vb (band_off hb17)⟩, trivial⟩ (rfl)
 rintro _ rfl
 refine WO.v (R.pickF rfl hb16 rfl) rfl ?_
 refine WO.nil ?_
 exact WX.cutDoneP 8 rfl rfl ⟨⟨_, rfl, vb (bor_off hb16)⟩, trivial⟩ (rfl)
 rintro _ rfl
 refine WO.v (R.assign rfl) rfl ?_
 refine WO.nil ?_
 refine WX.sel [0, 1, 2, 3, 4] rfl ?_
 refine WX.next ?_
 refine WC.ret ?_
 have e0 : ((decide (f.num < a.num)) || ((decide (f.num = a.num)) && ((!(decide (a.wire = (2 : Int)))) || (!(decide (f.wire = (2 : Int))))))) = (!(risesF a f)) := by exact falls_eq
 refine WX.ret1 Try.results80 rfl ?_
 exact ⟨by rw [e0], Kp.of_below b14⟩

set_option maxRecDepth 100000 in
set_option maxHeartbeats 400000 in
theorem onef_s {w : World} {cs_f : List Value} {f : Field} (h_f : Rp.rp false 0 w.heap.size w cs_f f) (pre0 : f.b.length ≤ 16384) :
    Ret Try.prog 65 [.agg cs_f.toArray].toArray w fun r w' => ∃ (ra0 : Option Addr) (rc0 : Nat), r = .slice ra0 (fieldB f).length rc0 ∧ Ac w.heap.size true w.heap.size w'.heap.size w'.heap.size w' (.slice ra0 (fieldB f).length rc0) (fieldB f) ∧ Kp [] w w' := by
 obtain ⟨a4, c5, rfl, i1, i2, i3, s6⟩ := Field.el h_f
 have ls6 : (f.b).length * 1 ≤ 140737488355328 := s6.lenle
 have htl := tagB_len f.num f.wire
 have hpl := putF_len10 (n := f.b.length) (by omega)
 refine Ret.enter Try.func65 rfl Try.ntmps65 rfl rfl ?_
 refine WC.sel [0] rfl ?_
 refine WC.seq ?_
 refine WC.region ?_
 refine WO.box rfl rfl rfl ?_
 intro w7 n7
 have z7 := n7.lt
 have b7 := old_kp0 (Below.refl w.heap.size w) n7.kp
 have y7 := b7.size
 refine WO.v (R.assign rfl) rfl ?_
 refine WO.nil ?_
 refine WX.sel [0, 1, 2] rfl ?_
 refine WX.next ?_
 refine WC.seq ?_
 refine WC.region ?_
 refine WO.v (fa37_0 rfl) rfl ?_
 refine WO.v (R.loadB rfl n7.blk rfl Try.underlying3 rfl) rfl ?_
 refine WO.v (fa37_1 rfl) rfl ?_
 refine WO.v (R.loadB rfl n7.blk rfl Try.underlying3 rfl) rfl ?_
 refine WO.c (E.call rfl rfl Try.func85 rfl rfl) (tagR_s (num := f.num) (wire := f.wire) ) rfl ?_
 rintro _ w8 ⟨a9, c10, rfl, s11, k8⟩
 have ls11 : (tagB (f.num) (f.wire)).length * 1 ≤ 140737488355328 := s11.lenle
 have z8 := k8.size
 have b8 := old_kp0 b7 k8
 have y8 := b8.size
 have := tagB_len (f.num) (f.wire)
 refine WO.v (R.move rfl) rfl ?_
 refine WO.v (R.extract rfl rfl) rfl ?_
 refine WO.v (R.extract rfl rfl) rfl ?_
 refine WO.v (R.assign rfl) rfl ?_
 refine WO.v (R.assign rfl) rfl ?_
 refine WO.nil ?_
 refine WX.sel [0, 1, 2, 3] rfl ?_
 refine WX.next ?_
 refine WC.seq ?_
 refine WC.seq ?_
 refine WC.region ?_
 refine WO.v (fa37_1 rfl) rfl ?_
 have B12 := (n7.blk).kp0 k8
 refine WO.v (R.loadB rfl B12 rfl Try.underlying3 rfl) rfl ?_
 refine WO.v (R.eql rfl rfl) rfl ?_
 refine WO.nil ?_
 refine WX.sel [0, 1, 2, 3, 15] rfl ?_
 refine WX.next ?_
 refine WC.cond rfl (fun q13 => ?_) (fun q13 => ?_)
 have p13 : f.wire = (0 : Int) := of_decide_eq_true q13
 refine WC.seq ?_
 refine WC.region ?_
 refine WO.v (R.move rfl) rfl ?_
 refine WO.v (fa37_2 rfl) rfl ?_
 refine WO.v (R.loadB rfl B12 rfl Try.underlying35 rfl) rfl ?_
 refine WO.c (E.call rfl rfl Try.func48 rfl rfl) (put1_s (n := f.n.n) (i3)) rfl ?_
 rintro _ w14 ⟨a15, c16, rfl, s17, k14⟩
 have ls17 : (putF (f.n.n)).length * 1 ≤ 140737488355328 := s17.lenle
 have z14 := k14.size
 have b14 := old_kp0 b8 k14
 have y14 := b14.size
 have := putF_len10 (n := (f.n.n)) (by omega)
 have ac23 : Ac (α := UInt8) (w7.heap.size) true (w7.heap.size) (w14.heap.size) (w8.heap.size) w14 (.slice a9 (tagB (f.num) (f.wire)).length c10) (tagB (f.num) (f.wire)) := (ac_kp0 (s11) k14 (by omega) (by omega)).mono (Nat.le_refl _) (Nat.le_refl _) (by omega) (Nat.le_refl _)
 have bd18 := ac23.bd
 have ty24 := ac23.ty
 have lenac23 : ((tagB (f.num) (f.wire))).length * 1 ≤ 140737488355328 := ac23.lenle
 have lxac23 : ((tagB (f.num) (f.wire)) ++ (putF (f.n.n))).length = (tagB (f.num) (f.wire)).length + (putF (f.n.n)).length := List.length_append
 refine WO.append rfl ac23 (by omega) (by omega) (by omega) rfl rfl (ys := (putF (f.n.n))) (Src.flat (((s17).pub (L := 0) (H := w14.heap.size) (by omega) (by omega) (by omega) (by omega))) (fun h => h)) (.inl rfl) Try.underlying27 inf5 rfl rfl rfl (by decide) (by omega) (by omega) rfl ?_
 intro a20 c21 w19 h22 k19 or25
 have z19 := k19.size
 have b19 := old_kp b14 k19 (fun g hg => by have := bd18 g hg; omega)
 have y19 := b19.size
 refine WO.v (R.assign rfl) rfl ?_
 refine WO.nil ?_
 refine WX.sel [0, 1, 2, 3, 15] rfl ?_
 refine WX.next ?_
 refine WC.ret ?_
 refine WX.thenRet ?_
 have e0 : ((tagB (f.num) (f.wire)) ++ (putF (f.n.n))) = (fieldB f) := by first | exact field_0 (by assumption) | exact field_2 (by assumption)
 have n0 : ((tagB (f.num) (f.wire)) ++ (putF (f.n.n))).length = (fieldB f).length := by rw [e0]
 have f0 : Ac (α := UInt8) w.heap.size true w.heap.size w19.heap.size w19.heap.size w19 (.slice a20 ((tagB (f.num) (f.wire)) ++ (putF (f.n.n))).length c21) ((tagB (f.num) (f.wire)) ++ (putF (f.n.n))) := ((h22).mono (by omega) (by omega) (by omega) (by omega))
 refine WX.ret1 Try.results65 rfl ?_
 exact ⟨a20, c21, by rw [n0], (acl_n f0 e0 n0), Kp.of_below b19⟩
 have p13 : ¬ (f.wire = (0 : Int)) := of_decide_eq_false q13
 refine WC.skip ?_
 refine WX.next ?_
 refine WC.seq ?_
 refine WC.sel [0, 1, 2, 3, 15] rfl ?_
 have ac38 := s11
 have bd39 := ac38.bd
 have ty40 := ac38.ty
 refine WC.drawU' (ob (.slice a9 (tagB (f.num) (f.wire)).length c10)) w8.heap.size mixed_orders [.ex [] (.slice a9 (tagB (f.num) (f.wire)).length c10), .ex [] (.pointer (some ⟨w.heap.size, 3, none⟩)), .ex [1] (.slice a4 f.b.length c5), .ex [2] (.int .i64 ((f.b.length : Nat) : Int)), .ex [3] (.int .u64 ((f.b.length : Nat) : Int)), ⟨[4], false, fun u w' => ∃ a c, u = .slice a (putF (f.b.length)).length c ∧ Sl (α := UInt8) true w8.heap.size w'.heap.size w' (.slice a (putF (f.b.length)).length c) (putF (f.b.length))⟩, ⟨[0, 5], true, fun u w' => ∃ (a : Option Addr) (c : Nat), u = .slice a ((tagB (f.num) (f.wire)) ++ (putF (f.b.length))).length c ∧ Ac (α := UInt8) (w7.heap.size) true (w.heap.size) w'.heap.size w'.heap.size w' (.slice a ((tagB (f.num) (f.wire)) ++ (putF (f.b.length))).length c) ((tagB (f.num) (f.wire)) ++ (putF (f.b.length))) ∧ (fun v => ∀ g ∈ ob v, g ∈ ob (.slice a9 (tagB (f.num) (f.wire)).length c10) ∨ (w8.heap.size ≤ g ∧ True)) (.slice a ((tagB (f.num) (f.wire)) ++ (putF (f.b.length))).length c)⟩, .ex [] (.pointer (some ⟨w.heap.size, 3, none⟩)), .ex [7] (.slice a4 f.b.length c5), ⟨[6, 8], true, fun u w' => ∃ (a : Option Addr) (c : Nat), u = .slice a (((tagB (f.num) (f.wire)) ++ (putF (f.b.length))) ++ f.b).length c ∧ Ac (α := UInt8) (w7.heap.size) true (w.heap.size) w'.heap.size w'.heap.size w' (.slice a (((tagB (f.num) (f.wire)) ++ (putF (f.b.length))) ++ f.b).length c) (((tagB (f.num) (f.wire)) ++ (putF (f.b.length))) ++ f.b) ∧ (fun v => ∀ g ∈ ob v, g ∈ ob (.slice a9 (tagB (f.num) (f.wire)).length c10) ∨ (w8.heap.size ≤ g ∧ True)) (.slice a (((tagB (f.num) (f.wire)) ++ (putF (f.b.length))) ++ f.b).length c)⟩] [(6, 9), (5, 6)] 10 (by kernel_rfl) (by kernel_rfl) ⟨fun _ _ _ h _ => h, fun _ _ _ h _ => h, fun _ _ _ h _ => h, fun _ _ _ h _ => h, fun _ _ _ h _ => h, fun _ _ _ h k => stabSl h (show Kp [] _ _ from k) (by simp), fun _ _ _ h k => stabAc (R := (fun v => ∀ g ∈ ob v, g ∈ ob (.slice a9 (tagB (f.num) (f.wire)).length c10) ∨ (w8.heap.size ≤ g ∧ True))) h (show Kp [] _ _ from k), fun _ _ _ h _ => h, fun _ _ _ h _ => h, fun _ _ _ h k => stabAc (R := (fun v => ∀ g ∈ ob v, g ∈ ob (.slice a9 (tagB (f.num) (f.wire)).length c10) ∨ (w8.heap.size ≤ g ∧ True))) h (show Kp [] _ _ from k), trivial⟩ ⟨?_, ?_, ?_, ?_, ?_, ?_, ?_, ?_, ?_, ?_, trivial⟩ ?_
 rintro vs w49 k49 ⟨-⟩
 replace k49 : Kp (ob (.slice a9 (tagB (f.num) (f.wire)).length c10)) w8 w49 := (show KpE (ob (.slice a9 (tagB (f.num) (f.wire)).length c10)) w8.heap.size w8 w49 from k49).kp
 have z49 := k49.size
 have b49 := old_kp b8 k49 (fun g hg => by have := bd39 g hg; omega)
 have y49 := b49.size
 refine WO.haves (fr' := [(3, _)]) ⟨⟨_, rfl, rfl⟩, trivial⟩ ?_
 refine WO.v (R.move rfl) rfl ?_
 refine WO.nil ?_
 exact WX.stepDoneU rfl rfl (Kp.refl _)
 rintro vs w50 k50 ⟨-⟩
 replace k50 : Kp (ob (.slice a9 (tagB (f.num) (f.wire)).length c10)) w8 w50 := (show KpE (ob (.slice a9 (tagB (f.num) (f.wire)).length c10)) w8.heap.size w8 w50 from k50).kp
 have z50 := k50.size
 have b50 := old_kp b8 k50 (fun g hg => by have := bd39 g hg; omega)
 have y50 := b50.size
 refine WO.haves (fr' := [(1, _)]) ⟨⟨_, rfl, rfl⟩, trivial⟩ ?_
 refine WO.v (fa37_3 rfl) rfl ?_
 refine WO.nil ?_
 exact WX.stepDoneU rfl rfl (Kp.refl _)
 rintro vs w51 k51 ⟨e52, -⟩
 replace k51 : Kp (ob (.slice a9 (tagB (f.num) (f.wire)).length c10)) w8 w51 := (show KpE (ob (.slice a9 (tagB (f.num) (f.wire)).length c10)) w8.heap.size w8 w51 from k51).kp
 have z51 := k51.size
 have b51 := old_kp b8 k51 (fun g hg => by have := bd39 g hg; omega)
 have y51 := b51.size
 refine WO.haves (fr' := [(22, _)]) ⟨⟨_, rfl, e52⟩, trivial⟩ ?_
 have B53 := (B12).kp k51 (fun hm => by have := bd39 _ hm; omega)
 refine WO.v (R.loadB rfl B53 rfl Try.underlying27 rfl) rfl ?_
 refine WO.nil ?_
 exact WX.stepDoneU rfl rfl (Kp.refl _)
 rintro vs w54 k54 ⟨e55, -⟩
 replace k54 : Kp (ob (.slice a9 (tagB (f.num) (f.wire)).length c10)) w8 w54 := (show KpE (ob (.slice a9 (tagB (f.num) (f.wire)).length c10)) w8.heap.size w8 w54 from k54).kp
 have z54 := k54.size
 have b54 := old_kp b8 k54 (fun g hg => by have := bd39 g hg; omega)
 have y54 := b54.size
 refine WO.haves (fr' := [(23, _)]) ⟨⟨_, rfl, e55⟩, trivial⟩ ?_
 refine WO.v (R.len rfl Try.underlying27) rfl ?_
 refine WO.nil ?_
 exact WX.stepDoneU rfl rfl (Kp.refl _)
 rintro vs w56 k56 ⟨e57, -⟩
 replace k56 : Kp (ob (.slice a9 (tagB (f.num) (f.wire)).length c10)) w8 w56 := (show KpE (ob (.slice a9 (tagB (f.num) (f.wire)).length c10)) w8.heap.size w8 w56 from k56).kp
 have z56 := k56.size
 have b56 := old_kp b8 k56 (fun g hg => by have := bd39 g hg; omega)
 have y56 := b56.size
 refine WO.haves (fr' := [(24, _)]) ⟨⟨_, rfl, e57⟩, trivial⟩ ?_
 refine WO.v (R.toU64 (a := f.b.length) rfl Try.underlying3 Try.underlying35 (by omega)) rfl ?_
 refine WO.nil ?_
 exact WX.stepDoneU rfl rfl (Kp.refl _)
 rintro vs w58 k58 ⟨e59, -⟩
 replace k58 : Kp (ob (.slice a9 (tagB (f.num) (f.wire)).length c10)) w8 w58 := (show KpE (ob (.slice a9 (tagB (f.num) (f.wire)).length c10)) w8.heap.size w8 w58 from k58).kp
 have z58 := k58.size
 have b58 := old_kp b8 k58 (fun g hg => by have := bd39 g hg; omega)
 have y58 := b58.size
 refine WO.haves (fr' := [(25, _)]) ⟨⟨_, rfl, e59⟩, trivial⟩ ?_
 refine WO.c (E.call rfl rfl Try.func48 rfl rfl) (put1_s (n := f.b.length) (by omega)) rfl ?_
 rintro _ w60 ⟨a61, c62, rfl, s63, k60⟩
 have ls63 : (putF (f.b.length)).length * 1 ≤ 140737488355328 := s63.lenle
 have z60 := k60.size
 have b60 := old_kp0 b58 k60
 have y60 := b60.size
 have := putF_len10 (n := (f.b.length)) (by omega)
 refine WO.nil ?_
 exact WX.stepDoneU rfl ⟨a61, c62, rfl, (s63).own (L := w8.heap.size) (H := w60.heap.size) (by omega) (by omega) (by omega) (by omega)⟩ ((Kp.refl _).step k60 (by simp))
 rintro vs w64 k64 ⟨e65, e66, -⟩
 replace k64 : Kp [] w8 w64 := k64
 have z64 := k64.size
 have b64 := old_kp0 b8 k64
 have y64 := b64.size
 obtain ⟨a67, c68, e69, s70⟩ := e66
 have ls70 : ((putF (f.b.length))).length * 1 ≤ 140737488355328 := s70.lenle
 refine WO.haves (fr' := [(21, _), (26, _)]) ⟨⟨_, rfl, e65⟩, ⟨_, rfl, e69⟩, trivial⟩ ?_
 have ac76 : Ac (α := UInt8) (w7.heap.size) true (w7.heap.size) (w64.heap.size) (w8.heap.size) w64 (.slice a9 (tagB (f.num) (f.wire)).length c10) (tagB (f.num) (f.wire)) := (ac_kp0 (s11) k64 (by omega) (by omega)).mono (Nat.le_refl _) (Nat.le_refl _) (by omega) (Nat.le_refl _)
 have bd71 := ac76.bd
 have ty77 := ac76.ty
 have lenac76 : ((tagB (f.num) (f.wire))).length * 1 ≤ 140737488355328 := ac76.lenle
 have lxac76 : ((tagB (f.num) (f.wire)) ++ (putF (f.b.length))).length = (tagB (f.num) (f.wire)).length + (putF (f.b.length)).length := List.length_append
 refine WO.append rfl ac76 (by omega) (by omega) (by omega) rfl rfl (ys := (putF (f.b.length))) (Src.flat ((((s70).weak).mono (lo' := 0) (hi' := w64.heap.size) (Nat.zero_le _) (by omega))) (fun h => h)) (.inl rfl) Try.underlying27 inf5 rfl rfl rfl (by decide) (by omega) (by omega) rfl ?_
 intro a73 c74 w72 h75 k72 or78
 have z72 := k72.size
 have b72 := old_kp b64 k72 (fun g hg => by have := bd71 g hg; omega)
 have y72 := b72.size
 refine WO.nil ?_
 exact WX.stepDoneU rfl ⟨a73, c74, rfl, (h75).mono (by omega) (by omega) (by omega) (by omega), or2_n (m := ((tagB (f.num) (f.wire)) ++ (putF (f.b.length))).length) (fun g hg => (or78 g hg).elim (fun hg => .inl (by first | exact hg | (rw [ob_n]; exact hg))) (fun ⟨hg, _⟩ => .inr ⟨by omega, trivial⟩))⟩ (KpE.of (((Kp.refl _).sub (by simp)).step k72 (fun g hg => .inl hg)) (fun g hg => .inl hg))
 rintro vs w79 k79 ⟨-⟩
 replace k79 : Kp (ob (.slice a9 (tagB (f.num) (f.wire)).length c10)) w8 w79 := (show KpE (ob (.slice a9 (tagB (f.num) (f.wire)).length c10)) w8.heap.size w8 w79 from k79).kp
 have z79 := k79.size
 have b79 := old_kp b8 k79 (fun g hg => by have := bd39 g hg; omega)
 have y79 := b79.size
 refine WO.haves (fr' := [(1, _)]) ⟨⟨_, rfl, rfl⟩, trivial⟩ ?_
 refine WO.v (fa37_3 rfl) rfl ?_
 refine WO.nil ?_
 exact WX.stepDoneU rfl rfl (Kp.refl _)
 rintro vs w80 k80 ⟨e81, -⟩
 replace k80 : Kp (ob (.slice a9 (tagB (f.num) (f.wire)).length c10)) w8 w80 := (show KpE (ob (.slice a9 (tagB (f.num) (f.wire)).length c10)) w8.heap.size w8 w80 from k80).kp
 have z80 := k80.size
 have b80 := old_kp b8 k80 (fun g hg => by have := bd39 g hg; omega)
 have y80 := b80.size
 refine WO.haves (fr' := [(28, _)]) ⟨⟨_, rfl, e81⟩, trivial⟩ ?_
 have B82 := (B12).kp k80 (fun hm => by have := bd39 _ hm; omega)
 refine WO.v (R.loadB rfl B82 rfl Try.underlying27 rfl) rfl ?_
 refine WO.nil ?_
 exact WX.stepDoneU rfl rfl (Kp.refl _)
 rintro vs w83 k83 ⟨e84, e85, -⟩
 replace k83 : Kp (ob (.slice a9 (tagB (f.num) (f.wire)).length c10)) w8 w83 := (show KpE (ob (.slice a9 (tagB (f.num) (f.wire)).length c10)) w8.heap.size w8 w83 from k83).kp
 have z83 := k83.size
 have b83 := old_kp b8 k83 (fun g hg => by have := bd39 g hg; omega)
 have y83 := b83.size
 obtain ⟨a86, c87, e88, h89, ho90⟩ := e84
 have lh89 : (((tagB (f.num) (f.wire)) ++ (putF (f.b.length)))).length * 1 ≤ 140737488355328 := h89.lenle
 have lnh89 : (((tagB (f.num) (f.wire)) ++ (putF (f.b.length)))).length = _ := List.length_append
 refine WO.haves (fr' := [(27, _), (29, _)]) ⟨⟨_, rfl, e88⟩, ⟨_, rfl, e85⟩, trivial⟩ ?_
 have ac96 : Ac (α := UInt8) (w7.heap.size) true (w.heap.size) (w83.heap.size) (w83.heap.size) w83 (.slice a86 ((tagB (f.num) (f.wire)) ++ (putF (f.b.length))).length c87) ((tagB (f.num) (f.wire)) ++ (putF (f.b.length))) := h89
 have bd91 := ac96.bd
 have ty97 := ac96.ty
 have lenac96 : (((tagB (f.num) (f.wire)) ++ (putF (f.b.length)))).length * 1 ≤ 140737488355328 := ac96.lenle
 have lxac96 : (((tagB (f.num) (f.wire)) ++ (putF (f.b.length))) ++ f.b).length = ((tagB (f.num) (f.wire)) ++ (putF (f.b.length))).length + f.b.length := List.length_append
 refine WO.append rfl ac96 (by omega) (by omega) (by omega) rfl rfl (ys := f.b) (Src.flat (((sl_old s6 b83).mono (lo' := 0) (hi' := w83.heap.size) (Nat.zero_le _) (by omega))) (fun h => h)) (.inl rfl) Try.underlying27 inf5 rfl rfl rfl (by decide) (by omega) (by omega) rfl ?_
 intro a93 c94 w92 h95 k92 or98
 have z92 := k92.size
 have b92 := old_kp b83 k92 (fun g hg => by have := bd91 g hg; omega)
 have y92 := b92.size
 refine WO.nil ?_
 exact WX.stepDoneU rfl ⟨a93, c94, rfl, (h95).mono (by omega) (by omega) (by omega) (by omega), or2_n (m := (((tagB (f.num) (f.wire)) ++ (putF (f.b.length))) ++ f.b).length) (fun g hg => (or98 g hg).elim (fun hg => (ho90 g hg).elim (fun hg => .inl (by first | exact hg | (rw [ob_n]; exact hg))) (fun ⟨hg, _⟩ => .inr ⟨by omega, trivial⟩)) (fun ⟨hg, _⟩ => .inr ⟨by omega, trivial⟩))⟩ (KpE.of (((Kp.refl _).sub (by simp)).step k92 (fun g hg => .inl hg)) (fun g hg => (show g ∈ ob (.slice a9 (tagB (f.num) (f.wire)).length c10) ∨ (w8.heap.size ≤ g ∧ True) from (ho90 g hg).elim (fun hg => .inl (by first | exact hg | (rw [ob_n]; exact hg))) (fun ⟨hg, _⟩ => .inr ⟨by omega, trivial⟩)).imp id (fun h => h.1)))
 rintro vs w99 k99 ⟨-, -, -, -, -, -, -, -, -, e109, -⟩
 replace k99 : Kp (ob (.slice a9 (tagB (f.num) (f.wire)).length c10)) w8 w99 := (show KpE (ob (.slice a9 (tagB (f.num) (f.wire)).length c10)) w8.heap.size w8 w99 from k99).kp
 have z99 := k99.size
 have b99 := old_kp b8 k99 (fun g hg => by have := bd39 g hg; omega)
 have y99 := b99.size
 obtain ⟨a110, c111, e112, h113, ho114⟩ := e109
 have lh113 : ((((tagB (f.num) (f.wire)) ++ (putF (f.b.length))) ++ f.b)).length * 1 ≤ 140737488355328 := h113.lenle
 refine WO.haves (fr' := [(30, _), (0, _), (1, _), (2, _), (3, _), (15, _)]) ⟨⟨_, rfl, e112⟩, ⟨_, rfl, rfl⟩, ⟨_, rfl, rfl⟩, ⟨_, rfl, rfl⟩, ⟨_, rfl, rfl⟩, ⟨_, rfl, rfl⟩, trivial⟩ ?_
 refine WO.v (R.assign rfl) rfl ?_
 refine WO.nil ?_
 refine WX.sel [0, 1, 2, 3, 15] rfl ?_
 refine WX.next ?_
 refine WC.ret ?_
 have e0 : (((tagB (f.num) (f.wire)) ++ (putF (f.b.length))) ++ f.b) = (fieldB f) := by first | exact field_0 (by assumption) | exact field_2 (by assumption)
 have n0 : (((tagB (f.num) (f.wire)) ++ (putF (f.b.length))) ++ f.b).length = (fieldB f).length := by rw [e0]
 have f0 : Ac (α := UInt8) w.heap.size true w.heap.size w99.heap.size w99.heap.size w99 (.slice a110 (((tagB (f.num) (f.wire)) ++ (putF (f.b.length))) ++ f.b).length c111) (((tagB (f.num) (f.wire)) ++ (putF (f.b.length))) ++ f.b) := ((h113).mono (by omega) (by omega) (by omega) (by omega))
 refine WX.ret1 Try.results65 rfl ?_
 exact ⟨a110, c111, by rw [n0], (acl_n f0 e0 n0), Kp.of_below b99⟩


end Go.Proofs.Ytfmlgeeogbhppaa
