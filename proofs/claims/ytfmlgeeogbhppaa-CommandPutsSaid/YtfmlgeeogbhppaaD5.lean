/- Contracts of functions, walked operation by operation. -/
import Derived.Test.YtfmlgeeogbhppaaD4
namespace Go.Proofs.Ytfmlgeeogbhppaa
open Go.RowKit

def specsL : List Spec := ([⟨1, 0, 1, true, false⟩, ⟨2, 0, 1, false, false⟩, ⟨3, 0, 1, false, false⟩, ⟨4, 0, 1, false, false⟩, ⟨5, 0, 1, false, false⟩, ⟨6, 0, 1, false, false⟩, ⟨7, 2, 1, false, false⟩, ⟨8, 2, 3, false, false⟩] : List Spec)
def specsF (v : Int) : List Spec := if v < 1 ∨ 3 < v then [] else specsL.filter fun s => decide (s.since ≤ v)
def topF (v : Int) : Int := (specsF v).foldl (fun t s => max t s.num) 0
theorem filt_yes {v : Int} {k : Nat} {x : Spec} (hx : specsL[k]? = some x) (h : x.since ≤ v) : (specsL.take k).filter (fun s => decide (s.since ≤ v)) ++ [x] = (specsL.take (k + 1)).filter (fun s => decide (s.since ≤ v)) := by
  rw [take_succ_get hx, List.filter_append]; simp [h]
theorem filt_no {v : Int} {k : Nat} {x : Spec} (hx : specsL[k]? = some x) (h : ¬ x.since ≤ v) : (specsL.take k).filter (fun s => decide (s.since ≤ v)) = (specsL.take (k + 1)).filter (fun s => decide (s.since ≤ v)) := by
  rw [take_succ_get hx, List.filter_append]; simp [h]
theorem specs_out {v : Int} (h : v < 1 ∨ 3 < v) : [] = specsF v := by rw [specsF, if_pos h]
theorem specs_in {v : Int} {k : Nat} (h : ¬ (v < 1 ∨ 3 < v)) (hk : specsL.length ≤ k) : (specsL.take k).filter (fun s => decide (s.since ≤ v)) = specsF v := by rw [specsF, if_neg h, List.take_of_length_le hk]
theorem filt_len {v : Int} {k : Nat} : ((specsL.take k).filter (fun s => decide (s.since ≤ v))).length ≤ 8 := by
  have h1 := List.length_filter_le (fun s : Spec => decide (s.since ≤ v)) (specsL.take k)
  have h2 : (specsL.take k).length ≤ 8 := by rw [List.length_take]; exact Nat.le_trans (Nat.min_le_right _ _) (by decide)
  omega
theorem top_next {v : Int} {k : Nat} {x : Spec} (hx : (specsF v)[k]? = some x) : max (((specsF v).take k).foldl (fun t s => max t s.num) 0) x.num = ((specsF v).take (k + 1)).foldl (fun t s => max t s.num) 0 := by
  rw [take_succ_get hx, List.foldl_append]; rfl
def nmF (num n : Int) : List Field := if n = 0 then [] else [⟨num, 0, ⟨n.toNat⟩, []⟩]
def byF (num : Int) (b : List UInt8) : List Field := if 0 < ((b.length : Nat) : Int) then [⟨num, 2, ⟨0⟩, b⟩] else []
def fieldsN (c : Command) : List Field := (((((([] ++ nmF 1 c.kind) ++ nmF 2 c.client) ++ nmF 3 c.seq) ++ nmF 4 c.set) ++ nmF 5 c.id) ++ nmF 6 c.n) ++ byF 7 (chunksB c.chunks)
def fieldsF (c : Command) (v : Int) : List Field := if 3 ≤ v then fieldsN c ++ byF 8 c.text.b else fieldsN c
theorem nm_len (num n : Int) : (nmF num n).length ≤ 1 := by unfold nmF; split <;> simp
theorem by_len (num : Int) (b : List UInt8) : (byF num b).length ≤ 1 := by unfold byF; split <;> simp
theorem nm_1 {xs : List Field} {num n : Int} (h : ¬ n = 0) : xs ++ [⟨num, 0, ⟨n.toNat⟩, []⟩] = xs ++ nmF num n := by rw [nmF, if_neg h]
theorem nm_0 {xs : List Field} {num n : Int} (h : n = 0) : xs = xs ++ nmF num n := by rw [nmF, if_pos h, List.append_nil]
theorem by_1 {xs : List Field} {num : Int} {b : List UInt8} (h : 0 < ((b.length : Nat) : Int)) : xs ++ [⟨num, 2, ⟨0⟩, b⟩] = xs ++ byF num b := by rw [byF, if_pos h]
theorem by_0 {xs : List Field} {num : Int} {b : List UInt8} (h : ¬ 0 < ((b.length : Nat) : Int)) : xs = xs ++ byF num b := by rw [byF, if_neg h, List.append_nil]
theorem fields_len (c : Command) (v : Int) : (fieldsF c v).length ≤ 8 := by
  have h1 := nm_len 1 c.kind; have h2 := nm_len 2 c.client; have h3 := nm_len 3 c.seq; have h4 := nm_len 4 c.set; have h5 := nm_len 5 c.id; have h6 := nm_len 6 c.n
  have h7 := by_len 7 (chunksB c.chunks); have h8 := by_len 8 c.text.b
  unfold fieldsF fieldsN
  split <;> simp only [List.length_append, List.length_nil] <;> omega

theorem sz4 : (Try.prog.info? 4).map (·.size) = some 1 := by kernel_rfl
theorem sz83 : (Try.prog.info? 83).map (·.size) = some 5 := by kernel_rfl
theorem fa83_0 {n : Nat} {fr : Fr} {w : World} {ty : TypeId} {x : Operand} {g k : Nat} (hx : ev fr x = some (.pointer (some ⟨g, k, none⟩))) : Runs Try.prog n fr w (.fieldAddr 83 x 0) ty (.pointer (some ⟨g, k + 0, none⟩)) w := R.fieldAddrB hx Try.underlying83 rfl rfl sz3
theorem fa83_2 {n : Nat} {fr : Fr} {w : World} {ty : TypeId} {x : Operand} {g k : Nat} (hx : ev fr x = some (.pointer (some ⟨g, k, none⟩))) : Runs Try.prog n fr w (.fieldAddr 83 x 2) ty (.pointer (some ⟨g, k + 2, none⟩)) w := R.fieldAddrB hx Try.underlying83 rfl rfl sz3
theorem fa83_3 {n : Nat} {fr : Fr} {w : World} {ty : TypeId} {x : Operand} {g k : Nat} (hx : ev fr x = some (.pointer (some ⟨g, k, none⟩))) : Runs Try.prog n fr w (.fieldAddr 83 x 3) ty (.pointer (some ⟨g, k + 3, none⟩)) w := R.fieldAddrB hx Try.underlying83 rfl rfl sz4
theorem fa83_4 {n : Nat} {fr : Fr} {w : World} {ty : TypeId} {x : Operand} {g k : Nat} (hx : ev fr x = some (.pointer (some ⟨g, k, none⟩))) : Runs Try.prog n fr w (.fieldAddr 83 x 4) ty (.pointer (some ⟨g, k + 4, none⟩)) w := R.fieldAddrB hx Try.underlying83 rfl rfl sz4
theorem inf83 : (Try.prog.info? 83).map (fun i => (i.zero.map Value.cells, i.size, i.bytes)) = some (some ([.int .i64 0, .int .i64 0, .int .i64 0, .bool false, .bool false] : List Value).toArray, 5, 32) := by kernel_rfl
theorem zr83 : ((Try.prog.info? 83).bind (·.zero)).map Value.cells = some ([.int .i64 0, .int .i64 0, .int .i64 0, .bool false, .bool false] : List Value).toArray := by kernel_rfl
theorem zv80 : (Try.prog.info? 80).bind (·.zero) = some (.slice none 0 0) := by kernel_rfl

set_option maxRecDepth 100000 in
set_option maxHeartbeats 400000 in
theorem fa1_s {w : World} (a : Int) (b : Int) (i_a : I64 a) (i_b : I64 b) :
    Ret Try.prog 89 [.int .i64 a, .int .i64 b].toArray w fun r w' => ∃ (rs0 : List Value), r = .agg rs0.toArray ∧ Rp.rp false 0 w'.heap.size w' rs0 ((⟨a, 0, b, false, false⟩ : Spec)) ∧ Kp [] w w' := by
 refine Ret.enter Try.func89 rfl Try.ntmps89 rfl rfl ?_
 refine WC.sel [0, 1] rfl ?_
 refine WC.seq ?_
 refine WC.region ?_
 refine WO.alloc zr83 rfl ?_
 intro w1 n1
 have z1 := n1.lt
 have b1 := old_kp0 (Below.refl w.heap.size w) n1.kp
 have y1 := b1.size
 refine WO.nil ?_
 refine WX.sel [0, 1, 4] rfl ?_
 refine WX.next ?_
 refine WC.seq ?_
 refine WC.region ?_
 refine WO.v (R.move rfl) rfl ?_
 refine WO.v (R.move rfl) rfl ?_
 refine WO.v (R.buildL (parts := [_, _, _]) (cells := #[(.int .i64 a), (.int .i64 (0 : Int)), (.int .i64 b), (.bool false), (.bool false)]) rfl (by kernel_rfl)) rfl ?_
 refine WO.storeBN rfl rfl n1.blk rfl (by simp [Value.oneCell']) sz83 ?_
 intro w2 k2 B2 z_2
 have z2 := z_2.symm
 have b2 := old_kp b1 k2 (mem1 (by omega))
 have y2 := b2.size
 refine WO.nil ?_
 refine WX.sel [0, 1, 4] rfl ?_
 refine WX.next ?_
 refine WC.ret ?_
 have e0 : (⟨a, (0 : Int), b, false, false⟩ : Spec) = ((⟨a, 0, b, false, false⟩ : Spec)) := by rfl
 have f0 : Rp.rp false 0 w2.heap.size w2 [(.int .i64 a), (.int .i64 (0 : Int)), (.int .i64 b), (.bool false), (.bool false)] (⟨a, (0 : Int), b, false, false⟩ : Spec) := (Spec.mk_ (i_a) (show I64 (0) from ⟨by omega, by omega⟩) (i_b))
 refine WX.retC Try.results89 rfl B2 Try.underlying83 rfl sz83 ?_
 exact ⟨[(.int .i64 a), (.int .i64 (0 : Int)), (.int .i64 b), (.bool false), (.bool false)], by rfl, (Eq.mp (congrArg (Rp.rp _ _ _ _ _) e0) f0), Kp.of_below b2⟩

set_option maxRecDepth 100000 in
set_option maxHeartbeats 400000 in
theorem fa2_s {w : World} (a : Int) (b : Int) (i_a : I64 a) (i_b : I64 b) :
    Ret Try.prog 90 [.int .i64 a, .int .i64 b].toArray w fun r w' => ∃ (rs0 : List Value), r = .agg rs0.toArray ∧ Rp.rp false 0 w'.heap.size w' rs0 ((⟨a, 2, b, false, false⟩ : Spec)) ∧ Kp [] w w' := by
 refine Ret.enter Try.func90 rfl Try.ntmps90 rfl rfl ?_
 refine WC.sel [0, 1] rfl ?_
 refine WC.seq ?_
 refine WC.region ?_
 refine WO.alloc zr83 rfl ?_
 intro w1 n1
 have z1 := n1.lt
 have b1 := old_kp0 (Below.refl w.heap.size w) n1.kp
 have y1 := b1.size
 refine WO.nil ?_
 refine WX.sel [0, 1, 4] rfl ?_
 refine WX.next ?_
 refine WC.seq ?_
 refine WC.region ?_
 refine WO.v (R.move rfl) rfl ?_
 refine WO.v (R.move rfl) rfl ?_
 refine WO.v (R.buildL (parts := [_, _, _]) (cells := #[(.int .i64 a), (.int .i64 (2 : Int)), (.int .i64 b), (.bool false), (.bool false)]) rfl (by kernel_rfl)) rfl ?_
 refine WO.storeBN rfl rfl n1.blk rfl (by simp [Value.oneCell']) sz83 ?_
 intro w2 k2 B2 z_2
 have z2 := z_2.symm
 have b2 := old_kp b1 k2 (mem1 (by omega))
 have y2 := b2.size
 refine WO.nil ?_
 refine WX.sel [0, 1, 4] rfl ?_
 refine WX.next ?_
 refine WC.ret ?_
 have e0 : (⟨a, (2 : Int), b, false, false⟩ : Spec) = ((⟨a, 2, b, false, false⟩ : Spec)) := by rfl
 have f0 : Rp.rp false 0 w2.heap.size w2 [(.int .i64 a), (.int .i64 (2 : Int)), (.int .i64 b), (.bool false), (.bool false)] (⟨a, (2 : Int), b, false, false⟩ : Spec) := (Spec.mk_ (i_a) (show I64 (2) from ⟨by omega, by omega⟩) (i_b))
 refine WX.retC Try.results90 rfl B2 Try.underlying83 rfl sz83 ?_
 exact ⟨[(.int .i64 a), (.int .i64 (2 : Int)), (.int .i64 b), (.bool false), (.bool false)], by rfl, (Eq.mp (congrArg (Rp.rp _ _ _ _ _) e0) f0), Kp.of_below b2⟩

set_option maxRecDepth 100000 in
set_option maxHeartbeats 400000 in
theorem fa3_s {w : World} {cs_x : List Value} {x : Spec} (h_x : Rp.rp false 0 w.heap.size w cs_x x) :
    Ret Try.prog 91 [.agg cs_x.toArray].toArray w fun r w' => ∃ (rs0 : List Value), r = .agg rs0.toArray ∧ Rp.rp false 0 w'.heap.size w' rs0 ((⟨x.num, x.wire, x.since, true, x.many⟩ : Spec)) ∧ Kp [] w w' := by
 obtain ⟨rfl, i1, i2, i3⟩ := Spec.el h_x
 refine Ret.enter Try.func91 rfl Try.ntmps91 rfl rfl ?_
 refine WC.sel [0] rfl ?_
 refine WC.seq ?_
 refine WC.region ?_
 refine WO.box rfl rfl rfl ?_
 intro w4 n4
 have z4 := n4.lt
 have b4 := old_kp0 (Below.refl w.heap.size w) n4.kp
 have y4 := b4.size
 refine WO.alloc zr83 rfl ?_
 intro w5 n5
 have z5 := n5.lt
 have b5 := old_kp0 b4 n5.kp
 have y5 := b5.size
 refine WO.nil ?_
 refine WX.sel [0, 1, 2] rfl ?_
 refine WX.next ?_
 refine WC.seq ?_
 refine WC.region ?_
 refine WO.v (fa83_3 rfl) rfl ?_
 have B6 := (n4.blk).kp0 n5.kp
 refine WO.storeB (cs' := [_, _, _, _, _]) rfl rfl B6 rfl rfl sz4 rfl ?_
 intro w7 k7 B7 z_7
 have z7 := z_7.symm
 have b7 := old_kp b5 k7 (mem1 (by omega))
 have y7 := b7.size
 refine WO.nil ?_
 refine WX.sel [0, 1, 2] rfl ?_
 refine WX.next ?_
 refine WC.seq ?_
 refine WC.region ?_
 refine WO.v (R.loadBN (vs := [_, _, _, _, _]) rfl B7 rfl Try.underlying83 rfl sz83) rfl ?_
 have B8 := (n5.blk).kp1 k7 (by omega)
 refine WO.storeBN rfl rfl B8 rfl (by simp [Value.oneCell']) sz83 ?_
 intro w9 k9 B9 z_9
 have z9 := z_9.symm
 have b9 := old_kp b7 k9 (mem1 (by omega))
 have y9 := b9.size
 refine WO.nil ?_
 refine WX.sel [0, 1, 2] rfl ?_
 refine WX.next ?_
 refine WC.ret ?_
 have e0 : (⟨x.num, x.wire, x.since, true, (x.many)⟩ : Spec) = ((⟨x.num, x.wire, x.since, true, x.many⟩ : Spec)) := by rfl
 have f0 : Rp.rp false 0 w9.heap.size w9 [(.int .i64 x.num), (.int .i64 x.wire), (.int .i64 x.since), (.bool true), (.bool (x.many))] (⟨x.num, x.wire, x.since, true, (x.many)⟩ : Spec) := (Spec.mk_ (i1) (i2) (i3))
 refine WX.retC Try.results91 rfl B9 Try.underlying83 rfl sz83 ?_
 exact ⟨[(.int .i64 x.num), (.int .i64 x.wire), (.int .i64 x.since), (.bool true), (.bool (x.many))], by rfl, (Eq.mp (congrArg (Rp.rp _ _ _ _ _) e0) f0), Kp.of_below b9⟩

set_option maxRecDepth 100000 in
set_option maxHeartbeats 400000 in
theorem fa4_s {w : World} {cs_x : List Value} {x : Spec} (h_x : Rp.rp false 0 w.heap.size w cs_x x) :
    Ret Try.prog 92 [.agg cs_x.toArray].toArray w fun r w' => ∃ (rs0 : List Value), r = .agg rs0.toArray ∧ Rp.rp false 0 w'.heap.size w' rs0 ((⟨x.num, x.wire, x.since, x.need, true⟩ : Spec)) ∧ Kp [] w w' := by
 obtain ⟨rfl, i1, i2, i3⟩ := Spec.el h_x
 refine Ret.enter Try.func92 rfl Try.ntmps92 rfl rfl ?_
 refine WC.sel [0] rfl ?_
 refine WC.seq ?_
 refine WC.region ?_
 refine WO.box rfl rfl rfl ?_
 intro w4 n4
 have z4 := n4.lt
 have b4 := old_kp0 (Below.refl w.heap.size w) n4.kp
 have y4 := b4.size
 refine WO.alloc zr83 rfl ?_
 intro w5 n5
 have z5 := n5.lt
 have b5 := old_kp0 b4 n5.kp
 have y5 := b5.size
 refine WO.nil ?_
 refine WX.sel [0, 1, 2] rfl ?_
 refine WX.next ?_
 refine WC.seq ?_
 refine WC.region ?_
 refine WO.v (fa83_4 rfl) rfl ?_
 have B6 := (n4.blk).kp0 n5.kp
 refine WO.storeB (cs' := [_, _, _, _, _]) rfl rfl B6 rfl rfl sz4 rfl ?_
 intro w7 k7 B7 z_7
 have z7 := z_7.symm
 have b7 := old_kp b5 k7 (mem1 (by omega))
 have y7 := b7.size
 refine WO.nil ?_
 refine WX.sel [0, 1, 2] rfl ?_
 refine WX.next ?_
 refine WC.seq ?_
 refine WC.region ?_
 refine WO.v (R.loadBN (vs := [_, _, _, _, _]) rfl B7 rfl Try.underlying83 rfl sz83) rfl ?_
 have B8 := (n5.blk).kp1 k7 (by omega)
 refine WO.storeBN rfl rfl B8 rfl (by simp [Value.oneCell']) sz83 ?_
 intro w9 k9 B9 z_9
 have z9 := z_9.symm
 have b9 := old_kp b7 k9 (mem1 (by omega))
 have y9 := b9.size
 refine WO.nil ?_
 refine WX.sel [0, 1, 2] rfl ?_
 refine WX.next ?_
 refine WC.ret ?_
 have e0 : (⟨x.num, x.wire, x.since, (x.need), true⟩ : Spec) = ((⟨x.num, x.wire, x.since, x.need, true⟩ : Spec)) := by rfl
 have f0 : Rp.rp false 0 w9.heap.size w9 [(.int .i64 x.num), (.int .i64 x.wire), (.int .i64 x.since), (.bool (x.need)), (.bool true)] (⟨x.num, x.wire, x.since, (x.need), true⟩ : Spec) := (Spec.mk_ (i1) (i2) (i3))
 refine WX.retC Try.results92 rfl B9 Try.underlying83 rfl sz83 ?_
 exact ⟨[(.int .i64 x.num), (.int .i64 x.wire), (.int .i64 x.since), (.bool (x.need)), (.bool true)], by rfl, (Eq.mp (congrArg (Rp.rp _ _ _ _ _) e0) f0), Kp.of_below b9⟩

set_option maxRecDepth 100000 in
set_option maxHeartbeats 1000000 in
theorem fall_s {w : World}   :
    Ret Try.prog 81 [.int .i64 1].toArray w fun r w' => ∃ (ra0 : Option Addr) (rc0 : Nat), r = .slice ra0 (specsL).length rc0 ∧ Sl true w.heap.size w'.heap.size w' (.slice ra0 (specsL).length rc0) (specsL) ∧ Kp [] w w' := by
 refine Ret.enter Try.func81 rfl Try.ntmps81 rfl rfl ?_
 refine WC.sel [0] rfl ?_
 refine WC.seq ?_
 refine WC.region ?_
 refine WO.v (R.assign rfl) rfl ?_
 refine WO.nil ?_
 refine WX.sel [0, 2] rfl ?_
 refine WX.next ?_
 refine WC.seq ?_
 refine WC.region ?_
 refine WO.v (R.assign rfl) rfl ?_
 refine WO.nil ?_
 refine WX.sel [0, 2, 3] rfl ?_
 refine WX.next ?_
 refine WC.seq ?_
 refine WC.region ?_
 refine WO.v (R.assign rfl) rfl ?_
 refine WO.nil ?_
 refine WX.sel [0, 2, 3, 4] rfl ?_
 refine WX.next ?_
 refine WC.seq ?_
 refine WC.region ?_
 refine WO.v (R.assign rfl) rfl ?_
 refine WO.nil ?_
 refine WX.sel [0, 2, 3, 4, 5] rfl ?_
 refine WX.next ?_
 refine WC.seq ?_
 refine WC.region ?_
 refine WO.v (R.assign rfl) rfl ?_
 refine WO.nil ?_
 refine WX.sel [0, 2, 3, 4, 5, 6] rfl ?_
 refine WX.next ?_
 refine WC.seq ?_
 refine WC.region ?_
 refine WO.makeMap rfl ?_
 intro w1 B1 k1 z_1
 have z1 := z_1
 have b1 := old_kp0 (Below.refl w.heap.size w) k1
 have y1 := b1.size
 refine WO.v (R.move rfl) rfl ?_
 refine WO.v (R.move rfl) rfl ?_
 refine WO.c (E.call rfl rfl Try.func89 rfl rfl) (fa1_s (a := (1 : Int)) (b := (1 : Int)) (show I64 (1) from ⟨by omega, by omega⟩) (show I64 (1) from ⟨by omega, by omega⟩)) rfl ?_
 rintro _ w2 ⟨cs3, rfl, r4, k2⟩
 have z2 := k2.size
 have b2 := old_kp0 b1 k2
 have y2 := b2.size
 obtain ⟨rfl, i5, i6, i7⟩ := Spec.el r4
 refine WO.c (E.call rfl rfl Try.func91 rfl rfl) (fa3_s (x := (⟨((1 : Int)), (0 : Int), ((1 : Int)), (false), (false)⟩ : Spec)) (Spec.mk_ (i5) (i6) (i7))) rfl ?_
 rintro _ w8 ⟨cs9, rfl, r10, k8⟩
 have z8 := k8.size
 have b8 := old_kp0 b2 k8
 have y8 := b8.size
 obtain ⟨rfl, i11, i12, i13⟩ := Spec.el r10
 refine WO.v (R.move rfl) rfl ?_
 refine WO.c (E.call rfl rfl Try.func89 rfl rfl) (fa1_s (a := (2 : Int)) (b := (1 : Int)) (show I64 (2) from ⟨by omega, by omega⟩) (show I64 (1) from ⟨by omega, by omega⟩)) rfl ?_
 rintro _ w14 ⟨cs15, rfl, r16, k14⟩
 have z14 := k14.size
 have b14 := old_kp0 b8 k14
 have y14 := b14.size
 obtain ⟨rfl, i17, i18, i19⟩ := Spec.el r16
 refine WO.v (R.move rfl) rfl ?_
 refine WO.c (E.call rfl rfl Try.func89 rfl rfl) (fa1_s (a := (3 : Int)) (b := (1 : Int)) (show I64 (3) from ⟨by omega, by omega⟩) (show I64 (1) from ⟨by omega, by omega⟩)) rfl ?_
 rintro _ w20 ⟨cs21, rfl, r22, k20⟩
 have z20 := k20.size
 have b20 := old_kp0 b14 k20
 have y20 := b20.size
 obtain ⟨rfl, i23, i24, i25⟩ := Spec.el r22
 refine WO.v (R.move rfl) rfl ?_
 refine WO.c (E.call rfl rfl Try.func89 rfl rfl) (fa1_s (a := (4 : Int)) (b := (1 : Int)) (show I64 (4) from ⟨by omega, by omega⟩) (show I64 (1) from ⟨by omega, by omega⟩)) rfl ?_
 rintro _ w26 ⟨cs27, rfl, r28, k26⟩
 have z26 := k26.size
 have b26 := old_kp0 b20 k26
 have y26 := b26.size
 obtain ⟨rfl, i29, i30, i31⟩ := Spec.el r28
 refine WO.v (R.move rfl) rfl ?_
 refine WO.c (E.call rfl rfl Try.func89 rfl rfl) (fa1_s (a := (5 : Int)) (b := (1 : Int)) (show I64 (5) from ⟨by omega, by omega⟩) (show I64 (1) from ⟨by omega, by omega⟩)) rfl ?_
 rintro _ w32 ⟨cs33, rfl, r34, k32⟩
 have z32 := k32.size
 have b32 := old_kp0 b26 k32
 have y32 := b32.size
 obtain ⟨rfl, i35, i36, i37⟩ := Spec.el r34
 refine WO.v (R.move rfl) rfl ?_
 refine WO.c (E.call rfl rfl Try.func89 rfl rfl) (fa1_s (a := (6 : Int)) (b := (1 : Int)) (show I64 (6) from ⟨by omega, by omega⟩) (show I64 (1) from ⟨by omega, by omega⟩)) rfl ?_
 rintro _ w38 ⟨cs39, rfl, r40, k38⟩
 have z38 := k38.size
 have b38 := old_kp0 b32 k38
 have y38 := b38.size
 obtain ⟨rfl, i41, i42, i43⟩ := Spec.el r40
 refine WO.v (R.move rfl) rfl ?_
 refine WO.c (E.call rfl rfl Try.func90 rfl rfl) (fa2_s (a := (7 : Int)) (b := (1 : Int)) (show I64 (7) from ⟨by omega, by omega⟩) (show I64 (1) from ⟨by omega, by omega⟩)) rfl ?_
 rintro _ w44 ⟨cs45, rfl, r46, k44⟩
 have z44 := k44.size
 have b44 := old_kp0 b38 k44
 have y44 := b44.size
 obtain ⟨rfl, i47, i48, i49⟩ := Spec.el r46
 refine WO.v (R.move rfl) rfl ?_
 refine WO.c (E.call rfl rfl Try.func90 rfl rfl) (fa2_s (a := (8 : Int)) (b := (3 : Int)) (show I64 (8) from ⟨by omega, by omega⟩) (show I64 (3) from ⟨by omega, by omega⟩)) rfl ?_
 rintro _ w50 ⟨cs51, rfl, r52, k50⟩
 have z50 := k50.size
 have b50 := old_kp0 b44 k50
 have y50 := b50.size
 obtain ⟨rfl, i53, i54, i55⟩ := Spec.el r52
 refine WO.buildSlice (parts := [_, _, _, _, _, _, _, _]) (vss := [[_, _, _, _, _], [_, _, _, _, _], [_, _, _, _, _], [_, _, _, _, _], [_, _, _, _, _], [_, _, _, _, _], [_, _, _, _, _], [_, _, _, _, _]]) Try.underlying80 sz83 zr83 rfl rfl (by simp) rfl rfl rfl ?_
 intro w56 n56
 have z56 := n56.lt
 have b56 := old_kp0 b50 n56.kp
 have y56 := b56.size
 have ac57 : Ac (α := Spec) (w50.heap.size) true (w.heap.size) (w56.heap.size) (w56.heap.size) w56 (.slice (some ⟨w50.heap.size, 0, none⟩) 8 8) ([(⟨((⟨((1 : Int)), (0 : Int), ((1 : Int)), (false), (false)⟩ : Spec)).num, ((⟨((1 : Int)), (0 : Int), ((1 : Int)), (false), (false)⟩ : Spec)).wire, ((⟨((1 : Int)), (0 : Int), ((1 : Int)), (false), (false)⟩ : Spec)).since, (true), (((⟨((1 : Int)), (0 : Int), ((1 : Int)), (false), (false)⟩ : Spec)).many)⟩ : Spec), (⟨((2 : Int)), (0 : Int), ((1 : Int)), (false), (false)⟩ : Spec), (⟨((3 : Int)), (0 : Int), ((1 : Int)), (false), (false)⟩ : Spec), (⟨((4 : Int)), (0 : Int), ((1 : Int)), (false), (false)⟩ : Spec), (⟨((5 : Int)), (0 : Int), ((1 : Int)), (false), (false)⟩ : Spec), (⟨((6 : Int)), (0 : Int), ((1 : Int)), (false), (false)⟩ : Spec), (⟨((7 : Int)), (2 : Int), ((1 : Int)), (false), (false)⟩ : Spec), (⟨((8 : Int)), (2 : Int), ((3 : Int)), (false), (false)⟩ : Spec)] : List Spec) := Ac.lit (α := Spec) (ys := ([(⟨((⟨((1 : Int)), (0 : Int), ((1 : Int)), (false), (false)⟩ : Spec)).num, ((⟨((1 : Int)), (0 : Int), ((1 : Int)), (false), (false)⟩ : Spec)).wire, ((⟨((1 : Int)), (0 : Int), ((1 : Int)), (false), (false)⟩ : Spec)).since, (true), (((⟨((1 : Int)), (0 : Int), ((1 : Int)), (false), (false)⟩ : Spec)).many)⟩ : Spec), (⟨((2 : Int)), (0 : Int), ((1 : Int)), (false), (false)⟩ : Spec), (⟨((3 : Int)), (0 : Int), ((1 : Int)), (false), (false)⟩ : Spec), (⟨((4 : Int)), (0 : Int), ((1 : Int)), (false), (false)⟩ : Spec), (⟨((5 : Int)), (0 : Int), ((1 : Int)), (false), (false)⟩ : Spec), (⟨((6 : Int)), (0 : Int), ((1 : Int)), (false), (false)⟩ : Spec), (⟨((7 : Int)), (2 : Int), ((1 : Int)), (false), (false)⟩ : Spec), (⟨((8 : Int)), (2 : Int), ((3 : Int)), (false), (false)⟩ : Spec)] : List Spec)) (css := [[_, _, _, _, _], [_, _, _, _, _], [_, _, _, _, _], [_, _, _, _, _], [_, _, _, _, _], [_, _, _, _, _], [_, _, _, _, _], [_, _, _, _, _]]) n56.blk (.cons ((Spec.mk_ (i11) (i12) (i13))) (.cons ((Spec.mk_ (i17) (i18) (i19))) (.cons ((Spec.mk_ (i23) (i24) (i25))) (.cons ((Spec.mk_ (i29) (i30) (i31))) (.cons ((Spec.mk_ (i35) (i36) (i37))) (.cons ((Spec.mk_ (i41) (i42) (i43))) (.cons ((Spec.mk_ (i47) (i48) (i49))) (.cons ((Spec.mk_ (i53) (i54) (i55))) (.nil))))))))) (by omega) (by omega) (by simp [maxLen]) (by show 8 * 32 ≤ 140737488355328; decide) rfl
 have lenac57 : ([(⟨((⟨((1 : Int)), (0 : Int), ((1 : Int)), (false), (false)⟩ : Spec)).num, ((⟨((1 : Int)), (0 : Int), ((1 : Int)), (false), (false)⟩ : Spec)).wire, ((⟨((1 : Int)), (0 : Int), ((1 : Int)), (false), (false)⟩ : Spec)).since, (true), (((⟨((1 : Int)), (0 : Int), ((1 : Int)), (false), (false)⟩ : Spec)).many)⟩ : Spec), (⟨((2 : Int)), (0 : Int), ((1 : Int)), (false), (false)⟩ : Spec), (⟨((3 : Int)), (0 : Int), ((1 : Int)), (false), (false)⟩ : Spec), (⟨((4 : Int)), (0 : Int), ((1 : Int)), (false), (false)⟩ : Spec), (⟨((5 : Int)), (0 : Int), ((1 : Int)), (false), (false)⟩ : Spec), (⟨((6 : Int)), (0 : Int), ((1 : Int)), (false), (false)⟩ : Spec), (⟨((7 : Int)), (2 : Int), ((1 : Int)), (false), (false)⟩ : Spec), (⟨((8 : Int)), (2 : Int), ((3 : Int)), (false), (false)⟩ : Spec)] : List Spec).length = 8 := rfl
 have B58 := ((((((((((B1).kp0 k2).kp0 k8).kp0 k14).kp0 k20).kp0 k26).kp0 k32).kp0 k38).kp0 k44).kp0 k50).kp0 n56.kp
 refine WO.insert rfl rfl rfl B58 rfl Try.underlying111 Try.underlying3 ?_
 intro w59 B59 k59 z_59
 have z59 := z_59.symm
 have b59 := old_kp b56 k59 (mem1 (by omega))
 have y59 := b59.size
 refine WO.v (R.move rfl) rfl ?_
 refine WO.v (R.move rfl) rfl ?_
 refine WO.c (E.call rfl rfl Try.func89 rfl rfl) (fa1_s (a := (1 : Int)) (b := (1 : Int)) (show I64 (1) from ⟨by omega, by omega⟩) (show I64 (1) from ⟨by omega, by omega⟩)) rfl ?_
 rintro _ w60 ⟨cs61, rfl, r62, k60⟩
 have z60 := k60.size
 have b60 := old_kp0 b59 k60
 have y60 := b60.size
 obtain ⟨rfl, i63, i64, i65⟩ := Spec.el r62
 refine WO.c (E.call rfl rfl Try.func91 rfl rfl) (fa3_s (x := (⟨((1 : Int)), (0 : Int), ((1 : Int)), (false), (false)⟩ : Spec)) (Spec.mk_ (i63) (i64) (i65))) rfl ?_
 rintro _ w66 ⟨cs67, rfl, r68, k66⟩
 have z66 := k66.size
 have b66 := old_kp0 b60 k66
 have y66 := b66.size
 obtain ⟨rfl, i69, i70, i71⟩ := Spec.el r68
 refine WO.v (R.move rfl) rfl ?_
 refine WO.v (R.move rfl) rfl ?_
 refine WO.c (E.call rfl rfl Try.func89 rfl rfl) (fa1_s (a := (2 : Int)) (b := (1 : Int)) (show I64 (2) from ⟨by omega, by omega⟩) (show I64 (1) from ⟨by omega, by omega⟩)) rfl ?_
 rintro _ w72 ⟨cs73, rfl, r74, k72⟩
 have z72 := k72.size
 have b72 := old_kp0 b66 k72
 have y72 := b72.size
 obtain ⟨rfl, i75, i76, i77⟩ := Spec.el r74
 refine WO.c (E.call rfl rfl Try.func91 rfl rfl) (fa3_s (x := (⟨((2 : Int)), (0 : Int), ((1 : Int)), (false), (false)⟩ : Spec)) (Spec.mk_ (i75) (i76) (i77))) rfl ?_
 rintro _ w78 ⟨cs79, rfl, r80, k78⟩
 have z78 := k78.size
 have b78 := old_kp0 b72 k78
 have y78 := b78.size
 obtain ⟨rfl, i81, i82, i83⟩ := Spec.el r80
 refine WO.v (R.move rfl) rfl ?_
 refine WO.v (R.move rfl) rfl ?_
 refine WO.c (E.call rfl rfl Try.func90 rfl rfl) (fa2_s (a := (3 : Int)) (b := (1 : Int)) (show I64 (3) from ⟨by omega, by omega⟩) (show I64 (1) from ⟨by omega, by omega⟩)) rfl ?_
 rintro _ w84 ⟨cs85, rfl, r86, k84⟩
 have z84 := k84.size
 have b84 := old_kp0 b78 k84
 have y84 := b84.size
 obtain ⟨rfl, i87, i88, i89⟩ := Spec.el r86
 refine WO.c (E.call rfl rfl Try.func91 rfl rfl) (fa3_s (x := (⟨((3 : Int)), (2 : Int), ((1 : Int)), (false), (false)⟩ : Spec)) (Spec.mk_ (i87) (i88) (i89))) rfl ?_
 rintro _ w90 ⟨cs91, rfl, r92, k90⟩
 have z90 := k90.size
 have b90 := old_kp0 b84 k90
 have y90 := b90.size
 obtain ⟨rfl, i93, i94, i95⟩ := Spec.el r92
 refine WO.v (R.move rfl) rfl ?_
 refine WO.c (E.call rfl rfl Try.func89 rfl rfl) (fa1_s (a := (4 : Int)) (b := (2 : Int)) (show I64 (4) from ⟨by omega, by omega⟩) (show I64 (2) from ⟨by omega, by omega⟩)) rfl ?_
 rintro _ w96 ⟨cs97, rfl, r98, k96⟩
 have z96 := k96.size
 have b96 := old_kp0 b90 k96
 have y96 := b96.size
 obtain ⟨rfl, i99, i100, i101⟩ := Spec.el r98
 refine WO.v (R.move rfl) rfl ?_
 refine WO.c (E.call rfl rfl Try.func90 rfl rfl) (fa2_s (a := (5 : Int)) (b := (3 : Int)) (show I64 (5) from ⟨by omega, by omega⟩) (show I64 (3) from ⟨by omega, by omega⟩)) rfl ?_
 rintro _ w102 ⟨cs103, rfl, r104, k102⟩
 have z102 := k102.size
 have b102 := old_kp0 b96 k102
 have y102 := b102.size
 obtain ⟨rfl, i105, i106, i107⟩ := Spec.el r104
 refine WO.buildSlice (parts := [_, _, _, _, _]) (vss := [[_, _, _, _, _], [_, _, _, _, _], [_, _, _, _, _], [_, _, _, _, _], [_, _, _, _, _]]) Try.underlying80 sz83 zr83 rfl rfl (by simp) rfl rfl rfl ?_
 intro w108 n108
 have z108 := n108.lt
 have b108 := old_kp0 b102 n108.kp
 have y108 := b108.size
 have ac109 : Ac (α := Spec) (w102.heap.size) true (w.heap.size) (w108.heap.size) (w108.heap.size) w108 (.slice (some ⟨w102.heap.size, 0, none⟩) 5 5) ([(⟨((⟨((1 : Int)), (0 : Int), ((1 : Int)), (false), (false)⟩ : Spec)).num, ((⟨((1 : Int)), (0 : Int), ((1 : Int)), (false), (false)⟩ : Spec)).wire, ((⟨((1 : Int)), (0 : Int), ((1 : Int)), (false), (false)⟩ : Spec)).since, (true), (((⟨((1 : Int)), (0 : Int), ((1 : Int)), (false), (false)⟩ : Spec)).many)⟩ : Spec), (⟨((⟨((2 : Int)), (0 : Int), ((1 : Int)), (false), (false)⟩ : Spec)).num, ((⟨((2 : Int)), (0 : Int), ((1 : Int)), (false), (false)⟩ : Spec)).wire, ((⟨((2 : Int)), (0 : Int), ((1 : Int)), (false), (false)⟩ : Spec)).since, (true), (((⟨((2 : Int)), (0 : Int), ((1 : Int)), (false), (false)⟩ : Spec)).many)⟩ : Spec), (⟨((⟨((3 : Int)), (2 : Int), ((1 : Int)), (false), (false)⟩ : Spec)).num, ((⟨((3 : Int)), (2 : Int), ((1 : Int)), (false), (false)⟩ : Spec)).wire, ((⟨((3 : Int)), (2 : Int), ((1 : Int)), (false), (false)⟩ : Spec)).since, (true), (((⟨((3 : Int)), (2 : Int), ((1 : Int)), (false), (false)⟩ : Spec)).many)⟩ : Spec), (⟨((4 : Int)), (0 : Int), ((2 : Int)), (false), (false)⟩ : Spec), (⟨((5 : Int)), (2 : Int), ((3 : Int)), (false), (false)⟩ : Spec)] : List Spec) := Ac.lit (α := Spec) (ys := ([(⟨((⟨((1 : Int)), (0 : Int), ((1 : Int)), (false), (false)⟩ : Spec)).num, ((⟨((1 : Int)), (0 : Int), ((1 : Int)), (false), (false)⟩ : Spec)).wire, ((⟨((1 : Int)), (0 : Int), ((1 : Int)), (false), (false)⟩ : Spec)).since, (true), (((⟨((1 : Int)), (0 : Int), ((1 : Int)), (false), (false)⟩ : Spec)).many)⟩ : Spec), (⟨((⟨((2 : Int)), (0 : Int), ((1 : Int)), (false), (false)⟩ : Spec)).num, ((⟨((2 : Int)), (0 : Int), ((1 : Int)), (false), (false)⟩ : Spec)).wire, ((⟨((2 : Int)), (0 : Int), ((1 : Int)), (false), (false)⟩ : Spec)).since, (true), (((⟨((2 : Int)), (0 : Int), ((1 : Int)), (false), (false)⟩ : Spec)).many)⟩ : Spec), (⟨((⟨((3 : Int)), (2 : Int), ((1 : Int)), (false), (false)⟩ : Spec)).num, ((⟨((3 : Int)), (2 : Int), ((1 : Int)), (false), (false)⟩ : Spec)).wire, ((⟨((3 : Int)), (2 : Int), ((1 : Int)), (false), (false)⟩ : Spec)).since, (true), (((⟨((3 : Int)), (2 : Int), ((1 : Int)), (false), (false)⟩ : Spec)).many)⟩ : Spec), (⟨((4 : Int)), (0 : Int), ((2 : Int)), (false), (false)⟩ : Spec), (⟨((5 : Int)), (2 : Int), ((3 : Int)), (false), (false)⟩ : Spec)] : List Spec)) (css := [[_, _, _, _, _], [_, _, _, _, _], [_, _, _, _, _], [_, _, _, _, _], [_, _, _, _, _]]) n108.blk (.cons ((Spec.mk_ (i69) (i70) (i71))) (.cons ((Spec.mk_ (i81) (i82) (i83))) (.cons ((Spec.mk_ (i93) (i94) (i95))) (.cons ((Spec.mk_ (i99) (i100) (i101))) (.cons ((Spec.mk_ (i105) (i106) (i107))) (.nil)))))) (by omega) (by omega) (by simp [maxLen]) (by show 5 * 32 ≤ 140737488355328; decide) rfl
 have lenac109 : ([(⟨((⟨((1 : Int)), (0 : Int), ((1 : Int)), (false), (false)⟩ : Spec)).num, ((⟨((1 : Int)), (0 : Int), ((1 : Int)), (false), (false)⟩ : Spec)).wire, ((⟨((1 : Int)), (0 : Int), ((1 : Int)), (false), (false)⟩ : Spec)).since, (true), (((⟨((1 : Int)), (0 : Int), ((1 : Int)), (false), (false)⟩ : Spec)).many)⟩ : Spec), (⟨((⟨((2 : Int)), (0 : Int), ((1 : Int)), (false), (false)⟩ : Spec)).num, ((⟨((2 : Int)), (0 : Int), ((1 : Int)), (false), (false)⟩ : Spec)).wire, ((⟨((2 : Int)), (0 : Int), ((1 : Int)), (false), (false)⟩ : Spec)).since, (true), (((⟨((2 : Int)), (0 : Int), ((1 : Int)), (false), (false)⟩ : Spec)).many)⟩ : Spec), (⟨((⟨((3 : Int)), (2 : Int), ((1 : Int)), (false), (false)⟩ : Spec)).num, ((⟨((3 : Int)), (2 : Int), ((1 : Int)), (false), (false)⟩ : Spec)).wire, ((⟨((3 : Int)), (2 : Int), ((1 : Int)), (false), (false)⟩ : Spec)).since, (true), (((⟨((3 : Int)), (2 : Int), ((1 : Int)), (false), (false)⟩ : Spec)).many)⟩ : Spec), (⟨((4 : Int)), (0 : Int), ((2 : Int)), (false), (false)⟩ : Spec), (⟨((5 : Int)), (2 : Int), ((3 : Int)), (false), (false)⟩ : Spec)] : List Spec).length = 5 := rfl
 have B110 := (((((((((B59).kp0 k60).kp0 k66).kp0 k72).kp0 k78).kp0 k84).kp0 k90).kp0 k96).kp0 k102).kp0 n108.kp
 refine WO.insert rfl rfl rfl B110 rfl Try.underlying111 Try.underlying3 ?_
 intro w111 B111 k111 z_111
 have z111 := z_111.symm
 have b111 := old_kp b108 k111 (mem1 (by omega))
 have y111 := b111.size
 refine WO.v (R.move rfl) rfl ?_
 refine WO.v (R.move rfl) rfl ?_
 refine WO.c (E.call rfl rfl Try.func89 rfl rfl) (fa1_s (a := (1 : Int)) (b := (1 : Int)) (show I64 (1) from ⟨by omega, by omega⟩) (show I64 (1) from ⟨by omega, by omega⟩)) rfl ?_
 rintro _ w112 ⟨cs113, rfl, r114, k112⟩
 have z112 := k112.size
 have b112 := old_kp0 b111 k112
 have y112 := b112.size
 obtain ⟨rfl, i115, i116, i117⟩ := Spec.el r114
 refine WO.c (E.call rfl rfl Try.func91 rfl rfl) (fa3_s (x := (⟨((1 : Int)), (0 : Int), ((1 : Int)), (false), (false)⟩ : Spec)) (Spec.mk_ (i115) (i116) (i117))) rfl ?_
 rintro _ w118 ⟨cs119, rfl, r120, k118⟩
 have z118 := k118.size
 have b118 := old_kp0 b112 k118
 have y118 := b118.size
 obtain ⟨rfl, i121, i122, i123⟩ := Spec.el r120
 refine WO.v (R.move rfl) rfl ?_
 refine WO.v (R.move rfl) rfl ?_
 refine WO.c (E.call rfl rfl Try.func89 rfl rfl) (fa1_s (a := (2 : Int)) (b := (1 : Int)) (show I64 (2) from ⟨by omega, by omega⟩) (show I64 (1) from ⟨by omega, by omega⟩)) rfl ?_
 rintro _ w124 ⟨cs125, rfl, r126, k124⟩
 have z124 := k124.size
 have b124 := old_kp0 b118 k124
 have y124 := b124.size
 obtain ⟨rfl, i127, i128, i129⟩ := Spec.el r126
 refine WO.c (E.call rfl rfl Try.func91 rfl rfl) (fa3_s (x := (⟨((2 : Int)), (0 : Int), ((1 : Int)), (false), (false)⟩ : Spec)) (Spec.mk_ (i127) (i128) (i129))) rfl ?_
 rintro _ w130 ⟨cs131, rfl, r132, k130⟩
 have z130 := k130.size
 have b130 := old_kp0 b124 k130
 have y130 := b130.size
 obtain ⟨rfl, i133, i134, i135⟩ := Spec.el r132
 refine WO.buildSlice (parts := [_, _]) (vss := [[_, _, _, _, _], [_, _, _, _, _]]) Try.underlying80 sz83 zr83 rfl rfl (by simp) rfl rfl rfl ?_
 intro w136 n136
 have z136 := n136.lt
 have b136 := old_kp0 b130 n136.kp
 have y136 := b136.size
 have ac137 : Ac (α := Spec) (w130.heap.size) true (w.heap.size) (w136.heap.size) (w136.heap.size) w136 (.slice (some ⟨w130.heap.size, 0, none⟩) 2 2) ([(⟨((⟨((1 : Int)), (0 : Int), ((1 : Int)), (false), (false)⟩ : Spec)).num, ((⟨((1 : Int)), (0 : Int), ((1 : Int)), (false), (false)⟩ : Spec)).wire, ((⟨((1 : Int)), (0 : Int), ((1 : Int)), (false), (false)⟩ : Spec)).since, (true), (((⟨((1 : Int)), (0 : Int), ((1 : Int)), (false), (false)⟩ : Spec)).many)⟩ : Spec), (⟨((⟨((2 : Int)), (0 : Int), ((1 : Int)), (false), (false)⟩ : Spec)).num, ((⟨((2 : Int)), (0 : Int), ((1 : Int)), (false), (false)⟩ : Spec)).wire, ((⟨((2 : Int)), (0 : Int), ((1 : Int)), (false), (false)⟩ : Spec)).since, (true), (((⟨((2 : Int)), (0 : Int), ((1 : Int)), (false), (false)⟩ : Spec)).many)⟩ : Spec)] : List Spec) := Ac.lit (α := Spec) (ys := ([(⟨((⟨((1 : Int)), (0 : Int), ((1 : Int)), (false), (false)⟩ : Spec)).num, ((⟨((1 : Int)), (0 : Int), ((1 : Int)), (false), (false)⟩ : Spec)).wire, ((⟨((1 : Int)), (0 : Int), ((1 : Int)), (false), (false)⟩ : Spec)).since, (true), (((⟨((1 : Int)), (0 : Int), ((1 : Int)), (false), (false)⟩ : Spec)).many)⟩ : Spec), (⟨((⟨((2 : Int)), (0 : Int), ((1 : Int)), (false), (false)⟩ : Spec)).num, ((⟨((2 : Int)), (0 : Int), ((1 : Int)), (false), (false)⟩ : Spec)).wire, ((⟨((2 : Int)), (0 : Int), ((1 : Int)), (false), (false)⟩ : Spec)).since, (true), (((⟨((2 : Int)), (0 : Int), ((1 : Int)), (false), (false)⟩ : Spec)).many)⟩ : Spec)] : List Spec)) (css := [[_, _, _, _, _], [_, _, _, _, _]]) n136.blk (.cons ((Spec.mk_ (i121) (i122) (i123))) (.cons ((Spec.mk_ (i133) (i134) (i135))) (.nil))) (by omega) (by omega) (by simp [maxLen]) (by show 2 * 32 ≤ 140737488355328; decide) rfl
 have lenac137 : ([(⟨((⟨((1 : Int)), (0 : Int), ((1 : Int)), (false), (false)⟩ : Spec)).num, ((⟨((1 : Int)), (0 : Int), ((1 : Int)), (false), (false)⟩ : Spec)).wire, ((⟨((1 : Int)), (0 : Int), ((1 : Int)), (false), (false)⟩ : Spec)).since, (true), (((⟨((1 : Int)), (0 : Int), ((1 : Int)), (false), (false)⟩ : Spec)).many)⟩ : Spec), (⟨((⟨((2 : Int)), (0 : Int), ((1 : Int)), (false), (false)⟩ : Spec)).num, ((⟨((2 : Int)), (0 : Int), ((1 : Int)), (false), (false)⟩ : Spec)).wire, ((⟨((2 : Int)), (0 : Int), ((1 : Int)), (false), (false)⟩ : Spec)).since, (true), (((⟨((2 : Int)), (0 : Int), ((1 : Int)), (false), (false)⟩ : Spec)).many)⟩ : Spec)] : List Spec).length = 2 := rfl
 have B138 := (((((B111).kp0 k112).kp0 k118).kp0 k124).kp0 k130).kp0 n136.kp
 refine WO.insert rfl rfl rfl B138 rfl Try.underlying111 Try.underlying3 ?_
 intro w139 B139 k139 z_139
 have z139 := z_139.symm
 have b139 := old_kp b136 k139 (mem1 (by omega))
 have y139 := b139.size
 refine WO.v (R.move rfl) rfl ?_
 refine WO.v (R.move rfl) rfl ?_
 refine WO.c (E.call rfl rfl Try.func89 rfl rfl) (fa1_s (a := (1 : Int)) (b := (1 : Int)) (show I64 (1) from ⟨by omega, by omega⟩) (show I64 (1) from ⟨by omega, by omega⟩)) rfl ?_
 rintro _ w140 ⟨cs141, rfl, r142, k140⟩
 have z140 := k140.size
 have b140 := old_kp0 b139 k140
 have y140 := b140.size
 obtain ⟨rfl, i143, i144, i145⟩ := Spec.el r142
 refine WO.c (E.call rfl rfl Try.func91 rfl rfl) (fa3_s (x := (⟨((1 : Int)), (0 : Int), ((1 : Int)), (false), (false)⟩ : Spec)) (Spec.mk_ (i143) (i144) (i145))) rfl ?_
 rintro _ w146 ⟨cs147, rfl, r148, k146⟩
 have z146 := k146.size
 have b146 := old_kp0 b140 k146
 have y146 := b146.size
 obtain ⟨rfl, i149, i150, i151⟩ := Spec.el r148
 refine WO.v (R.move rfl) rfl ?_
 refine WO.c (E.call rfl rfl Try.func89 rfl rfl) (fa1_s (a := (2 : Int)) (b := (1 : Int)) (show I64 (2) from ⟨by omega, by omega⟩) (show I64 (1) from ⟨by omega, by omega⟩)) rfl ?_
 rintro _ w152 ⟨cs153, rfl, r154, k152⟩
 have z152 := k152.size
 have b152 := old_kp0 b146 k152
 have y152 := b152.size
 obtain ⟨rfl, i155, i156, i157⟩ := Spec.el r154
 refine WO.v (R.move rfl) rfl ?_
 refine WO.c (E.call rfl rfl Try.func89 rfl rfl) (fa1_s (a := (3 : Int)) (b := (1 : Int)) (show I64 (3) from ⟨by omega, by omega⟩) (show I64 (1) from ⟨by omega, by omega⟩)) rfl ?_
 rintro _ w158 ⟨cs159, rfl, r160, k158⟩
 have z158 := k158.size
 have b158 := old_kp0 b152 k158
 have y158 := b158.size
 obtain ⟨rfl, i161, i162, i163⟩ := Spec.el r160
 refine WO.v (R.move rfl) rfl ?_
 refine WO.c (E.call rfl rfl Try.func89 rfl rfl) (fa1_s (a := (4 : Int)) (b := (1 : Int)) (show I64 (4) from ⟨by omega, by omega⟩) (show I64 (1) from ⟨by omega, by omega⟩)) rfl ?_
 rintro _ w164 ⟨cs165, rfl, r166, k164⟩
 have z164 := k164.size
 have b164 := old_kp0 b158 k164
 have y164 := b164.size
 obtain ⟨rfl, i167, i168, i169⟩ := Spec.el r166
 refine WO.buildSlice (parts := [_, _, _, _]) (vss := [[_, _, _, _, _], [_, _, _, _, _], [_, _, _, _, _], [_, _, _, _, _]]) Try.underlying80 sz83 zr83 rfl rfl (by simp) rfl rfl rfl ?_
 intro w170 n170
 have z170 := n170.lt
 have b170 := old_kp0 b164 n170.kp
 have y170 := b170.size
 have ac171 : Ac (α := Spec) (w164.heap.size) true (w.heap.size) (w170.heap.size) (w170.heap.size) w170 (.slice (some ⟨w164.heap.size, 0, none⟩) 4 4) ([(⟨((⟨((1 : Int)), (0 : Int), ((1 : Int)), (false), (false)⟩ : Spec)).num, ((⟨((1 : Int)), (0 : Int), ((1 : Int)), (false), (false)⟩ : Spec)).wire, ((⟨((1 : Int)), (0 : Int), ((1 : Int)), (false), (false)⟩ : Spec)).since, (true), (((⟨((1 : Int)), (0 : Int), ((1 : Int)), (false), (false)⟩ : Spec)).many)⟩ : Spec), (⟨((2 : Int)), (0 : Int), ((1 : Int)), (false), (false)⟩ : Spec), (⟨((3 : Int)), (0 : Int), ((1 : Int)), (false), (false)⟩ : Spec), (⟨((4 : Int)), (0 : Int), ((1 : Int)), (false), (false)⟩ : Spec)] : List Spec) := Ac.lit (α := Spec) (ys := ([(⟨((⟨((1 : Int)), (0 : Int), ((1 : Int)), (false), (false)⟩ : Spec)).num, ((⟨((1 : Int)), (0 : Int), ((1 : Int)), (false), (false)⟩ : Spec)).wire, ((⟨((1 : Int)), (0 : Int), ((1 : Int)), (false), (false)⟩ : Spec)).since, (true), (((⟨((1 : Int)), (0 : Int), ((1 : Int)), (false), (false)⟩ : Spec)).many)⟩ : Spec), (⟨((2 : Int)), (0 : Int), ((1 : Int)), (false), (false)⟩ : Spec), (⟨((3 : Int)), (0 : Int), ((1 : Int)), (false), (false)⟩ : Spec), (⟨((4 : Int)), (0 : Int), ((1 : Int)), (false), (false)⟩ : Spec)] : List Spec)) (css := [[_, _, _, _, _], [_, _, _, _, _], [_, _, _, _, _], [_, _, _, _, _]]) n170.blk (.cons ((Spec.mk_ (i149) (i150) (i151))) (.cons ((Spec.mk_ (i155) (i156) (i157))) (.cons ((Spec.mk_ (i161) (i162) (i163))) (.cons ((Spec.mk_ (i167) (i168) (i169))) (.nil))))) (by omega) (by omega) (by simp [maxLen]) (by show 4 * 32 ≤ 140737488355328; decide) rfl
 have lenac171 : ([(⟨((⟨((1 : Int)), (0 : Int), ((1 : Int)), (false), (false)⟩ : Spec)).num, ((⟨((1 : Int)), (0 : Int), ((1 : Int)), (false), (false)⟩ : Spec)).wire, ((⟨((1 : Int)), (0 : Int), ((1 : Int)), (false), (false)⟩ : Spec)).since, (true), (((⟨((1 : Int)), (0 : Int), ((1 : Int)), (false), (false)⟩ : Spec)).many)⟩ : Spec), (⟨((2 : Int)), (0 : Int), ((1 : Int)), (false), (false)⟩ : Spec), (⟨((3 : Int)), (0 : Int), ((1 : Int)), (false), (false)⟩ : Spec), (⟨((4 : Int)), (0 : Int), ((1 : Int)), (false), (false)⟩ : Spec)] : List Spec).length = 4 := rfl
 have B172 := ((((((B139).kp0 k140).kp0 k146).kp0 k152).kp0 k158).kp0 k164).kp0 n170.kp
 refine WO.insert rfl rfl rfl B172 rfl Try.underlying111 Try.underlying3 ?_
 intro w173 B173 k173 z_173
 have z173 := z_173.symm
 have b173 := old_kp b170 k173 (mem1 (by omega))
 have y173 := b173.size
 refine WO.v (R.move rfl) rfl ?_
 refine WO.v (R.move rfl) rfl ?_
 refine WO.c (E.call rfl rfl Try.func89 rfl rfl) (fa1_s (a := (1 : Int)) (b := (1 : Int)) (show I64 (1) from ⟨by omega, by omega⟩) (show I64 (1) from ⟨by omega, by omega⟩)) rfl ?_
 rintro _ w174 ⟨cs175, rfl, r176, k174⟩
 have z174 := k174.size
 have b174 := old_kp0 b173 k174
 have y174 := b174.size
 obtain ⟨rfl, i177, i178, i179⟩ := Spec.el r176
 refine WO.c (E.call rfl rfl Try.func91 rfl rfl) (fa3_s (x := (⟨((1 : Int)), (0 : Int), ((1 : Int)), (false), (false)⟩ : Spec)) (Spec.mk_ (i177) (i178) (i179))) rfl ?_
 rintro _ w180 ⟨cs181, rfl, r182, k180⟩
 have z180 := k180.size
 have b180 := old_kp0 b174 k180
 have y180 := b180.size
 obtain ⟨rfl, i183, i184, i185⟩ := Spec.el r182
 refine WO.v (R.move rfl) rfl ?_
 refine WO.v (R.move rfl) rfl ?_
 refine WO.c (E.call rfl rfl Try.func89 rfl rfl) (fa1_s (a := (2 : Int)) (b := (1 : Int)) (show I64 (2) from ⟨by omega, by omega⟩) (show I64 (1) from ⟨by omega, by omega⟩)) rfl ?_
 rintro _ w186 ⟨cs187, rfl, r188, k186⟩
 have z186 := k186.size
 have b186 := old_kp0 b180 k186
 have y186 := b186.size
 obtain ⟨rfl, i189, i190, i191⟩ := Spec.el r188
 refine WO.c (E.call rfl rfl Try.func91 rfl rfl) (fa3_s (x := (⟨((2 : Int)), (0 : Int), ((1 : Int)), (false), (false)⟩ : Spec)) (Spec.mk_ (i189) (i190) (i191))) rfl ?_
 rintro _ w192 ⟨cs193, rfl, r194, k192⟩
 have z192 := k192.size
 have b192 := old_kp0 b186 k192
 have y192 := b192.size
 obtain ⟨rfl, i195, i196, i197⟩ := Spec.el r194
 refine WO.v (R.move rfl) rfl ?_
 refine WO.c (E.call rfl rfl Try.func89 rfl rfl) (fa1_s (a := (3 : Int)) (b := (1 : Int)) (show I64 (3) from ⟨by omega, by omega⟩) (show I64 (1) from ⟨by omega, by omega⟩)) rfl ?_
 rintro _ w198 ⟨cs199, rfl, r200, k198⟩
 have z198 := k198.size
 have b198 := old_kp0 b192 k198
 have y198 := b198.size
 obtain ⟨rfl, i201, i202, i203⟩ := Spec.el r200
 refine WO.v (R.move rfl) rfl ?_
 refine WO.v (R.move rfl) rfl ?_
 refine WO.c (E.call rfl rfl Try.func90 rfl rfl) (fa2_s (a := (4 : Int)) (b := (1 : Int)) (show I64 (4) from ⟨by omega, by omega⟩) (show I64 (1) from ⟨by omega, by omega⟩)) rfl ?_
 rintro _ w204 ⟨cs205, rfl, r206, k204⟩
 have z204 := k204.size
 have b204 := old_kp0 b198 k204
 have y204 := b204.size
 obtain ⟨rfl, i207, i208, i209⟩ := Spec.el r206
 refine WO.c (E.call rfl rfl Try.func92 rfl rfl) (fa4_s (x := (⟨((4 : Int)), (2 : Int), ((1 : Int)), (false), (false)⟩ : Spec)) (Spec.mk_ (i207) (i208) (i209))) rfl ?_
 rintro _ w210 ⟨cs211, rfl, r212, k210⟩
 have z210 := k210.size
 have b210 := old_kp0 b204 k210
 have y210 := b210.size
 obtain ⟨rfl, i213, i214, i215⟩ := Spec.el r212
 refine WO.v (R.move rfl) rfl ?_
 refine WO.v (R.move rfl) rfl ?_
 refine WO.c (E.call rfl rfl Try.func90 rfl rfl) (fa2_s (a := (5 : Int)) (b := (1 : Int)) (show I64 (5) from ⟨by omega, by omega⟩) (show I64 (1) from ⟨by omega, by omega⟩)) rfl ?_
 rintro _ w216 ⟨cs217, rfl, r218, k216⟩
 have z216 := k216.size
 have b216 := old_kp0 b210 k216
 have y216 := b216.size
 obtain ⟨rfl, i219, i220, i221⟩ := Spec.el r218
 refine WO.c (E.call rfl rfl Try.func92 rfl rfl) (fa4_s (x := (⟨((5 : Int)), (2 : Int), ((1 : Int)), (false), (false)⟩ : Spec)) (Spec.mk_ (i219) (i220) (i221))) rfl ?_
 rintro _ w222 ⟨cs223, rfl, r224, k222⟩
 have z222 := k222.size
 have b222 := old_kp0 b216 k222
 have y222 := b222.size
 obtain ⟨rfl, i225, i226, i227⟩ := Spec.el r224
 refine WO.v (R.move rfl) rfl ?_
 refine WO.v (R.move rfl) rfl ?_
 refine WO.c (E.call rfl rfl Try.func90 rfl rfl) (fa2_s (a := (6 : Int)) (b := (1 : Int)) (show I64 (6) from ⟨by omega, by omega⟩) (show I64 (1) from ⟨by omega, by omega⟩)) rfl ?_
 rintro _ w228 ⟨cs229, rfl, r230, k228⟩
 have z228 := k228.size
 have b228 := old_kp0 b222 k228
 have y228 := b228.size
 obtain ⟨rfl, i231, i232, i233⟩ := Spec.el r230
 refine WO.c (E.call rfl rfl Try.func92 rfl rfl) (fa4_s (x := (⟨((6 : Int)), (2 : Int), ((1 : Int)), (false), (false)⟩ : Spec)) (Spec.mk_ (i231) (i232) (i233))) rfl ?_
 rintro _ w234 ⟨cs235, rfl, r236, k234⟩
 have z234 := k234.size
 have b234 := old_kp0 b228 k234
 have y234 := b234.size
 obtain ⟨rfl, i237, i238, i239⟩ := Spec.el r236
 refine WO.v (R.move rfl) rfl ?_
 refine WO.c (E.call rfl rfl Try.func89 rfl rfl) (fa1_s (a := (7 : Int)) (b := (3 : Int)) (show I64 (7) from ⟨by omega, by omega⟩) (show I64 (3) from ⟨by omega, by omega⟩)) rfl ?_
 rintro _ w240 ⟨cs241, rfl, r242, k240⟩
 have z240 := k240.size
 have b240 := old_kp0 b234 k240
 have y240 := b240.size
 obtain ⟨rfl, i243, i244, i245⟩ := Spec.el r242
 refine WO.buildSlice (parts := [_, _, _, _, _, _, _]) (vss := [[_, _, _, _, _], [_, _, _, _, _], [_, _, _, _, _], [_, _, _, _, _], [_, _, _, _, _], [_, _, _, _, _], [_, _, _, _, _]]) Try.underlying80 sz83 zr83 rfl rfl (by simp) rfl rfl rfl ?_
 intro w246 n246
 have z246 := n246.lt
 have b246 := old_kp0 b240 n246.kp
 have y246 := b246.size
 have ac247 : Ac (α := Spec) (w240.heap.size) true (w.heap.size) (w246.heap.size) (w246.heap.size) w246 (.slice (some ⟨w240.heap.size, 0, none⟩) 7 7) ([(⟨((⟨((1 : Int)), (0 : Int), ((1 : Int)), (false), (false)⟩ : Spec)).num, ((⟨((1 : Int)), (0 : Int), ((1 : Int)), (false), (false)⟩ : Spec)).wire, ((⟨((1 : Int)), (0 : Int), ((1 : Int)), (false), (false)⟩ : Spec)).since, (true), (((⟨((1 : Int)), (0 : Int), ((1 : Int)), (false), (false)⟩ : Spec)).many)⟩ : Spec), (⟨((⟨((2 : Int)), (0 : Int), ((1 : Int)), (false), (false)⟩ : Spec)).num, ((⟨((2 : Int)), (0 : Int), ((1 : Int)), (false), (false)⟩ : Spec)).wire, ((⟨((2 : Int)), (0 : Int), ((1 : Int)), (false), (false)⟩ : Spec)).since, (true), (((⟨((2 : Int)), (0 : Int), ((1 : Int)), (false), (false)⟩ : Spec)).many)⟩ : Spec), (⟨((3 : Int)), (0 : Int), ((1 : Int)), (false), (false)⟩ : Spec), (⟨((⟨((4 : Int)), (2 : Int), ((1 : Int)), (false), (false)⟩ : Spec)).num, ((⟨((4 : Int)), (2 : Int), ((1 : Int)), (false), (false)⟩ : Spec)).wire, ((⟨((4 : Int)), (2 : Int), ((1 : Int)), (false), (false)⟩ : Spec)).since, (((⟨((4 : Int)), (2 : Int), ((1 : Int)), (false), (false)⟩ : Spec)).need), (true)⟩ : Spec), (⟨((⟨((5 : Int)), (2 : Int), ((1 : Int)), (false), (false)⟩ : Spec)).num, ((⟨((5 : Int)), (2 : Int), ((1 : Int)), (false), (false)⟩ : Spec)).wire, ((⟨((5 : Int)), (2 : Int), ((1 : Int)), (false), (false)⟩ : Spec)).since, (((⟨((5 : Int)), (2 : Int), ((1 : Int)), (false), (false)⟩ : Spec)).need), (true)⟩ : Spec), (⟨((⟨((6 : Int)), (2 : Int), ((1 : Int)), (false), (false)⟩ : Spec)).num, ((⟨((6 : Int)), (2 : Int), ((1 : Int)), (false), (false)⟩ : Spec)).wire, ((⟨((6 : Int)), (2 : Int), ((1 : Int)), (false), (false)⟩ : Spec)).since, (((⟨((6 : Int)), (2 : Int), ((1 : Int)), (false), (false)⟩ : Spec)).need), (true)⟩ : Spec), (⟨((7 : Int)), (0 : Int), ((3 : Int)), (false), (false)⟩ : Spec)] : List Spec) := Ac.lit (α := Spec) (ys := ([(⟨((⟨((1 : Int)), (0 : Int), ((1 : Int)), (false), (false)⟩ : Spec)).num, ((⟨((1 : Int)), (0 : Int), ((1 : Int)), (false), (false)⟩ : Spec)).wire, ((⟨((1 : Int)), (0 : Int), ((1 : Int)), (false), (false)⟩ : Spec)).since, (true), (((⟨((1 : Int)), (0 : Int), ((1 : Int)), (false), (false)⟩ : Spec)).many)⟩ : Spec), (⟨((⟨((2 : Int)), (0 : Int), ((1 : Int)), (false), (false)⟩ : Spec)).num, ((⟨((2 : Int)), (0 : Int), ((1 : Int)), (false), (false)⟩ : Spec)).wire, ((⟨((2 : Int)), (0 : Int), ((1 : Int)), (false), (false)⟩ : Spec)).since, (true), (((⟨((2 : Int)), (0 : Int), ((1 : Int)), (false), (false)⟩ : Spec)).many)⟩ : Spec), (⟨((3 : Int)), (0 : Int), ((1 : Int)), (false), (false)⟩ : Spec), (⟨((⟨((4 : Int)), (2 : Int), ((1 : Int)), (false), (false)⟩ : Spec)).num, ((⟨((4 : Int)), (2 : Int), ((1 : Int)), (false), (false)⟩ : Spec)).wire, ((⟨((4 : Int)), (2 : Int), ((1 : Int)), (false), (false)⟩ : Spec)).since, (((⟨((4 : Int)), (2 : Int), ((1 : Int)), (false), (false)⟩ : Spec)).need), (true)⟩ : Spec), (⟨((⟨((5 : Int)), (2 : Int), ((1 : Int)), (false), (false)⟩ : Spec)).num, ((⟨((5 : Int)), (2 : Int), ((1 : Int)), (false), (false)⟩ : Spec)).wire, ((⟨((5 : Int)), (2 : Int), ((1 : Int)), (false), (false)⟩ : Spec)).since, (((⟨((5 : Int)), (2 : Int), ((1 : Int)), (false), (false)⟩ : Spec)).need), (true)⟩ : Spec), (⟨((⟨((6 : Int)), (2 : Int), ((1 : Int)), (false), (false)⟩ : Spec)).num, ((⟨((6 : Int)), (2 : Int), ((1 : Int)), (false), (false)⟩ : Spec)).wire, ((⟨((6 : Int)), (2 : Int), ((1 : Int)), (false), (false)⟩ : Spec)).since, (((⟨((6 : Int)), (2 : Int), ((1 : Int)), (false), (false)⟩ : Spec)).need), (true)⟩ : Spec), (⟨((7 : Int)), (0 : Int), ((3 : Int)), (false), (false)⟩ : Spec)] : List Spec)) (css := [[_, _, _, _, _], [_, _, _, _, _], [_, _, _, _, _], [_, _, _, _, _], [_, _, _, _, _], [_, _, _, _, _], [_, _, _, _, _]]) n246.blk (.cons ((Spec.mk_ (i183) (i184) (i185))) (.cons ((Spec.mk_ (i195) (i196) (i197))) (.cons ((Spec.mk_ (i201) (i202) (i203))) (.cons ((Spec.mk_ (i213) (i214) (i215))) (.cons ((Spec.mk_ (i225) (i226) (i227))) (.cons ((Spec.mk_ (i237) (i238) (i239))) (.cons ((Spec.mk_ (i243) (i244) (i245))) (.nil)))))))) (by omega) (by omega) (by simp [maxLen]) (by show 7 * 32 ≤ 140737488355328; decide) rfl
 have lenac247 : ([(⟨((⟨((1 : Int)), (0 : Int), ((1 : Int)), (false), (false)⟩ : Spec)).num, ((⟨((1 : Int)), (0 : Int), ((1 : Int)), (false), (false)⟩ : Spec)).wire, ((⟨((1 : Int)), (0 : Int), ((1 : Int)), (false), (false)⟩ : Spec)).since, (true), (((⟨((1 : Int)), (0 : Int), ((1 : Int)), (false), (false)⟩ : Spec)).many)⟩ : Spec), (⟨((⟨((2 : Int)), (0 : Int), ((1 : Int)), (false), (false)⟩ : Spec)).num, ((⟨((2 : Int)), (0 : Int), ((1 : Int)), (false), (false)⟩ : Spec)).wire, ((⟨((2 : Int)), (0 : Int), ((1 : Int)), (false), (false)⟩ : Spec)).since, (true), (((⟨((2 : Int)), (0 : Int), ((1 : Int)), (false), (false)⟩ : Spec)).many)⟩ : Spec), (⟨((3 : Int)), (0 : Int), ((1 : Int)), (false), (false)⟩ : Spec), (⟨((⟨((4 : Int)), (2 : Int), ((1 : Int)), (false), (false)⟩ : Spec)).num, ((⟨((4 : Int)), (2 : Int), ((1 : Int)), (false), (false)⟩ : Spec)).wire, ((⟨((4 : Int)), (2 : Int), ((1 : Int)), (false), (false)⟩ : Spec)).since, (((⟨((4 : Int)), (2 : Int), ((1 : Int)), (false), (false)⟩ : Spec)).need), (true)⟩ : Spec), (⟨((⟨((5 : Int)), (2 : Int), ((1 : Int)), (false), (false)⟩ : Spec)).num, ((⟨((5 : Int)), (2 : Int), ((1 : Int)), (false), (false)⟩ : Spec)).wire, ((⟨((5 : Int)), (2 : Int), ((1 : Int)), (false), (false)⟩ : Spec)).since, (((⟨((5 : Int)), (2 : Int), ((1 : Int)), (false), (false)⟩ : Spec)).need), (true)⟩ : Spec), (⟨((⟨((6 : Int)), (2 : Int), ((1 : Int)), (false), (false)⟩ : Spec)).num, ((⟨((6 : Int)), (2 : Int), ((1 : Int)), (false), (false)⟩ : Spec)).wire, ((⟨((6 : Int)), (2 : Int), ((1 : Int)), (false), (false)⟩ : Spec)).since, (((⟨((6 : Int)), (2 : Int), ((1 : Int)), (false), (false)⟩ : Spec)).need), (true)⟩ : Spec), (⟨((7 : Int)), (0 : Int), ((3 : Int)), (false), (false)⟩ : Spec)] : List Spec).length = 7 := rfl
 have B248 := (((((((((((((B173).kp0 k174).kp0 k180).kp0 k186).kp0 k192).kp0 k198).kp0 k204).kp0 k210).kp0 k216).kp0 k222).kp0 k228).kp0 k234).kp0 k240).kp0 n246.kp
 refine WO.insert rfl rfl rfl B248 rfl Try.underlying111 Try.underlying3 ?_
 intro w249 B249 k249 z_249
 have z249 := z_249.symm
 have b249 := old_kp b246 k249 (mem1 (by omega))
 have y249 := b249.size
 refine WO.v (R.move rfl) rfl ?_
 refine WO.v (R.move rfl) rfl ?_
 refine WO.c (E.call rfl rfl Try.func89 rfl rfl) (fa1_s (a := (1 : Int)) (b := (1 : Int)) (show I64 (1) from ⟨by omega, by omega⟩) (show I64 (1) from ⟨by omega, by omega⟩)) rfl ?_
 rintro _ w250 ⟨cs251, rfl, r252, k250⟩
 have z250 := k250.size
 have b250 := old_kp0 b249 k250
 have y250 := b250.size
 obtain ⟨rfl, i253, i254, i255⟩ := Spec.el r252
 refine WO.c (E.call rfl rfl Try.func91 rfl rfl) (fa3_s (x := (⟨((1 : Int)), (0 : Int), ((1 : Int)), (false), (false)⟩ : Spec)) (Spec.mk_ (i253) (i254) (i255))) rfl ?_
 rintro _ w256 ⟨cs257, rfl, r258, k256⟩
 have z256 := k256.size
 have b256 := old_kp0 b250 k256
 have y256 := b256.size
 obtain ⟨rfl, i259, i260, i261⟩ := Spec.el r258
 refine WO.v (R.move rfl) rfl ?_
 refine WO.v (R.move rfl) rfl ?_
 refine WO.c (E.call rfl rfl Try.func89 rfl rfl) (fa1_s (a := (2 : Int)) (b := (1 : Int)) (show I64 (2) from ⟨by omega, by omega⟩) (show I64 (1) from ⟨by omega, by omega⟩)) rfl ?_
 rintro _ w262 ⟨cs263, rfl, r264, k262⟩
 have z262 := k262.size
 have b262 := old_kp0 b256 k262
 have y262 := b262.size
 obtain ⟨rfl, i265, i266, i267⟩ := Spec.el r264
 refine WO.c (E.call rfl rfl Try.func91 rfl rfl) (fa3_s (x := (⟨((2 : Int)), (0 : Int), ((1 : Int)), (false), (false)⟩ : Spec)) (Spec.mk_ (i265) (i266) (i267))) rfl ?_
 rintro _ w268 ⟨cs269, rfl, r270, k268⟩
 have z268 := k268.size
 have b268 := old_kp0 b262 k268
 have y268 := b268.size
 obtain ⟨rfl, i271, i272, i273⟩ := Spec.el r270
 refine WO.v (R.move rfl) rfl ?_
 refine WO.v (R.move rfl) rfl ?_
 refine WO.c (E.call rfl rfl Try.func89 rfl rfl) (fa1_s (a := (3 : Int)) (b := (1 : Int)) (show I64 (3) from ⟨by omega, by omega⟩) (show I64 (1) from ⟨by omega, by omega⟩)) rfl ?_
 rintro _ w274 ⟨cs275, rfl, r276, k274⟩
 have z274 := k274.size
 have b274 := old_kp0 b268 k274
 have y274 := b274.size
 obtain ⟨rfl, i277, i278, i279⟩ := Spec.el r276
 refine WO.c (E.call rfl rfl Try.func91 rfl rfl) (fa3_s (x := (⟨((3 : Int)), (0 : Int), ((1 : Int)), (false), (false)⟩ : Spec)) (Spec.mk_ (i277) (i278) (i279))) rfl ?_
 rintro _ w280 ⟨cs281, rfl, r282, k280⟩
 have z280 := k280.size
 have b280 := old_kp0 b274 k280
 have y280 := b280.size
 obtain ⟨rfl, i283, i284, i285⟩ := Spec.el r282
 refine WO.v (R.move rfl) rfl ?_
 refine WO.v (R.move rfl) rfl ?_
 refine WO.c (E.call rfl rfl Try.func89 rfl rfl) (fa1_s (a := (4 : Int)) (b := (1 : Int)) (show I64 (4) from ⟨by omega, by omega⟩) (show I64 (1) from ⟨by omega, by omega⟩)) rfl ?_
 rintro _ w286 ⟨cs287, rfl, r288, k286⟩
 have z286 := k286.size
 have b286 := old_kp0 b280 k286
 have y286 := b286.size
 obtain ⟨rfl, i289, i290, i291⟩ := Spec.el r288
 refine WO.c (E.call rfl rfl Try.func91 rfl rfl) (fa3_s (x := (⟨((4 : Int)), (0 : Int), ((1 : Int)), (false), (false)⟩ : Spec)) (Spec.mk_ (i289) (i290) (i291))) rfl ?_
 rintro _ w292 ⟨cs293, rfl, r294, k292⟩
 have z292 := k292.size
 have b292 := old_kp0 b286 k292
 have y292 := b292.size
 obtain ⟨rfl, i295, i296, i297⟩ := Spec.el r294
 refine WO.v (R.move rfl) rfl ?_
 refine WO.c (E.call rfl rfl Try.func89 rfl rfl) (fa1_s (a := (5 : Int)) (b := (1 : Int)) (show I64 (5) from ⟨by omega, by omega⟩) (show I64 (1) from ⟨by omega, by omega⟩)) rfl ?_
 rintro _ w298 ⟨cs299, rfl, r300, k298⟩
 have z298 := k298.size
 have b298 := old_kp0 b292 k298
 have y298 := b298.size
 obtain ⟨rfl, i301, i302, i303⟩ := Spec.el r300
 refine WO.v (R.move rfl) rfl ?_
 refine WO.c (E.call rfl rfl Try.func89 rfl rfl) (fa1_s (a := (6 : Int)) (b := (1 : Int)) (show I64 (6) from ⟨by omega, by omega⟩) (show I64 (1) from ⟨by omega, by omega⟩)) rfl ?_
 rintro _ w304 ⟨cs305, rfl, r306, k304⟩
 have z304 := k304.size
 have b304 := old_kp0 b298 k304
 have y304 := b304.size
 obtain ⟨rfl, i307, i308, i309⟩ := Spec.el r306
 refine WO.v (R.move rfl) rfl ?_
 refine WO.c (E.call rfl rfl Try.func89 rfl rfl) (fa1_s (a := (7 : Int)) (b := (1 : Int)) (show I64 (7) from ⟨by omega, by omega⟩) (show I64 (1) from ⟨by omega, by omega⟩)) rfl ?_
 rintro _ w310 ⟨cs311, rfl, r312, k310⟩
 have z310 := k310.size
 have b310 := old_kp0 b304 k310
 have y310 := b310.size
 obtain ⟨rfl, i313, i314, i315⟩ := Spec.el r312
 refine WO.v (R.move rfl) rfl ?_
 refine WO.c (E.call rfl rfl Try.func89 rfl rfl) (fa1_s (a := (8 : Int)) (b := (1 : Int)) (show I64 (8) from ⟨by omega, by omega⟩) (show I64 (1) from ⟨by omega, by omega⟩)) rfl ?_
 rintro _ w316 ⟨cs317, rfl, r318, k316⟩
 have z316 := k316.size
 have b316 := old_kp0 b310 k316
 have y316 := b316.size
 obtain ⟨rfl, i319, i320, i321⟩ := Spec.el r318
 refine WO.v (R.move rfl) rfl ?_
 refine WO.c (E.call rfl rfl Try.func89 rfl rfl) (fa1_s (a := (9 : Int)) (b := (1 : Int)) (show I64 (9) from ⟨by omega, by omega⟩) (show I64 (1) from ⟨by omega, by omega⟩)) rfl ?_
 rintro _ w322 ⟨cs323, rfl, r324, k322⟩
 have z322 := k322.size
 have b322 := old_kp0 b316 k322
 have y322 := b322.size
 obtain ⟨rfl, i325, i326, i327⟩ := Spec.el r324
 refine WO.v (R.move rfl) rfl ?_
 refine WO.v (R.move rfl) rfl ?_
 refine WO.c (E.call rfl rfl Try.func90 rfl rfl) (fa2_s (a := (10 : Int)) (b := (1 : Int)) (show I64 (10) from ⟨by omega, by omega⟩) (show I64 (1) from ⟨by omega, by omega⟩)) rfl ?_
 rintro _ w328 ⟨cs329, rfl, r330, k328⟩
 have z328 := k328.size
 have b328 := old_kp0 b322 k328
 have y328 := b328.size
 obtain ⟨rfl, i331, i332, i333⟩ := Spec.el r330
 refine WO.c (E.call rfl rfl Try.func92 rfl rfl) (fa4_s (x := (⟨((10 : Int)), (2 : Int), ((1 : Int)), (false), (false)⟩ : Spec)) (Spec.mk_ (i331) (i332) (i333))) rfl ?_
 rintro _ w334 ⟨cs335, rfl, r336, k334⟩
 have z334 := k334.size
 have b334 := old_kp0 b328 k334
 have y334 := b334.size
 obtain ⟨rfl, i337, i338, i339⟩ := Spec.el r336
 refine WO.buildSlice (parts := [_, _, _, _, _, _, _, _, _, _]) (vss := [[_, _, _, _, _], [_, _, _, _, _], [_, _, _, _, _], [_, _, _, _, _], [_, _, _, _, _], [_, _, _, _, _], [_, _, _, _, _], [_, _, _, _, _], [_, _, _, _, _], [_, _, _, _, _]]) Try.underlying80 sz83 zr83 rfl rfl (by simp) rfl rfl rfl ?_
 intro w340 n340
 have z340 := n340.lt
 have b340 := old_kp0 b334 n340.kp
 have y340 := b340.size
 have ac341 : Ac (α := Spec) (w334.heap.size) true (w.heap.size) (w340.heap.size) (w340.heap.size) w340 (.slice (some ⟨w334.heap.size, 0, none⟩) 10 10) ([(⟨((⟨((1 : Int)), (0 : Int), ((1 : Int)), (false), (false)⟩ : Spec)).num, ((⟨((1 : Int)), (0 : Int), ((1 : Int)), (false), (false)⟩ : Spec)).wire, ((⟨((1 : Int)), (0 : Int), ((1 : Int)), (false), (false)⟩ : Spec)).since, (true), (((⟨((1 : Int)), (0 : Int), ((1 : Int)), (false), (false)⟩ : Spec)).many)⟩ : Spec), (⟨((⟨((2 : Int)), (0 : Int), ((1 : Int)), (false), (false)⟩ : Spec)).num, ((⟨((2 : Int)), (0 : Int), ((1 : Int)), (false), (false)⟩ : Spec)).wire, ((⟨((2 : Int)), (0 : Int), ((1 : Int)), (false), (false)⟩ : Spec)).since, (true), (((⟨((2 : Int)), (0 : Int), ((1 : Int)), (false), (false)⟩ : Spec)).many)⟩ : Spec), (⟨((⟨((3 : Int)), (0 : Int), ((1 : Int)), (false), (false)⟩ : Spec)).num, ((⟨((3 : Int)), (0 : Int), ((1 : Int)), (false), (false)⟩ : Spec)).wire, ((⟨((3 : Int)), (0 : Int), ((1 : Int)), (false), (false)⟩ : Spec)).since, (true), (((⟨((3 : Int)), (0 : Int), ((1 : Int)), (false), (false)⟩ : Spec)).many)⟩ : Spec), (⟨((⟨((4 : Int)), (0 : Int), ((1 : Int)), (false), (false)⟩ : Spec)).num, ((⟨((4 : Int)), (0 : Int), ((1 : Int)), (false), (false)⟩ : Spec)).wire, ((⟨((4 : Int)), (0 : Int), ((1 : Int)), (false), (false)⟩ : Spec)).since, (true), (((⟨((4 : Int)), (0 : Int), ((1 : Int)), (false), (false)⟩ : Spec)).many)⟩ : Spec), (⟨((5 : Int)), (0 : Int), ((1 : Int)), (false), (false)⟩ : Spec), (⟨((6 : Int)), (0 : Int), ((1 : Int)), (false), (false)⟩ : Spec), (⟨((7 : Int)), (0 : Int), ((1 : Int)), (false), (false)⟩ : Spec), (⟨((8 : Int)), (0 : Int), ((1 : Int)), (false), (false)⟩ : Spec), (⟨((9 : Int)), (0 : Int), ((1 : Int)), (false), (false)⟩ : Spec), (⟨((⟨((10 : Int)), (2 : Int), ((1 : Int)), (false), (false)⟩ : Spec)).num, ((⟨((10 : Int)), (2 : Int), ((1 : Int)), (false), (false)⟩ : Spec)).wire, ((⟨((10 : Int)), (2 : Int), ((1 : Int)), (false), (false)⟩ : Spec)).since, (((⟨((10 : Int)), (2 : Int), ((1 : Int)), (false), (false)⟩ : Spec)).need), (true)⟩ : Spec)] : List Spec) := Ac.lit (α := Spec) (ys := ([(⟨((⟨((1 : Int)), (0 : Int), ((1 : Int)), (false), (false)⟩ : Spec)).num, ((⟨((1 : Int)), (0 : Int), ((1 : Int)), (false), (false)⟩ : Spec)).wire, ((⟨((1 : Int)), (0 : Int), ((1 : Int)), (false), (false)⟩ : Spec)).since, (true), (((⟨((1 : Int)), (0 : Int), ((1 : Int)), (false), (false)⟩ : Spec)).many)⟩ : Spec), (⟨((⟨((2 : Int)), (0 : Int), ((1 : Int)), (false), (false)⟩ : Spec)).num, ((⟨((2 : Int)), (0 : Int), ((1 : Int)), (false), (false)⟩ : Spec)).wire, ((⟨((2 : Int)), (0 : Int), ((1 : Int)), (false), (false)⟩ : Spec)).since, (true), (((⟨((2 : Int)), (0 : Int), ((1 : Int)), (false), (false)⟩ : Spec)).many)⟩ : Spec), (⟨((⟨((3 : Int)), (0 : Int), ((1 : Int)), (false), (false)⟩ : Spec)).num, ((⟨((3 : Int)), (0 : Int), ((1 : Int)), (false), (false)⟩ : Spec)).wire, ((⟨((3 : Int)), (0 : Int), ((1 : Int)), (false), (false)⟩ : Spec)).since, (true), (((⟨((3 : Int)), (0 : Int), ((1 : Int)), (false), (false)⟩ : Spec)).many)⟩ : Spec), (⟨((⟨((4 : Int)), (0 : Int), ((1 : Int)), (false), (false)⟩ : Spec)).num, ((⟨((4 : Int)), (0 : Int), ((1 : Int)), (false), (false)⟩ : Spec)).wire, ((⟨((4 : Int)), (0 : Int), ((1 : Int)), (false), (false)⟩ : Spec)).since, (true), (((⟨((4 : Int)), (0 : Int), ((1 : Int)), (false), (false)⟩ : Spec)).many)⟩ : Spec), (⟨((5 : Int)), (0 : Int), ((1 : Int)), (false), (false)⟩ : Spec), (⟨((6 : Int)), (0 : Int), ((1 : Int)), (false), (false)⟩ : Spec), (⟨((7 : Int)), (0 : Int), ((1 : Int)), (false), (false)⟩ : Spec), (⟨((8 : Int)), (0 : Int), ((1 : Int)), (false), (false)⟩ : Spec), (⟨((9 : Int)), (0 : Int), ((1 : Int)), (false), (false)⟩ : Spec), (⟨((⟨((10 : Int)), (2 : Int), ((1 : Int)), (false), (false)⟩ : Spec)).num, ((⟨((10 : Int)), (2 : Int), ((1 : Int)), (false), (false)⟩ : Spec)).wire, ((⟨((10 : Int)), (2 : Int), ((1 : Int)), (false), (false)⟩ : Spec)).since, (((⟨((10 : Int)), (2 : Int), ((1 : Int)), (false), (false)⟩ : Spec)).need), (true)⟩ : Spec)] : List Spec)) (css := [[_, _, _, _, _], [_, _, _, _, _], [_, _, _, _, _], [_, _, _, _, _], [_, _, _, _, _], [_, _, _, _, _], [_, _, _, _, _], [_, _, _, _, _], [_, _, _, _, _], [_, _, _, _, _]]) n340.blk (.cons ((Spec.mk_ (i259) (i260) (i261))) (.cons ((Spec.mk_ (i271) (i272) (i273))) (.cons ((Spec.mk_ (i283) (i284) (i285))) (.cons ((Spec.mk_ (i295) (i296) (i297))) (.cons ((Spec.mk_ (i301) (i302) (i303))) (.cons ((Spec.mk_ (i307) (i308) (i309))) (.cons ((Spec.mk_ (i313) (i314) (i315))) (.cons ((Spec.mk_ (i319) (i320) (i321))) (.cons ((Spec.mk_ (i325) (i326) (i327))) (.cons ((Spec.mk_ (i337) (i338) (i339))) (.nil))))))))))) (by omega) (by omega) (by simp [maxLen]) (by show 10 * 32 ≤ 140737488355328; decide) rfl
 have lenac341 : ([(⟨((⟨((1 : Int)), (0 : Int), ((1 : Int)), (false), (false)⟩ : Spec)).num, ((⟨((1 : Int)), (0 : Int), ((1 : Int)), (false), (false)⟩ : Spec)).wire, ((⟨((1 : Int)), (0 : Int), ((1 : Int)), (false), (false)⟩ : Spec)).since, (true), (((⟨((1 : Int)), (0 : Int), ((1 : Int)), (false), (false)⟩ : Spec)).many)⟩ : Spec), (⟨((⟨((2 : Int)), (0 : Int), ((1 : Int)), (false), (false)⟩ : Spec)).num, ((⟨((2 : Int)), (0 : Int), ((1 : Int)), (false), (false)⟩ : Spec)).wire, ((⟨((2 : Int)), (0 : Int), ((1 : Int)), (false), (false)⟩ : Spec)).since, (true), (((⟨((2 : Int)), (0 : Int), ((1 : Int)), (false), (false)⟩ : Spec)).many)⟩ : Spec), (⟨((⟨((3 : Int)), (0 : Int), ((1 : Int)), (false), (false)⟩ : Spec)).num, ((⟨((3 : Int)), (0 : Int), ((1 : Int)), (false), (false)⟩ : Spec)).wire, ((⟨((3 : Int)), (0 : Int), ((1 : Int)), (false), (false)⟩ : Spec)).since, (true), (((⟨((3 : Int)), (0 : Int), ((1 : Int)), (false), (false)⟩ : Spec)).many)⟩ : Spec), (⟨((⟨((4 : Int)), (0 : Int), ((1 : Int)), (false), (false)⟩ : Spec)).num, ((⟨((4 : Int)), (0 : Int), ((1 : Int)), (false), (false)⟩ : Spec)).wire, ((⟨((4 : Int)), (0 : Int), ((1 : Int)), (false), (false)⟩ : Spec)).since, (true), (((⟨((4 : Int)), (0 : Int), ((1 : Int)), (false), (false)⟩ : Spec)).many)⟩ : Spec), (⟨((5 : Int)), (0 : Int), ((1 : Int)), (false), (false)⟩ : Spec), (⟨((6 : Int)), (0 : Int), ((1 : Int)), (false), (false)⟩ : Spec), (⟨((7 : Int)), (0 : Int), ((1 : Int)), (false), (false)⟩ : Spec), (⟨((8 : Int)), (0 : Int), ((1 : Int)), (false), (false)⟩ : Spec), (⟨((9 : Int)), (0 : Int), ((1 : Int)), (false), (false)⟩ : Spec), (⟨((⟨((10 : Int)), (2 : Int), ((1 : Int)), (false), (false)⟩ : Spec)).num, ((⟨((10 : Int)), (2 : Int), ((1 : Int)), (false), (false)⟩ : Spec)).wire, ((⟨((10 : Int)), (2 : Int), ((1 : Int)), (false), (false)⟩ : Spec)).since, (((⟨((10 : Int)), (2 : Int), ((1 : Int)), (false), (false)⟩ : Spec)).need), (true)⟩ : Spec)] : List Spec).length = 10 := rfl
 have B342 := ((((((((((((((((B249).kp0 k250).kp0 k256).kp0 k262).kp0 k268).kp0 k274).kp0 k280).kp0 k286).kp0 k292).kp0 k298).kp0 k304).kp0 k310).kp0 k316).kp0 k322).kp0 k328).kp0 k334).kp0 n340.kp
 refine WO.insert rfl rfl rfl B342 rfl Try.underlying111 Try.underlying3 ?_
 intro w343 B343 k343 z_343
 have z343 := z_343.symm
 have b343 := old_kp b340 k343 (mem1 (by omega))
 have y343 := b343.size
 refine WO.v (R.move rfl) rfl ?_
 refine WO.v (R.move rfl) rfl ?_
 refine WO.c (E.call rfl rfl Try.func89 rfl rfl) (fa1_s (a := (1 : Int)) (b := (1 : Int)) (show I64 (1) from ⟨by omega, by omega⟩) (show I64 (1) from ⟨by omega, by omega⟩)) rfl ?_
 rintro _ w344 ⟨cs345, rfl, r346, k344⟩
 have z344 := k344.size
 have b344 := old_kp0 b343 k344
 have y344 := b344.size
 obtain ⟨rfl, i347, i348, i349⟩ := Spec.el r346
 refine WO.c (E.call rfl rfl Try.func91 rfl rfl) (fa3_s (x := (⟨((1 : Int)), (0 : Int), ((1 : Int)), (false), (false)⟩ : Spec)) (Spec.mk_ (i347) (i348) (i349))) rfl ?_
 rintro _ w350 ⟨cs351, rfl, r352, k350⟩
 have z350 := k350.size
 have b350 := old_kp0 b344 k350
 have y350 := b350.size
 obtain ⟨rfl, i353, i354, i355⟩ := Spec.el r352
 refine WO.v (R.move rfl) rfl ?_
 refine WO.c (E.call rfl rfl Try.func90 rfl rfl) (fa2_s (a := (2 : Int)) (b := (1 : Int)) (show I64 (2) from ⟨by omega, by omega⟩) (show I64 (1) from ⟨by omega, by omega⟩)) rfl ?_
 rintro _ w356 ⟨cs357, rfl, r358, k356⟩
 have z356 := k356.size
 have b356 := old_kp0 b350 k356
 have y356 := b356.size
 obtain ⟨rfl, i359, i360, i361⟩ := Spec.el r358
 refine WO.buildSlice (parts := [_, _]) (vss := [[_, _, _, _, _], [_, _, _, _, _]]) Try.underlying80 sz83 zr83 rfl rfl (by simp) rfl rfl rfl ?_
 intro w362 n362
 have z362 := n362.lt
 have b362 := old_kp0 b356 n362.kp
 have y362 := b362.size
 have ac363 : Ac (α := Spec) (w356.heap.size) true (w.heap.size) (w362.heap.size) (w362.heap.size) w362 (.slice (some ⟨w356.heap.size, 0, none⟩) 2 2) ([(⟨((⟨((1 : Int)), (0 : Int), ((1 : Int)), (false), (false)⟩ : Spec)).num, ((⟨((1 : Int)), (0 : Int), ((1 : Int)), (false), (false)⟩ : Spec)).wire, ((⟨((1 : Int)), (0 : Int), ((1 : Int)), (false), (false)⟩ : Spec)).since, (true), (((⟨((1 : Int)), (0 : Int), ((1 : Int)), (false), (false)⟩ : Spec)).many)⟩ : Spec), (⟨((2 : Int)), (2 : Int), ((1 : Int)), (false), (false)⟩ : Spec)] : List Spec) := Ac.lit (α := Spec) (ys := ([(⟨((⟨((1 : Int)), (0 : Int), ((1 : Int)), (false), (false)⟩ : Spec)).num, ((⟨((1 : Int)), (0 : Int), ((1 : Int)), (false), (false)⟩ : Spec)).wire, ((⟨((1 : Int)), (0 : Int), ((1 : Int)), (false), (false)⟩ : Spec)).since, (true), (((⟨((1 : Int)), (0 : Int), ((1 : Int)), (false), (false)⟩ : Spec)).many)⟩ : Spec), (⟨((2 : Int)), (2 : Int), ((1 : Int)), (false), (false)⟩ : Spec)] : List Spec)) (css := [[_, _, _, _, _], [_, _, _, _, _]]) n362.blk (.cons ((Spec.mk_ (i353) (i354) (i355))) (.cons ((Spec.mk_ (i359) (i360) (i361))) (.nil))) (by omega) (by omega) (by simp [maxLen]) (by show 2 * 32 ≤ 140737488355328; decide) rfl
 have lenac363 : ([(⟨((⟨((1 : Int)), (0 : Int), ((1 : Int)), (false), (false)⟩ : Spec)).num, ((⟨((1 : Int)), (0 : Int), ((1 : Int)), (false), (false)⟩ : Spec)).wire, ((⟨((1 : Int)), (0 : Int), ((1 : Int)), (false), (false)⟩ : Spec)).since, (true), (((⟨((1 : Int)), (0 : Int), ((1 : Int)), (false), (false)⟩ : Spec)).many)⟩ : Spec), (⟨((2 : Int)), (2 : Int), ((1 : Int)), (false), (false)⟩ : Spec)] : List Spec).length = 2 := rfl
 have B364 := ((((B343).kp0 k344).kp0 k350).kp0 k356).kp0 n362.kp
 refine WO.insert rfl rfl rfl B364 rfl Try.underlying111 Try.underlying3 ?_
 intro w365 B365 k365 z_365
 have z365 := z_365.symm
 have b365 := old_kp b362 k365 (mem1 (by omega))
 have y365 := b365.size
 refine WO.v (R.move rfl) rfl ?_
 refine WO.v (R.move rfl) rfl ?_
 refine WO.v (v := (.slice (some ⟨w50.heap.size, 0, none⟩) 8 8)) (R.lookupAt rfl rfl Try.underlying111 Try.underlying3 zv80 B365 rfl) rfl ?_
 refine WO.v (R.assign rfl) rfl ?_
 refine WO.nil ?_
 refine WX.sel [0, 2, 3, 4, 5, 6] rfl ?_
 refine WX.next ?_
 refine WC.ret ?_
 have e0 : ([(⟨((⟨((1 : Int)), (0 : Int), ((1 : Int)), (false), (false)⟩ : Spec)).num, ((⟨((1 : Int)), (0 : Int), ((1 : Int)), (false), (false)⟩ : Spec)).wire, ((⟨((1 : Int)), (0 : Int), ((1 : Int)), (false), (false)⟩ : Spec)).since, (true), (((⟨((1 : Int)), (0 : Int), ((1 : Int)), (false), (false)⟩ : Spec)).many)⟩ : Spec), (⟨((2 : Int)), (0 : Int), ((1 : Int)), (false), (false)⟩ : Spec), (⟨((3 : Int)), (0 : Int), ((1 : Int)), (false), (false)⟩ : Spec), (⟨((4 : Int)), (0 : Int), ((1 : Int)), (false), (false)⟩ : Spec), (⟨((5 : Int)), (0 : Int), ((1 : Int)), (false), (false)⟩ : Spec), (⟨((6 : Int)), (0 : Int), ((1 : Int)), (false), (false)⟩ : Spec), (⟨((7 : Int)), (2 : Int), ((1 : Int)), (false), (false)⟩ : Spec), (⟨((8 : Int)), (2 : Int), ((3 : Int)), (false), (false)⟩ : Spec)] : List Spec) = (specsL) := by rfl
 have n0 : 8 = (specsL).length := by first | (rw [← e0]; done) | (rw [← e0]; rfl)
 have f0 : Sl true w.heap.size w365.heap.size w365 (.slice (some ⟨w50.heap.size, 0, none⟩) 8 8) ([(⟨((⟨((1 : Int)), (0 : Int), ((1 : Int)), (false), (false)⟩ : Spec)).num, ((⟨((1 : Int)), (0 : Int), ((1 : Int)), (false), (false)⟩ : Spec)).wire, ((⟨((1 : Int)), (0 : Int), ((1 : Int)), (false), (false)⟩ : Spec)).since, (true), (((⟨((1 : Int)), (0 : Int), ((1 : Int)), (false), (false)⟩ : Spec)).many)⟩ : Spec), (⟨((2 : Int)), (0 : Int), ((1 : Int)), (false), (false)⟩ : Spec), (⟨((3 : Int)), (0 : Int), ((1 : Int)), (false), (false)⟩ : Spec), (⟨((4 : Int)), (0 : Int), ((1 : Int)), (false), (false)⟩ : Spec), (⟨((5 : Int)), (0 : Int), ((1 : Int)), (false), (false)⟩ : Spec), (⟨((6 : Int)), (0 : Int), ((1 : Int)), (false), (false)⟩ : Spec), (⟨((7 : Int)), (2 : Int), ((1 : Int)), (false), (false)⟩ : Spec), (⟨((8 : Int)), (2 : Int), ((3 : Int)), (false), (false)⟩ : Spec)] : List Spec) := ((ac_kpF (ac_kp0 (ac_kp0 (ac_kp0 (ac_kp0 (ac_kpF (ac_kp0 (ac_kp0 (ac_kp0 (ac_kp0 (ac_kp0 (ac_kp0 (ac_kp0 (ac_kp0 (ac_kp0 (ac_kp0 (ac_kp0 (ac_kp0 (ac_kp0 (ac_kp0 (ac_kp0 (ac_kp0 (ac_kpF (ac_kp0 (ac_kp0 (ac_kp0 (ac_kp0 (ac_kp0 (ac_kp0 (ac_kp0 (ac_kp0 (ac_kp0 (ac_kp0 (ac_kp0 (ac_kp0 (ac_kp0 (ac_kpF (ac_kp0 (ac_kp0 (ac_kp0 (ac_kp0 (ac_kp0 (ac_kp0 (ac_kpF (ac_kp0 (ac_kp0 (ac_kp0 (ac_kp0 (ac_kp0 (ac_kpF (ac_kp0 (ac_kp0 (ac_kp0 (ac_kp0 (ac_kp0 (ac_kp0 (ac_kp0 (ac_kp0 (ac_kp0 (ac_kpF (ac57) k59 (by omega) (by omega) (mem1 (by omega)) rfl) k60 (by omega) (by omega)) k66 (by omega) (by omega)) k72 (by omega) (by omega)) k78 (by omega) (by omega)) k84 (by omega) (by omega)) k90 (by omega) (by omega)) k96 (by omega) (by omega)) k102 (by omega) (by omega)) n108.kp (by omega) (by omega)) k111 (by omega) (by omega) (mem1 (by omega)) rfl) k112 (by omega) (by omega)) k118 (by omega) (by omega)) k124 (by omega) (by omega)) k130 (by omega) (by omega)) n136.kp (by omega) (by omega)) k139 (by omega) (by omega) (mem1 (by omega)) rfl) k140 (by omega) (by omega)) k146 (by omega) (by omega)) k152 (by omega) (by omega)) k158 (by omega) (by omega)) k164 (by omega) (by omega)) n170.kp (by omega) (by omega)) k173 (by omega) (by omega) (mem1 (by omega)) rfl) k174 (by omega) (by omega)) k180 (by omega) (by omega)) k186 (by omega) (by omega)) k192 (by omega) (by omega)) k198 (by omega) (by omega)) k204 (by omega) (by omega)) k210 (by omega) (by omega)) k216 (by omega) (by omega)) k222 (by omega) (by omega)) k228 (by omega) (by omega)) k234 (by omega) (by omega)) k240 (by omega) (by omega)) n246.kp (by omega) (by omega)) k249 (by omega) (by omega) (mem1 (by omega)) rfl) k250 (by omega) (by omega)) k256 (by omega) (by omega)) k262 (by omega) (by omega)) k268 (by omega) (by omega)) k274 (by omega) (by omega)) k280 (by omega) (by omega)) k286 (by omega) (by omega)) k292 (by omega) (by omega)) k298 (by omega) (by omega)) k304 (by omega) (by omega)) k310 (by omega) (by omega)) k316 (by omega) (by omega)) k322 (by omega) (by omega)) k328 (by omega) (by omega)) k334 (by omega) (by omega)) n340.kp (by omega) (by omega)) k343 (by omega) (by omega) (mem1 (by omega)) rfl) k344 (by omega) (by omega)) k350 (by omega) (by omega)) k356 (by omega) (by omega)) n362.kp (by omega) (by omega)) k365 (by omega) (by omega) (mem1 (by omega)) rfl).own (L := w.heap.size) (H := w365.heap.size) (by omega) (by omega) (by omega) (by omega))
 refine WX.ret1 Try.results81 rfl ?_
 exact ⟨(some ⟨w50.heap.size, 0, none⟩), 8, by rw [n0], (sl_n f0 e0 n0), Kp.of_below b365⟩

set_option maxRecDepth 100000 in
set_option maxHeartbeats 400000 in
theorem specs_s {w : World} (v : Int)  :
    Ret Try.prog 58 [.int .i64 1, .int .i64 v].toArray w fun r w' => ∃ (ra0 : Option Addr) (rc0 : Nat), r = .slice ra0 (specsF v).length rc0 ∧ Ac w.heap.size true w.heap.size w'.heap.size w'.heap.size w' (.slice ra0 (specsF v).length rc0) (specsF v) ∧ Kp [] w w' := by
 have hsl : specsL.length = 8 := rfl
 refine Ret.enter Try.func58 rfl Try.ntmps58 rfl rfl ?_
 refine WC.sel [0, 1] rfl ?_
 refine WC.seq ?_
 refine WC.region ?_
 refine WO.v (R.assign rfl) rfl ?_
 refine WO.nil ?_
 refine WX.sel [0, 1, 4] rfl ?_
 refine WX.next ?_
 refine WC.seq ?_
 refine WC.seq ?_
 refine WC.region ?_
 refine WO.v (R.move rfl) rfl ?_
 refine WO.v (R.lss rfl rfl) rfl ?_
 refine WO.v (R.move rfl) rfl ?_
 refine WO.cutP 3 [(13, (.bool ((decide (v < (1 : Int))) || (decide ((3 : Int) < v)))))] (fun w' => w = w') ?_ ?_
 rcases Bool.eq_false_or_eq_true (decide (v < (1 : Int))) with hb1 | hb1
 have phb1 : v < (1 : Int) := of_decide_eq_true hb1
 refine WO.off rfl rfl hb1 rfl ?_
 refine WO.off rfl rfl hb1 rfl ?_
 refine WO.v (R.pickT rfl hb1 rfl) rfl ?_
 refine WO.nil ?_
 exact WX.cutDoneP 3 rfl rfl ⟨⟨_, rfl, vb (bor_on hb1)⟩, trivial⟩ (rfl)
 have phb1 : ¬ (v < (1 : Int)) := of_decide_eq_false hb1
 refine WO.on rfl rfl hb1 ?_
 refine WO.v (R.move rfl) rfl ?_
 refine WO.on rfl rfl hb1 ?_
 refine WO.v (R.gtr rfl rfl) rfl ?_
 refine WO.v (R.pickF rfl hb1 rfl) rfl ?_
 refine WO.nil ?_
 exact WX.cutDoneP 3 rfl rfl ⟨⟨_, rfl, vb (bor_off hb1)⟩, trivial⟩ (rfl)
 rintro _ rfl
 refine WO.nil ?_
 refine WX.sel [0, 1, 4, 13] rfl ?_
 refine WX.next ?_
 refine WC.cond rfl (fun q2 => ?_) (fun q2 => ?_)
 have p2 : (v < (1 : Int)) ∨ ((3 : Int) < v) := Or.imp (fun h => of_decide_eq_true h) (fun h => of_decide_eq_true h) (bor_t q2)
 refine WC.seq ?_
 refine WC.region ?_
 refine WO.v (R.assign rfl) rfl ?_
 refine WO.nil ?_
 refine WX.sel [0, 1, 4, 13] rfl ?_
 refine WX.next ?_
 refine WC.ret ?_
 refine WX.thenRet ?_
 have e0 : ([] : List Spec) = (specsF v) := by first | exact specs_out (by omega) | exact specs_in (by omega) (by omega)
 have n0 : 0 = (specsF v).length := by rw [← e0]; simp only [List.length_nil]
 have f0 : Ac (α := Spec) w.heap.size true w.heap.size w.heap.size w.heap.size w (.slice none 0 0) ([] : List Spec) := Ac.empty _ _ _ _ _ _ _
 refine WX.ret1 Try.results58 rfl ?_
 exact ⟨none, 0, by rw [n0], (acl_n f0 e0 n0), Kp.refl _⟩
 have p2 : (¬ (v < (1 : Int))) ∧ (¬ ((3 : Int) < v)) := ⟨of_decide_eq_false (bor_f q2).1, of_decide_eq_false (bor_f q2).2⟩
 refine WC.skip ?_
 refine WX.next ?_
 refine WC.seq ?_
 refine WC.region ?_
 refine WO.v (R.assign rfl) rfl ?_
 refine WO.nil ?_
 refine WX.sel [0, 1, 4, 5, 13] rfl ?_
 refine WX.next ?_
 refine WC.seq ?_
 refine WC.seq ?_
 refine WC.region ?_
 refine WO.v (R.move rfl) rfl ?_
 refine WO.c (E.call rfl rfl Try.func81 rfl rfl) (fall_s  ) rfl ?_
 rintro _ w3 ⟨a4, c5, rfl, s6, k3⟩
 have ls6 : (specsL).length * 32 ≤ 140737488355328 := s6.lenle
 have z3 := k3.size
 have b3 := old_kp0 (Below.refl w.heap.size w) k3
 have y3 := b3.size
 refine WO.v (R.len rfl Try.underlying80) rfl ?_
 refine WO.v (R.move rfl) rfl ?_
 refine WO.nil ?_
 refine WX.sel [0, 1, 4, 5, 13, 15, 16, 17] rfl ?_
 refine WX.next ?_
 refine WC.block ?_
 refine WC.loopK [0, 1, 4, 13, 15, 16] rfl (fun zz : Nat × Option Addr × Nat => [(17, (.int .i64 (((zz.1) : Nat) : Int))), (5, (.slice (zz.2.1) ((specsL.take (zz.1)).filter (fun s => decide (s.since ≤ v))).length (zz.2.2)))]) (fun (zz : Nat × Option Addr × Nat) (w' : World) => (Kp [] w3 w') ∧ ((zz.1) ≤ (specsL).length) ∧ (Ac (α := Spec) (w3.heap.size) true (w.heap.size) (w'.heap.size) w'.heap.size w' (.slice (zz.2.1) ((specsL.take (zz.1)).filter (fun s => decide (s.since ≤ v))).length (zz.2.2)) ((specsL.take (zz.1)).filter (fun s => decide (s.since ≤ v))))) (fun zz => (specsL).length - (zz.1)) (0, none, 0) ?_ ?_ ?_
 exact ⟨⟨_, rfl, rfl⟩, ⟨_, rfl, rfl⟩, trivial⟩
 exact ⟨Kp.refl _, Nat.zero_le _, Ac.empty _ _ _ _ _ _ _⟩
 rintro ⟨k, aa0, ac0⟩ w7 ⟨k7, hk, hac6_0⟩
 try dsimp only at hk hac6_0
 have z7 := k7.size
 have b7 := old_kp0 b3 k7
 have y7 := b7.size
 refine (?_ : WC _ _ _ _ ([(17, (.int .i64 ((k : Nat) : Int))), (5, (.slice aa0 ((specsL.take k).filter (fun s => decide (s.since ≤ v))).length ac0))] ++ _) w7)
 have : ((specsL.take k).filter (fun s => decide (s.since ≤ v))).length ≤ 8 := by exact filt_len
 have lenhac6_0 : ((specsL.take k).filter (fun s => decide (s.since ≤ v))).length * 32 ≤ 140737488355328 := hac6_0.lenle
 refine WC.seq ?_
 refine WC.region ?_
 refine WO.v (R.lss rfl rfl) rfl ?_
 refine WO.nil ?_
 refine WX.sel [0, 1, 4, 5, 13, 15, 16, 17, 18] rfl ?_
 refine WX.next ?_
 refine WC.seq ?_
 refine WC.cond rfl (fun q8 => ?_) (fun q8 => ?_)
 have p8 : ((k : Nat) : Int) < (((specsL).length : Nat) : Int) := of_decide_eq_true q8
 refine WC.skip ?_
 refine WX.next ?_
 refine WC.seq ?_
 refine WC.block ?_
 refine WC.seq ?_
 refine WC.region ?_
 obtain ⟨x9, hx9⟩ := get_ex (xs := (specsL)) (i := k) (by omega)
 obtain ⟨A10, cs11, hA10, loA10, hiA10, ccA10, r12⟩ := (sl_kp0 (s6) k7 (by omega)).at_ hx9
 obtain ⟨rfl, i13, i14, i15⟩ := Spec.el r12
 refine WO.v (R.indexAddrN rfl rfl Try.underlying80 sz83 hA10 (by omega)) rfl ?_
 refine WO.v (R.loadN (cs := [_, _, _, _, _]) rfl Try.underlying83 rfl sz83 ccA10) rfl ?_
 refine WO.alloc zr83 rfl ?_
 intro w16 n16
 have z16 := n16.lt
 have b16 := old_kp0 b7 n16.kp
 have y16 := b16.size
 refine WO.storeBN rfl rfl n16.blk rfl (by simp [Value.oneCell']) sz83 ?_
 intro w17 k17 B17 z_17
 have z17 := z_17.symm
 have b17 := old_kp b16 k17 (mem1 (by omega))
 have y17 := b17.size
 refine WO.nil ?_
 refine WX.sel [0, 1, 4, 5, 7, 13, 15, 16, 17, 18] rfl ?_
 refine WX.next ?_
 refine WC.seq ?_
 refine WC.region ?_
 refine WO.v (fa83_2 rfl) rfl ?_
 refine WO.v (R.loadB rfl B17 rfl Try.underlying3 rfl) rfl ?_
 refine WO.v (R.move rfl) rfl ?_
 refine WO.v (R.leq rfl rfl) rfl ?_
 refine WO.nil ?_
 refine WX.sel [0, 1, 4, 5, 7, 13, 15, 16, 17, 18, 24] rfl ?_
 refine WX.next ?_
 refine WC.cond rfl (fun q18 => ?_) (fun q18 => ?_)
 have p18 : x9.since ≤ v := of_decide_eq_true q18
 refine WC.region ?_
 refine WO.v (R.move rfl) rfl ?_
 refine WO.v (R.loadBN (vs := [_, _, _, _, _]) rfl B17 rfl Try.underlying83 rfl sz83) rfl ?_
 refine WO.buildSlice (parts := [_]) (vss := [[_, _, _, _, _]]) Try.underlying80 sz83 zr83 rfl rfl (by simp) rfl rfl rfl ?_
 intro w19 n19
 have z19 := n19.lt
 have b19 := old_kp0 b17 n19.kp
 have y19 := b19.size
 have ac20 : Ac (α := Spec) (w17.heap.size) true (w.heap.size) (w19.heap.size) (w19.heap.size) w19 (.slice (some ⟨w17.heap.size, 0, none⟩) 1 1) ([x9] : List Spec) := Ac.lit (α := Spec) (ys := ([x9] : List Spec)) (css := [[_, _, _, _, _]]) n19.blk (.cons ((Spec.mk_ (i13) (i14) (i15))) (.nil)) (by omega) (by omega) (by simp [maxLen]) (by show 1 * 32 ≤ 140737488355328; decide) rfl
 have lenac20 : ([x9] : List Spec).length = 1 := rfl
 have ac26 : Ac (α := Spec) (w3.heap.size) true (w.heap.size) (w19.heap.size) (w7.heap.size) w19 (.slice aa0 ((specsL.take k).filter (fun s => decide (s.since ≤ v))).length ac0) ((specsL.take k).filter (fun s => decide (s.since ≤ v))) := (ac_kp0 (ac_kpF (ac_kp0 (hac6_0) n16.kp (by omega) (by omega)) k17 (by omega) (by omega) (mem1 (by omega)) rfl) n19.kp (by omega) (by omega)).mono (Nat.le_refl _) (Nat.le_refl _) (by omega) (Nat.le_refl _)
 have bd21 := ac26.bd
 have ty27 := ac26.ty
 have lenac26 : (((specsL.take k).filter (fun s => decide (s.since ≤ v)))).length * 32 ≤ 140737488355328 := ac26.lenle
 have lxac26 : (((specsL.take k).filter (fun s => decide (s.since ≤ v))) ++ ([x9] : List Spec)).length = ((specsL.take k).filter (fun s => decide (s.since ≤ v))).length + ([x9] : List Spec).length := List.length_append
 refine WO.append rfl ac26 (by omega) (by omega) (by omega) rfl rfl (ys := ([x9] : List Spec)) (Src.flat (((ac20).pub (L := 0) (H := w19.heap.size) (by omega) (by omega) (by omega) (by omega))) (fun h => h)) (.inl rfl) Try.underlying80 inf83 rfl rfl rfl (by decide) (by first | omega | (simp only [List.length_cons, List.length_nil]; omega) | (simp only [List.length_append, List.length_cons, List.length_nil]; omega)) (by omega) rfl ?_
 intro a23 c24 w22 h25 k22 or28
 have z22 := k22.size
 have b22 := old_kp b19 k22 (fun g hg => by have := bd21 g hg; omega)
 have y22 := b22.size
 refine WO.v (R.assign rfl) rfl ?_
 refine WO.nil ?_
 refine WX.sel [0, 1, 4, 5, 7, 13, 15, 16, 17, 18, 24] rfl ?_
 refine WX.blkNormal ?_
 refine WX.next ?_
 refine WC.region ?_
 refine WO.v (R.inc rfl (by omega)) rfl ?_
 refine WO.v (R.move rfl) rfl ?_
 refine WO.nil ?_
 refine WX.sel [0, 1, 4, 5, 7, 13, 15, 16, 17, 18, 24] rfl ?_
 have E29 : (((specsL.take k).filter (fun s => decide (s.since ≤ v))) ++ ([x9] : List Spec)) = (specsL.take (k + 1)).filter (fun s => decide (s.since ≤ v)) := (by first | exact filt_yes hx9 (by omega) | exact filt_no hx9 (by omega))
 have nE29 : (((specsL.take k).filter (fun s => decide (s.since ≤ v))) ++ ([x9] : List Spec)).length = ((specsL.take (k + 1)).filter (fun s => decide (s.since ≤ v))).length := by rw [E29]
 exact WX.loopNextK [0, 1, 4, 13, 15, 16] (k + 1, a23, c24) rfl ⟨⟨_, rfl, rfl⟩, ⟨_, rfl, vs_n nE29⟩, trivial⟩ ⟨(((((Kp.refl _).step k7 (by simp)).step n16.kp (by simp)).step k17 (mem1 (.inr (by omega)))).step n19.kp (by simp)).step k22 (fun g hg => .inr (by have := bd21 g hg; omega)), by omega, ac_n ((h25).mono (by omega) (by omega) (by omega) (by omega)) E29 nE29⟩ (by show ((specsL).length - (k + 1)) < ((specsL).length - k); omega)
 have p18 : ¬ (x9.since ≤ v) := of_decide_eq_false q18
 refine WC.skip ?_
 refine WX.blkNormal ?_
 refine WX.next ?_
 refine WC.region ?_
 refine WO.v (R.inc rfl (by omega)) rfl ?_
 refine WO.v (R.move rfl) rfl ?_
 refine WO.nil ?_
 refine WX.sel [0, 1, 4, 5, 7, 13, 15, 16, 17, 18, 24] rfl ?_
 have E30 : ((specsL.take k).filter (fun s => decide (s.since ≤ v))) = (specsL.take (k + 1)).filter (fun s => decide (s.since ≤ v)) := (by first | exact filt_yes hx9 (by omega) | exact filt_no hx9 (by omega))
 have nE30 : ((specsL.take k).filter (fun s => decide (s.since ≤ v))).length = ((specsL.take (k + 1)).filter (fun s => decide (s.since ≤ v))).length := by rw [E30]
 exact WX.loopNextK [0, 1, 4, 13, 15, 16] (k + 1, aa0, ac0) rfl ⟨⟨_, rfl, rfl⟩, ⟨_, rfl, vs_n nE30⟩, trivial⟩ ⟨(((Kp.refl _).step k7 (by simp)).step n16.kp (by simp)).step k17 (mem1 (.inr (by omega))), by omega, ac_n ((ac_kpF (ac_kp0 (hac6_0) n16.kp (by omega) (by omega)) k17 (by omega) (by omega) (mem1 (by omega)) rfl).mono (by omega) (by omega) (by omega) (by omega)) E30 nE30⟩ (by show ((specsL).length - (k + 1)) < ((specsL).length - k); omega)
 have p8 : ¬ (((k : Nat) : Int) < (((specsL).length : Nat) : Int)) := of_decide_eq_false q8
 refine WC.exit ?_
 refine WX.thenExit ?_
 refine WX.loopExit ?_
 refine WX.blkHit ?_
 refine WX.next ?_
 refine WC.seq ?_
 refine WC.region ?_
 refine WO.v (R.move rfl) rfl ?_
 refine WO.v (R.assign rfl) rfl ?_
 refine WO.nil ?_
 refine WX.sel [0, 1, 4, 5, 13, 15, 16, 17, 18] rfl ?_
 refine WX.next ?_
 refine WC.ret ?_
 have e0 : ((specsL.take k).filter (fun s => decide (s.since ≤ v))) = (specsF v) := by first | exact specs_out (by omega) | exact specs_in (by omega) (by omega)
 have n0 : ((specsL.take k).filter (fun s => decide (s.since ≤ v))).length = (specsF v).length := by rw [e0]
 have f0 : Ac (α := Spec) w.heap.size true w.heap.size w7.heap.size w7.heap.size w7 (.slice aa0 ((specsL.take k).filter (fun s => decide (s.since ≤ v))).length ac0) ((specsL.take k).filter (fun s => decide (s.since ≤ v))) := ((hac6_0).mono (by omega) (by omega) (by omega) (by omega))
 refine WX.ret1 Try.results58 rfl ?_
 exact ⟨aa0, ac0, by rw [n0], (acl_n f0 e0 n0), Kp.of_below b7⟩

set_option maxRecDepth 100000 in
set_option maxHeartbeats 400000 in
theorem top_s {w : World} (v : Int)  :
    Ret Try.prog 34 [.int .i64 1, .int .i64 v].toArray w fun r w' => r = .int .i64 (topF v) ∧ Kp [] w w' := by
 refine Ret.enter Try.func34 rfl Try.ntmps34 rfl rfl ?_
 refine WC.sel [0, 1] rfl ?_
 refine WC.seq ?_
 refine WC.region ?_
 refine WO.v (R.assign rfl) rfl ?_
 refine WO.nil ?_
 refine WX.sel [0, 1, 4] rfl ?_
 refine WX.next ?_
 refine WC.seq ?_
 refine WC.region ?_
 refine WO.v (R.assign rfl) rfl ?_
 refine WO.nil ?_
 refine WX.sel [0, 1, 4, 5] rfl ?_
 refine WX.next ?_
 refine WC.seq ?_
 refine WC.seq ?_
 refine WC.region ?_
 refine WO.v (R.move rfl) rfl ?_
 refine WO.v (R.move rfl) rfl ?_
 refine WO.c (E.call rfl rfl Try.func58 rfl rfl) (specs_s (v := v) ) rfl ?_
 rintro _ w1 ⟨a2, c3, rfl, s4, k1⟩
 have ls4 : (specsF (v)).length * 32 ≤ 140737488355328 := s4.lenle
 have z1 := k1.size
 have b1 := old_kp0 (Below.refl w.heap.size w) k1
 have y1 := b1.size
 refine WO.v (R.len rfl Try.underlying80) rfl ?_
 refine WO.v (R.move rfl) rfl ?_
 refine WO.nil ?_
 refine WX.sel [0, 1, 4, 5, 10, 11, 12] rfl ?_
 refine WX.next ?_
 refine WC.block ?_
 refine WC.loopK [0, 1, 4, 10, 11] rfl (fun zz : Nat => [(12, (.int .i64 (((zz) : Nat) : Int))), (5, (.int .i64 (((specsF v).take (zz)).foldl (fun t s => max t s.num) 0)))]) (fun (zz : Nat) (w' : World) => (Kp [] w1 w') ∧ ((zz) ≤ (specsF (v)).length)) (fun zz => (specsF (v)).length - (zz)) (0) ?_ ?_ ?_
 exact ⟨⟨_, rfl, rfl⟩, ⟨_, rfl, vi (by rfl)⟩, trivial⟩
 exact ⟨Kp.refl _, Nat.zero_le _⟩
 rintro k w5 ⟨k5, hk⟩
 try dsimp only at hk
 have z5 := k5.size
 have b5 := old_kp0 b1 k5
 have y5 := b5.size
 refine (?_ : WC _ _ _ _ ([(12, (.int .i64 ((k : Nat) : Int))), (5, (.int .i64 (((specsF v).take k).foldl (fun t s => max t s.num) 0)))] ++ _) w5)
 refine WC.seq ?_
 refine WC.region ?_
 refine WO.v (R.lss rfl rfl) rfl ?_
 refine WO.nil ?_
 refine WX.sel [0, 1, 4, 5, 10, 11, 12, 13] rfl ?_
 refine WX.next ?_
 refine WC.seq ?_
 refine WC.cond rfl (fun q6 => ?_) (fun q6 => ?_)
 have p6 : ((k : Nat) : Int) < (((specsF (v)).length : Nat) : Int) := of_decide_eq_true q6
 refine WC.skip ?_
 refine WX.next ?_
 refine WC.seq ?_
 refine WC.block ?_
 refine WC.seq ?_
 refine WC.region ?_
 obtain ⟨x7, hx7⟩ := get_ex (xs := (specsF (v))) (i := k) (by omega)
 obtain ⟨A8, cs9, hA8, loA8, hiA8, ccA8, r10⟩ := (((ac_kp0 (s4) k5 (by omega) (by omega)).pub (L := 0) (H := w5.heap.size) (by omega) (by omega) (by omega) (by omega))).at_ hx7
 obtain ⟨rfl, i11, i12, i13⟩ := Spec.el r10
 refine WO.v (R.indexAddrN rfl rfl Try.underlying80 sz83 hA8 (by omega)) rfl ?_
 refine WO.v (R.loadN (cs := [_, _, _, _, _]) rfl Try.underlying83 rfl sz83 ccA8) rfl ?_
 refine WO.alloc zr83 rfl ?_
 intro w14 n14
 have z14 := n14.lt
 have b14 := old_kp0 b5 n14.kp
 have y14 := b14.size
 refine WO.storeBN rfl rfl n14.blk rfl (by simp [Value.oneCell']) sz83 ?_
 intro w15 k15 B15 z_15
 have z15 := z_15.symm
 have b15 := old_kp b14 k15 (mem1 (by omega))
 have y15 := b15.size
 refine WO.nil ?_
 refine WX.sel [0, 1, 4, 5, 7, 10, 11, 12, 13] rfl ?_
 refine WX.next ?_
 refine WC.region ?_
 refine WO.v (R.move rfl) rfl ?_
 refine WO.v (fa83_0 rfl) rfl ?_
 refine WO.v (R.loadB rfl B15 rfl Try.underlying3 rfl) rfl ?_
 refine WO.v (R.max2 rfl rfl) rfl ?_
 refine WO.v (R.assign rfl) rfl ?_
 refine WO.nil ?_
 refine WX.sel [0, 1, 4, 5, 7, 10, 11, 12, 13] rfl ?_
 refine WX.blkNormal ?_
 refine WX.next ?_
 refine WC.region ?_
 refine WO.v (R.inc rfl (by omega)) rfl ?_
 refine WO.v (R.move rfl) rfl ?_
 refine WO.nil ?_
 refine WX.sel [0, 1, 4, 5, 7, 10, 11, 12, 13] rfl ?_
 exact WX.loopNextK [0, 1, 4, 10, 11] (k + 1) rfl ⟨⟨_, rfl, rfl⟩, ⟨_, rfl, vi (top_next hx7)⟩, trivial⟩ ⟨(((Kp.refl _).step k5 (by simp)).step n14.kp (by simp)).step k15 (mem1 (.inr (by omega))), by omega⟩ (by show ((specsF (v)).length - (k + 1)) < ((specsF (v)).length - k); omega)
 have p6 : ¬ (((k : Nat) : Int) < (((specsF (v)).length : Nat) : Int)) := of_decide_eq_false q6
 refine WC.exit ?_
 refine WX.thenExit ?_
 refine WX.loopExit ?_
 refine WX.blkHit ?_
 refine WX.next ?_
 refine WC.seq ?_
 refine WC.region ?_
 refine WO.v (R.move rfl) rfl ?_
 refine WO.v (R.assign rfl) rfl ?_
 refine WO.nil ?_
 refine WX.sel [0, 1, 4, 5, 10, 11, 12, 13] rfl ?_
 refine WX.next ?_
 refine WC.ret ?_
 have e0 : (((specsF v).take k).foldl (fun t s => max t s.num) 0) = (topF v) := by rw [topF, List.take_of_length_le (by omega)]
 refine WX.ret1 Try.results34 rfl ?_
 exact ⟨by rw [e0], Kp.of_below b5⟩


end Go.Proofs.Ytfmlgeeogbhppaa
