/- Contracts of functions, walked operation by operation. -/
import Derived.Test.YtfmlgeeogbhppaaD1
namespace Go.Proofs.Ytfmlgeeogbhppaa
open Go.RowKit

def ndF (n : Int) (used : Bool) (lo hi : Int) : Bool := if used then (decide (lo ≤ n) && decide (n ≤ hi)) else decide (n = 0)
def cltR (k : Int) : Int × Int := (if k = 8 then 2 else 0, if k = 8 then 3 else if k = 12 then 64 else 8)
theorem str_nil {s : Str} : decide (((s.b.length : Nat) : Int) = 0) = decide (s = ⟨[]⟩) := by
  cases s with | mk b =>
  cases b with
  | nil => simp
  | cons a t => rw [Bool.eq_iff_iff]; simp; omega
theorem cont_client {k : Int} : (!decide (k = 8)) = (!([(8 : Int)].contains k)) := by
  rw [Bool.eq_iff_iff]; simp
theorem cont_seq {k : Int} : (!decide (k = 8) && !decide (k = 1)) = (!([(1 : Int), 8].contains k)) := by
  rw [Bool.eq_iff_iff]; simp; omega
theorem cont_set {k : Int} : (decide (2 ≤ k) && decide (k ≤ 4)) = ([(2 : Int), 3, 4].contains k) := by
  rw [Bool.eq_iff_iff]; simp; omega
theorem cont_id {k : Int} : ((decide (k = 5) || decide (k = 7)) || (decide (9 ≤ k) && decide (k ≤ 11))) = ([(5 : Int), 7, 9, 10, 11].contains k) := by
  rw [Bool.eq_iff_iff]; simp; omega
theorem span_n {k n : Int} : ndF n ((decide (k = 6) || decide (k = 8)) || decide (k = 12)) (cltR k).1 (cltR k).2 = (decide ((spanF k).1 ≤ n) && decide (n ≤ (spanF k).2)) := by
  by_cases h6 : k = 6
  · subst h6; rfl
  by_cases h8 : k = 8
  · subst h8; rfl
  by_cases h12 : k = 12
  · subst h12; rfl
  have e : spanF k = (0, 0) := by simp [spanF, mgetA, h6, h8, h12]
  rw [e, Bool.eq_iff_iff]
  simp [ndF, h6, h8, h12]
  omega
theorem text_k {c : Command} : (decide (((c.text.b.length : Nat) : Int) = 0) || (decide (c.kind = 11) && decide (((c.text.b.length : Nat) : Int) ≤ 16))) = txF c := by
  unfold txF
  by_cases h : c.kind = 11
  · rw [if_pos h, Bool.eq_iff_iff]; simp only [Bool.or_eq_true, Bool.and_eq_true, decide_eq_true_eq, h, true_and]; omega
  · rw [if_neg h, str_nil]; simp [h]
theorem nd_w {n m : Int} {u : Bool} : ndF n u 1 m = wthF n m u := rfl
theorem fits_ref {c : Command} :
    ((((((ndF c.client (!decide (c.kind = 8)) 1 8 && ndF c.seq (!decide (c.kind = 8) && !decide (c.kind = 1)) 1 1048576) && ndF c.set (decide (2 ≤ c.kind) && decide (c.kind ≤ 4)) 1 8) &&
      ndF c.id ((decide (c.kind = 5) || decide (c.kind = 7)) || (decide (9 ≤ c.kind) && decide (c.kind ≤ 11))) 1 1048576) &&
      ndF c.n ((decide (c.kind = 6) || decide (c.kind = 8)) || decide (c.kind = 12)) (cltR c.kind).1 (cltR c.kind).2) && chF c) &&
      (decide (((c.text.b.length : Nat) : Int) = 0) || (decide (c.kind = 11) && decide (((c.text.b.length : Nat) : Int) ≤ 16)))) = fitsF c := by
  rw [cont_seq, cont_client, cont_set, cont_id, span_n, text_k]
  unfold fitsF
  simp only [nd_w]
  ac_rfl
theorem mayc1 {c : Command} {v : Int} (h : (!(inB v 1 3) || decide (needF c.kind = 0)) = true) : 1 = mayC c v := by rw [mayC, if_pos h]
theorem mayc10 {c : Command} {v : Int} (h : (!(inB v 1 3) || decide (needF c.kind = 0)) = false) (h2 : v < needF c.kind) : 10 = mayC c v := by rw [mayC, h, if_neg (by decide), if_pos h2]
theorem mayc1f {c : Command} {v : Int} (h : (!(inB v 1 3) || decide (needF c.kind = 0)) = false) (h2 : ¬ v < needF c.kind) (h3 : (!fitsF c) = true) : 1 = mayC c v := by rw [mayC, h, if_neg (by decide), if_neg h2, if_pos h3]
theorem mayc0 {c : Command} {v : Int} (h : (!(inB v 1 3) || decide (needF c.kind = 0)) = false) (h2 : ¬ v < needF c.kind) (h3 : (!fitsF c) = false) : 0 = mayC c v := by rw [mayC, h, if_neg (by decide), if_neg h2, h3, if_neg (by decide)]

theorem sz91 : (Try.prog.info? 91).map (·.size) = some 2 := by kernel_rfl
theorem fa24_1 {n : Nat} {fr : Fr} {w : World} {ty : TypeId} {x : Operand} {g k : Nat} (hx : ev fr x = some (.pointer (some ⟨g, k, none⟩))) : Runs Try.prog n fr w (.fieldAddr 24 x 1) ty (.pointer (some ⟨g, k + 1, none⟩)) w := R.fieldAddrB hx Try.underlying24 rfl rfl sz3
theorem fa24_2 {n : Nat} {fr : Fr} {w : World} {ty : TypeId} {x : Operand} {g k : Nat} (hx : ev fr x = some (.pointer (some ⟨g, k, none⟩))) : Runs Try.prog n fr w (.fieldAddr 24 x 2) ty (.pointer (some ⟨g, k + 2, none⟩)) w := R.fieldAddrB hx Try.underlying24 rfl rfl sz3
theorem fa24_3 {n : Nat} {fr : Fr} {w : World} {ty : TypeId} {x : Operand} {g k : Nat} (hx : ev fr x = some (.pointer (some ⟨g, k, none⟩))) : Runs Try.prog n fr w (.fieldAddr 24 x 3) ty (.pointer (some ⟨g, k + 3, none⟩)) w := R.fieldAddrB hx Try.underlying24 rfl rfl sz3
theorem fa24_4 {n : Nat} {fr : Fr} {w : World} {ty : TypeId} {x : Operand} {g k : Nat} (hx : ev fr x = some (.pointer (some ⟨g, k, none⟩))) : Runs Try.prog n fr w (.fieldAddr 24 x 4) ty (.pointer (some ⟨g, k + 4, none⟩)) w := R.fieldAddrB hx Try.underlying24 rfl rfl sz3
theorem fa24_5 {n : Nat} {fr : Fr} {w : World} {ty : TypeId} {x : Operand} {g k : Nat} (hx : ev fr x = some (.pointer (some ⟨g, k, none⟩))) : Runs Try.prog n fr w (.fieldAddr 24 x 5) ty (.pointer (some ⟨g, k + 5, none⟩)) w := R.fieldAddrB hx Try.underlying24 rfl rfl sz3
theorem zr3 : ((Try.prog.info? 3).bind (·.zero)).map Value.cells = some ([.int .i64 0] : List Value).toArray := by kernel_rfl
theorem zr91 : ((Try.prog.info? 91).bind (·.zero)).map Value.cells = some ([.int .i64 0, .int .i64 0] : List Value).toArray := by kernel_rfl
theorem zv91 : (Try.prog.info? 91).bind (·.zero) = some (.agg #[.int .i64 0, .int .i64 0]) := by kernel_rfl

set_option maxRecDepth 100000 in
set_option maxHeartbeats 400000 in
theorem thereC_s {w : World} (n : Int)  :
    Ret Try.prog 32 [.int .i64 n].toArray w fun r w' => r = .bool ((decide (1 ≤ n)) && (decide (n ≤ 3))) ∧ w = w' := by
 refine Ret.enter Try.func32 rfl Try.ntmps32 rfl rfl ?_
 refine WC.sel [0] rfl ?_
 refine WC.seq ?_
 refine WC.region ?_
 refine WO.v (R.assign rfl) rfl ?_
 refine WO.nil ?_
 refine WX.sel [0, 2] rfl ?_
 refine WX.next ?_
 refine WC.seq ?_
 refine WC.region ?_
 refine WO.v (R.move rfl) rfl ?_
 refine WO.v (R.geq rfl rfl) rfl ?_
 refine WO.v (R.move rfl) rfl ?_
 refine WO.cutP 3 [(8, (.bool ((decide ((1 : Int) ≤ n)) && (decide (n ≤ (3 : Int))))))] (fun w' => w = w') ?_ ?_
 rcases Bool.eq_false_or_eq_true (decide ((1 : Int) ≤ n)) with hb1 | hb1
 have phb1 : (1 : Int) ≤ n := of_decide_eq_true hb1
 refine WO.on rfl rfl hb1 ?_
 refine WO.v (R.move rfl) rfl ?_
 refine WO.on rfl rfl hb1 ?_
 refine WO.v (R.leq rfl rfl) rfl ?_
 refine WO.v (R.pickT rfl hb1 rfl) rfl ?_
 refine WO.nil ?_
 exact WX.cutDoneP 3 rfl rfl ⟨⟨_, rfl, vb (band_on hb1)⟩, trivial⟩ (rfl)
 have phb1 : ¬ ((1 : Int) ≤ n) := of_decide_eq_false hb1
 refine WO.off rfl rfl hb1 rfl ?_
 refine WO.off rfl rfl hb1 rfl ?_
 refine WO.v (R.pickF rfl hb1 rfl) rfl ?_
 refine WO.nil ?_
 exact WX.cutDoneP 3 rfl rfl ⟨⟨_, rfl, vb (band_off hb1)⟩, trivial⟩ (rfl)
 rintro _ rfl
 refine WO.v (R.assign rfl) rfl ?_
 refine WO.nil ?_
 refine WX.sel [0, 2] rfl ?_
 refine WX.next ?_
 refine WC.ret ?_
 have e0 : ((decide ((1 : Int) ≤ n)) && (decide (n ≤ (3 : Int)))) = ((decide (1 ≤ n)) && (decide (n ≤ 3))) := by rfl
 refine WX.ret1 Try.results32 rfl ?_
 exact ⟨by rw [e0], rfl⟩

set_option maxRecDepth 100000 in
set_option maxHeartbeats 400000 in
theorem has_s {w : World} (a : Int) (b : Int) (n : Int)  :
    Ret Try.prog 69 [.agg #[.int .i64 a, .int .i64 b], .int .i64 n].toArray w fun r w' => r = .bool ((decide (a ≤ n)) && (decide (n ≤ b))) ∧ Kp [] w w' := by
 refine Ret.enter Try.func69 rfl Try.ntmps69 rfl rfl ?_
 refine WC.sel [0, 1] rfl ?_
 refine WC.seq ?_
 refine WC.region ?_
 refine WO.box rfl rfl rfl ?_
 intro w1 n1
 have z1 := n1.lt
 have b1 := old_kp0 (Below.refl w.heap.size w) n1.kp
 have y1 := b1.size
 refine WO.v (R.assign rfl) rfl ?_
 refine WO.nil ?_
 refine WX.sel [0, 1, 2, 4] rfl ?_
 refine WX.next ?_
 refine WC.seq ?_
 refine WC.region ?_
 refine WO.v (fa91_0 rfl) rfl ?_
 refine WO.v (R.loadB rfl n1.blk rfl Try.underlying3 rfl) rfl ?_
 refine WO.v (R.move rfl) rfl ?_
 refine WO.v (R.leq rfl rfl) rfl ?_
 refine WO.v (R.move rfl) rfl ?_
 refine WO.cutP 5 [(14, (.bool ((decide (a ≤ n)) && (decide (n ≤ b)))))] (fun w' => w1 = w') ?_ ?_
 rcases Bool.eq_false_or_eq_true (decide (a ≤ n)) with hb2 | hb2
 have phb2 : a ≤ n := of_decide_eq_true hb2
 refine WO.on rfl rfl hb2 ?_
 refine WO.v (R.move rfl) rfl ?_
 refine WO.on rfl rfl hb2 ?_
 refine WO.v (fa91_1 rfl) rfl ?_
 refine WO.on rfl rfl hb2 ?_
 refine WO.v (R.loadB rfl n1.blk rfl Try.underlying3 rfl) rfl ?_
 refine WO.on rfl rfl hb2 ?_
 refine WO.v (R.leq rfl rfl) rfl ?_
 refine WO.v (R.pickT rfl hb2 rfl) rfl ?_
 refine WO.nil ?_
 exact WX.cutDoneP 5 rfl rfl ⟨⟨_, rfl, vb (band_on hb2)⟩, trivial⟩ (rfl)
 have phb2 : ¬ (a ≤ n) := of_decide_eq_false hb2
 refine WO.off rfl rfl hb2 rfl ?_
 refine WO.off rfl rfl hb2 rfl ?_
 refine WO.off rfl rfl hb2 rfl ?_
 refine WO.off rfl rfl hb2 rfl ?_
 refine WO.v (R.pickF rfl hb2 rfl) rfl ?_
 refine WO.nil ?_
 exact WX.cutDoneP 5 rfl rfl ⟨⟨_, rfl, vb (band_off hb2)⟩, trivial⟩ (rfl)
 rintro _ rfl
 refine WO.v (R.assign rfl) rfl ?_
 refine WO.nil ?_
 refine WX.sel [0, 1, 2, 4] rfl ?_
 refine WX.next ?_
 refine WC.ret ?_
 have e0 : ((decide (a ≤ n)) && (decide (n ≤ b))) = ((decide (a ≤ n)) && (decide (n ≤ b))) := by rfl
 refine WX.ret1 Try.results69 rfl ?_
 exact ⟨by rw [e0], Kp.of_below b1⟩

set_option maxRecDepth 100000 in
set_option maxHeartbeats 400000 in
theorem fits_s {w : World} {cs_c : List Value} {c : Command} (h_c : Rp.rp false 0 w.heap.size w cs_c c) :
    Ret Try.prog 42 [.agg cs_c.toArray].toArray w fun r w' => r = .bool (fitsF c) ∧ Kp [] w w' := by
 obtain ⟨a7, c8, rfl, i1, i2, i3, i4, i5, i6, s9, i10⟩ := Command.el h_c
 have ls9 : (c.chunks).length * 8 ≤ 140737488355328 := s9.lenle
 refine Ret.enter Try.func42 rfl Try.ntmps42 rfl rfl ?_
 refine WC.sel [0] rfl ?_
 refine WC.seq ?_
 refine WC.region ?_
 refine WO.box rfl rfl rfl ?_
 intro w11 n11
 have z11 := n11.lt
 have b11 := old_kp0 (Below.refl w.heap.size w) n11.kp
 have y11 := b11.size
 refine WO.v (R.assign rfl) rfl ?_
 refine WO.nil ?_
 refine WX.sel [0, 1, 2] rfl ?_
 refine WX.next ?_
 refine WC.seq ?_
 refine WC.region ?_
 refine WO.v (R.makeFunc1 rfl) rfl ?_
 refine WO.v (R.assign rfl) rfl ?_
 refine WO.nil ?_
 refine WX.sel [0, 1, 2, 3] rfl ?_
 refine WX.next ?_
 refine WC.seq ?_
 refine WC.region ?_
 refine WO.v (R.assign rfl) rfl ?_
 refine WO.nil ?_
 refine WX.sel [0, 1, 2, 3, 4] rfl ?_
 refine WX.next ?_
 refine WC.seq ?_
 refine WC.region ?_
 refine WO.makeMap rfl ?_
 intro w12 B12 k12 z_12
 have z12 := z_12
 have b12 := old_kp0 b11 k12
 have y12 := b12.size
 refine WO.v (R.buildL (parts := [_, _]) (cells := #[(.int .i64 (0 : Int)), (.int .i64 (8 : Int))]) rfl (by kernel_rfl)) rfl ?_
 refine WO.insert rfl rfl rfl B12 rfl Try.underlying93 Try.underlying3 ?_
 intro w13 B13 k13 z_13
 have z13 := z_13.symm
 have b13 := old_kp b12 k13 (mem1 (by omega))
 have y13 := b13.size
 refine WO.v (R.buildL (parts := [_, _]) (cells := #[(.int .i64 (2 : Int)), (.int .i64 (3 : Int))]) rfl (by kernel_rfl)) rfl ?_
 refine WO.insert rfl rfl rfl B13 rfl Try.underlying93 Try.underlying3 ?_
 intro w14 B14 k14 z_14
 have z14 := z_14.symm
 have b14 := old_kp b13 k14 (mem1 (by omega))
 have y14 := b14.size
 refine WO.v (R.buildL (parts := [_, _]) (cells := #[(.int .i64 (0 : Int)), (.int .i64 (64 : Int))]) rfl (by kernel_rfl)) rfl ?_
 refine WO.insert rfl rfl rfl B14 rfl Try.underlying93 Try.underlying3 ?_
 intro w15 B15 k15 z_15
 have z15 := z_15.symm
 have b15 := old_kp b14 k15 (mem1 (by omega))
 have y15 := b15.size
 refine WO.v (R.move rfl) rfl ?_
 refine WO.v (fa24_0 rfl) rfl ?_
 have B16 := ((((n11.blk).kp0 k12).kp1 k13 (by omega)).kp1 k14 (by omega)).kp1 k15 (by omega)
 refine WO.v (R.loadB rfl B16 rfl Try.underlying3 rfl) rfl ?_
 refine WO.v (v := .agg #[.int .i64 (spanF c.kind).1, .int .i64 (spanF c.kind).2]) (R.lookupF spanV [((6 : Int), ((0 : Int), (8 : Int))), ((8 : Int), ((2 : Int), (3 : Int))), ((12 : Int), ((0 : Int), (64 : Int)))] (0, 0) rfl rfl B15 rfl Try.underlying93 Try.underlying3 zv91) rfl ?_
 refine WO.alloc zr91 rfl ?_
 intro w17 n17
 have z17 := n17.lt
 have b17 := old_kp0 b15 n17.kp
 have y17 := b17.size
 refine WO.storeBN rfl rfl n17.blk rfl (by simp [Value.oneCell']) sz91 ?_
 intro w18 k18 B18 z_18
 have z18 := z_18.symm
 have b18 := old_kp b17 k18 (mem1 (by omega))
 have y18 := b18.size
 refine WO.nil ?_
 refine WX.sel [0, 1, 2, 3, 4, 5] rfl ?_
 refine WX.next ?_
 refine WC.seq ?_
 refine WC.sel [0, 1, 2, 3, 4, 5] rfl ?_
 have B19 := ((B16).kp0 n17.kp).kp1 k18 (by omega)
 have B20 := ((B16).kp0 n17.kp).kp1 k18 (by omega)
 refine WC.draw' mixed_orders [.ex [] (.pointer (some ⟨w.heap.size, 6, none⟩)), .ex [0] (.slice a7 c.chunks.length c8), .ex [1] (.int .i64 ((c.chunks.length : Nat) : Int)), .ex [2] (.bool (decide (((c.chunks.length : Nat) : Int) = (0 : Int)))), .ex [] (.pointer (some ⟨w.heap.size, 7, none⟩)), .ex [4] c.text.val, .ex [5] (.bool (decide (c.text = (⟨[]⟩ : Str)))), .ex [3] (.bool (decide (((c.chunks.length : Nat) : Int) = (0 : Int)))), .ex [6] (.bool (decide (c.text = (⟨[]⟩ : Str))))] 9 (by kernel_rfl) ⟨fun _ _ _ h _ => h, fun _ _ _ h _ => h, fun _ _ _ h _ => h, fun _ _ _ h _ => h, fun _ _ _ h _ => h, fun _ _ _ h _ => h, fun _ _ _ h _ => h, fun _ _ _ h _ => h, fun _ _ _ h _ => h, trivial⟩ ⟨?_, ?_, ?_, ?_, ?_, ?_, ?_, ?_, ?_, trivial⟩ ?_
 rintro vs w21 k21 ⟨-⟩
 replace k21 : Kp [] w18 w21 := k21
 refine WO.haves (fr' := [(1, _)]) ⟨⟨_, rfl, rfl⟩, trivial⟩ ?_
 refine WO.v (fa24_6 rfl) rfl ?_
 refine WO.nil ?_
 exact WX.stepDone rfl rfl (Kp.refl _)
 rintro vs w22 k22 ⟨e23, -⟩
 replace k22 : Kp [] w18 w22 := k22
 have z22 := k22.size
 have b22 := old_kp0 b18 k22
 have y22 := b22.size
 refine WO.haves (fr' := [(17, _)]) ⟨⟨_, rfl, e23⟩, trivial⟩ ?_
 have B24 := (((B16).kp0 n17.kp).kp1 k18 (by omega)).kp0 k22
 refine WO.v (R.loadB rfl B24 rfl Try.underlying22 rfl) rfl ?_
 refine WO.nil ?_
 exact WX.stepDone rfl rfl (Kp.refl _)
 rintro vs w25 k25 ⟨e26, -⟩
 replace k25 : Kp [] w18 w25 := k25
 have z25 := k25.size
 have b25 := old_kp0 b18 k25
 have y25 := b25.size
 refine WO.haves (fr' := [(18, _)]) ⟨⟨_, rfl, e26⟩, trivial⟩ ?_
 refine WO.v (R.len rfl Try.underlying22) rfl ?_
 refine WO.nil ?_
 exact WX.stepDone rfl rfl (Kp.refl _)
 rintro vs w27 k27 ⟨e28, -⟩
 replace k27 : Kp [] w18 w27 := k27
 refine WO.haves (fr' := [(19, _)]) ⟨⟨_, rfl, e28⟩, trivial⟩ ?_
 refine WO.v (R.eql rfl rfl) rfl ?_
 refine WO.nil ?_
 exact WX.stepDone rfl rfl (Kp.refl _)
 rintro vs w29 k29 ⟨-⟩
 replace k29 : Kp [] w18 w29 := k29
 refine WO.haves (fr' := [(1, _)]) ⟨⟨_, rfl, rfl⟩, trivial⟩ ?_
 refine WO.v (fa24_7 rfl) rfl ?_
 refine WO.nil ?_
 exact WX.stepDone rfl rfl (Kp.refl _)
 rintro vs w30 k30 ⟨e31, -⟩
 replace k30 : Kp [] w18 w30 := k30
 have z30 := k30.size
 have b30 := old_kp0 b18 k30
 have y30 := b30.size
 refine WO.haves (fr' := [(21, _)]) ⟨⟨_, rfl, e31⟩, trivial⟩ ?_
 have B32 := (((B16).kp0 n17.kp).kp1 k18 (by omega)).kp0 k30
 refine WO.v (R.loadB rfl B32 rfl Try.underlying9 rfl) rfl ?_
 refine WO.nil ?_
 exact WX.stepDone rfl rfl (Kp.refl _)
 rintro vs w33 k33 ⟨e34, -⟩
 replace k33 : Kp [] w18 w33 := k33
 refine WO.haves (fr' := [(22, _)]) ⟨⟨_, rfl, e34⟩, trivial⟩ ?_
 refine WO.v (R.eqlS rfl (by rfl)) rfl ?_
 refine WO.nil ?_
 exact WX.stepDone rfl rfl (Kp.refl _)
 rintro vs w35 k35 ⟨e36, -⟩
 replace k35 : Kp [] w18 w35 := k35
 have z35 := k35.size
 have b35 := old_kp0 b18 k35
 have y35 := b35.size
 refine WO.haves (fr' := [(20, _)]) ⟨⟨_, rfl, e36⟩, trivial⟩ ?_
 refine WO.v (R.assign rfl) rfl ?_
 refine WO.nil ?_
 exact WX.stepDone rfl rfl (Kp.refl _)
 rintro vs w37 k37 ⟨e38, -⟩
 replace k37 : Kp [] w18 w37 := k37
 have z37 := k37.size
 have b37 := old_kp0 b18 k37
 have y37 := b37.size
 refine WO.haves (fr' := [(23, _)]) ⟨⟨_, rfl, e38⟩, trivial⟩ ?_
 refine WO.v (R.assign rfl) rfl ?_
 refine WO.nil ?_
 exact WX.stepDone rfl rfl (Kp.refl _)
 rintro vs w39 k39 ⟨-, -, -, -, -, -, -, e47, e48, -⟩
 replace k39 : Kp [] w18 w39 := k39
 have z39 := k39.size
 have b39 := old_kp0 b18 k39
 have y39 := b39.size
 refine WO.haves (fr' := [(6, _), (7, _), (0, _), (1, _), (2, _), (3, _), (4, _), (5, _)]) ⟨⟨_, rfl, e47⟩, ⟨_, rfl, e48⟩, ⟨_, rfl, rfl⟩, ⟨_, rfl, rfl⟩, ⟨_, rfl, rfl⟩, ⟨_, rfl, rfl⟩, ⟨_, rfl, rfl⟩, ⟨_, rfl, rfl⟩, trivial⟩ ?_
 refine WO.nil ?_
 refine WX.sel [0, 1, 2, 3, 4, 5, 6, 7] rfl ?_
 refine WX.next ?_
 refine WC.seq ?_
 refine WC.seq ?_
 refine WC.region ?_
 refine WO.v (fa24_0 rfl) rfl ?_
 have B49 := (((B16).kp0 n17.kp).kp1 k18 (by omega)).kp0 k39
 refine WO.v (R.loadB rfl B49 rfl Try.underlying3 rfl) rfl ?_
 refine WO.nil ?_
 refine WX.sel [0, 1, 2, 3, 4, 5, 6, 7, 25] rfl ?_
 refine WX.next ?_
 refine WC.block ?_
 refine WC.seq ?_
 refine WC.region ?_
 refine WO.v (R.eql rfl rfl) rfl ?_
 refine WO.v (R.assign rfl) rfl ?_
 refine WO.nil ?_
 refine WX.sel [0, 1, 2, 3, 4, 5, 6, 7, 25, 26] rfl ?_
 refine WX.next ?_
 refine WC.cutEndK [0, 1, 2, 3, 4, 5, 25, 26] rfl [(6, (.bool (chF c))), (7, (.bool (txF c)))] (fun w' => Kp [] w39 w') ?_ ?_
 refine WC.cond rfl (fun q50 => ?_) (fun q50 => ?_)
 have p50 : c.kind = (3 : Int) := of_decide_eq_true q50
 refine WC.region ?_
 refine WO.v (fa24_6 rfl) rfl ?_
 refine WO.v (R.loadB rfl B49 rfl Try.underlying22 rfl) rfl ?_
 refine WO.c (E.call rfl rfl Try.func44 rfl rfl) (row_s (l := c.chunks) (a_l := a7) (c_l := c8) ((sl_old s9 b39).mono (lo' := 0) (hi' := w39.heap.size) (Nat.zero_le _) (by omega))) rfl ?_
 rintro _ w51 ⟨rfl, k51⟩
 have z51 := k51.size
 have b51 := old_kp0 b39 k51
 have y51 := b51.size
 refine WO.v (R.assign rfl) rfl ?_
 refine WO.nil ?_
 refine WX.sel [0, 1, 2, 3, 4, 5, 6, 7, 25, 26] rfl ?_
 have E52 : (rowF (c.chunks)) = chF c := by rw [chF, if_pos (by assumption)]
 have E53 : (decide (c.text = (⟨[]⟩ : Str))) = txF c := by rw [txF, if_neg (by omega)]
 exact WX.cutDoneK [0, 1, 2, 3, 4, 5, 25, 26] rfl ⟨⟨_, rfl, vb E52⟩, ⟨_, rfl, vb E53⟩, trivial⟩ ((Kp.refl _).step k51 (by simp))
 have p50 : ¬ (c.kind = (3 : Int)) := of_decide_eq_false q50
 refine WC.seq ?_
 refine WC.region ?_
 refine WO.v (R.eql rfl rfl) rfl ?_
 refine WO.v (R.assign rfl) rfl ?_
 refine WO.nil ?_
 refine WX.sel [0, 1, 2, 3, 4, 5, 6, 7, 25, 26, 31] rfl ?_
 refine WX.next ?_
 refine WC.cond rfl (fun q54 => ?_) (fun q54 => ?_)
 have p54 : c.kind = (11 : Int) := of_decide_eq_true q54
 refine WC.region ?_
 refine WO.v (fa24_7 rfl) rfl ?_
 refine WO.v (R.loadB rfl B49 rfl Try.underlying9 rfl) rfl ?_
 refine WO.v (R.lenS rfl Try.underlying9) rfl ?_
 refine WO.v (R.leq rfl rfl) rfl ?_
 refine WO.v (R.assign rfl) rfl ?_
 refine WO.nil ?_
 refine WX.sel [0, 1, 2, 3, 4, 5, 6, 7, 25, 26, 31] rfl ?_
 have E55 : (decide (((c.chunks.length : Nat) : Int) = (0 : Int))) = chF c := by first | (rw [chF, if_neg (by assumption)]; done) | (rw [chF, if_neg (by omega)]; done)
 have E56 : (decide (((c.text.b.length : Nat) : Int) ≤ (16 : Int))) = txF c := by first | (rw [txF, if_pos (by assumption)]; done) | (rw [txF, if_neg (by assumption)]; done)
 exact WX.cutDoneK [0, 1, 2, 3, 4, 5, 25, 26] rfl ⟨⟨_, rfl, vb E55⟩, ⟨_, rfl, vb E56⟩, trivial⟩ (Kp.refl _)
 have p54 : ¬ (c.kind = (11 : Int)) := of_decide_eq_false q54
 refine WC.skip ?_
 have E57 : (decide (((c.chunks.length : Nat) : Int) = (0 : Int))) = chF c := by first | (rw [chF, if_neg (by assumption)]; done) | (rw [chF, if_neg (by omega)]; done)
 have E58 : (decide (c.text = (⟨[]⟩ : Str))) = txF c := by first | (rw [txF, if_pos (by assumption)]; done) | (rw [txF, if_neg (by assumption)]; done)
 exact WX.cutDoneK [0, 1, 2, 3, 4, 5, 25, 26] rfl ⟨⟨_, rfl, vb E57⟩, ⟨_, rfl, vb E58⟩, trivial⟩ (Kp.refl _)
 rintro w59 k59
 have z59 := k59.size
 have b59 := old_kp0 b39 k59
 have y59 := b59.size
 refine WX.blkNormal ?_
 refine WX.next ?_
 refine WC.seq ?_
 refine WC.sel [0, 1, 2, 3, 4, 5, 6, 7, 25, 26] rfl ?_
 obtain ⟨G63, eG64⟩ : ∃ b : Bool, b = ((decide (((spanF c.kind).1) ≤ (c.n))) && (decide ((c.n) ≤ ((spanF c.kind).2)))) := ⟨_, rfl⟩
 obtain ⟨G65, eG66⟩ : ∃ b : Bool, b = ((G63) && (chF c)) := ⟨_, rfl⟩
 obtain ⟨G67, eG68⟩ : ∃ b : Bool, b = ((G65) && (txF c)) := ⟨_, rfl⟩
 obtain ⟨G75, eG76⟩ : ∃ b : Bool, b = ((G67) && (wthF (c.client) ((8 : Int)) ((!((([(8 : Int)] : List Int)).contains (c).kind))))) := ⟨_, rfl⟩
 obtain ⟨G83, eG84⟩ : ∃ b : Bool, b = ((G75) && (wthF (c.seq) ((1048576 : Int)) ((!((([(1 : Int), (8 : Int)] : List Int)).contains (c).kind))))) := ⟨_, rfl⟩
 obtain ⟨G91, eG92⟩ : ∃ b : Bool, b = ((G83) && (wthF (c.set) ((8 : Int)) (((([(2 : Int), (3 : Int), (4 : Int)] : List Int)).contains (c).kind)))) := ⟨_, rfl⟩
 refine WC.draw' mixed_orders [.ex [] (.agg #[(.int .i64 (spanF c.kind).1), (.int .i64 (spanF c.kind).2)]), .ex [] (.pointer (some ⟨w.heap.size, 5, none⟩)), .ex [1] (.int .i64 c.n), .ex [0, 2] (.bool ((decide (((spanF c.kind).1) ≤ (c.n))) && (decide ((c.n) ≤ ((spanF c.kind).2))))), .ex [3] (.bool (G63)), .ex [4] (sel (G63) (.bool (chF c))), .ex [4, 5] (.bool ((G63) && (chF c))), .ex [6] (.bool (G65)), .ex [7] (sel (G65) (.bool (txF c))), .ex [7, 8] (.bool ((G65) && (txF c))), .ex [9] (.bool (G67)), .ex [10] (sel (G67) (.func (.func 68) #[] [].toArray)), .ex [10] (sel (G67) (.pointer (some ⟨w.heap.size, 1, none⟩))), .ex [10, 12] (sel (G67) (.int .i64 c.client)), .ex [10] (sel (G67) (.func (.func 66) #[] [(.pointer (some ⟨w.heap.size, 0, none⟩))].toArray)), ⟨[10], [], fun u w' => (G67) = true → ∃ a c, u = .slice a 1 c ∧ Sl (α := Int) true w.heap.size w'.heap.size w' (.slice a 1 c) ([(8 : Int)] : List Int)⟩, .ex [10, 14, 15] (sel (G67) (.bool ((([(8 : Int)] : List Int)).contains (c).kind))), .ex [10, 16] (sel (G67) (.bool (!((([(8 : Int)] : List Int)).contains (c).kind)))), .ex [10, 11, 13, 17] (sel (G67) (.bool (wthF (c.client) ((8 : Int)) ((!((([(8 : Int)] : List Int)).contains (c).kind)))))), .ex [10, 18] (.bool ((G67) && (wthF (c.client) ((8 : Int)) ((!((([(8 : Int)] : List Int)).contains (c).kind)))))), .ex [19] (.bool (G75)), .ex [20] (sel (G75) (.func (.func 68) #[] [].toArray)), .ex [20] (sel (G75) (.pointer (some ⟨w.heap.size, 2, none⟩))), .ex [20, 22] (sel (G75) (.int .i64 c.seq)), .ex [20] (sel (G75) (.func (.func 66) #[] [(.pointer (some ⟨w.heap.size, 0, none⟩))].toArray)), ⟨[20], [], fun u w' => (G75) = true → ∃ a c, u = .slice a 2 c ∧ Sl (α := Int) true w.heap.size w'.heap.size w' (.slice a 2 c) ([(1 : Int), (8 : Int)] : List Int)⟩, .ex [20, 24, 25] (sel (G75) (.bool ((([(1 : Int), (8 : Int)] : List Int)).contains (c).kind))), .ex [20, 26] (sel (G75) (.bool (!((([(1 : Int), (8 : Int)] : List Int)).contains (c).kind)))), .ex [20, 21, 23, 27] (sel (G75) (.bool (wthF (c.seq) ((1048576 : Int)) ((!((([(1 : Int), (8 : Int)] : List Int)).contains (c).kind)))))), .ex [20, 28] (.bool ((G75) && (wthF (c.seq) ((1048576 : Int)) ((!((([(1 : Int), (8 : Int)] : List Int)).contains (c).kind)))))), .ex [29] (.bool (G83)), .ex [30] (sel (G83) (.func (.func 68) #[] [].toArray)), .ex [30] (sel (G83) (.pointer (some ⟨w.heap.size, 3, none⟩))), .ex [30, 32] (sel (G83) (.int .i64 c.set)), .ex [30] (sel (G83) (.func (.func 66) #[] [(.pointer (some ⟨w.heap.size, 0, none⟩))].toArray)), ⟨[30], [], fun u w' => (G83) = true → ∃ a c, u = .slice a 3 c ∧ Sl (α := Int) true w.heap.size w'.heap.size w' (.slice a 3 c) ([(2 : Int), (3 : Int), (4 : Int)] : List Int)⟩, .ex [30, 34, 35] (sel (G83) (.bool ((([(2 : Int), (3 : Int), (4 : Int)] : List Int)).contains (c).kind))), .ex [30, 31, 33, 36] (sel (G83) (.bool (wthF (c.set) ((8 : Int)) (((([(2 : Int), (3 : Int), (4 : Int)] : List Int)).contains (c).kind))))), .ex [30, 37] (.bool ((G83) && (wthF (c.set) ((8 : Int)) (((([(2 : Int), (3 : Int), (4 : Int)] : List Int)).contains (c).kind))))), .ex [38] (.bool (G91)), .ex [39] (sel (G91) (.func (.func 68) #[] [].toArray)), .ex [39] (sel (G91) (.pointer (some ⟨w.heap.size, 4, none⟩))), .ex [39, 41] (sel (G91) (.int .i64 c.id)), .ex [39] (sel (G91) (.func (.func 66) #[] [(.pointer (some ⟨w.heap.size, 0, none⟩))].toArray)), ⟨[39], [], fun u w' => (G91) = true → ∃ a c, u = .slice a 5 c ∧ Sl (α := Int) true w.heap.size w'.heap.size w' (.slice a 5 c) ([(5 : Int), (7 : Int), (9 : Int), (10 : Int), (11 : Int)] : List Int)⟩, .ex [39, 43, 44] (sel (G91) (.bool ((([(5 : Int), (7 : Int), (9 : Int), (10 : Int), (11 : Int)] : List Int)).contains (c).kind))), .ex [39, 40, 42, 45] (sel (G91) (.bool (wthF (c.id) ((1048576 : Int)) (((([(5 : Int), (7 : Int), (9 : Int), (10 : Int), (11 : Int)] : List Int)).contains (c).kind))))), .ex [39, 46] (.bool ((G91) && (wthF (c.id) ((1048576 : Int)) (((([(5 : Int), (7 : Int), (9 : Int), (10 : Int), (11 : Int)] : List Int)).contains (c).kind)))))] 48 (by kernel_rfl) ⟨fun _ _ _ h _ => h, fun _ _ _ h _ => h, fun _ _ _ h _ => h, fun _ _ _ h _ => h, fun _ _ _ h _ => h, fun _ _ _ h _ => h, fun _ _ _ h _ => h, fun _ _ _ h _ => h, fun _ _ _ h _ => h, fun _ _ _ h _ => h, fun _ _ _ h _ => h, fun _ _ _ h _ => h, fun _ _ _ h _ => h, fun _ _ _ h _ => h, fun _ _ _ h _ => h, fun _ _ _ f k hg => let ⟨a, c, e, h⟩ := f hg; ⟨a, c, e, (sl_kp0 h k (Nat.le_refl _)).mono (Nat.le_refl _) k.size⟩, fun _ _ _ h _ => h, fun _ _ _ h _ => h, fun _ _ _ h _ => h, fun _ _ _ h _ => h, fun _ _ _ h _ => h, fun _ _ _ h _ => h, fun _ _ _ h _ => h, fun _ _ _ h _ => h, fun _ _ _ h _ => h, fun _ _ _ f k hg => let ⟨a, c, e, h⟩ := f hg; ⟨a, c, e, (sl_kp0 h k (Nat.le_refl _)).mono (Nat.le_refl _) k.size⟩, fun _ _ _ h _ => h, fun _ _ _ h _ => h, fun _ _ _ h _ => h, fun _ _ _ h _ => h, fun _ _ _ h _ => h, fun _ _ _ h _ => h, fun _ _ _ h _ => h, fun _ _ _ h _ => h, fun _ _ _ h _ => h, fun _ _ _ f k hg => let ⟨a, c, e, h⟩ := f hg; ⟨a, c, e, (sl_kp0 h k (Nat.le_refl _)).mono (Nat.le_refl _) k.size⟩, fun _ _ _ h _ => h, fun _ _ _ h _ => h, fun _ _ _ h _ => h, fun _ _ _ h _ => h, fun _ _ _ h _ => h, fun _ _ _ h _ => h, fun _ _ _ h _ => h, fun _ _ _ h _ => h, fun _ _ _ f k hg => let ⟨a, c, e, h⟩ := f hg; ⟨a, c, e, (sl_kp0 h k (Nat.le_refl _)).mono (Nat.le_refl _) k.size⟩, fun _ _ _ h _ => h, fun _ _ _ h _ => h, fun _ _ _ h _ => h, trivial⟩ ⟨?_, ?_, ?_, ?_, ?_, ?_, ?_, ?_, ?_, ?_, ?_, ?_, ?_, ?_, ?_, ?_, ?_, ?_, ?_, ?_, ?_, ?_, ?_, ?_, ?_, ?_, ?_, ?_, ?_, ?_, ?_, ?_, ?_, ?_, ?_, ?_, ?_, ?_, ?_, ?_, ?_, ?_, ?_, ?_, ?_, ?_, ?_, ?_, trivial⟩ ?_
 rintro vs w99 k99 ⟨-⟩
 replace k99 : Kp [] w59 w99 := k99
 have z99 := k99.size
 have b99 := old_kp0 b59 k99
 have y99 := b99.size
 refine WO.haves (fr' := [(5, _)]) ⟨⟨_, rfl, rfl⟩, trivial⟩ ?_
 have B100 := (((B18).kp0 k39).kp0 k59).kp0 k99
 refine WO.v (R.loadBN (vs := [_, _]) rfl B100 rfl Try.underlying91 rfl sz91) rfl ?_
 refine WO.nil ?_
 exact WX.stepDone rfl rfl (Kp.refl _)
 rintro vs w101 k101 ⟨-⟩
 replace k101 : Kp [] w59 w101 := k101
 refine WO.haves (fr' := [(1, _)]) ⟨⟨_, rfl, rfl⟩, trivial⟩ ?_
 refine WO.v (fa24_5 rfl) rfl ?_
 refine WO.nil ?_
 exact WX.stepDone rfl rfl (Kp.refl _)
 rintro vs w102 k102 ⟨e103, -⟩
 replace k102 : Kp [] w59 w102 := k102
 have z102 := k102.size
 have b102 := old_kp0 b59 k102
 have y102 := b102.size
 refine WO.haves (fr' := [(38, _)]) ⟨⟨_, rfl, e103⟩, trivial⟩ ?_
 have B104 := ((B49).kp0 k59).kp0 k102
 refine WO.v (R.loadB rfl B104 rfl Try.underlying3 rfl) rfl ?_
 refine WO.nil ?_
 exact WX.stepDone rfl rfl (Kp.refl _)
 rintro vs w105 k105 ⟨e106, e107, -⟩
 replace k105 : Kp [] w59 w105 := k105
 have z105 := k105.size
 have b105 := old_kp0 b59 k105
 have y105 := b105.size
 refine WO.haves (fr' := [(37, _), (39, _)]) ⟨⟨_, rfl, e106⟩, ⟨_, rfl, e107⟩, trivial⟩ ?_
 refine WO.c (E.call rfl rfl Try.func69 rfl rfl) (has_s (n := c.n) (a := (spanF c.kind).1) (b := (spanF c.kind).2) ) rfl ?_
 rintro _ w108 ⟨rfl, k108⟩
 have z108 := k108.size
 have b108 := old_kp0 b105 k108
 have y108 := b108.size
 refine WO.nil ?_
 exact WX.stepDone rfl rfl ((Kp.refl _).step k108 (by simp))
 rintro vs w109 k109 ⟨e110, -⟩
 replace k109 : Kp [] w59 w109 := k109
 refine WO.haves (fr' := [(40, _)]) ⟨⟨_, rfl, e110⟩, trivial⟩ ?_
 refine WO.v (R.move rfl) rfl ?_
 refine WO.nil ?_
 exact WX.stepDone rfl (vb eG64.symm) (Kp.refl _)
 rintro vs w111 k111 ⟨e112, -⟩
 replace k111 : Kp [] w59 w111 := k111
 rcases Bool.eq_false_or_eq_true (G63) with hb113 | hb113
 have phb113 : (((spanF c.kind).1) ≤ (c.n)) ∧ ((c.n) ≤ ((spanF c.kind).2)) := ⟨of_decide_eq_true (band_t (eG64.symm.trans hb113)).1, of_decide_eq_true (band_t (eG64.symm.trans hb113)).2⟩
 refine WO.haves (fr' := [(41, _), (6, _)]) ⟨⟨_, rfl, e112⟩, ⟨_, rfl, rfl⟩, trivial⟩ ?_
 refine WO.on rfl rfl hb113 ?_
 refine WO.v (R.move rfl) rfl ?_
 refine WO.nil ?_
 exact WX.stepDone rfl (sel_on hb113 rfl) (Kp.refl _)
 have phb113 : (¬ (((spanF c.kind).1) ≤ (c.n))) ∨ (¬ ((c.n) ≤ ((spanF c.kind).2))) := Or.imp (fun h => of_decide_eq_false h) (fun h => of_decide_eq_false h) (band_f (eG64.symm.trans hb113))
 refine WO.haves (fr' := [(41, _)]) ⟨⟨_, rfl, e112⟩, trivial⟩ ?_
 refine WO.off rfl rfl hb113 rfl ?_
 refine WO.nil ?_
 exact WX.stepDone rfl (sel_of hb113) (Kp.refl _)
 rintro vs w114 k114 ⟨e115, e116, -⟩
 replace k114 : Kp [] w59 w114 := k114
 rcases Bool.eq_false_or_eq_true (G63) with hb117 | hb117
 refine WO.haves (fr' := [(41, _), (42, _)]) ⟨⟨_, rfl, e115⟩, ⟨_, rfl, sel_t e116 hb117⟩, trivial⟩ ?_
 refine WO.v (R.pickT rfl hb117 rfl) rfl ?_
 refine WO.nil ?_
 exact WX.stepDone rfl (vb (band_on hb117)) (Kp.refl _)
 refine WO.haves (fr' := [(41, _)]) ⟨⟨_, rfl, e115⟩, trivial⟩ ?_
 refine WO.v (R.pickF rfl hb117 rfl) rfl ?_
 refine WO.nil ?_
 exact WX.stepDone rfl (vb (band_off hb117)) (Kp.refl _)
 rintro vs w118 k118 ⟨e119, -⟩
 replace k118 : Kp [] w59 w118 := k118
 refine WO.haves (fr' := [(43, _)]) ⟨⟨_, rfl, e119⟩, trivial⟩ ?_
 refine WO.v (R.move rfl) rfl ?_
 refine WO.nil ?_
 exact WX.stepDone rfl (vb eG66.symm) (Kp.refl _)
 rintro vs w120 k120 ⟨e121, -⟩
 replace k120 : Kp [] w59 w120 := k120
 rcases Bool.eq_false_or_eq_true (G65) with hb122 | hb122
 have phb122 : ((G63) = true) ∧ ((chF c) = true) := ⟨(band_t (eG66.symm.trans hb122)).1, (band_t (eG66.symm.trans hb122)).2⟩
 refine WO.haves (fr' := [(44, _), (7, _)]) ⟨⟨_, rfl, e121⟩, ⟨_, rfl, rfl⟩, trivial⟩ ?_
 refine WO.on rfl rfl hb122 ?_
 refine WO.v (R.move rfl) rfl ?_
 refine WO.nil ?_
 exact WX.stepDone rfl (sel_on hb122 rfl) (Kp.refl _)
 have phb122 : ((G63) = false) ∨ ((chF c) = false) := Or.imp (fun h => h) (fun h => h) (band_f (eG66.symm.trans hb122))
 refine WO.haves (fr' := [(44, _)]) ⟨⟨_, rfl, e121⟩, trivial⟩ ?_
 refine WO.off rfl rfl hb122 rfl ?_
 refine WO.nil ?_
 exact WX.stepDone rfl (sel_of hb122) (Kp.refl _)
 rintro vs w123 k123 ⟨e124, e125, -⟩
 replace k123 : Kp [] w59 w123 := k123
 rcases Bool.eq_false_or_eq_true (G65) with hb126 | hb126
 refine WO.haves (fr' := [(44, _), (45, _)]) ⟨⟨_, rfl, e124⟩, ⟨_, rfl, sel_t e125 hb126⟩, trivial⟩ ?_
 refine WO.v (R.pickT rfl hb126 rfl) rfl ?_
 refine WO.nil ?_
 exact WX.stepDone rfl (vb (band_on hb126)) (Kp.refl _)
 refine WO.haves (fr' := [(44, _)]) ⟨⟨_, rfl, e124⟩, trivial⟩ ?_
 refine WO.v (R.pickF rfl hb126 rfl) rfl ?_
 refine WO.nil ?_
 exact WX.stepDone rfl (vb (band_off hb126)) (Kp.refl _)
 rintro vs w127 k127 ⟨e128, -⟩
 replace k127 : Kp [] w59 w127 := k127
 refine WO.haves (fr' := [(46, _)]) ⟨⟨_, rfl, e128⟩, trivial⟩ ?_
 refine WO.v (R.move rfl) rfl ?_
 refine WO.nil ?_
 exact WX.stepDone rfl (vb eG68.symm) (Kp.refl _)
 rintro vs w129 k129 ⟨e130, -⟩
 replace k129 : Kp [] w59 w129 := k129
 rcases Bool.eq_false_or_eq_true (G67) with hb131 | hb131
 have phb131 : ((G65) = true) ∧ ((txF c) = true) := ⟨(band_t (eG68.symm.trans hb131)).1, (band_t (eG68.symm.trans hb131)).2⟩
 refine WO.haves (fr' := [(47, _), (4, _)]) ⟨⟨_, rfl, e130⟩, ⟨_, rfl, rfl⟩, trivial⟩ ?_
 refine WO.on rfl rfl hb131 ?_
 refine WO.v (R.move rfl) rfl ?_
 refine WO.nil ?_
 exact WX.stepDone rfl (sel_on hb131 rfl) (Kp.refl _)
 have phb131 : ((G65) = false) ∨ ((txF c) = false) := Or.imp (fun h => h) (fun h => h) (band_f (eG68.symm.trans hb131))
 refine WO.haves (fr' := [(47, _)]) ⟨⟨_, rfl, e130⟩, trivial⟩ ?_
 refine WO.off rfl rfl hb131 rfl ?_
 refine WO.nil ?_
 exact WX.stepDone rfl (sel_of hb131) (Kp.refl _)
 rintro vs w132 k132 ⟨e133, -⟩
 replace k132 : Kp [] w59 w132 := k132
 rcases Bool.eq_false_or_eq_true (G67) with hb134 | hb134
 have phb134 : ((G65) = true) ∧ ((txF c) = true) := ⟨(band_t (eG68.symm.trans hb134)).1, (band_t (eG68.symm.trans hb134)).2⟩
 refine WO.haves (fr' := [(47, _), (1, _)]) ⟨⟨_, rfl, e133⟩, ⟨_, rfl, rfl⟩, trivial⟩ ?_
 refine WO.on rfl rfl hb134 ?_
 refine WO.v (fa24_1 rfl) rfl ?_
 refine WO.nil ?_
 exact WX.stepDone rfl (sel_on hb134 rfl) (Kp.refl _)
 have phb134 : ((G65) = false) ∨ ((txF c) = false) := Or.imp (fun h => h) (fun h => h) (band_f (eG68.symm.trans hb134))
 refine WO.haves (fr' := [(47, _)]) ⟨⟨_, rfl, e133⟩, trivial⟩ ?_
 refine WO.off rfl rfl hb134 rfl ?_
 refine WO.nil ?_
 exact WX.stepDone rfl (sel_of hb134) (Kp.refl _)
 rintro vs w135 k135 ⟨e136, e137, -⟩
 replace k135 : Kp [] w59 w135 := k135
 have z135 := k135.size
 have b135 := old_kp0 b59 k135
 have y135 := b135.size
 rcases Bool.eq_false_or_eq_true (G67) with hb138 | hb138
 have phb138 : ((G65) = true) ∧ ((txF c) = true) := ⟨(band_t (eG68.symm.trans hb138)).1, (band_t (eG68.symm.trans hb138)).2⟩
 refine WO.haves (fr' := [(47, _), (49, _)]) ⟨⟨_, rfl, e136⟩, ⟨_, rfl, sel_t e137 hb138⟩, trivial⟩ ?_
 refine WO.on rfl rfl hb138 ?_
 have B139 := ((B49).kp0 k59).kp0 k135
 refine WO.v (R.loadB rfl B139 rfl Try.underlying3 rfl) rfl ?_
 refine WO.nil ?_
 exact WX.stepDone rfl (sel_on hb138 rfl) (Kp.refl _)
 have phb138 : ((G65) = false) ∨ ((txF c) = false) := Or.imp (fun h => h) (fun h => h) (band_f (eG68.symm.trans hb138))
 refine WO.haves (fr' := [(47, _)]) ⟨⟨_, rfl, e136⟩, trivial⟩ ?_
 refine WO.off rfl rfl hb138 rfl ?_
 refine WO.nil ?_
 exact WX.stepDone rfl (sel_of hb138) (Kp.refl _)
 rintro vs w140 k140 ⟨e141, -⟩
 replace k140 : Kp [] w59 w140 := k140
 rcases Bool.eq_false_or_eq_true (G67) with hb142 | hb142
 have phb142 : ((G65) = true) ∧ ((txF c) = true) := ⟨(band_t (eG68.symm.trans hb142)).1, (band_t (eG68.symm.trans hb142)).2⟩
 refine WO.haves (fr' := [(47, _), (3, _)]) ⟨⟨_, rfl, e141⟩, ⟨_, rfl, rfl⟩, trivial⟩ ?_
 refine WO.on rfl rfl hb142 ?_
 refine WO.v (R.move rfl) rfl ?_
 refine WO.nil ?_
 exact WX.stepDone rfl (sel_on hb142 rfl) (Kp.refl _)
 have phb142 : ((G65) = false) ∨ ((txF c) = false) := Or.imp (fun h => h) (fun h => h) (band_f (eG68.symm.trans hb142))
 refine WO.haves (fr' := [(47, _)]) ⟨⟨_, rfl, e141⟩, trivial⟩ ?_
 refine WO.off rfl rfl hb142 rfl ?_
 refine WO.nil ?_
 exact WX.stepDone rfl (sel_of hb142) (Kp.refl _)
 rintro vs w143 k143 ⟨e144, -⟩
 replace k143 : Kp [] w59 w143 := k143
 have z143 := k143.size
 have b143 := old_kp0 b59 k143
 have y143 := b143.size
 rcases Bool.eq_false_or_eq_true (G67) with hb145 | hb145
 have phb145 : ((G65) = true) ∧ ((txF c) = true) := ⟨(band_t (eG68.symm.trans hb145)).1, (band_t (eG68.symm.trans hb145)).2⟩
 refine WO.haves (fr' := [(47, _)]) ⟨⟨_, rfl, e144⟩, trivial⟩ ?_
 refine WO.on rfl rfl hb145 ?_
 refine WO.buildSlice (parts := [_]) (vss := [[_]]) Try.underlying22 sz3 zr3 rfl rfl (by simp) rfl rfl rfl ?_
 intro w146 n146
 have z146 := n146.lt
 have b146 := old_kp0 b143 n146.kp
 have y146 := b146.size
 have ac147 : Ac (α := Int) (w143.heap.size) true (w.heap.size) (w146.heap.size) (w146.heap.size) w146 (.slice (some ⟨w143.heap.size, 0, none⟩) 1 1) ([(8 : Int)] : List Int) := Ac.lit (α := Int) (ys := ([(8 : Int)] : List Int)) (css := [[_]]) n146.blk (.cons (⟨rfl, show I64 (8) from ⟨by omega, by omega⟩⟩) (.nil)) (by omega) (by omega) (by simp [maxLen]) (by show 1 * 8 ≤ 140737488355328; decide) rfl
 have lenac147 : ([(8 : Int)] : List Int).length = 1 := rfl
 refine WO.nil ?_
 exact WX.stepDone rfl (fun _ => ⟨(some ⟨w143.heap.size, 0, none⟩), 1, rfl, (ac147).own (L := w.heap.size) (H := w146.heap.size) (by omega) (by omega) (by omega) (by omega)⟩) ((Kp.refl _).step n146.kp (by simp))
 have phb145 : ((G65) = false) ∨ ((txF c) = false) := Or.imp (fun h => h) (fun h => h) (band_f (eG68.symm.trans hb145))
 refine WO.haves (fr' := [(47, _)]) ⟨⟨_, rfl, e144⟩, trivial⟩ ?_
 refine WO.off rfl rfl hb145 rfl ?_
 refine WO.nil ?_
 exact WX.stepDone rfl (gno hb145) (Kp.refl _)
 rintro vs w148 k148 ⟨e149, e150, e151, -⟩
 replace k148 : Kp [] w59 w148 := k148
 have z148 := k148.size
 have b148 := old_kp0 b59 k148
 have y148 := b148.size
 rcases Bool.eq_false_or_eq_true (G67) with hb152 | hb152
 have phb152 : ((G65) = true) ∧ ((txF c) = true) := ⟨(band_t (eG68.symm.trans hb152)).1, (band_t (eG68.symm.trans hb152)).2⟩
 obtain ⟨a153, c154, e155, s156⟩ := e151 hb152
 have ls156 : (([(8 : Int)] : List Int)).length * 8 ≤ 140737488355328 := s156.lenle
 refine WO.haves (fr' := [(47, _), (51, _), (52, _)]) ⟨⟨_, rfl, e149⟩, ⟨_, rfl, sel_t e150 hb152⟩, ⟨_, rfl, e155⟩, trivial⟩ ?_
 refine WO.on rfl rfl hb152 ?_
 have B157 := ((B49).kp0 k59).kp0 k148
 refine WO.c (E.call rfl rfl Try.func66 rfl rfl) (fits1_s (l := ([(8 : Int)] : List Int)) (a_l := a153) (c_l := c154) (p_c := w.heap.size) (c := c) (((s156).weak).mono (lo' := 0) (hi' := w148.heap.size) (Nat.zero_le _) (by omega)) B157 (Command.mk_ (i1) (i2) (i3) (i4) (i5) (i6) ((sl_old s9 b148).mono (lo' := 0) (hi' := w148.heap.size) (Nat.zero_le _) (by omega)) i10)) rfl ?_
 rintro _ w158 ⟨rfl, k158⟩
 have z158 := k158.size
 have b158 := old_kp0 b148 k158
 have y158 := b158.size
 refine WO.nil ?_
 exact WX.stepDone rfl (sel_on hb152 rfl) ((Kp.refl _).step k158 (by simp))
 have phb152 : ((G65) = false) ∨ ((txF c) = false) := Or.imp (fun h => h) (fun h => h) (band_f (eG68.symm.trans hb152))
 refine WO.haves (fr' := [(47, _)]) ⟨⟨_, rfl, e149⟩, trivial⟩ ?_
 refine WO.off rfl rfl hb152 rfl ?_
 refine WO.nil ?_
 exact WX.stepDone rfl (sel_of hb152) (Kp.refl _)
 rintro vs w159 k159 ⟨e160, e161, -⟩
 replace k159 : Kp [] w59 w159 := k159
 rcases Bool.eq_false_or_eq_true (G67) with hb162 | hb162
 have phb162 : ((G65) = true) ∧ ((txF c) = true) := ⟨(band_t (eG68.symm.trans hb162)).1, (band_t (eG68.symm.trans hb162)).2⟩
 refine WO.haves (fr' := [(47, _), (53, _)]) ⟨⟨_, rfl, e160⟩, ⟨_, rfl, sel_t e161 hb162⟩, trivial⟩ ?_
 refine WO.on rfl rfl hb162 ?_
 refine WO.v (R.not rfl) rfl ?_
 refine WO.nil ?_
 exact WX.stepDone rfl (sel_on hb162 rfl) (Kp.refl _)
 have phb162 : ((G65) = false) ∨ ((txF c) = false) := Or.imp (fun h => h) (fun h => h) (band_f (eG68.symm.trans hb162))
 refine WO.haves (fr' := [(47, _)]) ⟨⟨_, rfl, e160⟩, trivial⟩ ?_
 refine WO.off rfl rfl hb162 rfl ?_
 refine WO.nil ?_
 exact WX.stepDone rfl (sel_of hb162) (Kp.refl _)
 rintro vs w163 k163 ⟨e164, e165, e166, e167, -⟩
 replace k163 : Kp [] w59 w163 := k163
 have z163 := k163.size
 have b163 := old_kp0 b59 k163
 have y163 := b163.size
 rcases Bool.eq_false_or_eq_true (G67) with hb168 | hb168
 have phb168 : ((G65) = true) ∧ ((txF c) = true) := ⟨(band_t (eG68.symm.trans hb168)).1, (band_t (eG68.symm.trans hb168)).2⟩
 refine WO.haves (fr' := [(47, _), (48, _), (50, _), (54, _)]) ⟨⟨_, rfl, e164⟩, ⟨_, rfl, sel_t e165 hb168⟩, ⟨_, rfl, sel_t e166 hb168⟩, ⟨_, rfl, sel_t e167 hb168⟩, trivial⟩ ?_
 refine WO.on rfl rfl hb168 ?_
 refine WO.c (E.call rfl rfl Try.func68 rfl rfl) (fits2_s (n := c.client) (most := (8 : Int)) (named := (!((([(8 : Int)] : List Int)).contains (c).kind))) ) rfl ?_
 rintro _ w169 ⟨rfl, k169⟩
 have z169 := k169.size
 have b169 := old_kp0 b163 k169
 have y169 := b169.size
 refine WO.nil ?_
 exact WX.stepDone rfl (sel_on hb168 rfl) ((Kp.refl _).step k169 (by simp))
 have phb168 : ((G65) = false) ∨ ((txF c) = false) := Or.imp (fun h => h) (fun h => h) (band_f (eG68.symm.trans hb168))
 refine WO.haves (fr' := [(47, _)]) ⟨⟨_, rfl, e164⟩, trivial⟩ ?_
 refine WO.off rfl rfl hb168 rfl ?_
 refine WO.nil ?_
 exact WX.stepDone rfl (sel_of hb168) (Kp.refl _)
 rintro vs w170 k170 ⟨e171, e172, -⟩
 replace k170 : Kp [] w59 w170 := k170
 rcases Bool.eq_false_or_eq_true (G67) with hb173 | hb173
 refine WO.haves (fr' := [(47, _), (55, _)]) ⟨⟨_, rfl, e171⟩, ⟨_, rfl, sel_t e172 hb173⟩, trivial⟩ ?_
 refine WO.v (R.pickT rfl hb173 rfl) rfl ?_
 refine WO.nil ?_
 exact WX.stepDone rfl (vb (band_on hb173)) (Kp.refl _)
 refine WO.haves (fr' := [(47, _)]) ⟨⟨_, rfl, e171⟩, trivial⟩ ?_
 refine WO.v (R.pickF rfl hb173 rfl) rfl ?_
 refine WO.nil ?_
 exact WX.stepDone rfl (vb (band_off hb173)) (Kp.refl _)
 rintro vs w174 k174 ⟨e175, -⟩
 replace k174 : Kp [] w59 w174 := k174
 refine WO.haves (fr' := [(56, _)]) ⟨⟨_, rfl, e175⟩, trivial⟩ ?_
 refine WO.v (R.move rfl) rfl ?_
 refine WO.nil ?_
 exact WX.stepDone rfl (vb eG76.symm) (Kp.refl _)
 rintro vs w176 k176 ⟨e177, -⟩
 replace k176 : Kp [] w59 w176 := k176
 rcases Bool.eq_false_or_eq_true (G75) with hb178 | hb178
 have phb178 : ((G67) = true) ∧ ((wthF (c.client) ((8 : Int)) ((!((([(8 : Int)] : List Int)).contains (c).kind)))) = true) := ⟨(band_t (eG76.symm.trans hb178)).1, (band_t (eG76.symm.trans hb178)).2⟩
 refine WO.haves (fr' := [(57, _), (4, _)]) ⟨⟨_, rfl, e177⟩, ⟨_, rfl, rfl⟩, trivial⟩ ?_
 refine WO.on rfl rfl hb178 ?_
 refine WO.v (R.move rfl) rfl ?_
 refine WO.nil ?_
 exact WX.stepDone rfl (sel_on hb178 rfl) (Kp.refl _)
 have phb178 : ((G67) = false) ∨ ((wthF (c.client) ((8 : Int)) ((!((([(8 : Int)] : List Int)).contains (c).kind)))) = false) := Or.imp (fun h => h) (fun h => h) (band_f (eG76.symm.trans hb178))
 refine WO.haves (fr' := [(57, _)]) ⟨⟨_, rfl, e177⟩, trivial⟩ ?_
 refine WO.off rfl rfl hb178 rfl ?_
 refine WO.nil ?_
 exact WX.stepDone rfl (sel_of hb178) (Kp.refl _)
 rintro vs w179 k179 ⟨e180, -⟩
 replace k179 : Kp [] w59 w179 := k179
 rcases Bool.eq_false_or_eq_true (G75) with hb181 | hb181
 have phb181 : ((G67) = true) ∧ ((wthF (c.client) ((8 : Int)) ((!((([(8 : Int)] : List Int)).contains (c).kind)))) = true) := ⟨(band_t (eG76.symm.trans hb181)).1, (band_t (eG76.symm.trans hb181)).2⟩
 refine WO.haves (fr' := [(57, _), (1, _)]) ⟨⟨_, rfl, e180⟩, ⟨_, rfl, rfl⟩, trivial⟩ ?_
 refine WO.on rfl rfl hb181 ?_
 refine WO.v (fa24_2 rfl) rfl ?_
 refine WO.nil ?_
 exact WX.stepDone rfl (sel_on hb181 rfl) (Kp.refl _)
 have phb181 : ((G67) = false) ∨ ((wthF (c.client) ((8 : Int)) ((!((([(8 : Int)] : List Int)).contains (c).kind)))) = false) := Or.imp (fun h => h) (fun h => h) (band_f (eG76.symm.trans hb181))
 refine WO.haves (fr' := [(57, _)]) ⟨⟨_, rfl, e180⟩, trivial⟩ ?_
 refine WO.off rfl rfl hb181 rfl ?_
 refine WO.nil ?_
 exact WX.stepDone rfl (sel_of hb181) (Kp.refl _)
 rintro vs w182 k182 ⟨e183, e184, -⟩
 replace k182 : Kp [] w59 w182 := k182
 have z182 := k182.size
 have b182 := old_kp0 b59 k182
 have y182 := b182.size
 rcases Bool.eq_false_or_eq_true (G75) with hb185 | hb185
 have phb185 : ((G67) = true) ∧ ((wthF (c.client) ((8 : Int)) ((!((([(8 : Int)] : List Int)).contains (c).kind)))) = true) := ⟨(band_t (eG76.symm.trans hb185)).1, (band_t (eG76.symm.trans hb185)).2⟩
 refine WO.haves (fr' := [(57, _), (59, _)]) ⟨⟨_, rfl, e183⟩, ⟨_, rfl, sel_t e184 hb185⟩, trivial⟩ ?_
 refine WO.on rfl rfl hb185 ?_
 have B186 := ((B49).kp0 k59).kp0 k182
 refine WO.v (R.loadB rfl B186 rfl Try.underlying3 rfl) rfl ?_
 refine WO.nil ?_
 exact WX.stepDone rfl (sel_on hb185 rfl) (Kp.refl _)
 have phb185 : ((G67) = false) ∨ ((wthF (c.client) ((8 : Int)) ((!((([(8 : Int)] : List Int)).contains (c).kind)))) = false) := Or.imp (fun h => h) (fun h => h) (band_f (eG76.symm.trans hb185))
 refine WO.haves (fr' := [(57, _)]) ⟨⟨_, rfl, e183⟩, trivial⟩ ?_
 refine WO.off rfl rfl hb185 rfl ?_
 refine WO.nil ?_
 exact WX.stepDone rfl (sel_of hb185) (Kp.refl _)
 rintro vs w187 k187 ⟨e188, -⟩
 replace k187 : Kp [] w59 w187 := k187
 rcases Bool.eq_false_or_eq_true (G75) with hb189 | hb189
 have phb189 : ((G67) = true) ∧ ((wthF (c.client) ((8 : Int)) ((!((([(8 : Int)] : List Int)).contains (c).kind)))) = true) := ⟨(band_t (eG76.symm.trans hb189)).1, (band_t (eG76.symm.trans hb189)).2⟩
 refine WO.haves (fr' := [(57, _), (3, _)]) ⟨⟨_, rfl, e188⟩, ⟨_, rfl, rfl⟩, trivial⟩ ?_
 refine WO.on rfl rfl hb189 ?_
 refine WO.v (R.move rfl) rfl ?_
 refine WO.nil ?_
 exact WX.stepDone rfl (sel_on hb189 rfl) (Kp.refl _)
 have phb189 : ((G67) = false) ∨ ((wthF (c.client) ((8 : Int)) ((!((([(8 : Int)] : List Int)).contains (c).kind)))) = false) := Or.imp (fun h => h) (fun h => h) (band_f (eG76.symm.trans hb189))
 refine WO.haves (fr' := [(57, _)]) ⟨⟨_, rfl, e188⟩, trivial⟩ ?_
 refine WO.off rfl rfl hb189 rfl ?_
 refine WO.nil ?_
 exact WX.stepDone rfl (sel_of hb189) (Kp.refl _)
 rintro vs w190 k190 ⟨e191, -⟩
 replace k190 : Kp [] w59 w190 := k190
 have z190 := k190.size
 have b190 := old_kp0 b59 k190
 have y190 := b190.size
 rcases Bool.eq_false_or_eq_true (G75) with hb192 | hb192
 have phb192 : ((G67) = true) ∧ ((wthF (c.client) ((8 : Int)) ((!((([(8 : Int)] : List Int)).contains (c).kind)))) = true) := ⟨(band_t (eG76.symm.trans hb192)).1, (band_t (eG76.symm.trans hb192)).2⟩
 refine WO.haves (fr' := [(57, _)]) ⟨⟨_, rfl, e191⟩, trivial⟩ ?_
 refine WO.on rfl rfl hb192 ?_
 refine WO.buildSlice (parts := [_, _]) (vss := [[_], [_]]) Try.underlying22 sz3 zr3 rfl rfl (by simp) rfl rfl rfl ?_
 intro w193 n193
 have z193 := n193.lt
 have b193 := old_kp0 b190 n193.kp
 have y193 := b193.size
 have ac194 : Ac (α := Int) (w190.heap.size) true (w.heap.size) (w193.heap.size) (w193.heap.size) w193 (.slice (some ⟨w190.heap.size, 0, none⟩) 2 2) ([(1 : Int), (8 : Int)] : List Int) := Ac.lit (α := Int) (ys := ([(1 : Int), (8 : Int)] : List Int)) (css := [[_], [_]]) n193.blk (.cons (⟨rfl, show I64 (1) from ⟨by omega, by omega⟩⟩) (.cons (⟨rfl, show I64 (8) from ⟨by omega, by omega⟩⟩) (.nil))) (by omega) (by omega) (by simp [maxLen]) (by show 2 * 8 ≤ 140737488355328; decide) rfl
 have lenac194 : ([(1 : Int), (8 : Int)] : List Int).length = 2 := rfl
 refine WO.nil ?_
 exact WX.stepDone rfl (fun _ => ⟨(some ⟨w190.heap.size, 0, none⟩), 2, rfl, (ac194).own (L := w.heap.size) (H := w193.heap.size) (by omega) (by omega) (by omega) (by omega)⟩) ((Kp.refl _).step n193.kp (by simp))
 have phb192 : ((G67) = false) ∨ ((wthF (c.client) ((8 : Int)) ((!((([(8 : Int)] : List Int)).contains (c).kind)))) = false) := Or.imp (fun h => h) (fun h => h) (band_f (eG76.symm.trans hb192))
 refine WO.haves (fr' := [(57, _)]) ⟨⟨_, rfl, e191⟩, trivial⟩ ?_
 refine WO.off rfl rfl hb192 rfl ?_
 refine WO.nil ?_
 exact WX.stepDone rfl (gno hb192) (Kp.refl _)
 rintro vs w195 k195 ⟨e196, e197, e198, -⟩
 replace k195 : Kp [] w59 w195 := k195
 have z195 := k195.size
 have b195 := old_kp0 b59 k195
 have y195 := b195.size
 rcases Bool.eq_false_or_eq_true (G75) with hb199 | hb199
 have phb199 : ((G67) = true) ∧ ((wthF (c.client) ((8 : Int)) ((!((([(8 : Int)] : List Int)).contains (c).kind)))) = true) := ⟨(band_t (eG76.symm.trans hb199)).1, (band_t (eG76.symm.trans hb199)).2⟩
 obtain ⟨a200, c201, e202, s203⟩ := e198 hb199
 have ls203 : (([(1 : Int), (8 : Int)] : List Int)).length * 8 ≤ 140737488355328 := s203.lenle
 refine WO.haves (fr' := [(57, _), (61, _), (62, _)]) ⟨⟨_, rfl, e196⟩, ⟨_, rfl, sel_t e197 hb199⟩, ⟨_, rfl, e202⟩, trivial⟩ ?_
 refine WO.on rfl rfl hb199 ?_
 have B204 := ((B49).kp0 k59).kp0 k195
 refine WO.c (E.call rfl rfl Try.func66 rfl rfl) (fits1_s (l := ([(1 : Int), (8 : Int)] : List Int)) (a_l := a200) (c_l := c201) (p_c := w.heap.size) (c := c) (((s203).weak).mono (lo' := 0) (hi' := w195.heap.size) (Nat.zero_le _) (by omega)) B204 (Command.mk_ (i1) (i2) (i3) (i4) (i5) (i6) ((sl_old s9 b195).mono (lo' := 0) (hi' := w195.heap.size) (Nat.zero_le _) (by omega)) i10)) rfl ?_
 rintro _ w205 ⟨rfl, k205⟩
 have z205 := k205.size
 have b205 := old_kp0 b195 k205
 have y205 := b205.size
 refine WO.nil ?_
 exact WX.stepDone rfl (sel_on hb199 rfl) ((Kp.refl _).step k205 (by simp))
 have phb199 : ((G67) = false) ∨ ((wthF (c.client) ((8 : Int)) ((!((([(8 : Int)] : List Int)).contains (c).kind)))) = false) := Or.imp (fun h => h) (fun h => h) (band_f (eG76.symm.trans hb199))
 refine WO.haves (fr' := [(57, _)]) ⟨⟨_, rfl, e196⟩, trivial⟩ ?_
 refine WO.off rfl rfl hb199 rfl ?_
 refine WO.nil ?_
 exact WX.stepDone rfl (sel_of hb199) (Kp.refl _)
 rintro vs w206 k206 ⟨e207, e208, -⟩
 replace k206 : Kp [] w59 w206 := k206
 rcases Bool.eq_false_or_eq_true (G75) with hb209 | hb209
 have phb209 : ((G67) = true) ∧ ((wthF (c.client) ((8 : Int)) ((!((([(8 : Int)] : List Int)).contains (c).kind)))) = true) := ⟨(band_t (eG76.symm.trans hb209)).1, (band_t (eG76.symm.trans hb209)).2⟩
 refine WO.haves (fr' := [(57, _), (63, _)]) ⟨⟨_, rfl, e207⟩, ⟨_, rfl, sel_t e208 hb209⟩, trivial⟩ ?_
 refine WO.on rfl rfl hb209 ?_
 refine WO.v (R.not rfl) rfl ?_
 refine WO.nil ?_
 exact WX.stepDone rfl (sel_on hb209 rfl) (Kp.refl _)
 have phb209 : ((G67) = false) ∨ ((wthF (c.client) ((8 : Int)) ((!((([(8 : Int)] : List Int)).contains (c).kind)))) = false) := Or.imp (fun h => h) (fun h => h) (band_f (eG76.symm.trans hb209))
 refine WO.haves (fr' := [(57, _)]) ⟨⟨_, rfl, e207⟩, trivial⟩ ?_
 refine WO.off rfl rfl hb209 rfl ?_
 refine WO.nil ?_
 exact WX.stepDone rfl (sel_of hb209) (Kp.refl _)
 rintro vs w210 k210 ⟨e211, e212, e213, e214, -⟩
 replace k210 : Kp [] w59 w210 := k210
 have z210 := k210.size
 have b210 := old_kp0 b59 k210
 have y210 := b210.size
 rcases Bool.eq_false_or_eq_true (G75) with hb215 | hb215
 have phb215 : ((G67) = true) ∧ ((wthF (c.client) ((8 : Int)) ((!((([(8 : Int)] : List Int)).contains (c).kind)))) = true) := ⟨(band_t (eG76.symm.trans hb215)).1, (band_t (eG76.symm.trans hb215)).2⟩
 refine WO.haves (fr' := [(57, _), (58, _), (60, _), (64, _)]) ⟨⟨_, rfl, e211⟩, ⟨_, rfl, sel_t e212 hb215⟩, ⟨_, rfl, sel_t e213 hb215⟩, ⟨_, rfl, sel_t e214 hb215⟩, trivial⟩ ?_
 refine WO.on rfl rfl hb215 ?_
 refine WO.c (E.call rfl rfl Try.func68 rfl rfl) (fits2_s (n := c.seq) (most := (1048576 : Int)) (named := (!((([(1 : Int), (8 : Int)] : List Int)).contains (c).kind))) ) rfl ?_
 rintro _ w216 ⟨rfl, k216⟩
 have z216 := k216.size
 have b216 := old_kp0 b210 k216
 have y216 := b216.size
 refine WO.nil ?_
 exact WX.stepDone rfl (sel_on hb215 rfl) ((Kp.refl _).step k216 (by simp))
 have phb215 : ((G67) = false) ∨ ((wthF (c.client) ((8 : Int)) ((!((([(8 : Int)] : List Int)).contains (c).kind)))) = false) := Or.imp (fun h => h) (fun h => h) (band_f (eG76.symm.trans hb215))
 refine WO.haves (fr' := [(57, _)]) ⟨⟨_, rfl, e211⟩, trivial⟩ ?_
 refine WO.off rfl rfl hb215 rfl ?_
 refine WO.nil ?_
 exact WX.stepDone rfl (sel_of hb215) (Kp.refl _)
 rintro vs w217 k217 ⟨e218, e219, -⟩
 replace k217 : Kp [] w59 w217 := k217
 rcases Bool.eq_false_or_eq_true (G75) with hb220 | hb220
 refine WO.haves (fr' := [(57, _), (65, _)]) ⟨⟨_, rfl, e218⟩, ⟨_, rfl, sel_t e219 hb220⟩, trivial⟩ ?_
 refine WO.v (R.pickT rfl hb220 rfl) rfl ?_
 refine WO.nil ?_
 exact WX.stepDone rfl (vb (band_on hb220)) (Kp.refl _)
 refine WO.haves (fr' := [(57, _)]) ⟨⟨_, rfl, e218⟩, trivial⟩ ?_
 refine WO.v (R.pickF rfl hb220 rfl) rfl ?_
 refine WO.nil ?_
 exact WX.stepDone rfl (vb (band_off hb220)) (Kp.refl _)
 rintro vs w221 k221 ⟨e222, -⟩
 replace k221 : Kp [] w59 w221 := k221
 refine WO.haves (fr' := [(66, _)]) ⟨⟨_, rfl, e222⟩, trivial⟩ ?_
 refine WO.v (R.move rfl) rfl ?_
 refine WO.nil ?_
 exact WX.stepDone rfl (vb eG84.symm) (Kp.refl _)
 rintro vs w223 k223 ⟨e224, -⟩
 replace k223 : Kp [] w59 w223 := k223
 rcases Bool.eq_false_or_eq_true (G83) with hb225 | hb225
 have phb225 : ((G75) = true) ∧ ((wthF (c.seq) ((1048576 : Int)) ((!((([(1 : Int), (8 : Int)] : List Int)).contains (c).kind)))) = true) := ⟨(band_t (eG84.symm.trans hb225)).1, (band_t (eG84.symm.trans hb225)).2⟩
 refine WO.haves (fr' := [(67, _), (4, _)]) ⟨⟨_, rfl, e224⟩, ⟨_, rfl, rfl⟩, trivial⟩ ?_
 refine WO.on rfl rfl hb225 ?_
 refine WO.v (R.move rfl) rfl ?_
 refine WO.nil ?_
 exact WX.stepDone rfl (sel_on hb225 rfl) (Kp.refl _)
 have phb225 : ((G75) = false) ∨ ((wthF (c.seq) ((1048576 : Int)) ((!((([(1 : Int), (8 : Int)] : List Int)).contains (c).kind)))) = false) := Or.imp (fun h => h) (fun h => h) (band_f (eG84.symm.trans hb225))
 refine WO.haves (fr' := [(67, _)]) ⟨⟨_, rfl, e224⟩, trivial⟩ ?_
 refine WO.off rfl rfl hb225 rfl ?_
 refine WO.nil ?_
 exact WX.stepDone rfl (sel_of hb225) (Kp.refl _)
 rintro vs w226 k226 ⟨e227, -⟩
 replace k226 : Kp [] w59 w226 := k226
 rcases Bool.eq_false_or_eq_true (G83) with hb228 | hb228
 have phb228 : ((G75) = true) ∧ ((wthF (c.seq) ((1048576 : Int)) ((!((([(1 : Int), (8 : Int)] : List Int)).contains (c).kind)))) = true) := ⟨(band_t (eG84.symm.trans hb228)).1, (band_t (eG84.symm.trans hb228)).2⟩
 refine WO.haves (fr' := [(67, _), (1, _)]) ⟨⟨_, rfl, e227⟩, ⟨_, rfl, rfl⟩, trivial⟩ ?_
 refine WO.on rfl rfl hb228 ?_
 refine WO.v (fa24_3 rfl) rfl ?_
 refine WO.nil ?_
 exact WX.stepDone rfl (sel_on hb228 rfl) (Kp.refl _)
 have phb228 : ((G75) = false) ∨ ((wthF (c.seq) ((1048576 : Int)) ((!((([(1 : Int), (8 : Int)] : List Int)).contains (c).kind)))) = false) := Or.imp (fun h => h) (fun h => h) (band_f (eG84.symm.trans hb228))
 refine WO.haves (fr' := [(67, _)]) ⟨⟨_, rfl, e227⟩, trivial⟩ ?_
 refine WO.off rfl rfl hb228 rfl ?_
 refine WO.nil ?_
 exact WX.stepDone rfl (sel_of hb228) (Kp.refl _)
 rintro vs w229 k229 ⟨e230, e231, -⟩
 replace k229 : Kp [] w59 w229 := k229
 have z229 := k229.size
 have b229 := old_kp0 b59 k229
 have y229 := b229.size
 rcases Bool.eq_false_or_eq_true (G83) with hb232 | hb232
 have phb232 : ((G75) = true) ∧ ((wthF (c.seq) ((1048576 : Int)) ((!((([(1 : Int), (8 : Int)] : List Int)).contains (c).kind)))) = true) := ⟨(band_t (eG84.symm.trans hb232)).1, (band_t (eG84.symm.trans hb232)).2⟩
 refine WO.haves (fr' := [(67, _), (69, _)]) ⟨⟨_, rfl, e230⟩, ⟨_, rfl, sel_t e231 hb232⟩, trivial⟩ ?_
 refine WO.on rfl rfl hb232 ?_
 have B233 := ((B49).kp0 k59).kp0 k229
 refine WO.v (R.loadB rfl B233 rfl Try.underlying3 rfl) rfl ?_
 refine WO.nil ?_
 exact WX.stepDone rfl (sel_on hb232 rfl) (Kp.refl _)
 have phb232 : ((G75) = false) ∨ ((wthF (c.seq) ((1048576 : Int)) ((!((([(1 : Int), (8 : Int)] : List Int)).contains (c).kind)))) = false) := Or.imp (fun h => h) (fun h => h) (band_f (eG84.symm.trans hb232))
 refine WO.haves (fr' := [(67, _)]) ⟨⟨_, rfl, e230⟩, trivial⟩ ?_
 refine WO.off rfl rfl hb232 rfl ?_
 refine WO.nil ?_
 exact WX.stepDone rfl (sel_of hb232) (Kp.refl _)
 rintro vs w234 k234 ⟨e235, -⟩
 replace k234 : Kp [] w59 w234 := k234
 rcases Bool.eq_false_or_eq_true (G83) with hb236 | hb236
 have phb236 : ((G75) = true) ∧ ((wthF (c.seq) ((1048576 : Int)) ((!((([(1 : Int), (8 : Int)] : List Int)).contains (c).kind)))) = true) := ⟨(band_t (eG84.symm.trans hb236)).1, (band_t (eG84.symm.trans hb236)).2⟩
 refine WO.haves (fr' := [(67, _), (3, _)]) ⟨⟨_, rfl, e235⟩, ⟨_, rfl, rfl⟩, trivial⟩ ?_
 refine WO.on rfl rfl hb236 ?_
 refine WO.v (R.move rfl) rfl ?_
 refine WO.nil ?_
 exact WX.stepDone rfl (sel_on hb236 rfl) (Kp.refl _)
 have phb236 : ((G75) = false) ∨ ((wthF (c.seq) ((1048576 : Int)) ((!((([(1 : Int), (8 : Int)] : List Int)).contains (c).kind)))) = false) := Or.imp (fun h => h) (fun h => h) (band_f (eG84.symm.trans hb236))
 refine WO.haves (fr' := [(67, _)]) ⟨⟨_, rfl, e235⟩, trivial⟩ ?_
 refine WO.off rfl rfl hb236 rfl ?_
 refine WO.nil ?_
 exact WX.stepDone rfl (sel_of hb236) (Kp.refl _)
 rintro vs w237 k237 ⟨e238, -⟩
 replace k237 : Kp [] w59 w237 := k237
 have z237 := k237.size
 have b237 := old_kp0 b59 k237
 have y237 := b237.size
 rcases Bool.eq_false_or_eq_true (G83) with hb239 | hb239
 have phb239 : ((G75) = true) ∧ ((wthF (c.seq) ((1048576 : Int)) ((!((([(1 : Int), (8 : Int)] : List Int)).contains (c).kind)))) = true) := ⟨(band_t (eG84.symm.trans hb239)).1, (band_t (eG84.symm.trans hb239)).2⟩
 refine WO.haves (fr' := [(67, _)]) ⟨⟨_, rfl, e238⟩, trivial⟩ ?_
 refine WO.on rfl rfl hb239 ?_
 refine WO.buildSlice (parts := [_, _, _]) (vss := [[_], [_], [_]]) Try.underlying22 sz3 zr3 rfl rfl (by simp) rfl rfl rfl ?_
 intro w240 n240
 have z240 := n240.lt
 have b240 := old_kp0 b237 n240.kp
 have y240 := b240.size
 have ac241 : Ac (α := Int) (w237.heap.size) true (w.heap.size) (w240.heap.size) (w240.heap.size) w240 (.slice (some ⟨w237.heap.size, 0, none⟩) 3 3) ([(2 : Int), (3 : Int), (4 : Int)] : List Int) := Ac.lit (α := Int) (ys := ([(2 : Int), (3 : Int), (4 : Int)] : List Int)) (css := [[_], [_], [_]]) n240.blk (.cons (⟨rfl, show I64 (2) from ⟨by omega, by omega⟩⟩) (.cons (⟨rfl, show I64 (3) from ⟨by omega, by omega⟩⟩) (.cons (⟨rfl, show I64 (4) from ⟨by omega, by omega⟩⟩) (.nil)))) (by omega) (by omega) (by simp [maxLen]) (by show 3 * 8 ≤ 140737488355328; decide) rfl
 have lenac241 : ([(2 : Int), (3 : Int), (4 : Int)] : List Int).length = 3 := rfl
 refine WO.nil ?_
 exact WX.stepDone rfl (fun _ => ⟨(some ⟨w237.heap.size, 0, none⟩), 3, rfl, (ac241).own (L := w.heap.size) (H := w240.heap.size) (by omega) (by omega) (by omega) (by omega)⟩) ((Kp.refl _).step n240.kp (by simp))
 have phb239 : ((G75) = false) ∨ ((wthF (c.seq) ((1048576 : Int)) ((!((([(1 : Int), (8 : Int)] : List Int)).contains (c).kind)))) = false) := Or.imp (fun h => h) (fun h => h) (band_f (eG84.symm.trans hb239))
 refine WO.haves (fr' := [(67, _)]) ⟨⟨_, rfl, e238⟩, trivial⟩ ?_
 refine WO.off rfl rfl hb239 rfl ?_
 refine WO.nil ?_
 exact WX.stepDone rfl (gno hb239) (Kp.refl _)
 rintro vs w242 k242 ⟨e243, e244, e245, -⟩
 replace k242 : Kp [] w59 w242 := k242
 have z242 := k242.size
 have b242 := old_kp0 b59 k242
 have y242 := b242.size
 rcases Bool.eq_false_or_eq_true (G83) with hb246 | hb246
 have phb246 : ((G75) = true) ∧ ((wthF (c.seq) ((1048576 : Int)) ((!((([(1 : Int), (8 : Int)] : List Int)).contains (c).kind)))) = true) := ⟨(band_t (eG84.symm.trans hb246)).1, (band_t (eG84.symm.trans hb246)).2⟩
 obtain ⟨a247, c248, e249, s250⟩ := e245 hb246
 have ls250 : (([(2 : Int), (3 : Int), (4 : Int)] : List Int)).length * 8 ≤ 140737488355328 := s250.lenle
 refine WO.haves (fr' := [(67, _), (71, _), (72, _)]) ⟨⟨_, rfl, e243⟩, ⟨_, rfl, sel_t e244 hb246⟩, ⟨_, rfl, e249⟩, trivial⟩ ?_
 refine WO.on rfl rfl hb246 ?_
 have B251 := ((B49).kp0 k59).kp0 k242
 refine WO.c (E.call rfl rfl Try.func66 rfl rfl) (fits1_s (l := ([(2 : Int), (3 : Int), (4 : Int)] : List Int)) (a_l := a247) (c_l := c248) (p_c := w.heap.size) (c := c) (((s250).weak).mono (lo' := 0) (hi' := w242.heap.size) (Nat.zero_le _) (by omega)) B251 (Command.mk_ (i1) (i2) (i3) (i4) (i5) (i6) ((sl_old s9 b242).mono (lo' := 0) (hi' := w242.heap.size) (Nat.zero_le _) (by omega)) i10)) rfl ?_
 rintro _ w252 ⟨rfl, k252⟩
 have z252 := k252.size
 have b252 := old_kp0 b242 k252
 have y252 := b252.size
 refine WO.nil ?_
 exact WX.stepDone rfl (sel_on hb246 rfl) ((Kp.refl _).step k252 (by simp))
 have phb246 : ((G75) = false) ∨ ((wthF (c.seq) ((1048576 : Int)) ((!((([(1 : Int), (8 : Int)] : List Int)).contains (c).kind)))) = false) := Or.imp (fun h => h) (fun h => h) (band_f (eG84.symm.trans hb246))
 refine WO.haves (fr' := [(67, _)]) ⟨⟨_, rfl, e243⟩, trivial⟩ ?_
 refine WO.off rfl rfl hb246 rfl ?_
 refine WO.nil ?_
 exact WX.stepDone rfl (sel_of hb246) (Kp.refl _)
 rintro vs w253 k253 ⟨e254, e255, e256, e257, -⟩
 replace k253 : Kp [] w59 w253 := k253
 have z253 := k253.size
 have b253 := old_kp0 b59 k253
 have y253 := b253.size
 rcases Bool.eq_false_or_eq_true (G83) with hb258 | hb258
 have phb258 : ((G75) = true) ∧ ((wthF (c.seq) ((1048576 : Int)) ((!((([(1 : Int), (8 : Int)] : List Int)).contains (c).kind)))) = true) := ⟨(band_t (eG84.symm.trans hb258)).1, (band_t (eG84.symm.trans hb258)).2⟩
 refine WO.haves (fr' := [(67, _), (68, _), (70, _), (73, _)]) ⟨⟨_, rfl, e254⟩, ⟨_, rfl, sel_t e255 hb258⟩, ⟨_, rfl, sel_t e256 hb258⟩, ⟨_, rfl, sel_t e257 hb258⟩, trivial⟩ ?_
 refine WO.on rfl rfl hb258 ?_
 refine WO.c (E.call rfl rfl Try.func68 rfl rfl) (fits2_s (n := c.set) (most := (8 : Int)) (named := ((([(2 : Int), (3 : Int), (4 : Int)] : List Int)).contains (c).kind)) ) rfl ?_
 rintro _ w259 ⟨rfl, k259⟩
 have z259 := k259.size
 have b259 := old_kp0 b253 k259
 have y259 := b259.size
 refine WO.nil ?_
 exact WX.stepDone rfl (sel_on hb258 rfl) ((Kp.refl _).step k259 (by simp))
 have phb258 : ((G75) = false) ∨ ((wthF (c.seq) ((1048576 : Int)) ((!((([(1 : Int), (8 : Int)] : List Int)).contains (c).kind)))) = false) := Or.imp (fun h => h) (fun h => h) (band_f (eG84.symm.trans hb258))
 refine WO.haves (fr' := [(67, _)]) ⟨⟨_, rfl, e254⟩, trivial⟩ ?_
 refine WO.off rfl rfl hb258 rfl ?_
 refine WO.nil ?_
 exact WX.stepDone rfl (sel_of hb258) (Kp.refl _)
 rintro vs w260 k260 ⟨e261, e262, -⟩
 replace k260 : Kp [] w59 w260 := k260
 rcases Bool.eq_false_or_eq_true (G83) with hb263 | hb263
 refine WO.haves (fr' := [(67, _), (74, _)]) ⟨⟨_, rfl, e261⟩, ⟨_, rfl, sel_t e262 hb263⟩, trivial⟩ ?_
 refine WO.v (R.pickT rfl hb263 rfl) rfl ?_
 refine WO.nil ?_
 exact WX.stepDone rfl (vb (band_on hb263)) (Kp.refl _)
 refine WO.haves (fr' := [(67, _)]) ⟨⟨_, rfl, e261⟩, trivial⟩ ?_
 refine WO.v (R.pickF rfl hb263 rfl) rfl ?_
 refine WO.nil ?_
 exact WX.stepDone rfl (vb (band_off hb263)) (Kp.refl _)
 rintro vs w264 k264 ⟨e265, -⟩
 replace k264 : Kp [] w59 w264 := k264
 refine WO.haves (fr' := [(75, _)]) ⟨⟨_, rfl, e265⟩, trivial⟩ ?_
 refine WO.v (R.move rfl) rfl ?_
 refine WO.nil ?_
 exact WX.stepDone rfl (vb eG92.symm) (Kp.refl _)
 rintro vs w266 k266 ⟨e267, -⟩
 replace k266 : Kp [] w59 w266 := k266
 rcases Bool.eq_false_or_eq_true (G91) with hb268 | hb268
 have phb268 : ((G83) = true) ∧ ((wthF (c.set) ((8 : Int)) (((([(2 : Int), (3 : Int), (4 : Int)] : List Int)).contains (c).kind))) = true) := ⟨(band_t (eG92.symm.trans hb268)).1, (band_t (eG92.symm.trans hb268)).2⟩
 refine WO.haves (fr' := [(76, _), (4, _)]) ⟨⟨_, rfl, e267⟩, ⟨_, rfl, rfl⟩, trivial⟩ ?_
 refine WO.on rfl rfl hb268 ?_
 refine WO.v (R.move rfl) rfl ?_
 refine WO.nil ?_
 exact WX.stepDone rfl (sel_on hb268 rfl) (Kp.refl _)
 have phb268 : ((G83) = false) ∨ ((wthF (c.set) ((8 : Int)) (((([(2 : Int), (3 : Int), (4 : Int)] : List Int)).contains (c).kind))) = false) := Or.imp (fun h => h) (fun h => h) (band_f (eG92.symm.trans hb268))
 refine WO.haves (fr' := [(76, _)]) ⟨⟨_, rfl, e267⟩, trivial⟩ ?_
 refine WO.off rfl rfl hb268 rfl ?_
 refine WO.nil ?_
 exact WX.stepDone rfl (sel_of hb268) (Kp.refl _)
 rintro vs w269 k269 ⟨e270, -⟩
 replace k269 : Kp [] w59 w269 := k269
 rcases Bool.eq_false_or_eq_true (G91) with hb271 | hb271
 have phb271 : ((G83) = true) ∧ ((wthF (c.set) ((8 : Int)) (((([(2 : Int), (3 : Int), (4 : Int)] : List Int)).contains (c).kind))) = true) := ⟨(band_t (eG92.symm.trans hb271)).1, (band_t (eG92.symm.trans hb271)).2⟩
 refine WO.haves (fr' := [(76, _), (1, _)]) ⟨⟨_, rfl, e270⟩, ⟨_, rfl, rfl⟩, trivial⟩ ?_
 refine WO.on rfl rfl hb271 ?_
 refine WO.v (fa24_4 rfl) rfl ?_
 refine WO.nil ?_
 exact WX.stepDone rfl (sel_on hb271 rfl) (Kp.refl _)
 have phb271 : ((G83) = false) ∨ ((wthF (c.set) ((8 : Int)) (((([(2 : Int), (3 : Int), (4 : Int)] : List Int)).contains (c).kind))) = false) := Or.imp (fun h => h) (fun h => h) (band_f (eG92.symm.trans hb271))
 refine WO.haves (fr' := [(76, _)]) ⟨⟨_, rfl, e270⟩, trivial⟩ ?_
 refine WO.off rfl rfl hb271 rfl ?_
 refine WO.nil ?_
 exact WX.stepDone rfl (sel_of hb271) (Kp.refl _)
 rintro vs w272 k272 ⟨e273, e274, -⟩
 replace k272 : Kp [] w59 w272 := k272
 have z272 := k272.size
 have b272 := old_kp0 b59 k272
 have y272 := b272.size
 rcases Bool.eq_false_or_eq_true (G91) with hb275 | hb275
 have phb275 : ((G83) = true) ∧ ((wthF (c.set) ((8 : Int)) (((([(2 : Int), (3 : Int), (4 : Int)] : List Int)).contains (c).kind))) = true) := ⟨(band_t (eG92.symm.trans hb275)).1, (band_t (eG92.symm.trans hb275)).2⟩
 refine WO.haves (fr' := [(76, _), (78, _)]) ⟨⟨_, rfl, e273⟩, ⟨_, rfl, sel_t e274 hb275⟩, trivial⟩ ?_
 refine WO.on rfl rfl hb275 ?_
 have B276 := ((B49).kp0 k59).kp0 k272
 refine WO.v (R.loadB rfl B276 rfl Try.underlying3 rfl) rfl ?_
 refine WO.nil ?_
 exact WX.stepDone rfl (sel_on hb275 rfl) (Kp.refl _)
 have phb275 : ((G83) = false) ∨ ((wthF (c.set) ((8 : Int)) (((([(2 : Int), (3 : Int), (4 : Int)] : List Int)).contains (c).kind))) = false) := Or.imp (fun h => h) (fun h => h) (band_f (eG92.symm.trans hb275))
 refine WO.haves (fr' := [(76, _)]) ⟨⟨_, rfl, e273⟩, trivial⟩ ?_
 refine WO.off rfl rfl hb275 rfl ?_
 refine WO.nil ?_
 exact WX.stepDone rfl (sel_of hb275) (Kp.refl _)
 rintro vs w277 k277 ⟨e278, -⟩
 replace k277 : Kp [] w59 w277 := k277
 rcases Bool.eq_false_or_eq_true (G91) with hb279 | hb279
 have phb279 : ((G83) = true) ∧ ((wthF (c.set) ((8 : Int)) (((([(2 : Int), (3 : Int), (4 : Int)] : List Int)).contains (c).kind))) = true) := ⟨(band_t (eG92.symm.trans hb279)).1, (band_t (eG92.symm.trans hb279)).2⟩
 refine WO.haves (fr' := [(76, _), (3, _)]) ⟨⟨_, rfl, e278⟩, ⟨_, rfl, rfl⟩, trivial⟩ ?_
 refine WO.on rfl rfl hb279 ?_
 refine WO.v (R.move rfl) rfl ?_
 refine WO.nil ?_
 exact WX.stepDone rfl (sel_on hb279 rfl) (Kp.refl _)
 have phb279 : ((G83) = false) ∨ ((wthF (c.set) ((8 : Int)) (((([(2 : Int), (3 : Int), (4 : Int)] : List Int)).contains (c).kind))) = false) := Or.imp (fun h => h) (fun h => h) (band_f (eG92.symm.trans hb279))
 refine WO.haves (fr' := [(76, _)]) ⟨⟨_, rfl, e278⟩, trivial⟩ ?_
 refine WO.off rfl rfl hb279 rfl ?_
 refine WO.nil ?_
 exact WX.stepDone rfl (sel_of hb279) (Kp.refl _)
 rintro vs w280 k280 ⟨e281, -⟩
 replace k280 : Kp [] w59 w280 := k280
 have z280 := k280.size
 have b280 := old_kp0 b59 k280
 have y280 := b280.size
 rcases Bool.eq_false_or_eq_true (G91) with hb282 | hb282
 have phb282 : ((G83) = true) ∧ ((wthF (c.set) ((8 : Int)) (((([(2 : Int), (3 : Int), (4 : Int)] : List Int)).contains (c).kind))) = true) := ⟨(band_t (eG92.symm.trans hb282)).1, (band_t (eG92.symm.trans hb282)).2⟩
 refine WO.haves (fr' := [(76, _)]) ⟨⟨_, rfl, e281⟩, trivial⟩ ?_
 refine WO.on rfl rfl hb282 ?_
 refine WO.buildSlice (parts := [_, _, _, _, _]) (vss := [[_], [_], [_], [_], [_]]) Try.underlying22 sz3 zr3 rfl rfl (by simp) rfl rfl rfl ?_
 intro w283 n283
 have z283 := n283.lt
 have b283 := old_kp0 b280 n283.kp
 have y283 := b283.size
 have ac284 : Ac (α := Int) (w280.heap.size) true (w.heap.size) (w283.heap.size) (w283.heap.size) w283 (.slice (some ⟨w280.heap.size, 0, none⟩) 5 5) ([(5 : Int), (7 : Int), (9 : Int), (10 : Int), (11 : Int)] : List Int) := Ac.lit (α := Int) (ys := ([(5 : Int), (7 : Int), (9 : Int), (10 : Int), (11 : Int)] : List Int)) (css := [[_], [_], [_], [_], [_]]) n283.blk (.cons (⟨rfl, show I64 (5) from ⟨by omega, by omega⟩⟩) (.cons (⟨rfl, show I64 (7) from ⟨by omega, by omega⟩⟩) (.cons (⟨rfl, show I64 (9) from ⟨by omega, by omega⟩⟩) (.cons (⟨rfl, show I64 (10) from ⟨by omega, by omega⟩⟩) (.cons (⟨rfl, show I64 (11) from ⟨by omega, by omega⟩⟩) (.nil)))))) (by omega) (by omega) (by simp [maxLen]) (by show 5 * 8 ≤ 140737488355328; decide) rfl
 have lenac284 : ([(5 : Int), (7 : Int), (9 : Int), (10 : Int), (11 : Int)] : List Int).length = 5 := rfl
 refine WO.nil ?_
 exact WX.stepDone rfl (fun _ => ⟨(some ⟨w280.heap.size, 0, none⟩), 5, rfl, (ac284).own (L := w.heap.size) (H := w283.heap.size) (by omega) (by omega) (by omega) (by omega)⟩) ((Kp.refl _).step n283.kp (by simp))
 have phb282 : ((G83) = false) ∨ ((wthF (c.set) ((8 : Int)) (((([(2 : Int), (3 : Int), (4 : Int)] : List Int)).contains (c).kind))) = false) := Or.imp (fun h => h) (fun h => h) (band_f (eG92.symm.trans hb282))
 refine WO.haves (fr' := [(76, _)]) ⟨⟨_, rfl, e281⟩, trivial⟩ ?_
 refine WO.off rfl rfl hb282 rfl ?_
 refine WO.nil ?_
 exact WX.stepDone rfl (gno hb282) (Kp.refl _)
 rintro vs w285 k285 ⟨e286, e287, e288, -⟩
 replace k285 : Kp [] w59 w285 := k285
 have z285 := k285.size
 have b285 := old_kp0 b59 k285
 have y285 := b285.size
 rcases Bool.eq_false_or_eq_true (G91) with hb289 | hb289
 have phb289 : ((G83) = true) ∧ ((wthF (c.set) ((8 : Int)) (((([(2 : Int), (3 : Int), (4 : Int)] : List Int)).contains (c).kind))) = true) := ⟨(band_t (eG92.symm.trans hb289)).1, (band_t (eG92.symm.trans hb289)).2⟩
 obtain ⟨a290, c291, e292, s293⟩ := e288 hb289
 have ls293 : (([(5 : Int), (7 : Int), (9 : Int), (10 : Int), (11 : Int)] : List Int)).length * 8 ≤ 140737488355328 := s293.lenle
 refine WO.haves (fr' := [(76, _), (80, _), (81, _)]) ⟨⟨_, rfl, e286⟩, ⟨_, rfl, sel_t e287 hb289⟩, ⟨_, rfl, e292⟩, trivial⟩ ?_
 refine WO.on rfl rfl hb289 ?_
 have B294 := ((B49).kp0 k59).kp0 k285
 refine WO.c (E.call rfl rfl Try.func66 rfl rfl) (fits1_s (l := ([(5 : Int), (7 : Int), (9 : Int), (10 : Int), (11 : Int)] : List Int)) (a_l := a290) (c_l := c291) (p_c := w.heap.size) (c := c) (((s293).weak).mono (lo' := 0) (hi' := w285.heap.size) (Nat.zero_le _) (by omega)) B294 (Command.mk_ (i1) (i2) (i3) (i4) (i5) (i6) ((sl_old s9 b285).mono (lo' := 0) (hi' := w285.heap.size) (Nat.zero_le _) (by omega)) i10)) rfl ?_
 rintro _ w295 ⟨rfl, k295⟩
 have z295 := k295.size
 have b295 := old_kp0 b285 k295
 have y295 := b295.size
 refine WO.nil ?_
 exact WX.stepDone rfl (sel_on hb289 rfl) ((Kp.refl _).step k295 (by simp))
 have phb289 : ((G83) = false) ∨ ((wthF (c.set) ((8 : Int)) (((([(2 : Int), (3 : Int), (4 : Int)] : List Int)).contains (c).kind))) = false) := Or.imp (fun h => h) (fun h => h) (band_f (eG92.symm.trans hb289))
 refine WO.haves (fr' := [(76, _)]) ⟨⟨_, rfl, e286⟩, trivial⟩ ?_
 refine WO.off rfl rfl hb289 rfl ?_
 refine WO.nil ?_
 exact WX.stepDone rfl (sel_of hb289) (Kp.refl _)
 rintro vs w296 k296 ⟨e297, e298, e299, e300, -⟩
 replace k296 : Kp [] w59 w296 := k296
 have z296 := k296.size
 have b296 := old_kp0 b59 k296
 have y296 := b296.size
 rcases Bool.eq_false_or_eq_true (G91) with hb301 | hb301
 have phb301 : ((G83) = true) ∧ ((wthF (c.set) ((8 : Int)) (((([(2 : Int), (3 : Int), (4 : Int)] : List Int)).contains (c).kind))) = true) := ⟨(band_t (eG92.symm.trans hb301)).1, (band_t (eG92.symm.trans hb301)).2⟩
 refine WO.haves (fr' := [(76, _), (77, _), (79, _), (82, _)]) ⟨⟨_, rfl, e297⟩, ⟨_, rfl, sel_t e298 hb301⟩, ⟨_, rfl, sel_t e299 hb301⟩, ⟨_, rfl, sel_t e300 hb301⟩, trivial⟩ ?_
 refine WO.on rfl rfl hb301 ?_
 refine WO.c (E.call rfl rfl Try.func68 rfl rfl) (fits2_s (n := c.id) (most := (1048576 : Int)) (named := ((([(5 : Int), (7 : Int), (9 : Int), (10 : Int), (11 : Int)] : List Int)).contains (c).kind)) ) rfl ?_
 rintro _ w302 ⟨rfl, k302⟩
 have z302 := k302.size
 have b302 := old_kp0 b296 k302
 have y302 := b302.size
 refine WO.nil ?_
 exact WX.stepDone rfl (sel_on hb301 rfl) ((Kp.refl _).step k302 (by simp))
 have phb301 : ((G83) = false) ∨ ((wthF (c.set) ((8 : Int)) (((([(2 : Int), (3 : Int), (4 : Int)] : List Int)).contains (c).kind))) = false) := Or.imp (fun h => h) (fun h => h) (band_f (eG92.symm.trans hb301))
 refine WO.haves (fr' := [(76, _)]) ⟨⟨_, rfl, e297⟩, trivial⟩ ?_
 refine WO.off rfl rfl hb301 rfl ?_
 refine WO.nil ?_
 exact WX.stepDone rfl (sel_of hb301) (Kp.refl _)
 rintro vs w303 k303 ⟨e304, e305, -⟩
 replace k303 : Kp [] w59 w303 := k303
 rcases Bool.eq_false_or_eq_true (G91) with hb306 | hb306
 refine WO.haves (fr' := [(76, _), (83, _)]) ⟨⟨_, rfl, e304⟩, ⟨_, rfl, sel_t e305 hb306⟩, trivial⟩ ?_
 refine WO.v (R.pickT rfl hb306 rfl) rfl ?_
 refine WO.nil ?_
 exact WX.stepDone rfl (vb (band_on hb306)) (Kp.refl _)
 refine WO.haves (fr' := [(76, _)]) ⟨⟨_, rfl, e304⟩, trivial⟩ ?_
 refine WO.v (R.pickF rfl hb306 rfl) rfl ?_
 refine WO.nil ?_
 exact WX.stepDone rfl (vb (band_off hb306)) (Kp.refl _)
 rintro vs w307 k307 ⟨-, -, -, -, -, -, -, -, -, -, -, -, -, -, -, -, -, -, -, -, -, -, -, -, -, -, -, -, -, -, -, -, -, -, -, -, -, -, -, -, -, -, -, -, -, -, -, e355, -⟩
 replace k307 : Kp [] w59 w307 := k307
 have z307 := k307.size
 have b307 := old_kp0 b59 k307
 have y307 := b307.size
 subst eG64 eG66 eG68 eG76 eG84 eG92
 refine WO.haves (fr' := [(84, _), (0, _), (1, _), (2, _), (3, _), (4, _), (5, _), (6, _), (7, _), (25, _), (26, _)]) ⟨⟨_, rfl, e355⟩, ⟨_, rfl, rfl⟩, ⟨_, rfl, rfl⟩, ⟨_, rfl, rfl⟩, ⟨_, rfl, rfl⟩, ⟨_, rfl, rfl⟩, ⟨_, rfl, rfl⟩, ⟨_, rfl, rfl⟩, ⟨_, rfl, rfl⟩, ⟨_, rfl, rfl⟩, ⟨_, rfl, rfl⟩, trivial⟩ ?_
 refine WO.v (R.assign rfl) rfl ?_
 refine WO.nil ?_
 refine WX.sel [0, 1, 2, 3, 4, 5, 6, 7, 25, 26] rfl ?_
 refine WX.next ?_
 refine WC.ret ?_
 have e0 : ((((((((decide (((spanF c.kind).1) ≤ (c.n))) && (decide ((c.n) ≤ ((spanF c.kind).2)))) && (chF c)) && (txF c)) && (wthF (c.client) ((8 : Int)) ((!((([(8 : Int)] : List Int)).contains (c).kind))))) && (wthF (c.seq) ((1048576 : Int)) ((!((([(1 : Int), (8 : Int)] : List Int)).contains (c).kind))))) && (wthF (c.set) ((8 : Int)) (((([(2 : Int), (3 : Int), (4 : Int)] : List Int)).contains (c).kind)))) && (wthF (c.id) ((1048576 : Int)) (((([(5 : Int), (7 : Int), (9 : Int), (10 : Int), (11 : Int)] : List Int)).contains (c).kind)))) = (fitsF c) := by rfl
 refine WX.ret1 Try.results42 rfl ?_
 exact ⟨by rw [e0], Kp.of_below b307⟩

set_option maxRecDepth 100000 in
set_option maxHeartbeats 400000 in
theorem mayC_s {w : World} {cs_c : List Value} {c : Command} (v : Int) (h_c : Rp.rp false 0 w.heap.size w cs_c c) :
    Ret Try.prog 17 [.agg cs_c.toArray, .int .i64 v].toArray w fun r w' => r = .int .i64 (mayC c v) ∧ Kp [] w w' := by
 obtain ⟨a7, c8, rfl, i1, i2, i3, i4, i5, i6, s9, i10⟩ := Command.el h_c
 have ls9 : (c.chunks).length * 8 ≤ 140737488355328 := s9.lenle
 refine Ret.enter Try.func17 rfl Try.ntmps17 rfl rfl ?_
 refine WC.sel [0, 1] rfl ?_
 refine WC.seq ?_
 refine WC.region ?_
 refine WO.box rfl rfl rfl ?_
 intro w11 n11
 have z11 := n11.lt
 have b11 := old_kp0 (Below.refl w.heap.size w) n11.kp
 have y11 := b11.size
 refine WO.v (R.assign rfl) rfl ?_
 refine WO.nil ?_
 refine WX.sel [0, 1, 2, 4] rfl ?_
 refine WX.next ?_
 refine WC.seq ?_
 refine WC.region ?_
 refine WO.v (fa24_0 rfl) rfl ?_
 refine WO.v (R.loadB rfl n11.blk rfl Try.underlying3 rfl) rfl ?_
 refine WO.c (E.call rfl rfl Try.func18 rfl rfl) (need_s (k := c.kind) ) rfl ?_
 rintro _ w12 ⟨rfl, k12⟩
 have z12 := k12.size
 have b12 := old_kp0 b11 k12
 have y12 := b12.size
 refine WO.v (R.assign rfl) rfl ?_
 refine WO.nil ?_
 refine WX.sel [0, 1, 2, 4, 5] rfl ?_
 refine WX.next ?_
 refine WC.seq ?_
 refine WC.block ?_
 refine WC.seq ?_
 refine WC.region ?_
 refine WO.v (R.move rfl) rfl ?_
 refine WO.c (E.call rfl rfl Try.func32 rfl rfl) (thereC_s (n := v) ) rfl ?_
 rintro _ _ ⟨rfl, rfl⟩
 refine WO.v (R.not rfl) rfl ?_
 refine WO.v (R.move rfl) rfl ?_
 refine WO.cutP 3 [(16, (.bool ((!((decide (1 ≤ (v))) && (decide ((v) ≤ 3)))) || (decide (needF (c.kind) = (0 : Int))))))] (fun w' => w12 = w') ?_ ?_
 rcases Bool.eq_false_or_eq_true (!((decide (1 ≤ (v))) && (decide ((v) ≤ 3)))) with hb13 | hb13
 have phb13 : (¬ (1 ≤ (v))) ∨ (¬ ((v) ≤ 3)) := Or.imp (fun h => of_decide_eq_false h) (fun h => of_decide_eq_false h) (band_f (bnot_t hb13))
 refine WO.off rfl rfl hb13 rfl ?_
 refine WO.off rfl rfl hb13 rfl ?_
 refine WO.v (R.pickT rfl hb13 rfl) rfl ?_
 refine WO.nil ?_
 exact WX.cutDoneP 3 rfl rfl ⟨⟨_, rfl, vb (bor_on hb13)⟩, trivial⟩ (rfl)
 have phb13 : (1 ≤ (v)) ∧ ((v) ≤ 3) := ⟨of_decide_eq_true (band_t (bnot_f hb13)).1, of_decide_eq_true (band_t (bnot_f hb13)).2⟩
 refine WO.on rfl rfl hb13 ?_
 refine WO.v (R.move rfl) rfl ?_
 refine WO.on rfl rfl hb13 ?_
 refine WO.v (R.eql rfl rfl) rfl ?_
 refine WO.v (R.pickF rfl hb13 rfl) rfl ?_
 refine WO.nil ?_
 exact WX.cutDoneP 3 rfl rfl ⟨⟨_, rfl, vb (bor_off hb13)⟩, trivial⟩ (rfl)
 rintro _ rfl
 refine WO.v (R.assign rfl) rfl ?_
 refine WO.nil ?_
 refine WX.sel [0, 1, 2, 4, 5, 9] rfl ?_
 refine WX.next ?_
 refine WC.cond rfl (fun q14 => ?_) (fun q14 => ?_)
 have p14 : ((¬ (1 ≤ (v))) ∨ (¬ ((v) ≤ 3))) ∨ (needF (c.kind) = (0 : Int)) := Or.imp (fun h => Or.imp (fun h => of_decide_eq_false h) (fun h => of_decide_eq_false h) (band_f (bnot_t h))) (fun h => of_decide_eq_true h) (bor_t q14)
 refine WC.seq ?_
 refine WC.region ?_
 refine WO.v (R.assign rfl) rfl ?_
 refine WO.nil ?_
 refine WX.sel [0, 1, 2, 4, 5, 9] rfl ?_
 refine WX.next ?_
 refine WC.ret ?_
 refine WX.blkRet ?_
 refine WX.thenRet ?_
 have e0 : (1 : Int) = (mayC c v) := by first | exact mayc1 q14 | exact mayc10 q14 (by omega) | exact mayc1f q14 (by omega) ‹_› | exact mayc0 q14 (by omega) ‹_›
 refine WX.ret1 Try.results17 rfl ?_
 exact ⟨by rw [e0], Kp.of_below b12⟩
 have p14 : ((1 ≤ (v)) ∧ ((v) ≤ 3)) ∧ (¬ (needF (c.kind) = (0 : Int))) := ⟨⟨of_decide_eq_true (band_t (bnot_f (bor_f q14).1)).1, of_decide_eq_true (band_t (bnot_f (bor_f q14).1)).2⟩, of_decide_eq_false (bor_f q14).2⟩
 refine WC.seq ?_
 refine WC.region ?_
 refine WO.v (R.move rfl) rfl ?_
 refine WO.v (R.move rfl) rfl ?_
 refine WO.v (R.gtr rfl rfl) rfl ?_
 refine WO.v (R.assign rfl) rfl ?_
 refine WO.nil ?_
 refine WX.sel [0, 1, 2, 4, 5, 9, 17] rfl ?_
 refine WX.next ?_
 refine WC.cond rfl (fun q15 => ?_) (fun q15 => ?_)
 have p15 : v < needF (c.kind) := of_decide_eq_true q15
 refine WC.seq ?_
 refine WC.region ?_
 refine WO.v (R.assign rfl) rfl ?_
 refine WO.nil ?_
 refine WX.sel [0, 1, 2, 4, 5, 9, 17] rfl ?_
 refine WX.next ?_
 refine WC.ret ?_
 refine WX.blkRet ?_
 refine WX.thenRet ?_
 have e0 : (10 : Int) = (mayC c v) := by first | exact mayc1 q14 | exact mayc10 q14 (by omega) | exact mayc1f q14 (by omega) ‹_› | exact mayc0 q14 (by omega) ‹_›
 refine WX.ret1 Try.results17 rfl ?_
 exact ⟨by rw [e0], Kp.of_below b12⟩
 have p15 : ¬ (v < needF (c.kind)) := of_decide_eq_false q15
 refine WC.seq ?_
 refine WC.region ?_
 have B16 := (n11.blk).kp0 k12
 refine WO.v (R.loadBN (vs := [_, _, _, _, _, _, _, _]) rfl B16 rfl Try.underlying24 rfl sz24) rfl ?_
 refine WO.c (E.call rfl rfl Try.func42 rfl rfl) (fits_s (c := c) (Command.mk_ (i1) (i2) (i3) (i4) (i5) (i6) ((sl_old s9 b12).mono (lo' := 0) (hi' := w12.heap.size) (Nat.zero_le _) (by omega)) i10)) rfl ?_
 rintro _ w17 ⟨rfl, k17⟩
 have z17 := k17.size
 have b17 := old_kp0 b12 k17
 have y17 := b17.size
 refine WO.v (R.not rfl) rfl ?_
 refine WO.v (R.assign rfl) rfl ?_
 refine WO.nil ?_
 refine WX.sel [0, 1, 2, 4, 5, 9, 17, 21] rfl ?_
 refine WX.next ?_
 refine WC.cond rfl (fun q18 => ?_) (fun q18 => ?_)
 have p18 : (fitsF (c)) = false := (bnot_t q18)
 refine WC.seq ?_
 refine WC.region ?_
 refine WO.v (R.assign rfl) rfl ?_
 refine WO.nil ?_
 refine WX.sel [0, 1, 2, 4, 5, 9, 17, 21] rfl ?_
 refine WX.next ?_
 refine WC.ret ?_
 refine WX.blkRet ?_
 refine WX.thenRet ?_
 have e0 : (1 : Int) = (mayC c v) := by first | exact mayc1 q14 | exact mayc10 q14 (by omega) | exact mayc1f q14 (by omega) q18 | exact mayc0 q14 (by omega) q18
 refine WX.ret1 Try.results17 rfl ?_
 exact ⟨by rw [e0], Kp.of_below b17⟩
 have p18 : (fitsF (c)) = true := (bnot_f q18)
 refine WC.skip ?_
 refine WX.blkNormal ?_
 refine WX.next ?_
 refine WC.seq ?_
 refine WC.region ?_
 refine WO.v (R.assign rfl) rfl ?_
 refine WO.nil ?_
 refine WX.sel [0, 1, 2, 4, 5, 9, 17, 21] rfl ?_
 refine WX.next ?_
 refine WC.ret ?_
 have e0 : (0 : Int) = (mayC c v) := by first | exact mayc1 q14 | exact mayc10 q14 (by omega) | exact mayc1f q14 (by omega) q18 | exact mayc0 q14 (by omega) q18
 refine WX.ret1 Try.results17 rfl ?_
 exact ⟨by rw [e0], Kp.of_below b17⟩


end Go.Proofs.Ytfmlgeeogbhppaa
