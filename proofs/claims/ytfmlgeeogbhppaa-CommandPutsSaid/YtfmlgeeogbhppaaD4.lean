/- Contracts of functions, walked operation by operation. -/
import Derived.Test.YtfmlgeeogbhppaaD3
namespace Go.Proofs.Ytfmlgeeogbhppaa
open Go.RowKit

def aloneF (f : Field) : Bool := (decide (1 ≤ f.num) && decide (f.num ≤ 1000)) && (if f.wire = 0 then decide (((f.b.length : Nat) : Int) = 0) else if f.wire = 2 then decide ((f.n.n : Int) = 0) else false)
def risesF (a f : Field) : Bool := if f.num = a.num then (decide (f.wire = 2) && decide (a.wire = 2)) else decide (a.num < f.num)
def tagOk (num wire : Int) : Bool := (decide (1 ≤ num) && decide (num ≤ 1000)) && (decide (wire = 0) || decide (wire = 2))
def tagB (num wire : Int) : List UInt8 := if tagOk num wire then putF ((8 * num) + wire).toNat else []
def tagE (num wire : Int) : Int := if tagOk num wire then 0 else 1
def fieldB (f : Field) : List UInt8 := if f.wire = 0 then tagB f.num f.wire ++ putF f.n.n else (tagB f.num f.wire ++ putF f.b.length) ++ f.b
def okP : Option Field → Field → Bool
  | none, _ => true
  | some q, f => risesF q f
def stepT (p : Option Field) (f : Field) : Int := if aloneF f = false then 1 else if okP p f = false then 5 else if (16384 : Int) < ((f.b.length : Nat) : Int) then 4 else 0
def chkT : Option Field → List Field → Int
  | _, [] => 0
  | p, f :: r => if stepT p f = 0 then chkT (some f) r else stepT p f
def sumT (l : List Field) : Nat := (l.map fun f => (fieldB f).length).sum
def mayT (l : List Field) : Int := if chkT none l = 0 then (if (16384 : Int) < ((sumT l : Nat) : Int) then 4 else 0) else chkT none l
def putTF (l : List Field) : List UInt8 := if mayT l = 0 then (l.map fieldB).flatten else []
def prevF (l : List Field) (k : Nat) : Option Field := if k = 0 then none else l[k - 1]?
def prevOk (l : List Field) (k : Nat) (x : Field) : Prop := (¬ 0 < k) ∨ ∃ y, l[k - 1]? = some y ∧ risesF y x = true
theorem tag_no {num wire : Int} (h : (num < 1 ∨ 1000 < num) ∨ (¬ wire = 0 ∧ ¬ wire = 2)) : tagOk num wire = false := by
  rw [← Bool.not_eq_true]; unfold tagOk; simp only [Bool.and_eq_true, Bool.or_eq_true, decide_eq_true_eq]; omega
theorem tag_yes {num wire : Int} (h : ¬ ((num < 1 ∨ 1000 < num) ∨ (¬ wire = 0 ∧ ¬ wire = 2))) : tagOk num wire = true := by
  unfold tagOk; simp only [Bool.and_eq_true, Bool.or_eq_true, decide_eq_true_eq]; omega
theorem tagB_no {num wire : Int} (h : (num < 1 ∨ 1000 < num) ∨ (¬ wire = 0 ∧ ¬ wire = 2)) : [] = tagB num wire := by rw [tagB, tag_no h]; rfl
theorem tagE_no {num wire : Int} (h : (num < 1 ∨ 1000 < num) ∨ (¬ wire = 0 ∧ ¬ wire = 2)) : 1 = tagE num wire := by rw [tagE, tag_no h]; rfl
theorem tagB_yes {num wire : Int} (h : ¬ ((num < 1 ∨ 1000 < num) ∨ (¬ wire = 0 ∧ ¬ wire = 2))) : putF ((8 * num) + wire).toNat = tagB num wire := by rw [tagB, tag_yes h]; rfl
theorem tagE_yes {num wire : Int} (h : ¬ ((num < 1 ∨ 1000 < num) ∨ (¬ wire = 0 ∧ ¬ wire = 2))) : 0 = tagE num wire := by rw [tagE, tag_yes h]; rfl
theorem tagB_len (num wire : Int) : (tagB num wire).length ≤ 10 := by
  unfold tagB
  cases h : tagOk num wire with
  | false => simp
  | true =>
    unfold tagOk at h; simp only [Bool.and_eq_true, Bool.or_eq_true, decide_eq_true_eq] at h
    exact putF_len10 (by omega)
theorem fieldB_len {f : Field} (hb : f.b.length ≤ 16384) (hn : f.n.n < 18446744073709551616) : (fieldB f).length ≤ 16404 := by
  have h1 := tagB_len f.num f.wire
  unfold fieldB
  split
  · have := putF_len10 hn; rw [List.length_append]; omega
  · have := putF_len10 (n := f.b.length) (by omega); rw [List.length_append, List.length_append]; omega
theorem field_0 {f : Field} (h : f.wire = 0) : tagB f.num f.wire ++ putF f.n.n = fieldB f := by rw [fieldB, if_pos h]
theorem field_2 {f : Field} (h : ¬ f.wire = 0) : (tagB f.num f.wire ++ putF f.b.length) ++ f.b = fieldB f := by rw [fieldB, if_neg h]
theorem sum_next {l : List Field} {k : Nat} {x : Field} (hx : l[k]? = some x) : sumT (l.take k) + (fieldB x).length = sumT (l.take (k + 1)) := by
  unfold sumT; rw [take_succ_get hx, List.map_append, List.sum_append]; simp
theorem step_ok {l : List Field} {k : Nat} {x : Field} (hp : prevOk l k x) : okP (prevF l k) x = true := by
  unfold prevF
  rcases hp with h | ⟨y, hy, hr⟩
  · rw [if_pos (by omega)]; rfl
  · by_cases hk : k = 0
    · rw [if_pos hk]; rfl
    · rw [if_neg hk, hy]; exact hr
theorem chk_at {l : List Field} {k : Nat} {x : Field} (hx : l[k]? = some x) : chkT (prevF l k) (l.drop k) = if stepT (prevF l k) x = 0 then chkT (some x) (l.drop (k + 1)) else stepT (prevF l k) x := by
  obtain ⟨hk, he⟩ := List.getElem?_eq_some_iff.1 hx
  rw [List.drop_eq_getElem_cons hk, he]; rfl
theorem may_e {l : List Field} {k : Nat} {x : Field} {e : Int} (hc : chkT none l = chkT (prevF l k) (l.drop k)) (hx : l[k]? = some x) (he : stepT (prevF l k) x = e) (h0 : e ≠ 0) : e = mayT l := by
  have h1 : chkT none l = e := by rw [hc, chk_at hx, he, if_neg h0]
  rw [mayT, h1, if_neg h0]
theorem may_e1 {l : List Field} {k : Nat} {x : Field} (hc : chkT none l = chkT (prevF l k) (l.drop k)) (hx : l[k]? = some x) (ha : aloneF x = false) : 1 = mayT l := may_e hc hx (by rw [stepT, if_pos ha]) (by decide)
theorem may_e5 {l : List Field} {k : Nat} {x y : Field} (hc : chkT none l = chkT (prevF l k) (l.drop k)) (hx : l[k]? = some x) (ha : aloneF x = true) (h0 : 0 < k) (hy : l[k - 1]? = some y) (hr : risesF y x = false) : 5 = mayT l :=
  may_e hc hx (by rw [stepT, if_neg (by rw [ha]; decide), if_pos]; unfold prevF; rw [if_neg (by omega), hy]; exact hr) (by decide)
theorem may_e4 {l : List Field} {k : Nat} {x : Field} (hc : chkT none l = chkT (prevF l k) (l.drop k)) (hx : l[k]? = some x) (ha : aloneF x = true) (hp : prevOk l k x) (hb : (16384 : Int) < ((x.b.length : Nat) : Int)) : 4 = mayT l :=
  may_e hc hx (by rw [stepT, if_neg (by rw [ha]; decide), if_neg (by rw [step_ok hp]; decide), if_pos hb]) (by decide)
theorem chk_next {l : List Field} {k : Nat} {x : Field} (hc : chkT none l = chkT (prevF l k) (l.drop k)) (hx : l[k]? = some x) (ha : aloneF x = true) (hp : prevOk l k x) (hb : ¬ (16384 : Int) < ((x.b.length : Nat) : Int)) : chkT none l = chkT (prevF l (k + 1)) (l.drop (k + 1)) := by
  rw [hc, chk_at hx, if_pos (by rw [stepT, if_neg (by rw [ha]; decide), if_neg (by rw [step_ok hp]; decide), if_neg hb])]
  unfold prevF; rw [if_neg (by omega), Nat.add_sub_cancel, hx]
theorem chk_end {l : List Field} {k : Nat} (hc : chkT none l = chkT (prevF l k) (l.drop k)) (hk : l.length ≤ k) : chkT none l = 0 := by
  rw [hc, List.drop_of_length_le hk]; rfl
theorem may_end4 {l : List Field} {k : Nat} (hc : chkT none l = chkT (prevF l k) (l.drop k)) (hk : l.length ≤ k) (hs : (16384 : Int) < ((sumT (l.take k) : Nat) : Int)) : 4 = mayT l := by
  rw [List.take_of_length_le hk] at hs; rw [mayT, if_pos (chk_end hc hk), if_pos hs]
theorem may_end0 {l : List Field} {k : Nat} (hc : chkT none l = chkT (prevF l k) (l.drop k)) (hk : l.length ≤ k) (hs : ¬ (16384 : Int) < ((sumT (l.take k) : Nat) : Int)) : 0 = mayT l := by
  rw [List.take_of_length_le hk] at hs; rw [mayT, if_pos (chk_end hc hk), if_neg hs]
theorem may_sum {l : List Field} (h : mayT l = 0) : sumT l ≤ 16384 := by
  unfold mayT at h
  split at h
  · split at h
    · cases h
    · omega
  · rename_i h0; exact absurd h h0
theorem may_chk {l : List Field} (h : mayT l = 0) : chkT none l = 0 := by
  unfold mayT at h
  split at h
  · assumption
  · exact h
theorem chk_len : ∀ {l : List Field} {p : Option Field}, chkT p l = 0 → ∀ x ∈ l, x.b.length ≤ 16384
  | [], _, _, x, hx => by cases hx
  | f :: r, p, h, x, hx => by
    unfold chkT at h
    split at h
    · rename_i hs
      rcases List.mem_cons.1 hx with rfl | hx
      · unfold stepT at hs
        split at hs
        · cases hs
        · split at hs
          · cases hs
          · split at hs
            · cases hs
            · omega
      · exact chk_len h x hx
    · rename_i hs; exact absurd h hs
theorem may_len {l : List Field} (h : mayT l = 0) {x : Field} (hx : x ∈ l) : x.b.length ≤ 16384 := chk_len (may_chk h) x hx
theorem flat_next {l : List Field} {k : Nat} {x : Field} (hx : l[k]? = some x) : ((l.take k).map fieldB).flatten ++ fieldB x = ((l.take (k + 1)).map fieldB).flatten := by
  rw [take_succ_get hx, List.map_append, List.flatten_append]; simp
theorem flat_sum (l : List Field) : ((l.map fieldB).flatten).length = sumT l := by
  unfold sumT; rw [List.length_flatten, List.map_map]; rfl
theorem sum_take {l : List Field} {k : Nat} : sumT (l.take k) ≤ sumT l := by
  have : sumT l = sumT (l.take k) + sumT (l.drop k) := by unfold sumT; rw [← List.sum_append, ← List.map_append, List.take_append_drop]
  omega
theorem flat_len {l : List Field} {k : Nat} (h : mayT l = 0) : ((l.take k).map fieldB).flatten.length ≤ 16384 := by
  have := may_sum h; have := sum_take (l := l) (k := k); rw [flat_sum]; omega
theorem put_yes {l : List Field} {k : Nat} (h : mayT l = 0) (hk : l.length ≤ k) : ((l.take k).map fieldB).flatten = putTF l := by rw [putTF, if_pos h, List.take_of_length_le hk]
theorem put_no {l : List Field} (h : ¬ mayT l = 0) : [] = putTF l := by rw [putTF, if_neg h]
theorem alone_no {f : Field} (h : f.num < 1 ∨ 1000 < f.num) : false = aloneF f := by
  have : (decide (1 ≤ f.num) && decide (f.num ≤ 1000)) = false := by rw [← Bool.not_eq_true]; simp only [Bool.and_eq_true, decide_eq_true_eq]; omega
  unfold aloneF; rw [this]; rfl
theorem alone_in {f : Field} (h : ¬ (f.num < 1 ∨ 1000 < f.num)) : aloneF f = (if f.wire = 0 then decide (((f.b.length : Nat) : Int) = 0) else if f.wire = 2 then decide ((f.n.n : Int) = 0) else false) := by
  have : (decide (1 ≤ f.num) && decide (f.num ≤ 1000)) = true := by simp only [Bool.and_eq_true, decide_eq_true_eq]; omega
  unfold aloneF; rw [this]; rfl

theorem sz27 : (Try.prog.info? 27).map (·.size) = some 1 := by kernel_rfl
theorem sz35 : (Try.prog.info? 35).map (·.size) = some 1 := by kernel_rfl
theorem sz37 : (Try.prog.info? 37).map (·.size) = some 4 := by kernel_rfl
theorem fa37_0 {n : Nat} {fr : Fr} {w : World} {ty : TypeId} {x : Operand} {g k : Nat} (hx : ev fr x = some (.pointer (some ⟨g, k, none⟩))) : Runs Try.prog n fr w (.fieldAddr 37 x 0) ty (.pointer (some ⟨g, k + 0, none⟩)) w := R.fieldAddrB hx Try.underlying37 rfl rfl sz3
theorem fa37_1 {n : Nat} {fr : Fr} {w : World} {ty : TypeId} {x : Operand} {g k : Nat} (hx : ev fr x = some (.pointer (some ⟨g, k, none⟩))) : Runs Try.prog n fr w (.fieldAddr 37 x 1) ty (.pointer (some ⟨g, k + 1, none⟩)) w := R.fieldAddrB hx Try.underlying37 rfl rfl sz3
theorem fa37_2 {n : Nat} {fr : Fr} {w : World} {ty : TypeId} {x : Operand} {g k : Nat} (hx : ev fr x = some (.pointer (some ⟨g, k, none⟩))) : Runs Try.prog n fr w (.fieldAddr 37 x 2) ty (.pointer (some ⟨g, k + 2, none⟩)) w := R.fieldAddrB hx Try.underlying37 rfl rfl sz35
theorem fa37_3 {n : Nat} {fr : Fr} {w : World} {ty : TypeId} {x : Operand} {g k : Nat} (hx : ev fr x = some (.pointer (some ⟨g, k, none⟩))) : Runs Try.prog n fr w (.fieldAddr 37 x 3) ty (.pointer (some ⟨g, k + 3, none⟩)) w := R.fieldAddrB hx Try.underlying37 rfl rfl sz27
theorem zr37 : ((Try.prog.info? 37).bind (·.zero)).map Value.cells = some ([.int .i64 0, .int .i64 0, .int .u64 0, .slice none 0 0] : List Value).toArray := by kernel_rfl

set_option maxRecDepth 100000 in
set_option maxHeartbeats 400000 in
theorem alone_s {w : World} {cs_f : List Value} {f : Field} (h_f : Rp.rp false 0 w.heap.size w cs_f f) :
    Ret Try.prog 82 [.agg cs_f.toArray].toArray w fun r w' => r = .bool (aloneF f) ∧ Kp [] w w' := by
 obtain ⟨a4, c5, rfl, i1, i2, i3, s6⟩ := Field.el h_f
 have ls6 : (f.b).length * 1 ≤ 140737488355328 := s6.lenle
 refine Ret.enter Try.func82 rfl Try.ntmps82 rfl rfl ?_
 refine WC.sel [0] rfl ?_
 refine WC.seq ?_
 refine WC.region ?_
 refine WO.box rfl rfl rfl ?_
 intro w7 n7
 have z7 := n7.lt
 have b7 := old_kp0 (Below.refl w.heap.size w) n7.kp
 have y7 := b7.size
 refine WO.v (R.assign rfl) rfl ?_
 refine WO.nil ?_
 refine WX.sel [0, 1, 2] rfl ?_
 refine WX.next ?_
 refine WC.seq ?_
 refine WC.seq ?_
 refine WC.region ?_
 refine WO.v (fa37_0 rfl) rfl ?_
 refine WO.v (R.loadB rfl n7.blk rfl Try.underlying3 rfl) rfl ?_
 refine WO.v (R.lss rfl rfl) rfl ?_
 refine WO.v (R.move rfl) rfl ?_
 refine WO.cutP 4 [(10, (.bool ((decide (f.num < (1 : Int))) || (decide ((1000 : Int) < f.num)))))] (fun w' => w7 = w') ?_ ?_
 rcases Bool.eq_false_or_eq_true (decide (f.num < (1 : Int))) with hb8 | hb8
 have phb8 : f.num < (1 : Int) := of_decide_eq_true hb8
 refine WO.off rfl rfl hb8 rfl ?_
 refine WO.off rfl rfl hb8 rfl ?_
 refine WO.off rfl rfl hb8 rfl ?_
 refine WO.v (R.pickT rfl hb8 rfl) rfl ?_
 refine WO.nil ?_
 exact WX.cutDoneP 4 rfl rfl ⟨⟨_, rfl, vb (bor_on hb8)⟩, trivial⟩ (rfl)
 have phb8 : ¬ (f.num < (1 : Int)) := of_decide_eq_false hb8
 refine WO.on rfl rfl hb8 ?_
 refine WO.v (fa37_0 rfl) rfl ?_
 refine WO.on rfl rfl hb8 ?_
 refine WO.v (R.loadB rfl n7.blk rfl Try.underlying3 rfl) rfl ?_
 refine WO.on rfl rfl hb8 ?_
 refine WO.v (R.gtr rfl rfl) rfl ?_
 refine WO.v (R.pickF rfl hb8 rfl) rfl ?_
 refine WO.nil ?_
 exact WX.cutDoneP 4 rfl rfl ⟨⟨_, rfl, vb (bor_off hb8)⟩, trivial⟩ (rfl)
 rintro _ rfl
 refine WO.nil ?_
 refine WX.sel [0, 1, 2, 10] rfl ?_
 refine WX.next ?_
 refine WC.cond rfl (fun q9 => ?_) (fun q9 => ?_)
 have p9 : (f.num < (1 : Int)) ∨ ((1000 : Int) < f.num) := Or.imp (fun h => of_decide_eq_true h) (fun h => of_decide_eq_true h) (bor_t q9)
 refine WC.seq ?_
 refine WC.region ?_
 refine WO.v (R.assign rfl) rfl ?_
 refine WO.nil ?_
 refine WX.sel [0, 1, 2, 10] rfl ?_
 refine WX.next ?_
 refine WC.ret ?_
 refine WX.thenRet ?_
 have e0 : false = (aloneF f) := by first | exact alone_no (by omega) | (rw [alone_in (by omega), if_pos (by assumption)]; done) | (rw [alone_in (by omega), if_neg (by assumption), if_pos (by assumption)]; done) | (rw [alone_in (by omega), if_neg (by assumption), if_neg (by assumption)]; done)
 refine WX.ret1 Try.results82 rfl ?_
 exact ⟨by rw [e0], Kp.of_below b7⟩
 have p9 : (¬ (f.num < (1 : Int))) ∧ (¬ ((1000 : Int) < f.num)) := ⟨of_decide_eq_false (bor_f q9).1, of_decide_eq_false (bor_f q9).2⟩
 refine WC.skip ?_
 refine WX.next ?_
 refine WC.seq ?_
 refine WC.seq ?_
 refine WC.region ?_
 refine WO.v (fa37_1 rfl) rfl ?_
 refine WO.v (R.loadB rfl n7.blk rfl Try.underlying3 rfl) rfl ?_
 refine WO.nil ?_
 refine WX.sel [0, 1, 2, 10, 12] rfl ?_
 refine WX.next ?_
 refine WC.block ?_
 refine WC.seq ?_
 refine WC.region ?_
 refine WO.v (R.eql rfl rfl) rfl ?_
 refine WO.v (R.assign rfl) rfl ?_
 refine WO.nil ?_
 refine WX.sel [0, 1, 2, 10, 12, 13] rfl ?_
 refine WX.next ?_
 refine WC.cond rfl (fun q10 => ?_) (fun q10 => ?_)
 have p10 : f.wire = (0 : Int) := of_decide_eq_true q10
 refine WC.seq ?_
 refine WC.region ?_
 refine WO.v (fa37_3 rfl) rfl ?_
 refine WO.v (R.loadB rfl n7.blk rfl Try.underlying27 rfl) rfl ?_
 refine WO.v (R.len rfl Try.underlying27) rfl ?_
 refine WO.v (R.eql rfl rfl) rfl ?_
 refine WO.v (R.assign rfl) rfl ?_
 refine WO.nil ?_
 refine WX.sel [0, 1, 2, 10, 12, 13] rfl ?_
 refine WX.next ?_
 refine WC.ret ?_
 refine WX.blkRet ?_
 refine WX.thenRet ?_
 have e0 : (decide (((f.b.length : Nat) : Int) = (0 : Int))) = (aloneF f) := by first | exact alone_no (by omega) | (rw [alone_in (by omega), if_pos (by assumption)]; done) | (rw [alone_in (by omega), if_neg (by assumption), if_pos (by assumption)]; done) | (rw [alone_in (by omega), if_neg (by assumption), if_neg (by assumption)]; done)
 refine WX.ret1 Try.results82 rfl ?_
 exact ⟨by rw [e0], Kp.of_below b7⟩
 have p10 : ¬ (f.wire = (0 : Int)) := of_decide_eq_false q10
 refine WC.seq ?_
 refine WC.region ?_
 refine WO.v (R.eql rfl rfl) rfl ?_
 refine WO.v (R.assign rfl) rfl ?_
 refine WO.nil ?_
 refine WX.sel [0, 1, 2, 10, 12, 13, 19] rfl ?_
 refine WX.next ?_
 refine WC.cond rfl (fun q11 => ?_) (fun q11 => ?_)
 have p11 : f.wire = (2 : Int) := of_decide_eq_true q11
 refine WC.seq ?_
 refine WC.region ?_
 refine WO.v (fa37_2 rfl) rfl ?_
 refine WO.v (R.loadB rfl n7.blk rfl Try.underlying35 rfl) rfl ?_
 refine WO.v (R.eql rfl rfl) rfl ?_
 refine WO.v (R.assign rfl) rfl ?_
 refine WO.nil ?_
 refine WX.sel [0, 1, 2, 10, 12, 13, 19] rfl ?_
 refine WX.next ?_
 refine WC.ret ?_
 refine WX.blkRet ?_
 refine WX.thenRet ?_
 have e0 : (decide ((f.n.n : Int) = (0 : Int))) = (aloneF f) := by first | exact alone_no (by omega) | (rw [alone_in (by omega), if_pos (by assumption)]; done) | (rw [alone_in (by omega), if_neg (by assumption), if_pos (by assumption)]; done) | (rw [alone_in (by omega), if_neg (by assumption), if_neg (by assumption)]; done)
 refine WX.ret1 Try.results82 rfl ?_
 exact ⟨by rw [e0], Kp.of_below b7⟩
 have p11 : ¬ (f.wire = (2 : Int)) := of_decide_eq_false q11
 refine WC.skip ?_
 refine WX.blkNormal ?_
 refine WX.next ?_
 refine WC.seq ?_
 refine WC.region ?_
 refine WO.v (R.assign rfl) rfl ?_
 refine WO.nil ?_
 refine WX.sel [0, 1, 2, 10, 12, 13, 19] rfl ?_
 refine WX.next ?_
 refine WC.ret ?_
 have e0 : false = (aloneF f) := by first | exact alone_no (by omega) | (rw [alone_in (by omega), if_pos (by assumption)]; done) | (rw [alone_in (by omega), if_neg (by assumption), if_pos (by assumption)]; done) | (rw [alone_in (by omega), if_neg (by assumption), if_neg (by assumption)]; done)
 refine WX.ret1 Try.results82 rfl ?_
 exact ⟨by rw [e0], Kp.of_below b7⟩

set_option maxRecDepth 100000 in
set_option maxHeartbeats 400000 in
theorem rises_s {w : World} {cs_a : List Value} {a : Field} {cs_f : List Value} {f : Field} (h_a : Rp.rp false 0 w.heap.size w cs_a a) (h_f : Rp.rp false 0 w.heap.size w cs_f f) :
    Ret Try.prog 72 [.agg cs_a.toArray, .agg cs_f.toArray].toArray w fun r w' => r = .bool (risesF a f) ∧ Kp [] w w' := by
 obtain ⟨a4, c5, rfl, i1, i2, i3, s6⟩ := Field.el h_a
 have ls6 : (a.b).length * 1 ≤ 140737488355328 := s6.lenle
 obtain ⟨a10, c11, rfl, i7, i8, i9, s12⟩ := Field.el h_f
 have ls12 : (f.b).length * 1 ≤ 140737488355328 := s12.lenle
 refine Ret.enter Try.func72 rfl Try.ntmps72 rfl rfl ?_
 refine WC.sel [0, 1] rfl ?_
 refine WC.seq ?_
 refine WC.region ?_
 refine WO.box rfl rfl rfl ?_
 intro w13 n13
 have z13 := n13.lt
 have b13 := old_kp0 (Below.refl w.heap.size w) n13.kp
 have y13 := b13.size
 refine WO.box rfl rfl rfl ?_
 intro w14 n14
 have z14 := n14.lt
 have b14 := old_kp0 b13 n14.kp
 have y14 := b14.size
 refine WO.v (R.assign rfl) rfl ?_
 refine WO.nil ?_
 refine WX.sel [0, 1, 2, 3, 4] rfl ?_
 refine WX.next ?_
 refine WC.seq ?_
 refine WC.seq ?_
 refine WC.region ?_
 refine WO.v (fa37_0 rfl) rfl ?_
 refine WO.v (R.loadB rfl n14.blk rfl Try.underlying3 rfl) rfl ?_
 refine WO.v (fa37_0 rfl) rfl ?_
 have B15 := (n13.blk).kp0 n14.kp
 refine WO.v (R.loadB rfl B15 rfl Try.underlying3 rfl) rfl ?_
 refine WO.v (R.eql rfl rfl) rfl ?_
 refine WO.nil ?_
 refine WX.sel [0, 1, 2, 3, 4, 9] rfl ?_
 refine WX.next ?_
 refine WC.cond rfl (fun q16 => ?_) (fun q16 => ?_)
 have p16 : f.num = a.num := of_decide_eq_true q16
 refine WC.seq ?_
 refine WC.region ?_
 refine WO.v (fa37_1 rfl) rfl ?_
 refine WO.v (R.loadB rfl n14.blk rfl Try.underlying3 rfl) rfl ?_
 refine WO.v (R.eql rfl rfl) rfl ?_
 refine WO.v (R.move rfl) rfl ?_
 refine WO.cutP 4 [(17, (.bool ((decide (f.wire = (2 : Int))) && (decide (a.wire = (2 : Int))))))] (fun w' => w14 = w') ?_ ?_
 rcases Bool.eq_false_or_eq_true (decide (f.wire = (2 : Int))) with hb17 | hb17
 have phb17 : f.wire = (2 : Int) := of_decide_eq_true hb17
 refine WO.on rfl rfl hb17 ?_
 refine WO.v (fa37_1 rfl) rfl ?_
 refine WO.on rfl rfl hb17 ?_
 refine WO.v (R.loadB rfl B15 rfl Try.underlying3 rfl) rfl ?_
 refine WO.on rfl rfl hb17 ?_
 refine WO.v (R.eql rfl rfl) rfl ?_
 refine WO.v (R.pickT rfl hb17 rfl) rfl ?_
 refine WO.nil ?_
 exact WX.cutDoneP 4 rfl rfl ⟨⟨_, rfl, vb (band_on hb17)⟩, trivial⟩ (rfl)
 have phb17 : ¬ (f.wire = (2 : Int)) := of_decide_eq_false hb17
 refine WO.off rfl rfl hb17 rfl ?_
 refine WO.off rfl rfl hb17 rfl ?_
 refine WO.off rfl rfl hb17 rfl ?_
 refine WO.v (R.pickF rfl hb17 rfl) rfl ?_
 refine WO.nil ?_
 exact WX.cutDoneP 4 rfl rfl ⟨⟨_, rfl, vb (band_off hb17)⟩, trivial⟩ (rfl)
 rintro _ rfl
 refine WO.v (R.assign rfl) rfl ?_
 refine WO.nil ?_
 refine WX.sel [0, 1, 2, 3, 4, 9] rfl ?_
 refine WX.next ?_
 refine WC.ret ?_
 refine WX.thenRet ?_
 have e0 : ((decide (f.wire = (2 : Int))) && (decide (a.wire = (2 : Int)))) = (risesF a f) := by first | (rw [risesF, if_pos (by assumption)]; done) | (rw [risesF, if_neg (by assumption)]; done)
 refine WX.ret1 Try.results72 rfl ?_
 exact ⟨by rw [e0], Kp.of_below b14⟩
 have p16 : ¬ (f.num = a.num) := of_decide_eq_false q16
 refine WC.skip ?_
 refine WX.next ?_
 refine WC.seq ?_
 refine WC.region ?_
 refine WO.v (fa37_0 rfl) rfl ?_
 refine WO.v (R.loadB rfl n14.blk rfl Try.underlying3 rfl) rfl ?_
 refine WO.v (fa37_0 rfl) rfl ?_
 refine WO.v (R.loadB rfl B15 rfl Try.underlying3 rfl) rfl ?_
 refine WO.v (R.gtr rfl rfl) rfl ?_
 refine WO.v (R.assign rfl) rfl ?_
 refine WO.nil ?_
 refine WX.sel [0, 1, 2, 3, 4, 9] rfl ?_
 refine WX.next ?_
 refine WC.ret ?_
 have e0 : (decide (a.num < f.num)) = (risesF a f) := by first | (rw [risesF, if_pos (by assumption)]; done) | (rw [risesF, if_neg (by assumption)]; done)
 refine WX.ret1 Try.results72 rfl ?_
 exact ⟨by rw [e0], Kp.of_below b14⟩

set_option maxRecDepth 100000 in
set_option maxHeartbeats 400000 in
theorem tag_s {w : World} (num : Int) (wire : Int)  :
    Ret Try.prog 83 [.int .i64 num, .int .i64 wire].toArray w fun r w' => ∃ (ra0 : Option Addr) (rc0 : Nat), r = .tuple #[.slice ra0 (tagB num wire).length rc0, .int .i64 (tagE num wire)] ∧ Ac w.heap.size true w.heap.size w'.heap.size w'.heap.size w' (.slice ra0 (tagB num wire).length rc0) (tagB num wire) ∧ Kp [] w w' := by
 refine Ret.enter Try.func83 rfl Try.ntmps83 rfl rfl ?_
 refine WC.sel [0, 1] rfl ?_
 refine WC.seq ?_
 refine WC.region ?_
 refine WO.v (R.assign rfl) rfl ?_
 refine WO.v (R.assign rfl) rfl ?_
 refine WO.nil ?_
 refine WX.sel [0, 1, 4, 5] rfl ?_
 refine WX.next ?_
 refine WC.seq ?_
 refine WC.seq ?_
 refine WC.region ?_
 refine WO.v (R.move rfl) rfl ?_
 refine WO.v (R.lss rfl rfl) rfl ?_
 refine WO.v (R.move rfl) rfl ?_
 refine WO.cutP 3 [(11, (.bool ((decide (num < (1 : Int))) || (decide ((1000 : Int) < num)))))] (fun w' => w = w') ?_ ?_
 rcases Bool.eq_false_or_eq_true (decide (num < (1 : Int))) with hb1 | hb1
 have phb1 : num < (1 : Int) := of_decide_eq_true hb1
 refine WO.off rfl rfl hb1 rfl ?_
 refine WO.off rfl rfl hb1 rfl ?_
 refine WO.v (R.pickT rfl hb1 rfl) rfl ?_
 refine WO.nil ?_
 exact WX.cutDoneP 3 rfl rfl ⟨⟨_, rfl, vb (bor_on hb1)⟩, trivial⟩ (rfl)
 have phb1 : ¬ (num < (1 : Int)) := of_decide_eq_false hb1
 refine WO.on rfl rfl hb1 ?_
 refine WO.v (R.move rfl) rfl ?_
 refine WO.on rfl rfl hb1 ?_
 refine WO.v (R.gtr rfl rfl) rfl ?_
 refine WO.v (R.pickF rfl hb1 rfl) rfl ?_
 refine WO.nil ?_
 exact WX.cutDoneP 3 rfl rfl ⟨⟨_, rfl, vb (bor_off hb1)⟩, trivial⟩ (rfl)
 rintro _ rfl
 refine WO.v (R.move rfl) rfl ?_
 refine WO.cutP 7 [(19, (.bool (((decide (num < (1 : Int))) || (decide ((1000 : Int) < num))) || ((!(decide (wire = (0 : Int)))) && (!(decide (wire = (2 : Int))))))))] (fun w' => w = w') ?_ ?_
 rcases Bool.eq_false_or_eq_true ((decide (num < (1 : Int))) || (decide ((1000 : Int) < num))) with hb2 | hb2
 have phb2 : (num < (1 : Int)) ∨ ((1000 : Int) < num) := Or.imp (fun h => of_decide_eq_true h) (fun h => of_decide_eq_true h) (bor_t hb2)
 refine WO.off rfl rfl hb2 rfl ?_
 refine WO.off rfl rfl hb2 rfl ?_
 refine WO.off rfl rfl hb2 rfl ?_
 refine WO.offU rfl rfl rfl ?_
 refine WO.offU rfl rfl rfl ?_
 refine WO.off rfl rfl hb2 rfl ?_
 refine WO.v (R.pickT rfl hb2 rfl) rfl ?_
 refine WO.nil ?_
 exact WX.cutDoneP 7 rfl rfl ⟨⟨_, rfl, vb (bor_on hb2)⟩, trivial⟩ (rfl)
 have phb2 : (¬ (num < (1 : Int))) ∧ (¬ ((1000 : Int) < num)) := ⟨of_decide_eq_false (bor_f hb2).1, of_decide_eq_false (bor_f hb2).2⟩
 refine WO.on rfl rfl hb2 ?_
 refine WO.v (R.move rfl) rfl ?_
 refine WO.on rfl rfl hb2 ?_
 refine WO.v (R.neq rfl rfl) rfl ?_
 refine WO.on rfl rfl hb2 ?_
 refine WO.v (R.move rfl) rfl ?_
 refine WO.cutP 3 [(18, (.bool ((!(decide (wire = (0 : Int)))) && (!(decide (wire = (2 : Int)))))))] (fun w' => w = w') ?_ ?_
 rcases Bool.eq_false_or_eq_true (!(decide (wire = (0 : Int)))) with hb3 | hb3
 have phb3 : ¬ (wire = (0 : Int)) := of_decide_eq_false (bnot_t hb3)
 refine WO.on rfl rfl hb3 ?_
 refine WO.v (R.move rfl) rfl ?_
 refine WO.on rfl rfl hb3 ?_
 refine WO.v (R.neq rfl rfl) rfl ?_
 refine WO.on rfl rfl hb2 ?_
 refine WO.v (R.pickT rfl hb3 rfl) rfl ?_
 refine WO.nil ?_
 exact WX.cutDoneP 3 rfl rfl ⟨⟨_, rfl, vb (band_on hb3)⟩, trivial⟩ (rfl)
 have phb3 : wire = (0 : Int) := of_decide_eq_true (bnot_f hb3)
 refine WO.off rfl rfl hb3 rfl ?_
 refine WO.off rfl rfl hb3 rfl ?_
 refine WO.on rfl rfl hb2 ?_
 refine WO.v (R.pickF rfl hb3 rfl) rfl ?_
 refine WO.nil ?_
 exact WX.cutDoneP 3 rfl rfl ⟨⟨_, rfl, vb (band_off hb3)⟩, trivial⟩ (rfl)
 rintro _ rfl
 refine WO.v (R.pickF rfl hb2 rfl) rfl ?_
 refine WO.nil ?_
 exact WX.cutDoneP 5 rfl rfl ⟨⟨_, rfl, vb (bor_off hb2)⟩, trivial⟩ (rfl)
 rintro _ rfl
 refine WO.nil ?_
 refine WX.sel [0, 1, 4, 5, 19] rfl ?_
 refine WX.next ?_
 refine WC.cond rfl (fun q4 => ?_) (fun q4 => ?_)
 have p4 : ((num < (1 : Int)) ∨ ((1000 : Int) < num)) ∨ ((¬ (wire = (0 : Int))) ∧ (¬ (wire = (2 : Int)))) := Or.imp (fun h => Or.imp (fun h => of_decide_eq_true h) (fun h => of_decide_eq_true h) (bor_t h)) (fun h => ⟨of_decide_eq_false (bnot_t (band_t h).1), of_decide_eq_false (bnot_t (band_t h).2)⟩) (bor_t q4)
 refine WC.seq ?_
 refine WC.region ?_
 refine WO.v (R.assign rfl) rfl ?_
 refine WO.v (R.assign rfl) rfl ?_
 refine WO.nil ?_
 refine WX.sel [0, 1, 4, 5, 19] rfl ?_
 refine WX.next ?_
 refine WC.ret ?_
 refine WX.thenRet ?_
 have e0 : ([] : List UInt8) = (tagB num wire) := by first | exact tagB_no (by omega) | exact tagB_yes (by omega)
 have n0 : 0 = (tagB num wire).length := by rw [← e0]; simp only [List.length_nil]
 have f0 : Ac (α := UInt8) w.heap.size true w.heap.size w.heap.size w.heap.size w (.slice none 0 0) ([] : List UInt8) := Ac.empty _ _ _ _ _ _ _
 have e1 : (1 : Int) = (tagE num wire) := by first | exact tagE_no (by omega) | exact tagE_yes (by omega)
 refine WX.ret2 Try.results83 rfl rfl ?_
 exact ⟨none, 0, by rw [n0, e1], (acl_n f0 e0 n0), Kp.refl _⟩
 have p4 : ((¬ (num < (1 : Int))) ∧ (¬ ((1000 : Int) < num))) ∧ ((wire = (0 : Int)) ∨ (wire = (2 : Int))) := ⟨⟨of_decide_eq_false (bor_f (bor_f q4).1).1, of_decide_eq_false (bor_f (bor_f q4).1).2⟩, Or.imp (fun h => of_decide_eq_true (bnot_f h)) (fun h => of_decide_eq_true (bnot_f h)) (band_f (bor_f q4).2)⟩
 refine WC.skip ?_
 refine WX.next ?_
 refine WC.seq ?_
 refine WC.region ?_
 refine WO.v (R.move rfl) rfl ?_
 have i5 : I64 ((8 : Int) * num) := by exact ⟨by omega, by omega⟩
 refine WO.v (R.mul rfl rfl i5) rfl ?_
 refine WO.v (R.move rfl) rfl ?_
 have i6 : I64 (((8 : Int) * num) + wire) := by exact ⟨by omega, by omega⟩
 refine WO.v (R.add rfl rfl i6) rfl ?_
 have hN7 : ((((8 : Int) * num) + wire)).toNat < 18446744073709551616 := by have := i6; unfold I64 at this; omega
 refine WO.v (R.toU64J (a := ((((8 : Int) * num) + wire)).toNat) rfl Try.underlying3 Try.underlying35 (by omega) hN7) rfl ?_
 refine WO.c (E.call rfl rfl Try.func45 rfl rfl) (put_s (n := ((((8 : Int) * num) + wire)).toNat) (hN7)) rfl ?_
 rintro _ w8 ⟨a9, c10, rfl, s11, k8⟩
 have ls11 : (putF (((((8 : Int) * num) + wire)).toNat)).length * 1 ≤ 140737488355328 := s11.lenle
 have z8 := k8.size
 have b8 := old_kp0 (Below.refl w.heap.size w) k8
 have y8 := b8.size
 have := putF_len10 (n := (((((8 : Int) * num) + wire)).toNat)) (by omega)
 refine WO.v (R.assign rfl) rfl ?_
 refine WO.v (R.assign rfl) rfl ?_
 refine WO.nil ?_
 refine WX.sel [0, 1, 4, 5, 19] rfl ?_
 refine WX.next ?_
 refine WC.ret ?_
 have e0 : (putF (((((8 : Int) * num) + wire)).toNat)) = (tagB num wire) := by first | exact tagB_no (by omega) | exact tagB_yes (by omega)
 have n0 : (putF (((((8 : Int) * num) + wire)).toNat)).length = (tagB num wire).length := by rw [e0]
 have f0 : Ac (α := UInt8) w.heap.size true w.heap.size w8.heap.size w8.heap.size w8 (.slice a9 (putF (((((8 : Int) * num) + wire)).toNat)).length c10) (putF (((((8 : Int) * num) + wire)).toNat)) := ((s11).mono (by omega) (by omega) (by omega) (by omega))
 have e1 : (0 : Int) = (tagE num wire) := by first | exact tagE_no (by omega) | exact tagE_yes (by omega)
 refine WX.ret2 Try.results83 rfl rfl ?_
 exact ⟨a9, c10, by rw [n0, e1], (acl_n f0 e0 n0), Kp.of_below b8⟩

set_option maxRecDepth 100000 in
set_option maxHeartbeats 400000 in
theorem putf_s {w : World} {cs_f : List Value} {f : Field} (h_f : Rp.rp false 0 w.heap.size w cs_f f) (pre0 : f.b.length ≤ 16384) :
    Ret Try.prog 60 [.agg cs_f.toArray].toArray w fun r w' => ∃ (ra0 : Option Addr) (rc0 : Nat), r = .slice ra0 (fieldB f).length rc0 ∧ Ac w.heap.size true w.heap.size w'.heap.size w'.heap.size w' (.slice ra0 (fieldB f).length rc0) (fieldB f) ∧ Kp [] w w' := by
 obtain ⟨a4, c5, rfl, i1, i2, i3, s6⟩ := Field.el h_f
 have ls6 : (f.b).length * 1 ≤ 140737488355328 := s6.lenle
 have htl := tagB_len f.num f.wire
 refine Ret.enter Try.func60 rfl Try.ntmps60 rfl rfl ?_
 refine WC.sel [0] rfl ?_
 refine WC.seq ?_
 refine WC.region ?_
 refine WO.box rfl rfl rfl ?_
 intro w7 n7
 have z7 := n7.lt
 have b7 := old_kp0 (Below.refl w.heap.size w) n7.kp
 have y7 := b7.size
 refine WO.v (R.assign rfl) rfl ?_
 refine WO.nil ?_
 refine WX.sel [0, 1, 2] rfl ?_
 refine WX.next ?_
 refine WC.seq ?_
 refine WC.region ?_
 refine WO.v (fa37_0 rfl) rfl ?_
 refine WO.v (R.loadB rfl n7.blk rfl Try.underlying3 rfl) rfl ?_
 refine WO.v (fa37_1 rfl) rfl ?_
 refine WO.v (R.loadB rfl n7.blk rfl Try.underlying3 rfl) rfl ?_
 refine WO.c (E.call rfl rfl Try.func83 rfl rfl) (tag_s (num := f.num) (wire := f.wire) ) rfl ?_
 rintro _ w8 ⟨a9, c10, rfl, s11, k8⟩
 have ls11 : (tagB (f.num) (f.wire)).length * 1 ≤ 140737488355328 := s11.lenle
 have z8 := k8.size
 have b8 := old_kp0 b7 k8
 have y8 := b8.size
 refine WO.v (R.move rfl) rfl ?_
 refine WO.v (R.extract rfl rfl) rfl ?_
 refine WO.v (R.extract rfl rfl) rfl ?_
 refine WO.v (R.assign rfl) rfl ?_
 refine WO.v (R.assign rfl) rfl ?_
 refine WO.nil ?_
 refine WX.sel [0, 1, 2, 3] rfl ?_
 refine WX.next ?_
 refine WC.seq ?_
 refine WC.seq ?_
 refine WC.region ?_
 refine WO.v (fa37_1 rfl) rfl ?_
 have B12 := (n7.blk).kp0 k8
 refine WO.v (R.loadB rfl B12 rfl Try.underlying3 rfl) rfl ?_
 refine WO.v (R.eql rfl rfl) rfl ?_
 refine WO.nil ?_
 refine WX.sel [0, 1, 2, 3, 15] rfl ?_
 refine WX.next ?_
 refine WC.cond rfl (fun q13 => ?_) (fun q13 => ?_)
 have p13 : f.wire = (0 : Int) := of_decide_eq_true q13
 refine WC.seq ?_
 refine WC.region ?_
 refine WO.v (R.move rfl) rfl ?_
 refine WO.v (fa37_2 rfl) rfl ?_
 refine WO.v (R.loadB rfl B12 rfl Try.underlying35 rfl) rfl ?_
 refine WO.c (E.call rfl rfl Try.func45 rfl rfl) (put_s (n := f.n.n) (i3)) rfl ?_
 rintro _ w14 ⟨a15, c16, rfl, s17, k14⟩
 have ls17 : (putF (f.n.n)).length * 1 ≤ 140737488355328 := s17.lenle
 have z14 := k14.size
 have b14 := old_kp0 b8 k14
 have y14 := b14.size
 have := putF_len10 (n := (f.n.n)) (by omega)
 have ac23 : Ac (α := UInt8) (w7.heap.size) true (w7.heap.size) (w14.heap.size) (w8.heap.size) w14 (.slice a9 (tagB (f.num) (f.wire)).length c10) (tagB (f.num) (f.wire)) := (ac_kp0 (s11) k14 (by omega) (by omega)).mono (Nat.le_refl _) (Nat.le_refl _) (by omega) (Nat.le_refl _)
 have bd18 := ac23.bd
 have ty24 := ac23.ty
 have lenac23 : ((tagB (f.num) (f.wire))).length * 1 ≤ 140737488355328 := ac23.lenle
 have lxac23 : ((tagB (f.num) (f.wire)) ++ (putF (f.n.n))).length = (tagB (f.num) (f.wire)).length + (putF (f.n.n)).length := List.length_append
 refine WO.append rfl ac23 (by omega) (by omega) (by omega) rfl rfl (ys := (putF (f.n.n))) (Src.flat (((s17).pub (L := 0) (H := w14.heap.size) (by omega) (by omega) (by omega) (by omega))) (fun h => h)) (.inl rfl) Try.underlying27 inf5 rfl rfl rfl (by decide) (by omega) (by omega) rfl ?_
 intro a20 c21 w19 h22 k19 or25
 have z19 := k19.size
 have b19 := old_kp b14 k19 (fun g hg => by have := bd18 g hg; omega)
 have y19 := b19.size
 refine WO.v (R.assign rfl) rfl ?_
 refine WO.nil ?_
 refine WX.sel [0, 1, 2, 3, 15] rfl ?_
 refine WX.next ?_
 refine WC.ret ?_
 refine WX.thenRet ?_
 have e0 : ((tagB (f.num) (f.wire)) ++ (putF (f.n.n))) = (fieldB f) := by first | exact field_0 (by assumption) | exact field_2 (by assumption)
 have n0 : ((tagB (f.num) (f.wire)) ++ (putF (f.n.n))).length = (fieldB f).length := by rw [e0]
 have f0 : Ac (α := UInt8) w.heap.size true w.heap.size w19.heap.size w19.heap.size w19 (.slice a20 ((tagB (f.num) (f.wire)) ++ (putF (f.n.n))).length c21) ((tagB (f.num) (f.wire)) ++ (putF (f.n.n))) := ((h22).mono (by omega) (by omega) (by omega) (by omega))
 refine WX.ret1 Try.results60 rfl ?_
 exact ⟨a20, c21, by rw [n0], (acl_n f0 e0 n0), Kp.of_below b19⟩
 have p13 : ¬ (f.wire = (0 : Int)) := of_decide_eq_false q13
 refine WC.skip ?_
 refine WX.next ?_
 refine WC.seq ?_
 refine WC.region ?_
 refine WO.v (R.move rfl) rfl ?_
 refine WO.v (fa37_3 rfl) rfl ?_
 refine WO.v (R.loadB rfl B12 rfl Try.underlying27 rfl) rfl ?_
 refine WO.v (R.len rfl Try.underlying27) rfl ?_
 refine WO.v (R.toU64 (a := f.b.length) rfl Try.underlying3 Try.underlying35 (by omega)) rfl ?_
 refine WO.c (E.call rfl rfl Try.func45 rfl rfl) (put_s (n := f.b.length) (by omega)) rfl ?_
 rintro _ w26 ⟨a27, c28, rfl, s29, k26⟩
 have ls29 : (putF (f.b.length)).length * 1 ≤ 140737488355328 := s29.lenle
 have z26 := k26.size
 have b26 := old_kp0 b8 k26
 have y26 := b26.size
 have := putF_len10 (n := (f.b.length)) (by omega)
 have ac35 : Ac (α := UInt8) (w7.heap.size) true (w7.heap.size) (w26.heap.size) (w8.heap.size) w26 (.slice a9 (tagB (f.num) (f.wire)).length c10) (tagB (f.num) (f.wire)) := (ac_kp0 (s11) k26 (by omega) (by omega)).mono (Nat.le_refl _) (Nat.le_refl _) (by omega) (Nat.le_refl _)
 have bd30 := ac35.bd
 have ty36 := ac35.ty
 have lenac35 : ((tagB (f.num) (f.wire))).length * 1 ≤ 140737488355328 := ac35.lenle
 have lxac35 : ((tagB (f.num) (f.wire)) ++ (putF (f.b.length))).length = (tagB (f.num) (f.wire)).length + (putF (f.b.length)).length := List.length_append
 refine WO.append rfl ac35 (by omega) (by omega) (by omega) rfl rfl (ys := (putF (f.b.length))) (Src.flat (((s29).pub (L := 0) (H := w26.heap.size) (by omega) (by omega) (by omega) (by omega))) (fun h => h)) (.inl rfl) Try.underlying27 inf5 rfl rfl rfl (by decide) (by omega) (by omega) rfl ?_
 intro a32 c33 w31 h34 k31 or37
 have z31 := k31.size
 have b31 := old_kp b26 k31 (fun g hg => by have := bd30 g hg; omega)
 have y31 := b31.size
 refine WO.v (R.assign rfl) rfl ?_
 refine WO.nil ?_
 refine WX.sel [0, 1, 2, 3, 15] rfl ?_
 refine WX.next ?_
 refine WC.seq ?_
 refine WC.region ?_
 refine WO.v (R.move rfl) rfl ?_
 refine WO.v (fa37_3 rfl) rfl ?_
 have B38 := ((B12).kp0 k26).kp k31 (fun hm => by have := bd30 _ hm; omega)
 refine WO.v (R.loadB rfl B38 rfl Try.underlying27 rfl) rfl ?_
 have ac44 : Ac (α := UInt8) (w7.heap.size) true (w7.heap.size) (w31.heap.size) (w31.heap.size) w31 (.slice a32 ((tagB (f.num) (f.wire)) ++ (putF (f.b.length))).length c33) ((tagB (f.num) (f.wire)) ++ (putF (f.b.length))) := (h34).mono (Nat.le_refl _) (Nat.le_refl _) (by omega) (Nat.le_refl _)
 have bd39 := ac44.bd
 have ty45 := ac44.ty
 have lenac44 : (((tagB (f.num) (f.wire)) ++ (putF (f.b.length)))).length * 1 ≤ 140737488355328 := ac44.lenle
 have lxac44 : (((tagB (f.num) (f.wire)) ++ (putF (f.b.length))) ++ f.b).length = ((tagB (f.num) (f.wire)) ++ (putF (f.b.length))).length + f.b.length := List.length_append
 refine WO.append rfl ac44 (by omega) (by omega) (by omega) rfl rfl (ys := f.b) (Src.flat (((sl_old s6 b31).mono (lo' := 0) (hi' := w31.heap.size) (Nat.zero_le _) (by omega))) (fun h => h)) (.inl rfl) Try.underlying27 inf5 rfl rfl rfl (by decide) (by omega) (by omega) rfl ?_
 intro a41 c42 w40 h43 k40 or46
 have z40 := k40.size
 have b40 := old_kp b31 k40 (fun g hg => by have := bd39 g hg; omega)
 have y40 := b40.size
 refine WO.v (R.assign rfl) rfl ?_
 refine WO.nil ?_
 refine WX.sel [0, 1, 2, 3, 15] rfl ?_
 refine WX.next ?_
 refine WC.ret ?_
 have e0 : (((tagB (f.num) (f.wire)) ++ (putF (f.b.length))) ++ f.b) = (fieldB f) := by first | exact field_0 (by assumption) | exact field_2 (by assumption)
 have n0 : (((tagB (f.num) (f.wire)) ++ (putF (f.b.length))) ++ f.b).length = (fieldB f).length := by rw [e0]
 have f0 : Ac (α := UInt8) w.heap.size true w.heap.size w40.heap.size w40.heap.size w40 (.slice a41 (((tagB (f.num) (f.wire)) ++ (putF (f.b.length))) ++ f.b).length c42) (((tagB (f.num) (f.wire)) ++ (putF (f.b.length))) ++ f.b) := ((h43).mono (by omega) (by omega) (by omega) (by omega))
 refine WX.ret1 Try.results60 rfl ?_
 exact ⟨a41, c42, by rw [n0], (acl_n f0 e0 n0), Kp.of_below b40⟩

set_option maxRecDepth 100000 in
set_option maxHeartbeats 400000 in
theorem mayT_s {w : World} {a_l : Option Addr} {c_l : Nat} {l : List Field} (h_l : Sl false 0 w.heap.size w (.slice a_l l.length c_l) l) :
    Ret Try.prog 59 [.slice a_l l.length c_l].toArray w fun r w' => r = .int .i64 (mayT l) ∧ Kp [] w w' := by
 have len_l : (l).length * 48 ≤ 140737488355328 := h_l.lenle
 refine Ret.enter Try.func59 rfl Try.ntmps59 rfl rfl ?_
 refine WC.sel [0] rfl ?_
 refine WC.seq ?_
 refine WC.region ?_
 refine WO.v (R.assign rfl) rfl ?_
 refine WO.nil ?_
 refine WX.sel [0, 2] rfl ?_
 refine WX.next ?_
 refine WC.seq ?_
 refine WC.region ?_
 refine WO.v (R.assign rfl) rfl ?_
 refine WO.nil ?_
 refine WX.sel [0, 2, 3] rfl ?_
 refine WX.next ?_
 refine WC.seq ?_
 refine WC.seq ?_
 refine WC.region ?_
 refine WO.v (R.move rfl) rfl ?_
 refine WO.v (R.len rfl Try.underlying25) rfl ?_
 refine WO.v (R.move rfl) rfl ?_
 refine WO.nil ?_
 refine WX.sel [0, 2, 3, 6, 7, 8] rfl ?_
 refine WX.next ?_
 refine WC.block ?_
 refine WC.loopK [0, 2, 6, 7] rfl (fun zz : Nat => [(8, (.int .i64 (((zz) : Nat) : Int))), (3, (.int .i64 (((sumT (l.take (zz))) : Nat) : Int)))]) (fun (zz : Nat) (w' : World) => (Kp [] w w') ∧ ((zz) ≤ l.length) ∧ (chkT none l = chkT (prevF l (zz)) (l.drop (zz))) ∧ (sumT (l.take (zz)) ≤ (zz) * 16404)) (fun zz => l.length - (zz)) (0) ?_ ?_ ?_
 exact ⟨⟨_, rfl, rfl⟩, ⟨_, rfl, vi (by rfl)⟩, trivial⟩
 exact ⟨Kp.refl _, Nat.zero_le _, rfl, by simp [sumT]⟩
 rintro k w1 ⟨k1, hk, hchk, hsum⟩
 try dsimp only at hk hchk hsum
 have z1 := k1.size
 have b1 := old_kp0 (Below.refl w.heap.size w) k1
 have y1 := b1.size
 refine (?_ : WC _ _ _ _ ([(8, (.int .i64 ((k : Nat) : Int))), (3, (.int .i64 (((sumT (l.take k)) : Nat) : Int)))] ++ _) w1)
 refine WC.seq ?_
 refine WC.region ?_
 refine WO.v (R.lss rfl rfl) rfl ?_
 refine WO.nil ?_
 refine WX.sel [0, 2, 3, 6, 7, 8, 9] rfl ?_
 refine WX.next ?_
 refine WC.seq ?_
 refine WC.cond rfl (fun q2 => ?_) (fun q2 => ?_)
 have p2 : ((k : Nat) : Int) < ((l.length : Nat) : Int) := of_decide_eq_true q2
 refine WC.skip ?_
 refine WX.next ?_
 refine WC.seq ?_
 refine WC.block ?_
 refine WC.seq ?_
 refine WC.region ?_
 refine WO.v (R.move rfl) rfl ?_
 obtain ⟨x3, hx3⟩ := get_ex (xs := l) (i := k) (by omega)
 obtain ⟨A4, cs5, hA4, loA4, hiA4, ccA4, r6⟩ := (sl_old h_l b1).at_ hx3
 obtain ⟨a10, c11, rfl, i7, i8, i9, s12⟩ := Field.el r6
 have ls12 : (x3.b).length * 1 ≤ 140737488355328 := s12.lenle
 refine WO.v (R.indexAddrN rfl rfl Try.underlying25 sz37 hA4 (by omega)) rfl ?_
 refine WO.v (R.loadN (cs := [_, _, _, _]) rfl Try.underlying37 rfl sz37 ccA4) rfl ?_
 refine WO.alloc zr37 rfl ?_
 intro w13 n13
 have z13 := n13.lt
 have b13 := old_kp0 b1 n13.kp
 have y13 := b13.size
 refine WO.v (R.assign rfl) rfl ?_
 refine WO.storeBN rfl rfl n13.blk rfl (by simp [Value.oneCell']) sz37 ?_
 intro w14 k14 B14 z_14
 have z14 := z_14.symm
 have b14 := old_kp b13 k14 (mem1 (by omega))
 have y14 := b14.size
 refine WO.nil ?_
 refine WX.sel [0, 2, 3, 4, 5, 6, 7, 8, 9] rfl ?_
 refine WX.next ?_
 refine WC.seq ?_
 refine WC.block ?_
 refine WC.seq ?_
 refine WC.region ?_
 refine WO.v (R.loadBN (vs := [_, _, _, _]) rfl B14 rfl Try.underlying37 rfl sz37) rfl ?_
 refine WO.c (E.call rfl rfl Try.func82 rfl rfl) (alone_s (f := x3) (Field.mk_ (i7) (i8) (i9) ((sl_kp (sl_kp0 (s12) n13.kp (by omega)) k14 (by omega) (mem1 (by omega))).mono (lo' := 0) (hi' := w14.heap.size) (Nat.zero_le _) (by omega)))) rfl ?_
 rintro _ w15 ⟨rfl, k15⟩
 have z15 := k15.size
 have b15 := old_kp0 b14 k15
 have y15 := b15.size
 refine WO.v (R.not rfl) rfl ?_
 refine WO.v (R.assign rfl) rfl ?_
 refine WO.nil ?_
 refine WX.sel [0, 2, 3, 4, 5, 6, 7, 8, 9, 13] rfl ?_
 refine WX.next ?_
 refine WC.cond rfl (fun q16 => ?_) (fun q16 => ?_)
 have p16 : (aloneF (x3)) = false := (bnot_t q16)
 refine WC.seq ?_
 refine WC.region ?_
 refine WO.v (R.assign rfl) rfl ?_
 refine WO.nil ?_
 refine WX.sel [0, 2, 3, 4, 5, 6, 7, 8, 9, 13] rfl ?_
 refine WX.next ?_
 refine WC.ret ?_
 refine WX.blkRet ?_
 refine WX.thenRet ?_
 refine WX.blkRet ?_
 refine WX.thenRet ?_
 refine WX.loopRet ?_
 refine WX.blkRet ?_
 refine WX.thenRet ?_
 have e0 : (1 : Int) = (mayT l) := by first | exact may_e1 hchk (by assumption) (by assumption) | exact may_e5 hchk (by assumption) (by assumption) (by omega) (by assumption) (by assumption) | exact may_e4 hchk (by assumption) (by assumption) (by first | exact .inl (by omega) | exact .inr ⟨_, by assumption, by assumption⟩) (by omega) | exact may_end4 hchk (by omega) (by omega) | exact may_end0 hchk (by omega) (by omega)
 refine WX.ret1 Try.results59 rfl ?_
 exact ⟨by rw [e0], Kp.of_below b15⟩
 have p16 : (aloneF (x3)) = true := (bnot_f q16)
 refine WC.seq ?_
 refine WC.sel [0, 2, 3, 4, 5, 6, 7, 8, 9, 13] rfl ?_
 rcases Bool.eq_false_or_eq_true (decide ((0 : Int) < ((k : Nat) : Int))) with hb17 | hb17
 have phb17 : (0 : Int) < ((k : Nat) : Int) := of_decide_eq_true hb17
 have i18 : I64 (((k : Nat) : Int) - (1 : Int)) := by exact ⟨by omega, by omega⟩
 obtain ⟨x19, hx19⟩ := get_ex (xs := l) (i := (k - 1)) (by omega)
 obtain ⟨A20, cs21, hA20, loA20, hiA20, ccA20, r22⟩ := (sl_old h_l b15).at_ hx19
 obtain ⟨a26, c27, rfl, i23, i24, i25, s28⟩ := Field.el r22
 have ls28 : (x19.b).length * 1 ≤ 140737488355328 := s28.lenle
 have B29 := (B14).kp0 k15
 refine WC.draw' mixed_orders [.ex [] (.int .i64 ((k : Nat) : Int)), .ex [0] (.bool (decide ((0 : Int) < ((k : Nat) : Int)))), .ex [1] (.bool true), .ex [2] (.slice a_l l.length c_l), .ex [2] (.int .i64 ((k : Nat) : Int)), .ex [2, 4] (.int .i64 (((k : Nat) : Int) - (1 : Int))), .ex [2, 3, 5] (.pointer (some (A20.add ((k - 1) * 4)))), .ex [2, 6] (.agg #[(.int .i64 x19.num), (.int .i64 x19.wire), (.int .u64 (x19.n.n : Int)), (.slice a26 x19.b.length c27)]), .ex [2] (.agg #[(.int .i64 x3.num), (.int .i64 x3.wire), (.int .u64 (x3.n.n : Int)), (.slice a10 x3.b.length c11)]), .ex [2, 7, 8] (.bool (risesF (x19) (x3))), .ex [2, 9] (.bool (!(risesF (x19) (x3)))), .ex [2, 10] (.bool (!(risesF (x19) (x3)))), .ex [11] (.bool (!(risesF (x19) (x3))))] 13 (by kernel_rfl) ⟨fun _ _ _ h _ => h, fun _ _ _ h _ => h, fun _ _ _ h _ => h, fun _ _ _ h _ => h, fun _ _ _ h _ => h, fun _ _ _ h _ => h, fun _ _ _ h _ => h, fun _ _ _ h _ => h, fun _ _ _ h _ => h, fun _ _ _ h _ => h, fun _ _ _ h _ => h, fun _ _ _ h _ => h, fun _ _ _ h _ => h, trivial⟩ ⟨?_, ?_, ?_, ?_, ?_, ?_, ?_, ?_, ?_, ?_, ?_, ?_, ?_, trivial⟩ ?_
 rintro vs w31 k31 ⟨-⟩
 replace k31 : Kp [] w15 w31 := k31
 refine WO.haves (fr' := [(4, _)]) ⟨⟨_, rfl, rfl⟩, trivial⟩ ?_
 refine WO.v (R.move rfl) rfl ?_
 refine WO.nil ?_
 exact WX.stepDone rfl rfl (Kp.refl _)
 rintro vs w32 k32 ⟨e33, -⟩
 replace k32 : Kp [] w15 w32 := k32
 refine WO.haves (fr' := [(18, _)]) ⟨⟨_, rfl, e33⟩, trivial⟩ ?_
 refine WO.v (R.gtr rfl rfl) rfl ?_
 refine WO.nil ?_
 exact WX.stepDone rfl rfl (Kp.refl _)
 rintro vs w34 k34 ⟨e35, -⟩
 replace k34 : Kp [] w15 w34 := k34
 refine WO.haves (fr' := [(19, _)]) ⟨⟨_, rfl, e35⟩, trivial⟩ ?_
 refine WO.v (R.move rfl) rfl ?_
 refine WO.nil ?_
 exact WX.stepDone rfl (vb hb17) (Kp.refl _)
 rintro vs w36 k36 ⟨e37, -⟩
 replace k36 : Kp [] w15 w36 := k36
 refine WO.haves (fr' := [(20, _), (0, _)]) ⟨⟨_, rfl, e37⟩, ⟨_, rfl, rfl⟩, trivial⟩ ?_
 refine WO.on rfl rfl rfl ?_
 refine WO.v (R.move rfl) rfl ?_
 refine WO.nil ?_
 exact WX.stepDone rfl rfl (Kp.refl _)
 rintro vs w38 k38 ⟨e39, -⟩
 replace k38 : Kp [] w15 w38 := k38
 refine WO.haves (fr' := [(20, _), (4, _)]) ⟨⟨_, rfl, e39⟩, ⟨_, rfl, rfl⟩, trivial⟩ ?_
 refine WO.on rfl rfl rfl ?_
 refine WO.v (R.move rfl) rfl ?_
 refine WO.nil ?_
 exact WX.stepDone rfl rfl (Kp.refl _)
 rintro vs w40 k40 ⟨e41, e42, -⟩
 replace k40 : Kp [] w15 w40 := k40
 refine WO.haves (fr' := [(20, _), (22, _)]) ⟨⟨_, rfl, e41⟩, ⟨_, rfl, e42⟩, trivial⟩ ?_
 refine WO.on rfl rfl rfl ?_
 have i43 : I64 (((k : Nat) : Int) - (1 : Int)) := by exact ⟨by omega, by omega⟩
 refine WO.v (R.sub rfl rfl i43) rfl ?_
 refine WO.nil ?_
 exact WX.stepDone rfl rfl (Kp.refl _)
 rintro vs w44 k44 ⟨e45, e46, e47, -⟩
 replace k44 : Kp [] w15 w44 := k44
 refine WO.haves (fr' := [(20, _), (21, _), (23, _)]) ⟨⟨_, rfl, e45⟩, ⟨_, rfl, e46⟩, ⟨_, rfl, e47⟩, trivial⟩ ?_
 refine WO.on rfl rfl rfl ?_
 refine WO.v (R.indexAddrJ rfl rfl Try.underlying25 sz37 hA20 (i := (k - 1)) (by omega) (by omega)) rfl ?_
 refine WO.nil ?_
 exact WX.stepDone rfl rfl (Kp.refl _)
 rintro vs w48 k48 ⟨e49, e50, -⟩
 replace k48 : Kp [] w15 w48 := k48
 have z48 := k48.size
 have b48 := old_kp0 b15 k48
 have y48 := b48.size
 refine WO.haves (fr' := [(20, _), (24, _)]) ⟨⟨_, rfl, e49⟩, ⟨_, rfl, e50⟩, trivial⟩ ?_
 refine WO.on rfl rfl rfl ?_
 refine WO.v (R.loadN (cs := [_, _, _, _]) rfl Try.underlying37 rfl sz37 ((ccA20).kpA k48 (by omega) (by simp))) rfl ?_
 refine WO.nil ?_
 exact WX.stepDone rfl rfl (Kp.refl _)
 rintro vs w51 k51 ⟨e52, -⟩
 replace k51 : Kp [] w15 w51 := k51
 have z51 := k51.size
 have b51 := old_kp0 b15 k51
 have y51 := b51.size
 refine WO.haves (fr' := [(20, _), (5, _)]) ⟨⟨_, rfl, e52⟩, ⟨_, rfl, rfl⟩, trivial⟩ ?_
 refine WO.on rfl rfl rfl ?_
 have B53 := ((B14).kp0 k15).kp0 k51
 refine WO.v (R.loadBN (vs := [_, _, _, _]) rfl B53 rfl Try.underlying37 rfl sz37) rfl ?_
 refine WO.nil ?_
 exact WX.stepDone rfl rfl (Kp.refl _)
 rintro vs w54 k54 ⟨e55, e56, e57, -⟩
 replace k54 : Kp [] w15 w54 := k54
 have z54 := k54.size
 have b54 := old_kp0 b15 k54
 have y54 := b54.size
 refine WO.haves (fr' := [(20, _), (25, _), (26, _)]) ⟨⟨_, rfl, e55⟩, ⟨_, rfl, e56⟩, ⟨_, rfl, e57⟩, trivial⟩ ?_
 refine WO.on rfl rfl rfl ?_
 refine WO.c (E.call rfl rfl Try.func72 rfl rfl) (rises_s (a := x19) (f := x3) (Field.mk_ (i23) (i24) (i25) ((sl_kp0 (s28) k54 (by omega)).mono (lo' := 0) (hi' := w54.heap.size) (Nat.zero_le _) (by omega))) (Field.mk_ (i7) (i8) (i9) ((sl_kp0 (sl_kp0 (sl_kp (sl_kp0 (s12) n13.kp (by omega)) k14 (by omega) (mem1 (by omega))) k15 (by omega)) k54 (by omega)).mono (lo' := 0) (hi' := w54.heap.size) (Nat.zero_le _) (by omega)))) rfl ?_
 rintro _ w58 ⟨rfl, k58⟩
 have z58 := k58.size
 have b58 := old_kp0 b54 k58
 have y58 := b58.size
 refine WO.nil ?_
 exact WX.stepDone rfl rfl ((Kp.refl _).step k58 (by simp))
 rintro vs w59 k59 ⟨e60, e61, -⟩
 replace k59 : Kp [] w15 w59 := k59
 refine WO.haves (fr' := [(20, _), (27, _)]) ⟨⟨_, rfl, e60⟩, ⟨_, rfl, e61⟩, trivial⟩ ?_
 refine WO.on rfl rfl rfl ?_
 refine WO.v (R.not rfl) rfl ?_
 refine WO.nil ?_
 exact WX.stepDone rfl rfl (Kp.refl _)
 rintro vs w62 k62 ⟨e63, e64, -⟩
 replace k62 : Kp [] w15 w62 := k62
 refine WO.haves (fr' := [(20, _), (28, _)]) ⟨⟨_, rfl, e63⟩, ⟨_, rfl, e64⟩, trivial⟩ ?_
 refine WO.v (R.pickT rfl rfl rfl) rfl ?_
 refine WO.nil ?_
 exact WX.stepDone rfl rfl (Kp.refl _)
 rintro vs w65 k65 ⟨e66, -⟩
 replace k65 : Kp [] w15 w65 := k65
 have z65 := k65.size
 have b65 := old_kp0 b15 k65
 have y65 := b65.size
 refine WO.haves (fr' := [(29, _)]) ⟨⟨_, rfl, e66⟩, trivial⟩ ?_
 refine WO.v (R.assign rfl) rfl ?_
 refine WO.nil ?_
 exact WX.stepDone rfl rfl (Kp.refl _)
 rintro vs w67 k67 ⟨-, -, -, -, -, -, -, -, -, -, -, -, e80, -⟩
 replace k67 : Kp [] w15 w67 := k67
 have z67 := k67.size
 have b67 := old_kp0 b15 k67
 have y67 := b67.size
 refine WO.haves (fr' := [(17, _), (0, _), (2, _), (3, _), (4, _), (5, _), (6, _), (7, _), (8, _), (9, _), (13, _)]) ⟨⟨_, rfl, e80⟩, ⟨_, rfl, rfl⟩, ⟨_, rfl, rfl⟩, ⟨_, rfl, rfl⟩, ⟨_, rfl, rfl⟩, ⟨_, rfl, rfl⟩, ⟨_, rfl, rfl⟩, ⟨_, rfl, rfl⟩, ⟨_, rfl, rfl⟩, ⟨_, rfl, rfl⟩, ⟨_, rfl, rfl⟩, trivial⟩ ?_
 refine WO.nil ?_
 refine WX.sel [0, 2, 3, 4, 5, 6, 7, 8, 9, 13, 17] rfl ?_
 refine WX.next ?_
 refine WC.cond rfl (fun q81 => ?_) (fun q81 => ?_)
 have p81 : (risesF (x19) (x3)) = false := (bnot_t q81)
 refine WC.seq ?_
 refine WC.region ?_
 refine WO.v (R.assign rfl) rfl ?_
 refine WO.nil ?_
 refine WX.sel [0, 2, 3, 4, 5, 6, 7, 8, 9, 13, 17] rfl ?_
 refine WX.next ?_
 refine WC.ret ?_
 refine WX.blkRet ?_
 refine WX.thenRet ?_
 refine WX.blkRet ?_
 refine WX.thenRet ?_
 refine WX.loopRet ?_
 refine WX.blkRet ?_
 refine WX.thenRet ?_
 have e0 : (5 : Int) = (mayT l) := by first | exact may_e1 hchk (by assumption) (by assumption) | exact may_e5 hchk (by assumption) (by assumption) (by omega) (by assumption) (by assumption) | exact may_e4 hchk (by assumption) (by assumption) (by first | exact .inl (by omega) | exact .inr ⟨_, by assumption, by assumption⟩) (by omega) | exact may_end4 hchk (by omega) (by omega) | exact may_end0 hchk (by omega) (by omega)
 refine WX.ret1 Try.results59 rfl ?_
 exact ⟨by rw [e0], Kp.of_below b67⟩
 have p81 : (risesF (x19) (x3)) = true := (bnot_f q81)
 refine WC.seq ?_
 refine WC.region ?_
 refine WO.v (fa37_3 rfl) rfl ?_
 have B82 := ((B14).kp0 k15).kp0 k67
 refine WO.v (R.loadB rfl B82 rfl Try.underlying27 rfl) rfl ?_
 refine WO.v (R.len rfl Try.underlying27) rfl ?_
 refine WO.v (R.gtr rfl rfl) rfl ?_
 refine WO.v (R.assign rfl) rfl ?_
 refine WO.nil ?_
 refine WX.sel [0, 2, 3, 4, 5, 6, 7, 8, 9, 13, 17, 30] rfl ?_
 refine WX.next ?_
 refine WC.cond rfl (fun q83 => ?_) (fun q83 => ?_)
 have p83 : (16384 : Int) < ((x3.b.length : Nat) : Int) := of_decide_eq_true q83
 refine WC.seq ?_
 refine WC.region ?_
 refine WO.v (R.assign rfl) rfl ?_
 refine WO.nil ?_
 refine WX.sel [0, 2, 3, 4, 5, 6, 7, 8, 9, 13, 17, 30] rfl ?_
 refine WX.next ?_
 refine WC.ret ?_
 refine WX.blkRet ?_
 refine WX.thenRet ?_
 refine WX.blkRet ?_
 refine WX.thenRet ?_
 refine WX.loopRet ?_
 refine WX.blkRet ?_
 refine WX.thenRet ?_
 have e0 : (4 : Int) = (mayT l) := by first | exact may_e1 hchk (by assumption) (by assumption) | exact may_e5 hchk (by assumption) (by assumption) (by omega) (by assumption) (by assumption) | exact may_e4 hchk (by assumption) (by assumption) (by first | exact .inl (by omega) | exact .inr ⟨_, by assumption, by assumption⟩) (by omega) | exact may_end4 hchk (by omega) (by omega) | exact may_end0 hchk (by omega) (by omega)
 refine WX.ret1 Try.results59 rfl ?_
 exact ⟨by rw [e0], Kp.of_below b67⟩
 have p83 : ¬ ((16384 : Int) < ((x3.b.length : Nat) : Int)) := of_decide_eq_false q83
 refine WC.skip ?_
 refine WX.blkNormal ?_
 refine WX.next ?_
 refine WC.region ?_
 refine WO.v (R.move rfl) rfl ?_
 refine WO.v (R.loadBN (vs := [_, _, _, _]) rfl B82 rfl Try.underlying37 rfl sz37) rfl ?_
 refine WO.c (E.call rfl rfl Try.func60 rfl rfl) (putf_s (f := x3) (Field.mk_ (i7) (i8) (i9) ((sl_kp0 (sl_kp0 (sl_kp (sl_kp0 (s12) n13.kp (by omega)) k14 (by omega) (mem1 (by omega))) k15 (by omega)) k67 (by omega)).mono (lo' := 0) (hi' := w67.heap.size) (Nat.zero_le _) (by omega))) (by omega)) rfl ?_
 rintro _ w84 ⟨a85, c86, rfl, s87, k84⟩
 have ls87 : (fieldB (x3)).length * 1 ≤ 140737488355328 := s87.lenle
 have z84 := k84.size
 have b84 := old_kp0 b67 k84
 have y84 := b84.size
 have := fieldB_len (f := (x3)) (by omega) (by omega)
 refine WO.v (R.len rfl Try.underlying27) rfl ?_
 refine WO.v (R.addN (a := (sumT (l.take k))) (b := (fieldB (x3)).length) rfl rfl (by omega)) rfl ?_
 refine WO.v (R.assign rfl) rfl ?_
 refine WO.nil ?_
 refine WX.sel [0, 2, 3, 4, 5, 6, 7, 8, 9, 13, 17, 30] rfl ?_
 refine WX.blkNormal ?_
 refine WX.next ?_
 refine WC.region ?_
 refine WO.v (R.inc rfl (by omega)) rfl ?_
 refine WO.v (R.move rfl) rfl ?_
 refine WO.nil ?_
 refine WX.sel [0, 2, 3, 4, 5, 6, 7, 8, 9, 13, 17, 30] rfl ?_
 exact WX.loopNextK [0, 2, 6, 7] (k + 1) rfl ⟨⟨_, rfl, rfl⟩, ⟨_, rfl, vi (by rw [sum_next hx3])⟩, trivial⟩ ⟨((((((Kp.refl _).step k1 (by simp)).step n13.kp (by simp)).step k14 (mem1 (.inr (by omega)))).step k15 (by simp)).step k67 (by simp)).step k84 (by simp), by omega, chk_next hchk hx3 (by assumption) (by first | exact .inl (by omega) | exact .inr ⟨_, by assumption, by assumption⟩) (by omega), (by have h1 := sum_next hx3; have h2 := fieldB_len (f := x3) (by omega) (by assumption); show sumT (l.take (k + 1)) ≤ (k + 1) * 16404; omega)⟩ (by show (l.length - (k + 1)) < (l.length - k); omega)
 have phb17 : ¬ ((0 : Int) < ((k : Nat) : Int)) := of_decide_eq_false hb17
 refine WC.draw' mixed_orders [.ex [] (.int .i64 ((k : Nat) : Int)), .ex [0] (.bool (decide ((0 : Int) < ((k : Nat) : Int)))), .ex [1] (.bool false), .ex [2] undef, .ex [2] undef, .ex [2] undef, .ex [2] undef, .ex [2] undef, .ex [2] undef, .ex [2] undef, .ex [2] undef, .ex [2] (.bool false), .ex [11] (.bool false)] 13 (by kernel_rfl) ⟨fun _ _ _ h _ => h, fun _ _ _ h _ => h, fun _ _ _ h _ => h, fun _ _ _ h _ => h, fun _ _ _ h _ => h, fun _ _ _ h _ => h, fun _ _ _ h _ => h, fun _ _ _ h _ => h, fun _ _ _ h _ => h, fun _ _ _ h _ => h, fun _ _ _ h _ => h, fun _ _ _ h _ => h, fun _ _ _ h _ => h, trivial⟩ ⟨?_, ?_, ?_, ?_, ?_, ?_, ?_, ?_, ?_, ?_, ?_, ?_, ?_, trivial⟩ ?_
 rintro vs w88 k88 ⟨-⟩
 replace k88 : Kp [] w15 w88 := k88
 refine WO.haves (fr' := [(4, _)]) ⟨⟨_, rfl, rfl⟩, trivial⟩ ?_
 refine WO.v (R.move rfl) rfl ?_
 refine WO.nil ?_
 exact WX.stepDone rfl rfl (Kp.refl _)
 rintro vs w89 k89 ⟨e90, -⟩
 replace k89 : Kp [] w15 w89 := k89
 refine WO.haves (fr' := [(18, _)]) ⟨⟨_, rfl, e90⟩, trivial⟩ ?_
 refine WO.v (R.gtr rfl rfl) rfl ?_
 refine WO.nil ?_
 exact WX.stepDone rfl rfl (Kp.refl _)
 rintro vs w91 k91 ⟨e92, -⟩
 replace k91 : Kp [] w15 w91 := k91
 refine WO.haves (fr' := [(19, _)]) ⟨⟨_, rfl, e92⟩, trivial⟩ ?_
 refine WO.v (R.move rfl) rfl ?_
 refine WO.nil ?_
 exact WX.stepDone rfl (vb hb17) (Kp.refl _)
 rintro vs w93 k93 ⟨e94, -⟩
 replace k93 : Kp [] w15 w93 := k93
 refine WO.haves (fr' := [(20, _), (0, _)]) ⟨⟨_, rfl, e94⟩, ⟨_, rfl, rfl⟩, trivial⟩ ?_
 refine WO.off rfl rfl rfl rfl ?_
 refine WO.nil ?_
 exact WX.stepDone rfl rfl (Kp.refl _)
 rintro vs w95 k95 ⟨e96, -⟩
 replace k95 : Kp [] w15 w95 := k95
 refine WO.haves (fr' := [(20, _), (4, _)]) ⟨⟨_, rfl, e96⟩, ⟨_, rfl, rfl⟩, trivial⟩ ?_
 refine WO.off rfl rfl rfl rfl ?_
 refine WO.nil ?_
 exact WX.stepDone rfl rfl (Kp.refl _)
 rintro vs w97 k97 ⟨e98, -⟩
 replace k97 : Kp [] w15 w97 := k97
 refine WO.haves (fr' := [(20, _)]) ⟨⟨_, rfl, e98⟩, trivial⟩ ?_
 refine WO.off rfl rfl rfl rfl ?_
 refine WO.nil ?_
 exact WX.stepDone rfl rfl (Kp.refl _)
 rintro vs w99 k99 ⟨e100, -⟩
 replace k99 : Kp [] w15 w99 := k99
 refine WO.haves (fr' := [(20, _)]) ⟨⟨_, rfl, e100⟩, trivial⟩ ?_
 refine WO.off rfl rfl rfl rfl ?_
 refine WO.nil ?_
 exact WX.stepDone rfl rfl (Kp.refl _)
 rintro vs w101 k101 ⟨e102, -⟩
 replace k101 : Kp [] w15 w101 := k101
 refine WO.haves (fr' := [(20, _)]) ⟨⟨_, rfl, e102⟩, trivial⟩ ?_
 refine WO.off rfl rfl rfl rfl ?_
 refine WO.nil ?_
 exact WX.stepDone rfl rfl (Kp.refl _)
 rintro vs w103 k103 ⟨e104, -⟩
 replace k103 : Kp [] w15 w103 := k103
 refine WO.haves (fr' := [(20, _), (5, _)]) ⟨⟨_, rfl, e104⟩, ⟨_, rfl, rfl⟩, trivial⟩ ?_
 refine WO.off rfl rfl rfl rfl ?_
 refine WO.nil ?_
 exact WX.stepDone rfl rfl (Kp.refl _)
 rintro vs w105 k105 ⟨e106, -⟩
 replace k105 : Kp [] w15 w105 := k105
 refine WO.haves (fr' := [(20, _)]) ⟨⟨_, rfl, e106⟩, trivial⟩ ?_
 refine WO.off rfl rfl rfl rfl ?_
 refine WO.nil ?_
 exact WX.stepDone rfl rfl (Kp.refl _)
 rintro vs w107 k107 ⟨e108, -⟩
 replace k107 : Kp [] w15 w107 := k107
 refine WO.haves (fr' := [(20, _)]) ⟨⟨_, rfl, e108⟩, trivial⟩ ?_
 refine WO.off rfl rfl rfl rfl ?_
 refine WO.nil ?_
 exact WX.stepDone rfl rfl (Kp.refl _)
 rintro vs w109 k109 ⟨e110, -⟩
 replace k109 : Kp [] w15 w109 := k109
 refine WO.haves (fr' := [(20, _)]) ⟨⟨_, rfl, e110⟩, trivial⟩ ?_
 refine WO.v (R.pickF rfl rfl rfl) rfl ?_
 refine WO.nil ?_
 exact WX.stepDone rfl rfl (Kp.refl _)
 rintro vs w111 k111 ⟨e112, -⟩
 replace k111 : Kp [] w15 w111 := k111
 have z111 := k111.size
 have b111 := old_kp0 b15 k111
 have y111 := b111.size
 refine WO.haves (fr' := [(29, _)]) ⟨⟨_, rfl, e112⟩, trivial⟩ ?_
 refine WO.v (R.assign rfl) rfl ?_
 refine WO.nil ?_
 exact WX.stepDone rfl rfl (Kp.refl _)
 rintro vs w113 k113 ⟨-, -, -, -, -, -, -, -, -, -, -, -, e126, -⟩
 replace k113 : Kp [] w15 w113 := k113
 have z113 := k113.size
 have b113 := old_kp0 b15 k113
 have y113 := b113.size
 refine WO.haves (fr' := [(17, _), (0, _), (2, _), (3, _), (4, _), (5, _), (6, _), (7, _), (8, _), (9, _), (13, _)]) ⟨⟨_, rfl, e126⟩, ⟨_, rfl, rfl⟩, ⟨_, rfl, rfl⟩, ⟨_, rfl, rfl⟩, ⟨_, rfl, rfl⟩, ⟨_, rfl, rfl⟩, ⟨_, rfl, rfl⟩, ⟨_, rfl, rfl⟩, ⟨_, rfl, rfl⟩, ⟨_, rfl, rfl⟩, ⟨_, rfl, rfl⟩, trivial⟩ ?_
 refine WO.nil ?_
 refine WX.sel [0, 2, 3, 4, 5, 6, 7, 8, 9, 13, 17] rfl ?_
 refine WX.next ?_
 refine WC.condF rfl ?_
 refine WC.seq ?_
 refine WC.region ?_
 refine WO.v (fa37_3 rfl) rfl ?_
 have B127 := ((B14).kp0 k15).kp0 k113
 refine WO.v (R.loadB rfl B127 rfl Try.underlying27 rfl) rfl ?_
 refine WO.v (R.len rfl Try.underlying27) rfl ?_
 refine WO.v (R.gtr rfl rfl) rfl ?_
 refine WO.v (R.assign rfl) rfl ?_
 refine WO.nil ?_
 refine WX.sel [0, 2, 3, 4, 5, 6, 7, 8, 9, 13, 17, 30] rfl ?_
 refine WX.next ?_
 refine WC.cond rfl (fun q128 => ?_) (fun q128 => ?_)
 have p128 : (16384 : Int) < ((x3.b.length : Nat) : Int) := of_decide_eq_true q128
 refine WC.seq ?_
 refine WC.region ?_
 refine WO.v (R.assign rfl) rfl ?_
 refine WO.nil ?_
 refine WX.sel [0, 2, 3, 4, 5, 6, 7, 8, 9, 13, 17, 30] rfl ?_
 refine WX.next ?_
 refine WC.ret ?_
 refine WX.blkRet ?_
 refine WX.thenRet ?_
 refine WX.blkRet ?_
 refine WX.thenRet ?_
 refine WX.loopRet ?_
 refine WX.blkRet ?_
 refine WX.thenRet ?_
 have e0 : (4 : Int) = (mayT l) := by first | exact may_e1 hchk (by assumption) (by assumption) | exact may_e5 hchk (by assumption) (by assumption) (by omega) (by assumption) (by assumption) | exact may_e4 hchk (by assumption) (by assumption) (by first | exact .inl (by omega) | exact .inr ⟨_, by assumption, by assumption⟩) (by omega) | exact may_end4 hchk (by omega) (by omega) | exact may_end0 hchk (by omega) (by omega)
 refine WX.ret1 Try.results59 rfl ?_
 exact ⟨by rw [e0], Kp.of_below b113⟩
 have p128 : ¬ ((16384 : Int) < ((x3.b.length : Nat) : Int)) := of_decide_eq_false q128
 refine WC.skip ?_
 refine WX.blkNormal ?_
 refine WX.next ?_
 refine WC.region ?_
 refine WO.v (R.move rfl) rfl ?_
 refine WO.v (R.loadBN (vs := [_, _, _, _]) rfl B127 rfl Try.underlying37 rfl sz37) rfl ?_
 refine WO.c (E.call rfl rfl Try.func60 rfl rfl) (putf_s (f := x3) (Field.mk_ (i7) (i8) (i9) ((sl_kp0 (sl_kp0 (sl_kp (sl_kp0 (s12) n13.kp (by omega)) k14 (by omega) (mem1 (by omega))) k15 (by omega)) k113 (by omega)).mono (lo' := 0) (hi' := w113.heap.size) (Nat.zero_le _) (by omega))) (by omega)) rfl ?_
 rintro _ w129 ⟨a130, c131, rfl, s132, k129⟩
 have ls132 : (fieldB (x3)).length * 1 ≤ 140737488355328 := s132.lenle
 have z129 := k129.size
 have b129 := old_kp0 b113 k129
 have y129 := b129.size
 have := fieldB_len (f := (x3)) (by omega) (by omega)
 refine WO.v (R.len rfl Try.underlying27) rfl ?_
 refine WO.v (R.addN (a := (sumT (l.take k))) (b := (fieldB (x3)).length) rfl rfl (by omega)) rfl ?_
 refine WO.v (R.assign rfl) rfl ?_
 refine WO.nil ?_
 refine WX.sel [0, 2, 3, 4, 5, 6, 7, 8, 9, 13, 17, 30] rfl ?_
 refine WX.blkNormal ?_
 refine WX.next ?_
 refine WC.region ?_
 refine WO.v (R.inc rfl (by omega)) rfl ?_
 refine WO.v (R.move rfl) rfl ?_
 refine WO.nil ?_
 refine WX.sel [0, 2, 3, 4, 5, 6, 7, 8, 9, 13, 17, 30] rfl ?_
 exact WX.loopNextK [0, 2, 6, 7] (k + 1) rfl ⟨⟨_, rfl, rfl⟩, ⟨_, rfl, vi (by rw [sum_next hx3])⟩, trivial⟩ ⟨((((((Kp.refl _).step k1 (by simp)).step n13.kp (by simp)).step k14 (mem1 (.inr (by omega)))).step k15 (by simp)).step k113 (by simp)).step k129 (by simp), by omega, chk_next hchk hx3 (by assumption) (by first | exact .inl (by omega) | exact .inr ⟨_, by assumption, by assumption⟩) (by omega), (by have h1 := sum_next hx3; have h2 := fieldB_len (f := x3) (by omega) (by assumption); show sumT (l.take (k + 1)) ≤ (k + 1) * 16404; omega)⟩ (by show (l.length - (k + 1)) < (l.length - k); omega)
 have p2 : ¬ (((k : Nat) : Int) < ((l.length : Nat) : Int)) := of_decide_eq_false q2
 refine WC.exit ?_
 refine WX.thenExit ?_
 refine WX.loopExit ?_
 refine WX.blkHit ?_
 refine WX.next ?_
 refine WC.seq ?_
 refine WC.seq ?_
 refine WC.region ?_
 refine WO.v (R.move rfl) rfl ?_
 refine WO.v (R.gtr rfl rfl) rfl ?_
 refine WO.nil ?_
 refine WX.sel [0, 2, 3, 6, 7, 8, 9, 42] rfl ?_
 refine WX.next ?_
 refine WC.cond rfl (fun q133 => ?_) (fun q133 => ?_)
 have p133 : (16384 : Int) < (((sumT (l.take k)) : Nat) : Int) := of_decide_eq_true q133
 refine WC.seq ?_
 refine WC.region ?_
 refine WO.v (R.assign rfl) rfl ?_
 refine WO.nil ?_
 refine WX.sel [0, 2, 3, 6, 7, 8, 9, 42] rfl ?_
 refine WX.next ?_
 refine WC.ret ?_
 refine WX.thenRet ?_
 have e0 : (4 : Int) = (mayT l) := by first | exact may_e1 hchk (by assumption) (by assumption) | exact may_e5 hchk (by assumption) (by assumption) (by omega) (by assumption) (by assumption) | exact may_e4 hchk (by assumption) (by assumption) (by first | exact .inl (by omega) | exact .inr ⟨_, by assumption, by assumption⟩) (by omega) | exact may_end4 hchk (by omega) (by omega) | exact may_end0 hchk (by omega) (by omega)
 refine WX.ret1 Try.results59 rfl ?_
 exact ⟨by rw [e0], Kp.of_below b1⟩
 have p133 : ¬ ((16384 : Int) < (((sumT (l.take k)) : Nat) : Int)) := of_decide_eq_false q133
 refine WC.skip ?_
 refine WX.next ?_
 refine WC.seq ?_
 refine WC.region ?_
 refine WO.v (R.assign rfl) rfl ?_
 refine WO.nil ?_
 refine WX.sel [0, 2, 3, 6, 7, 8, 9, 42] rfl ?_
 refine WX.next ?_
 refine WC.ret ?_
 have e0 : (0 : Int) = (mayT l) := by first | exact may_e1 hchk (by assumption) (by assumption) | exact may_e5 hchk (by assumption) (by assumption) (by omega) (by assumption) (by assumption) | exact may_e4 hchk (by assumption) (by assumption) (by first | exact .inl (by omega) | exact .inr ⟨_, by assumption, by assumption⟩) (by omega) | exact may_end4 hchk (by omega) (by omega) | exact may_end0 hchk (by omega) (by omega)
 refine WX.ret1 Try.results59 rfl ?_
 exact ⟨by rw [e0], Kp.of_below b1⟩

set_option maxRecDepth 100000 in
set_option maxHeartbeats 400000 in
theorem putT_s {w : World} {a_l : Option Addr} {c_l : Nat} {l : List Field} (h_l : Sl false 0 w.heap.size w (.slice a_l l.length c_l) l) :
    Ret Try.prog 35 [.slice a_l l.length c_l].toArray w fun r w' => ∃ (ra0 : Option Addr) (rc0 : Nat), r = .tuple #[.slice ra0 (putTF l).length rc0, .int .i64 (mayT l)] ∧ Ac w.heap.size true w.heap.size w'.heap.size w'.heap.size w' (.slice ra0 (putTF l).length rc0) (putTF l) ∧ Kp [] w w' := by
 have len_l : (l).length * 48 ≤ 140737488355328 := h_l.lenle
 refine Ret.enter Try.func35 rfl Try.ntmps35 rfl rfl ?_
 refine WC.sel [0] rfl ?_
 refine WC.seq ?_
 refine WC.region ?_
 refine WO.v (R.assign rfl) rfl ?_
 refine WO.v (R.assign rfl) rfl ?_
 refine WO.nil ?_
 refine WX.sel [0, 2, 3] rfl ?_
 refine WX.next ?_
 refine WC.seq ?_
 refine WC.seq ?_
 refine WC.region ?_
 refine WO.v (R.move rfl) rfl ?_
 refine WO.c (E.call rfl rfl Try.func59 rfl rfl) (mayT_s (l := l) (a_l := a_l) (c_l := c_l) ((h_l).mono (lo' := 0) (hi' := w.heap.size) (Nat.zero_le _) (by omega))) rfl ?_
 rintro _ w1 ⟨rfl, k1⟩
 have z1 := k1.size
 have b1 := old_kp0 (Below.refl w.heap.size w) k1
 have y1 := b1.size
 refine WO.v (R.assign rfl) rfl ?_
 refine WO.nil ?_
 refine WX.sel [0, 2, 3, 4] rfl ?_
 refine WX.next ?_
 refine WC.seq ?_
 refine WC.region ?_
 refine WO.v (R.move rfl) rfl ?_
 refine WO.v (R.neq rfl rfl) rfl ?_
 refine WO.nil ?_
 refine WX.sel [0, 2, 3, 4, 11] rfl ?_
 refine WX.next ?_
 refine WC.cond rfl (fun q2 => ?_) (fun q2 => ?_)
 have p2 : ¬ (mayT (l) = (0 : Int)) := of_decide_eq_false (bnot_t q2)
 refine WC.seq ?_
 refine WC.region ?_
 refine WO.v (R.move rfl) rfl ?_
 refine WO.v (R.assign rfl) rfl ?_
 refine WO.v (R.assign rfl) rfl ?_
 refine WO.nil ?_
 refine WX.sel [0, 2, 3, 4, 11] rfl ?_
 refine WX.next ?_
 refine WC.ret ?_
 refine WX.thenRet ?_
 have e0 : ([] : List UInt8) = (putTF l) := by first | exact put_yes (by omega) (by omega) | exact put_no (by omega)
 have n0 : 0 = (putTF l).length := by rw [← e0]; simp only [List.length_nil]
 have f0 : Ac (α := UInt8) w.heap.size true w.heap.size w1.heap.size w1.heap.size w1 (.slice none 0 0) ([] : List UInt8) := Ac.empty _ _ _ _ _ _ _
 have e1 : mayT (l) = (mayT l) := by first | rfl | omega
 refine WX.ret2 Try.results35 rfl rfl ?_
 exact ⟨none, 0, by rw [n0, e1], (acl_n f0 e0 n0), Kp.of_below b1⟩
 have p2 : mayT (l) = (0 : Int) := of_decide_eq_true (bnot_f q2)
 refine WC.skip ?_
 refine WX.next ?_
 refine WC.seq ?_
 refine WC.region ?_
 refine WO.v (R.assign rfl) rfl ?_
 refine WO.nil ?_
 refine WX.sel [0, 2, 3, 4, 5, 11] rfl ?_
 refine WX.next ?_
 refine WC.seq ?_
 refine WC.seq ?_
 refine WC.region ?_
 refine WO.v (R.move rfl) rfl ?_
 refine WO.v (R.len rfl Try.underlying25) rfl ?_
 refine WO.v (R.move rfl) rfl ?_
 refine WO.nil ?_
 refine WX.sel [0, 2, 3, 4, 5, 11, 13, 14, 15] rfl ?_
 refine WX.next ?_
 refine WC.block ?_
 refine WC.loopK [0, 2, 3, 4, 11, 13, 14] rfl (fun zz : Nat × Option Addr × Nat => [(15, (.int .i64 (((zz.1) : Nat) : Int))), (5, (.slice (zz.2.1) (((l.take (zz.1)).map fieldB).flatten).length (zz.2.2)))]) (fun (zz : Nat × Option Addr × Nat) (w' : World) => (Kp [] w1 w') ∧ ((zz.1) ≤ l.length) ∧ (Ac (α := UInt8) (w1.heap.size) true (w.heap.size) (w'.heap.size) w'.heap.size w' (.slice (zz.2.1) (((l.take (zz.1)).map fieldB).flatten).length (zz.2.2)) (((l.take (zz.1)).map fieldB).flatten))) (fun zz => l.length - (zz.1)) (0, none, 0) ?_ ?_ ?_
 exact ⟨⟨_, rfl, rfl⟩, ⟨_, rfl, rfl⟩, trivial⟩
 exact ⟨Kp.refl _, Nat.zero_le _, Ac.empty _ _ _ _ _ _ _⟩
 rintro ⟨k, aa0, ac0⟩ w3 ⟨k3, hk, hac2_0⟩
 try dsimp only at hk hac2_0
 have z3 := k3.size
 have b3 := old_kp0 b1 k3
 have y3 := b3.size
 refine (?_ : WC _ _ _ _ ([(15, (.int .i64 ((k : Nat) : Int))), (5, (.slice aa0 (((l.take k).map fieldB).flatten).length ac0))] ++ _) w3)
 have hmay : mayT l = 0 := (by omega)
 have : (((l.take k).map fieldB).flatten).length ≤ 16384 := by exact flat_len (by omega)
 have lenhac2_0 : (((l.take k).map fieldB).flatten).length * 1 ≤ 140737488355328 := hac2_0.lenle
 refine WC.seq ?_
 refine WC.region ?_
 refine WO.v (R.lss rfl rfl) rfl ?_
 refine WO.nil ?_
 refine WX.sel [0, 2, 3, 4, 5, 11, 13, 14, 15, 16] rfl ?_
 refine WX.next ?_
 refine WC.seq ?_
 refine WC.cond rfl (fun q4 => ?_) (fun q4 => ?_)
 have p4 : ((k : Nat) : Int) < ((l.length : Nat) : Int) := of_decide_eq_true q4
 refine WC.skip ?_
 refine WX.next ?_
 refine WC.seq ?_
 refine WC.block ?_
 refine WC.seq ?_
 refine WC.region ?_
 obtain ⟨x5, hx5⟩ := get_ex (xs := l) (i := k) (by omega)
 have := may_len (show mayT l = 0 by omega) (List.mem_of_getElem? hx5)
 obtain ⟨A6, cs7, hA6, loA6, hiA6, ccA6, r8⟩ := (sl_old h_l b3).at_ hx5
 obtain ⟨a12, c13, rfl, i9, i10, i11, s14⟩ := Field.el r8
 have ls14 : (x5.b).length * 1 ≤ 140737488355328 := s14.lenle
 refine WO.v (R.indexAddrN rfl rfl Try.underlying25 sz37 hA6 (by omega)) rfl ?_
 refine WO.v (R.loadN (cs := [_, _, _, _]) rfl Try.underlying37 rfl sz37 ccA6) rfl ?_
 refine WO.alloc zr37 rfl ?_
 intro w15 n15
 have z15 := n15.lt
 have b15 := old_kp0 b3 n15.kp
 have y15 := b15.size
 refine WO.storeBN rfl rfl n15.blk rfl (by simp [Value.oneCell']) sz37 ?_
 intro w16 k16 B16 z_16
 have z16 := z_16.symm
 have b16 := old_kp b15 k16 (mem1 (by omega))
 have y16 := b16.size
 refine WO.nil ?_
 refine WX.sel [0, 2, 3, 4, 5, 7, 11, 13, 14, 15, 16] rfl ?_
 refine WX.next ?_
 refine WC.region ?_
 refine WO.v (R.move rfl) rfl ?_
 refine WO.v (R.loadBN (vs := [_, _, _, _]) rfl B16 rfl Try.underlying37 rfl sz37) rfl ?_
 refine WO.c (E.call rfl rfl Try.func60 rfl rfl) (putf_s (f := x5) (Field.mk_ (i9) (i10) (i11) ((sl_kp (sl_kp0 (s14) n15.kp (by omega)) k16 (by omega) (mem1 (by omega))).mono (lo' := 0) (hi' := w16.heap.size) (Nat.zero_le _) (by omega))) (by omega)) rfl ?_
 rintro _ w17 ⟨a18, c19, rfl, s20, k17⟩
 have ls20 : (fieldB (x5)).length * 1 ≤ 140737488355328 := s20.lenle
 have z17 := k17.size
 have b17 := old_kp0 b16 k17
 have y17 := b17.size
 have := fieldB_len (f := (x5)) (by omega) (by omega)
 have ac26 : Ac (α := UInt8) (w1.heap.size) true (w.heap.size) (w17.heap.size) (w3.heap.size) w17 (.slice aa0 (((l.take k).map fieldB).flatten).length ac0) (((l.take k).map fieldB).flatten) := (ac_kp0 (ac_kpF (ac_kp0 (hac2_0) n15.kp (by omega) (by omega)) k16 (by omega) (by omega) (mem1 (by omega)) rfl) k17 (by omega) (by omega)).mono (Nat.le_refl _) (Nat.le_refl _) (by omega) (Nat.le_refl _)
 have bd21 := ac26.bd
 have ty27 := ac26.ty
 have lenac26 : ((((l.take k).map fieldB).flatten)).length * 1 ≤ 140737488355328 := ac26.lenle
 have lxac26 : ((((l.take k).map fieldB).flatten) ++ (fieldB (x5))).length = (((l.take k).map fieldB).flatten).length + (fieldB (x5)).length := List.length_append
 refine WO.append rfl ac26 (by omega) (by omega) (by omega) rfl rfl (ys := (fieldB (x5))) (Src.flat (((s20).pub (L := 0) (H := w17.heap.size) (by omega) (by omega) (by omega) (by omega))) (fun h => h)) (.inl rfl) Try.underlying27 inf5 rfl rfl rfl (by decide) (by omega) (by omega) rfl ?_
 intro a23 c24 w22 h25 k22 or28
 have z22 := k22.size
 have b22 := old_kp b17 k22 (fun g hg => by have := bd21 g hg; omega)
 have y22 := b22.size
 refine WO.v (R.assign rfl) rfl ?_
 refine WO.nil ?_
 refine WX.sel [0, 2, 3, 4, 5, 7, 11, 13, 14, 15, 16] rfl ?_
 refine WX.blkNormal ?_
 refine WX.next ?_
 refine WC.region ?_
 refine WO.v (R.inc rfl (by omega)) rfl ?_
 refine WO.v (R.move rfl) rfl ?_
 refine WO.nil ?_
 refine WX.sel [0, 2, 3, 4, 5, 7, 11, 13, 14, 15, 16] rfl ?_
 have E29 : ((((l.take k).map fieldB).flatten) ++ (fieldB (x5))) = ((l.take (k + 1)).map fieldB).flatten := flat_next hx5
 have nE29 : ((((l.take k).map fieldB).flatten) ++ (fieldB (x5))).length = (((l.take (k + 1)).map fieldB).flatten).length := by rw [E29]
 exact WX.loopNextK [0, 2, 3, 4, 11, 13, 14] (k + 1, a23, c24) rfl ⟨⟨_, rfl, rfl⟩, ⟨_, rfl, vs_n nE29⟩, trivial⟩ ⟨(((((Kp.refl _).step k3 (by simp)).step n15.kp (by simp)).step k16 (mem1 (.inr (by omega)))).step k17 (by simp)).step k22 (fun g hg => .inr (by have := bd21 g hg; omega)), by omega, ac_n ((h25).mono (by omega) (by omega) (by omega) (by omega)) E29 nE29⟩ (by show (l.length - (k + 1)) < (l.length - k); omega)
 have p4 : ¬ (((k : Nat) : Int) < ((l.length : Nat) : Int)) := of_decide_eq_false q4
 refine WC.exit ?_
 refine WX.thenExit ?_
 refine WX.loopExit ?_
 refine WX.blkHit ?_
 refine WX.next ?_
 refine WC.seq ?_
 refine WC.region ?_
 refine WO.v (R.move rfl) rfl ?_
 refine WO.v (R.assign rfl) rfl ?_
 refine WO.v (R.assign rfl) rfl ?_
 refine WO.nil ?_
 refine WX.sel [0, 2, 3, 4, 5, 11, 13, 14, 15, 16] rfl ?_
 refine WX.next ?_
 refine WC.ret ?_
 have e0 : (((l.take k).map fieldB).flatten) = (putTF l) := by first | exact put_yes (by omega) (by omega) | exact put_no (by omega)
 have n0 : (((l.take k).map fieldB).flatten).length = (putTF l).length := by rw [e0]
 have f0 : Ac (α := UInt8) w.heap.size true w.heap.size w3.heap.size w3.heap.size w3 (.slice aa0 (((l.take k).map fieldB).flatten).length ac0) (((l.take k).map fieldB).flatten) := ((hac2_0).mono (by omega) (by omega) (by omega) (by omega))
 have e1 : (0 : Int) = (mayT l) := by first | rfl | omega
 refine WX.ret2 Try.results35 rfl rfl ?_
 exact ⟨aa0, ac0, by rw [n0, e1], (acl_n f0 e0 n0), Kp.of_below b3⟩


end Go.Proofs.Ytfmlgeeogbhppaa
