/- Contracts of functions, walked operation by operation. -/
import Derived.Test.YtfmlgeeogbhppaaE9
namespace Go.Proofs.Ytfmlgeeogbhppaa
open Go.RowKit

def at04 (v : Int) (s : Spec) : Bool := (decide ((1 : Int) ≤ v) && decide (v ≤ (3 : Int))) && decide (s.since ≤ v)
theorem f04_yes {v : Int} {k : Nat} {x : Spec} (hx : specsL[k]? = some x) (h : (1 ≤ v ∧ v ≤ 3) ∧ x.since ≤ v) : (specsL.take k).filter (at04 v) ++ [x] = (specsL.take (k + 1)).filter (at04 v) := by
  rw [take_succ_get hx, List.filter_append]; simp [at04, h]
theorem f04_no {v : Int} {k : Nat} {x : Spec} (hx : specsL[k]? = some x) (h : ¬ ((1 ≤ v ∧ v ≤ 3) ∧ x.since ≤ v)) : (specsL.take k).filter (at04 v) = (specsL.take (k + 1)).filter (at04 v) := by
  have e : at04 v x = false := by rw [← Bool.not_eq_true]; intro h2; simp only [at04, Bool.and_eq_true, decide_eq_true_eq] at h2; exact h h2
  rw [take_succ_get hx, List.filter_append]; simp [e]
theorem f04_end {v : Int} {k : Nat} (hk : specsL.length ≤ k) : (specsL.take k).filter (at04 v) = specsF v := by
  rw [List.take_of_length_le hk, specsF]
  split
  · rw [List.filter_eq_nil_iff]; intro a _ h2; simp only [at04, Bool.and_eq_true, decide_eq_true_eq] at h2; omega
  · refine List.filter_congr fun a _ => ?_
    rw [Bool.eq_iff_iff]; simp only [at04, Bool.and_eq_true, decide_eq_true_eq]; omega
theorem f04_len {v : Int} {k : Nat} : ((specsL.take k).filter (at04 v)).length ≤ 8 := by
  have h1 := List.length_filter_le (at04 v) (specsL.take k)
  have h2 : (specsL.take k).length ≤ 8 := by rw [List.length_take]; exact Nat.le_trans (Nat.min_le_right _ _) (by decide)
  omega

theorem fe83_0 {n : Nat} {fr : Fr} {w : World} {ty : TypeId} {x : Operand} {a : Addr} (hx : ev fr x = some (.pointer (some a))) : Runs Try.prog n fr w (.fieldAddr 83 x 0) ty (.pointer (some (a.add 0))) w := R.fieldAddr hx Try.underlying83 rfl rfl sz3
theorem fe83_2 {n : Nat} {fr : Fr} {w : World} {ty : TypeId} {x : Operand} {a : Addr} (hx : ev fr x = some (.pointer (some a))) : Runs Try.prog n fr w (.fieldAddr 83 x 2) ty (.pointer (some (a.add 2))) w := R.fieldAddr hx Try.underlying83 rfl rfl sz3

set_option maxRecDepth 100000 in
set_option maxHeartbeats 400000 in
theorem specs04_s {w : World} (v : Int)  :
    Ret Try.prog 63 [.int .i64 1, .int .i64 v].toArray w fun r w' => ∃ (ra0 : Option Addr) (rc0 : Nat), r = .slice ra0 (specsF v).length rc0 ∧ Ac w.heap.size true w.heap.size w'.heap.size w'.heap.size w' (.slice ra0 (specsF v).length rc0) (specsF v) ∧ Kp [] w w' := by
 have hsl : specsL.length = 8 := rfl
 refine Ret.enter Try.func63 rfl Try.ntmps63 rfl rfl ?_
 refine WC.sel [0, 1] rfl ?_
 refine WC.seq ?_
 refine WC.region ?_
 refine WO.v (R.assign rfl) rfl ?_
 refine WO.nil ?_
 refine WX.sel [0, 1, 4] rfl ?_
 refine WX.next ?_
 refine WC.seq ?_
 refine WC.region ?_
 refine WO.buildSlice (parts := []) (vss := []) Try.underlying80 sz83 zr83 rfl rfl (by simp) rfl rfl rfl ?_
 intro w1 n1
 have z1 := n1.lt
 have b1 := old_kp0 (Below.refl w.heap.size w) n1.kp
 have y1 := b1.size
 have ac2 : Ac (α := Spec) (w.heap.size) true (w.heap.size) (w1.heap.size) (w1.heap.size) w1 (.slice (some ⟨w.heap.size, 0, none⟩) 0 0) ([] : List Spec) := Ac.lit (α := Spec) (ys := ([] : List Spec)) (css := []) n1.blk (.nil) (by omega) (by omega) (by simp [maxLen]) (by show 0 * 32 ≤ 140737488355328; decide) rfl
 have lenac2 : ([] : List Spec).length = 0 := rfl
 refine WO.v (R.assign rfl) rfl ?_
 refine WO.nil ?_
 refine WX.sel [0, 1, 4, 5] rfl ?_
 refine WX.next ?_
 refine WC.seq ?_
 refine WC.region ?_
 refine WO.v (R.move rfl) rfl ?_
 refine WO.c (E.call rfl rfl Try.func84 rfl rfl) (all04_s  ) rfl ?_
 rintro _ w3 ⟨a4, c5, rfl, s6, k3⟩
 have ls6 : (specsL).length * 32 ≤ 140737488355328 := s6.lenle
 have z3 := k3.size
 have b3 := old_kp0 b1 k3
 have y3 := b3.size
 refine WO.v (R.assign rfl) rfl ?_
 refine WO.nil ?_
 refine WX.sel [0, 1, 4, 5, 6] rfl ?_
 refine WX.next ?_
 refine WC.seq ?_
 refine WC.seq ?_
 refine WC.region ?_
 refine WO.v (R.assign rfl) rfl ?_
 refine WO.nil ?_
 refine WX.sel [0, 1, 4, 5, 6, 7] rfl ?_
 refine WX.next ?_
 refine WC.block ?_
 refine WC.loopK [0, 1, 4, 6] rfl (fun zz : Nat × Option Addr × Nat => [(7, (.int .i64 (((zz.1) : Nat) : Int))), (5, (.slice (zz.2.1) ((specsL.take (zz.1)).filter (at04 v)).length (zz.2.2)))]) (fun (zz : Nat × Option Addr × Nat) (w' : World) => (Kp [] w3 w') ∧ ((zz.1) ≤ (specsL).length) ∧ (Ac (α := Spec) (w3.heap.size) true (w.heap.size) (w'.heap.size) w'.heap.size w' (.slice (zz.2.1) ((specsL.take (zz.1)).filter (at04 v)).length (zz.2.2)) ((specsL.take (zz.1)).filter (at04 v)))) (fun zz => (specsL).length - (zz.1)) (0, (some ⟨w.heap.size, 0, none⟩), 0) ?_ ?_ ?_
 exact ⟨⟨_, rfl, rfl⟩, ⟨_, rfl, rfl⟩, trivial⟩
 exact ⟨Kp.refl _, Nat.zero_le _, Ac.empty _ _ _ _ _ _ _⟩
 rintro ⟨k, aa0, ac0⟩ w7 ⟨k7, hk, hac6_0⟩
 try dsimp only at hk hac6_0
 have z7 := k7.size
 have b7 := old_kp0 b3 k7
 have y7 := b7.size
 refine (?_ : WC _ _ _ _ ([(7, (.int .i64 ((k : Nat) : Int))), (5, (.slice aa0 ((specsL.take k).filter (at04 v)).length ac0))] ++ _) w7)
 have : ((specsL.take k).filter (at04 v)).length ≤ 8 := by exact f04_len
 have lenhac6_0 : ((specsL.take k).filter (at04 v)).length * 32 ≤ 140737488355328 := hac6_0.lenle
 refine WC.seq ?_
 refine WC.seq ?_
 refine WC.region ?_
 refine WO.v (R.move rfl) rfl ?_
 refine WO.v (R.move rfl) rfl ?_
 refine WO.v (R.len rfl Try.underlying80) rfl ?_
 refine WO.v (R.lss rfl rfl) rfl ?_
 refine WO.nil ?_
 refine WX.sel [0, 1, 4, 5, 6, 7, 14] rfl ?_
 refine WX.next ?_
 refine WC.cond rfl (fun q8 => ?_) (fun q8 => ?_)
 have p8 : ((k : Nat) : Int) < (((specsL).length : Nat) : Int) := of_decide_eq_true q8
 refine WC.skip ?_
 refine WX.next ?_
 refine WC.seq ?_
 refine WC.block ?_
 refine WC.seq ?_
 refine WC.region ?_
 refine WO.v (R.move rfl) rfl ?_
 refine WO.v (R.geq rfl rfl) rfl ?_
 refine WO.v (R.move rfl) rfl ?_
 refine WO.cutP 3 [(22, (.bool ((decide ((1 : Int) ≤ v)) && (decide (v ≤ (3 : Int))))))] (fun w' => w7 = w') ?_ ?_
 rcases Bool.eq_false_or_eq_true (decide ((1 : Int) ≤ v)) with hb9 | hb9
 have phb9 : (1 : Int) ≤ v := of_decide_eq_true hb9
 refine WO.on rfl rfl hb9 ?_
 refine WO.v (R.move rfl) rfl ?_
 refine WO.on rfl rfl hb9 ?_
 refine WO.v (R.leq rfl rfl) rfl ?_
 refine WO.v (R.pickT rfl hb9 rfl) rfl ?_
 refine WO.nil ?_
 exact WX.cutDoneP 3 rfl rfl ⟨⟨_, rfl, vb (band_on hb9)⟩, trivial⟩ (rfl)
 have phb9 : ¬ ((1 : Int) ≤ v) := of_decide_eq_false hb9
 refine WO.off rfl rfl hb9 rfl ?_
 refine WO.off rfl rfl hb9 rfl ?_
 refine WO.v (R.pickF rfl hb9 rfl) rfl ?_
 refine WO.nil ?_
 exact WX.cutDoneP 3 rfl rfl ⟨⟨_, rfl, vb (band_off hb9)⟩, trivial⟩ (rfl)
 rintro _ rfl
 refine WO.v (R.move rfl) rfl ?_
 obtain ⟨x11, hx11⟩ := get_ex (xs := (specsL)) (i := k) (by omega)
 refine WO.cutP 8 [(31, (.bool (((decide ((1 : Int) ≤ v)) && (decide (v ≤ (3 : Int)))) && (decide (x11.since ≤ v)))))] (fun w' => w7 = w') ?_ ?_
 rcases Bool.eq_false_or_eq_true ((decide ((1 : Int) ≤ v)) && (decide (v ≤ (3 : Int)))) with hb12 | hb12
 have phb12 : ((1 : Int) ≤ v) ∧ (v ≤ (3 : Int)) := ⟨of_decide_eq_true (band_t hb12).1, of_decide_eq_true (band_t hb12).2⟩
 refine WO.on rfl rfl hb12 ?_
 refine WO.v (R.move rfl) rfl ?_
 refine WO.on rfl rfl hb12 ?_
 refine WO.v (R.move rfl) rfl ?_
 refine WO.on rfl rfl hb12 ?_
 obtain ⟨A14, cs15, hA14, loA14, hiA14, ccA14, r16⟩ := (sl_kp0 (s6) k7 (by omega)).at_ hx11
 obtain ⟨rfl, i17, i18, i19⟩ := Spec.el r16
 refine WO.v (R.indexAddrN rfl rfl Try.underlying80 sz83 hA14 (by omega)) rfl ?_
 refine WO.on rfl rfl hb12 ?_
 refine WO.v (fe83_2 rfl) rfl ?_
 refine WO.on rfl rfl hb12 ?_
 refine WO.v (R.load1 rfl Try.underlying3 rfl (ccA14.one (j := 2) rfl)) rfl ?_
 refine WO.on rfl rfl hb12 ?_
 refine WO.v (R.move rfl) rfl ?_
 refine WO.on rfl rfl hb12 ?_
 refine WO.v (R.leq rfl rfl) rfl ?_
 refine WO.v (R.pickT rfl hb12 rfl) rfl ?_
 refine WO.nil ?_
 exact WX.cutDoneP 8 rfl rfl ⟨⟨_, rfl, vb (band_on hb12)⟩, trivial⟩ (rfl)
 have phb12 : (¬ ((1 : Int) ≤ v)) ∨ (¬ (v ≤ (3 : Int))) := Or.imp (fun h => of_decide_eq_false h) (fun h => of_decide_eq_false h) (band_f hb12)
 refine WO.off rfl rfl hb12 rfl ?_
 refine WO.off rfl rfl hb12 rfl ?_
 refine WO.off rfl rfl hb12 rfl ?_
 refine WO.off rfl rfl hb12 rfl ?_
 refine WO.off rfl rfl hb12 rfl ?_
 refine WO.off rfl rfl hb12 rfl ?_
 refine WO.off rfl rfl hb12 rfl ?_
 refine WO.v (R.pickF rfl hb12 rfl) rfl ?_
 refine WO.nil ?_
 exact WX.cutDoneP 8 rfl rfl ⟨⟨_, rfl, vb (band_off hb12)⟩, trivial⟩ (rfl)
 rintro _ rfl
 refine WO.nil ?_
 refine WX.sel [0, 1, 4, 5, 6, 7, 14, 31] rfl ?_
 refine WX.next ?_
 refine WC.cond rfl (fun q20 => ?_) (fun q20 => ?_)
 have p20 : (((1 : Int) ≤ v) ∧ (v ≤ (3 : Int))) ∧ (x11.since ≤ v) := ⟨⟨of_decide_eq_true (band_t (band_t q20).1).1, of_decide_eq_true (band_t (band_t q20).1).2⟩, of_decide_eq_true (band_t q20).2⟩
 refine WC.region ?_
 refine WO.v (R.move rfl) rfl ?_
 refine WO.v (R.move rfl) rfl ?_
 refine WO.v (R.move rfl) rfl ?_
 obtain ⟨A22, cs23, hA22, loA22, hiA22, ccA22, r24⟩ := (sl_kp0 (s6) k7 (by omega)).at_ hx11
 obtain ⟨rfl, i25, i26, i27⟩ := Spec.el r24
 refine WO.v (R.indexAddrN rfl rfl Try.underlying80 sz83 hA22 (by omega)) rfl ?_
 refine WO.v (R.loadN (cs := [_, _, _, _, _]) rfl Try.underlying83 rfl sz83 ccA22) rfl ?_
 refine WO.buildSlice (parts := [_]) (vss := [[_, _, _, _, _]]) Try.underlying80 sz83 zr83 rfl rfl (by simp) rfl rfl rfl ?_
 intro w28 n28
 have z28 := n28.lt
 have b28 := old_kp0 b7 n28.kp
 have y28 := b28.size
 have ac29 : Ac (α := Spec) (w7.heap.size) true (w.heap.size) (w28.heap.size) (w28.heap.size) w28 (.slice (some ⟨w7.heap.size, 0, none⟩) 1 1) ([x11] : List Spec) := Ac.lit (α := Spec) (ys := ([x11] : List Spec)) (css := [[_, _, _, _, _]]) n28.blk (.cons ((Spec.mk_ (i25) (i26) (i27))) (.nil)) (by omega) (by omega) (by simp [maxLen]) (by show 1 * 32 ≤ 140737488355328; decide) rfl
 have lenac29 : ([x11] : List Spec).length = 1 := rfl
 have ac35 : Ac (α := Spec) (w3.heap.size) true (w.heap.size) (w28.heap.size) (w7.heap.size) w28 (.slice aa0 ((specsL.take k).filter (at04 v)).length ac0) ((specsL.take k).filter (at04 v)) := (ac_kp0 (hac6_0) n28.kp (by omega) (by omega)).mono (Nat.le_refl _) (Nat.le_refl _) (by omega) (Nat.le_refl _)
 have bd30 := ac35.bd
 have ty36 := ac35.ty
 have lenac35 : (((specsL.take k).filter (at04 v))).length * 32 ≤ 140737488355328 := ac35.lenle
 have lxac35 : (((specsL.take k).filter (at04 v)) ++ ([x11] : List Spec)).length = ((specsL.take k).filter (at04 v)).length + ([x11] : List Spec).length := List.length_append
 refine WO.append rfl ac35 (by omega) (by omega) (by omega) rfl rfl (ys := ([x11] : List Spec)) (Src.flat (((ac29).pub (L := 0) (H := w28.heap.size) (by omega) (by omega) (by omega) (by omega))) (fun h => h)) (.inl rfl) Try.underlying80 inf83 rfl rfl rfl (by decide) (by first | omega | (simp only [List.length_cons, List.length_nil]; omega) | (simp only [List.length_append, List.length_cons, List.length_nil]; omega)) (by omega) rfl ?_
 intro a32 c33 w31 h34 k31 or37
 have z31 := k31.size
 have b31 := old_kp b28 k31 (fun g hg => by have := bd30 g hg; omega)
 have y31 := b31.size
 refine WO.v (R.assign rfl) rfl ?_
 refine WO.nil ?_
 refine WX.sel [0, 1, 4, 5, 6, 7, 14, 31] rfl ?_
 refine WX.blkNormal ?_
 refine WX.next ?_
 refine WC.region ?_
 refine WO.v (R.move rfl) rfl ?_
 refine WO.v (R.inc rfl (by omega)) rfl ?_
 refine WO.v (R.assign rfl) rfl ?_
 refine WO.nil ?_
 refine WX.sel [0, 1, 4, 5, 6, 7, 14, 31] rfl ?_
 have E38 : (((specsL.take k).filter (at04 v)) ++ ([x11] : List Spec)) = (specsL.take (k + 1)).filter (at04 v) := (by first | exact f04_yes hx11 (by omega) | exact f04_no hx11 (by omega))
 have nE38 : (((specsL.take k).filter (at04 v)) ++ ([x11] : List Spec)).length = ((specsL.take (k + 1)).filter (at04 v)).length := by rw [E38]
 exact WX.loopNextK [0, 1, 4, 6] (k + 1, a32, c33) rfl ⟨⟨_, rfl, rfl⟩, ⟨_, rfl, vs_n nE38⟩, trivial⟩ ⟨(((Kp.refl _).step k7 (by simp)).step n28.kp (by simp)).step k31 (fun g hg => .inr (by have := bd30 g hg; omega)), by omega, ac_n ((h34).mono (by omega) (by omega) (by omega) (by omega)) E38 nE38⟩ (by show ((specsL).length - (k + 1)) < ((specsL).length - k); omega)
 have p20 : ((¬ ((1 : Int) ≤ v)) ∨ (¬ (v ≤ (3 : Int)))) ∨ (¬ (x11.since ≤ v)) := Or.imp (fun h => Or.imp (fun h => of_decide_eq_false h) (fun h => of_decide_eq_false h) (band_f h)) (fun h => of_decide_eq_false h) (band_f q20)
 refine WC.skip ?_
 refine WX.blkNormal ?_
 refine WX.next ?_
 refine WC.region ?_
 refine WO.v (R.move rfl) rfl ?_
 refine WO.v (R.inc rfl (by omega)) rfl ?_
 refine WO.v (R.assign rfl) rfl ?_
 refine WO.nil ?_
 refine WX.sel [0, 1, 4, 5, 6, 7, 14, 31] rfl ?_
 have E39 : ((specsL.take k).filter (at04 v)) = (specsL.take (k + 1)).filter (at04 v) := (by first | exact f04_yes hx11 (by omega) | exact f04_no hx11 (by omega))
 have nE39 : ((specsL.take k).filter (at04 v)).length = ((specsL.take (k + 1)).filter (at04 v)).length := by rw [E39]
 exact WX.loopNextK [0, 1, 4, 6] (k + 1, aa0, ac0) rfl ⟨⟨_, rfl, rfl⟩, ⟨_, rfl, vs_n nE39⟩, trivial⟩ ⟨(Kp.refl _).step k7 (by simp), by omega, ac_n ((hac6_0).mono (by omega) (by omega) (by omega) (by omega)) E39 nE39⟩ (by show ((specsL).length - (k + 1)) < ((specsL).length - k); omega)
 have p8 : ¬ (((k : Nat) : Int) < (((specsL).length : Nat) : Int)) := of_decide_eq_false q8
 refine WC.exit ?_
 refine WX.thenExit ?_
 refine WX.loopExit ?_
 refine WX.blkHit ?_
 refine WX.next ?_
 refine WC.seq ?_
 refine WC.region ?_
 refine WO.v (R.move rfl) rfl ?_
 refine WO.v (R.assign rfl) rfl ?_
 refine WO.nil ?_
 refine WX.sel [0, 1, 4, 5, 6, 7, 14] rfl ?_
 refine WX.next ?_
 refine WC.ret ?_
 have e0 : ((specsL.take k).filter (at04 v)) = (specsF v) := by exact f04_end (by omega)
 have n0 : ((specsL.take k).filter (at04 v)).length = (specsF v).length := by rw [e0]
 have f0 : Ac (α := Spec) w.heap.size true w.heap.size w7.heap.size w7.heap.size w7 (.slice aa0 ((specsL.take k).filter (at04 v)).length ac0) ((specsL.take k).filter (at04 v)) := ((hac6_0).mono (by omega) (by omega) (by omega) (by omega))
 refine WX.ret1 Try.results63 rfl ?_
 exact ⟨aa0, ac0, by rw [n0], (acl_n f0 e0 n0), Kp.of_below b7⟩

set_option maxRecDepth 100000 in
set_option maxHeartbeats 400000 in
theorem top04_s {w : World} (v : Int)  :
    Ret Try.prog 39 [.int .i64 1, .int .i64 v].toArray w fun r w' => r = .int .i64 (topF v) ∧ Kp [] w w' := by
 refine Ret.enter Try.func39 rfl Try.ntmps39 rfl rfl ?_
 refine WC.sel [0, 1] rfl ?_
 refine WC.seq ?_
 refine WC.region ?_
 refine WO.v (R.assign rfl) rfl ?_
 refine WO.nil ?_
 refine WX.sel [0, 1, 4] rfl ?_
 refine WX.next ?_
 refine WC.seq ?_
 refine WC.region ?_
 refine WO.v (R.assign rfl) rfl ?_
 refine WO.nil ?_
 refine WX.sel [0, 1, 4, 5] rfl ?_
 refine WX.next ?_
 refine WC.seq ?_
 refine WC.region ?_
 refine WO.v (R.move rfl) rfl ?_
 refine WO.v (R.move rfl) rfl ?_
 refine WO.c (E.call rfl rfl Try.func63 rfl rfl) (specs04_s (v := v) ) rfl ?_
 rintro _ w1 ⟨a2, c3, rfl, s4, k1⟩
 have ls4 : (specsF (v)).length * 32 ≤ 140737488355328 := s4.lenle
 have z1 := k1.size
 have b1 := old_kp0 (Below.refl w.heap.size w) k1
 have y1 := b1.size
 refine WO.v (R.assign rfl) rfl ?_
 refine WO.nil ?_
 refine WX.sel [0, 1, 4, 5, 6] rfl ?_
 refine WX.next ?_
 refine WC.seq ?_
 refine WC.seq ?_
 refine WC.region ?_
 refine WO.v (R.assign rfl) rfl ?_
 refine WO.nil ?_
 refine WX.sel [0, 1, 4, 5, 6, 7] rfl ?_
 refine WX.next ?_
 refine WC.block ?_
 refine WC.loopK [0, 1, 4, 6] rfl (fun zz : Nat => [(7, (.int .i64 (((zz) : Nat) : Int))), (5, (.int .i64 (((specsF v).take (zz)).foldl (fun t s => max t s.num) 0)))]) (fun (zz : Nat) (w' : World) => (Kp [] w1 w') ∧ ((zz) ≤ (specsF (v)).length)) (fun zz => (specsF (v)).length - (zz)) (0) ?_ ?_ ?_
 exact ⟨⟨_, rfl, rfl⟩, ⟨_, rfl, vi (by rfl)⟩, trivial⟩
 exact ⟨Kp.refl _, Nat.zero_le _⟩
 rintro k w5 ⟨k5, hk⟩
 try dsimp only at hk
 have z5 := k5.size
 have b5 := old_kp0 b1 k5
 have y5 := b5.size
 refine (?_ : WC _ _ _ _ ([(7, (.int .i64 ((k : Nat) : Int))), (5, (.int .i64 (((specsF v).take k).foldl (fun t s => max t s.num) 0)))] ++ _) w5)
 refine WC.seq ?_
 refine WC.seq ?_
 refine WC.region ?_
 refine WO.v (R.move rfl) rfl ?_
 refine WO.v (R.move rfl) rfl ?_
 refine WO.v (R.len rfl Try.underlying80) rfl ?_
 refine WO.v (R.lss rfl rfl) rfl ?_
 refine WO.nil ?_
 refine WX.sel [0, 1, 4, 5, 6, 7, 14] rfl ?_
 refine WX.next ?_
 refine WC.cond rfl (fun q6 => ?_) (fun q6 => ?_)
 have p6 : ((k : Nat) : Int) < (((specsF (v)).length : Nat) : Int) := of_decide_eq_true q6
 refine WC.skip ?_
 refine WX.next ?_
 refine WC.seq ?_
 refine WC.block ?_
 refine WC.region ?_
 refine WO.v (R.move rfl) rfl ?_
 refine WO.v (R.move rfl) rfl ?_
 refine WO.v (R.move rfl) rfl ?_
 obtain ⟨x7, hx7⟩ := get_ex (xs := (specsF (v))) (i := k) (by omega)
 obtain ⟨A8, cs9, hA8, loA8, hiA8, ccA8, r10⟩ := (((ac_kp0 (s4) k5 (by omega) (by omega)).pub (L := 0) (H := w5.heap.size) (by omega) (by omega) (by omega) (by omega))).at_ hx7
 obtain ⟨rfl, i11, i12, i13⟩ := Spec.el r10
 refine WO.v (R.indexAddrN rfl rfl Try.underlying80 sz83 hA8 (by omega)) rfl ?_
 refine WO.v (fe83_0 rfl) rfl ?_
 refine WO.v (R.load1 rfl Try.underlying3 rfl (ccA8.one (j := 0) rfl)) rfl ?_
 refine WO.v (R.max2 rfl rfl) rfl ?_
 refine WO.v (R.assign rfl) rfl ?_
 refine WO.nil ?_
 refine WX.sel [0, 1, 4, 5, 6, 7, 14] rfl ?_
 refine WX.blkNormal ?_
 refine WX.next ?_
 refine WC.region ?_
 refine WO.v (R.move rfl) rfl ?_
 refine WO.v (R.inc rfl (by omega)) rfl ?_
 refine WO.v (R.assign rfl) rfl ?_
 refine WO.nil ?_
 refine WX.sel [0, 1, 4, 5, 6, 7, 14] rfl ?_
 exact WX.loopNextK [0, 1, 4, 6] (k + 1) rfl ⟨⟨_, rfl, rfl⟩, ⟨_, rfl, vi (top_next hx7)⟩, trivial⟩ ⟨(Kp.refl _).step k5 (by simp), by omega⟩ (by show ((specsF (v)).length - (k + 1)) < ((specsF (v)).length - k); omega)
 have p6 : ¬ (((k : Nat) : Int) < (((specsF (v)).length : Nat) : Int)) := of_decide_eq_false q6
 refine WC.exit ?_
 refine WX.thenExit ?_
 refine WX.loopExit ?_
 refine WX.blkHit ?_
 refine WX.next ?_
 refine WC.seq ?_
 refine WC.region ?_
 refine WO.v (R.move rfl) rfl ?_
 refine WO.v (R.assign rfl) rfl ?_
 refine WO.nil ?_
 refine WX.sel [0, 1, 4, 5, 6, 7, 14] rfl ?_
 refine WX.next ?_
 refine WC.ret ?_
 have e0 : (((specsF v).take k).foldl (fun t s => max t s.num) 0) = (topF v) := by rw [topF, List.take_of_length_le (by omega)]
 refine WX.ret1 Try.results39 rfl ?_
 exact ⟨by rw [e0], Kp.of_below b5⟩


end Go.Proofs.Ytfmlgeeogbhppaa
