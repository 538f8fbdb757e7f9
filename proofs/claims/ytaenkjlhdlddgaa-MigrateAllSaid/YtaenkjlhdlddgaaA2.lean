/- Contracts of functions, walked operation by operation. -/
import Derived.Test.YtaenkjlhdlddgaaA1
namespace Go.Proofs.Ytaenkjlhdlddgaa
open Go.RowKit

theorem foldl_le {l : List Int} : ∀ {z x : Int}, x ∈ l → l.foldl min z ≤ x := by
  induction l with
  | nil => intro z x h; cases h
  | cons a l ih =>
    intro z x h
    rcases List.mem_cons.1 h with rfl | h
    · exact Int.le_trans (foldl_min_le l _) (by omega)
    · exact ih h
theorem foldl_mem (l : List Int) : ∀ z : Int, l.foldl min z = z ∨ l.foldl min z ∈ l := by
  induction l with
  | nil => intro z; exact .inl rfl
  | cons a l ih =>
    intro z
    rcases ih (min z a) with h | h
    · rcases Int.le_total z a with hz | hz
      · left; rw [List.foldl_cons, h]; omega
      · right; rw [List.foldl_cons, h]; exact List.mem_cons.2 (.inl (by omega))
    · exact .inr (List.mem_cons_of_mem _ h)
theorem minF_le {l : List Int} {x : Int} (h : x ∈ l) : minF l ≤ x := by
  cases l with
  | nil => cases h
  | cons a l =>
    rcases List.mem_cons.1 h with rfl | h
    · exact foldl_min_le _ _
    · exact foldl_le h
theorem minF_mem {l : List Int} (h : l ≠ []) : minF l ∈ l := by
  cases l with
  | nil => exact absurd rfl h
  | cons a l => rcases foldl_mem l a with h | h <;> simp [minF, h]
theorem agreeF_eq {l : List Int} (h : l.all knownF = true) (h0 : l ≠ []) : agreeF l = minF l := by
  simp [agreeF, h, h0]
theorem minF_uniq {l : List Int} {m : Int} (hm : m ∈ l) (hl : ∀ x ∈ l, m ≤ x) : minF l = m :=
  Int.le_antisymm (minF_le hm) (hl _ (minF_mem (by rintro rfl; cases hm)))
theorem law_empty {l : List Int} {v : Int} (h : l.length = 0) : ((decide (agreeF l = (0 : Int))) && (!(readyF v l))) = true := by
  have : l = [] := List.eq_nil_of_length_eq_zero h
  subst this
  simp only [agreeF, readyF, List.length_nil, decide_true, Bool.true_or, if_true, Bool.not_and]
  by_cases hv : v < 0
  · have : ¬ 1 ≤ v := by omega
    simp [this]
  · simp [hv]
theorem known_of {l : List Int} (h : l.all knownF = true) {x : Int} (hx : x ∈ l) : 1 ≤ x ∧ x ≤ 3 := by
  have := List.all_eq_true.1 h x hx
  simpa [knownF] using this
theorem starts_zero {l : List Int} {i : Nat} {x : Int} (h : l.all knownF = true) (hx : l[i]? = some x) : startsF x (agreeF l) = 0 := by
  have hm := List.mem_of_getElem? hx
  have h0 : l ≠ [] := by rintro rfl; cases hm
  have h1 := known_of h hm
  have h2 := known_of h (minF_mem h0)
  have h3 := minF_le hm
  rw [agreeF_eq h h0]
  unfold startsF
  rw [if_pos ⟨h1, h2⟩, if_neg (by omega)]
theorem law_last {xs : List Int} {i : Nat} {v : Nat} {b : Bool} (h : xs.all knownF = true) (hb : b = (xs.all fun x => decide (((1 + v % 3 : Nat) : Int) < x))) (hi : xs.length ≤ i) (h0 : 0 < xs.length) :
    (((((xs.take i).any (fun x => decide (x = agreeF xs))) && (decide (agreeF xs.reverse = agreeF xs))) && ((readyF (((1 + (v % 3)) : Nat) : Int) xs) == (b && (decide ((((1 + (v % 3)) : Nat) : Int) < (3 : Int)))))) && (decide (agreeF (xs ++ ([(4 : Int)] : List Int)) = (0 : Int)))) = true := by
  have hn : xs ≠ [] := List.length_pos_iff.1 h0
  have hr : xs.reverse.all knownF = true := by rw [List.all_reverse]; exact h
  have e1 : agreeF xs = minF xs := agreeF_eq h hn
  have e2 : agreeF xs.reverse = minF xs := by
    rw [agreeF_eq hr (by simpa using hn)]
    exact minF_uniq (List.mem_reverse.2 (minF_mem hn)) fun x hx => minF_le (List.mem_reverse.1 hx)
  have e3 : agreeF (xs ++ [4]) = 0 := by simp [agreeF, knownF]
  have e4 : (xs.take i).any (fun x => decide (x = minF xs)) = true := by
    rw [List.take_of_length_le hi]
    exact List.any_eq_true.2 ⟨_, minF_mem hn, by simp⟩
  have e5 : (xs.all fun x => decide (((1 + v % 3 : Nat) : Int) < x)) = decide (((1 + v % 3 : Nat) : Int) < minF xs) := by
    rw [Bool.eq_iff_iff, List.all_eq_true, decide_eq_true_eq]
    constructor
    · intro hx; simpa using hx _ (minF_mem hn)
    · intro hm x hx; have := minF_le hx; simp only [decide_eq_true_eq]; omega
  rw [e1, e2, e3, e4, hb, e5]
  unfold readyF
  rw [e1]
  have h1 : decide ((1 : Int) ≤ ((1 + v % 3 : Nat) : Int)) = true := decide_eq_true (by omega)
  rw [h1]
  cases decide (((1 + v % 3 : Nat) : Int) < minF xs) <;> cases decide (((1 + v % 3 : Nat) : Int) < 3) <;> simp
def bF (x : UInt8) : Int := ((1 + (x &&& 3).toNat % 3 : Nat) : Int)
theorem own_known (l : List UInt8) (k : Nat) : ((l.take k).map bF).all knownF = true := by
  rw [List.all_eq_true]
  intro x hx
  obtain ⟨y, _, rfl⟩ := List.mem_map.1 hx
  exact Bool.and_eq_true_iff.2 ⟨decide_eq_true (by unfold bF; omega), decide_eq_true (by unfold bF; omega)⟩
theorem own_step {l : List UInt8} {k : Nat} {x : UInt8} (hx : l[k]? = some x) : (l.take k).map bF ++ [((1 + (x &&& 3).toNat % 3 : Nat) : Int)] = (l.take (k + 1)).map bF := by
  rw [take_succ_get hx, List.map_append]; rfl
theorem back_step {l : List UInt8} {k : Nat} {x : UInt8} (hx : l[k]? = some x) : [((1 + (x &&& 3).toNat % 3 : Nat) : Int)] ++ ((l.take k).map bF).reverse = ((l.take (k + 1)).map bF).reverse := by
  rw [take_succ_get hx, List.map_append, List.reverse_append]; rfl
theorem all_step {l : List UInt8} {k : Nat} {x : UInt8} {v : Int} (hx : l[k]? = some x) : ((l.take k).all (fun x => decide (v < bF x)) && decide (v < ((1 + (x &&& 3).toNat % 3 : Nat) : Int))) = (l.take (k + 1)).all (fun x => decide (v < bF x)) := by
  rw [take_succ_get hx, List.all_append]; simp [bF]
theorem any_step {l : List Int} {k : Nat} {x z : Int} (hx : l[k]? = some x) : ((l.take k).any (fun x => decide (x = z)) || decide (x = z)) = (l.take (k + 1)).any (fun x => decide (x = z)) := by
  rw [take_succ_get hx, List.any_append]; simp

theorem sz5 : (Try.prog.info? 5).map (·.size) = some 1 := by kernel_rfl
theorem inf3 : (Try.prog.info? 3).map (fun i => (i.zero.map Value.cells, i.size, i.bytes)) = some (some ([.int .i64 0] : List Value).toArray, 1, 8) := by kernel_rfl

set_option maxRecDepth 100000 in
set_option maxHeartbeats 400000 in
theorem law_s {w : World} {a_l : Option Addr} {c_l : Nat} {l : List UInt8} (version : UInt8) (h_l : Sl false 0 w.heap.size w (.slice a_l l.length c_l) l) :
    Ret Try.prog 3 [.slice a_l l.length c_l, .int .u8 (version.toNat : Int)].toArray w fun r w' => r = .bool true ∧ Kp [] w w' := by
 have len_l : (l).length * 1 ≤ 140737488355328 := h_l.lenle
 refine Ret.enter Try.func3 rfl Try.ntmps3 rfl rfl ?_
 refine WC.sel [0, 1] rfl ?_
 refine WC.seq ?_
 refine WC.region ?_
 refine WO.v (R.assign rfl) rfl ?_
 refine WO.nil ?_
 refine WX.sel [0, 1, 4] rfl ?_
 refine WX.next ?_
 refine WC.seq ?_
 refine WC.region ?_
 refine WO.c (E.call rfl rfl Try.func7 rfl rfl) (shown_s  ) rfl ?_
 rintro _ w1 ⟨rfl, k1⟩
 have z1 : w.heap.size ≤ w1.heap.size := k1.size
 have b1 := old_kp0 (Below.refl w.heap.size w) k1
 have y1 : w.heap.size ≤ w1.heap.size := b1.size
 refine WO.v (R.assign rfl) rfl ?_
 refine WO.nil ?_
 refine WX.sel [0, 1, 4, 5] rfl ?_
 refine WX.next ?_
 refine WC.seq ?_
 refine WC.region ?_
 refine WO.buildSlice (parts := []) (vss := []) Try.underlying24 sz3 zr3 rfl rfl (by simp) rfl rfl rfl ?_
 intro w2 n2
 have z2 : w1.heap.size < w2.heap.size := n2.lt
 have b2 := old_kp0 b1 n2.kp
 have y2 : w.heap.size ≤ w2.heap.size := b2.size
 have ac3 : Ac (α := Int) (w1.heap.size) true (w.heap.size) (w2.heap.size) (w2.heap.size) w2 (.slice (some ⟨w1.heap.size, 0, none⟩) 0 0) ([] : List Int) := Ac.lit (α := Int) (ys := ([] : List Int)) (css := []) n2.blk (.nil) (by omega) (by omega) (by simp [maxLen]) (by show 0 * 8 ≤ 140737488355328; decide) rfl
 have lenac3 : ([] : List Int).length = 0 := rfl
 refine WO.v (R.assign rfl) rfl ?_
 refine WO.nil ?_
 refine WX.sel [0, 1, 4, 5, 6] rfl ?_
 refine WX.next ?_
 refine WC.seq ?_
 refine WC.region ?_
 refine WO.buildSlice (parts := []) (vss := []) Try.underlying24 sz3 zr3 rfl rfl (by simp) rfl rfl rfl ?_
 intro w4 n4
 have z4 : w2.heap.size < w4.heap.size := n4.lt
 have b4 := old_kp0 b2 n4.kp
 have y4 : w.heap.size ≤ w4.heap.size := b4.size
 have ac5 : Ac (α := Int) (w2.heap.size) true (w.heap.size) (w4.heap.size) (w4.heap.size) w4 (.slice (some ⟨w2.heap.size, 0, none⟩) 0 0) ([] : List Int) := Ac.lit (α := Int) (ys := ([] : List Int)) (css := []) n4.blk (.nil) (by omega) (by omega) (by simp [maxLen]) (by show 0 * 8 ≤ 140737488355328; decide) rfl
 have lenac5 : ([] : List Int).length = 0 := rfl
 refine WO.v (R.assign rfl) rfl ?_
 refine WO.nil ?_
 refine WX.sel [0, 1, 4, 5, 6, 7] rfl ?_
 refine WX.next ?_
 refine WC.seq ?_
 refine WC.region ?_
 refine WO.v (R.move rfl) rfl ?_
 have u5 := UInt8.toNat_lt version
 refine WO.v (R.convU8 (b := version) rfl Try.underlying5 Try.underlying3) rfl ?_
 refine WO.v (R.remN (a := version.toNat) (b := 3) rfl rfl (by omega)) rfl ?_
 refine WO.v (R.addN (a := 1) (b := (version.toNat % 3)) rfl rfl (by omega)) rfl ?_
 refine WO.v (R.assign rfl) rfl ?_
 refine WO.nil ?_
 refine WX.sel [0, 1, 4, 5, 6, 7, 8] rfl ?_
 refine WX.next ?_
 refine WC.seq ?_
 refine WC.region ?_
 refine WO.v (R.assign rfl) rfl ?_
 refine WO.nil ?_
 refine WX.sel [0, 1, 4, 5, 6, 7, 8, 9] rfl ?_
 refine WX.next ?_
 refine WC.seq ?_
 refine WC.seq ?_
 refine WC.region ?_
 refine WO.v (R.assign rfl) rfl ?_
 refine WO.nil ?_
 refine WX.sel [0, 1, 4, 5, 6, 7, 8, 9, 10] rfl ?_
 refine WX.next ?_
 refine WC.block ?_
 refine WC.loopK [0, 1, 4, 5, 8] rfl (fun zz : Nat × Option Addr × Nat × Option Addr × Nat => [(10, (.int .i64 (((zz.1) : Nat) : Int))), (9, (.bool (((l.take (zz.1)).all (fun x => decide ((((1 + version.toNat % 3) : Nat) : Int) < bF x)))))), (6, (.slice (zz.2.1) ((l.take (zz.1)).map bF).length (zz.2.2.1))), (7, (.slice (zz.2.2.2.1) (((l.take (zz.1)).map bF).reverse).length (zz.2.2.2.2)))]) (fun (zz : Nat × Option Addr × Nat × Option Addr × Nat) (w' : World) => (Kp [] w4 w') ∧ ((zz.1) ≤ (min l.length 20)) ∧ (Ac (α := Int) (w4.heap.size) true (w.heap.size) (w'.heap.size) w'.heap.size w' (.slice (zz.2.1) ((l.take (zz.1)).map bF).length (zz.2.2.1)) ((l.take (zz.1)).map bF)) ∧ (Ac (α := Int) (w4.heap.size) true (w.heap.size) (w'.heap.size) w'.heap.size w' (.slice (zz.2.2.2.1) (((l.take (zz.1)).map bF).reverse).length (zz.2.2.2.2)) (((l.take (zz.1)).map bF).reverse)) ∧ (∀ g ∈ ob (.slice (zz.2.1) ((l.take (zz.1)).map bF).length (zz.2.2.1)), g ∉ ob (.slice (zz.2.2.2.1) (((l.take (zz.1)).map bF).reverse).length (zz.2.2.2.2)))) (fun zz => (min l.length 20) - (zz.1)) (0, (some ⟨w1.heap.size, 0, none⟩), 0, (some ⟨w2.heap.size, 0, none⟩), 0) ?_ ?_ ?_
 exact ⟨⟨_, rfl, rfl⟩, ⟨_, rfl, rfl⟩, ⟨_, rfl, rfl⟩, ⟨_, rfl, rfl⟩, trivial⟩
 exact ⟨Kp.refl _, Nat.zero_le _, Ac.empty _ _ _ _ _ _ _, Ac.empty _ _ _ _ _ _ _, by simp [ob]⟩
 rintro ⟨k, aa0, ac0, aa1, ac1⟩ w7 ⟨k7, hk, hac6_0, hac6_1, hdj6_0_1⟩
 try dsimp only at hk hac6_0 hac6_1 hdj6_0_1
 have z7 : w4.heap.size ≤ w7.heap.size := k7.size
 have b7 := old_kp0 b4 k7
 have y7 : w.heap.size ≤ w7.heap.size := b7.size
 refine (?_ : WC _ _ _ _ ([(10, (.int .i64 ((k : Nat) : Int))), (9, (.bool (((l.take k).all (fun x => decide ((((1 + version.toNat % 3) : Nat) : Int) < bF x)))))), (6, (.slice aa0 ((l.take k).map bF).length ac0)), (7, (.slice aa1 (((l.take k).map bF).reverse).length ac1))] ++ _) w7)
 have : ((l.take k).map bF).length ≤ k := by simp; omega
 have : (((l.take k).map bF).reverse).length ≤ k := by simp; omega
 have lenhac6_0 : ((l.take k).map bF).length * 8 ≤ 140737488355328 := hac6_0.lenle
 have lenhac6_1 : (((l.take k).map bF).reverse).length * 8 ≤ 140737488355328 := hac6_1.lenle
 refine WC.seq ?_
 refine WC.seq ?_
 refine WC.region ?_
 refine WO.v (R.move rfl) rfl ?_
 refine WO.v (R.move rfl) rfl ?_
 refine WO.v (R.len rfl Try.underlying22) rfl ?_
 refine WO.v (R.lss rfl rfl) rfl ?_
 refine WO.v (R.move rfl) rfl ?_
 refine WO.cutP 3 [(29, (.bool ((decide (((k : Nat) : Int) < ((l.length : Nat) : Int))) && (decide (((k : Nat) : Int) < (20 : Int))))))] (fun w' => w7 = w') ?_ ?_
 rcases Bool.eq_false_or_eq_true (decide (((k : Nat) : Int) < ((l.length : Nat) : Int))) with hb8 | hb8
 have phb8 : ((k : Nat) : Int) < ((l.length : Nat) : Int) := of_decide_eq_true hb8
 refine WO.on rfl rfl hb8 ?_
 refine WO.v (R.move rfl) rfl ?_
 refine WO.on rfl rfl hb8 ?_
 refine WO.v (R.lss rfl rfl) rfl ?_
 refine WO.v (R.pickT rfl hb8 rfl) rfl ?_
 refine WO.nil ?_
 exact WX.cutDoneP 3 rfl rfl ⟨⟨_, rfl, vb (band_on hb8)⟩, trivial⟩ (rfl)
 have phb8 : ¬ (((k : Nat) : Int) < ((l.length : Nat) : Int)) := of_decide_eq_false hb8
 refine WO.off rfl rfl hb8 rfl ?_
 refine WO.off rfl rfl hb8 rfl ?_
 refine WO.v (R.pickF rfl hb8 rfl) rfl ?_
 refine WO.nil ?_
 exact WX.cutDoneP 3 rfl rfl ⟨⟨_, rfl, vb (band_off hb8)⟩, trivial⟩ (rfl)
 rintro _ rfl
 refine WO.nil ?_
 refine WX.sel [0, 1, 4, 5, 6, 7, 8, 9, 10, 29] rfl ?_
 refine WX.next ?_
 refine WC.cond rfl (fun q9 => ?_) (fun q9 => ?_)
 have p9 : (((k : Nat) : Int) < ((l.length : Nat) : Int)) ∧ (((k : Nat) : Int) < (20 : Int)) := ⟨of_decide_eq_true (band_t q9).1, of_decide_eq_true (band_t q9).2⟩
 refine WC.skip ?_
 refine WX.next ?_
 refine WC.seq ?_
 refine WC.block ?_
 refine WC.seq ?_
 refine WC.region ?_
 refine WO.v (R.move rfl) rfl ?_
 refine WO.v (R.move rfl) rfl ?_
 obtain ⟨x10, hx10⟩ := get_ex (xs := l) (i := k) (by omega)
 obtain ⟨A11, cs12, hA11, loA11, hiA11, ccA11, r13⟩ := (sl_old h_l b7).at_ hx10
 obtain rfl := r13
 refine WO.v (R.indexAddrN rfl rfl Try.underlying22 sz5 hA11 (by omega)) rfl ?_
 refine WO.v (R.load1 rfl Try.underlying5 rfl (CellsAt.one0 ccA11)) rfl ?_
 refine WO.v (R.andU8 (a := x10) (b := (3 : UInt8)) rfl rfl) rfl ?_
 have u13 := UInt8.toNat_lt (x10 &&& (3 : UInt8))
 refine WO.v (R.convU8 (b := (x10 &&& (3 : UInt8))) rfl Try.underlying5 Try.underlying3) rfl ?_
 refine WO.v (R.remN (a := (x10 &&& (3 : UInt8)).toNat) (b := 3) rfl rfl (by omega)) rfl ?_
 refine WO.v (R.addN (a := 1) (b := ((x10 &&& (3 : UInt8)).toNat % 3)) rfl rfl (by omega)) rfl ?_
 refine WO.v (R.assign rfl) rfl ?_
 refine WO.nil ?_
 refine WX.sel [0, 1, 4, 5, 6, 7, 8, 9, 10, 11, 29] rfl ?_
 refine WX.next ?_
 refine WC.seq ?_
 refine WC.region ?_
 refine WO.v (R.move rfl) rfl ?_
 refine WO.v (R.move rfl) rfl ?_
 refine WO.buildSlice (parts := [_]) (vss := [[_]]) Try.underlying24 sz3 zr3 rfl rfl (by simp) rfl rfl rfl ?_
 intro w15 n15
 have z15 : w7.heap.size < w15.heap.size := n15.lt
 have b15 := old_kp0 b7 n15.kp
 have y15 : w.heap.size ≤ w15.heap.size := b15.size
 have ac16 : Ac (α := Int) (w7.heap.size) true (w.heap.size) (w15.heap.size) (w15.heap.size) w15 (.slice (some ⟨w7.heap.size, 0, none⟩) 1 1) ([(((1 + ((x10 &&& (3 : UInt8)).toNat % 3)) : Nat) : Int)] : List Int) := Ac.lit (α := Int) (ys := ([(((1 + ((x10 &&& (3 : UInt8)).toNat % 3)) : Nat) : Int)] : List Int)) (css := [[_]]) n15.blk (.cons (⟨rfl, ⟨by omega, by omega⟩⟩) (.nil)) (by omega) (by omega) (by simp [maxLen]) (by show 1 * 8 ≤ 140737488355328; decide) rfl
 have lenac16 : ([(((1 + ((x10 &&& (3 : UInt8)).toNat % 3)) : Nat) : Int)] : List Int).length = 1 := rfl
 have ac22 : Ac (α := Int) (w4.heap.size) true (w.heap.size) (w15.heap.size) (w7.heap.size) w15 (.slice aa0 ((l.take k).map bF).length ac0) ((l.take k).map bF) := (ac_kp0 (hac6_0) n15.kp (by omega) (by omega)).mono (Nat.le_refl _) (Nat.le_refl _) (by omega) (Nat.le_refl _)
 have bd17 := ac22.bd
 have ty23 := ac22.ty
 have lenac22 : (((l.take k).map bF)).length * 8 ≤ 140737488355328 := ac22.lenle
 have lxac22 : (((l.take k).map bF) ++ ([(((1 + ((x10 &&& (3 : UInt8)).toNat % 3)) : Nat) : Int)] : List Int)).length = ((l.take k).map bF).length + ([(((1 + ((x10 &&& (3 : UInt8)).toNat % 3)) : Nat) : Int)] : List Int).length := List.length_append
 refine WO.append rfl ac22 (by omega) (by omega) (by omega) rfl rfl (ys := ([(((1 + ((x10 &&& (3 : UInt8)).toNat % 3)) : Nat) : Int)] : List Int)) (Src.flat (((ac16).pub (L := 0) (H := w15.heap.size) (by omega) (by omega) (by omega) (by omega))) (fun h => h)) (.inl rfl) Try.underlying24 inf3 rfl rfl rfl (by decide) (by omega) (by omega) rfl ?_
 intro a19 c20 w18 h21 k18 or24
 have z18 : w15.heap.size ≤ w18.heap.size := k18.size
 have b18 := old_kp b15 k18 (fun g hg => by have := bd17 g hg; omega)
 have y18 : w.heap.size ≤ w18.heap.size := b18.size
 refine WO.v (R.assign rfl) rfl ?_
 refine WO.nil ?_
 refine WX.sel [0, 1, 4, 5, 6, 7, 8, 9, 10, 11, 29] rfl ?_
 refine WX.next ?_
 refine WC.seq ?_
 refine WC.region ?_
 refine WO.v (R.move rfl) rfl ?_
 refine WO.buildSlice (parts := [_]) (vss := [[_]]) Try.underlying24 sz3 zr3 rfl rfl (by simp) rfl rfl rfl ?_
 intro w25 n25
 have z25 : w18.heap.size < w25.heap.size := n25.lt
 have b25 := old_kp0 b18 n25.kp
 have y25 : w.heap.size ≤ w25.heap.size := b25.size
 have ac26 : Ac (α := Int) (w18.heap.size) true (w.heap.size) (w25.heap.size) (w25.heap.size) w25 (.slice (some ⟨w18.heap.size, 0, none⟩) 1 1) ([(((1 + ((x10 &&& (3 : UInt8)).toNat % 3)) : Nat) : Int)] : List Int) := Ac.lit (α := Int) (ys := ([(((1 + ((x10 &&& (3 : UInt8)).toNat % 3)) : Nat) : Int)] : List Int)) (css := [[_]]) n25.blk (.cons (⟨rfl, ⟨by omega, by omega⟩⟩) (.nil)) (by omega) (by omega) (by simp [maxLen]) (by show 1 * 8 ≤ 140737488355328; decide) rfl
 have lenac26 : ([(((1 + ((x10 &&& (3 : UInt8)).toNat % 3)) : Nat) : Int)] : List Int).length = 1 := rfl
 refine WO.v (R.move rfl) rfl ?_
 have ac32 : Ac (α := Int) (w18.heap.size) true (w.heap.size) (w25.heap.size) (w25.heap.size) w25 (.slice (some ⟨w18.heap.size, 0, none⟩) 1 1) ([(((1 + ((x10 &&& (3 : UInt8)).toNat % 3)) : Nat) : Int)] : List Int) := ac26
 have bd27 := ac32.bd
 have ty33 := ac32.ty
 have lenac32 : (([(((1 + ((x10 &&& (3 : UInt8)).toNat % 3)) : Nat) : Int)] : List Int)).length * 8 ≤ 140737488355328 := ac32.lenle
 have lxac32 : (([(((1 + ((x10 &&& (3 : UInt8)).toNat % 3)) : Nat) : Int)] : List Int) ++ (((l.take k).map bF).reverse)).length = ([(((1 + ((x10 &&& (3 : UInt8)).toNat % 3)) : Nat) : Int)] : List Int).length + (((l.take k).map bF).reverse).length := List.length_append
 refine WO.append rfl ac32 (by omega) (by omega) (by omega) rfl rfl (ys := (((l.take k).map bF).reverse)) (Src.flat (((ac_kp0 (ac_kpD (ac_kp0 (hac6_1) n15.kp (by omega) (by omega)) k18 (by omega) (by omega) (fun g hg hg2 => (hdj6_0_1 g hg2 hg)) (.inl rfl)) n25.kp (by omega) (by omega)).pub (L := 0) (H := w25.heap.size) (by omega) (by omega) (by omega) (by omega))) (fun h => h)) (.inl rfl) Try.underlying24 inf3 rfl rfl rfl (by decide) (by omega) (by omega) rfl ?_
 intro a29 c30 w28 h31 k28 or34
 have z28 : w25.heap.size ≤ w28.heap.size := k28.size
 have b28 := old_kp b25 k28 (fun g hg => by have := bd27 g hg; omega)
 have y28 : w.heap.size ≤ w28.heap.size := b28.size
 refine WO.v (R.assign rfl) rfl ?_
 refine WO.nil ?_
 refine WX.sel [0, 1, 4, 5, 6, 7, 8, 9, 10, 11, 29] rfl ?_
 refine WX.next ?_
 refine WC.region ?_
 refine WO.v (R.move rfl) rfl ?_
 refine WO.v (R.move rfl) rfl ?_
 refine WO.cutP 4 [(53, (.bool ((((l.take k).all (fun x => decide ((((1 + version.toNat % 3) : Nat) : Int) < bF x)))) && (decide ((((1 + (version.toNat % 3)) : Nat) : Int) < (((1 + ((x10 &&& (3 : UInt8)).toNat % 3)) : Nat) : Int))))))] (fun w' => w28 = w') ?_ ?_
 rcases Bool.eq_false_or_eq_true (((l.take k).all (fun x => decide ((((1 + version.toNat % 3) : Nat) : Int) < bF x)))) with hb35 | hb35
 have phb35 : (((l.take k).all (fun x => decide ((((1 + version.toNat % 3) : Nat) : Int) < bF x)))) = true := hb35
 refine WO.on rfl rfl hb35 ?_
 refine WO.v (R.move rfl) rfl ?_
 refine WO.on rfl rfl hb35 ?_
 refine WO.v (R.move rfl) rfl ?_
 refine WO.on rfl rfl hb35 ?_
 refine WO.v (R.gtr rfl rfl) rfl ?_
 refine WO.v (R.pickT rfl hb35 rfl) rfl ?_
 refine WO.nil ?_
 exact WX.cutDoneP 4 rfl rfl ⟨⟨_, rfl, vb (band_on hb35)⟩, trivial⟩ (rfl)
 have phb35 : (((l.take k).all (fun x => decide ((((1 + version.toNat % 3) : Nat) : Int) < bF x)))) = false := hb35
 refine WO.off rfl rfl hb35 rfl ?_
 refine WO.off rfl rfl hb35 rfl ?_
 refine WO.off rfl rfl hb35 rfl ?_
 refine WO.v (R.pickF rfl hb35 rfl) rfl ?_
 refine WO.nil ?_
 exact WX.cutDoneP 4 rfl rfl ⟨⟨_, rfl, vb (band_off hb35)⟩, trivial⟩ (rfl)
 rintro _ rfl
 refine WO.v (R.assign rfl) rfl ?_
 refine WO.nil ?_
 refine WX.sel [0, 1, 4, 5, 6, 7, 8, 9, 10, 11, 29] rfl ?_
 refine WX.blkNormal ?_
 refine WX.next ?_
 refine WC.region ?_
 refine WO.v (R.move rfl) rfl ?_
 refine WO.v (R.inc rfl (by omega)) rfl ?_
 refine WO.v (R.assign rfl) rfl ?_
 refine WO.nil ?_
 refine WX.sel [0, 1, 4, 5, 6, 7, 8, 9, 10, 11, 29] rfl ?_
 have E36 : (((l.take k).map bF) ++ ([(((1 + ((x10 &&& (3 : UInt8)).toNat % 3)) : Nat) : Int)] : List Int)) = (l.take (k + 1)).map bF := own_step hx10
 have nE36 : (((l.take k).map bF) ++ ([(((1 + ((x10 &&& (3 : UInt8)).toNat % 3)) : Nat) : Int)] : List Int)).length = ((l.take (k + 1)).map bF).length := by rw [E36]
 have E37 : (([(((1 + ((x10 &&& (3 : UInt8)).toNat % 3)) : Nat) : Int)] : List Int) ++ (((l.take k).map bF).reverse)) = ((l.take (k + 1)).map bF).reverse := back_step hx10
 have nE37 : (([(((1 + ((x10 &&& (3 : UInt8)).toNat % 3)) : Nat) : Int)] : List Int) ++ (((l.take k).map bF).reverse)).length = (((l.take (k + 1)).map bF).reverse).length := by rw [E37]
 exact WX.loopNextK [0, 1, 4, 5, 8] (k + 1, a19, c20, a29, c30) rfl ⟨⟨_, rfl, rfl⟩, ⟨_, rfl, vb (all_step hx10)⟩, ⟨_, rfl, vs_n nE36⟩, ⟨_, rfl, vs_n nE37⟩, trivial⟩ ⟨(((((Kp.refl _).step k7 (by simp)).step n15.kp (by simp)).step k18 (fun g hg => .inr (by have := bd17 g hg; omega))).step n25.kp (by simp)).step k28 (fun g hg => .inr (by have := bd27 g hg; omega)), by omega, ac_n ((ac_kp (ac_kp0 (h21) n25.kp (by omega) (by omega)) k28 (by omega) (by omega) (fun g hg => by have := bd27 g hg; omega)).mono (by omega) (by omega) (by omega) (by omega)) E36 nE36, ac_n ((h31).mono (by omega) (by omega) (by omega) (by omega)) E37 nE37, dj_n (m := (((l.take k).map bF) ++ ([(((1 + ((x10 &&& (3 : UInt8)).toNat % 3)) : Nat) : Int)] : List Int)).length) (m' := (([(((1 + ((x10 &&& (3 : UInt8)).toNat % 3)) : Nat) : Int)] : List Int) ++ (((l.take k).map bF).reverse)).length) (fun g hg hg2 => (or24 g hg).elim (fun hg => (or34 g hg2).elim (fun hg2 => (by have := hac6_0.bd g hg; have := ac26.bd g hg2; omega)) (fun ⟨hg2, _⟩ => by have := hac6_0.bd g hg; omega)) (fun ⟨hg, _⟩ => (or34 g hg2).elim (fun hg2 => (by have := ac26.bd g hg2; omega)) (fun ⟨hg2, _⟩ => by omega)))⟩ (by show ((min l.length 20) - (k + 1)) < ((min l.length 20) - k); omega)
 have p9 : (¬ (((k : Nat) : Int) < ((l.length : Nat) : Int))) ∨ (¬ (((k : Nat) : Int) < (20 : Int))) := Or.imp (fun h => of_decide_eq_false h) (fun h => of_decide_eq_false h) (band_f q9)
 refine WC.exit ?_
 refine WX.thenExit ?_
 refine WX.loopExit ?_
 refine WX.blkHit ?_
 refine WX.next ?_
 refine WC.seq ?_
 refine WC.region ?_
 refine WO.v (R.move rfl) rfl ?_
 refine WO.c (E.call rfl rfl Try.func8 rfl rfl) (agree_s (l := ((l.take k).map bF)) (a_l := aa0) (c_l := ac0) ((hac6_0).pub (L := 0) (H := w7.heap.size) (by omega) (by omega) (by omega) (by omega))) rfl ?_
 rintro _ w38 ⟨rfl, k38⟩
 have z38 : w7.heap.size ≤ w38.heap.size := k38.size
 have b38 := old_kp0 b7 k38
 have y38 : w.heap.size ≤ w38.heap.size := b38.size
 refine WO.v (R.assign rfl) rfl ?_
 refine WO.nil ?_
 refine WX.sel [0, 1, 4, 5, 6, 7, 8, 9, 10, 12, 29] rfl ?_
 refine WX.next ?_
 refine WC.seq ?_
 refine WC.seq ?_
 refine WC.region ?_
 refine WO.v (R.move rfl) rfl ?_
 refine WO.v (R.len rfl Try.underlying24) rfl ?_
 refine WO.v (R.eql rfl rfl) rfl ?_
 refine WO.nil ?_
 refine WX.sel [0, 1, 4, 5, 6, 7, 8, 9, 10, 12, 29, 58] rfl ?_
 refine WX.next ?_
 refine WC.cond rfl (fun q39 => ?_) (fun q39 => ?_)
 have p39 : ((((l.take k).map bF).length : Nat) : Int) = (0 : Int) := of_decide_eq_true q39
 refine WC.seq ?_
 refine WC.region ?_
 refine WO.v (R.move rfl) rfl ?_
 refine WO.v (R.move rfl) rfl ?_
 refine WO.on rfl rfl rfl ?_
 refine WO.v (R.move rfl) rfl ?_
 refine WO.on rfl rfl rfl ?_
 refine WO.v (R.eql rfl rfl) rfl ?_
 refine WO.v (R.pickT rfl rfl rfl) rfl ?_
 refine WO.v (R.move rfl) rfl ?_
 refine WO.cutP 5 [(69, (.bool ((decide (agreeF (((l.take k).map bF)) = (0 : Int))) && (!(readyF ((((1 + (version.toNat % 3)) : Nat) : Int)) (((l.take k).map bF)))))))] (fun w' => Kp [] w38 w') ?_ ?_
 rcases Bool.eq_false_or_eq_true (decide (agreeF (((l.take k).map bF)) = (0 : Int))) with hb40 | hb40
 have phb40 : agreeF (((l.take k).map bF)) = (0 : Int) := of_decide_eq_true hb40
 refine WO.on rfl rfl hb40 ?_
 refine WO.v (R.move rfl) rfl ?_
 refine WO.on rfl rfl hb40 ?_
 refine WO.v (R.move rfl) rfl ?_
 refine WO.on rfl rfl hb40 ?_
 refine WO.c (E.call rfl rfl Try.func9 rfl rfl) (ready_s (v := (((1 + (version.toNat % 3)) : Nat) : Int)) (l := ((l.take k).map bF)) (a_l := aa0) (c_l := ac0) ((ac_kp0 (hac6_0) k38 (by omega) (by omega)).pub (L := 0) (H := w38.heap.size) (by omega) (by omega) (by omega) (by omega))) rfl ?_
 rintro _ w41 ⟨rfl, k41⟩
 have z41 : w38.heap.size ≤ w41.heap.size := k41.size
 have b41 := old_kp0 b38 k41
 have y41 : w.heap.size ≤ w41.heap.size := b41.size
 refine WO.on rfl rfl hb40 ?_
 refine WO.v (R.not rfl) rfl ?_
 refine WO.v (R.pickT rfl hb40 rfl) rfl ?_
 refine WO.nil ?_
 exact WX.cutDoneP 5 rfl rfl ⟨⟨_, rfl, vb (band_on hb40)⟩, trivial⟩ ((Kp.refl _).step k41 (by simp))
 have phb40 : ¬ (agreeF (((l.take k).map bF)) = (0 : Int)) := of_decide_eq_false hb40
 refine WO.off rfl rfl hb40 rfl ?_
 refine WO.off rfl rfl hb40 rfl ?_
 refine WO.off rfl rfl hb40 rfl ?_
 refine WO.off rfl rfl hb40 rfl ?_
 refine WO.v (R.pickF rfl hb40 rfl) rfl ?_
 refine WO.nil ?_
 exact WX.cutDoneP 5 rfl rfl ⟨⟨_, rfl, vb (band_off hb40)⟩, trivial⟩ (Kp.refl _)
 intro w42 k42
 have z42 : w38.heap.size ≤ w42.heap.size := k42.size
 have b42 := old_kp0 b38 k42
 have y42 : w.heap.size ≤ w42.heap.size := b42.size
 refine WO.v (R.assign rfl) rfl ?_
 refine WO.nil ?_
 refine WX.sel [0, 1, 4, 5, 6, 7, 8, 9, 10, 12, 29, 58] rfl ?_
 refine WX.next ?_
 refine WC.ret ?_
 refine WX.thenRet ?_
 have e0 : ((decide (agreeF (((l.take k).map bF)) = (0 : Int))) && (!(readyF ((((1 + (version.toNat % 3)) : Nat) : Int)) (((l.take k).map bF))))) = true := by first | exact law_empty (by omega) | exact absurd (starts_zero (own_known _ _) ‹_›) (by assumption) | exact law_last (own_known _ _) (by rw [List.all_map]; rfl) (by omega) (by omega)
 refine WX.ret1 Try.results3 rfl ?_
 exact ⟨by rw [e0], Kp.of_below b42⟩
 have p39 : ¬ (((((l.take k).map bF).length : Nat) : Int) = (0 : Int)) := of_decide_eq_false q39
 refine WC.skip ?_
 refine WX.next ?_
 refine WC.seq ?_
 refine WC.region ?_
 refine WO.v (R.assign rfl) rfl ?_
 refine WO.nil ?_
 refine WX.sel [0, 1, 4, 5, 6, 7, 8, 9, 10, 12, 13, 29, 58] rfl ?_
 refine WX.next ?_
 refine WC.seq ?_
 refine WC.seq ?_
 refine WC.region ?_
 refine WO.v (R.assign rfl) rfl ?_
 refine WO.nil ?_
 refine WX.sel [0, 1, 4, 5, 6, 7, 8, 9, 10, 12, 13, 14, 29, 58] rfl ?_
 refine WX.next ?_
 refine WC.block ?_
 refine WC.loopK [0, 1, 4, 5, 6, 7, 8, 9, 10, 12, 29, 58] rfl (fun zz : Nat => [(14, (.int .i64 (((zz) : Nat) : Int))), (13, (.bool ((((l.take k).map bF).take (zz)).any (fun x => decide (x = agreeF ((l.take k).map bF))))))]) (fun (zz : Nat) (w' : World) => (Kp [] w38 w') ∧ ((zz) ≤ ((l.take k).map bF).length)) (fun zz => ((l.take k).map bF).length - (zz)) (0) ?_ ?_ ?_
 exact ⟨⟨_, rfl, rfl⟩, ⟨_, rfl, rfl⟩, trivial⟩
 exact ⟨Kp.refl _, Nat.zero_le _⟩
 rintro i w43 ⟨k43, hi⟩
 try dsimp only at hi
 have z43 : w38.heap.size ≤ w43.heap.size := k43.size
 have b43 := old_kp0 b38 k43
 have y43 : w.heap.size ≤ w43.heap.size := b43.size
 refine (?_ : WC _ _ _ _ ([(14, (.int .i64 ((i : Nat) : Int))), (13, (.bool ((((l.take k).map bF).take i).any (fun x => decide (x = agreeF ((l.take k).map bF))))))] ++ _) w43)
 refine WC.seq ?_
 refine WC.seq ?_
 refine WC.region ?_
 refine WO.v (R.move rfl) rfl ?_
 refine WO.v (R.move rfl) rfl ?_
 refine WO.v (R.len rfl Try.underlying24) rfl ?_
 refine WO.v (R.lss rfl rfl) rfl ?_
 refine WO.nil ?_
 refine WX.sel [0, 1, 4, 5, 6, 7, 8, 9, 10, 12, 13, 14, 29, 58, 73] rfl ?_
 refine WX.next ?_
 refine WC.cond rfl (fun q44 => ?_) (fun q44 => ?_)
 have p44 : ((i : Nat) : Int) < ((((l.take k).map bF).length : Nat) : Int) := of_decide_eq_true q44
 refine WC.skip ?_
 refine WX.next ?_
 refine WC.seq ?_
 refine WC.block ?_
 refine WC.seq ?_
 refine WC.seq ?_
 refine WC.region ?_
 refine WO.v (R.move rfl) rfl ?_
 refine WO.v (R.move rfl) rfl ?_
 obtain ⟨x45, hx45⟩ := get_ex (xs := ((l.take k).map bF)) (i := i) (by omega)
 obtain ⟨A46, cs47, hA46, loA46, hiA46, ccA46, r48⟩ := (((ac_kp0 (ac_kp0 (hac6_0) k38 (by omega) (by omega)) k43 (by omega) (by omega)).pub (L := 0) (H := w43.heap.size) (by omega) (by omega) (by omega) (by omega))).at_ hx45
 obtain ⟨rfl, i49⟩ := r48
 refine WO.v (R.indexAddrN rfl rfl Try.underlying24 sz3 hA46 (by omega)) rfl ?_
 refine WO.v (R.load1 rfl Try.underlying3 rfl (CellsAt.one0 ccA46)) rfl ?_
 refine WO.v (R.move rfl) rfl ?_
 refine WO.c (E.call rfl rfl Try.func10 rfl rfl) (starts_s (a := x45) (b := agreeF (((l.take k).map bF))) ) rfl ?_
 rintro _ _ ⟨rfl, rfl⟩
 refine WO.v (R.neq rfl rfl) rfl ?_
 refine WO.nil ?_
 refine WX.sel [0, 1, 4, 5, 6, 7, 8, 9, 10, 12, 13, 14, 29, 58, 73, 82] rfl ?_
 refine WX.next ?_
 refine WC.cond rfl (fun q50 => ?_) (fun q50 => ?_)
 have p50 : ¬ (startsF (x45) (agreeF (((l.take k).map bF))) = (0 : Int)) := of_decide_eq_false (bnot_t q50)
 refine WC.seq ?_
 refine WC.region ?_
 refine WO.v (R.assign rfl) rfl ?_
 refine WO.nil ?_
 refine WX.sel [0, 1, 4, 5, 6, 7, 8, 9, 10, 12, 13, 14, 29, 58, 73, 82] rfl ?_
 refine WX.next ?_
 refine WC.ret ?_
 refine WX.thenRet ?_
 refine WX.blkRet ?_
 refine WX.thenRet ?_
 refine WX.loopRet ?_
 refine WX.blkRet ?_
 refine WX.thenRet ?_
 have e0 : false = true := by first | exact law_empty (by omega) | exact absurd (starts_zero (own_known _ _) ‹_›) (by assumption) | exact law_last (own_known _ _) (by rw [List.all_map]; rfl) (by omega) (by omega)
 refine WX.ret1 Try.results3 rfl ?_
 exact ⟨by rw [e0], Kp.of_below b43⟩
 have p50 : startsF (x45) (agreeF (((l.take k).map bF))) = (0 : Int) := of_decide_eq_true (bnot_f q50)
 refine WC.skip ?_
 refine WX.next ?_
 refine WC.region ?_
 refine WO.v (R.move rfl) rfl ?_
 refine WO.v (R.move rfl) rfl ?_
 refine WO.cutP 7 [(91, (.bool (((((l.take k).map bF).take i).any (fun x => decide (x = agreeF ((l.take k).map bF)))) || (decide (x45 = agreeF (((l.take k).map bF)))))))] (fun w' => w43 = w') ?_ ?_
 rcases Bool.eq_false_or_eq_true ((((l.take k).map bF).take i).any (fun x => decide (x = agreeF ((l.take k).map bF)))) with hb51 | hb51
 have phb51 : ((((l.take k).map bF).take i).any (fun x => decide (x = agreeF ((l.take k).map bF)))) = true := hb51
 refine WO.off rfl rfl hb51 rfl ?_
 refine WO.off rfl rfl hb51 rfl ?_
 refine WO.off rfl rfl hb51 rfl ?_
 refine WO.off rfl rfl hb51 rfl ?_
 refine WO.off rfl rfl hb51 rfl ?_
 refine WO.off rfl rfl hb51 rfl ?_
 refine WO.v (R.pickT rfl hb51 rfl) rfl ?_
 refine WO.nil ?_
 exact WX.cutDoneP 7 rfl rfl ⟨⟨_, rfl, vb (bor_on hb51)⟩, trivial⟩ (rfl)
 have phb51 : ((((l.take k).map bF).take i).any (fun x => decide (x = agreeF ((l.take k).map bF)))) = false := hb51
 refine WO.on rfl rfl hb51 ?_
 refine WO.v (R.move rfl) rfl ?_
 refine WO.on rfl rfl hb51 ?_
 refine WO.v (R.move rfl) rfl ?_
 refine WO.on rfl rfl hb51 ?_
 obtain ⟨A53, cs54, hA53, loA53, hiA53, ccA53, r55⟩ := (((ac_kp0 (ac_kp0 (hac6_0) k38 (by omega) (by omega)) k43 (by omega) (by omega)).pub (L := 0) (H := w43.heap.size) (by omega) (by omega) (by omega) (by omega))).at_ hx45
 obtain ⟨rfl, i56⟩ := r55
 refine WO.v (R.indexAddrN rfl rfl Try.underlying24 sz3 hA53 (by omega)) rfl ?_
 refine WO.on rfl rfl hb51 ?_
 refine WO.v (R.load1 rfl Try.underlying3 rfl (CellsAt.one0 ccA53)) rfl ?_
 refine WO.on rfl rfl hb51 ?_
 refine WO.v (R.move rfl) rfl ?_
 refine WO.on rfl rfl hb51 ?_
 refine WO.v (R.eql rfl rfl) rfl ?_
 refine WO.v (R.pickF rfl hb51 rfl) rfl ?_
 refine WO.nil ?_
 exact WX.cutDoneP 7 rfl rfl ⟨⟨_, rfl, vb (bor_off hb51)⟩, trivial⟩ (rfl)
 rintro _ rfl
 refine WO.v (R.assign rfl) rfl ?_
 refine WO.nil ?_
 refine WX.sel [0, 1, 4, 5, 6, 7, 8, 9, 10, 12, 13, 14, 29, 58, 73, 82] rfl ?_
 refine WX.blkNormal ?_
 refine WX.next ?_
 refine WC.region ?_
 refine WO.v (R.move rfl) rfl ?_
 refine WO.v (R.inc rfl (by omega)) rfl ?_
 refine WO.v (R.assign rfl) rfl ?_
 refine WO.nil ?_
 refine WX.sel [0, 1, 4, 5, 6, 7, 8, 9, 10, 12, 13, 14, 29, 58, 73, 82] rfl ?_
 exact WX.loopNextK [0, 1, 4, 5, 6, 7, 8, 9, 10, 12, 29, 58] (i + 1) rfl ⟨⟨_, rfl, rfl⟩, ⟨_, rfl, vb (any_step hx45)⟩, trivial⟩ ⟨(Kp.refl _).step k43 (by simp), by omega⟩ (by show (((l.take k).map bF).length - (i + 1)) < (((l.take k).map bF).length - i); omega)
 have p44 : ¬ (((i : Nat) : Int) < ((((l.take k).map bF).length : Nat) : Int)) := of_decide_eq_false q44
 refine WC.exit ?_
 refine WX.thenExit ?_
 refine WX.loopExit ?_
 refine WX.blkHit ?_
 refine WX.next ?_
 refine WC.seq ?_
 refine WC.region ?_
 refine WO.v (R.move rfl) rfl ?_
 refine WO.v (R.move rfl) rfl ?_
 refine WO.on rfl rfl rfl ?_
 refine WO.v (R.move rfl) rfl ?_
 refine WO.v (R.pickT rfl rfl rfl) rfl ?_
 refine WO.v (R.move rfl) rfl ?_
 refine WO.cutP 5 [(101, (.bool (((((l.take k).map bF).take i).any (fun x => decide (x = agreeF ((l.take k).map bF)))) && (decide (agreeF ((((l.take k).map bF).reverse)) = agreeF (((l.take k).map bF)))))))] (fun w' => Kp [] w43 w') ?_ ?_
 rcases Bool.eq_false_or_eq_true ((((l.take k).map bF).take i).any (fun x => decide (x = agreeF ((l.take k).map bF)))) with hb57 | hb57
 have phb57 : ((((l.take k).map bF).take i).any (fun x => decide (x = agreeF ((l.take k).map bF)))) = true := hb57
 refine WO.on rfl rfl hb57 ?_
 refine WO.v (R.move rfl) rfl ?_
 refine WO.on rfl rfl hb57 ?_
 refine WO.c (E.call rfl rfl Try.func8 rfl rfl) (agree_s (l := (((l.take k).map bF).reverse)) (a_l := aa1) (c_l := ac1) ((ac_kp0 (ac_kp0 (hac6_1) k38 (by omega) (by omega)) k43 (by omega) (by omega)).pub (L := 0) (H := w43.heap.size) (by omega) (by omega) (by omega) (by omega))) rfl ?_
 rintro _ w58 ⟨rfl, k58⟩
 have z58 : w43.heap.size ≤ w58.heap.size := k58.size
 have b58 := old_kp0 b43 k58
 have y58 : w.heap.size ≤ w58.heap.size := b58.size
 refine WO.on rfl rfl hb57 ?_
 refine WO.v (R.move rfl) rfl ?_
 refine WO.on rfl rfl hb57 ?_
 refine WO.v (R.eql rfl rfl) rfl ?_
 refine WO.v (R.pickT rfl hb57 rfl) rfl ?_
 refine WO.nil ?_
 exact WX.cutDoneP 5 rfl rfl ⟨⟨_, rfl, vb (band_on hb57)⟩, trivial⟩ ((Kp.refl _).step k58 (by simp))
 have phb57 : ((((l.take k).map bF).take i).any (fun x => decide (x = agreeF ((l.take k).map bF)))) = false := hb57
 refine WO.off rfl rfl hb57 rfl ?_
 refine WO.off rfl rfl hb57 rfl ?_
 refine WO.off rfl rfl hb57 rfl ?_
 refine WO.off rfl rfl hb57 rfl ?_
 refine WO.v (R.pickF rfl hb57 rfl) rfl ?_
 refine WO.nil ?_
 exact WX.cutDoneP 5 rfl rfl ⟨⟨_, rfl, vb (band_off hb57)⟩, trivial⟩ (Kp.refl _)
 intro w59 k59
 have z59 : w43.heap.size ≤ w59.heap.size := k59.size
 have b59 := old_kp0 b43 k59
 have y59 : w.heap.size ≤ w59.heap.size := b59.size
 refine WO.v (R.move rfl) rfl ?_
 refine WO.cutP 10 [(112, (.bool ((((((l.take k).map bF).take i).any (fun x => decide (x = agreeF ((l.take k).map bF)))) && (decide (agreeF ((((l.take k).map bF).reverse)) = agreeF (((l.take k).map bF))))) && (((readyF ((((1 + (version.toNat % 3)) : Nat) : Int)) (((l.take k).map bF))) == ((((l.take k).all (fun x => decide ((((1 + version.toNat % 3) : Nat) : Int) < bF x)))) && (decide ((((1 + (version.toNat % 3)) : Nat) : Int) < (3 : Int)))))))))] (fun w' => Kp [] w59 w') ?_ ?_
 rcases Bool.eq_false_or_eq_true (((((l.take k).map bF).take i).any (fun x => decide (x = agreeF ((l.take k).map bF)))) && (decide (agreeF ((((l.take k).map bF).reverse)) = agreeF (((l.take k).map bF))))) with hb60 | hb60
 have phb60 : (((((l.take k).map bF).take i).any (fun x => decide (x = agreeF ((l.take k).map bF)))) = true) ∧ (agreeF ((((l.take k).map bF).reverse)) = agreeF (((l.take k).map bF))) := ⟨(band_t hb60).1, of_decide_eq_true (band_t hb60).2⟩
 refine WO.on rfl rfl hb60 ?_
 refine WO.v (R.move rfl) rfl ?_
 refine WO.on rfl rfl hb60 ?_
 refine WO.v (R.move rfl) rfl ?_
 refine WO.on rfl rfl hb60 ?_
 refine WO.c (E.call rfl rfl Try.func9 rfl rfl) (ready_s (v := (((1 + (version.toNat % 3)) : Nat) : Int)) (l := ((l.take k).map bF)) (a_l := aa0) (c_l := ac0) ((ac_kp0 (ac_kp0 (ac_kp0 (hac6_0) k38 (by omega) (by omega)) k43 (by omega) (by omega)) k59 (by omega) (by omega)).pub (L := 0) (H := w59.heap.size) (by omega) (by omega) (by omega) (by omega))) rfl ?_
 rintro _ w61 ⟨rfl, k61⟩
 have z61 : w59.heap.size ≤ w61.heap.size := k61.size
 have b61 := old_kp0 b59 k61
 have y61 : w.heap.size ≤ w61.heap.size := b61.size
 refine WO.on rfl rfl hb60 ?_
 refine WO.v (R.move rfl) rfl ?_
 refine WO.on rfl rfl hb60 ?_
 refine WO.v (R.move rfl) rfl ?_
 refine WO.cutP 3 [(110, (.bool ((((l.take k).all (fun x => decide ((((1 + version.toNat % 3) : Nat) : Int) < bF x)))) && (decide ((((1 + (version.toNat % 3)) : Nat) : Int) < (3 : Int))))))] (fun w' => w61 = w') ?_ ?_
 rcases Bool.eq_false_or_eq_true (((l.take k).all (fun x => decide ((((1 + version.toNat % 3) : Nat) : Int) < bF x)))) with hb62 | hb62
 have phb62 : (((l.take k).all (fun x => decide ((((1 + version.toNat % 3) : Nat) : Int) < bF x)))) = true := hb62
 refine WO.on rfl rfl hb62 ?_
 refine WO.v (R.move rfl) rfl ?_
 refine WO.on rfl rfl hb62 ?_
 refine WO.v (R.lss rfl rfl) rfl ?_
 refine WO.on rfl rfl hb60 ?_
 refine WO.v (R.pickT rfl hb62 rfl) rfl ?_
 refine WO.nil ?_
 exact WX.cutDoneP 3 rfl rfl ⟨⟨_, rfl, vb (band_on hb62)⟩, trivial⟩ (rfl)
 have phb62 : (((l.take k).all (fun x => decide ((((1 + version.toNat % 3) : Nat) : Int) < bF x)))) = false := hb62
 refine WO.off rfl rfl hb62 rfl ?_
 refine WO.off rfl rfl hb62 rfl ?_
 refine WO.on rfl rfl hb60 ?_
 refine WO.v (R.pickF rfl hb62 rfl) rfl ?_
 refine WO.nil ?_
 exact WX.cutDoneP 3 rfl rfl ⟨⟨_, rfl, vb (band_off hb62)⟩, trivial⟩ (rfl)
 rintro _ rfl
 refine WO.on rfl rfl hb60 ?_
 refine WO.v (R.eqlB rfl rfl Try.underlying4) rfl ?_
 refine WO.v (R.pickT rfl hb60 rfl) rfl ?_
 refine WO.nil ?_
 exact WX.cutDoneP 8 rfl rfl ⟨⟨_, rfl, vb (band_on hb60)⟩, trivial⟩ ((Kp.refl _).step k61 (by simp))
 have phb60 : (((((l.take k).map bF).take i).any (fun x => decide (x = agreeF ((l.take k).map bF)))) = false) ∨ (¬ (agreeF ((((l.take k).map bF).reverse)) = agreeF (((l.take k).map bF)))) := Or.imp (fun h => h) (fun h => of_decide_eq_false h) (band_f hb60)
 refine WO.off rfl rfl hb60 rfl ?_
 refine WO.off rfl rfl hb60 rfl ?_
 refine WO.off rfl rfl hb60 rfl ?_
 refine WO.off rfl rfl hb60 rfl ?_
 refine WO.off rfl rfl hb60 rfl ?_
 refine WO.offU rfl rfl rfl ?_
 refine WO.offU rfl rfl rfl ?_
 refine WO.off rfl rfl hb60 rfl ?_
 refine WO.off rfl rfl hb60 rfl ?_
 refine WO.v (R.pickF rfl hb60 rfl) rfl ?_
 refine WO.nil ?_
 exact WX.cutDoneP 10 rfl rfl ⟨⟨_, rfl, vb (band_off hb60)⟩, trivial⟩ (Kp.refl _)
 intro w63 k63
 have z63 : w59.heap.size ≤ w63.heap.size := k63.size
 have b63 := old_kp0 b59 k63
 have y63 : w.heap.size ≤ w63.heap.size := b63.size
 refine WO.v (R.move rfl) rfl ?_
 have ac65 := ac_kp0 (ac_kp0 (ac_kp0 (ac_kp0 (hac6_0) k38 (by omega) (by omega)) k43 (by omega) (by omega)) k59 (by omega) (by omega)) k63 (by omega) (by omega)
 have bd66 := ac65.bd
 have ty67 := ac65.ty
 refine WO.cutP 6 [(119, (.bool (((((((l.take k).map bF).take i).any (fun x => decide (x = agreeF ((l.take k).map bF)))) && (decide (agreeF ((((l.take k).map bF).reverse)) = agreeF (((l.take k).map bF))))) && (((readyF ((((1 + (version.toNat % 3)) : Nat) : Int)) (((l.take k).map bF))) == ((((l.take k).all (fun x => decide ((((1 + version.toNat % 3) : Nat) : Int) < bF x)))) && (decide ((((1 + (version.toNat % 3)) : Nat) : Int) < (3 : Int))))))) && (decide (agreeF ((((l.take k).map bF) ++ ([(4 : Int)] : List Int))) = (0 : Int))))))] (fun w' => Kp (ob (.slice aa0 ((l.take k).map bF).length ac0)) w63 w') ?_ ?_
 rcases Bool.eq_false_or_eq_true ((((((l.take k).map bF).take i).any (fun x => decide (x = agreeF ((l.take k).map bF)))) && (decide (agreeF ((((l.take k).map bF).reverse)) = agreeF (((l.take k).map bF))))) && (((readyF ((((1 + (version.toNat % 3)) : Nat) : Int)) (((l.take k).map bF))) == ((((l.take k).all (fun x => decide ((((1 + version.toNat % 3) : Nat) : Int) < bF x)))) && (decide ((((1 + (version.toNat % 3)) : Nat) : Int) < (3 : Int))))))) with hb64 | hb64
 have phb64 : ((((((l.take k).map bF).take i).any (fun x => decide (x = agreeF ((l.take k).map bF)))) = true) ∧ (agreeF ((((l.take k).map bF).reverse)) = agreeF (((l.take k).map bF)))) ∧ ((((readyF ((((1 + (version.toNat % 3)) : Nat) : Int)) (((l.take k).map bF))) == ((((l.take k).all (fun x => decide ((((1 + version.toNat % 3) : Nat) : Int) < bF x)))) && (decide ((((1 + (version.toNat % 3)) : Nat) : Int) < (3 : Int)))))) = true) := ⟨⟨(band_t (band_t hb64).1).1, of_decide_eq_true (band_t (band_t hb64).1).2⟩, (band_t hb64).2⟩
 refine WO.on rfl rfl hb64 ?_
 refine WO.v (R.move rfl) rfl ?_
 refine WO.on rfl rfl hb64 ?_
 refine WO.buildSlice (parts := [_]) (vss := [[_]]) Try.underlying24 sz3 zr3 rfl rfl (by simp) rfl rfl rfl ?_
 intro w68 n68
 have z68 : w63.heap.size < w68.heap.size := n68.lt
 have b68 := old_kp0 b63 n68.kp
 have y68 : w.heap.size ≤ w68.heap.size := b68.size
 have ac69 : Ac (α := Int) (w63.heap.size) true (w.heap.size) (w68.heap.size) (w68.heap.size) w68 (.slice (some ⟨w63.heap.size, 0, none⟩) 1 1) ([(4 : Int)] : List Int) := Ac.lit (α := Int) (ys := ([(4 : Int)] : List Int)) (css := [[_]]) n68.blk (.cons (⟨rfl, show I64 (4) from ⟨by omega, by omega⟩⟩) (.nil)) (by omega) (by omega) (by simp [maxLen]) (by show 1 * 8 ≤ 140737488355328; decide) rfl
 have lenac69 : ([(4 : Int)] : List Int).length = 1 := rfl
 refine WO.on rfl rfl hb64 ?_
 have ac75 : Ac (α := Int) (w4.heap.size) true (w.heap.size) (w68.heap.size) (w7.heap.size) w68 (.slice aa0 ((l.take k).map bF).length ac0) ((l.take k).map bF) := (ac_kp0 (ac_kp0 (ac_kp0 (ac_kp0 (ac_kp0 (hac6_0) k38 (by omega) (by omega)) k43 (by omega) (by omega)) k59 (by omega) (by omega)) k63 (by omega) (by omega)) n68.kp (by omega) (by omega)).mono (Nat.le_refl _) (Nat.le_refl _) (by omega) (Nat.le_refl _)
 have bd70 := ac75.bd
 have ty76 := ac75.ty
 have lenac75 : (((l.take k).map bF)).length * 8 ≤ 140737488355328 := ac75.lenle
 have lxac75 : (((l.take k).map bF) ++ ([(4 : Int)] : List Int)).length = ((l.take k).map bF).length + ([(4 : Int)] : List Int).length := List.length_append
 refine WO.append rfl ac75 (by omega) (by omega) (by omega) rfl rfl (ys := ([(4 : Int)] : List Int)) (Src.flat (((ac69).pub (L := 0) (H := w68.heap.size) (by omega) (by omega) (by omega) (by omega))) (fun h => h)) (.inl rfl) Try.underlying24 inf3 rfl rfl rfl (by decide) (by omega) (by omega) rfl ?_
 intro a72 c73 w71 h74 k71 or77
 have z71 : w68.heap.size ≤ w71.heap.size := k71.size
 have b71 := old_kp b68 k71 (fun g hg => by have := bd70 g hg; omega)
 have y71 : w.heap.size ≤ w71.heap.size := b71.size
 refine WO.on rfl rfl hb64 ?_
 refine WO.c (E.call rfl rfl Try.func8 rfl rfl) (agree_s (l := (((l.take k).map bF) ++ ([(4 : Int)] : List Int))) (a_l := a72) (c_l := c73) ((h74).pub (L := 0) (H := w71.heap.size) (by omega) (by omega) (by omega) (by omega))) rfl ?_
 rintro _ w78 ⟨rfl, k78⟩
 have z78 : w71.heap.size ≤ w78.heap.size := k78.size
 have b78 := old_kp0 b71 k78
 have y78 : w.heap.size ≤ w78.heap.size := b78.size
 refine WO.on rfl rfl hb64 ?_
 refine WO.v (R.eql rfl rfl) rfl ?_
 refine WO.v (R.pickT rfl hb64 rfl) rfl ?_
 refine WO.nil ?_
 exact WX.cutDoneP 6 rfl rfl ⟨⟨_, rfl, vb (band_on hb64)⟩, trivial⟩ (((((Kp.refl _).sub (by simp)).step n68.kp (by simp)).step k71 (fun g hg => .inl hg)).step k78 (by simp))
 have phb64 : ((((((l.take k).map bF).take i).any (fun x => decide (x = agreeF ((l.take k).map bF)))) = false) ∨ (¬ (agreeF ((((l.take k).map bF).reverse)) = agreeF (((l.take k).map bF))))) ∨ ((((readyF ((((1 + (version.toNat % 3)) : Nat) : Int)) (((l.take k).map bF))) == ((((l.take k).all (fun x => decide ((((1 + version.toNat % 3) : Nat) : Int) < bF x)))) && (decide ((((1 + (version.toNat % 3)) : Nat) : Int) < (3 : Int)))))) = false) := Or.imp (fun h => Or.imp (fun h => h) (fun h => of_decide_eq_false h) (band_f h)) (fun h => h) (band_f hb64)
 refine WO.off rfl rfl hb64 rfl ?_
 refine WO.off rfl rfl hb64 rfl ?_
 refine WO.off rfl rfl hb64 rfl ?_
 refine WO.off rfl rfl hb64 rfl ?_
 refine WO.off rfl rfl hb64 rfl ?_
 refine WO.v (R.pickF rfl hb64 rfl) rfl ?_
 refine WO.nil ?_
 exact WX.cutDoneP 6 rfl rfl ⟨⟨_, rfl, vb (band_off hb64)⟩, trivial⟩ ((Kp.refl _).sub (by simp))
 intro w79 k79
 have z79 : w63.heap.size ≤ w79.heap.size := k79.size
 have b79 := old_kp b63 k79 (fun g hg => by have := bd66 g hg; omega)
 have y79 : w.heap.size ≤ w79.heap.size := b79.size
 refine WO.v (R.assign rfl) rfl ?_
 refine WO.nil ?_
 refine WX.sel [0, 1, 4, 5, 6, 7, 8, 9, 10, 12, 13, 14, 29, 58, 73] rfl ?_
 refine WX.next ?_
 refine WC.ret ?_
 have e0 : (((((((l.take k).map bF).take i).any (fun x => decide (x = agreeF ((l.take k).map bF)))) && (decide (agreeF ((((l.take k).map bF).reverse)) = agreeF (((l.take k).map bF))))) && (((readyF ((((1 + (version.toNat % 3)) : Nat) : Int)) (((l.take k).map bF))) == ((((l.take k).all (fun x => decide ((((1 + version.toNat % 3) : Nat) : Int) < bF x)))) && (decide ((((1 + (version.toNat % 3)) : Nat) : Int) < (3 : Int))))))) && (decide (agreeF ((((l.take k).map bF) ++ ([(4 : Int)] : List Int))) = (0 : Int)))) = true := by first | exact law_empty (by omega) | exact absurd (starts_zero (own_known _ _) ‹_›) (by assumption) | exact law_last (own_known _ _) (by rw [List.all_map]; rfl) (by omega) (by omega)
 refine WX.ret1 Try.results3 rfl ?_
 exact ⟨by rw [e0], Kp.of_below b79⟩


end Go.Proofs.Ytaenkjlhdlddgaa
