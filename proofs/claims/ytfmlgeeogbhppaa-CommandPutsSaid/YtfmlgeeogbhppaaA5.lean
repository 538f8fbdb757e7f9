/- Contracts of functions, walked operation by operation. -/
import Derived.Test.YtfmlgeeogbhppaaA3
namespace Go.Proofs.Ytfmlgeeogbhppaa
open Go.RowKit

def sizeF (n : Nat) : Nat := if h : n < 128 then 1 else sizeF (n / 128) + 1
termination_by n
decreasing_by omega
theorem sizeF_step {n : Nat} (h : ¬ n < 128) : sizeF n = sizeF (n / 128) + 1 := by rw [sizeF, dif_neg h]
theorem sizeF_done {n : Nat} (h : n < 128) : sizeF n = 1 := by rw [sizeF, dif_pos h]
theorem sizeF_pos (n : Nat) : 1 ≤ sizeF n := by rw [sizeF]; split <;> omega
theorem sizeF_le : ∀ (k n : Nat), n < 128 ^ (k + 1) → sizeF n ≤ k + 1
  | 0, n, h => by rw [sizeF_done (by simpa using h)]; omega
  | k + 1, n, h => by
    by_cases hn : n < 128
    · rw [sizeF_done hn]; omega
    · rw [sizeF_step hn]
      have := sizeF_le k (n / 128) (by rw [Nat.div_lt_iff_lt_mul (by omega), ← Nat.pow_succ]; exact h)
      omega
theorem sizeF_10 {n : Nat} (h : n < 18446744073709551616) : sizeF n ≤ 10 := sizeF_le 9 n (Nat.lt_of_lt_of_le h (by decide))
def putB (n i : Nat) : UInt8 := UInt8.ofNat (n / 128 ^ i) ||| 128
def putTo (n k : Nat) : List UInt8 := (List.range k).map (putB n) ++ List.replicate (sizeF n - k) 0
def putF (n : Nat) : List UInt8 := (putTo n (sizeF n)).set (sizeF n - 1) (putB n (sizeF n - 1) &&& 127)
theorem putTo_len {n k : Nat} (h : k ≤ sizeF n) : (putTo n k).length = sizeF n := by simp [putTo]; omega
theorem putTo_step {n k : Nat} (h : k < sizeF n) : (putTo n k).set k (putB n k) = putTo n (k + 1) := by
  unfold putTo
  rw [List.set_append_right _ _ (by simp), List.range_succ, List.map_append, List.append_assoc]
  congr 1
  obtain ⟨j, hj⟩ : ∃ j, sizeF n - k = j + 1 := ⟨sizeF n - k - 1, by omega⟩
  rw [hj, show sizeF n - (k + 1) = j by omega]
  simp [List.replicate_succ]
theorem putTo_zero (n : Nat) : List.replicate (sizeF n) (0 : UInt8) = putTo n 0 := by simp [putTo]
theorem putTo_last {n : Nat} {x : UInt8} (h : (putTo n (sizeF n))[sizeF n - 1]? = some x) : x = putB n (sizeF n - 1) := by
  have hp := sizeF_pos n
  unfold putTo at h
  rw [List.getElem?_append_left (by simp; omega)] at h
  simp only [List.getElem?_map, List.getElem?_range (show sizeF n - 1 < sizeF n by omega), Option.map_some, Option.some.injEq] at h
  exact h.symm
theorem div_pow {n k : Nat} : n / 128 ^ k / 2 ^ 7 = n / 128 ^ (k + 1) := by show n / 128 ^ k / 128 = _; rw [Nat.div_div_eq_div_mul, Nat.pow_succ]
theorem putF_len (n : Nat) : (putF n).length = sizeF n := by rw [putF, List.length_set, putTo_len (Nat.le_refl _)]
theorem putF_len10 {n : Nat} (h : n < 18446744073709551616) : (putF n).length ≤ 10 := by rw [putF_len]; exact sizeF_10 h
def putsF (l : List Int) : List UInt8 := l.flatMap fun x => putF x.toNat
theorem puts_step {l : List Int} {k : Nat} {x : Int} (hx : l[k]? = some x) : putsF (l.take k) ++ putF x.toNat = putsF (l.take (k + 1)) := by
  rw [take_succ_get hx]; simp [putsF]
theorem puts_len {l : List Int} (h : ∀ x ∈ l, x ≤ 64) : (putsF l).length ≤ 10 * l.length := by
  induction l with
  | nil => simp [putsF]
  | cons a l ih =>
    have h1 := ih fun x hx => h x (List.mem_cons_of_mem _ hx)
    have h2 := putF_len10 (n := a.toNat) (by have := h a (by simp); omega)
    simp only [putsF, List.flatMap_cons, List.length_append, List.length_cons] at *
    omega
theorem row_le {l : List Int} (h : rowF l = true) : ∀ x ∈ l, 0 < x ∧ x ≤ 64 := by
  rw [rowF, Bool.and_eq_true] at h
  have : ∀ (l : List Int) (a : Int), 0 ≤ a → risingF id 64 a l = true → ∀ x ∈ l, 0 < x ∧ x ≤ 64 := by
    intro l
    induction l with
    | nil => intro a _ _ x hx; cases hx
    | cons y l ih =>
      intro a ha hl x hx
      rw [risingF, Bool.and_eq_true, inB, Bool.and_eq_true, decide_eq_true_eq, decide_eq_true_eq] at hl
      have h1 : a + 1 ≤ y := hl.1.1
      have h2 : y ≤ 64 := hl.1.2
      rcases List.mem_cons.1 hx with rfl | hx
      · omega
      · exact ih (id y) (by show 0 ≤ y; omega) hl.2 x hx
  exact this l 0 (by omega) h.2
theorem row_len {l : List Int} (h : rowF l = true) : 1 ≤ l.length ∧ l.length ≤ 8 := by
  rw [rowF, Bool.and_eq_true, Bool.and_eq_true, decide_eq_true_eq, decide_eq_true_eq] at h
  omega
def chunksB (l : List Int) : List UInt8 := if rowF l then putsF l else []
def chunksE (l : List Int) : Int := if rowF l then 0 else 1
theorem puts_all {l : List Int} {k : Nat} (hr : rowF l = true) (hk : l.length ≤ k) : putsF (l.take k) = chunksB l := by rw [List.take_of_length_le hk, chunksB, if_pos hr]
theorem chunks_no {l : List Int} (hr : rowF l = false) : [] = chunksB l := by rw [chunksB, hr]; rfl
theorem chunksE_yes {l : List Int} (hr : rowF l = true) : 0 = chunksE l := by rw [chunksE, hr]; rfl
theorem chunksE_no {l : List Int} (hr : rowF l = false) : 1 = chunksE l := by rw [chunksE, hr]; rfl

theorem sz5 : (Try.prog.info? 5).map (·.size) = some 1 := by kernel_rfl
theorem inf5 : (Try.prog.info? 5).map (fun i => (i.zero.map Value.cells, i.size, i.bytes)) = some (some ([.int .u8 0] : List Value).toArray, 1, 1) := by kernel_rfl

set_option maxRecDepth 100000 in
set_option maxHeartbeats 400000 in
theorem size_s {w : World} (n : Nat) (i_n : n < 18446744073709551616) :
    Ret Try.prog 70 [.int .u64 ((n : Nat) : Int)].toArray w fun r w' => r = .int .i64 ((sizeF n : Nat) : Int) ∧ Kp [] w w' := by
 refine Ret.enter Try.func70 rfl Try.ntmps70 rfl rfl ?_
 refine WC.sel [0] rfl ?_
 refine WC.seq ?_
 refine WC.region ?_
 refine WO.v (R.assign rfl) rfl ?_
 refine WO.nil ?_
 refine WX.sel [0, 2] rfl ?_
 refine WX.next ?_
 refine WC.seq ?_
 refine WC.region ?_
 refine WO.v (R.assign rfl) rfl ?_
 refine WO.nil ?_
 refine WX.sel [0, 2, 3] rfl ?_
 refine WX.next ?_
 refine WC.seq ?_
 refine WC.block ?_
 refine WC.loopK [2] rfl (fun zz : Nat × Nat => [(0, (.int .u64 (((zz.1) : Nat) : Int))), (3, (.int .i64 (((zz.2) : Nat) : Int)))]) (fun (zz : Nat × Nat) (w' : World) => (Kp [] w w') ∧ ((zz.1) < 18446744073709551616) ∧ (sizeF n + 1 = sizeF (zz.1) + (zz.2)) ∧ ((zz.2) ≤ 10)) (fun zz => (zz.1)) (n, 1) ?_ ?_ ?_
 exact ⟨⟨_, rfl, rfl⟩, ⟨_, rfl, rfl⟩, trivial⟩
 exact ⟨Kp.refl _, i_n, rfl, by omega⟩
 rintro ⟨r, m⟩ w1 ⟨k1, hr, hs, hm⟩
 try dsimp only at hr hs hm
 have z1 := k1.size
 have b1 := old_kp0 (Below.refl w.heap.size w) k1
 have y1 := b1.size
 refine (?_ : WC _ _ _ _ ([(0, (.int .u64 ((r : Nat) : Int))), (3, (.int .i64 ((m : Nat) : Int)))] ++ _) w1)
 have h10 := sizeF_10 i_n
 have hp := sizeF_pos r
 refine WC.seq ?_
 refine WC.seq ?_
 refine WC.region ?_
 refine WO.v (R.move rfl) rfl ?_
 refine WO.v (R.geq rfl rfl) rfl ?_
 refine WO.nil ?_
 refine WX.sel [0, 2, 3, 5] rfl ?_
 refine WX.next ?_
 refine WC.cond rfl (fun q2 => ?_) (fun q2 => ?_)
 have p2 : (128 : Int) ≤ ((r : Nat) : Int) := of_decide_eq_true q2
 refine WC.skip ?_
 refine WX.next ?_
 refine WC.block ?_
 refine WC.seq ?_
 refine WC.region ?_
 refine WO.v (R.move rfl) rfl ?_
 refine WO.v (R.shrN (a := r) (b := 7) rfl rfl (by decide)) rfl ?_
 refine WO.v (R.assign rfl) rfl ?_
 refine WO.nil ?_
 refine WX.sel [0, 2, 3, 5] rfl ?_
 refine WX.next ?_
 refine WC.region ?_
 refine WO.v (R.move rfl) rfl ?_
 refine WO.v (R.inc rfl (by omega)) rfl ?_
 refine WO.v (R.assign rfl) rfl ?_
 refine WO.nil ?_
 refine WX.sel [0, 2, 3, 5] rfl ?_
 refine WX.blkNormal ?_
 have hst := sizeF_step (n := r) (by omega)
 have e27 : r / 2 ^ 7 = r / 128 := rfl
 have hp2 := sizeF_pos (r / 128)
 exact WX.loopNextK [2] (r / 2 ^ 7, m + 1) rfl ⟨⟨_, rfl, rfl⟩, ⟨_, rfl, rfl⟩, trivial⟩ ⟨(Kp.refl _).step k1 (by simp), (by show r / 2 ^ 7 < _; omega), (by show sizeF n + 1 = sizeF (r / 128) + (m + 1); omega), (by show m + 1 ≤ 10; omega)⟩ (by show ((r / 2 ^ 7)) < (r); omega)
 have p2 : ¬ ((128 : Int) ≤ ((r : Nat) : Int)) := of_decide_eq_false q2
 refine WC.exit ?_
 refine WX.thenExit ?_
 refine WX.loopExit ?_
 refine WX.blkHit ?_
 refine WX.next ?_
 refine WC.seq ?_
 refine WC.region ?_
 refine WO.v (R.move rfl) rfl ?_
 refine WO.v (R.assign rfl) rfl ?_
 refine WO.nil ?_
 refine WX.sel [0, 2, 3, 5] rfl ?_
 refine WX.next ?_
 refine WC.ret ?_
 have e0 : ((m : Nat) : Int) = (((sizeF n) : Nat) : Int) := by have h10 := sizeF_done (n := r) (by omega); omega
 refine WX.ret1 Try.results70 rfl ?_
 exact ⟨by rw [e0], Kp.of_below b1⟩

set_option maxRecDepth 100000 in
set_option maxHeartbeats 400000 in
theorem put_s {w : World} (n : Nat) (i_n : n < 18446744073709551616) :
    Ret Try.prog 45 [.int .u64 ((n : Nat) : Int)].toArray w fun r w' => ∃ (ra0 : Option Addr) (rc0 : Nat), r = .slice ra0 (putF n).length rc0 ∧ Ac w.heap.size true w.heap.size w'.heap.size w'.heap.size w' (.slice ra0 (putF n).length rc0) (putF n) ∧ Kp [] w w' := by
 have h10 := sizeF_10 i_n
 have hsp := sizeF_pos n
 refine Ret.enter Try.func45 rfl Try.ntmps45 rfl rfl ?_
 refine WC.sel [0] rfl ?_
 refine WC.seq ?_
 refine WC.region ?_
 refine WO.v (R.assign rfl) rfl ?_
 refine WO.nil ?_
 refine WX.sel [0, 2] rfl ?_
 refine WX.next ?_
 refine WC.seq ?_
 refine WC.region ?_
 refine WO.v (R.move rfl) rfl ?_
 refine WO.c (E.call rfl rfl Try.func70 rfl rfl) (size_s (n := n) (i_n)) rfl ?_
 rintro _ w1 ⟨rfl, k1⟩
 have z1 := k1.size
 have b1 := old_kp0 (Below.refl w.heap.size w) k1
 have y1 := b1.size
 refine WO.v (R.assign rfl) rfl ?_
 refine WO.nil ?_
 refine WX.sel [0, 2, 3] rfl ?_
 refine WX.next ?_
 refine WC.seq ?_
 refine WC.region ?_
 refine WO.v (R.move rfl) rfl ?_
 refine WO.make1 (o2 := true) (lo2 := w.heap.size) (hi2 := w1.heap.size) (m := (sizeF (n))) (z := (0 : UInt8)) rfl rfl Try.underlying27 inf5 rfl rfl rfl (fun _ _ _ _ => rfl) (by omega) (by simp only [maxLen]; omega) rfl ?_
 intro w2 h3 k2 z_2
 have z2 := z_2
 have b2 := old_kp0 b1 k2
 have y2 := b2.size
 have lnh3 : (List.replicate (sizeF (n)) (0 : UInt8)).length = (sizeF (n)) := List.length_replicate
 refine WO.v (R.assign rfl) rfl ?_
 refine WO.nil ?_
 refine WX.sel [0, 2, 3, 4] rfl ?_
 refine WX.next ?_
 refine WC.seq ?_
 refine WC.seq ?_
 refine WC.region ?_
 refine WO.v (R.move rfl) rfl ?_
 refine WO.v (R.move rfl) rfl ?_
 refine WO.nil ?_
 refine WX.sel [0, 2, 3, 4, 10, 11] rfl ?_
 refine WX.next ?_
 refine WC.block ?_
 have ac4 := h3
 have bd5 := ac4.bd
 have ty6 := ac4.ty
 refine WC.loopK [2, 3, 10] rfl (fun zz : Nat × Option Addr × Nat => [(11, (.int .i64 (((zz.1) : Nat) : Int))), (0, (.int .u64 ((n / 128 ^ (zz.1) : Nat) : Int))), (4, (.slice (zz.2.1) (putTo n (zz.1)).length (zz.2.2)))]) (fun (zz : Nat × Option Addr × Nat) (w' : World) => (Kp (ob (.slice (some ⟨w1.heap.size, 0, none⟩) (sizeF (n)) (sizeF (n)))) w2 w') ∧ ((zz.1) ≤ (sizeF n)) ∧ (n / 128 ^ (zz.1) < 18446744073709551616) ∧ (Ac (α := UInt8) (w1.heap.size) true (w.heap.size) (w'.heap.size) w'.heap.size w' (.slice (zz.2.1) (putTo n (zz.1)).length (zz.2.2)) (putTo n (zz.1))) ∧ (∀ g ∈ ob (.slice (zz.2.1) (putTo n (zz.1)).length (zz.2.2)), g ∈ ob (.slice (some ⟨w1.heap.size, 0, none⟩) (sizeF (n)) (sizeF (n))) ∨ w2.heap.size ≤ g)) (fun zz => (sizeF n) - (zz.1)) (0, (some ⟨w1.heap.size, 0, none⟩), (sizeF (n))) ?_ ?_ ?_
 exact ⟨⟨_, rfl, rfl⟩, ⟨_, rfl, vi (by simp)⟩, ⟨_, rfl, vs_n (by rw [← (putTo_zero n)]; simp only [List.length_replicate])⟩, trivial⟩
 exact ⟨(Kp.refl _).sub (by simp), Nat.zero_le _, by simpa using i_n, (ac_n ((h3).mono (Nat.le_refl _) (by omega) (by omega) (by omega)) (putTo_zero n) (by rw [← (putTo_zero n)]; simp only [List.length_replicate])), or_init⟩
 rintro ⟨k, aa0, ac0⟩ w7 ⟨k7, hk, hnk, hac3_0, hor3_0⟩
 try dsimp only at hk hnk hac3_0 hor3_0
 have z7 := k7.size
 have b7 := old_kp b2 k7 (fun g hg => by have := bd5 g hg; omega)
 have y7 := b7.size
 refine (?_ : WC _ _ _ _ ([(11, (.int .i64 ((k : Nat) : Int))), (0, (.int .u64 ((n / 128 ^ k : Nat) : Int))), (4, (.slice aa0 (putTo n k).length ac0))] ++ _) w7)
 have hpl := putTo_len hk
 have : (putTo n k).length ≤ sizeF n := by rw [putTo_len hk]; exact Nat.le_refl _
 have lenhac3_0 : (putTo n k).length * 1 ≤ 140737488355328 := hac3_0.lenle
 refine WC.seq ?_
 refine WC.region ?_
 refine WO.v (R.lss rfl rfl) rfl ?_
 refine WO.nil ?_
 refine WX.sel [0, 2, 3, 4, 10, 11, 12] rfl ?_
 refine WX.next ?_
 refine WC.seq ?_
 refine WC.cond rfl (fun q8 => ?_) (fun q8 => ?_)
 have p8 : ((k : Nat) : Int) < (((sizeF (n)) : Nat) : Int) := of_decide_eq_true q8
 refine WC.skip ?_
 refine WX.next ?_
 refine WC.seq ?_
 refine WC.block ?_
 refine WC.seq ?_
 refine WC.region ?_
 refine WO.v (R.move rfl) rfl ?_
 refine WO.v (R.assign rfl) rfl ?_
 refine WO.nil ?_
 refine WX.sel [0, 2, 3, 4, 5, 10, 11, 12] rfl ?_
 refine WX.next ?_
 refine WC.seq ?_
 refine WC.region ?_
 refine WO.v (R.move rfl) rfl ?_
 refine WO.v (R.move rfl) rfl ?_
 refine WO.v (R.move rfl) rfl ?_
 refine WO.v (R.toU8 (a := (n / 128 ^ k)) rfl Try.underlying35 Try.underlying5) rfl ?_
 refine WO.v (R.orU8 (a := (UInt8.ofNat (n / 128 ^ k))) (b := (128 : UInt8)) rfl rfl) rfl ?_
 obtain ⟨x9, hx9⟩ := get_ex (xs := (putTo n k)) (i := k) (by omega)
 obtain ⟨A10, cs11, hA10, loA10, hiA10, ccA10, r12⟩ := (((hac3_0).pub (L := 0) (H := w7.heap.size) (by omega) (by omega) (by omega) (by omega))).at_ hx9
 obtain rfl := r12
 refine WO.v (R.indexAddrN rfl rfl Try.underlying27 sz5 hA10 (by omega)) rfl ?_
 have ac13 := (hac3_0).mono (Nat.le_refl _) (Nat.le_refl _) (by omega : _ ≤ w7.heap.size) (Nat.le_refl _)
 have bd14 := ac13.bd
 have ty15 := ac13.ty
 refine WO.storeE (j := 0) (z := ((UInt8.ofNat (n / 128 ^ k)) ||| (128 : UInt8))) rfl rfl ac13 (by omega) hA10 hx9 (by decide) (add_zero_ _).symm rfl sz5 (.inl rfl) (fun cs h => by obtain rfl := h; exact rfl) ?_
 intro w16 h17 k16 z_16
 have z16 := z_16.symm
 have b16 := old_kp b7 k16 (fun g hg => by have := bd14 g hg; omega)
 have y16 := b16.size
 have lsh17 : ((putTo n k).set k ((UInt8.ofNat (n / 128 ^ k)) ||| (128 : UInt8))).length = (putTo n k).length := List.length_set
 refine WO.nil ?_
 refine WX.sel [0, 2, 3, 4, 5, 10, 11, 12] rfl ?_
 refine WX.next ?_
 refine WC.region ?_
 refine WO.v (R.move rfl) rfl ?_
 refine WO.v (R.shrN (a := (n / 128 ^ k)) (b := 7) rfl rfl (by decide)) rfl ?_
 refine WO.v (R.assign rfl) rfl ?_
 refine WO.nil ?_
 refine WX.sel [0, 2, 3, 4, 5, 10, 11, 12] rfl ?_
 refine WX.blkNormal ?_
 refine WX.next ?_
 refine WC.region ?_
 refine WO.v (R.inc rfl (by omega)) rfl ?_
 refine WO.v (R.move rfl) rfl ?_
 refine WO.nil ?_
 refine WX.sel [0, 2, 3, 4, 5, 10, 11, 12] rfl ?_
 have E18 : ((putTo n k).set k ((UInt8.ofNat (n / 128 ^ k)) ||| (128 : UInt8))) = putTo n (k + 1) := putTo_step (by omega)
 have nE18 : (putTo n k).length = (putTo n (k + 1)).length := by rw [← E18]; simp only [List.length_set]
 exact WX.loopNextK [2, 3, 10] (k + 1, aa0, ac0) rfl ⟨⟨_, rfl, rfl⟩, ⟨_, rfl, vi (by rw [div_pow])⟩, ⟨_, rfl, vs_n nE18⟩, trivial⟩ ⟨(((Kp.refl _).sub (by simp)).step k7 (fun g hg => .inl hg)).step k16 (fun g hg => hor3_0 g hg), by omega, (by show n / 128 ^ (k + 1) < _; rw [← div_pow]; omega), ac_n ((h17).mono (by omega) (by omega) (by omega) (by omega)) E18 nE18, or_n (m := (putTo n k).length) (fun g hg => hor3_0 g hg)⟩ (by show ((sizeF n) - (k + 1)) < ((sizeF n) - k); omega)
 have p8 : ¬ (((k : Nat) : Int) < (((sizeF (n)) : Nat) : Int)) := of_decide_eq_false q8
 refine WC.exit ?_
 refine WX.thenExit ?_
 refine WX.loopExit ?_
 refine WX.blkHit ?_
 refine WX.next ?_
 refine WC.seq ?_
 refine WC.region ?_
 refine WO.v (R.move rfl) rfl ?_
 refine WO.v (R.move rfl) rfl ?_
 have i19 : I64 ((((sizeF (n)) : Nat) : Int) - (1 : Int)) := by exact ⟨by omega, by omega⟩
 refine WO.v (R.sub rfl rfl i19) rfl ?_
 obtain ⟨x20, hx20⟩ := get_ex (xs := (putTo n k)) (i := ((sizeF (n)) - 1)) (by omega)
 obtain ⟨A21, cs22, hA21, loA21, hiA21, ccA21, r23⟩ := (((hac3_0).pub (L := 0) (H := w7.heap.size) (by omega) (by omega) (by omega) (by omega))).at_ hx20
 obtain rfl := r23
 refine WO.v (R.indexAddrJ rfl rfl Try.underlying27 sz5 hA21 (i := ((sizeF (n)) - 1)) (by omega) (by omega)) rfl ?_
 refine WO.v (R.load1 rfl Try.underlying5 rfl (CellsAt.one0 ccA21)) rfl ?_
 refine WO.v (R.andU8 (a := x20) (b := (127 : UInt8)) rfl rfl) rfl ?_
 obtain ⟨A25, cs26, hA25, loA25, hiA25, ccA25, r27⟩ := (((hac3_0).pub (L := 0) (H := w7.heap.size) (by omega) (by omega) (by omega) (by omega))).at_ hx20
 obtain rfl := r27
 refine WO.v (R.indexAddrJ rfl rfl Try.underlying27 sz5 hA25 (i := ((sizeF (n)) - 1)) (by omega) (by omega)) rfl ?_
 have ac28 := (hac3_0).mono (Nat.le_refl _) (Nat.le_refl _) (by omega : _ ≤ w7.heap.size) (Nat.le_refl _)
 have bd29 := ac28.bd
 have ty30 := ac28.ty
 refine WO.storeE (j := 0) (z := (x20 &&& (127 : UInt8))) rfl rfl ac28 (by omega) hA25 hx20 (by decide) (add_zero_ _).symm rfl sz5 (.inl rfl) (fun cs h => by obtain rfl := h; exact rfl) ?_
 intro w31 h32 k31 z_31
 have z31 := z_31.symm
 have b31 := old_kp b7 k31 (fun g hg => by have := bd29 g hg; omega)
 have y31 := b31.size
 have lsh32 : ((putTo n k).set ((sizeF (n)) - 1) (x20 &&& (127 : UInt8))).length = (putTo n k).length := List.length_set
 refine WO.nil ?_
 refine WX.sel [0, 2, 3, 4, 10, 11, 12] rfl ?_
 refine WX.next ?_
 refine WC.seq ?_
 refine WC.region ?_
 refine WO.v (R.move rfl) rfl ?_
 refine WO.v (R.assign rfl) rfl ?_
 refine WO.nil ?_
 refine WX.sel [0, 2, 3, 4, 10, 11, 12] rfl ?_
 refine WX.next ?_
 refine WC.ret ?_
 have e0 : ((putTo n k).set ((sizeF (n)) - 1) (x20 &&& (127 : UInt8))) = (putF n) := by have hkk : k = sizeF n := (by omega); subst hkk; have hxx := putTo_last (n := n) ‹(putTo n (sizeF n))[sizeF n - 1]? = some _›; rw [hxx]; rfl
 have n0 : (putTo n k).length = (putF n).length := by rw [← e0]; simp only [List.length_set]
 have f0 : Ac (α := UInt8) w.heap.size true w.heap.size w31.heap.size w31.heap.size w31 (.slice aa0 (putTo n k).length ac0) ((putTo n k).set ((sizeF (n)) - 1) (x20 &&& (127 : UInt8))) := ((h32).mono (by omega) (by omega) (by omega) (by omega))
 refine WX.ret1 Try.results45 rfl ?_
 exact ⟨aa0, ac0, by rw [n0], (acl_n f0 e0 n0), Kp.of_below b31⟩

set_option maxRecDepth 100000 in
set_option maxHeartbeats 400000 in
theorem chunks_s {w : World} {a_l : Option Addr} {c_l : Nat} {l : List Int} (h_l : Sl false 0 w.heap.size w (.slice a_l l.length c_l) l) :
    Ret Try.prog 20 [.slice a_l l.length c_l].toArray w fun r w' => ∃ (ra0 : Option Addr) (rc0 : Nat), r = .tuple #[.slice ra0 (chunksB l).length rc0, .int .i64 (chunksE l)] ∧ Ac w.heap.size true w.heap.size w'.heap.size w'.heap.size w' (.slice ra0 (chunksB l).length rc0) (chunksB l) ∧ Kp [] w w' := by
 have len_l : (l).length * 8 ≤ 140737488355328 := h_l.lenle
 refine Ret.enter Try.func20 rfl Try.ntmps20 rfl rfl ?_
 refine WC.sel [0] rfl ?_
 refine WC.seq ?_
 refine WC.region ?_
 refine WO.v (R.assign rfl) rfl ?_
 refine WO.v (R.assign rfl) rfl ?_
 refine WO.nil ?_
 refine WX.sel [0, 2, 3] rfl ?_
 refine WX.next ?_
 refine WC.seq ?_
 refine WC.seq ?_
 refine WC.region ?_
 refine WO.v (R.move rfl) rfl ?_
 refine WO.c (E.call rfl rfl Try.func44 rfl rfl) (row_s (l := l) (a_l := a_l) (c_l := c_l) ((h_l).mono (lo' := 0) (hi' := w.heap.size) (Nat.zero_le _) (by omega))) rfl ?_
 rintro _ w1 ⟨rfl, k1⟩
 have z1 := k1.size
 have b1 := old_kp0 (Below.refl w.heap.size w) k1
 have y1 := b1.size
 refine WO.v (R.not rfl) rfl ?_
 refine WO.nil ?_
 refine WX.sel [0, 2, 3, 9] rfl ?_
 refine WX.next ?_
 refine WC.cond rfl (fun q2 => ?_) (fun q2 => ?_)
 have p2 : (rowF (l)) = false := (bnot_t q2)
 refine WC.seq ?_
 refine WC.region ?_
 refine WO.v (R.assign rfl) rfl ?_
 refine WO.v (R.assign rfl) rfl ?_
 refine WO.nil ?_
 refine WX.sel [0, 2, 3, 9] rfl ?_
 refine WX.next ?_
 refine WC.ret ?_
 refine WX.thenRet ?_
 have e0 : ([] : List UInt8) = (chunksB l) := by first | exact puts_all hrow (by omega) | exact chunks_no (by simpa using q2)
 have n0 : 0 = (chunksB l).length := by rw [← e0]; simp only [List.length_nil]
 have f0 : Ac (α := UInt8) w.heap.size true w.heap.size w1.heap.size w1.heap.size w1 (.slice none 0 0) ([] : List UInt8) := Ac.empty _ _ _ _ _ _ _
 have e1 : (1 : Int) = (chunksE l) := by first | exact chunksE_yes hrow | exact chunksE_no (by simpa using q2)
 refine WX.ret2 Try.results20 rfl rfl ?_
 exact ⟨none, 0, by rw [n0, e1], (acl_n f0 e0 n0), Kp.of_below b1⟩
 have p2 : (rowF (l)) = true := (bnot_f q2)
 refine WC.skip ?_
 refine WX.next ?_
 refine WC.seq ?_
 refine WC.region ?_
 refine WO.v (R.assign rfl) rfl ?_
 refine WO.nil ?_
 refine WX.sel [0, 2, 3, 4, 9] rfl ?_
 refine WX.next ?_
 refine WC.seq ?_
 refine WC.seq ?_
 refine WC.region ?_
 refine WO.v (R.move rfl) rfl ?_
 refine WO.v (R.len rfl Try.underlying22) rfl ?_
 refine WO.v (R.move rfl) rfl ?_
 refine WO.nil ?_
 refine WX.sel [0, 2, 3, 4, 9, 10, 11, 12] rfl ?_
 refine WX.next ?_
 refine WC.block ?_
 refine WC.loopK [0, 2, 3, 9, 10, 11] rfl (fun zz : Nat × Option Addr × Nat => [(12, (.int .i64 (((zz.1) : Nat) : Int))), (4, (.slice (zz.2.1) (putsF (l.take (zz.1))).length (zz.2.2)))]) (fun (zz : Nat × Option Addr × Nat) (w' : World) => (Kp [] w1 w') ∧ ((zz.1) ≤ l.length) ∧ (Ac (α := UInt8) (w1.heap.size) true (w.heap.size) (w'.heap.size) w'.heap.size w' (.slice (zz.2.1) (putsF (l.take (zz.1))).length (zz.2.2)) (putsF (l.take (zz.1))))) (fun zz => l.length - (zz.1)) (0, none, 0) ?_ ?_ ?_
 exact ⟨⟨_, rfl, rfl⟩, ⟨_, rfl, rfl⟩, trivial⟩
 exact ⟨Kp.refl _, Nat.zero_le _, Ac.empty _ _ _ _ _ _ _⟩
 rintro ⟨k, aa0, ac0⟩ w3 ⟨k3, hk, hac2_0⟩
 try dsimp only at hk hac2_0
 have z3 := k3.size
 have b3 := old_kp0 b1 k3
 have y3 := b3.size
 refine (?_ : WC _ _ _ _ ([(12, (.int .i64 ((k : Nat) : Int))), (4, (.slice aa0 (putsF (l.take k)).length ac0))] ++ _) w3)
 have hrow : rowF l = true := (by simpa using q2)
 have hrl := row_len hrow
 have : (putsF (l.take k)).length ≤ 10 * 8 := by have h1 := puts_len (l := l.take k) (fun x hx => (row_le hrow x (List.mem_of_mem_take hx)).2); rw [List.length_take] at h1; omega
 have lenhac2_0 : (putsF (l.take k)).length * 1 ≤ 140737488355328 := hac2_0.lenle
 refine WC.seq ?_
 refine WC.region ?_
 refine WO.v (R.lss rfl rfl) rfl ?_
 refine WO.nil ?_
 refine WX.sel [0, 2, 3, 4, 9, 10, 11, 12, 13] rfl ?_
 refine WX.next ?_
 refine WC.seq ?_
 refine WC.cond rfl (fun q4 => ?_) (fun q4 => ?_)
 have p4 : ((k : Nat) : Int) < ((l.length : Nat) : Int) := of_decide_eq_true q4
 refine WC.skip ?_
 refine WX.next ?_
 refine WC.seq ?_
 refine WC.block ?_
 refine WC.seq ?_
 refine WC.region ?_
 obtain ⟨x5, hx5⟩ := get_ex (xs := l) (i := k) (by omega)
 have := row_le hrow _ (List.mem_of_getElem? hx5)
 obtain ⟨A6, cs7, hA6, loA6, hiA6, ccA6, r8⟩ := (sl_old h_l b3).at_ hx5
 obtain ⟨rfl, i9⟩ := r8
 refine WO.v (R.indexAddrN rfl rfl Try.underlying22 sz3 hA6 (by omega)) rfl ?_
 refine WO.v (R.load1 rfl Try.underlying3 rfl (CellsAt.one0 ccA6)) rfl ?_
 refine WO.v (R.assign rfl) rfl ?_
 refine WO.nil ?_
 refine WX.sel [0, 2, 3, 4, 6, 9, 10, 11, 12, 13] rfl ?_
 refine WX.next ?_
 refine WC.region ?_
 refine WO.v (R.move rfl) rfl ?_
 refine WO.v (R.move rfl) rfl ?_
 have hN10 : (x5).toNat < 18446744073709551616 := by have := i9; unfold I64 at this; omega
 refine WO.v (R.toU64J (a := (x5).toNat) rfl Try.underlying3 Try.underlying35 (by omega) hN10) rfl ?_
 refine WO.c (E.call rfl rfl Try.func45 rfl rfl) (put_s (n := (x5).toNat) (hN10)) rfl ?_
 rintro _ w11 ⟨a12, c13, rfl, s14, k11⟩
 have ls14 : (putF ((x5).toNat)).length * 1 ≤ 140737488355328 := s14.lenle
 have z11 := k11.size
 have b11 := old_kp0 b3 k11
 have y11 := b11.size
 have := putF_len10 (n := ((x5).toNat)) (by omega)
 have ac20 : Ac (α := UInt8) (w1.heap.size) true (w.heap.size) (w11.heap.size) (w3.heap.size) w11 (.slice aa0 (putsF (l.take k)).length ac0) (putsF (l.take k)) := (ac_kp0 (hac2_0) k11 (by omega) (by omega)).mono (Nat.le_refl _) (Nat.le_refl _) (by omega) (Nat.le_refl _)
 have bd15 := ac20.bd
 have ty21 := ac20.ty
 have lenac20 : ((putsF (l.take k))).length * 1 ≤ 140737488355328 := ac20.lenle
 have lxac20 : ((putsF (l.take k)) ++ (putF ((x5).toNat))).length = (putsF (l.take k)).length + (putF ((x5).toNat)).length := List.length_append
 refine WO.append rfl ac20 (by omega) (by omega) (by omega) rfl rfl (ys := (putF ((x5).toNat))) (Src.flat (((s14).pub (L := 0) (H := w11.heap.size) (by omega) (by omega) (by omega) (by omega))) (fun h => h)) (.inl rfl) Try.underlying27 inf5 rfl rfl rfl (by decide) (by omega) (by omega) rfl ?_
 intro a17 c18 w16 h19 k16 or22
 have z16 := k16.size
 have b16 := old_kp b11 k16 (fun g hg => by have := bd15 g hg; omega)
 have y16 := b16.size
 refine WO.v (R.assign rfl) rfl ?_
 refine WO.nil ?_
 refine WX.sel [0, 2, 3, 4, 6, 9, 10, 11, 12, 13] rfl ?_
 refine WX.blkNormal ?_
 refine WX.next ?_
 refine WC.region ?_
 refine WO.v (R.inc rfl (by omega)) rfl ?_
 refine WO.v (R.move rfl) rfl ?_
 refine WO.nil ?_
 refine WX.sel [0, 2, 3, 4, 6, 9, 10, 11, 12, 13] rfl ?_
 have E23 : ((putsF (l.take k)) ++ (putF ((x5).toNat))) = putsF (l.take (k + 1)) := puts_step hx5
 have nE23 : ((putsF (l.take k)) ++ (putF ((x5).toNat))).length = (putsF (l.take (k + 1))).length := by rw [E23]
 exact WX.loopNextK [0, 2, 3, 9, 10, 11] (k + 1, a17, c18) rfl ⟨⟨_, rfl, rfl⟩, ⟨_, rfl, vs_n nE23⟩, trivial⟩ ⟨(((Kp.refl _).step k3 (by simp)).step k11 (by simp)).step k16 (fun g hg => .inr (by have := bd15 g hg; omega)), by omega, ac_n ((h19).mono (by omega) (by omega) (by omega) (by omega)) E23 nE23⟩ (by show (l.length - (k + 1)) < (l.length - k); omega)
 have p4 : ¬ (((k : Nat) : Int) < ((l.length : Nat) : Int)) := of_decide_eq_false q4
 refine WC.exit ?_
 refine WX.thenExit ?_
 refine WX.loopExit ?_
 refine WX.blkHit ?_
 refine WX.next ?_
 refine WC.seq ?_
 refine WC.region ?_
 refine WO.v (R.move rfl) rfl ?_
 refine WO.v (R.assign rfl) rfl ?_
 refine WO.v (R.assign rfl) rfl ?_
 refine WO.nil ?_
 refine WX.sel [0, 2, 3, 4, 9, 10, 11, 12, 13] rfl ?_
 refine WX.next ?_
 refine WC.ret ?_
 have e0 : (putsF (l.take k)) = (chunksB l) := by first | exact puts_all hrow (by omega) | exact chunks_no (by simpa using q4)
 have n0 : (putsF (l.take k)).length = (chunksB l).length := by rw [e0]
 have f0 : Ac (α := UInt8) w.heap.size true w.heap.size w3.heap.size w3.heap.size w3 (.slice aa0 (putsF (l.take k)).length ac0) (putsF (l.take k)) := ((hac2_0).mono (by omega) (by omega) (by omega) (by omega))
 have e1 : (0 : Int) = (chunksE l) := by first | exact chunksE_yes hrow | exact chunksE_no (by simpa using q4)
 refine WX.ret2 Try.results20 rfl rfl ?_
 exact ⟨aa0, ac0, by rw [n0, e1], (acl_n f0 e0 n0), Kp.of_below b3⟩


end Go.Proofs.Ytfmlgeeogbhppaa
