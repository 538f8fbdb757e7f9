/- Contracts of functions, walked operation by operation. -/
import Derived.Test.YtfmlgeeogbhppaaD9
import Derived.Test.YtfmlgeeogbhppaaNum
namespace Go.Proofs.Ytfmlgeeogbhppaa
open Go.RowKit

def takeG : Nat → Nat → List UInt8 → Nat × Nat × Int
  | k, _, [] => if 10 ≤ k then (0, 0, 3) else (0, 0, 2)
  | k, n, x :: r => if 10 ≤ k then (0, 0, 3) else if (0 < k ∧ x.toNat = 0) ∨ (k = 9 ∧ 1 < x.toNat) then (0, 0, 3) else if x.toNat < 128 then (n + (x &&& 127).toNat * 2 ^ (7 * k), k + 1, 0) else takeG (k + 1) (n + (x &&& 127).toNat * 2 ^ (7 * k)) r
termination_by _ _ l => l.length
def takeF (b : List UInt8) : Nat × Nat × Int := takeG 0 0 b
theorem and127 (x : UInt8) : (x &&& 127).toNat = x.toNat % 128 := by rw [UInt8.toNat_and]; exact Nat.and_two_pow_sub_one_eq_mod x.toNat 7
theorem shl_ok {k : Nat} {x : UInt8} (hk : k ≤ 9) (h : k = 9 → x.toNat ≤ 1) : (x &&& 127).toNat * 2 ^ (7 * k) < 18446744073709551616 := by
  rw [and127]
  by_cases h9 : k = 9
  · have := h h9
    subst h9
    have : x.toNat % 128 * 2 ^ (7 * 9) ≤ 1 * 2 ^ (7 * 9) := Nat.mul_le_mul_right _ (by omega)
    exact Nat.lt_of_le_of_lt this (by decide)
  · have h1 : 2 ^ (7 * k) ≤ 2 ^ 56 := Nat.pow_le_pow_right (by decide) (by omega)
    have : x.toNat % 128 * 2 ^ (7 * k) ≤ 127 * 2 ^ 56 := Nat.mul_le_mul (by omega) h1
    exact Nat.lt_of_le_of_lt this (by decide)
theorem or_add {k n m : Nat} (h : n < 2 ^ (7 * k)) : n ||| m * 2 ^ (7 * k) = n + m * 2 ^ (7 * k) := by
  have := Nat.two_pow_add_eq_or_of_lt h m
  rw [Nat.or_comm, Nat.mul_comm m, ← this, Nat.add_comm]
theorem lt_step {k n : Nat} {x : UInt8} (h : n < 2 ^ (7 * k)) : n + (x &&& 127).toNat * 2 ^ (7 * k) < 2 ^ (7 * (k + 1)) := by
  rw [and127]
  have e : 2 ^ (7 * (k + 1)) = 128 * 2 ^ (7 * k) := by rw [show 7 * (k + 1) = 7 * k + 7 by omega, Nat.pow_add, Nat.mul_comm]
  have : x.toNat % 128 * 2 ^ (7 * k) ≤ 127 * 2 ^ (7 * k) := Nat.mul_le_mul_right _ (by omega)
  rw [e]; omega
theorem tk_nil {b : List UInt8} {k n : Nat} (hk : k < 10) (hb : b.length ≤ k) : takeG k n (b.drop k) = (0, 0, 2) := by
  rw [List.drop_of_length_le hb, takeG, if_neg (by omega)]
theorem tk_ten {b : List UInt8} {k n : Nat} (hk : 10 ≤ k) : takeG k n (b.drop k) = (0, 0, 3) := by
  cases h : b.drop k with
  | nil => rw [takeG, if_pos hk]
  | cons x r => rw [takeG, if_pos hk]
theorem tk_at {b : List UInt8} {k n : Nat} {x : UInt8} (hk : k < 10) (hx : b[k]? = some x) : takeG k n (b.drop k) = if (0 < k ∧ x.toNat = 0) ∨ (k = 9 ∧ 1 < x.toNat) then (0, 0, 3) else if x.toNat < 128 then (n + (x &&& 127).toNat * 2 ^ (7 * k), k + 1, 0) else takeG (k + 1) (n + (x &&& 127).toNat * 2 ^ (7 * k)) (b.drop (k + 1)) := by
  obtain ⟨hkl, he⟩ := List.getElem?_eq_some_iff.1 hx
  rw [List.drop_eq_getElem_cons hkl, he, takeG, if_neg (by omega)]
theorem tk_next {b : List UInt8} {k n : Nat} {x : UInt8} (h : takeF b = takeG k n (b.drop k)) (hk : k < 10) (hx : b[k]? = some x) (h1 : ¬ (0 < k ∧ x.toNat = 0)) (h2 : ¬ (k = 9 ∧ 1 < x.toNat)) (h3 : ¬ x.toNat < 128) : takeF b = takeG (k + 1) (n + (x &&& 127).toNat * 2 ^ (7 * k)) (b.drop (k + 1)) := by
  rw [h, tk_at hk hx, if_neg (fun h => h.elim h1 h2), if_neg h3]
theorem tk_size : ∀ {l : List UInt8} {k n : Nat}, k ≤ 10 → (takeG k n l).2.1 ≤ 11 ∧ (takeG k n l).2.1 ≤ k + l.length
  | [], k, n, h => by rw [takeG]; split <;> simp
  | x :: r, k, n, h => by
    rw [takeG]
    split
    · simp
    · split
      · simp
      · split
        · simp; omega
        · have := tk_size (l := r) (k := k + 1) (n := n + (x &&& 127).toNat * 2 ^ (7 * k)) (by omega)
          simp only [List.length_cons]; omega
theorem tk_lt : ∀ {l : List UInt8} {k n : Nat}, k ≤ 10 → n < 2 ^ (7 * k) → n < 18446744073709551616 → (takeG k n l).1 < 18446744073709551616
  | [], k, n, _, _, _ => by rw [takeG]; split <;> simp
  | x :: r, k, n, h, hn, hn2 => by
    rw [takeG]
    split
    · simp
    · split
      · simp
      · rename_i h9 hz
        have hs := shl_ok (k := k) (x := x) (by omega) (fun e => by by_cases hx : 1 < x.toNat; exact absurd (.inr ⟨e, hx⟩) hz; omega)
        have ho := or_add (k := k) (m := (x &&& 127).toNat) hn
        have hl : n ||| (x &&& 127).toNat * 2 ^ (7 * k) < 2 ^ 64 := Nat.or_lt_two_pow hn2 hs
        rw [ho] at hl
        split
        · exact hl
        · exact tk_lt (by omega) (lt_step hn) hl
theorem tk_bad {b : List UInt8} {k n : Nat} {x : UInt8} (h : takeF b = takeG k n (b.drop k)) (hk : k < 10) (hx : b[k]? = some x) (h1 : (0 < k ∧ x.toNat = 0) ∨ (k = 9 ∧ 1 < x.toNat)) : takeF b = (0, 0, 3) := by rw [h, tk_at hk hx, if_pos h1]
theorem tk_done {b : List UInt8} {k n : Nat} {x : UInt8} (h : takeF b = takeG k n (b.drop k)) (hk : k < 10) (hx : b[k]? = some x) (h1 : ¬ (0 < k ∧ x.toNat = 0)) (h2 : ¬ (k = 9 ∧ 1 < x.toNat)) (h3 : x.toNat < 128) : takeF b = (n + (x &&& 127).toNat * 2 ^ (7 * k), k + 1, 0) := by
  rw [h, tk_at hk hx, if_neg (fun h => h.elim h1 h2), if_pos h3]



set_option maxRecDepth 100000 in
set_option maxHeartbeats 400000 in
theorem take_s {w : World} {a_b : Option Addr} {c_b : Nat} {b : List UInt8} (h_b : Sl false 0 w.heap.size w (.slice a_b b.length c_b) b) :
    Ret Try.prog 46 [.slice a_b b.length c_b].toArray w fun r w' => r = .tuple #[.int .u64 (((takeF b).1 : Nat) : Int), .int .i64 (((takeF b).2.1 : Nat) : Int), .int .i64 ((takeF b).2.2)] ∧ (takeF b).1 < 18446744073709551616 ∧ Kp [] w w' := by
 have len_b : (b).length * 1 ≤ 140737488355328 := h_b.lenle
 refine Ret.enter Try.func46 rfl Try.ntmps46 rfl rfl ?_
 refine WC.sel [0] rfl ?_
 refine WC.seq ?_
 refine WC.region ?_
 refine WO.v (R.assign rfl) rfl ?_
 refine WO.v (R.assign rfl) rfl ?_
 refine WO.v (R.assign rfl) rfl ?_
 refine WO.nil ?_
 refine WX.sel [0, 2, 3, 4] rfl ?_
 refine WX.next ?_
 refine WC.scope ?_
 refine WC.seq ?_
 refine WC.region ?_
 refine WO.v (R.assign rfl) rfl ?_
 refine WO.v (R.assign rfl) rfl ?_
 refine WO.v (R.assign rfl) rfl ?_
 refine WO.nil ?_
 refine WX.sel [0, 2, 3, 4, 5, 6, 7] rfl ?_
 refine WX.next ?_
 refine WC.seq ?_
 refine WC.label ?_
 refine WX.next ?_
 refine WC.seq ?_
 refine WC.seq ?_
 refine WC.region ?_
 refine WO.v (R.move rfl) rfl ?_
 refine WO.nil ?_
 refine WX.sel [0, 2, 3, 4, 5, 6, 7, 9] rfl ?_
 refine WX.next ?_
 refine WC.block ?_
 refine WC.loopK [0, 2, 3, 4, 6, 7] rfl (fun zz : Nat × Nat => [(9, (.int .i64 (((zz.1) : Nat) : Int))), (5, (.int .u64 (((zz.2) : Nat) : Int)))]) (fun (zz : Nat × Nat) (w' : World) => (Kp [] w w') ∧ ((zz.1) ≤ 10) ∧ ((zz.2) < 2 ^ (7 * (zz.1))) ∧ ((zz.2) < 18446744073709551616) ∧ (takeF b = takeG (zz.1) (zz.2) (b.drop (zz.1))) ∧ ((zz.1) ≤ b.length)) (fun zz => 10 - (zz.1)) (0, 0) ?_ ?_ ?_
 exact ⟨⟨_, rfl, rfl⟩, ⟨_, rfl, rfl⟩, trivial⟩
 exact ⟨Kp.refl _, Nat.zero_le _, by decide, by decide, rfl, Nat.zero_le _⟩
 rintro ⟨k, m⟩ w1 ⟨k1, hk, hm7, hm64, htk, hkb⟩
 try dsimp only at hk hm7 hm64 htk hkb
 have z1 := k1.size
 have b1 := old_kp0 (Below.refl w.heap.size w) k1
 have y1 := b1.size
 refine (?_ : WC _ _ _ _ ([(9, (.int .i64 ((k : Nat) : Int))), (5, (.int .u64 ((m : Nat) : Int)))] ++ _) w1)
 refine WC.seq ?_
 refine WC.region ?_
 refine WO.v (R.lss rfl rfl) rfl ?_
 refine WO.nil ?_
 refine WX.sel [0, 2, 3, 4, 5, 6, 7, 9, 10] rfl ?_
 refine WX.next ?_
 refine WC.seq ?_
 refine WC.cond rfl (fun q2 => ?_) (fun q2 => ?_)
 have p2 : ((k : Nat) : Int) < (10 : Int) := of_decide_eq_true q2
 refine WC.skip ?_
 refine WX.next ?_
 refine WC.seq ?_
 refine WC.block ?_
 refine WC.seq ?_
 refine WC.region ?_
 refine WO.v (R.move rfl) rfl ?_
 refine WO.v (R.assign rfl) rfl ?_
 refine WO.nil ?_
 refine WX.sel [0, 2, 3, 4, 5, 6, 7, 8, 9, 10] rfl ?_
 refine WX.next ?_
 refine WC.seq ?_
 refine WC.block ?_
 refine WC.seq ?_
 refine WC.region ?_
 refine WO.v (R.move rfl) rfl ?_
 refine WO.v (R.move rfl) rfl ?_
 refine WO.v (R.len rfl Try.underlying27) rfl ?_
 refine WO.v (R.eql rfl rfl) rfl ?_
 refine WO.v (R.assign rfl) rfl ?_
 refine WO.nil ?_
 refine WX.sel [0, 2, 3, 4, 5, 6, 7, 8, 9, 10, 12] rfl ?_
 refine WX.next ?_
 refine WC.cond rfl (fun q3 => ?_) (fun q3 => ?_)
 have p3 : ((k : Nat) : Int) = ((b.length : Nat) : Int) := of_decide_eq_true q3
 refine WC.seq ?_
 refine WC.region ?_
 refine WO.v (R.assign rfl) rfl ?_
 refine WO.nil ?_
 refine WX.sel [0, 2, 3, 4, 5, 6, 7, 8, 9, 10, 12] rfl ?_
 refine WX.next ?_
 refine WC.exit ?_
 refine WX.blkMiss rfl ?_
 refine WX.thenExit ?_
 refine WX.blkMiss rfl ?_
 refine WX.thenExit ?_
 refine WX.loopExit ?_
 refine WX.blkHit ?_
 refine WX.next ?_
 refine WC.seq ?_
 refine WC.seq ?_
 refine WC.region ?_
 refine WO.v (R.move rfl) rfl ?_
 refine WO.v (R.neq rfl rfl) rfl ?_
 refine WO.nil ?_
 refine WX.sel [0, 2, 3, 4, 5, 6, 7, 8, 9, 10, 12, 56] rfl ?_
 refine WX.next ?_
 refine WC.cond rfl (fun q4 => ?_) (fun q4 => ?_)
 have p4 : ¬ ((2 : Int) = (0 : Int)) := of_decide_eq_false (bnot_t q4)
 refine WC.seq ?_
 refine WC.region ?_
 refine WO.v (R.move rfl) rfl ?_
 refine WO.v (R.assign rfl) rfl ?_
 refine WO.v (R.assign rfl) rfl ?_
 refine WO.v (R.assign rfl) rfl ?_
 refine WO.nil ?_
 refine WX.sel [0, 2, 3, 4, 5, 6, 7, 8, 9, 10, 12, 56] rfl ?_
 refine WX.next ?_
 refine WC.ret ?_
 refine WX.thenRet ?_
 refine WX.scRet ?_
 have e0 : 0 = ((takeF b).1) := by first | exact False.elim (by omega) | (rw [show takeF b = _ from (by first | exact tk_bad htk (by omega) (by assumption) (by omega) | exact (htk.trans (tk_nil (by omega) (by omega))) | exact (htk.trans (tk_ten (by omega))) | exact tk_done htk (by omega) (by assumption) (by omega) (by omega) (by omega))]; done) | (rw [show takeF b = _ from (by first | exact tk_bad htk (by omega) (by assumption) (by omega) | exact (htk.trans (tk_nil (by omega) (by omega))) | exact (htk.trans (tk_ten (by omega))) | exact tk_done htk (by omega) (by assumption) (by omega) (by omega) (by omega))]; rfl) | (rw [show takeF b = _ from (by first | exact tk_bad htk (by omega) (by assumption) (by omega) | exact (htk.trans (tk_nil (by omega) (by omega))) | exact (htk.trans (tk_ten (by omega))) | exact tk_done htk (by omega) (by assumption) (by omega) (by omega) (by omega))]; exact or_add hm7)
 have c0 : (0 : Int) = ((((takeF b).1) : Nat) : Int) := congrArg Int.ofNat e0
 have e1 : (0 : Int) = ((((takeF b).2.1) : Nat) : Int) := by first | exact False.elim (by omega) | (rw [show takeF b = _ from (by first | exact tk_bad htk (by omega) (by assumption) (by omega) | exact (htk.trans (tk_nil (by omega) (by omega))) | exact (htk.trans (tk_ten (by omega))) | exact tk_done htk (by omega) (by assumption) (by omega) (by omega) (by omega))]; done) | (rw [show takeF b = _ from (by first | exact tk_bad htk (by omega) (by assumption) (by omega) | exact (htk.trans (tk_nil (by omega) (by omega))) | exact (htk.trans (tk_ten (by omega))) | exact tk_done htk (by omega) (by assumption) (by omega) (by omega) (by omega))]; rfl) | (rw [show takeF b = _ from (by first | exact tk_bad htk (by omega) (by assumption) (by omega) | exact (htk.trans (tk_nil (by omega) (by omega))) | exact (htk.trans (tk_ten (by omega))) | exact tk_done htk (by omega) (by assumption) (by omega) (by omega) (by omega))]; exact or_add hm7)
 have e2 : (2 : Int) = ((takeF b).2.2) := by first | exact False.elim (by omega) | (rw [show takeF b = _ from (by first | exact tk_bad htk (by omega) (by assumption) (by omega) | exact (htk.trans (tk_nil (by omega) (by omega))) | exact (htk.trans (tk_ten (by omega))) | exact tk_done htk (by omega) (by assumption) (by omega) (by omega) (by omega))]; done) | (rw [show takeF b = _ from (by first | exact tk_bad htk (by omega) (by assumption) (by omega) | exact (htk.trans (tk_nil (by omega) (by omega))) | exact (htk.trans (tk_ten (by omega))) | exact tk_done htk (by omega) (by assumption) (by omega) (by omega) (by omega))]; rfl) | (rw [show takeF b = _ from (by first | exact tk_bad htk (by omega) (by assumption) (by omega) | exact (htk.trans (tk_nil (by omega) (by omega))) | exact (htk.trans (tk_ten (by omega))) | exact tk_done htk (by omega) (by assumption) (by omega) (by omega) (by omega))]; exact or_add hm7)
 refine WX.ret3 Try.results46 rfl rfl rfl ?_
 exact ⟨by rw [← c0, ← e1, ← e2], (e0 ▸ (show 0 < 18446744073709551616 from by decide)), Kp.of_below b1⟩
 have p4 : (2 : Int) = (0 : Int) := of_decide_eq_true (bnot_f q4)
 exact False.elim (by omega)
 have p3 : ¬ (((k : Nat) : Int) = ((b.length : Nat) : Int)) := of_decide_eq_false q3
 refine WC.seq ?_
 refine WC.seq ?_
 obtain ⟨x5, hx5⟩ := get_ex (xs := b) (i := k) (by omega)
 refine WC.region ?_
 refine WO.v (R.move rfl) rfl ?_
 refine WO.v (R.gtr rfl rfl) rfl ?_
 refine WO.v (R.move rfl) rfl ?_
 refine WO.cutP 6 [(26, (.bool ((decide ((0 : Int) < ((k : Nat) : Int))) && (decide ((x5.toNat : Int) = (0 : Int))))))] (fun w' => w1 = w') ?_ ?_
 rcases Bool.eq_false_or_eq_true (decide ((0 : Int) < ((k : Nat) : Int))) with hb6 | hb6
 have phb6 : (0 : Int) < ((k : Nat) : Int) := of_decide_eq_true hb6
 refine WO.on rfl rfl hb6 ?_
 refine WO.v (R.move rfl) rfl ?_
 refine WO.on rfl rfl hb6 ?_
 refine WO.v (R.move rfl) rfl ?_
 refine WO.on rfl rfl hb6 ?_
 obtain ⟨A8, cs9, hA8, loA8, hiA8, ccA8, r10⟩ := (sl_old h_b b1).at_ hx5
 obtain rfl := r10
 refine WO.v (R.indexAddrN rfl rfl Try.underlying27 sz5 hA8 (by omega)) rfl ?_
 refine WO.on rfl rfl hb6 ?_
 refine WO.v (R.load1 rfl Try.underlying5 rfl (CellsAt.one0 ccA8)) rfl ?_
 refine WO.on rfl rfl hb6 ?_
 refine WO.v (R.eql rfl rfl) rfl ?_
 refine WO.v (R.pickT rfl hb6 rfl) rfl ?_
 refine WO.nil ?_
 exact WX.cutDoneP 6 rfl rfl ⟨⟨_, rfl, vb (band_on hb6)⟩, trivial⟩ (rfl)
 have phb6 : ¬ ((0 : Int) < ((k : Nat) : Int)) := of_decide_eq_false hb6
 refine WO.off rfl rfl hb6 rfl ?_
 refine WO.off rfl rfl hb6 rfl ?_
 refine WO.off rfl rfl hb6 rfl ?_
 refine WO.off rfl rfl hb6 rfl ?_
 refine WO.off rfl rfl hb6 rfl ?_
 refine WO.v (R.pickF rfl hb6 rfl) rfl ?_
 refine WO.nil ?_
 exact WX.cutDoneP 6 rfl rfl ⟨⟨_, rfl, vb (band_off hb6)⟩, trivial⟩ (rfl)
 rintro _ rfl
 refine WO.v (R.assign rfl) rfl ?_
 refine WO.nil ?_
 refine WX.sel [0, 2, 3, 4, 5, 6, 7, 8, 9, 10, 12, 17] rfl ?_
 refine WX.next ?_
 refine WC.cond rfl (fun q11 => ?_) (fun q11 => ?_)
 have p11 : ((0 : Int) < ((k : Nat) : Int)) ∧ ((x5.toNat : Int) = (0 : Int)) := ⟨of_decide_eq_true (band_t q11).1, of_decide_eq_true (band_t q11).2⟩
 refine WC.skip ?_
 refine WX.next ?_
 refine WC.cond rfl (fun q12 => ?_) (fun q12 => ?_)
 have p12 : ((0 : Int) < ((k : Nat) : Int)) ∧ ((x5.toNat : Int) = (0 : Int)) := ⟨of_decide_eq_true (band_t q12).1, of_decide_eq_true (band_t q12).2⟩
 refine WC.exit ?_
 refine WX.blkMiss rfl ?_
 refine WX.thenExit ?_
 refine WX.blkMiss rfl ?_
 refine WX.thenExit ?_
 refine WX.loopExit ?_
 refine WX.blkHit ?_
 refine WX.next ?_
 refine WC.seq ?_
 refine WC.seq ?_
 refine WC.region ?_
 refine WO.v (R.move rfl) rfl ?_
 refine WO.v (R.neq rfl rfl) rfl ?_
 refine WO.nil ?_
 refine WX.sel [0, 2, 3, 4, 5, 6, 7, 8, 9, 10, 12, 17, 56] rfl ?_
 refine WX.next ?_
 refine WC.cond rfl (fun q13 => ?_) (fun q13 => ?_)
 have p13 : ¬ ((3 : Int) = (0 : Int)) := of_decide_eq_false (bnot_t q13)
 refine WC.seq ?_
 refine WC.region ?_
 refine WO.v (R.move rfl) rfl ?_
 refine WO.v (R.assign rfl) rfl ?_
 refine WO.v (R.assign rfl) rfl ?_
 refine WO.v (R.assign rfl) rfl ?_
 refine WO.nil ?_
 refine WX.sel [0, 2, 3, 4, 5, 6, 7, 8, 9, 10, 12, 17, 56] rfl ?_
 refine WX.next ?_
 refine WC.ret ?_
 refine WX.thenRet ?_
 refine WX.scRet ?_
 have e0 : 0 = ((takeF b).1) := by first | exact False.elim (by omega) | (rw [show takeF b = _ from (by first | exact tk_bad htk (by omega) (by assumption) (by omega) | exact (htk.trans (tk_nil (by omega) (by omega))) | exact (htk.trans (tk_ten (by omega))) | exact tk_done htk (by omega) (by assumption) (by omega) (by omega) (by omega))]; done) | (rw [show takeF b = _ from (by first | exact tk_bad htk (by omega) (by assumption) (by omega) | exact (htk.trans (tk_nil (by omega) (by omega))) | exact (htk.trans (tk_ten (by omega))) | exact tk_done htk (by omega) (by assumption) (by omega) (by omega) (by omega))]; rfl) | (rw [show takeF b = _ from (by first | exact tk_bad htk (by omega) (by assumption) (by omega) | exact (htk.trans (tk_nil (by omega) (by omega))) | exact (htk.trans (tk_ten (by omega))) | exact tk_done htk (by omega) (by assumption) (by omega) (by omega) (by omega))]; exact or_add hm7)
 have c0 : (0 : Int) = ((((takeF b).1) : Nat) : Int) := congrArg Int.ofNat e0
 have e1 : (0 : Int) = ((((takeF b).2.1) : Nat) : Int) := by first | exact False.elim (by omega) | (rw [show takeF b = _ from (by first | exact tk_bad htk (by omega) (by assumption) (by omega) | exact (htk.trans (tk_nil (by omega) (by omega))) | exact (htk.trans (tk_ten (by omega))) | exact tk_done htk (by omega) (by assumption) (by omega) (by omega) (by omega))]; done) | (rw [show takeF b = _ from (by first | exact tk_bad htk (by omega) (by assumption) (by omega) | exact (htk.trans (tk_nil (by omega) (by omega))) | exact (htk.trans (tk_ten (by omega))) | exact tk_done htk (by omega) (by assumption) (by omega) (by omega) (by omega))]; rfl) | (rw [show takeF b = _ from (by first | exact tk_bad htk (by omega) (by assumption) (by omega) | exact (htk.trans (tk_nil (by omega) (by omega))) | exact (htk.trans (tk_ten (by omega))) | exact tk_done htk (by omega) (by assumption) (by omega) (by omega) (by omega))]; exact or_add hm7)
 have e2 : (3 : Int) = ((takeF b).2.2) := by first | exact False.elim (by omega) | (rw [show takeF b = _ from (by first | exact tk_bad htk (by omega) (by assumption) (by omega) | exact (htk.trans (tk_nil (by omega) (by omega))) | exact (htk.trans (tk_ten (by omega))) | exact tk_done htk (by omega) (by assumption) (by omega) (by omega) (by omega))]; done) | (rw [show takeF b = _ from (by first | exact tk_bad htk (by omega) (by assumption) (by omega) | exact (htk.trans (tk_nil (by omega) (by omega))) | exact (htk.trans (tk_ten (by omega))) | exact tk_done htk (by omega) (by assumption) (by omega) (by omega) (by omega))]; rfl) | (rw [show takeF b = _ from (by first | exact tk_bad htk (by omega) (by assumption) (by omega) | exact (htk.trans (tk_nil (by omega) (by omega))) | exact (htk.trans (tk_ten (by omega))) | exact tk_done htk (by omega) (by assumption) (by omega) (by omega) (by omega))]; exact or_add hm7)
 refine WX.ret3 Try.results46 rfl rfl rfl ?_
 exact ⟨by rw [← c0, ← e1, ← e2], (e0 ▸ (show 0 < 18446744073709551616 from by decide)), Kp.of_below b1⟩
 have p13 : (3 : Int) = (0 : Int) := of_decide_eq_true (bnot_f q13)
 exact False.elim (by omega)
 have p12 : (¬ ((0 : Int) < ((k : Nat) : Int))) ∨ (¬ ((x5.toNat : Int) = (0 : Int))) := Or.imp (fun h => of_decide_eq_false h) (fun h => of_decide_eq_false h) (band_f q12)
 refine WC.skip ?_
 refine WX.blkNormal ?_
 refine WX.next ?_
 refine WC.seq ?_
 refine WC.region ?_
 refine WO.v (R.move rfl) rfl ?_
 refine WO.v (R.move rfl) rfl ?_
 refine WO.v (R.move rfl) rfl ?_
 obtain ⟨A15, cs16, hA15, loA15, hiA15, ccA15, r17⟩ := (sl_old h_b b1).at_ hx5
 obtain rfl := r17
 refine WO.v (R.indexAddrN rfl rfl Try.underlying27 sz5 hA15 (by omega)) rfl ?_
 refine WO.v (R.load1 rfl Try.underlying5 rfl (CellsAt.one0 ccA15)) rfl ?_
 refine WO.v (R.andU8 (a := x5) (b := (127 : UInt8)) rfl rfl) rfl ?_
 have u17 := UInt8.toNat_lt (x5 &&& (127 : UInt8))
 refine WO.v (R.toU64 (a := (x5 &&& (127 : UInt8)).toNat) rfl Try.underlying5 Try.underlying35 (by omega)) rfl ?_
 refine WO.v (R.move rfl) rfl ?_
 refine WO.v (R.mulN (a := 7) (b := k) rfl rfl (by omega)) rfl ?_
 have hs19 : ((x5 &&& (127 : UInt8)).toNat * 2 ^ (7 * k)) < 18446744073709551616 := shl_ok (by omega) (by omega)
 refine WO.v (R.shlU64 (a := (x5 &&& (127 : UInt8)).toNat) (b := (7 * k)) rfl rfl (by omega) hs19) rfl ?_
 refine WO.v (R.orU64 (a := m) (b := ((x5 &&& (127 : UInt8)).toNat * 2 ^ (7 * k))) rfl rfl (hm64) (hs19)) rfl ?_
 refine WO.v (R.assign rfl) rfl ?_
 refine WO.nil ?_
 refine WX.sel [0, 2, 3, 4, 5, 6, 7, 8, 9, 10, 12, 17] rfl ?_
 refine WX.next ?_
 refine WC.seq ?_
 refine WC.region ?_
 refine WO.v (R.move rfl) rfl ?_
 refine WO.v (R.move rfl) rfl ?_
 obtain ⟨A21, cs22, hA21, loA21, hiA21, ccA21, r23⟩ := (sl_old h_b b1).at_ hx5
 obtain rfl := r23
 refine WO.v (R.indexAddrN rfl rfl Try.underlying27 sz5 hA21 (by omega)) rfl ?_
 refine WO.v (R.load1 rfl Try.underlying5 rfl (CellsAt.one0 ccA21)) rfl ?_
 refine WO.v (R.lss rfl rfl) rfl ?_
 refine WO.nil ?_
 refine WX.sel [0, 2, 3, 4, 5, 6, 7, 8, 9, 10, 12, 17, 51] rfl ?_
 refine WX.next ?_
 refine WC.cond rfl (fun q24 => ?_) (fun q24 => ?_)
 have p24 : (x5.toNat : Int) < (128 : Int) := of_decide_eq_true q24
 refine WC.seq ?_
 refine WC.region ?_
 refine WO.v (R.move rfl) rfl ?_
 refine WO.v (R.inc rfl (by omega)) rfl ?_
 refine WO.v (R.assign rfl) rfl ?_
 refine WO.v (R.assign rfl) rfl ?_
 refine WO.nil ?_
 refine WX.sel [0, 2, 3, 4, 5, 6, 7, 8, 9, 10, 12, 17, 51] rfl ?_
 refine WX.next ?_
 refine WC.exit ?_
 refine WX.blkMiss rfl ?_
 refine WX.thenExit ?_
 refine WX.loopExit ?_
 refine WX.blkHit ?_
 refine WX.next ?_
 refine WC.seq ?_
 refine WC.seq ?_
 refine WC.region ?_
 refine WO.v (R.move rfl) rfl ?_
 refine WO.v (R.neq rfl rfl) rfl ?_
 refine WO.nil ?_
 refine WX.sel [0, 2, 3, 4, 5, 6, 7, 8, 9, 10, 12, 17, 51, 56] rfl ?_
 refine WX.next ?_
 refine WC.cond rfl (fun q25 => ?_) (fun q25 => ?_)
 have p25 : ¬ ((0 : Int) = (0 : Int)) := of_decide_eq_false (bnot_t q25)
 exact False.elim (by omega)
 have p25 : (0 : Int) = (0 : Int) := of_decide_eq_true (bnot_f q25)
 refine WC.skip ?_
 refine WX.next ?_
 refine WC.seq ?_
 refine WC.region ?_
 refine WO.v (R.move rfl) rfl ?_
 refine WO.v (R.move rfl) rfl ?_
 refine WO.v (R.assign rfl) rfl ?_
 refine WO.v (R.assign rfl) rfl ?_
 refine WO.v (R.assign rfl) rfl ?_
 refine WO.nil ?_
 refine WX.sel [0, 2, 3, 4, 5, 6, 7, 8, 9, 10, 12, 17, 51, 56] rfl ?_
 refine WX.next ?_
 refine WC.ret ?_
 refine WX.scRet ?_
 have e0 : (m ||| ((x5 &&& (127 : UInt8)).toNat * 2 ^ (7 * k))) = ((takeF b).1) := by first | exact False.elim (by omega) | (rw [show takeF b = _ from (by first | exact tk_bad htk (by omega) (by assumption) (by omega) | exact (htk.trans (tk_nil (by omega) (by omega))) | exact (htk.trans (tk_ten (by omega))) | exact tk_done htk (by omega) (by assumption) (by omega) (by omega) (by omega))]; done) | (rw [show takeF b = _ from (by first | exact tk_bad htk (by omega) (by assumption) (by omega) | exact (htk.trans (tk_nil (by omega) (by omega))) | exact (htk.trans (tk_ten (by omega))) | exact tk_done htk (by omega) (by assumption) (by omega) (by omega) (by omega))]; rfl) | (rw [show takeF b = _ from (by first | exact tk_bad htk (by omega) (by assumption) (by omega) | exact (htk.trans (tk_nil (by omega) (by omega))) | exact (htk.trans (tk_ten (by omega))) | exact tk_done htk (by omega) (by assumption) (by omega) (by omega) (by omega))]; exact or_add hm7)
 have c0 : (((m ||| ((x5 &&& (127 : UInt8)).toNat * 2 ^ (7 * k))) : Nat) : Int) = ((((takeF b).1) : Nat) : Int) := congrArg Int.ofNat e0
 have e1 : ((k + 1 : Nat) : Int) = ((((takeF b).2.1) : Nat) : Int) := by first | exact False.elim (by omega) | (rw [show takeF b = _ from (by first | exact tk_bad htk (by omega) (by assumption) (by omega) | exact (htk.trans (tk_nil (by omega) (by omega))) | exact (htk.trans (tk_ten (by omega))) | exact tk_done htk (by omega) (by assumption) (by omega) (by omega) (by omega))]; done) | (rw [show takeF b = _ from (by first | exact tk_bad htk (by omega) (by assumption) (by omega) | exact (htk.trans (tk_nil (by omega) (by omega))) | exact (htk.trans (tk_ten (by omega))) | exact tk_done htk (by omega) (by assumption) (by omega) (by omega) (by omega))]; rfl) | (rw [show takeF b = _ from (by first | exact tk_bad htk (by omega) (by assumption) (by omega) | exact (htk.trans (tk_nil (by omega) (by omega))) | exact (htk.trans (tk_ten (by omega))) | exact tk_done htk (by omega) (by assumption) (by omega) (by omega) (by omega))]; exact or_add hm7)
 have e2 : (0 : Int) = ((takeF b).2.2) := by first | exact False.elim (by omega) | (rw [show takeF b = _ from (by first | exact tk_bad htk (by omega) (by assumption) (by omega) | exact (htk.trans (tk_nil (by omega) (by omega))) | exact (htk.trans (tk_ten (by omega))) | exact tk_done htk (by omega) (by assumption) (by omega) (by omega) (by omega))]; done) | (rw [show takeF b = _ from (by first | exact tk_bad htk (by omega) (by assumption) (by omega) | exact (htk.trans (tk_nil (by omega) (by omega))) | exact (htk.trans (tk_ten (by omega))) | exact tk_done htk (by omega) (by assumption) (by omega) (by omega) (by omega))]; rfl) | (rw [show takeF b = _ from (by first | exact tk_bad htk (by omega) (by assumption) (by omega) | exact (htk.trans (tk_nil (by omega) (by omega))) | exact (htk.trans (tk_ten (by omega))) | exact tk_done htk (by omega) (by assumption) (by omega) (by omega) (by omega))]; exact or_add hm7)
 refine WX.ret3 Try.results46 rfl rfl rfl ?_
 exact ⟨by rw [← c0, ← e1, ← e2], (e0 ▸ (show (m ||| ((x5 &&& (127 : UInt8)).toNat * 2 ^ (7 * k))) < 18446744073709551616 from Nat.or_lt_two_pow (n := 64) (hm64) (hs19))), Kp.of_below b1⟩
 have p24 : ¬ ((x5.toNat : Int) < (128 : Int)) := of_decide_eq_false q24
 refine WC.skip ?_
 refine WX.blkNormal ?_
 refine WX.next ?_
 refine WC.region ?_
 refine WO.v (R.inc rfl (by omega)) rfl ?_
 refine WO.v (R.move rfl) rfl ?_
 refine WO.nil ?_
 refine WX.sel [0, 2, 3, 4, 5, 6, 7, 8, 9, 10, 12, 17, 51] rfl ?_
 exact WX.loopNextK [0, 2, 3, 4, 6, 7] (k + 1, (m + (x5 &&& 127).toNat * 2 ^ (7 * k))) rfl ⟨⟨_, rfl, rfl⟩, ⟨_, rfl, vi (by rw [or_add hm7])⟩, trivial⟩ ⟨(Kp.refl _).step k1 (by simp), by omega, lt_step hm7, (by rw [← or_add hm7]; exact Nat.or_lt_two_pow (n := 64) hm64 (shl_ok (by omega) (by omega))), tk_next htk (by omega) hx5 (by omega) (by omega) (by omega), (by have := get_lt hx5; omega)⟩ (by show (10 - (k + 1)) < (10 - k); omega)
 have p11 : (¬ ((0 : Int) < ((k : Nat) : Int))) ∨ (¬ ((x5.toNat : Int) = (0 : Int))) := Or.imp (fun h => of_decide_eq_false h) (fun h => of_decide_eq_false h) (band_f q11)
 refine WC.region ?_
 refine WO.v (R.move rfl) rfl ?_
 refine WO.v (R.eql rfl rfl) rfl ?_
 refine WO.v (R.move rfl) rfl ?_
 refine WO.cutP 6 [(35, (.bool ((decide (((k : Nat) : Int) = (9 : Int))) && (decide ((1 : Int) < (x5.toNat : Int))))))] (fun w' => w1 = w') ?_ ?_
 rcases Bool.eq_false_or_eq_true (decide (((k : Nat) : Int) = (9 : Int))) with hb26 | hb26
 have phb26 : ((k : Nat) : Int) = (9 : Int) := of_decide_eq_true hb26
 refine WO.on rfl rfl hb26 ?_
 refine WO.v (R.move rfl) rfl ?_
 refine WO.on rfl rfl hb26 ?_
 refine WO.v (R.move rfl) rfl ?_
 refine WO.on rfl rfl hb26 ?_
 obtain ⟨A28, cs29, hA28, loA28, hiA28, ccA28, r30⟩ := (sl_old h_b b1).at_ hx5
 obtain rfl := r30
 refine WO.v (R.indexAddrN rfl rfl Try.underlying27 sz5 hA28 (by omega)) rfl ?_
 refine WO.on rfl rfl hb26 ?_
 refine WO.v (R.load1 rfl Try.underlying5 rfl (CellsAt.one0 ccA28)) rfl ?_
 refine WO.on rfl rfl hb26 ?_
 refine WO.v (R.gtr rfl rfl) rfl ?_
 refine WO.v (R.pickT rfl hb26 rfl) rfl ?_
 refine WO.nil ?_
 exact WX.cutDoneP 6 rfl rfl ⟨⟨_, rfl, vb (band_on hb26)⟩, trivial⟩ (rfl)
 have phb26 : ¬ (((k : Nat) : Int) = (9 : Int)) := of_decide_eq_false hb26
 refine WO.off rfl rfl hb26 rfl ?_
 refine WO.off rfl rfl hb26 rfl ?_
 refine WO.off rfl rfl hb26 rfl ?_
 refine WO.off rfl rfl hb26 rfl ?_
 refine WO.off rfl rfl hb26 rfl ?_
 refine WO.v (R.pickF rfl hb26 rfl) rfl ?_
 refine WO.nil ?_
 exact WX.cutDoneP 6 rfl rfl ⟨⟨_, rfl, vb (band_off hb26)⟩, trivial⟩ (rfl)
 rintro _ rfl
 refine WO.v (R.assign rfl) rfl ?_
 refine WO.nil ?_
 refine WX.sel [0, 2, 3, 4, 5, 6, 7, 8, 9, 10, 12, 17] rfl ?_
 refine WX.next ?_
 refine WC.cond rfl (fun q31 => ?_) (fun q31 => ?_)
 have p31 : (((k : Nat) : Int) = (9 : Int)) ∧ ((1 : Int) < (x5.toNat : Int)) := ⟨of_decide_eq_true (band_t q31).1, of_decide_eq_true (band_t q31).2⟩
 refine WC.exit ?_
 refine WX.blkMiss rfl ?_
 refine WX.thenExit ?_
 refine WX.blkMiss rfl ?_
 refine WX.thenExit ?_
 refine WX.loopExit ?_
 refine WX.blkHit ?_
 refine WX.next ?_
 refine WC.seq ?_
 refine WC.seq ?_
 refine WC.region ?_
 refine WO.v (R.move rfl) rfl ?_
 refine WO.v (R.neq rfl rfl) rfl ?_
 refine WO.nil ?_
 refine WX.sel [0, 2, 3, 4, 5, 6, 7, 8, 9, 10, 12, 17, 56] rfl ?_
 refine WX.next ?_
 refine WC.cond rfl (fun q32 => ?_) (fun q32 => ?_)
 have p32 : ¬ ((3 : Int) = (0 : Int)) := of_decide_eq_false (bnot_t q32)
 refine WC.seq ?_
 refine WC.region ?_
 refine WO.v (R.move rfl) rfl ?_
 refine WO.v (R.assign rfl) rfl ?_
 refine WO.v (R.assign rfl) rfl ?_
 refine WO.v (R.assign rfl) rfl ?_
 refine WO.nil ?_
 refine WX.sel [0, 2, 3, 4, 5, 6, 7, 8, 9, 10, 12, 17, 56] rfl ?_
 refine WX.next ?_
 refine WC.ret ?_
 refine WX.thenRet ?_
 refine WX.scRet ?_
 have e0 : 0 = ((takeF b).1) := by first | exact False.elim (by omega) | (rw [show takeF b = _ from (by first | exact tk_bad htk (by omega) (by assumption) (by omega) | exact (htk.trans (tk_nil (by omega) (by omega))) | exact (htk.trans (tk_ten (by omega))) | exact tk_done htk (by omega) (by assumption) (by omega) (by omega) (by omega))]; done) | (rw [show takeF b = _ from (by first | exact tk_bad htk (by omega) (by assumption) (by omega) | exact (htk.trans (tk_nil (by omega) (by omega))) | exact (htk.trans (tk_ten (by omega))) | exact tk_done htk (by omega) (by assumption) (by omega) (by omega) (by omega))]; rfl) | (rw [show takeF b = _ from (by first | exact tk_bad htk (by omega) (by assumption) (by omega) | exact (htk.trans (tk_nil (by omega) (by omega))) | exact (htk.trans (tk_ten (by omega))) | exact tk_done htk (by omega) (by assumption) (by omega) (by omega) (by omega))]; exact or_add hm7)
 have c0 : (0 : Int) = ((((takeF b).1) : Nat) : Int) := congrArg Int.ofNat e0
 have e1 : (0 : Int) = ((((takeF b).2.1) : Nat) : Int) := by first | exact False.elim (by omega) | (rw [show takeF b = _ from (by first | exact tk_bad htk (by omega) (by assumption) (by omega) | exact (htk.trans (tk_nil (by omega) (by omega))) | exact (htk.trans (tk_ten (by omega))) | exact tk_done htk (by omega) (by assumption) (by omega) (by omega) (by omega))]; done) | (rw [show takeF b = _ from (by first | exact tk_bad htk (by omega) (by assumption) (by omega) | exact (htk.trans (tk_nil (by omega) (by omega))) | exact (htk.trans (tk_ten (by omega))) | exact tk_done htk (by omega) (by assumption) (by omega) (by omega) (by omega))]; rfl) | (rw [show takeF b = _ from (by first | exact tk_bad htk (by omega) (by assumption) (by omega) | exact (htk.trans (tk_nil (by omega) (by omega))) | exact (htk.trans (tk_ten (by omega))) | exact tk_done htk (by omega) (by assumption) (by omega) (by omega) (by omega))]; exact or_add hm7)
 have e2 : (3 : Int) = ((takeF b).2.2) := by first | exact False.elim (by omega) | (rw [show takeF b = _ from (by first | exact tk_bad htk (by omega) (by assumption) (by omega) | exact (htk.trans (tk_nil (by omega) (by omega))) | exact (htk.trans (tk_ten (by omega))) | exact tk_done htk (by omega) (by assumption) (by omega) (by omega) (by omega))]; done) | (rw [show takeF b = _ from (by first | exact tk_bad htk (by omega) (by assumption) (by omega) | exact (htk.trans (tk_nil (by omega) (by omega))) | exact (htk.trans (tk_ten (by omega))) | exact tk_done htk (by omega) (by assumption) (by omega) (by omega) (by omega))]; rfl) | (rw [show takeF b = _ from (by first | exact tk_bad htk (by omega) (by assumption) (by omega) | exact (htk.trans (tk_nil (by omega) (by omega))) | exact (htk.trans (tk_ten (by omega))) | exact tk_done htk (by omega) (by assumption) (by omega) (by omega) (by omega))]; exact or_add hm7)
 refine WX.ret3 Try.results46 rfl rfl rfl ?_
 exact ⟨by rw [← c0, ← e1, ← e2], (e0 ▸ (show 0 < 18446744073709551616 from by decide)), Kp.of_below b1⟩
 have p32 : (3 : Int) = (0 : Int) := of_decide_eq_true (bnot_f q32)
 exact False.elim (by omega)
 have p31 : (¬ (((k : Nat) : Int) = (9 : Int))) ∨ (¬ ((1 : Int) < (x5.toNat : Int))) := Or.imp (fun h => of_decide_eq_false h) (fun h => of_decide_eq_false h) (band_f q31)
 refine WC.skip ?_
 refine WX.blkNormal ?_
 refine WX.next ?_
 refine WC.seq ?_
 refine WC.region ?_
 refine WO.v (R.move rfl) rfl ?_
 refine WO.v (R.move rfl) rfl ?_
 refine WO.v (R.move rfl) rfl ?_
 obtain ⟨A34, cs35, hA34, loA34, hiA34, ccA34, r36⟩ := (sl_old h_b b1).at_ hx5
 obtain rfl := r36
 refine WO.v (R.indexAddrN rfl rfl Try.underlying27 sz5 hA34 (by omega)) rfl ?_
 refine WO.v (R.load1 rfl Try.underlying5 rfl (CellsAt.one0 ccA34)) rfl ?_
 refine WO.v (R.andU8 (a := x5) (b := (127 : UInt8)) rfl rfl) rfl ?_
 have u36 := UInt8.toNat_lt (x5 &&& (127 : UInt8))
 refine WO.v (R.toU64 (a := (x5 &&& (127 : UInt8)).toNat) rfl Try.underlying5 Try.underlying35 (by omega)) rfl ?_
 refine WO.v (R.move rfl) rfl ?_
 refine WO.v (R.mulN (a := 7) (b := k) rfl rfl (by omega)) rfl ?_
 have hs38 : ((x5 &&& (127 : UInt8)).toNat * 2 ^ (7 * k)) < 18446744073709551616 := shl_ok (by omega) (by omega)
 refine WO.v (R.shlU64 (a := (x5 &&& (127 : UInt8)).toNat) (b := (7 * k)) rfl rfl (by omega) hs38) rfl ?_
 refine WO.v (R.orU64 (a := m) (b := ((x5 &&& (127 : UInt8)).toNat * 2 ^ (7 * k))) rfl rfl (hm64) (hs38)) rfl ?_
 refine WO.v (R.assign rfl) rfl ?_
 refine WO.nil ?_
 refine WX.sel [0, 2, 3, 4, 5, 6, 7, 8, 9, 10, 12, 17] rfl ?_
 refine WX.next ?_
 refine WC.seq ?_
 refine WC.region ?_
 refine WO.v (R.move rfl) rfl ?_
 refine WO.v (R.move rfl) rfl ?_
 obtain ⟨A40, cs41, hA40, loA40, hiA40, ccA40, r42⟩ := (sl_old h_b b1).at_ hx5
 obtain rfl := r42
 refine WO.v (R.indexAddrN rfl rfl Try.underlying27 sz5 hA40 (by omega)) rfl ?_
 refine WO.v (R.load1 rfl Try.underlying5 rfl (CellsAt.one0 ccA40)) rfl ?_
 refine WO.v (R.lss rfl rfl) rfl ?_
 refine WO.nil ?_
 refine WX.sel [0, 2, 3, 4, 5, 6, 7, 8, 9, 10, 12, 17, 51] rfl ?_
 refine WX.next ?_
 refine WC.cond rfl (fun q43 => ?_) (fun q43 => ?_)
 have p43 : (x5.toNat : Int) < (128 : Int) := of_decide_eq_true q43
 refine WC.seq ?_
 refine WC.region ?_
 refine WO.v (R.move rfl) rfl ?_
 refine WO.v (R.inc rfl (by omega)) rfl ?_
 refine WO.v (R.assign rfl) rfl ?_
 refine WO.v (R.assign rfl) rfl ?_
 refine WO.nil ?_
 refine WX.sel [0, 2, 3, 4, 5, 6, 7, 8, 9, 10, 12, 17, 51] rfl ?_
 refine WX.next ?_
 refine WC.exit ?_
 refine WX.blkMiss rfl ?_
 refine WX.thenExit ?_
 refine WX.loopExit ?_
 refine WX.blkHit ?_
 refine WX.next ?_
 refine WC.seq ?_
 refine WC.seq ?_
 refine WC.region ?_
 refine WO.v (R.move rfl) rfl ?_
 refine WO.v (R.neq rfl rfl) rfl ?_
 refine WO.nil ?_
 refine WX.sel [0, 2, 3, 4, 5, 6, 7, 8, 9, 10, 12, 17, 51, 56] rfl ?_
 refine WX.next ?_
 refine WC.cond rfl (fun q44 => ?_) (fun q44 => ?_)
 have p44 : ¬ ((0 : Int) = (0 : Int)) := of_decide_eq_false (bnot_t q44)
 exact False.elim (by omega)
 have p44 : (0 : Int) = (0 : Int) := of_decide_eq_true (bnot_f q44)
 refine WC.skip ?_
 refine WX.next ?_
 refine WC.seq ?_
 refine WC.region ?_
 refine WO.v (R.move rfl) rfl ?_
 refine WO.v (R.move rfl) rfl ?_
 refine WO.v (R.assign rfl) rfl ?_
 refine WO.v (R.assign rfl) rfl ?_
 refine WO.v (R.assign rfl) rfl ?_
 refine WO.nil ?_
 refine WX.sel [0, 2, 3, 4, 5, 6, 7, 8, 9, 10, 12, 17, 51, 56] rfl ?_
 refine WX.next ?_
 refine WC.ret ?_
 refine WX.scRet ?_
 have e0 : (m ||| ((x5 &&& (127 : UInt8)).toNat * 2 ^ (7 * k))) = ((takeF b).1) := by first | exact False.elim (by omega) | (rw [show takeF b = _ from (by first | exact tk_bad htk (by omega) (by assumption) (by omega) | exact (htk.trans (tk_nil (by omega) (by omega))) | exact (htk.trans (tk_ten (by omega))) | exact tk_done htk (by omega) (by assumption) (by omega) (by omega) (by omega))]; done) | (rw [show takeF b = _ from (by first | exact tk_bad htk (by omega) (by assumption) (by omega) | exact (htk.trans (tk_nil (by omega) (by omega))) | exact (htk.trans (tk_ten (by omega))) | exact tk_done htk (by omega) (by assumption) (by omega) (by omega) (by omega))]; rfl) | (rw [show takeF b = _ from (by first | exact tk_bad htk (by omega) (by assumption) (by omega) | exact (htk.trans (tk_nil (by omega) (by omega))) | exact (htk.trans (tk_ten (by omega))) | exact tk_done htk (by omega) (by assumption) (by omega) (by omega) (by omega))]; exact or_add hm7)
 have c0 : (((m ||| ((x5 &&& (127 : UInt8)).toNat * 2 ^ (7 * k))) : Nat) : Int) = ((((takeF b).1) : Nat) : Int) := congrArg Int.ofNat e0
 have e1 : ((k + 1 : Nat) : Int) = ((((takeF b).2.1) : Nat) : Int) := by first | exact False.elim (by omega) | (rw [show takeF b = _ from (by first | exact tk_bad htk (by omega) (by assumption) (by omega) | exact (htk.trans (tk_nil (by omega) (by omega))) | exact (htk.trans (tk_ten (by omega))) | exact tk_done htk (by omega) (by assumption) (by omega) (by omega) (by omega))]; done) | (rw [show takeF b = _ from (by first | exact tk_bad htk (by omega) (by assumption) (by omega) | exact (htk.trans (tk_nil (by omega) (by omega))) | exact (htk.trans (tk_ten (by omega))) | exact tk_done htk (by omega) (by assumption) (by omega) (by omega) (by omega))]; rfl) | (rw [show takeF b = _ from (by first | exact tk_bad htk (by omega) (by assumption) (by omega) | exact (htk.trans (tk_nil (by omega) (by omega))) | exact (htk.trans (tk_ten (by omega))) | exact tk_done htk (by omega) (by assumption) (by omega) (by omega) (by omega))]; exact or_add hm7)
 have e2 : (0 : Int) = ((takeF b).2.2) := by first | exact False.elim (by omega) | (rw [show takeF b = _ from (by first | exact tk_bad htk (by omega) (by assumption) (by omega) | exact (htk.trans (tk_nil (by omega) (by omega))) | exact (htk.trans (tk_ten (by omega))) | exact tk_done htk (by omega) (by assumption) (by omega) (by omega) (by omega))]; done) | (rw [show takeF b = _ from (by first | exact tk_bad htk (by omega) (by assumption) (by omega) | exact (htk.trans (tk_nil (by omega) (by omega))) | exact (htk.trans (tk_ten (by omega))) | exact tk_done htk (by omega) (by assumption) (by omega) (by omega) (by omega))]; rfl) | (rw [show takeF b = _ from (by first | exact tk_bad htk (by omega) (by assumption) (by omega) | exact (htk.trans (tk_nil (by omega) (by omega))) | exact (htk.trans (tk_ten (by omega))) | exact tk_done htk (by omega) (by assumption) (by omega) (by omega) (by omega))]; exact or_add hm7)
 refine WX.ret3 Try.results46 rfl rfl rfl ?_
 exact ⟨by rw [← c0, ← e1, ← e2], (e0 ▸ (show (m ||| ((x5 &&& (127 : UInt8)).toNat * 2 ^ (7 * k))) < 18446744073709551616 from Nat.or_lt_two_pow (n := 64) (hm64) (hs38))), Kp.of_below b1⟩
 have p43 : ¬ ((x5.toNat : Int) < (128 : Int)) := of_decide_eq_false q43
 refine WC.skip ?_
 refine WX.blkNormal ?_
 refine WX.next ?_
 refine WC.region ?_
 refine WO.v (R.inc rfl (by omega)) rfl ?_
 refine WO.v (R.move rfl) rfl ?_
 refine WO.nil ?_
 refine WX.sel [0, 2, 3, 4, 5, 6, 7, 8, 9, 10, 12, 17, 51] rfl ?_
 exact WX.loopNextK [0, 2, 3, 4, 6, 7] (k + 1, (m + (x5 &&& 127).toNat * 2 ^ (7 * k))) rfl ⟨⟨_, rfl, rfl⟩, ⟨_, rfl, vi (by rw [or_add hm7])⟩, trivial⟩ ⟨(Kp.refl _).step k1 (by simp), by omega, lt_step hm7, (by rw [← or_add hm7]; exact Nat.or_lt_two_pow (n := 64) hm64 (shl_ok (by omega) (by omega))), tk_next htk (by omega) hx5 (by omega) (by omega) (by omega), (by have := get_lt hx5; omega)⟩ (by show (10 - (k + 1)) < (10 - k); omega)
 have p2 : ¬ (((k : Nat) : Int) < (10 : Int)) := of_decide_eq_false q2
 refine WC.exit ?_
 refine WX.thenExit ?_
 refine WX.loopExit ?_
 refine WX.blkHit ?_
 refine WX.next ?_
 refine WC.seq ?_
 refine WC.seq ?_
 refine WC.region ?_
 refine WO.v (R.move rfl) rfl ?_
 refine WO.v (R.neq rfl rfl) rfl ?_
 refine WO.nil ?_
 refine WX.sel [0, 2, 3, 4, 5, 6, 7, 9, 10, 56] rfl ?_
 refine WX.next ?_
 refine WC.cond rfl (fun q45 => ?_) (fun q45 => ?_)
 have p45 : ¬ ((3 : Int) = (0 : Int)) := of_decide_eq_false (bnot_t q45)
 refine WC.seq ?_
 refine WC.region ?_
 refine WO.v (R.move rfl) rfl ?_
 refine WO.v (R.assign rfl) rfl ?_
 refine WO.v (R.assign rfl) rfl ?_
 refine WO.v (R.assign rfl) rfl ?_
 refine WO.nil ?_
 refine WX.sel [0, 2, 3, 4, 5, 6, 7, 9, 10, 56] rfl ?_
 refine WX.next ?_
 refine WC.ret ?_
 refine WX.thenRet ?_
 refine WX.scRet ?_
 have e0 : 0 = ((takeF b).1) := by first | exact False.elim (by omega) | (rw [show takeF b = _ from (by first | exact tk_bad htk (by omega) (by assumption) (by omega) | exact (htk.trans (tk_nil (by omega) (by omega))) | exact (htk.trans (tk_ten (by omega))) | exact tk_done htk (by omega) (by assumption) (by omega) (by omega) (by omega))]; done) | (rw [show takeF b = _ from (by first | exact tk_bad htk (by omega) (by assumption) (by omega) | exact (htk.trans (tk_nil (by omega) (by omega))) | exact (htk.trans (tk_ten (by omega))) | exact tk_done htk (by omega) (by assumption) (by omega) (by omega) (by omega))]; rfl) | (rw [show takeF b = _ from (by first | exact tk_bad htk (by omega) (by assumption) (by omega) | exact (htk.trans (tk_nil (by omega) (by omega))) | exact (htk.trans (tk_ten (by omega))) | exact tk_done htk (by omega) (by assumption) (by omega) (by omega) (by omega))]; exact or_add hm7)
 have c0 : (0 : Int) = ((((takeF b).1) : Nat) : Int) := congrArg Int.ofNat e0
 have e1 : (0 : Int) = ((((takeF b).2.1) : Nat) : Int) := by first | exact False.elim (by omega) | (rw [show takeF b = _ from (by first | exact tk_bad htk (by omega) (by assumption) (by omega) | exact (htk.trans (tk_nil (by omega) (by omega))) | exact (htk.trans (tk_ten (by omega))) | exact tk_done htk (by omega) (by assumption) (by omega) (by omega) (by omega))]; done) | (rw [show takeF b = _ from (by first | exact tk_bad htk (by omega) (by assumption) (by omega) | exact (htk.trans (tk_nil (by omega) (by omega))) | exact (htk.trans (tk_ten (by omega))) | exact tk_done htk (by omega) (by assumption) (by omega) (by omega) (by omega))]; rfl) | (rw [show takeF b = _ from (by first | exact tk_bad htk (by omega) (by assumption) (by omega) | exact (htk.trans (tk_nil (by omega) (by omega))) | exact (htk.trans (tk_ten (by omega))) | exact tk_done htk (by omega) (by assumption) (by omega) (by omega) (by omega))]; exact or_add hm7)
 have e2 : (3 : Int) = ((takeF b).2.2) := by first | exact False.elim (by omega) | (rw [show takeF b = _ from (by first | exact tk_bad htk (by omega) (by assumption) (by omega) | exact (htk.trans (tk_nil (by omega) (by omega))) | exact (htk.trans (tk_ten (by omega))) | exact tk_done htk (by omega) (by assumption) (by omega) (by omega) (by omega))]; done) | (rw [show takeF b = _ from (by first | exact tk_bad htk (by omega) (by assumption) (by omega) | exact (htk.trans (tk_nil (by omega) (by omega))) | exact (htk.trans (tk_ten (by omega))) | exact tk_done htk (by omega) (by assumption) (by omega) (by omega) (by omega))]; rfl) | (rw [show takeF b = _ from (by first | exact tk_bad htk (by omega) (by assumption) (by omega) | exact (htk.trans (tk_nil (by omega) (by omega))) | exact (htk.trans (tk_ten (by omega))) | exact tk_done htk (by omega) (by assumption) (by omega) (by omega) (by omega))]; exact or_add hm7)
 refine WX.ret3 Try.results46 rfl rfl rfl ?_
 exact ⟨by rw [← c0, ← e1, ← e2], (e0 ▸ (show 0 < 18446744073709551616 from by decide)), Kp.of_below b1⟩
 have p45 : (3 : Int) = (0 : Int) := of_decide_eq_true (bnot_f q45)
 exact False.elim (by omega)


end Go.Proofs.Ytfmlgeeogbhppaa
