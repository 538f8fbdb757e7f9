/- Contracts of functions, walked operation by operation. -/
import Derived.Test.YtfmlgeeogbhppaaE4
namespace Go.Proofs.Ytfmlgeeogbhppaa
open Go.RowKit

theorem putB_eq (n : Nat) : putB n 0 = UInt8.ofNat (n % 128 + 128) := UInt8.toNat_inj.1 (by rw [putB0, UInt8.toNat_ofNat']; omega)
theorem put1_next {p : List UInt8} {r n : Nat} (h : p ++ putF r = putF n) (hr : ¬ r < 128) : (p ++ [UInt8.ofNat (r % 128 + 128)]) ++ putF (r / 128) = putF n := by
  rw [← h, putF_big hr, putB_eq, List.append_assoc]; rfl
theorem put1_end {p : List UInt8} {r n : Nat} (h : p ++ putF r = putF n) (hr : r < 128) : p ++ [UInt8.ofNat r] = putF n := by rw [← h, putF_small hr]
theorem put1_len {p : List UInt8} {r n : Nat} (h : p ++ putF r = putF n) (hn : n < 18446744073709551616) : p.length ≤ 10 := by
  have := congrArg List.length h; rw [List.length_append] at this; have := putF_len10 hn; omega
theorem un_step2 {b : List UInt8} {k : Nat} {x : UInt8} (hx : b[k]? = some x) : bytesI (b.take k) ++ [(x.toNat : Int)] = bytesI (b.take (k + 1)) := un_step (p := (x.toNat, 1, 0)) hx rfl
theorem chunks_bytes {b : List UInt8} (h : rowF (bytesI b) = true) : chunksB (bytesI b) = b := by
  rw [(row_parts h).1]; unfold bytesI; rw [List.map_map]
  refine (List.map_congr_left (g := id) fun x _ => ?_).trans (List.map_id _)
  show UInt8.ofNat ((x.toNat : Int)).toNat = x
  simp
theorem un_bad2 {b : List UInt8} {k : Nat} (hk : b.length ≤ k) (h : (¬ chunksE (bytesI (b.take k)) = 0) ∨ (¬ (⟨chunksB (bytesI (b.take k))⟩ : Str) = ⟨b⟩)) : rowF (bytesI b) = false := by
  rw [un_all hk] at h
  cases hr : rowF (bytesI b) with
  | false => rfl
  | true => rw [(row_parts hr).2.1, chunks_bytes hr] at h; simp at h
theorem un_ok2 {b : List UInt8} {k : Nat} (h : chunksE (bytesI (b.take k)) = 0) : rowF (bytesI (b.take k)) = true := by
  cases hr : rowF (bytesI (b.take k)) with
  | true => rfl
  | false => rw [chunksE, hr] at h; cases h
def shortB (l : List UInt8) : List UInt8 := l.take 3000
theorem shortB_len (l : List UInt8) : (shortB l).length ≤ 3000 := by unfold shortB; rw [List.length_take]; exact Nat.min_le_left _ _



set_option maxRecDepth 100000 in
set_option maxHeartbeats 400000 in
theorem put1_s {w : World} (n : Nat) (i_n : n < 18446744073709551616) :
    Ret Try.prog 48 [.int .u64 ((n : Nat) : Int)].toArray w fun r w' => ∃ (ra0 : Option Addr) (rc0 : Nat), r = .slice ra0 (putF n).length rc0 ∧ Ac w.heap.size true w.heap.size w'.heap.size w'.heap.size w' (.slice ra0 (putF n).length rc0) (putF n) ∧ Kp [] w w' := by
 refine Ret.enter Try.func48 rfl Try.ntmps48 rfl rfl ?_
 refine WC.sel [0] rfl ?_
 refine WC.seq ?_
 refine WC.region ?_
 refine WO.v (R.assign rfl) rfl ?_
 refine WO.nil ?_
 refine WX.sel [0, 2] rfl ?_
 refine WX.next ?_
 refine WC.seq ?_
 refine WC.region ?_
 refine WO.buildSlice (parts := []) (vss := []) Try.underlying27 sz5 zr5 rfl rfl (by simp) rfl rfl rfl ?_
 intro w1 n1
 have z1 := n1.lt
 have b1 := old_kp0 (Below.refl w.heap.size w) n1.kp
 have y1 := b1.size
 have ac2 : Ac (α := UInt8) (w.heap.size) true (w.heap.size) (w1.heap.size) (w1.heap.size) w1 (.slice (some ⟨w.heap.size, 0, none⟩) 0 0) ([] : List UInt8) := Ac.lit (α := UInt8) (ys := ([] : List UInt8)) (css := []) n1.blk (.nil) (by omega) (by omega) (by simp [maxLen]) (by show 0 * 1 ≤ 140737488355328; decide) rfl
 have lenac2 : ([] : List UInt8).length = 0 := rfl
 refine WO.v (R.assign rfl) rfl ?_
 refine WO.nil ?_
 refine WX.sel [0, 2, 3] rfl ?_
 refine WX.next ?_
 refine WC.seq ?_
 refine WC.block ?_
 refine WC.loopK [2] rfl (fun zz : Nat × List UInt8 × Option Addr × Nat => [(0, (.int .u64 (((zz.1) : Nat) : Int))), (3, (.slice (zz.2.2.1) (zz.2.1).length (zz.2.2.2)))]) (fun (zz : Nat × List UInt8 × Option Addr × Nat) (w' : World) => (Kp [] w1 w') ∧ ((zz.1) < 18446744073709551616) ∧ ((zz.2.1) ++ putF (zz.1) = putF n) ∧ (Ac (α := UInt8) (w1.heap.size) true (w.heap.size) w'.heap.size w'.heap.size w' (.slice (zz.2.2.1) (zz.2.1).length (zz.2.2.2)) (zz.2.1))) (fun zz => (zz.1)) (n, [], (some ⟨w.heap.size, 0, none⟩), 0) ?_ ?_ ?_
 exact ⟨⟨_, rfl, rfl⟩, ⟨_, rfl, rfl⟩, trivial⟩
 exact ⟨Kp.refl _, i_n, rfl, Ac.empty _ _ _ _ _ _ _⟩
 rintro ⟨r, p, aa, ac⟩ w3 ⟨k3, hr, hpp, hac⟩
 try dsimp only at hr hpp hac
 have z3 := k3.size
 have b3 := old_kp0 b1 k3
 have y3 := b3.size
 refine (?_ : WC _ _ _ _ ([(0, (.int .u64 ((r : Nat) : Int))), (3, (.slice aa p.length ac))] ++ _) w3)
 have hpl := put1_len hpp i_n
 have lenhac : p.length * 1 ≤ 140737488355328 := hac.lenle
 refine WC.seq ?_
 refine WC.seq ?_
 refine WC.region ?_
 refine WO.v (R.move rfl) rfl ?_
 refine WO.v (R.geq rfl rfl) rfl ?_
 refine WO.nil ?_
 refine WX.sel [0, 2, 3, 6] rfl ?_
 refine WX.next ?_
 refine WC.cond rfl (fun q4 => ?_) (fun q4 => ?_)
 have p4 : (128 : Int) ≤ ((r : Nat) : Int) := of_decide_eq_true q4
 refine WC.skip ?_
 refine WX.next ?_
 refine WC.block ?_
 refine WC.seq ?_
 refine WC.region ?_
 refine WO.v (R.move rfl) rfl ?_
 refine WO.v (R.move rfl) rfl ?_
 refine WO.v (R.remN (a := r) (b := 128) rfl rfl (by omega)) rfl ?_
 refine WO.v (R.addU64 (a := (r % 128)) (b := 128) rfl rfl (by omega)) rfl ?_
 refine WO.v (R.toU8 (a := ((r % 128) + 128)) rfl Try.underlying35 Try.underlying5) rfl ?_
 refine WO.buildSlice (parts := [_]) (vss := [[_]]) Try.underlying27 sz5 zr5 rfl rfl (by simp) rfl rfl rfl ?_
 intro w5 n5
 have z5 := n5.lt
 have b5 := old_kp0 b3 n5.kp
 have y5 := b5.size
 have ac6 : Ac (α := UInt8) (w3.heap.size) true (w.heap.size) (w5.heap.size) (w5.heap.size) w5 (.slice (some ⟨w3.heap.size, 0, none⟩) 1 1) ([(UInt8.ofNat ((r % 128) + 128))] : List UInt8) := Ac.lit (α := UInt8) (ys := ([(UInt8.ofNat ((r % 128) + 128))] : List UInt8)) (css := [[_]]) n5.blk (.cons (rfl) (.nil)) (by omega) (by omega) (by simp [maxLen]) (by show 1 * 1 ≤ 140737488355328; decide) rfl
 have lenac6 : ([(UInt8.ofNat ((r % 128) + 128))] : List UInt8).length = 1 := rfl
 have ac12 : Ac (α := UInt8) (w1.heap.size) true (w.heap.size) (w5.heap.size) (w3.heap.size) w5 (.slice aa p.length ac) p := (ac_kp0 (hac) n5.kp (by omega) (by omega)).mono (Nat.le_refl _) (Nat.le_refl _) (by omega) (Nat.le_refl _)
 have bd7 := ac12.bd
 have ty13 := ac12.ty
 have lenac12 : (p).length * 1 ≤ 140737488355328 := ac12.lenle
 have lxac12 : (p ++ ([(UInt8.ofNat ((r % 128) + 128))] : List UInt8)).length = p.length + ([(UInt8.ofNat ((r % 128) + 128))] : List UInt8).length := List.length_append
 refine WO.append rfl ac12 (by omega) (by omega) (by omega) rfl rfl (ys := ([(UInt8.ofNat ((r % 128) + 128))] : List UInt8)) (Src.flat (((ac6).pub (L := 0) (H := w5.heap.size) (by omega) (by omega) (by omega) (by omega))) (fun h => h)) (.inl rfl) Try.underlying27 inf5 rfl rfl rfl (by decide) (by first | omega | (simp only [List.length_cons, List.length_nil]; omega) | (simp only [List.length_append, List.length_cons, List.length_nil]; omega)) (by omega) rfl ?_
 intro a9 c10 w8 h11 k8 or14
 have z8 := k8.size
 have b8 := old_kp b5 k8 (fun g hg => by have := bd7 g hg; omega)
 have y8 := b8.size
 refine WO.v (R.assign rfl) rfl ?_
 refine WO.nil ?_
 refine WX.sel [0, 2, 3, 6] rfl ?_
 refine WX.next ?_
 refine WC.region ?_
 refine WO.v (R.move rfl) rfl ?_
 refine WO.v (R.quoN (a := r) (b := 128) rfl rfl (by omega) (wrap_u64 (by omega))) rfl ?_
 refine WO.v (R.assign rfl) rfl ?_
 refine WO.nil ?_
 refine WX.sel [0, 2, 3, 6] rfl ?_
 refine WX.blkNormal ?_
 exact WX.loopNextK [2] ((r / 128), (p ++ ([(UInt8.ofNat ((r % 128) + 128))] : List UInt8)), a9, c10) rfl ⟨⟨_, rfl, rfl⟩, ⟨_, rfl, rfl⟩, trivial⟩ ⟨(((Kp.refl _).step k3 (by simp)).step n5.kp (by simp)).step k8 (fun g hg => .inr (by have := bd7 g hg; omega)), by omega, put1_next hpp (by omega), ac_n ((h11).mono (by omega) (by omega) (by omega) (by omega)) rfl rfl⟩ (by show (((r / 128))) < (r); omega)
 have p4 : ¬ ((128 : Int) ≤ ((r : Nat) : Int)) := of_decide_eq_false q4
 refine WC.exit ?_
 refine WX.thenExit ?_
 refine WX.loopExit ?_
 refine WX.blkHit ?_
 refine WX.next ?_
 refine WC.seq ?_
 refine WC.region ?_
 refine WO.v (R.move rfl) rfl ?_
 refine WO.v (R.move rfl) rfl ?_
 refine WO.v (R.toU8 (a := r) rfl Try.underlying35 Try.underlying5) rfl ?_
 refine WO.buildSlice (parts := [_]) (vss := [[_]]) Try.underlying27 sz5 zr5 rfl rfl (by simp) rfl rfl rfl ?_
 intro w15 n15
 have z15 := n15.lt
 have b15 := old_kp0 b3 n15.kp
 have y15 := b15.size
 have ac16 : Ac (α := UInt8) (w3.heap.size) true (w.heap.size) (w15.heap.size) (w15.heap.size) w15 (.slice (some ⟨w3.heap.size, 0, none⟩) 1 1) ([(UInt8.ofNat r)] : List UInt8) := Ac.lit (α := UInt8) (ys := ([(UInt8.ofNat r)] : List UInt8)) (css := [[_]]) n15.blk (.cons (rfl) (.nil)) (by omega) (by omega) (by simp [maxLen]) (by show 1 * 1 ≤ 140737488355328; decide) rfl
 have lenac16 : ([(UInt8.ofNat r)] : List UInt8).length = 1 := rfl
 have ac22 : Ac (α := UInt8) (w1.heap.size) true (w.heap.size) (w15.heap.size) (w3.heap.size) w15 (.slice aa p.length ac) p := (ac_kp0 (hac) n15.kp (by omega) (by omega)).mono (Nat.le_refl _) (Nat.le_refl _) (by omega) (Nat.le_refl _)
 have bd17 := ac22.bd
 have ty23 := ac22.ty
 have lenac22 : (p).length * 1 ≤ 140737488355328 := ac22.lenle
 have lxac22 : (p ++ ([(UInt8.ofNat r)] : List UInt8)).length = p.length + ([(UInt8.ofNat r)] : List UInt8).length := List.length_append
 refine WO.append rfl ac22 (by omega) (by omega) (by omega) rfl rfl (ys := ([(UInt8.ofNat r)] : List UInt8)) (Src.flat (((ac16).pub (L := 0) (H := w15.heap.size) (by omega) (by omega) (by omega) (by omega))) (fun h => h)) (.inl rfl) Try.underlying27 inf5 rfl rfl rfl (by decide) (by first | omega | (simp only [List.length_cons, List.length_nil]; omega) | (simp only [List.length_append, List.length_cons, List.length_nil]; omega)) (by omega) rfl ?_
 intro a19 c20 w18 h21 k18 or24
 have z18 := k18.size
 have b18 := old_kp b15 k18 (fun g hg => by have := bd17 g hg; omega)
 have y18 := b18.size
 refine WO.v (R.assign rfl) rfl ?_
 refine WO.nil ?_
 refine WX.sel [0, 2, 3, 6] rfl ?_
 refine WX.next ?_
 refine WC.ret ?_
 have e0 : (p ++ ([(UInt8.ofNat r)] : List UInt8)) = (putF n) := by exact put1_end hpp (by omega)
 have n0 : (p ++ ([(UInt8.ofNat r)] : List UInt8)).length = (putF n).length := by rw [e0]
 have f0 : Ac (α := UInt8) w.heap.size true w.heap.size w18.heap.size w18.heap.size w18 (.slice a19 (p ++ ([(UInt8.ofNat r)] : List UInt8)).length c20) (p ++ ([(UInt8.ofNat r)] : List UInt8)) := ((h21).mono (by omega) (by omega) (by omega) (by omega))
 refine WX.ret1 Try.results48 rfl ?_
 exact ⟨a19, c20, by rw [n0], (acl_n f0 e0 n0), Kp.of_below b18⟩

set_option maxRecDepth 100000 in
set_option maxHeartbeats 400000 in
theorem chunksR_s {w : World} {a_l : Option Addr} {c_l : Nat} {l : List Int} (h_l : Sl false 0 w.heap.size w (.slice a_l l.length c_l) l) :
    Ret Try.prog 23 [.slice a_l l.length c_l].toArray w fun r w' => ∃ (ra0 : Option Addr) (rc0 : Nat), r = .tuple #[.slice ra0 (chunksB l).length rc0, .int .i64 (chunksE l)] ∧ Ac w.heap.size true w.heap.size w'.heap.size w'.heap.size w' (.slice ra0 (chunksB l).length rc0) (chunksB l) ∧ Kp [] w w' := by
 have len_l : (l).length * 8 ≤ 140737488355328 := h_l.lenle
 refine Ret.enter Try.func23 rfl Try.ntmps23 rfl rfl ?_
 refine WC.sel [0] rfl ?_
 refine WC.seq ?_
 refine WC.region ?_
 refine WO.v (R.assign rfl) rfl ?_
 refine WO.v (R.assign rfl) rfl ?_
 refine WO.nil ?_
 refine WX.sel [0, 2, 3] rfl ?_
 refine WX.next ?_
 refine WC.seq ?_
 refine WC.seq ?_
 refine WC.region ?_
 refine WO.v (R.move rfl) rfl ?_
 refine WO.c (E.call rfl rfl Try.func47 rfl rfl) (row5_s (l := l) (a_l := a_l) (c_l := c_l) ((h_l).mono (lo' := 0) (hi' := w.heap.size) (Nat.zero_le _) (by omega))) rfl ?_
 rintro _ w1 ⟨rfl, k1⟩
 have z1 := k1.size
 have b1 := old_kp0 (Below.refl w.heap.size w) k1
 have y1 := b1.size
 refine WO.v (R.not rfl) rfl ?_
 refine WO.nil ?_
 refine WX.sel [0, 2, 3, 8] rfl ?_
 refine WX.next ?_
 refine WC.cond rfl (fun q2 => ?_) (fun q2 => ?_)
 have p2 : (rowF (l)) = false := (bnot_t q2)
 refine WC.seq ?_
 refine WC.region ?_
 refine WO.v (R.assign rfl) rfl ?_
 refine WO.v (R.assign rfl) rfl ?_
 refine WO.nil ?_
 refine WX.sel [0, 2, 3, 8] rfl ?_
 refine WX.next ?_
 refine WC.ret ?_
 refine WX.thenRet ?_
 have e0 : ([] : List UInt8) = (chunksB l) := by first | exact puts_all hrow (by omega) | exact chunks_no (by assumption)
 have n0 : 0 = (chunksB l).length := by rw [← e0]; simp only [List.length_nil]
 have f0 : Ac (α := UInt8) w.heap.size true w.heap.size w1.heap.size w1.heap.size w1 (.slice none 0 0) ([] : List UInt8) := Ac.empty _ _ _ _ _ _ _
 have e1 : (1 : Int) = (chunksE l) := by first | exact chunksE_yes hrow | exact chunksE_no (by assumption)
 refine WX.ret2 Try.results23 rfl rfl ?_
 exact ⟨none, 0, by rw [n0, e1], (acl_n f0 e0 n0), Kp.of_below b1⟩
 have p2 : (rowF (l)) = true := (bnot_f q2)
 refine WC.skip ?_
 refine WX.next ?_
 refine WC.seq ?_
 refine WC.region ?_
 refine WO.buildSlice (parts := []) (vss := []) Try.underlying27 sz5 zr5 rfl rfl (by simp) rfl rfl rfl ?_
 intro w3 n3
 have z3 := n3.lt
 have b3 := old_kp0 b1 n3.kp
 have y3 := b3.size
 have ac4 : Ac (α := UInt8) (w1.heap.size) true (w.heap.size) (w3.heap.size) (w3.heap.size) w3 (.slice (some ⟨w1.heap.size, 0, none⟩) 0 0) ([] : List UInt8) := Ac.lit (α := UInt8) (ys := ([] : List UInt8)) (css := []) n3.blk (.nil) (by omega) (by omega) (by simp [maxLen]) (by show 0 * 1 ≤ 140737488355328; decide) rfl
 have lenac4 : ([] : List UInt8).length = 0 := rfl
 refine WO.v (R.assign rfl) rfl ?_
 refine WO.nil ?_
 refine WX.sel [0, 2, 3, 4, 8] rfl ?_
 refine WX.next ?_
 refine WC.seq ?_
 refine WC.seq ?_
 refine WC.region ?_
 refine WO.v (R.assign rfl) rfl ?_
 refine WO.nil ?_
 refine WX.sel [0, 2, 3, 4, 5, 8] rfl ?_
 refine WX.next ?_
 refine WC.block ?_
 refine WC.loopK [0, 2, 3, 8] rfl (fun zz : Nat × Option Addr × Nat => [(5, (.int .i64 (((zz.1) : Nat) : Int))), (4, (.slice (zz.2.1) (putsF (l.take (zz.1))).length (zz.2.2)))]) (fun (zz : Nat × Option Addr × Nat) (w' : World) => (Kp [] w3 w') ∧ ((zz.1) ≤ l.length) ∧ (Ac (α := UInt8) (w3.heap.size) true (w.heap.size) (w'.heap.size) w'.heap.size w' (.slice (zz.2.1) (putsF (l.take (zz.1))).length (zz.2.2)) (putsF (l.take (zz.1))))) (fun zz => l.length - (zz.1)) (0, (some ⟨w1.heap.size, 0, none⟩), 0) ?_ ?_ ?_
 exact ⟨⟨_, rfl, rfl⟩, ⟨_, rfl, rfl⟩, trivial⟩
 exact ⟨Kp.refl _, Nat.zero_le _, Ac.empty _ _ _ _ _ _ _⟩
 rintro ⟨k, aa0, ac0⟩ w5 ⟨k5, hk, hac4_0⟩
 try dsimp only at hk hac4_0
 have z5 := k5.size
 have b5 := old_kp0 b3 k5
 have y5 := b5.size
 refine (?_ : WC _ _ _ _ ([(5, (.int .i64 ((k : Nat) : Int))), (4, (.slice aa0 (putsF (l.take k)).length ac0))] ++ _) w5)
 have hrow : rowF l = true := (by assumption)
 have hrl := row_len hrow
 have : (putsF (l.take k)).length ≤ 10 * 8 := by have h1 := puts_len (l := l.take k) (fun x hx => (row_le hrow x (List.mem_of_mem_take hx)).2); rw [List.length_take] at h1; omega
 have lenhac4_0 : (putsF (l.take k)).length * 1 ≤ 140737488355328 := hac4_0.lenle
 refine WC.seq ?_
 refine WC.seq ?_
 refine WC.region ?_
 refine WO.v (R.move rfl) rfl ?_
 refine WO.v (R.move rfl) rfl ?_
 refine WO.v (R.len rfl Try.underlying22) rfl ?_
 refine WO.v (R.lss rfl rfl) rfl ?_
 refine WO.nil ?_
 refine WX.sel [0, 2, 3, 4, 5, 8, 13] rfl ?_
 refine WX.next ?_
 refine WC.cond rfl (fun q6 => ?_) (fun q6 => ?_)
 have p6 : ((k : Nat) : Int) < ((l.length : Nat) : Int) := of_decide_eq_true q6
 refine WC.skip ?_
 refine WX.next ?_
 refine WC.seq ?_
 refine WC.block ?_
 refine WC.region ?_
 refine WO.v (R.move rfl) rfl ?_
 refine WO.v (R.move rfl) rfl ?_
 refine WO.v (R.move rfl) rfl ?_
 obtain ⟨x7, hx7⟩ := get_ex (xs := l) (i := k) (by omega)
 have := row_le hrow _ (List.mem_of_getElem? hx7)
 obtain ⟨A8, cs9, hA8, loA8, hiA8, ccA8, r10⟩ := (sl_old h_l b5).at_ hx7
 obtain ⟨rfl, i11⟩ := r10
 refine WO.v (R.indexAddrN rfl rfl Try.underlying22 sz3 hA8 (by omega)) rfl ?_
 refine WO.v (R.load1 rfl Try.underlying3 rfl (CellsAt.one0 ccA8)) rfl ?_
 have hN12 : (x7).toNat < 18446744073709551616 := by have := i11; unfold I64 at this; omega
 refine WO.v (R.toU64J (a := (x7).toNat) rfl Try.underlying3 Try.underlying35 (by omega) hN12) rfl ?_
 refine WO.c (E.call rfl rfl Try.func48 rfl rfl) (put1_s (n := (x7).toNat) (hN12)) rfl ?_
 rintro _ w13 ⟨a14, c15, rfl, s16, k13⟩
 have ls16 : (putF ((x7).toNat)).length * 1 ≤ 140737488355328 := s16.lenle
 have z13 := k13.size
 have b13 := old_kp0 b5 k13
 have y13 := b13.size
 have := putF_len10 (n := ((x7).toNat)) (by omega)
 have ac22 : Ac (α := UInt8) (w3.heap.size) true (w.heap.size) (w13.heap.size) (w5.heap.size) w13 (.slice aa0 (putsF (l.take k)).length ac0) (putsF (l.take k)) := (ac_kp0 (hac4_0) k13 (by omega) (by omega)).mono (Nat.le_refl _) (Nat.le_refl _) (by omega) (Nat.le_refl _)
 have bd17 := ac22.bd
 have ty23 := ac22.ty
 have lenac22 : ((putsF (l.take k))).length * 1 ≤ 140737488355328 := ac22.lenle
 have lxac22 : ((putsF (l.take k)) ++ (putF ((x7).toNat))).length = (putsF (l.take k)).length + (putF ((x7).toNat)).length := List.length_append
 refine WO.append rfl ac22 (by omega) (by omega) (by omega) rfl rfl (ys := (putF ((x7).toNat))) (Src.flat (((s16).pub (L := 0) (H := w13.heap.size) (by omega) (by omega) (by omega) (by omega))) (fun h => h)) (.inl rfl) Try.underlying27 inf5 rfl rfl rfl (by decide) (by omega) (by omega) rfl ?_
 intro a19 c20 w18 h21 k18 or24
 have z18 := k18.size
 have b18 := old_kp b13 k18 (fun g hg => by have := bd17 g hg; omega)
 have y18 := b18.size
 refine WO.v (R.assign rfl) rfl ?_
 refine WO.nil ?_
 refine WX.sel [0, 2, 3, 4, 5, 8, 13] rfl ?_
 refine WX.blkNormal ?_
 refine WX.next ?_
 refine WC.region ?_
 refine WO.v (R.move rfl) rfl ?_
 refine WO.v (R.inc rfl (by omega)) rfl ?_
 refine WO.v (R.assign rfl) rfl ?_
 refine WO.nil ?_
 refine WX.sel [0, 2, 3, 4, 5, 8, 13] rfl ?_
 have E25 : ((putsF (l.take k)) ++ (putF ((x7).toNat))) = putsF (l.take (k + 1)) := puts_step hx7
 have nE25 : ((putsF (l.take k)) ++ (putF ((x7).toNat))).length = (putsF (l.take (k + 1))).length := by rw [E25]
 exact WX.loopNextK [0, 2, 3, 8] (k + 1, a19, c20) rfl ⟨⟨_, rfl, rfl⟩, ⟨_, rfl, vs_n nE25⟩, trivial⟩ ⟨(((Kp.refl _).step k5 (by simp)).step k13 (by simp)).step k18 (fun g hg => .inr (by have := bd17 g hg; omega)), by omega, ac_n ((h21).mono (by omega) (by omega) (by omega) (by omega)) E25 nE25⟩ (by show (l.length - (k + 1)) < (l.length - k); omega)
 have p6 : ¬ (((k : Nat) : Int) < ((l.length : Nat) : Int)) := of_decide_eq_false q6
 refine WC.exit ?_
 refine WX.thenExit ?_
 refine WX.loopExit ?_
 refine WX.blkHit ?_
 refine WX.next ?_
 refine WC.seq ?_
 refine WC.region ?_
 refine WO.v (R.move rfl) rfl ?_
 refine WO.v (R.assign rfl) rfl ?_
 refine WO.v (R.assign rfl) rfl ?_
 refine WO.nil ?_
 refine WX.sel [0, 2, 3, 4, 5, 8, 13] rfl ?_
 refine WX.next ?_
 refine WC.ret ?_
 have e0 : (putsF (l.take k)) = (chunksB l) := by first | exact puts_all hrow (by omega) | exact chunks_no (by assumption)
 have n0 : (putsF (l.take k)).length = (chunksB l).length := by rw [e0]
 have f0 : Ac (α := UInt8) w.heap.size true w.heap.size w5.heap.size w5.heap.size w5 (.slice aa0 (putsF (l.take k)).length ac0) (putsF (l.take k)) := ((hac4_0).mono (by omega) (by omega) (by omega) (by omega))
 have e1 : (0 : Int) = (chunksE l) := by first | exact chunksE_yes hrow | exact chunksE_no (by assumption)
 refine WX.ret2 Try.results23 rfl rfl ?_
 exact ⟨aa0, ac0, by rw [n0, e1], (acl_n f0 e0 n0), Kp.of_below b5⟩

set_option maxRecDepth 100000 in
set_option maxHeartbeats 400000 in
theorem unchR_s {w : World} {a_b : Option Addr} {c_b : Nat} {b : List UInt8} (h_b : Sl false 0 w.heap.size w (.slice a_b b.length c_b) b) (pre0 : b.length ≤ 100000) :
    Ret Try.prog 25 [.slice a_b b.length c_b].toArray w fun r w' => ∃ (ra0 : Option Addr) (rc0 : Nat), r = .tuple #[.slice ra0 (unchB b).length rc0, .int .i64 (unchE b)] ∧ Ac w.heap.size true w.heap.size w'.heap.size w'.heap.size w' (.slice ra0 (unchB b).length rc0) (unchB b) ∧ Kp [] w w' := by
 have len_b : (b).length * 1 ≤ 140737488355328 := h_b.lenle
 refine Ret.enter Try.func25 rfl Try.ntmps25 rfl rfl ?_
 refine WC.sel [0] rfl ?_
 refine WC.seq ?_
 refine WC.region ?_
 refine WO.v (R.assign rfl) rfl ?_
 refine WO.v (R.assign rfl) rfl ?_
 refine WO.nil ?_
 refine WX.sel [0, 2, 3] rfl ?_
 refine WX.next ?_
 refine WC.seq ?_
 refine WC.region ?_
 refine WO.buildSlice (parts := []) (vss := []) Try.underlying22 sz3 zr3 rfl rfl (by simp) rfl rfl rfl ?_
 intro w1 n1
 have z1 := n1.lt
 have b1 := old_kp0 (Below.refl w.heap.size w) n1.kp
 have y1 := b1.size
 have ac2 : Ac (α := Int) (w.heap.size) true (w.heap.size) (w1.heap.size) (w1.heap.size) w1 (.slice (some ⟨w.heap.size, 0, none⟩) 0 0) ([] : List Int) := Ac.lit (α := Int) (ys := ([] : List Int)) (css := []) n1.blk (.nil) (by omega) (by omega) (by simp [maxLen]) (by show 0 * 8 ≤ 140737488355328; decide) rfl
 have lenac2 : ([] : List Int).length = 0 := rfl
 refine WO.v (R.assign rfl) rfl ?_
 refine WO.nil ?_
 refine WX.sel [0, 2, 3, 4] rfl ?_
 refine WX.next ?_
 refine WC.seq ?_
 refine WC.seq ?_
 refine WC.region ?_
 refine WO.v (R.assign rfl) rfl ?_
 refine WO.nil ?_
 refine WX.sel [0, 2, 3, 4, 5] rfl ?_
 refine WX.next ?_
 refine WC.block ?_
 refine WC.loopK [0, 2, 3] rfl (fun zz : Nat × Option Addr × Nat => [(5, (.int .i64 (((zz.1) : Nat) : Int))), (4, (.slice (zz.2.1) (bytesI (b.take (zz.1))).length (zz.2.2)))]) (fun (zz : Nat × Option Addr × Nat) (w' : World) => (Kp [] w1 w') ∧ ((zz.1) ≤ b.length) ∧ (Ac (α := Int) (w1.heap.size) true (w.heap.size) (w'.heap.size) w'.heap.size w' (.slice (zz.2.1) (bytesI (b.take (zz.1))).length (zz.2.2)) (bytesI (b.take (zz.1))))) (fun zz => b.length - (zz.1)) (0, (some ⟨w.heap.size, 0, none⟩), 0) ?_ ?_ ?_
 exact ⟨⟨_, rfl, rfl⟩, ⟨_, rfl, rfl⟩, trivial⟩
 exact ⟨Kp.refl _, Nat.zero_le _, Ac.empty _ _ _ _ _ _ _⟩
 rintro ⟨k, aa0, ac0⟩ w3 ⟨k3, hk, hac2_0⟩
 try dsimp only at hk hac2_0
 have z3 := k3.size
 have b3 := old_kp0 b1 k3
 have y3 := b3.size
 refine (?_ : WC _ _ _ _ ([(5, (.int .i64 ((k : Nat) : Int))), (4, (.slice aa0 (bytesI (b.take k)).length ac0))] ++ _) w3)
 have : (bytesI (b.take k)).length ≤ k := by simp [bytesI]; omega
 have lenhac2_0 : (bytesI (b.take k)).length * 8 ≤ 140737488355328 := hac2_0.lenle
 refine WC.seq ?_
 refine WC.seq ?_
 refine WC.region ?_
 refine WO.v (R.move rfl) rfl ?_
 refine WO.v (R.move rfl) rfl ?_
 refine WO.v (R.len rfl Try.underlying27) rfl ?_
 refine WO.v (R.lss rfl rfl) rfl ?_
 refine WO.nil ?_
 refine WX.sel [0, 2, 3, 4, 5, 12] rfl ?_
 refine WX.next ?_
 refine WC.cond rfl (fun q4 => ?_) (fun q4 => ?_)
 have p4 : ((k : Nat) : Int) < ((b.length : Nat) : Int) := of_decide_eq_true q4
 refine WC.skip ?_
 refine WX.next ?_
 refine WC.seq ?_
 refine WC.block ?_
 refine WC.region ?_
 refine WO.v (R.move rfl) rfl ?_
 refine WO.v (R.move rfl) rfl ?_
 refine WO.v (R.move rfl) rfl ?_
 obtain ⟨x5, hx5⟩ := get_ex (xs := b) (i := k) (by omega)
 obtain ⟨A6, cs7, hA6, loA6, hiA6, ccA6, r8⟩ := (sl_old h_b b3).at_ hx5
 obtain rfl := r8
 refine WO.v (R.indexAddrN rfl rfl Try.underlying27 sz5 hA6 (by omega)) rfl ?_
 refine WO.v (R.load1 rfl Try.underlying5 rfl (CellsAt.one0 ccA6)) rfl ?_
 have u8 := UInt8.toNat_lt x5
 refine WO.v (R.convU8 (b := x5) rfl Try.underlying5 Try.underlying3) rfl ?_
 refine WO.buildSlice (parts := [_]) (vss := [[_]]) Try.underlying22 sz3 zr3 rfl rfl (by simp) rfl rfl rfl ?_
 intro w10 n10
 have z10 := n10.lt
 have b10 := old_kp0 b3 n10.kp
 have y10 := b10.size
 have ac11 : Ac (α := Int) (w3.heap.size) true (w.heap.size) (w10.heap.size) (w10.heap.size) w10 (.slice (some ⟨w3.heap.size, 0, none⟩) 1 1) ([((x5.toNat : Nat) : Int)] : List Int) := Ac.lit (α := Int) (ys := ([((x5.toNat : Nat) : Int)] : List Int)) (css := [[_]]) n10.blk (.cons (⟨rfl, ⟨by omega, by omega⟩⟩) (.nil)) (by omega) (by omega) (by simp [maxLen]) (by show 1 * 8 ≤ 140737488355328; decide) rfl
 have lenac11 : ([((x5.toNat : Nat) : Int)] : List Int).length = 1 := rfl
 have ac17 : Ac (α := Int) (w1.heap.size) true (w.heap.size) (w10.heap.size) (w3.heap.size) w10 (.slice aa0 (bytesI (b.take k)).length ac0) (bytesI (b.take k)) := (ac_kp0 (hac2_0) n10.kp (by omega) (by omega)).mono (Nat.le_refl _) (Nat.le_refl _) (by omega) (Nat.le_refl _)
 have bd12 := ac17.bd
 have ty18 := ac17.ty
 have lenac17 : ((bytesI (b.take k))).length * 8 ≤ 140737488355328 := ac17.lenle
 have lxac17 : ((bytesI (b.take k)) ++ ([((x5.toNat : Nat) : Int)] : List Int)).length = (bytesI (b.take k)).length + ([((x5.toNat : Nat) : Int)] : List Int).length := List.length_append
 refine WO.append rfl ac17 (by omega) (by omega) (by omega) rfl rfl (ys := ([((x5.toNat : Nat) : Int)] : List Int)) (Src.flat (((ac11).pub (L := 0) (H := w10.heap.size) (by omega) (by omega) (by omega) (by omega))) (fun h => h)) (.inl rfl) Try.underlying22 inf3 rfl rfl rfl (by decide) (by first | omega | (simp only [List.length_cons, List.length_nil]; omega) | (simp only [List.length_append, List.length_cons, List.length_nil]; omega)) (by omega) rfl ?_
 intro a14 c15 w13 h16 k13 or19
 have z13 := k13.size
 have b13 := old_kp b10 k13 (fun g hg => by have := bd12 g hg; omega)
 have y13 := b13.size
 refine WO.v (R.assign rfl) rfl ?_
 refine WO.nil ?_
 refine WX.sel [0, 2, 3, 4, 5, 12] rfl ?_
 refine WX.blkNormal ?_
 refine WX.next ?_
 refine WC.region ?_
 refine WO.v (R.move rfl) rfl ?_
 refine WO.v (R.inc rfl (by omega)) rfl ?_
 refine WO.v (R.assign rfl) rfl ?_
 refine WO.nil ?_
 refine WX.sel [0, 2, 3, 4, 5, 12] rfl ?_
 have E20 : ((bytesI (b.take k)) ++ ([((x5.toNat : Nat) : Int)] : List Int)) = bytesI (b.take (k + 1)) := un_step2 hx5
 have nE20 : ((bytesI (b.take k)) ++ ([((x5.toNat : Nat) : Int)] : List Int)).length = (bytesI (b.take (k + 1))).length := by rw [E20]
 exact WX.loopNextK [0, 2, 3] (k + 1, a14, c15) rfl ⟨⟨_, rfl, rfl⟩, ⟨_, rfl, vs_n nE20⟩, trivial⟩ ⟨(((Kp.refl _).step k3 (by simp)).step n10.kp (by simp)).step k13 (fun g hg => .inr (by have := bd12 g hg; omega)), by omega, ac_n ((h16).mono (by omega) (by omega) (by omega) (by omega)) E20 nE20⟩ (by show (b.length - (k + 1)) < (b.length - k); omega)
 have p4 : ¬ (((k : Nat) : Int) < ((b.length : Nat) : Int)) := of_decide_eq_false q4
 refine WC.exit ?_
 refine WX.thenExit ?_
 refine WX.loopExit ?_
 refine WX.blkHit ?_
 refine WX.next ?_
 refine WC.seq ?_
 refine WC.region ?_
 refine WO.v (R.move rfl) rfl ?_
 refine WO.c (E.call rfl rfl Try.func23 rfl rfl) (chunksR_s (l := (bytesI (b.take k))) (a_l := aa0) (c_l := ac0) ((hac2_0).pub (L := 0) (H := w3.heap.size) (by omega) (by omega) (by omega) (by omega))) rfl ?_
 rintro _ w21 ⟨a22, c23, rfl, s24, k21⟩
 have ls24 : (chunksB ((bytesI (b.take k)))).length * 1 ≤ 140737488355328 := s24.lenle
 have z21 := k21.size
 have b21 := old_kp0 b3 k21
 have y21 := b21.size
 refine WO.v (R.move rfl) rfl ?_
 refine WO.v (R.extract rfl rfl) rfl ?_
 refine WO.v (R.extract rfl rfl) rfl ?_
 refine WO.v (R.assign rfl) rfl ?_
 refine WO.v (R.assign rfl) rfl ?_
 refine WO.nil ?_
 refine WX.sel [0, 2, 3, 4, 5, 6, 7, 12] rfl ?_
 refine WX.next ?_
 refine WC.seq ?_
 refine WC.seq ?_
 refine WC.region ?_
 refine WO.v (R.move rfl) rfl ?_
 refine WO.v (R.neq rfl rfl) rfl ?_
 refine WO.v (R.move rfl) rfl ?_
 refine WO.cutP 6 [(36, (.bool ((!(decide (chunksE ((bytesI (b.take k))) = (0 : Int)))) || (!(decide ((⟨(chunksB ((bytesI (b.take k))))⟩ : Str) = (⟨b⟩ : Str)))))))] (fun w' => w21 = w') ?_ ?_
 rcases Bool.eq_false_or_eq_true (!(decide (chunksE ((bytesI (b.take k))) = (0 : Int)))) with hb25 | hb25
 have phb25 : ¬ (chunksE ((bytesI (b.take k))) = (0 : Int)) := of_decide_eq_false (bnot_t hb25)
 refine WO.off rfl rfl hb25 rfl ?_
 refine WO.off rfl rfl hb25 rfl ?_
 refine WO.off rfl rfl hb25 rfl ?_
 refine WO.off rfl rfl hb25 rfl ?_
 refine WO.off rfl rfl hb25 rfl ?_
 refine WO.v (R.pickT rfl hb25 rfl) rfl ?_
 refine WO.nil ?_
 exact WX.cutDoneP 6 rfl rfl ⟨⟨_, rfl, vb (bor_on hb25)⟩, trivial⟩ (rfl)
 have phb25 : chunksE ((bytesI (b.take k))) = (0 : Int) := of_decide_eq_true (bnot_f hb25)
 refine WO.on rfl rfl hb25 ?_
 refine WO.v (R.move rfl) rfl ?_
 refine WO.on rfl rfl hb25 ?_
 refine WO.v (R.toStr rfl Try.underlying27 Try.underlying9 Try.underlying5 (((s24).pub (L := 0) (H := w21.heap.size) (by omega) (by omega) (by omega) (by omega)))) rfl ?_
 refine WO.on rfl rfl hb25 ?_
 refine WO.v (R.move rfl) rfl ?_
 refine WO.on rfl rfl hb25 ?_
 refine WO.v (R.toStr rfl Try.underlying27 Try.underlying9 Try.underlying5 (((sl_old h_b b21).mono (lo' := 0) (hi' := w21.heap.size) (Nat.zero_le _) (by omega)))) rfl ?_
 refine WO.on rfl rfl hb25 ?_
 refine WO.v (R.neqS rfl rfl) rfl ?_
 refine WO.v (R.pickF rfl hb25 rfl) rfl ?_
 refine WO.nil ?_
 exact WX.cutDoneP 6 rfl rfl ⟨⟨_, rfl, vb (bor_off hb25)⟩, trivial⟩ (rfl)
 rintro _ rfl
 refine WO.nil ?_
 refine WX.sel [0, 2, 3, 4, 5, 6, 7, 12, 36] rfl ?_
 refine WX.next ?_
 refine WC.cond rfl (fun q26 => ?_) (fun q26 => ?_)
 have p26 : (¬ (chunksE ((bytesI (b.take k))) = (0 : Int))) ∨ (¬ ((⟨(chunksB ((bytesI (b.take k))))⟩ : Str) = (⟨b⟩ : Str))) := Or.imp (fun h => of_decide_eq_false (bnot_t h)) (fun h => of_decide_eq_false (bnot_t h)) (bor_t q26)
 refine WC.seq ?_
 refine WC.region ?_
 refine WO.v (R.assign rfl) rfl ?_
 refine WO.v (R.assign rfl) rfl ?_
 refine WO.nil ?_
 refine WX.sel [0, 2, 3, 4, 5, 6, 7, 12, 36] rfl ?_
 refine WX.next ?_
 refine WC.ret ?_
 refine WX.thenRet ?_
 have e0 : ([] : List Int) = (unchB b) := by first | exact unB_no (un_bad2 (k := k) (by omega) (by assumption)) | exact unB_yes (k := k) (by omega) (un_ok2 (by omega))
 have n0 : 0 = (unchB b).length := by rw [← e0]; simp only [List.length_nil]
 have f0 : Ac (α := Int) w.heap.size true w.heap.size w21.heap.size w21.heap.size w21 (.slice none 0 0) ([] : List Int) := Ac.empty _ _ _ _ _ _ _
 have e1 : (6 : Int) = (unchE b) := by first | exact unE_no (un_bad2 (k := k) (by omega) (by assumption)) | exact unE_yes (k := k) (by omega) (un_ok2 (by omega))
 refine WX.ret2 Try.results25 rfl rfl ?_
 exact ⟨none, 0, by rw [n0, e1], (acl_n f0 e0 n0), Kp.of_below b21⟩
 have p26 : (chunksE ((bytesI (b.take k))) = (0 : Int)) ∧ ((⟨(chunksB ((bytesI (b.take k))))⟩ : Str) = (⟨b⟩ : Str)) := ⟨of_decide_eq_true (bnot_f (bor_f q26).1), of_decide_eq_true (bnot_f (bor_f q26).2)⟩
 refine WC.skip ?_
 refine WX.next ?_
 refine WC.seq ?_
 refine WC.region ?_
 refine WO.v (R.move rfl) rfl ?_
 refine WO.v (R.assign rfl) rfl ?_
 refine WO.v (R.assign rfl) rfl ?_
 refine WO.nil ?_
 refine WX.sel [0, 2, 3, 4, 5, 6, 7, 12, 36] rfl ?_
 refine WX.next ?_
 refine WC.ret ?_
 have e0 : (bytesI (b.take k)) = (unchB b) := by first | exact unB_no (un_bad2 (k := k) (by omega) (by assumption)) | exact unB_yes (k := k) (by omega) (un_ok2 (by omega))
 have n0 : (bytesI (b.take k)).length = (unchB b).length := by rw [e0]
 have f0 : Ac (α := Int) w.heap.size true w.heap.size w21.heap.size w21.heap.size w21 (.slice aa0 (bytesI (b.take k)).length ac0) (bytesI (b.take k)) := ((ac_kp0 (hac2_0) k21 (by omega) (by omega)).mono (by omega) (by omega) (by omega) (by omega))
 have e1 : (0 : Int) = (unchE b) := by first | exact unE_no (un_bad2 (k := k) (by omega) (by assumption)) | exact unE_yes (k := k) (by omega) (un_ok2 (by omega))
 refine WX.ret2 Try.results25 rfl rfl ?_
 exact ⟨aa0, ac0, by rw [n0, e1], (acl_n f0 e0 n0), Kp.of_below b21⟩

set_option maxRecDepth 100000 in
set_option maxHeartbeats 400000 in
theorem short5_s {w : World} {a_l : Option Addr} {c_l : Nat} {l : List UInt8} (h_l : Sl false 0 w.heap.size w (.slice a_l l.length c_l) l) :
    Ret Try.prog 24 [.slice a_l l.length c_l].toArray w fun r w' => ∃ (ra0 : Option Addr) (rc0 : Nat), r = .slice ra0 (shortB l).length rc0 ∧ Sl false 0 w'.heap.size w' (.slice ra0 (shortB l).length rc0) (shortB l) ∧ Kp [] w w' := by
 have len_l : (l).length * 1 ≤ 140737488355328 := h_l.lenle
 refine Ret.enter Try.func24 rfl Try.ntmps24 rfl rfl ?_
 refine WC.sel [0] rfl ?_
 refine WC.seq ?_
 refine WC.region ?_
 refine WO.v (R.assign rfl) rfl ?_
 refine WO.nil ?_
 refine WX.sel [0, 2] rfl ?_
 refine WX.next ?_
 refine WC.seq ?_
 refine WC.seq ?_
 refine WC.region ?_
 refine WO.v (R.move rfl) rfl ?_
 refine WO.v (R.len rfl Try.underlying27) rfl ?_
 refine WO.v (R.gtr rfl rfl) rfl ?_
 refine WO.nil ?_
 refine WX.sel [0, 2, 5] rfl ?_
 refine WX.next ?_
 refine WC.cond rfl (fun q1 => ?_) (fun q1 => ?_)
 have p1 : (3000 : Int) < ((l.length : Nat) : Int) := of_decide_eq_true q1
 refine WC.seq ?_
 refine WC.region ?_
 refine WO.v (R.move rfl) rfl ?_
 obtain ⟨a2, ha3, s4, mc5, ln6⟩ := Sl.cut (i := 0) (j := 3000) (s := 1) (h_l) rfl (by omega) (by omega)
 refine WO.v (R.sliceH (j := 3000) rfl rfl Try.underlying27 sz5 ha3 (by omega)) rfl ?_
 replace s4 : Sl false (0) (w.heap.size) w (.slice a2 3000 c_l) (l.take 3000) := s4
 replace ln6 : (l.take 3000).length = 3000 := ln6
 have ls4 : ((l.take 3000)).length * 1 ≤ 140737488355328 := s4.lenle
 refine WO.v (R.assign rfl) rfl ?_
 refine WO.nil ?_
 refine WX.sel [0, 2, 5] rfl ?_
 refine WX.next ?_
 refine WC.ret ?_
 refine WX.thenRet ?_
 have e0 : (l.take 3000) = (shortB l) := by first | rfl | exact (List.take_of_length_le (by omega)).symm
 have n0 : 3000 = (shortB l).length := by rw [← e0]; exact ln6.symm
 have f0 : Sl false 0 w.heap.size w (.slice a2 3000 c_l) (l.take 3000) := ((s4).mono (lo' := 0) (hi' := w.heap.size) (Nat.zero_le _) (by omega))
 refine WX.ret1 Try.results24 rfl ?_
 exact ⟨a2, c_l, by first | (rw [n0]; done) | (rw [n0]; rfl), (sl_n f0 e0 n0), Kp.refl _⟩
 have p1 : ¬ ((3000 : Int) < ((l.length : Nat) : Int)) := of_decide_eq_false q1
 refine WC.skip ?_
 refine WX.next ?_
 refine WC.seq ?_
 refine WC.region ?_
 refine WO.v (R.move rfl) rfl ?_
 refine WO.v (R.assign rfl) rfl ?_
 refine WO.nil ?_
 refine WX.sel [0, 2, 5] rfl ?_
 refine WX.next ?_
 refine WC.ret ?_
 have e0 : l = (shortB l) := by first | rfl | exact (List.take_of_length_le (by omega)).symm
 have n0 : l.length = (shortB l).length := by exact congrArg List.length e0
 have f0 : Sl false 0 w.heap.size w (.slice a_l l.length c_l) l := ((h_l).mono (lo' := 0) (hi' := w.heap.size) (Nat.zero_le _) (by omega))
 refine WX.ret1 Try.results24 rfl ?_
 exact ⟨a_l, c_l, by rw [n0], (sl_n f0 e0 n0), Kp.refl _⟩


end Go.Proofs.Ytfmlgeeogbhppaa
