/- Contracts of functions, walked operation by operation. -/
import Derived.Test.YtfmlgeeogbhppaaE2
namespace Go.Proofs.Ytfmlgeeogbhppaa
open Go.RowKit

theorem tk_big : ∀ {l : List UInt8} {k n : Nat}, 1 ≤ k → (takeG k n l).2.2 = 0 → 2 ^ (7 * k) ≤ (takeG k n l).1
  | [], k, n, _, h => by rw [takeG] at h; split at h <;> cases h
  | x :: r, k, n, hk, h => by
    rw [takeG] at h ⊢
    split
    · rename_i h1; rw [if_pos h1] at h; cases h
    · rename_i h1
      rw [if_neg h1] at h
      split
      · rename_i h2; rw [if_pos h2] at h; cases h
      · rename_i h2
        rw [if_neg h2] at h
        split
        · rename_i h3
          rw [and127]
          have : 1 ≤ x.toNat % 128 := by
            have : ¬ x.toNat = 0 := fun e => h2 (.inl ⟨by omega, e⟩)
            omega
          have := Nat.mul_le_mul_right (2 ^ (7 * k)) this
          show 2 ^ (7 * k) ≤ n + x.toNat % 128 * 2 ^ (7 * k)
          omega
        · rename_i h3
          rw [if_neg h3] at h
          exact Nat.le_trans (Nat.pow_le_pow_right (by decide) (by omega)) (tk_big (by omega) h)
theorem tk_cons (x : UInt8) (r : List UInt8) : takeF (x :: r) = if x.toNat < 128 then (x.toNat, 1, 0) else takeG 1 (x.toNat % 128) r := by
  unfold takeF
  rw [takeG, if_neg (by decide), if_neg (by omega), and127]
  split
  · rename_i h; rw [Nat.mod_eq_of_lt h]; simp
  · simp
theorem drop_all {b : List UInt8} {k : Nat} (hk : k < b.length) : (b.drop k).take (b.length - k) = b[k] :: b.drop (k + 1) := by
  rw [List.take_of_length_le (by simp), List.drop_eq_getElem_cons hk]
theorem tk1 {b : List UInt8} {k : Nat} (hk : k < b.length) (he : (takeF ((b.drop k).take (b.length - k))).2.2 = 0) (hn : ¬ (64 : Int) < (((takeF ((b.drop k).take (b.length - k))).1 : Nat) : Int)) :
    ∃ x, b[k]? = some x ∧ takeF ((b.drop k).take (b.length - k)) = (x.toNat, 1, 0) ∧ x.toNat ≤ 64 := by
  rw [drop_all hk, tk_cons] at *
  by_cases h : b[k].toNat < 128
  · rw [if_pos h] at *; exact ⟨_, List.getElem?_eq_getElem hk, rfl, by simp only at hn; omega⟩
  · rw [if_neg h] at *
    have := tk_big (Nat.le_refl 1) he
    omega
theorem tk2 {b : List UInt8} {k : Nat} (hk : k < b.length) (h : (¬ (takeF ((b.drop k).take (b.length - k))).2.2 = 0) ∨ (64 : Int) < (((takeF ((b.drop k).take (b.length - k))).1 : Nat) : Int)) : ∃ x, b[k]? = some x ∧ 64 < x.toNat := by
  refine ⟨b[k], List.getElem?_eq_getElem hk, ?_⟩
  rw [drop_all hk, tk_cons] at h
  by_cases h1 : b[k].toNat < 128
  · rw [if_pos h1] at h; simp only [not_true_eq_false, false_or] at h; omega
  · omega
def bytesI (b : List UInt8) : List Int := b.map fun x => (x.toNat : Int)
def unchB (b : List UInt8) : List Int := if rowF (bytesI b) then bytesI b else []
def unchE (b : List UInt8) : Int := if rowF (bytesI b) then 0 else 6
theorem un_step {b : List UInt8} {k : Nat} {x : UInt8} {p : Nat × Nat × Int} (hx : b[k]? = some x) (hp : p = (x.toNat, 1, 0)) : bytesI (b.take k) ++ [((p.1 : Nat) : Int)] = bytesI (b.take (k + 1)) := by
  subst hp; unfold bytesI; rw [take_succ_get hx, List.map_append]; rfl
theorem un_row {b : List UInt8} {k : Nat} (hk : k < b.length) (h : (¬ (takeF ((b.drop k).take (b.length - k))).2.2 = 0) ∨ (64 : Int) < (((takeF ((b.drop k).take (b.length - k))).1 : Nat) : Int)) : rowF (bytesI b) = false := by
  obtain ⟨x, hx, h64⟩ := tk2 hk h
  rw [← Bool.not_eq_true]
  intro hr
  have := (row_le hr (x.toNat : Int) (List.mem_map.2 ⟨x, List.mem_of_getElem? hx, rfl⟩)).2
  omega
theorem un_all {b : List UInt8} {k : Nat} (hk : b.length ≤ k) : bytesI (b.take k) = bytesI b := by rw [List.take_of_length_le hk]
theorem unB_no {b : List UInt8} (h : rowF (bytesI b) = false) : [] = unchB b := by rw [unchB, h]; rfl
theorem unE_no {b : List UInt8} (h : rowF (bytesI b) = false) : 6 = unchE b := by rw [unchE, h]; rfl
theorem unB_yes {b : List UInt8} {k : Nat} (hk : b.length ≤ k) (h : rowF (bytesI (b.take k)) = true) : bytesI (b.take k) = unchB b := by rw [un_all hk] at *; rw [unchB, h]; rfl
theorem unE_yes {b : List UInt8} {k : Nat} (hk : b.length ≤ k) (h : rowF (bytesI (b.take k)) = true) : 0 = unchE b := by rw [un_all hk] at *; rw [unchE, h]; rfl
theorem un_no2 {b : List UInt8} {k : Nat} (hk : b.length ≤ k) (h : rowF (bytesI (b.take k)) = false) : rowF (bytesI b) = false := by rw [un_all hk] at h; exact h



set_option maxRecDepth 100000 in
set_option maxHeartbeats 400000 in
theorem unch_s {w : World} {a_b : Option Addr} {c_b : Nat} {b : List UInt8} (h_b : Sl false 0 w.heap.size w (.slice a_b b.length c_b) b) (pre0 : b.length ≤ 100000) :
    Ret Try.prog 21 [.slice a_b b.length c_b].toArray w fun r w' => ∃ (ra0 : Option Addr) (rc0 : Nat), r = .tuple #[.slice ra0 (unchB b).length rc0, .int .i64 (unchE b)] ∧ Ac w.heap.size true w.heap.size w'.heap.size w'.heap.size w' (.slice ra0 (unchB b).length rc0) (unchB b) ∧ Kp [] w w' := by
 have len_b : (b).length * 1 ≤ 140737488355328 := h_b.lenle
 refine Ret.enter Try.func21 rfl Try.ntmps21 rfl rfl ?_
 refine WC.sel [0] rfl ?_
 refine WC.seq ?_
 refine WC.region ?_
 refine WO.v (R.assign rfl) rfl ?_
 refine WO.v (R.assign rfl) rfl ?_
 refine WO.nil ?_
 refine WX.sel [0, 2, 3] rfl ?_
 refine WX.next ?_
 refine WC.seq ?_
 refine WC.region ?_
 refine WO.v (R.assign rfl) rfl ?_
 refine WO.nil ?_
 refine WX.sel [0, 2, 3, 4] rfl ?_
 refine WX.next ?_
 refine WC.seq ?_
 refine WC.seq ?_
 refine WC.region ?_
 refine WO.v (R.assign rfl) rfl ?_
 refine WO.nil ?_
 refine WX.sel [0, 2, 3, 4, 5] rfl ?_
 refine WX.next ?_
 refine WC.block ?_
 refine WC.loopK [0, 2, 3] rfl (fun zz : Nat × Option Addr × Nat => [(5, (.int .i64 (((zz.1) : Nat) : Int))), (4, (.slice (zz.2.1) (bytesI (b.take (zz.1))).length (zz.2.2)))]) (fun (zz : Nat × Option Addr × Nat) (w' : World) => (Kp [] w w') ∧ ((zz.1) ≤ b.length) ∧ (Ac (α := Int) (w.heap.size) true (w.heap.size) (w'.heap.size) w'.heap.size w' (.slice (zz.2.1) (bytesI (b.take (zz.1))).length (zz.2.2)) (bytesI (b.take (zz.1))))) (fun zz => b.length - (zz.1)) (0, none, 0) ?_ ?_ ?_
 exact ⟨⟨_, rfl, rfl⟩, ⟨_, rfl, rfl⟩, trivial⟩
 exact ⟨Kp.refl _, Nat.zero_le _, Ac.empty _ _ _ _ _ _ _⟩
 rintro ⟨k, aa0, ac0⟩ w1 ⟨k1, hk, hac0_0⟩
 try dsimp only at hk hac0_0
 have z1 := k1.size
 have b1 := old_kp0 (Below.refl w.heap.size w) k1
 have y1 := b1.size
 refine (?_ : WC _ _ _ _ ([(5, (.int .i64 ((k : Nat) : Int))), (4, (.slice aa0 (bytesI (b.take k)).length ac0))] ++ _) w1)
 have : (bytesI (b.take k)).length ≤ k := by simp [bytesI]; omega
 have lenhac0_0 : (bytesI (b.take k)).length * 8 ≤ 140737488355328 := hac0_0.lenle
 refine WC.seq ?_
 refine WC.seq ?_
 refine WC.region ?_
 refine WO.v (R.move rfl) rfl ?_
 refine WO.v (R.move rfl) rfl ?_
 refine WO.v (R.len rfl Try.underlying27) rfl ?_
 refine WO.v (R.lss rfl rfl) rfl ?_
 refine WO.nil ?_
 refine WX.sel [0, 2, 3, 4, 5, 12] rfl ?_
 refine WX.next ?_
 refine WC.cond rfl (fun q2 => ?_) (fun q2 => ?_)
 have p2 : ((k : Nat) : Int) < ((b.length : Nat) : Int) := of_decide_eq_true q2
 refine WC.skip ?_
 refine WX.next ?_
 refine WC.block ?_
 refine WC.seq ?_
 refine WC.region ?_
 refine WO.v (R.move rfl) rfl ?_
 refine WO.v (R.move rfl) rfl ?_
 obtain ⟨a3, ha4, s5, mc6, ln7⟩ := Sl.cut (i := k) (j := b.length) (s := 1) (sl_old h_b b1) rfl (by omega) (by omega)
 replace ln7 : ((b.drop k).take (b.length - k)).length = (b.length - k) := ln7
 refine WO.v (v := .slice a3 ((b.drop k).take (b.length - k)).length (c_b - k)) (R.castV (R.sliceL (i := k) rfl rfl Try.underlying27 sz5 ha4 (by omega)) (vs_n ln7.symm)) rfl ?_
 replace s5 : Sl false (0) (w.heap.size) w1 (.slice a3 ((b.drop k).take (b.length - k)).length (c_b - k)) ((b.drop k).take (b.length - k)) := sl_n s5 rfl ln7.symm
 have ls5 : (((b.drop k).take (b.length - k))).length * 1 ≤ 140737488355328 := s5.lenle
 refine WO.c (E.call rfl rfl Try.func46 rfl rfl) (take_s (b := ((b.drop k).take (b.length - k))) (a_b := a3) (c_b := (c_b - k)) ((s5).mono (lo' := 0) (hi' := w1.heap.size) (Nat.zero_le _) (by omega))) rfl ?_
 rintro _ w8 ⟨rfl, i9, k8⟩
 have z8 := k8.size
 have b8 := old_kp0 b1 k8
 have y8 := b8.size
 have : (takeF (((b.drop k).take (b.length - k)))).2.1 ≤ 11 ∧ (takeF (((b.drop k).take (b.length - k)))).2.1 ≤ 0 + ((((b.drop k).take (b.length - k)))).length := tk_size (l := (((b.drop k).take (b.length - k)))) (k := 0) (n := 0) (by omega)
 refine WO.v (R.move rfl) rfl ?_
 refine WO.v (R.extract rfl rfl) rfl ?_
 refine WO.v (R.extract rfl rfl) rfl ?_
 refine WO.v (R.extract rfl rfl) rfl ?_
 refine WO.v (R.assign rfl) rfl ?_
 refine WO.v (R.assign rfl) rfl ?_
 refine WO.v (R.assign rfl) rfl ?_
 refine WO.nil ?_
 refine WX.sel [0, 2, 3, 4, 5, 6, 7, 8, 12] rfl ?_
 refine WX.next ?_
 refine WC.seq ?_
 refine WC.seq ?_
 refine WC.region ?_
 refine WO.v (R.move rfl) rfl ?_
 refine WO.v (R.neq rfl rfl) rfl ?_
 refine WO.v (R.move rfl) rfl ?_
 refine WO.cutP 3 [(26, (.bool ((!(decide ((takeF (((b.drop k).take (b.length - k)))).2.2 = (0 : Int)))) || (decide ((64 : Int) < ((((takeF (((b.drop k).take (b.length - k)))).1) : Nat) : Int))))))] (fun w' => w8 = w') ?_ ?_
 rcases Bool.eq_false_or_eq_true (!(decide ((takeF (((b.drop k).take (b.length - k)))).2.2 = (0 : Int)))) with hb10 | hb10
 have phb10 : ¬ ((takeF (((b.drop k).take (b.length - k)))).2.2 = (0 : Int)) := of_decide_eq_false (bnot_t hb10)
 refine WO.off rfl rfl hb10 rfl ?_
 refine WO.off rfl rfl hb10 rfl ?_
 refine WO.v (R.pickT rfl hb10 rfl) rfl ?_
 refine WO.nil ?_
 exact WX.cutDoneP 3 rfl rfl ⟨⟨_, rfl, vb (bor_on hb10)⟩, trivial⟩ (rfl)
 have phb10 : (takeF (((b.drop k).take (b.length - k)))).2.2 = (0 : Int) := of_decide_eq_true (bnot_f hb10)
 refine WO.on rfl rfl hb10 ?_
 refine WO.v (R.move rfl) rfl ?_
 refine WO.on rfl rfl hb10 ?_
 refine WO.v (R.gtr rfl rfl) rfl ?_
 refine WO.v (R.pickF rfl hb10 rfl) rfl ?_
 refine WO.nil ?_
 exact WX.cutDoneP 3 rfl rfl ⟨⟨_, rfl, vb (bor_off hb10)⟩, trivial⟩ (rfl)
 rintro _ rfl
 refine WO.nil ?_
 refine WX.sel [0, 2, 3, 4, 5, 6, 7, 8, 12, 26] rfl ?_
 refine WX.next ?_
 refine WC.cond rfl (fun q11 => ?_) (fun q11 => ?_)
 have p11 : (¬ ((takeF (((b.drop k).take (b.length - k)))).2.2 = (0 : Int))) ∨ ((64 : Int) < ((((takeF (((b.drop k).take (b.length - k)))).1) : Nat) : Int)) := Or.imp (fun h => of_decide_eq_false (bnot_t h)) (fun h => of_decide_eq_true h) (bor_t q11)
 refine WC.seq ?_
 refine WC.region ?_
 refine WO.v (R.assign rfl) rfl ?_
 refine WO.v (R.assign rfl) rfl ?_
 refine WO.nil ?_
 refine WX.sel [0, 2, 3, 4, 5, 6, 7, 8, 12, 26] rfl ?_
 refine WX.next ?_
 refine WC.ret ?_
 refine WX.thenRet ?_
 refine WX.blkRet ?_
 refine WX.loopRet ?_
 refine WX.blkRet ?_
 refine WX.thenRet ?_
 have e0 : ([] : List Int) = (unchB b) := by first | exact unB_no (un_row (k := k) (by omega) (by assumption)) | exact unB_no (un_no2 (k := k) (by omega) (by assumption)) | exact unB_yes (k := k) (by omega) (by assumption)
 have n0 : 0 = (unchB b).length := by rw [← e0]; simp only [List.length_nil]
 have f0 : Ac (α := Int) w.heap.size true w.heap.size w8.heap.size w8.heap.size w8 (.slice none 0 0) ([] : List Int) := Ac.empty _ _ _ _ _ _ _
 have e1 : (6 : Int) = (unchE b) := by first | exact unE_no (un_row (k := k) (by omega) (by assumption)) | exact unE_no (un_no2 (k := k) (by omega) (by assumption)) | exact unE_yes (k := k) (by omega) (by assumption)
 refine WX.ret2 Try.results21 rfl rfl ?_
 exact ⟨none, 0, by rw [n0, e1], (acl_n f0 e0 n0), Kp.of_below b8⟩
 have p11 : ((takeF (((b.drop k).take (b.length - k)))).2.2 = (0 : Int)) ∧ (¬ ((64 : Int) < ((((takeF (((b.drop k).take (b.length - k)))).1) : Nat) : Int))) := ⟨of_decide_eq_true (bnot_f (bor_f q11).1), of_decide_eq_false (bor_f q11).2⟩
 refine WC.skip ?_
 refine WX.next ?_
 refine WC.seq ?_
 refine WC.region ?_
 refine WO.v (R.move rfl) rfl ?_
 refine WO.v (R.move rfl) rfl ?_
 refine WO.v (R.toI64 (a := ((takeF (((b.drop k).take (b.length - k)))).1)) rfl Try.underlying35 Try.underlying3 (by omega)) rfl ?_
 refine WO.buildSlice (parts := [_]) (vss := [[_]]) Try.underlying22 sz3 zr3 rfl rfl (by simp) rfl rfl rfl ?_
 intro w12 n12
 have z12 := n12.lt
 have b12 := old_kp0 b8 n12.kp
 have y12 := b12.size
 have ac13 : Ac (α := Int) (w8.heap.size) true (w.heap.size) (w12.heap.size) (w12.heap.size) w12 (.slice (some ⟨w8.heap.size, 0, none⟩) 1 1) ([((((takeF (((b.drop k).take (b.length - k)))).1) : Nat) : Int)] : List Int) := Ac.lit (α := Int) (ys := ([((((takeF (((b.drop k).take (b.length - k)))).1) : Nat) : Int)] : List Int)) (css := [[_]]) n12.blk (.cons (⟨rfl, ⟨by omega, by omega⟩⟩) (.nil)) (by omega) (by omega) (by simp [maxLen]) (by show 1 * 8 ≤ 140737488355328; decide) rfl
 have lenac13 : ([((((takeF (((b.drop k).take (b.length - k)))).1) : Nat) : Int)] : List Int).length = 1 := rfl
 have ac19 : Ac (α := Int) (w.heap.size) true (w.heap.size) (w12.heap.size) (w1.heap.size) w12 (.slice aa0 (bytesI (b.take k)).length ac0) (bytesI (b.take k)) := (ac_kp0 (ac_kp0 (hac0_0) k8 (by omega) (by omega)) n12.kp (by omega) (by omega)).mono (Nat.le_refl _) (Nat.le_refl _) (by omega) (Nat.le_refl _)
 have bd14 := ac19.bd
 have ty20 := ac19.ty
 have lenac19 : ((bytesI (b.take k))).length * 8 ≤ 140737488355328 := ac19.lenle
 have lxac19 : ((bytesI (b.take k)) ++ ([((((takeF (((b.drop k).take (b.length - k)))).1) : Nat) : Int)] : List Int)).length = (bytesI (b.take k)).length + ([((((takeF (((b.drop k).take (b.length - k)))).1) : Nat) : Int)] : List Int).length := List.length_append
 refine WO.append rfl ac19 (by omega) (by omega) (by omega) rfl rfl (ys := ([((((takeF (((b.drop k).take (b.length - k)))).1) : Nat) : Int)] : List Int)) (Src.flat (((ac13).pub (L := 0) (H := w12.heap.size) (by omega) (by omega) (by omega) (by omega))) (fun h => h)) (.inl rfl) Try.underlying22 inf3 rfl rfl rfl (by decide) (by first | omega | (simp only [List.length_cons, List.length_nil]; omega) | (simp only [List.length_append, List.length_cons, List.length_nil]; omega)) (by omega) rfl ?_
 intro a16 c17 w15 h18 k15 or21
 have z15 := k15.size
 have b15 := old_kp b12 k15 (fun g hg => by have := bd14 g hg; omega)
 have y15 := b15.size
 refine WO.v (R.assign rfl) rfl ?_
 refine WO.nil ?_
 refine WX.sel [0, 2, 3, 4, 5, 6, 7, 8, 12, 26] rfl ?_
 refine WX.next ?_
 refine WC.region ?_
 refine WO.v (R.move rfl) rfl ?_
 refine WO.v (R.move rfl) rfl ?_
 refine WO.v (R.addN (a := k) (b := ((takeF (((b.drop k).take (b.length - k)))).2.1)) rfl rfl (by omega)) rfl ?_
 refine WO.v (R.assign rfl) rfl ?_
 refine WO.nil ?_
 refine WX.sel [0, 2, 3, 4, 5, 6, 7, 8, 12, 26] rfl ?_
 refine WX.blkNormal ?_
 obtain ⟨xx, hxx, htt, hle⟩ := tk1 (b := b) (k := k) (by omega) (by omega) (by omega)
 have E22 : ((bytesI (b.take k)) ++ ([((((takeF (((b.drop k).take (b.length - k)))).1) : Nat) : Int)] : List Int)) = bytesI (b.take (k + 1)) := un_step hxx htt
 have nE22 : ((bytesI (b.take k)) ++ ([((((takeF (((b.drop k).take (b.length - k)))).1) : Nat) : Int)] : List Int)).length = (bytesI (b.take (k + 1))).length := by rw [E22]
 exact WX.loopNextK [0, 2, 3] (k + 1, a16, c17) rfl ⟨⟨_, rfl, vi (by rw [htt])⟩, ⟨_, rfl, vs_n nE22⟩, trivial⟩ ⟨((((Kp.refl _).step k1 (by simp)).step k8 (by simp)).step n12.kp (by simp)).step k15 (fun g hg => .inr (by have := bd14 g hg; omega)), by omega, ac_n ((h18).mono (by omega) (by omega) (by omega) (by omega)) E22 nE22⟩ (by show (b.length - (k + 1)) < (b.length - k); omega)
 have p2 : ¬ (((k : Nat) : Int) < ((b.length : Nat) : Int)) := of_decide_eq_false q2
 refine WC.exit ?_
 refine WX.thenExit ?_
 refine WX.loopExit ?_
 refine WX.blkHit ?_
 refine WX.next ?_
 refine WC.seq ?_
 refine WC.seq ?_
 refine WC.region ?_
 refine WO.v (R.move rfl) rfl ?_
 refine WO.c (E.call rfl rfl Try.func44 rfl rfl) (row_s (l := (bytesI (b.take k))) (a_l := aa0) (c_l := ac0) ((hac0_0).pub (L := 0) (H := w1.heap.size) (by omega) (by omega) (by omega) (by omega))) rfl ?_
 rintro _ w23 ⟨rfl, k23⟩
 have z23 := k23.size
 have b23 := old_kp0 b1 k23
 have y23 := b23.size
 refine WO.v (R.not rfl) rfl ?_
 refine WO.nil ?_
 refine WX.sel [0, 2, 3, 4, 5, 12, 37] rfl ?_
 refine WX.next ?_
 refine WC.cond rfl (fun q24 => ?_) (fun q24 => ?_)
 have p24 : (rowF ((bytesI (b.take k)))) = false := (bnot_t q24)
 refine WC.seq ?_
 refine WC.region ?_
 refine WO.v (R.assign rfl) rfl ?_
 refine WO.v (R.assign rfl) rfl ?_
 refine WO.nil ?_
 refine WX.sel [0, 2, 3, 4, 5, 12, 37] rfl ?_
 refine WX.next ?_
 refine WC.ret ?_
 refine WX.thenRet ?_
 have e0 : ([] : List Int) = (unchB b) := by first | exact unB_no (un_row (k := k) (by omega) (by assumption)) | exact unB_no (un_no2 (k := k) (by omega) (by assumption)) | exact unB_yes (k := k) (by omega) (by assumption)
 have n0 : 0 = (unchB b).length := by rw [← e0]; simp only [List.length_nil]
 have f0 : Ac (α := Int) w.heap.size true w.heap.size w23.heap.size w23.heap.size w23 (.slice none 0 0) ([] : List Int) := Ac.empty _ _ _ _ _ _ _
 have e1 : (6 : Int) = (unchE b) := by first | exact unE_no (un_row (k := k) (by omega) (by assumption)) | exact unE_no (un_no2 (k := k) (by omega) (by assumption)) | exact unE_yes (k := k) (by omega) (by assumption)
 refine WX.ret2 Try.results21 rfl rfl ?_
 exact ⟨none, 0, by rw [n0, e1], (acl_n f0 e0 n0), Kp.of_below b23⟩
 have p24 : (rowF ((bytesI (b.take k)))) = true := (bnot_f q24)
 refine WC.skip ?_
 refine WX.next ?_
 refine WC.seq ?_
 refine WC.region ?_
 refine WO.v (R.move rfl) rfl ?_
 refine WO.v (R.assign rfl) rfl ?_
 refine WO.v (R.assign rfl) rfl ?_
 refine WO.nil ?_
 refine WX.sel [0, 2, 3, 4, 5, 12, 37] rfl ?_
 refine WX.next ?_
 refine WC.ret ?_
 have e0 : (bytesI (b.take k)) = (unchB b) := by first | exact unB_no (un_row (k := k) (by omega) (by assumption)) | exact unB_no (un_no2 (k := k) (by omega) (by assumption)) | exact unB_yes (k := k) (by omega) (by assumption)
 have n0 : (bytesI (b.take k)).length = (unchB b).length := by rw [e0]
 have f0 : Ac (α := Int) w.heap.size true w.heap.size w23.heap.size w23.heap.size w23 (.slice aa0 (bytesI (b.take k)).length ac0) (bytesI (b.take k)) := ((ac_kp0 (hac0_0) k23 (by omega) (by omega)).mono (by omega) (by omega) (by omega) (by omega))
 have e1 : (0 : Int) = (unchE b) := by first | exact unE_no (un_row (k := k) (by omega) (by assumption)) | exact unE_no (un_no2 (k := k) (by omega) (by assumption)) | exact unE_yes (k := k) (by omega) (by assumption)
 refine WX.ret2 Try.results21 rfl rfl ?_
 exact ⟨aa0, ac0, by rw [n0, e1], (acl_n f0 e0 n0), Kp.of_below b23⟩


end Go.Proofs.Ytfmlgeeogbhppaa
