/- Contracts of functions, walked operation by operation. -/
import Derived.Test.YtfmlgeeogbhppaaA1
import Derived.Test.YtfmlgeeogbhppaaDraw
namespace Go.Proofs.Ytfmlgeeogbhppaa
open Go.RowKit

theorem mixed_orders : Try.prog.follows .mixedOrders = true := by kernel_rfl
theorem ne_len {α : Type} [DecidableEq α] {l m : List α} (h : ¬ ((l.length : Nat) : Int) = ((m.length : Nat) : Int)) : false = decide (l = m) := by
  symm; apply decide_eq_false; rintro rfl; exact h rfl
theorem take_eq {α : Type} {l m : List α} {k : Nat} {x y : α} (h : l.take k = m.take k) (hx : l[k]? = some x) (hy : m[k]? = some y) (he : x = y) : l.take (k + 1) = m.take (k + 1) := by
  rw [List.take_add_one, List.take_add_one, h, hx, hy, he]
theorem take_ne {α : Type} [DecidableEq α] {l m : List α} {k : Nat} {x y : α} (hx : l[k]? = some x) (hy : m[k]? = some y) (he : ¬ x = y) : false = decide (l = m) := by
  symm; apply decide_eq_false; rintro rfl; rw [hx] at hy; cases hy; exact he rfl
theorem take_all {α : Type} [DecidableEq α] {l m : List α} {k : Nat} (hl : l.length = m.length) (h : l.take k = m.take k) (hk : l.length ≤ k) : true = decide (l = m) := by
  symm; apply decide_eq_true
  rwa [List.take_of_length_le hk, List.take_of_length_le (by omega)] at h

def inB (n a b : Int) : Bool := decide (a ≤ n) && decide (n ≤ b)
def risingF {α : Type} (key : α → Int) (most : Int) : Int → List α → Bool
  | _, [] => true
  | a, x :: r => inB (key x) (a + 1) most && risingF key most (key x) r
def lastK {α : Type} (key : α → Int) (a : Int) (l : List α) : Int := l.foldl (fun _ x => key x) a
theorem rising_snoc {α : Type} {key : α → Int} {most : Int} {x : α} : ∀ (p : List α) (a : Int), risingF key most a (p ++ [x]) = (risingF key most a p && inB (key x) (lastK key a p + 1) most)
  | [], a => by simp [risingF, lastK]
  | y :: p, a => by
    rw [List.cons_append, risingF, risingF, rising_snoc p, Bool.and_assoc]; rfl
theorem rising_append {α : Type} {key : α → Int} {most : Int} (q : List α) : ∀ (p : List α) (a : Int), risingF key most a (p ++ q) = true → risingF key most a p = true
  | [], a, _ => rfl
  | y :: p, a, h => by
    rw [List.cons_append, risingF, Bool.and_eq_true] at h
    rw [risingF, Bool.and_eq_true]
    exact ⟨h.1, rising_append q p _ h.2⟩
theorem lastK_snoc {α : Type} {key : α → Int} {a : Int} {l : List α} {k : Nat} {x : α} (hx : l[k]? = some x) : key x = lastK key a (l.take (k + 1)) := by
  rw [take_succ_get hx, lastK, List.foldl_append]; rfl
theorem lastK_at {α : Type} {key : α → Int} {a : Int} {l : List α} {k : Nat} {x : α} (h : 0 < k) (hx : l[k - 1]? = some x) : lastK key a (l.take k) = key x := by
  obtain ⟨j, rfl⟩ : ∃ j, k = j + 1 := ⟨k - 1, by omega⟩
  exact (lastK_snoc (by simpa using hx)).symm
theorem rising_next {α : Type} {key : α → Int} {most a : Int} {l : List α} {k : Nat} {x : α} (h : risingF key most a (l.take k) = true) (hx : l[k]? = some x) (h1 : lastK key a (l.take k) < key x) (h2 : key x ≤ most) : risingF key most a (l.take (k + 1)) = true := by
  rw [take_succ_get hx, rising_snoc, h, Bool.true_and, inB, Bool.and_eq_true, decide_eq_true_eq, decide_eq_true_eq]
  exact ⟨by omega, h2⟩
theorem rising_stop {α : Type} {key : α → Int} {most a : Int} {l : List α} {k : Nat} {x : α} (hx : l[k]? = some x) (h : ¬ (lastK key a (l.take k) < key x ∧ key x ≤ most)) : risingF key most a l = false := by
  cases hr : risingF key most a l with
  | false => rfl
  | true =>
    have h1 := rising_append (l.drop (k + 1)) (l.take (k + 1)) a (by rw [List.take_append_drop]; exact hr)
    rw [take_succ_get hx, rising_snoc, Bool.and_eq_true, inB, Bool.and_eq_true, decide_eq_true_eq, decide_eq_true_eq] at h1
    exact absurd ⟨by omega, h1.2.2⟩ h
theorem rising_done {α : Type} {key : α → Int} {most a : Int} {l : List α} {k : Nat} (h : risingF key most a (l.take k) = true) (hk : l.length ≤ k) : risingF key most a l = true := by
  rwa [List.take_of_length_le hk] at h
def rowF (l : List Int) : Bool := (decide ((1 : Int) ≤ ((l.length : Nat) : Int)) && decide (((l.length : Nat) : Int) ≤ 8)) && risingF id 64 0 l
theorem rowF_stop {l : List Int} {k : Nat} {x : Int} (hx : l[k]? = some x) (h : ¬ (lastK id 0 (l.take k) < x ∧ x ≤ 64)) : false = rowF l := by
  rw [rowF, rising_stop (key := id) hx h, Bool.and_false]
theorem rowF_done {l : List Int} {k : Nat} (h : risingF id 64 0 (l.take k) = true) (hk : l.length ≤ k) : (decide ((1 : Int) ≤ ((l.length : Nat) : Int)) && decide (((l.length : Nat) : Int) ≤ 8)) = rowF l := by
  rw [rowF, rising_done h hk, Bool.and_true]
theorem lastK_pos {l : List Int} {k : Nat} (h : risingF id 64 0 (l.take k) = true) : 0 ≤ lastK id 0 (l.take k) := by
  by_cases hk : k = 0
  · subst hk; exact Int.le_refl _
  · by_cases hl : k - 1 < l.length
    · have hx := List.getElem?_eq_getElem hl
      rw [lastK_at (by omega) hx]
      have e : l.take k = l.take (k - 1) ++ [l[k - 1]] := by
        have := take_succ_get hx
        rwa [show k - 1 + 1 = k by omega] at this
      rw [e, rising_snoc, Bool.and_eq_true, inB, Bool.and_eq_true, decide_eq_true_eq] at h
      have h0 : ∀ (p : List Int) (a : Int), 0 ≤ a → risingF id 64 a p = true → 0 ≤ lastK id a p := by
        intro p
        induction p with
        | nil => intro a ha _; exact ha
        | cons y p ih =>
          intro a ha hp
          rw [risingF, Bool.and_eq_true, inB, Bool.and_eq_true, decide_eq_true_eq] at hp
          exact ih (id y) (by omega) hp.2
      have := h0 _ _ (Int.le_refl 0) h.1
      omega
    · have h0 : ∀ (p : List Int) (a : Int), 0 ≤ a → risingF id 64 a p = true → 0 ≤ lastK id a p := by
        intro p
        induction p with
        | nil => intro a ha _; exact ha
        | cons y p ih =>
          intro a ha hp
          rw [risingF, Bool.and_eq_true, inB, Bool.and_eq_true, decide_eq_true_eq] at hp
          exact ih (id y) (by omega) hp.2
      exact h0 _ _ (Int.le_refl 0) h

theorem rowF_done2 {l : List Int} {k : Nat} (h : risingF id 64 0 (l.take k) = true) (hk : l.length ≤ k) (hl : 1 ≤ l.length ∧ l.length ≤ 8) : true = rowF l := by
  rw [rowF, rising_done h hk, Bool.and_true]; symm; rw [Bool.and_eq_true, decide_eq_true_eq, decide_eq_true_eq]; omega
theorem rowF_len {l : List Int} (hl : ¬ (1 ≤ l.length ∧ l.length ≤ 8)) : false = rowF l := by
  symm
  rw [rowF, Bool.and_eq_false_iff]; left
  rw [Bool.and_eq_false_iff, decide_eq_false_iff_not, decide_eq_false_iff_not]; omega

theorem sz3 : (Try.prog.info? 3).map (·.size) = some 1 := by kernel_rfl

set_option maxRecDepth 100000 in
set_option maxHeartbeats 400000 in
theorem in5_s {w : World} (n : Int) (a : Int) (b : Int)  :
    Ret Try.prog 37 [.int .i64 n, .int .i64 a, .int .i64 b].toArray w fun r w' => r = .bool ((decide (a ≤ n)) && (decide (n ≤ b))) ∧ w = w' := by
 refine Ret.enter Try.func37 rfl Try.ntmps37 rfl rfl ?_
 refine WC.sel [0, 1, 2] rfl ?_
 refine WC.seq ?_
 refine WC.region ?_
 refine WO.v (R.assign rfl) rfl ?_
 refine WO.nil ?_
 refine WX.sel [0, 1, 2, 6] rfl ?_
 refine WX.next ?_
 refine WC.seq ?_
 refine WC.region ?_
 refine WO.v (R.move rfl) rfl ?_
 refine WO.v (R.move rfl) rfl ?_
 refine WO.v (R.geq rfl rfl) rfl ?_
 refine WO.v (R.move rfl) rfl ?_
 refine WO.cutP 4 [(14, (.bool ((decide (a ≤ n)) && (decide (n ≤ b)))))] (fun w' => w = w') ?_ ?_
 rcases Bool.eq_false_or_eq_true (decide (a ≤ n)) with hb1 | hb1
 have phb1 : a ≤ n := of_decide_eq_true hb1
 refine WO.on rfl rfl hb1 ?_
 refine WO.v (R.move rfl) rfl ?_
 refine WO.on rfl rfl hb1 ?_
 refine WO.v (R.move rfl) rfl ?_
 refine WO.on rfl rfl hb1 ?_
 refine WO.v (R.leq rfl rfl) rfl ?_
 refine WO.v (R.pickT rfl hb1 rfl) rfl ?_
 refine WO.nil ?_
 exact WX.cutDoneP 4 rfl rfl ⟨⟨_, rfl, vb (band_on hb1)⟩, trivial⟩ (rfl)
 have phb1 : ¬ (a ≤ n) := of_decide_eq_false hb1
 refine WO.off rfl rfl hb1 rfl ?_
 refine WO.off rfl rfl hb1 rfl ?_
 refine WO.off rfl rfl hb1 rfl ?_
 refine WO.v (R.pickF rfl hb1 rfl) rfl ?_
 refine WO.nil ?_
 exact WX.cutDoneP 4 rfl rfl ⟨⟨_, rfl, vb (band_off hb1)⟩, trivial⟩ (rfl)
 rintro _ rfl
 refine WO.v (R.assign rfl) rfl ?_
 refine WO.nil ?_
 refine WX.sel [0, 1, 2, 6] rfl ?_
 refine WX.next ?_
 refine WC.ret ?_
 have e0 : ((decide (a ≤ n)) && (decide (n ≤ b))) = ((decide (a ≤ n)) && (decide (n ≤ b))) := by rfl
 refine WX.ret1 Try.results37 rfl ?_
 exact ⟨by rw [e0], rfl⟩

set_option maxRecDepth 100000 in
set_option maxHeartbeats 400000 in
theorem ints_s {w : World} {a_l : Option Addr} {c_l : Nat} {l : List Int} {a_m : Option Addr} {c_m : Nat} {m : List Int} (h_l : Sl false 0 w.heap.size w (.slice a_l l.length c_l) l) (h_m : Sl false 0 w.heap.size w (.slice a_m m.length c_m) m) :
    Ret Try.prog 22 [.slice a_l l.length c_l, .slice a_m m.length c_m].toArray w fun r w' => r = .bool (decide (l = m)) ∧ Kp [] w w' := by
 have len_l : (l).length * 8 ≤ 140737488355328 := h_l.lenle
 have len_m : (m).length * 8 ≤ 140737488355328 := h_m.lenle
 refine Ret.enter Try.func22 rfl Try.ntmps22 rfl rfl ?_
 refine WC.sel [0, 1] rfl ?_
 refine WC.seq ?_
 refine WC.region ?_
 refine WO.v (R.assign rfl) rfl ?_
 refine WO.nil ?_
 refine WX.sel [0, 1, 4] rfl ?_
 refine WX.next ?_
 refine WC.seq ?_
 refine WC.seq ?_
 refine WC.region ?_
 refine WO.v (R.move rfl) rfl ?_
 refine WO.v (R.len rfl Try.underlying22) rfl ?_
 refine WO.v (R.move rfl) rfl ?_
 refine WO.v (R.len rfl Try.underlying22) rfl ?_
 refine WO.v (R.neq rfl rfl) rfl ?_
 refine WO.nil ?_
 refine WX.sel [0, 1, 4, 10] rfl ?_
 refine WX.next ?_
 refine WC.cond rfl (fun q1 => ?_) (fun q1 => ?_)
 have p1 : ¬ (((l.length : Nat) : Int) = ((m.length : Nat) : Int)) := of_decide_eq_false (bnot_t q1)
 refine WC.seq ?_
 refine WC.region ?_
 refine WO.v (R.assign rfl) rfl ?_
 refine WO.nil ?_
 refine WX.sel [0, 1, 4, 10] rfl ?_
 refine WX.next ?_
 refine WC.ret ?_
 refine WX.thenRet ?_
 have e0 : false = (decide (l = m)) := by first | exact (ne_len ‹_›) | exact take_ne ‹l[_]? = _› ‹m[_]? = _› (by omega) | exact take_all hlen htk (by omega)
 refine WX.ret1 Try.results22 rfl ?_
 exact ⟨by rw [e0], Kp.refl _⟩
 have p1 : ((l.length : Nat) : Int) = ((m.length : Nat) : Int) := of_decide_eq_true (bnot_f q1)
 refine WC.skip ?_
 refine WX.next ?_
 refine WC.seq ?_
 refine WC.seq ?_
 refine WC.region ?_
 refine WO.v (R.assign rfl) rfl ?_
 refine WO.nil ?_
 refine WX.sel [0, 1, 4, 5, 10] rfl ?_
 refine WX.next ?_
 refine WC.block ?_
 refine WC.loopK [0, 1, 4, 10] rfl (fun zz : Nat => [(5, (.int .i64 (((zz) : Nat) : Int)))]) (fun (zz : Nat) (w' : World) => (Kp [] w w') ∧ ((zz) ≤ l.length) ∧ (l.length = m.length) ∧ (l.take (zz) = m.take (zz))) (fun zz => l.length - (zz)) (0) ?_ ?_ ?_
 exact ⟨⟨_, rfl, rfl⟩, trivial⟩
 exact ⟨Kp.refl _, Nat.zero_le _, by omega, rfl⟩
 rintro k w2 ⟨k2, hk, hlen, htk⟩
 try dsimp only at hk hlen htk
 have z2 := k2.size
 have b2 := old_kp0 (Below.refl w.heap.size w) k2
 have y2 := b2.size
 refine (?_ : WC _ _ _ _ ([(5, (.int .i64 ((k : Nat) : Int)))] ++ _) w2)
 refine WC.seq ?_
 refine WC.seq ?_
 refine WC.region ?_
 refine WO.v (R.move rfl) rfl ?_
 refine WO.v (R.move rfl) rfl ?_
 refine WO.v (R.len rfl Try.underlying22) rfl ?_
 refine WO.v (R.lss rfl rfl) rfl ?_
 refine WO.nil ?_
 refine WX.sel [0, 1, 4, 5, 10, 14] rfl ?_
 refine WX.next ?_
 refine WC.cond rfl (fun q3 => ?_) (fun q3 => ?_)
 have p3 : ((k : Nat) : Int) < ((l.length : Nat) : Int) := of_decide_eq_true q3
 refine WC.skip ?_
 refine WX.next ?_
 refine WC.seq ?_
 refine WC.block ?_
 refine WC.seq ?_
 refine WC.sel [0, 1, 4, 5, 10, 14] rfl ?_
 obtain ⟨x4, hx4⟩ := get_ex (xs := l) (i := k) (by omega)
 obtain ⟨A5, cs6, hA5, loA5, hiA5, ccA5, r7⟩ := (sl_old h_l b2).at_ hx4
 obtain ⟨rfl, i8⟩ := r7
 obtain ⟨x9, hx9⟩ := get_ex (xs := m) (i := k) (by omega)
 obtain ⟨A10, cs11, hA10, loA10, hiA10, ccA10, r12⟩ := (sl_old h_m b2).at_ hx9
 obtain ⟨rfl, i13⟩ := r12
 refine WC.draw' mixed_orders [.ex [] (.slice a_l l.length c_l), .ex [] (.int .i64 ((k : Nat) : Int)), .ex [0, 1] (.pointer (some (A5.add (k * 1)))), .ex [2] (.int .i64 x4), .ex [] (.slice a_m m.length c_m), .ex [] (.int .i64 ((k : Nat) : Int)), .ex [4, 5] (.pointer (some (A10.add (k * 1)))), .ex [6] (.int .i64 x9), .ex [3, 7] (.bool (!(decide (x4 = x9))))] 9 (by kernel_rfl) ⟨fun _ _ _ h _ => h, fun _ _ _ h _ => h, fun _ _ _ h _ => h, fun _ _ _ h _ => h, fun _ _ _ h _ => h, fun _ _ _ h _ => h, fun _ _ _ h _ => h, fun _ _ _ h _ => h, fun _ _ _ h _ => h, trivial⟩ ⟨?_, ?_, ?_, ?_, ?_, ?_, ?_, ?_, ?_, trivial⟩ ?_
 rintro vs w14 k14 ⟨-⟩
 replace k14 : Kp [] w2 w14 := k14
 refine WO.haves (fr' := [(0, _)]) ⟨⟨_, rfl, rfl⟩, trivial⟩ ?_
 refine WO.v (R.move rfl) rfl ?_
 refine WO.nil ?_
 exact WX.stepDone rfl rfl (Kp.refl _)
 rintro vs w15 k15 ⟨-⟩
 replace k15 : Kp [] w2 w15 := k15
 refine WO.haves (fr' := [(5, _)]) ⟨⟨_, rfl, rfl⟩, trivial⟩ ?_
 refine WO.v (R.move rfl) rfl ?_
 refine WO.nil ?_
 exact WX.stepDone rfl rfl (Kp.refl _)
 rintro vs w16 k16 ⟨e17, e18, -⟩
 replace k16 : Kp [] w2 w16 := k16
 refine WO.haves (fr' := [(17, _), (18, _)]) ⟨⟨_, rfl, e17⟩, ⟨_, rfl, e18⟩, trivial⟩ ?_
 refine WO.v (R.indexAddrN rfl rfl Try.underlying22 sz3 hA5 (by omega)) rfl ?_
 refine WO.nil ?_
 exact WX.stepDone rfl rfl (Kp.refl _)
 rintro vs w19 k19 ⟨e20, -⟩
 replace k19 : Kp [] w2 w19 := k19
 have z19 := k19.size
 have b19 := old_kp0 b2 k19
 have y19 := b19.size
 refine WO.haves (fr' := [(19, _)]) ⟨⟨_, rfl, e20⟩, trivial⟩ ?_
 refine WO.v (R.load1 rfl Try.underlying3 rfl (CellsAt.one0 ((ccA5).kpA k19 (by omega) (by simp)))) rfl ?_
 refine WO.nil ?_
 exact WX.stepDone rfl rfl (Kp.refl _)
 rintro vs w21 k21 ⟨-⟩
 replace k21 : Kp [] w2 w21 := k21
 refine WO.haves (fr' := [(1, _)]) ⟨⟨_, rfl, rfl⟩, trivial⟩ ?_
 refine WO.v (R.move rfl) rfl ?_
 refine WO.nil ?_
 exact WX.stepDone rfl rfl (Kp.refl _)
 rintro vs w22 k22 ⟨-⟩
 replace k22 : Kp [] w2 w22 := k22
 refine WO.haves (fr' := [(5, _)]) ⟨⟨_, rfl, rfl⟩, trivial⟩ ?_
 refine WO.v (R.move rfl) rfl ?_
 refine WO.nil ?_
 exact WX.stepDone rfl rfl (Kp.refl _)
 rintro vs w23 k23 ⟨e24, e25, -⟩
 replace k23 : Kp [] w2 w23 := k23
 refine WO.haves (fr' := [(21, _), (22, _)]) ⟨⟨_, rfl, e24⟩, ⟨_, rfl, e25⟩, trivial⟩ ?_
 refine WO.v (R.indexAddrN rfl rfl Try.underlying22 sz3 hA10 (by omega)) rfl ?_
 refine WO.nil ?_
 exact WX.stepDone rfl rfl (Kp.refl _)
 rintro vs w26 k26 ⟨e27, -⟩
 replace k26 : Kp [] w2 w26 := k26
 have z26 := k26.size
 have b26 := old_kp0 b2 k26
 have y26 := b26.size
 refine WO.haves (fr' := [(23, _)]) ⟨⟨_, rfl, e27⟩, trivial⟩ ?_
 refine WO.v (R.load1 rfl Try.underlying3 rfl (CellsAt.one0 ((ccA10).kpA k26 (by omega) (by simp)))) rfl ?_
 refine WO.nil ?_
 exact WX.stepDone rfl rfl (Kp.refl _)
 rintro vs w28 k28 ⟨e29, e30, -⟩
 replace k28 : Kp [] w2 w28 := k28
 refine WO.haves (fr' := [(20, _), (24, _)]) ⟨⟨_, rfl, e29⟩, ⟨_, rfl, e30⟩, trivial⟩ ?_
 refine WO.v (R.neq rfl rfl) rfl ?_
 refine WO.nil ?_
 exact WX.stepDone rfl rfl (Kp.refl _)
 rintro vs w31 k31 ⟨-, -, -, -, -, -, -, -, e40, -⟩
 replace k31 : Kp [] w2 w31 := k31
 have z31 := k31.size
 have b31 := old_kp0 b2 k31
 have y31 := b31.size
 refine WO.haves (fr' := [(25, _), (0, _), (1, _), (4, _), (5, _), (10, _), (14, _)]) ⟨⟨_, rfl, e40⟩, ⟨_, rfl, rfl⟩, ⟨_, rfl, rfl⟩, ⟨_, rfl, rfl⟩, ⟨_, rfl, rfl⟩, ⟨_, rfl, rfl⟩, ⟨_, rfl, rfl⟩, trivial⟩ ?_
 refine WO.nil ?_
 refine WX.sel [0, 1, 4, 5, 10, 14, 25] rfl ?_
 refine WX.next ?_
 refine WC.cond rfl (fun q41 => ?_) (fun q41 => ?_)
 have p41 : ¬ (x4 = x9) := of_decide_eq_false (bnot_t q41)
 refine WC.seq ?_
 refine WC.region ?_
 refine WO.v (R.assign rfl) rfl ?_
 refine WO.nil ?_
 refine WX.sel [0, 1, 4, 5, 10, 14, 25] rfl ?_
 refine WX.next ?_
 refine WC.ret ?_
 refine WX.blkRet ?_
 refine WX.thenRet ?_
 refine WX.loopRet ?_
 refine WX.blkRet ?_
 refine WX.thenRet ?_
 have e0 : false = (decide (l = m)) := by first | exact (ne_len ‹_›) | exact take_ne ‹l[_]? = _› ‹m[_]? = _› (by omega) | exact take_all hlen htk (by omega)
 refine WX.ret1 Try.results22 rfl ?_
 exact ⟨by rw [e0], Kp.of_below b31⟩
 have p41 : x4 = x9 := of_decide_eq_true (bnot_f q41)
 refine WC.skip ?_
 refine WX.blkNormal ?_
 refine WX.next ?_
 refine WC.region ?_
 refine WO.v (R.move rfl) rfl ?_
 refine WO.v (R.inc rfl (by omega)) rfl ?_
 refine WO.v (R.assign rfl) rfl ?_
 refine WO.nil ?_
 refine WX.sel [0, 1, 4, 5, 10, 14, 25] rfl ?_
 exact WX.loopNextK [0, 1, 4, 10] (k + 1) rfl ⟨⟨_, rfl, rfl⟩, trivial⟩ ⟨((Kp.refl _).step k2 (by simp)).step k31 (by simp), by omega, hlen, take_eq htk hx4 hx9 (by omega)⟩ (by show (l.length - (k + 1)) < (l.length - k); omega)
 have p3 : ¬ (((k : Nat) : Int) < ((l.length : Nat) : Int)) := of_decide_eq_false q3
 refine WC.exit ?_
 refine WX.thenExit ?_
 refine WX.loopExit ?_
 refine WX.blkHit ?_
 refine WX.next ?_
 refine WC.seq ?_
 refine WC.region ?_
 refine WO.v (R.assign rfl) rfl ?_
 refine WO.nil ?_
 refine WX.sel [0, 1, 4, 5, 10, 14] rfl ?_
 refine WX.next ?_
 refine WC.ret ?_
 have e0 : true = (decide (l = m)) := by first | exact (ne_len ‹_›) | exact take_ne ‹l[_]? = _› ‹m[_]? = _› (by omega) | exact take_all hlen htk (by omega)
 refine WX.ret1 Try.results22 rfl ?_
 exact ⟨by rw [e0], Kp.of_below b2⟩

set_option maxRecDepth 100000 in
set_option maxHeartbeats 400000 in
theorem row5_s {w : World} {a_l : Option Addr} {c_l : Nat} {l : List Int} (h_l : Sl false 0 w.heap.size w (.slice a_l l.length c_l) l) :
    Ret Try.prog 47 [.slice a_l l.length c_l].toArray w fun r w' => r = .bool (rowF l) ∧ Kp [] w w' := by
 have len_l : (l).length * 8 ≤ 140737488355328 := h_l.lenle
 refine Ret.enter Try.func47 rfl Try.ntmps47 rfl rfl ?_
 refine WC.sel [0] rfl ?_
 refine WC.seq ?_
 refine WC.region ?_
 refine WO.v (R.assign rfl) rfl ?_
 refine WO.nil ?_
 refine WX.sel [0, 2] rfl ?_
 refine WX.next ?_
 refine WC.seq ?_
 refine WC.seq ?_
 refine WC.region ?_
 refine WO.v (R.assign rfl) rfl ?_
 refine WO.nil ?_
 refine WX.sel [0, 2, 3] rfl ?_
 refine WX.next ?_
 refine WC.block ?_
 refine WC.loopK [0, 2] rfl (fun zz : Nat => [(3, (.int .i64 (((zz) : Nat) : Int)))]) (fun (zz : Nat) (w' : World) => (Kp [] w w') ∧ ((zz) ≤ l.length) ∧ (risingF id 64 0 (l.take (zz)) = true)) (fun zz => l.length - (zz)) (0) ?_ ?_ ?_
 exact ⟨⟨_, rfl, rfl⟩, trivial⟩
 exact ⟨Kp.refl _, Nat.zero_le _, rfl⟩
 rintro k w1 ⟨k1, hk, hr⟩
 try dsimp only at hk hr
 have z1 := k1.size
 have b1 := old_kp0 (Below.refl w.heap.size w) k1
 have y1 := b1.size
 refine (?_ : WC _ _ _ _ ([(3, (.int .i64 ((k : Nat) : Int)))] ++ _) w1)
 refine WC.seq ?_
 refine WC.seq ?_
 refine WC.region ?_
 refine WO.v (R.move rfl) rfl ?_
 refine WO.v (R.move rfl) rfl ?_
 refine WO.v (R.len rfl Try.underlying22) rfl ?_
 refine WO.v (R.lss rfl rfl) rfl ?_
 refine WO.nil ?_
 refine WX.sel [0, 2, 3, 7] rfl ?_
 refine WX.next ?_
 refine WC.cond rfl (fun q2 => ?_) (fun q2 => ?_)
 have p2 : ((k : Nat) : Int) < ((l.length : Nat) : Int) := of_decide_eq_true q2
 refine WC.skip ?_
 refine WX.next ?_
 refine WC.seq ?_
 refine WC.block ?_
 refine WC.seq ?_
 refine WC.sel [0, 2, 3, 7] rfl ?_
 obtain ⟨x3, hx3⟩ := get_ex (xs := l) (i := k) (by omega)
 obtain ⟨A4, cs5, hA4, loA4, hiA4, ccA4, r6⟩ := (sl_old h_l b1).at_ hx3
 obtain ⟨rfl, i7⟩ := r6
 rcases Bool.eq_false_or_eq_true (!((decide (((1 : Int)) ≤ (x3))) && (decide ((x3) ≤ ((64 : Int)))))) with hb8 | hb8
 have phb8 : (¬ (((1 : Int)) ≤ (x3))) ∨ (¬ ((x3) ≤ ((64 : Int)))) := Or.imp (fun h => of_decide_eq_false h) (fun h => of_decide_eq_false h) (band_f (bnot_t hb8))
 refine WC.draw' mixed_orders [.ex [] (.slice a_l l.length c_l), .ex [] (.int .i64 ((k : Nat) : Int)), .ex [0, 1] (.pointer (some (A4.add (k * 1)))), .ex [2] (.int .i64 x3), .ex [3] (.bool ((decide (((1 : Int)) ≤ (x3))) && (decide ((x3) ≤ ((64 : Int)))))), .ex [4] (.bool (!((decide (((1 : Int)) ≤ (x3))) && (decide ((x3) ≤ ((64 : Int))))))), .ex [5] (.bool true), .ex [6] undef, .ex [6] undef, .ex [6] undef, .ex [9] undef, .ex [9] undef, .ex [9] undef, .ex [9] undef, .ex [9] undef, .ex [9] undef, .ex [9] undef, .ex [9] undef, .ex [9] undef, .ex [9] undef, .ex [6] undef, .ex [6] (.bool true)] 22 (by kernel_rfl) ⟨fun _ _ _ h _ => h, fun _ _ _ h _ => h, fun _ _ _ h _ => h, fun _ _ _ h _ => h, fun _ _ _ h _ => h, fun _ _ _ h _ => h, fun _ _ _ h _ => h, fun _ _ _ h _ => h, fun _ _ _ h _ => h, fun _ _ _ h _ => h, fun _ _ _ h _ => h, fun _ _ _ h _ => h, fun _ _ _ h _ => h, fun _ _ _ h _ => h, fun _ _ _ h _ => h, fun _ _ _ h _ => h, fun _ _ _ h _ => h, fun _ _ _ h _ => h, fun _ _ _ h _ => h, fun _ _ _ h _ => h, fun _ _ _ h _ => h, fun _ _ _ h _ => h, trivial⟩ ⟨?_, ?_, ?_, ?_, ?_, ?_, ?_, ?_, ?_, ?_, ?_, ?_, ?_, ?_, ?_, ?_, ?_, ?_, ?_, ?_, ?_, ?_, trivial⟩ ?_
 rintro vs w9 k9 ⟨-⟩
 replace k9 : Kp [] w1 w9 := k9
 refine WO.haves (fr' := [(0, _)]) ⟨⟨_, rfl, rfl⟩, trivial⟩ ?_
 refine WO.v (R.move rfl) rfl ?_
 refine WO.nil ?_
 exact WX.stepDone rfl rfl (Kp.refl _)
 rintro vs w10 k10 ⟨-⟩
 replace k10 : Kp [] w1 w10 := k10
 refine WO.haves (fr' := [(3, _)]) ⟨⟨_, rfl, rfl⟩, trivial⟩ ?_
 refine WO.v (R.move rfl) rfl ?_
 refine WO.nil ?_
 exact WX.stepDone rfl rfl (Kp.refl _)
 rintro vs w11 k11 ⟨e12, e13, -⟩
 replace k11 : Kp [] w1 w11 := k11
 refine WO.haves (fr' := [(10, _), (11, _)]) ⟨⟨_, rfl, e12⟩, ⟨_, rfl, e13⟩, trivial⟩ ?_
 refine WO.v (R.indexAddrN rfl rfl Try.underlying22 sz3 hA4 (by omega)) rfl ?_
 refine WO.nil ?_
 exact WX.stepDone rfl rfl (Kp.refl _)
 rintro vs w14 k14 ⟨e15, -⟩
 replace k14 : Kp [] w1 w14 := k14
 have z14 := k14.size
 have b14 := old_kp0 b1 k14
 have y14 := b14.size
 refine WO.haves (fr' := [(12, _)]) ⟨⟨_, rfl, e15⟩, trivial⟩ ?_
 refine WO.v (R.load1 rfl Try.underlying3 rfl (CellsAt.one0 ((ccA4).kpA k14 (by omega) (by simp)))) rfl ?_
 refine WO.nil ?_
 exact WX.stepDone rfl rfl (Kp.refl _)
 rintro vs w16 k16 ⟨e17, -⟩
 replace k16 : Kp [] w1 w16 := k16
 have z16 := k16.size
 have b16 := old_kp0 b1 k16
 have y16 := b16.size
 refine WO.haves (fr' := [(13, _)]) ⟨⟨_, rfl, e17⟩, trivial⟩ ?_
 refine WO.c (E.call rfl rfl Try.func37 rfl rfl) (in5_s (n := x3) (a := (1 : Int)) (b := (64 : Int)) ) rfl ?_
 rintro _ _ ⟨rfl, rfl⟩
 refine WO.nil ?_
 exact WX.stepDone rfl rfl (Kp.refl _)
 rintro vs w18 k18 ⟨e19, -⟩
 replace k18 : Kp [] w1 w18 := k18
 refine WO.haves (fr' := [(14, _)]) ⟨⟨_, rfl, e19⟩, trivial⟩ ?_
 refine WO.v (R.not rfl) rfl ?_
 refine WO.nil ?_
 exact WX.stepDone rfl rfl (Kp.refl _)
 rintro vs w20 k20 ⟨e21, -⟩
 replace k20 : Kp [] w1 w20 := k20
 refine WO.haves (fr' := [(15, _)]) ⟨⟨_, rfl, e21⟩, trivial⟩ ?_
 refine WO.v (R.move rfl) rfl ?_
 refine WO.nil ?_
 exact WX.stepDone rfl (vb hb8) (Kp.refl _)
 rintro vs w22 k22 ⟨e23, -⟩
 replace k22 : Kp [] w1 w22 := k22
 refine WO.haves (fr' := [(16, _), (3, _)]) ⟨⟨_, rfl, e23⟩, ⟨_, rfl, rfl⟩, trivial⟩ ?_
 refine WO.off rfl rfl rfl rfl ?_
 refine WO.nil ?_
 exact WX.stepDone rfl rfl (Kp.refl _)
 rintro vs w24 k24 ⟨e25, -⟩
 replace k24 : Kp [] w1 w24 := k24
 refine WO.haves (fr' := [(16, _)]) ⟨⟨_, rfl, e25⟩, trivial⟩ ?_
 refine WO.off rfl rfl rfl rfl ?_
 refine WO.nil ?_
 exact WX.stepDone rfl rfl (Kp.refl _)
 rintro vs w26 k26 ⟨e27, -⟩
 replace k26 : Kp [] w1 w26 := k26
 refine WO.haves (fr' := [(16, _)]) ⟨⟨_, rfl, e27⟩, trivial⟩ ?_
 refine WO.off rfl rfl rfl rfl ?_
 refine WO.nil ?_
 exact WX.stepDone rfl rfl (Kp.refl _)
 rintro vs w28 k28 ⟨e29, -⟩
 replace k28 : Kp [] w1 w28 := k28
 refine WO.haves (fr' := [(19, _), (0, _)]) ⟨⟨_, rfl, e29⟩, ⟨_, rfl, rfl⟩, trivial⟩ ?_
 refine WO.offU rfl rfl rfl ?_
 refine WO.nil ?_
 exact WX.stepDone rfl rfl (Kp.refl _)
 rintro vs w30 k30 ⟨e31, -⟩
 replace k30 : Kp [] w1 w30 := k30
 refine WO.haves (fr' := [(19, _), (3, _)]) ⟨⟨_, rfl, e31⟩, ⟨_, rfl, rfl⟩, trivial⟩ ?_
 refine WO.offU rfl rfl rfl ?_
 refine WO.nil ?_
 exact WX.stepDone rfl rfl (Kp.refl _)
 rintro vs w32 k32 ⟨e33, -⟩
 replace k32 : Kp [] w1 w32 := k32
 refine WO.haves (fr' := [(19, _)]) ⟨⟨_, rfl, e33⟩, trivial⟩ ?_
 refine WO.offU rfl rfl rfl ?_
 refine WO.nil ?_
 exact WX.stepDone rfl rfl (Kp.refl _)
 rintro vs w34 k34 ⟨e35, -⟩
 replace k34 : Kp [] w1 w34 := k34
 refine WO.haves (fr' := [(19, _)]) ⟨⟨_, rfl, e35⟩, trivial⟩ ?_
 refine WO.offU rfl rfl rfl ?_
 refine WO.nil ?_
 exact WX.stepDone rfl rfl (Kp.refl _)
 rintro vs w36 k36 ⟨e37, -⟩
 replace k36 : Kp [] w1 w36 := k36
 refine WO.haves (fr' := [(19, _), (0, _)]) ⟨⟨_, rfl, e37⟩, ⟨_, rfl, rfl⟩, trivial⟩ ?_
 refine WO.offU rfl rfl rfl ?_
 refine WO.nil ?_
 exact WX.stepDone rfl rfl (Kp.refl _)
 rintro vs w38 k38 ⟨e39, -⟩
 replace k38 : Kp [] w1 w38 := k38
 refine WO.haves (fr' := [(19, _), (3, _)]) ⟨⟨_, rfl, e39⟩, ⟨_, rfl, rfl⟩, trivial⟩ ?_
 refine WO.offU rfl rfl rfl ?_
 refine WO.nil ?_
 exact WX.stepDone rfl rfl (Kp.refl _)
 rintro vs w40 k40 ⟨e41, -⟩
 replace k40 : Kp [] w1 w40 := k40
 refine WO.haves (fr' := [(19, _)]) ⟨⟨_, rfl, e41⟩, trivial⟩ ?_
 refine WO.offU rfl rfl rfl ?_
 refine WO.nil ?_
 exact WX.stepDone rfl rfl (Kp.refl _)
 rintro vs w42 k42 ⟨e43, -⟩
 replace k42 : Kp [] w1 w42 := k42
 refine WO.haves (fr' := [(19, _)]) ⟨⟨_, rfl, e43⟩, trivial⟩ ?_
 refine WO.offU rfl rfl rfl ?_
 refine WO.nil ?_
 exact WX.stepDone rfl rfl (Kp.refl _)
 rintro vs w44 k44 ⟨e45, -⟩
 replace k44 : Kp [] w1 w44 := k44
 refine WO.haves (fr' := [(19, _)]) ⟨⟨_, rfl, e45⟩, trivial⟩ ?_
 refine WO.offU rfl rfl rfl ?_
 refine WO.nil ?_
 exact WX.stepDone rfl rfl (Kp.refl _)
 rintro vs w46 k46 ⟨e47, -⟩
 replace k46 : Kp [] w1 w46 := k46
 refine WO.haves (fr' := [(19, _)]) ⟨⟨_, rfl, e47⟩, trivial⟩ ?_
 refine WO.offU rfl rfl rfl ?_
 refine WO.nil ?_
 exact WX.stepDone rfl rfl (Kp.refl _)
 rintro vs w48 k48 ⟨e49, -⟩
 replace k48 : Kp [] w1 w48 := k48
 refine WO.haves (fr' := [(16, _)]) ⟨⟨_, rfl, e49⟩, trivial⟩ ?_
 refine WO.off rfl rfl rfl rfl ?_
 refine WO.nil ?_
 exact WX.stepDone rfl rfl (Kp.refl _)
 rintro vs w50 k50 ⟨e51, -⟩
 replace k50 : Kp [] w1 w50 := k50
 refine WO.haves (fr' := [(16, _)]) ⟨⟨_, rfl, e51⟩, trivial⟩ ?_
 refine WO.v (R.pickT rfl rfl rfl) rfl ?_
 refine WO.nil ?_
 exact WX.stepDone rfl rfl (Kp.refl _)
 rintro vs w52 k52 ⟨-, -, -, -, -, -, -, -, -, -, -, -, -, -, -, -, -, -, -, -, -, e74, -⟩
 replace k52 : Kp [] w1 w52 := k52
 have z52 := k52.size
 have b52 := old_kp0 b1 k52
 have y52 := b52.size
 refine WO.haves (fr' := [(31, _), (0, _), (2, _), (3, _), (7, _)]) ⟨⟨_, rfl, e74⟩, ⟨_, rfl, rfl⟩, ⟨_, rfl, rfl⟩, ⟨_, rfl, rfl⟩, ⟨_, rfl, rfl⟩, trivial⟩ ?_
 refine WO.nil ?_
 refine WX.sel [0, 2, 3, 7, 31] rfl ?_
 refine WX.next ?_
 refine WC.condT rfl ?_
 refine WC.seq ?_
 refine WC.region ?_
 refine WO.v (R.assign rfl) rfl ?_
 refine WO.nil ?_
 refine WX.sel [0, 2, 3, 7, 31] rfl ?_
 refine WX.next ?_
 refine WC.ret ?_
 refine WX.blkRet ?_
 refine WX.thenRet ?_
 refine WX.loopRet ?_
 refine WX.blkRet ?_
 refine WX.thenRet ?_
 have e0 : false = (rowF l) := by first | exact rowF_done hr (by omega) | exact rowF_stop ‹l[k]? = some _› (by have := lastK_pos hr; omega) | exact rowF_stop ‹l[k]? = some _› (by rw [lastK_at (key := id) (by omega) ‹l[k - 1]? = some _›]; dsimp only [id]; omega)
 refine WX.ret1 Try.results47 rfl ?_
 exact ⟨by rw [e0], Kp.of_below b52⟩
 have phb8 : (((1 : Int)) ≤ (x3)) ∧ ((x3) ≤ ((64 : Int))) := ⟨of_decide_eq_true (band_t (bnot_f hb8)).1, of_decide_eq_true (band_t (bnot_f hb8)).2⟩
 rcases Bool.eq_false_or_eq_true (decide ((0 : Int) < ((k : Nat) : Int))) with hb75 | hb75
 have phb75 : (0 : Int) < ((k : Nat) : Int) := of_decide_eq_true hb75
 obtain ⟨A77, cs78, hA77, loA77, hiA77, ccA77, r79⟩ := (sl_old h_l b1).at_ hx3
 obtain ⟨rfl, i80⟩ := r79
 have i81 : I64 (((k : Nat) : Int) - (1 : Int)) := by exact ⟨by omega, by omega⟩
 obtain ⟨x82, hx82⟩ := get_ex (xs := l) (i := (k - 1)) (by omega)
 obtain ⟨A83, cs84, hA83, loA83, hiA83, ccA83, r85⟩ := (sl_old h_l b1).at_ hx82
 obtain ⟨rfl, i86⟩ := r85
 refine WC.draw' mixed_orders [.ex [] (.slice a_l l.length c_l), .ex [] (.int .i64 ((k : Nat) : Int)), .ex [0, 1] (.pointer (some (A4.add (k * 1)))), .ex [2] (.int .i64 x3), .ex [3] (.bool ((decide (((1 : Int)) ≤ (x3))) && (decide ((x3) ≤ ((64 : Int)))))), .ex [4] (.bool (!((decide (((1 : Int)) ≤ (x3))) && (decide ((x3) ≤ ((64 : Int))))))), .ex [5] (.bool false), .ex [6] (.int .i64 ((k : Nat) : Int)), .ex [6, 7] (.bool (decide ((0 : Int) < ((k : Nat) : Int)))), .ex [6, 8] (.bool true), .ex [9] (.slice a_l l.length c_l), .ex [9] (.int .i64 ((k : Nat) : Int)), .ex [9, 10, 11] (.pointer (some (A77.add (k * 1)))), .ex [9, 12] (.int .i64 x3), .ex [9] (.slice a_l l.length c_l), .ex [9] (.int .i64 ((k : Nat) : Int)), .ex [9, 15] (.int .i64 (((k : Nat) : Int) - (1 : Int))), .ex [9, 14, 16] (.pointer (some (A83.add ((k - 1) * 1)))), .ex [9, 17] (.int .i64 x82), .ex [9, 13, 18] (.bool (decide (x3 ≤ x82))), .ex [6, 9, 19] (.bool (decide (x3 ≤ x82))), .ex [6, 20] (.bool (decide (x3 ≤ x82)))] 22 (by kernel_rfl) ⟨fun _ _ _ h _ => h, fun _ _ _ h _ => h, fun _ _ _ h _ => h, fun _ _ _ h _ => h, fun _ _ _ h _ => h, fun _ _ _ h _ => h, fun _ _ _ h _ => h, fun _ _ _ h _ => h, fun _ _ _ h _ => h, fun _ _ _ h _ => h, fun _ _ _ h _ => h, fun _ _ _ h _ => h, fun _ _ _ h _ => h, fun _ _ _ h _ => h, fun _ _ _ h _ => h, fun _ _ _ h _ => h, fun _ _ _ h _ => h, fun _ _ _ h _ => h, fun _ _ _ h _ => h, fun _ _ _ h _ => h, fun _ _ _ h _ => h, fun _ _ _ h _ => h, trivial⟩ ⟨?_, ?_, ?_, ?_, ?_, ?_, ?_, ?_, ?_, ?_, ?_, ?_, ?_, ?_, ?_, ?_, ?_, ?_, ?_, ?_, ?_, ?_, trivial⟩ ?_
 rintro vs w87 k87 ⟨-⟩
 replace k87 : Kp [] w1 w87 := k87
 refine WO.haves (fr' := [(0, _)]) ⟨⟨_, rfl, rfl⟩, trivial⟩ ?_
 refine WO.v (R.move rfl) rfl ?_
 refine WO.nil ?_
 exact WX.stepDone rfl rfl (Kp.refl _)
 rintro vs w88 k88 ⟨-⟩
 replace k88 : Kp [] w1 w88 := k88
 refine WO.haves (fr' := [(3, _)]) ⟨⟨_, rfl, rfl⟩, trivial⟩ ?_
 refine WO.v (R.move rfl) rfl ?_
 refine WO.nil ?_
 exact WX.stepDone rfl rfl (Kp.refl _)
 rintro vs w89 k89 ⟨e90, e91, -⟩
 replace k89 : Kp [] w1 w89 := k89
 refine WO.haves (fr' := [(10, _), (11, _)]) ⟨⟨_, rfl, e90⟩, ⟨_, rfl, e91⟩, trivial⟩ ?_
 refine WO.v (R.indexAddrN rfl rfl Try.underlying22 sz3 hA4 (by omega)) rfl ?_
 refine WO.nil ?_
 exact WX.stepDone rfl rfl (Kp.refl _)
 rintro vs w92 k92 ⟨e93, -⟩
 replace k92 : Kp [] w1 w92 := k92
 have z92 := k92.size
 have b92 := old_kp0 b1 k92
 have y92 := b92.size
 refine WO.haves (fr' := [(12, _)]) ⟨⟨_, rfl, e93⟩, trivial⟩ ?_
 refine WO.v (R.load1 rfl Try.underlying3 rfl (CellsAt.one0 ((ccA4).kpA k92 (by omega) (by simp)))) rfl ?_
 refine WO.nil ?_
 exact WX.stepDone rfl rfl (Kp.refl _)
 rintro vs w94 k94 ⟨e95, -⟩
 replace k94 : Kp [] w1 w94 := k94
 have z94 := k94.size
 have b94 := old_kp0 b1 k94
 have y94 := b94.size
 refine WO.haves (fr' := [(13, _)]) ⟨⟨_, rfl, e95⟩, trivial⟩ ?_
 refine WO.c (E.call rfl rfl Try.func37 rfl rfl) (in5_s (n := x3) (a := (1 : Int)) (b := (64 : Int)) ) rfl ?_
 rintro _ _ ⟨rfl, rfl⟩
 refine WO.nil ?_
 exact WX.stepDone rfl rfl (Kp.refl _)
 rintro vs w96 k96 ⟨e97, -⟩
 replace k96 : Kp [] w1 w96 := k96
 refine WO.haves (fr' := [(14, _)]) ⟨⟨_, rfl, e97⟩, trivial⟩ ?_
 refine WO.v (R.not rfl) rfl ?_
 refine WO.nil ?_
 exact WX.stepDone rfl rfl (Kp.refl _)
 rintro vs w98 k98 ⟨e99, -⟩
 replace k98 : Kp [] w1 w98 := k98
 refine WO.haves (fr' := [(15, _)]) ⟨⟨_, rfl, e99⟩, trivial⟩ ?_
 refine WO.v (R.move rfl) rfl ?_
 refine WO.nil ?_
 exact WX.stepDone rfl (vb hb8) (Kp.refl _)
 rintro vs w100 k100 ⟨e101, -⟩
 replace k100 : Kp [] w1 w100 := k100
 refine WO.haves (fr' := [(16, _), (3, _)]) ⟨⟨_, rfl, e101⟩, ⟨_, rfl, rfl⟩, trivial⟩ ?_
 refine WO.on rfl rfl rfl ?_
 refine WO.v (R.move rfl) rfl ?_
 refine WO.nil ?_
 exact WX.stepDone rfl rfl (Kp.refl _)
 rintro vs w102 k102 ⟨e103, e104, -⟩
 replace k102 : Kp [] w1 w102 := k102
 refine WO.haves (fr' := [(16, _), (17, _)]) ⟨⟨_, rfl, e103⟩, ⟨_, rfl, e104⟩, trivial⟩ ?_
 refine WO.on rfl rfl rfl ?_
 refine WO.v (R.gtr rfl rfl) rfl ?_
 refine WO.nil ?_
 exact WX.stepDone rfl rfl (Kp.refl _)
 rintro vs w105 k105 ⟨e106, e107, -⟩
 replace k105 : Kp [] w1 w105 := k105
 refine WO.haves (fr' := [(16, _), (18, _)]) ⟨⟨_, rfl, e106⟩, ⟨_, rfl, e107⟩, trivial⟩ ?_
 refine WO.on rfl rfl rfl ?_
 refine WO.v (R.move rfl) rfl ?_
 refine WO.nil ?_
 exact WX.stepDone rfl (vb hb75) (Kp.refl _)
 rintro vs w108 k108 ⟨e109, -⟩
 replace k108 : Kp [] w1 w108 := k108
 refine WO.haves (fr' := [(19, _), (0, _)]) ⟨⟨_, rfl, e109⟩, ⟨_, rfl, rfl⟩, trivial⟩ ?_
 refine WO.on rfl rfl rfl ?_
 refine WO.v (R.move rfl) rfl ?_
 refine WO.nil ?_
 exact WX.stepDone rfl rfl (Kp.refl _)
 rintro vs w110 k110 ⟨e111, -⟩
 replace k110 : Kp [] w1 w110 := k110
 refine WO.haves (fr' := [(19, _), (3, _)]) ⟨⟨_, rfl, e111⟩, ⟨_, rfl, rfl⟩, trivial⟩ ?_
 refine WO.on rfl rfl rfl ?_
 refine WO.v (R.move rfl) rfl ?_
 refine WO.nil ?_
 exact WX.stepDone rfl rfl (Kp.refl _)
 rintro vs w112 k112 ⟨e113, e114, e115, -⟩
 replace k112 : Kp [] w1 w112 := k112
 refine WO.haves (fr' := [(19, _), (20, _), (21, _)]) ⟨⟨_, rfl, e113⟩, ⟨_, rfl, e114⟩, ⟨_, rfl, e115⟩, trivial⟩ ?_
 refine WO.on rfl rfl rfl ?_
 refine WO.v (R.indexAddrN rfl rfl Try.underlying22 sz3 hA77 (by omega)) rfl ?_
 refine WO.nil ?_
 exact WX.stepDone rfl rfl (Kp.refl _)
 rintro vs w116 k116 ⟨e117, e118, -⟩
 replace k116 : Kp [] w1 w116 := k116
 have z116 := k116.size
 have b116 := old_kp0 b1 k116
 have y116 := b116.size
 refine WO.haves (fr' := [(19, _), (22, _)]) ⟨⟨_, rfl, e117⟩, ⟨_, rfl, e118⟩, trivial⟩ ?_
 refine WO.on rfl rfl rfl ?_
 refine WO.v (R.load1 rfl Try.underlying3 rfl (CellsAt.one0 ((ccA77).kpA k116 (by omega) (by simp)))) rfl ?_
 refine WO.nil ?_
 exact WX.stepDone rfl rfl (Kp.refl _)
 rintro vs w119 k119 ⟨e120, -⟩
 replace k119 : Kp [] w1 w119 := k119
 refine WO.haves (fr' := [(19, _), (0, _)]) ⟨⟨_, rfl, e120⟩, ⟨_, rfl, rfl⟩, trivial⟩ ?_
 refine WO.on rfl rfl rfl ?_
 refine WO.v (R.move rfl) rfl ?_
 refine WO.nil ?_
 exact WX.stepDone rfl rfl (Kp.refl _)
 rintro vs w121 k121 ⟨e122, -⟩
 replace k121 : Kp [] w1 w121 := k121
 refine WO.haves (fr' := [(19, _), (3, _)]) ⟨⟨_, rfl, e122⟩, ⟨_, rfl, rfl⟩, trivial⟩ ?_
 refine WO.on rfl rfl rfl ?_
 refine WO.v (R.move rfl) rfl ?_
 refine WO.nil ?_
 exact WX.stepDone rfl rfl (Kp.refl _)
 rintro vs w123 k123 ⟨e124, e125, -⟩
 replace k123 : Kp [] w1 w123 := k123
 refine WO.haves (fr' := [(19, _), (25, _)]) ⟨⟨_, rfl, e124⟩, ⟨_, rfl, e125⟩, trivial⟩ ?_
 refine WO.on rfl rfl rfl ?_
 have i126 : I64 (((k : Nat) : Int) - (1 : Int)) := by exact ⟨by omega, by omega⟩
 refine WO.v (R.sub rfl rfl i126) rfl ?_
 refine WO.nil ?_
 exact WX.stepDone rfl rfl (Kp.refl _)
 rintro vs w127 k127 ⟨e128, e129, e130, -⟩
 replace k127 : Kp [] w1 w127 := k127
 refine WO.haves (fr' := [(19, _), (24, _), (26, _)]) ⟨⟨_, rfl, e128⟩, ⟨_, rfl, e129⟩, ⟨_, rfl, e130⟩, trivial⟩ ?_
 refine WO.on rfl rfl rfl ?_
 refine WO.v (R.indexAddrJ rfl rfl Try.underlying22 sz3 hA83 (i := (k - 1)) (by omega) (by omega)) rfl ?_
 refine WO.nil ?_
 exact WX.stepDone rfl rfl (Kp.refl _)
 rintro vs w131 k131 ⟨e132, e133, -⟩
 replace k131 : Kp [] w1 w131 := k131
 have z131 := k131.size
 have b131 := old_kp0 b1 k131
 have y131 := b131.size
 refine WO.haves (fr' := [(19, _), (27, _)]) ⟨⟨_, rfl, e132⟩, ⟨_, rfl, e133⟩, trivial⟩ ?_
 refine WO.on rfl rfl rfl ?_
 refine WO.v (R.load1 rfl Try.underlying3 rfl (CellsAt.one0 ((ccA83).kpA k131 (by omega) (by simp)))) rfl ?_
 refine WO.nil ?_
 exact WX.stepDone rfl rfl (Kp.refl _)
 rintro vs w134 k134 ⟨e135, e136, e137, -⟩
 replace k134 : Kp [] w1 w134 := k134
 refine WO.haves (fr' := [(19, _), (23, _), (28, _)]) ⟨⟨_, rfl, e135⟩, ⟨_, rfl, e136⟩, ⟨_, rfl, e137⟩, trivial⟩ ?_
 refine WO.on rfl rfl rfl ?_
 refine WO.v (R.leq rfl rfl) rfl ?_
 refine WO.nil ?_
 exact WX.stepDone rfl rfl (Kp.refl _)
 rintro vs w138 k138 ⟨e139, e140, e141, -⟩
 replace k138 : Kp [] w1 w138 := k138
 refine WO.haves (fr' := [(16, _), (19, _), (29, _)]) ⟨⟨_, rfl, e139⟩, ⟨_, rfl, e140⟩, ⟨_, rfl, e141⟩, trivial⟩ ?_
 refine WO.on rfl rfl rfl ?_
 refine WO.v (R.pickT rfl rfl rfl) rfl ?_
 refine WO.nil ?_
 exact WX.stepDone rfl rfl (Kp.refl _)
 rintro vs w142 k142 ⟨e143, e144, -⟩
 replace k142 : Kp [] w1 w142 := k142
 refine WO.haves (fr' := [(16, _), (30, _)]) ⟨⟨_, rfl, e143⟩, ⟨_, rfl, e144⟩, trivial⟩ ?_
 refine WO.v (R.pickF rfl rfl rfl) rfl ?_
 refine WO.nil ?_
 exact WX.stepDone rfl rfl (Kp.refl _)
 rintro vs w145 k145 ⟨-, -, -, -, -, -, -, -, -, -, -, -, -, -, -, -, -, -, -, -, -, e167, -⟩
 replace k145 : Kp [] w1 w145 := k145
 have z145 := k145.size
 have b145 := old_kp0 b1 k145
 have y145 := b145.size
 refine WO.haves (fr' := [(31, _), (0, _), (2, _), (3, _), (7, _)]) ⟨⟨_, rfl, e167⟩, ⟨_, rfl, rfl⟩, ⟨_, rfl, rfl⟩, ⟨_, rfl, rfl⟩, ⟨_, rfl, rfl⟩, trivial⟩ ?_
 refine WO.nil ?_
 refine WX.sel [0, 2, 3, 7, 31] rfl ?_
 refine WX.next ?_
 refine WC.cond rfl (fun q168 => ?_) (fun q168 => ?_)
 have p168 : x3 ≤ x82 := of_decide_eq_true q168
 refine WC.seq ?_
 refine WC.region ?_
 refine WO.v (R.assign rfl) rfl ?_
 refine WO.nil ?_
 refine WX.sel [0, 2, 3, 7, 31] rfl ?_
 refine WX.next ?_
 refine WC.ret ?_
 refine WX.blkRet ?_
 refine WX.thenRet ?_
 refine WX.loopRet ?_
 refine WX.blkRet ?_
 refine WX.thenRet ?_
 have e0 : false = (rowF l) := by first | exact rowF_done hr (by omega) | exact rowF_stop ‹l[k]? = some _› (by have := lastK_pos hr; omega) | exact rowF_stop ‹l[k]? = some _› (by rw [lastK_at (key := id) (by omega) ‹l[k - 1]? = some _›]; dsimp only [id]; omega)
 refine WX.ret1 Try.results47 rfl ?_
 exact ⟨by rw [e0], Kp.of_below b145⟩
 have p168 : ¬ (x3 ≤ x82) := of_decide_eq_false q168
 refine WC.skip ?_
 refine WX.blkNormal ?_
 refine WX.next ?_
 refine WC.region ?_
 refine WO.v (R.move rfl) rfl ?_
 refine WO.v (R.inc rfl (by omega)) rfl ?_
 refine WO.v (R.assign rfl) rfl ?_
 refine WO.nil ?_
 refine WX.sel [0, 2, 3, 7, 31] rfl ?_
 try have hz : lastK id 0 (l.take k) = 0 := (by rw [show k = 0 by omega]; rfl)
 try have hz := lastK_at (key := id) (a := 0) (l := l) (k := k) (by omega) ‹l[k - 1]? = some _›
 try dsimp only [id] at hz
 exact WX.loopNextK [0, 2] (k + 1) rfl ⟨⟨_, rfl, rfl⟩, trivial⟩ ⟨((Kp.refl _).step k1 (by simp)).step k145 (by simp), by omega, rising_next (key := id) hr hx3 (by show _ < _; dsimp only [id]; omega) (by show _ ≤ _; dsimp only [id]; omega)⟩ (by show (l.length - (k + 1)) < (l.length - k); omega)
 have phb75 : ¬ ((0 : Int) < ((k : Nat) : Int)) := of_decide_eq_false hb75
 refine WC.draw' mixed_orders [.ex [] (.slice a_l l.length c_l), .ex [] (.int .i64 ((k : Nat) : Int)), .ex [0, 1] (.pointer (some (A4.add (k * 1)))), .ex [2] (.int .i64 x3), .ex [3] (.bool ((decide (((1 : Int)) ≤ (x3))) && (decide ((x3) ≤ ((64 : Int)))))), .ex [4] (.bool (!((decide (((1 : Int)) ≤ (x3))) && (decide ((x3) ≤ ((64 : Int))))))), .ex [5] (.bool false), .ex [6] (.int .i64 ((k : Nat) : Int)), .ex [6, 7] (.bool (decide ((0 : Int) < ((k : Nat) : Int)))), .ex [6, 8] (.bool false), .ex [9] undef, .ex [9] undef, .ex [9] undef, .ex [9] undef, .ex [9] undef, .ex [9] undef, .ex [9] undef, .ex [9] undef, .ex [9] undef, .ex [9] undef, .ex [6, 9] (.bool false), .ex [6, 20] (.bool false)] 22 (by kernel_rfl) ⟨fun _ _ _ h _ => h, fun _ _ _ h _ => h, fun _ _ _ h _ => h, fun _ _ _ h _ => h, fun _ _ _ h _ => h, fun _ _ _ h _ => h, fun _ _ _ h _ => h, fun _ _ _ h _ => h, fun _ _ _ h _ => h, fun _ _ _ h _ => h, fun _ _ _ h _ => h, fun _ _ _ h _ => h, fun _ _ _ h _ => h, fun _ _ _ h _ => h, fun _ _ _ h _ => h, fun _ _ _ h _ => h, fun _ _ _ h _ => h, fun _ _ _ h _ => h, fun _ _ _ h _ => h, fun _ _ _ h _ => h, fun _ _ _ h _ => h, fun _ _ _ h _ => h, trivial⟩ ⟨?_, ?_, ?_, ?_, ?_, ?_, ?_, ?_, ?_, ?_, ?_, ?_, ?_, ?_, ?_, ?_, ?_, ?_, ?_, ?_, ?_, ?_, trivial⟩ ?_
 rintro vs w169 k169 ⟨-⟩
 replace k169 : Kp [] w1 w169 := k169
 refine WO.haves (fr' := [(0, _)]) ⟨⟨_, rfl, rfl⟩, trivial⟩ ?_
 refine WO.v (R.move rfl) rfl ?_
 refine WO.nil ?_
 exact WX.stepDone rfl rfl (Kp.refl _)
 rintro vs w170 k170 ⟨-⟩
 replace k170 : Kp [] w1 w170 := k170
 refine WO.haves (fr' := [(3, _)]) ⟨⟨_, rfl, rfl⟩, trivial⟩ ?_
 refine WO.v (R.move rfl) rfl ?_
 refine WO.nil ?_
 exact WX.stepDone rfl rfl (Kp.refl _)
 rintro vs w171 k171 ⟨e172, e173, -⟩
 replace k171 : Kp [] w1 w171 := k171
 refine WO.haves (fr' := [(10, _), (11, _)]) ⟨⟨_, rfl, e172⟩, ⟨_, rfl, e173⟩, trivial⟩ ?_
 refine WO.v (R.indexAddrN rfl rfl Try.underlying22 sz3 hA4 (by omega)) rfl ?_
 refine WO.nil ?_
 exact WX.stepDone rfl rfl (Kp.refl _)
 rintro vs w174 k174 ⟨e175, -⟩
 replace k174 : Kp [] w1 w174 := k174
 have z174 := k174.size
 have b174 := old_kp0 b1 k174
 have y174 := b174.size
 refine WO.haves (fr' := [(12, _)]) ⟨⟨_, rfl, e175⟩, trivial⟩ ?_
 refine WO.v (R.load1 rfl Try.underlying3 rfl (CellsAt.one0 ((ccA4).kpA k174 (by omega) (by simp)))) rfl ?_
 refine WO.nil ?_
 exact WX.stepDone rfl rfl (Kp.refl _)
 rintro vs w176 k176 ⟨e177, -⟩
 replace k176 : Kp [] w1 w176 := k176
 have z176 := k176.size
 have b176 := old_kp0 b1 k176
 have y176 := b176.size
 refine WO.haves (fr' := [(13, _)]) ⟨⟨_, rfl, e177⟩, trivial⟩ ?_
 refine WO.c (E.call rfl rfl Try.func37 rfl rfl) (in5_s (n := x3) (a := (1 : Int)) (b := (64 : Int)) ) rfl ?_
 rintro _ _ ⟨rfl, rfl⟩
 refine WO.nil ?_
 exact WX.stepDone rfl rfl (Kp.refl _)
 rintro vs w178 k178 ⟨e179, -⟩
 replace k178 : Kp [] w1 w178 := k178
 refine WO.haves (fr' := [(14, _)]) ⟨⟨_, rfl, e179⟩, trivial⟩ ?_
 refine WO.v (R.not rfl) rfl ?_
 refine WO.nil ?_
 exact WX.stepDone rfl rfl (Kp.refl _)
 rintro vs w180 k180 ⟨e181, -⟩
 replace k180 : Kp [] w1 w180 := k180
 refine WO.haves (fr' := [(15, _)]) ⟨⟨_, rfl, e181⟩, trivial⟩ ?_
 refine WO.v (R.move rfl) rfl ?_
 refine WO.nil ?_
 exact WX.stepDone rfl (vb hb8) (Kp.refl _)
 rintro vs w182 k182 ⟨e183, -⟩
 replace k182 : Kp [] w1 w182 := k182
 refine WO.haves (fr' := [(16, _), (3, _)]) ⟨⟨_, rfl, e183⟩, ⟨_, rfl, rfl⟩, trivial⟩ ?_
 refine WO.on rfl rfl rfl ?_
 refine WO.v (R.move rfl) rfl ?_
 refine WO.nil ?_
 exact WX.stepDone rfl rfl (Kp.refl _)
 rintro vs w184 k184 ⟨e185, e186, -⟩
 replace k184 : Kp [] w1 w184 := k184
 refine WO.haves (fr' := [(16, _), (17, _)]) ⟨⟨_, rfl, e185⟩, ⟨_, rfl, e186⟩, trivial⟩ ?_
 refine WO.on rfl rfl rfl ?_
 refine WO.v (R.gtr rfl rfl) rfl ?_
 refine WO.nil ?_
 exact WX.stepDone rfl rfl (Kp.refl _)
 rintro vs w187 k187 ⟨e188, e189, -⟩
 replace k187 : Kp [] w1 w187 := k187
 refine WO.haves (fr' := [(16, _), (18, _)]) ⟨⟨_, rfl, e188⟩, ⟨_, rfl, e189⟩, trivial⟩ ?_
 refine WO.on rfl rfl rfl ?_
 refine WO.v (R.move rfl) rfl ?_
 refine WO.nil ?_
 exact WX.stepDone rfl (vb hb75) (Kp.refl _)
 rintro vs w190 k190 ⟨e191, -⟩
 replace k190 : Kp [] w1 w190 := k190
 refine WO.haves (fr' := [(19, _), (0, _)]) ⟨⟨_, rfl, e191⟩, ⟨_, rfl, rfl⟩, trivial⟩ ?_
 refine WO.off rfl rfl rfl rfl ?_
 refine WO.nil ?_
 exact WX.stepDone rfl rfl (Kp.refl _)
 rintro vs w192 k192 ⟨e193, -⟩
 replace k192 : Kp [] w1 w192 := k192
 refine WO.haves (fr' := [(19, _), (3, _)]) ⟨⟨_, rfl, e193⟩, ⟨_, rfl, rfl⟩, trivial⟩ ?_
 refine WO.off rfl rfl rfl rfl ?_
 refine WO.nil ?_
 exact WX.stepDone rfl rfl (Kp.refl _)
 rintro vs w194 k194 ⟨e195, -⟩
 replace k194 : Kp [] w1 w194 := k194
 refine WO.haves (fr' := [(19, _)]) ⟨⟨_, rfl, e195⟩, trivial⟩ ?_
 refine WO.off rfl rfl rfl rfl ?_
 refine WO.nil ?_
 exact WX.stepDone rfl rfl (Kp.refl _)
 rintro vs w196 k196 ⟨e197, -⟩
 replace k196 : Kp [] w1 w196 := k196
 refine WO.haves (fr' := [(19, _)]) ⟨⟨_, rfl, e197⟩, trivial⟩ ?_
 refine WO.off rfl rfl rfl rfl ?_
 refine WO.nil ?_
 exact WX.stepDone rfl rfl (Kp.refl _)
 rintro vs w198 k198 ⟨e199, -⟩
 replace k198 : Kp [] w1 w198 := k198
 refine WO.haves (fr' := [(19, _), (0, _)]) ⟨⟨_, rfl, e199⟩, ⟨_, rfl, rfl⟩, trivial⟩ ?_
 refine WO.off rfl rfl rfl rfl ?_
 refine WO.nil ?_
 exact WX.stepDone rfl rfl (Kp.refl _)
 rintro vs w200 k200 ⟨e201, -⟩
 replace k200 : Kp [] w1 w200 := k200
 refine WO.haves (fr' := [(19, _), (3, _)]) ⟨⟨_, rfl, e201⟩, ⟨_, rfl, rfl⟩, trivial⟩ ?_
 refine WO.off rfl rfl rfl rfl ?_
 refine WO.nil ?_
 exact WX.stepDone rfl rfl (Kp.refl _)
 rintro vs w202 k202 ⟨e203, -⟩
 replace k202 : Kp [] w1 w202 := k202
 refine WO.haves (fr' := [(19, _)]) ⟨⟨_, rfl, e203⟩, trivial⟩ ?_
 refine WO.off rfl rfl rfl rfl ?_
 refine WO.nil ?_
 exact WX.stepDone rfl rfl (Kp.refl _)
 rintro vs w204 k204 ⟨e205, -⟩
 replace k204 : Kp [] w1 w204 := k204
 refine WO.haves (fr' := [(19, _)]) ⟨⟨_, rfl, e205⟩, trivial⟩ ?_
 refine WO.off rfl rfl rfl rfl ?_
 refine WO.nil ?_
 exact WX.stepDone rfl rfl (Kp.refl _)
 rintro vs w206 k206 ⟨e207, -⟩
 replace k206 : Kp [] w1 w206 := k206
 refine WO.haves (fr' := [(19, _)]) ⟨⟨_, rfl, e207⟩, trivial⟩ ?_
 refine WO.off rfl rfl rfl rfl ?_
 refine WO.nil ?_
 exact WX.stepDone rfl rfl (Kp.refl _)
 rintro vs w208 k208 ⟨e209, -⟩
 replace k208 : Kp [] w1 w208 := k208
 refine WO.haves (fr' := [(19, _)]) ⟨⟨_, rfl, e209⟩, trivial⟩ ?_
 refine WO.off rfl rfl rfl rfl ?_
 refine WO.nil ?_
 exact WX.stepDone rfl rfl (Kp.refl _)
 rintro vs w210 k210 ⟨e211, e212, -⟩
 replace k210 : Kp [] w1 w210 := k210
 refine WO.haves (fr' := [(16, _), (19, _)]) ⟨⟨_, rfl, e211⟩, ⟨_, rfl, e212⟩, trivial⟩ ?_
 refine WO.on rfl rfl rfl ?_
 refine WO.v (R.pickF rfl rfl rfl) rfl ?_
 refine WO.nil ?_
 exact WX.stepDone rfl rfl (Kp.refl _)
 rintro vs w213 k213 ⟨e214, e215, -⟩
 replace k213 : Kp [] w1 w213 := k213
 refine WO.haves (fr' := [(16, _), (30, _)]) ⟨⟨_, rfl, e214⟩, ⟨_, rfl, e215⟩, trivial⟩ ?_
 refine WO.v (R.pickF rfl rfl rfl) rfl ?_
 refine WO.nil ?_
 exact WX.stepDone rfl rfl (Kp.refl _)
 rintro vs w216 k216 ⟨-, -, -, -, -, -, -, -, -, -, -, -, -, -, -, -, -, -, -, -, -, e238, -⟩
 replace k216 : Kp [] w1 w216 := k216
 have z216 := k216.size
 have b216 := old_kp0 b1 k216
 have y216 := b216.size
 refine WO.haves (fr' := [(31, _), (0, _), (2, _), (3, _), (7, _)]) ⟨⟨_, rfl, e238⟩, ⟨_, rfl, rfl⟩, ⟨_, rfl, rfl⟩, ⟨_, rfl, rfl⟩, ⟨_, rfl, rfl⟩, trivial⟩ ?_
 refine WO.nil ?_
 refine WX.sel [0, 2, 3, 7, 31] rfl ?_
 refine WX.next ?_
 refine WC.condF rfl ?_
 refine WC.skip ?_
 refine WX.blkNormal ?_
 refine WX.next ?_
 refine WC.region ?_
 refine WO.v (R.move rfl) rfl ?_
 refine WO.v (R.inc rfl (by omega)) rfl ?_
 refine WO.v (R.assign rfl) rfl ?_
 refine WO.nil ?_
 refine WX.sel [0, 2, 3, 7, 31] rfl ?_
 try have hz : lastK id 0 (l.take k) = 0 := (by rw [show k = 0 by omega]; rfl)
 try have hz := lastK_at (key := id) (a := 0) (l := l) (k := k) (by omega) ‹l[k - 1]? = some _›
 try dsimp only [id] at hz
 exact WX.loopNextK [0, 2] (k + 1) rfl ⟨⟨_, rfl, rfl⟩, trivial⟩ ⟨((Kp.refl _).step k1 (by simp)).step k216 (by simp), by omega, rising_next (key := id) hr hx3 (by show _ < _; dsimp only [id]; omega) (by show _ ≤ _; dsimp only [id]; omega)⟩ (by show (l.length - (k + 1)) < (l.length - k); omega)
 have p2 : ¬ (((k : Nat) : Int) < ((l.length : Nat) : Int)) := of_decide_eq_false q2
 refine WC.exit ?_
 refine WX.thenExit ?_
 refine WX.loopExit ?_
 refine WX.blkHit ?_
 refine WX.next ?_
 refine WC.seq ?_
 refine WC.region ?_
 refine WO.v (R.move rfl) rfl ?_
 refine WO.v (R.len rfl Try.underlying22) rfl ?_
 refine WO.v (R.geq rfl rfl) rfl ?_
 refine WO.v (R.move rfl) rfl ?_
 refine WO.cutP 4 [(39, (.bool ((decide ((1 : Int) ≤ ((l.length : Nat) : Int))) && (decide (((l.length : Nat) : Int) ≤ (8 : Int))))))] (fun w' => w1 = w') ?_ ?_
 rcases Bool.eq_false_or_eq_true (decide ((1 : Int) ≤ ((l.length : Nat) : Int))) with hb239 | hb239
 have phb239 : (1 : Int) ≤ ((l.length : Nat) : Int) := of_decide_eq_true hb239
 refine WO.on rfl rfl hb239 ?_
 refine WO.v (R.move rfl) rfl ?_
 refine WO.on rfl rfl hb239 ?_
 refine WO.v (R.len rfl Try.underlying22) rfl ?_
 refine WO.on rfl rfl hb239 ?_
 refine WO.v (R.leq rfl rfl) rfl ?_
 refine WO.v (R.pickT rfl hb239 rfl) rfl ?_
 refine WO.nil ?_
 exact WX.cutDoneP 4 rfl rfl ⟨⟨_, rfl, vb (band_on hb239)⟩, trivial⟩ (rfl)
 have phb239 : ¬ ((1 : Int) ≤ ((l.length : Nat) : Int)) := of_decide_eq_false hb239
 refine WO.off rfl rfl hb239 rfl ?_
 refine WO.off rfl rfl hb239 rfl ?_
 refine WO.off rfl rfl hb239 rfl ?_
 refine WO.v (R.pickF rfl hb239 rfl) rfl ?_
 refine WO.nil ?_
 exact WX.cutDoneP 4 rfl rfl ⟨⟨_, rfl, vb (band_off hb239)⟩, trivial⟩ (rfl)
 rintro _ rfl
 refine WO.v (R.assign rfl) rfl ?_
 refine WO.nil ?_
 refine WX.sel [0, 2, 3, 7] rfl ?_
 refine WX.next ?_
 refine WC.ret ?_
 have e0 : ((decide ((1 : Int) ≤ ((l.length : Nat) : Int))) && (decide (((l.length : Nat) : Int) ≤ (8 : Int)))) = (rowF l) := by first | exact rowF_done hr (by omega) | exact rowF_stop ‹l[k]? = some _› (by have := lastK_pos hr; omega) | exact rowF_stop ‹l[k]? = some _› (by rw [lastK_at (key := id) (by omega) ‹l[k - 1]? = some _›]; dsimp only [id]; omega)
 refine WX.ret1 Try.results47 rfl ?_
 exact ⟨by rw [e0], Kp.of_below b1⟩

set_option maxRecDepth 100000 in
set_option maxHeartbeats 400000 in
theorem row_s {w : World} {a_l : Option Addr} {c_l : Nat} {l : List Int} (h_l : Sl false 0 w.heap.size w (.slice a_l l.length c_l) l) :
    Ret Try.prog 44 [.slice a_l l.length c_l].toArray w fun r w' => r = .bool (rowF l) ∧ Kp [] w w' := by
 have len_l : (l).length * 8 ≤ 140737488355328 := h_l.lenle
 refine Ret.enter Try.func44 rfl Try.ntmps44 rfl rfl ?_
 refine WC.sel [0] rfl ?_
 refine WC.seq ?_
 refine WC.region ?_
 refine WO.v (R.assign rfl) rfl ?_
 refine WO.nil ?_
 refine WX.sel [0, 2] rfl ?_
 refine WX.next ?_
 refine WC.seq ?_
 refine WC.seq ?_
 refine WC.region ?_
 refine WO.v (R.move rfl) rfl ?_
 refine WO.v (R.len rfl Try.underlying22) rfl ?_
 refine WO.v (R.lss rfl rfl) rfl ?_
 refine WO.v (R.move rfl) rfl ?_
 refine WO.cutP 4 [(13, (.bool ((decide (((l.length : Nat) : Int) < (1 : Int))) || (decide ((8 : Int) < ((l.length : Nat) : Int))))))] (fun w' => w = w') ?_ ?_
 rcases Bool.eq_false_or_eq_true (decide (((l.length : Nat) : Int) < (1 : Int))) with hb1 | hb1
 have phb1 : ((l.length : Nat) : Int) < (1 : Int) := of_decide_eq_true hb1
 refine WO.off rfl rfl hb1 rfl ?_
 refine WO.off rfl rfl hb1 rfl ?_
 refine WO.off rfl rfl hb1 rfl ?_
 refine WO.v (R.pickT rfl hb1 rfl) rfl ?_
 refine WO.nil ?_
 exact WX.cutDoneP 4 rfl rfl ⟨⟨_, rfl, vb (bor_on hb1)⟩, trivial⟩ (rfl)
 have phb1 : ¬ (((l.length : Nat) : Int) < (1 : Int)) := of_decide_eq_false hb1
 refine WO.on rfl rfl hb1 ?_
 refine WO.v (R.move rfl) rfl ?_
 refine WO.on rfl rfl hb1 ?_
 refine WO.v (R.len rfl Try.underlying22) rfl ?_
 refine WO.on rfl rfl hb1 ?_
 refine WO.v (R.gtr rfl rfl) rfl ?_
 refine WO.v (R.pickF rfl hb1 rfl) rfl ?_
 refine WO.nil ?_
 exact WX.cutDoneP 4 rfl rfl ⟨⟨_, rfl, vb (bor_off hb1)⟩, trivial⟩ (rfl)
 rintro _ rfl
 refine WO.nil ?_
 refine WX.sel [0, 2, 13] rfl ?_
 refine WX.next ?_
 refine WC.cond rfl (fun q2 => ?_) (fun q2 => ?_)
 have p2 : (((l.length : Nat) : Int) < (1 : Int)) ∨ ((8 : Int) < ((l.length : Nat) : Int)) := Or.imp (fun h => of_decide_eq_true h) (fun h => of_decide_eq_true h) (bor_t q2)
 refine WC.seq ?_
 refine WC.region ?_
 refine WO.v (R.assign rfl) rfl ?_
 refine WO.nil ?_
 refine WX.sel [0, 2, 13] rfl ?_
 refine WX.next ?_
 refine WC.ret ?_
 refine WX.thenRet ?_
 have e0 : false = (rowF l) := by first | exact rowF_done2 hr (by omega) (by omega) | exact rowF_len (by omega) | exact rowF_stop ‹l[k]? = some _› (by omega)
 refine WX.ret1 Try.results44 rfl ?_
 exact ⟨by rw [e0], Kp.refl _⟩
 have p2 : (¬ (((l.length : Nat) : Int) < (1 : Int))) ∧ (¬ ((8 : Int) < ((l.length : Nat) : Int))) := ⟨of_decide_eq_false (bor_f q2).1, of_decide_eq_false (bor_f q2).2⟩
 refine WC.skip ?_
 refine WX.next ?_
 refine WC.seq ?_
 refine WC.region ?_
 refine WO.v (R.assign rfl) rfl ?_
 refine WO.nil ?_
 refine WX.sel [0, 2, 3, 13] rfl ?_
 refine WX.next ?_
 refine WC.seq ?_
 refine WC.seq ?_
 refine WC.region ?_
 refine WO.v (R.move rfl) rfl ?_
 refine WO.v (R.len rfl Try.underlying22) rfl ?_
 refine WO.v (R.move rfl) rfl ?_
 refine WO.nil ?_
 refine WX.sel [0, 2, 3, 13, 14, 15, 16] rfl ?_
 refine WX.next ?_
 refine WC.block ?_
 refine WC.loopK [0, 2, 13, 14, 15] rfl (fun zz : Nat => [(16, (.int .i64 (((zz) : Nat) : Int))), (3, (.int .i64 (lastK id 0 (l.take (zz)))))]) (fun (zz : Nat) (w' : World) => (Kp [] w w') ∧ ((zz) ≤ l.length) ∧ (risingF id 64 0 (l.take (zz)) = true)) (fun zz => l.length - (zz)) (0) ?_ ?_ ?_
 exact ⟨⟨_, rfl, rfl⟩, ⟨_, rfl, rfl⟩, trivial⟩
 exact ⟨Kp.refl _, Nat.zero_le _, rfl⟩
 rintro k w3 ⟨k3, hk, hr⟩
 try dsimp only at hk hr
 have z3 := k3.size
 have b3 := old_kp0 (Below.refl w.heap.size w) k3
 have y3 := b3.size
 refine (?_ : WC _ _ _ _ ([(16, (.int .i64 ((k : Nat) : Int))), (3, (.int .i64 (lastK id 0 (l.take k))))] ++ _) w3)
 refine WC.seq ?_
 refine WC.region ?_
 refine WO.v (R.lss rfl rfl) rfl ?_
 refine WO.nil ?_
 refine WX.sel [0, 2, 3, 13, 14, 15, 16, 17] rfl ?_
 refine WX.next ?_
 refine WC.seq ?_
 refine WC.cond rfl (fun q4 => ?_) (fun q4 => ?_)
 have p4 : ((k : Nat) : Int) < ((l.length : Nat) : Int) := of_decide_eq_true q4
 refine WC.skip ?_
 refine WX.next ?_
 refine WC.seq ?_
 refine WC.block ?_
 refine WC.seq ?_
 refine WC.region ?_
 obtain ⟨x5, hx5⟩ := get_ex (xs := l) (i := k) (by omega)
 obtain ⟨A6, cs7, hA6, loA6, hiA6, ccA6, r8⟩ := (sl_old h_l b3).at_ hx5
 obtain ⟨rfl, i9⟩ := r8
 refine WO.v (R.indexAddrN rfl rfl Try.underlying22 sz3 hA6 (by omega)) rfl ?_
 refine WO.v (R.load1 rfl Try.underlying3 rfl (CellsAt.one0 ccA6)) rfl ?_
 refine WO.v (R.assign rfl) rfl ?_
 refine WO.nil ?_
 refine WX.sel [0, 2, 3, 5, 13, 14, 15, 16, 17] rfl ?_
 refine WX.next ?_
 refine WC.seq ?_
 refine WC.seq ?_
 refine WC.region ?_
 refine WO.v (R.move rfl) rfl ?_
 refine WO.v (R.move rfl) rfl ?_
 refine WO.v (R.leq rfl rfl) rfl ?_
 refine WO.v (R.move rfl) rfl ?_
 refine WO.cutP 3 [(26, (.bool ((decide (x5 ≤ (lastK id 0 (l.take k)))) || (decide ((64 : Int) < x5)))))] (fun w' => w3 = w') ?_ ?_
 rcases Bool.eq_false_or_eq_true (decide (x5 ≤ (lastK id 0 (l.take k)))) with hb10 | hb10
 have phb10 : x5 ≤ (lastK id 0 (l.take k)) := of_decide_eq_true hb10
 refine WO.off rfl rfl hb10 rfl ?_
 refine WO.off rfl rfl hb10 rfl ?_
 refine WO.v (R.pickT rfl hb10 rfl) rfl ?_
 refine WO.nil ?_
 exact WX.cutDoneP 3 rfl rfl ⟨⟨_, rfl, vb (bor_on hb10)⟩, trivial⟩ (rfl)
 have phb10 : ¬ (x5 ≤ (lastK id 0 (l.take k))) := of_decide_eq_false hb10
 refine WO.on rfl rfl hb10 ?_
 refine WO.v (R.move rfl) rfl ?_
 refine WO.on rfl rfl hb10 ?_
 refine WO.v (R.gtr rfl rfl) rfl ?_
 refine WO.v (R.pickF rfl hb10 rfl) rfl ?_
 refine WO.nil ?_
 exact WX.cutDoneP 3 rfl rfl ⟨⟨_, rfl, vb (bor_off hb10)⟩, trivial⟩ (rfl)
 rintro _ rfl
 refine WO.nil ?_
 refine WX.sel [0, 2, 3, 5, 13, 14, 15, 16, 17, 26] rfl ?_
 refine WX.next ?_
 refine WC.cond rfl (fun q11 => ?_) (fun q11 => ?_)
 have p11 : (x5 ≤ (lastK id 0 (l.take k))) ∨ ((64 : Int) < x5) := Or.imp (fun h => of_decide_eq_true h) (fun h => of_decide_eq_true h) (bor_t q11)
 refine WC.seq ?_
 refine WC.region ?_
 refine WO.v (R.assign rfl) rfl ?_
 refine WO.nil ?_
 refine WX.sel [0, 2, 3, 5, 13, 14, 15, 16, 17, 26] rfl ?_
 refine WX.next ?_
 refine WC.ret ?_
 refine WX.thenRet ?_
 refine WX.blkRet ?_
 refine WX.thenRet ?_
 refine WX.loopRet ?_
 refine WX.blkRet ?_
 refine WX.thenRet ?_
 have e0 : false = (rowF l) := by first | exact rowF_done2 hr (by omega) (by omega) | exact rowF_len (by omega) | exact rowF_stop ‹l[k]? = some _› (by omega)
 refine WX.ret1 Try.results44 rfl ?_
 exact ⟨by rw [e0], Kp.of_below b3⟩
 have p11 : (¬ (x5 ≤ (lastK id 0 (l.take k)))) ∧ (¬ ((64 : Int) < x5)) := ⟨of_decide_eq_false (bor_f q11).1, of_decide_eq_false (bor_f q11).2⟩
 refine WC.skip ?_
 refine WX.next ?_
 refine WC.region ?_
 refine WO.v (R.move rfl) rfl ?_
 refine WO.v (R.assign rfl) rfl ?_
 refine WO.nil ?_
 refine WX.sel [0, 2, 3, 5, 13, 14, 15, 16, 17, 26] rfl ?_
 refine WX.blkNormal ?_
 refine WX.next ?_
 refine WC.region ?_
 refine WO.v (R.inc rfl (by omega)) rfl ?_
 refine WO.v (R.move rfl) rfl ?_
 refine WO.nil ?_
 refine WX.sel [0, 2, 3, 5, 13, 14, 15, 16, 17, 26] rfl ?_
 exact WX.loopNextK [0, 2, 13, 14, 15] (k + 1) rfl ⟨⟨_, rfl, rfl⟩, ⟨_, rfl, vi (lastK_snoc (key := id) hx5)⟩, trivial⟩ ⟨(Kp.refl _).step k3 (by simp), by omega, rising_next (key := id) hr hx5 (by dsimp only [id]; omega) (by dsimp only [id]; omega)⟩ (by show (l.length - (k + 1)) < (l.length - k); omega)
 have p4 : ¬ (((k : Nat) : Int) < ((l.length : Nat) : Int)) := of_decide_eq_false q4
 refine WC.exit ?_
 refine WX.thenExit ?_
 refine WX.loopExit ?_
 refine WX.blkHit ?_
 refine WX.next ?_
 refine WC.seq ?_
 refine WC.region ?_
 refine WO.v (R.assign rfl) rfl ?_
 refine WO.nil ?_
 refine WX.sel [0, 2, 3, 13, 14, 15, 16, 17] rfl ?_
 refine WX.next ?_
 refine WC.ret ?_
 have e0 : true = (rowF l) := by first | exact rowF_done2 hr (by omega) (by omega) | exact rowF_len (by omega) | exact rowF_stop ‹l[k]? = some _› (by omega)
 refine WX.ret1 Try.results44 rfl ?_
 exact ⟨by rw [e0], Kp.of_below b3⟩


end Go.Proofs.Ytfmlgeeogbhppaa
