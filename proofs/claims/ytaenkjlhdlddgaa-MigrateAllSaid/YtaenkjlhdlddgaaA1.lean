/- Contracts of functions, walked operation by operation. -/
import Derived.Test.YtaenkjlhdlddgaaTy
import Derived.Test.YtaenkjlhdlddgaaSet
namespace Go.Proofs.Ytaenkjlhdlddgaa
open Go.RowKit

def startsF (a b : Int) : Int := if (1 ≤ a ∧ a ≤ 3) ∧ (1 ≤ b ∧ b ≤ 3) then (if a < b then 32 else 0) else 1
def knownF (n : Int) : Bool := decide (1 ≤ n) && decide (n ≤ 3)
def idxF (p : Int → Bool) (l : List Int) : Int := match l.findIdx? p with | some i => (i : Int) | none => -1
theorem idx_step {p : Int → Bool} {l : List Int} {k : Nat} {x : Int} (h : ∀ j y, j < k → l[j]? = some y → p y = false) (hx : l[k]? = some x) (hp : p x = false) : ∀ j y, j < k + 1 → l[j]? = some y → p y = false := by
  intro j y hj hy
  by_cases hjk : j = k
  · subst hjk; rw [hx] at hy; cases hy; exact hp
  · exact h j y (by omega) hy
theorem idxF_none {p : Int → Bool} {l : List Int} {k : Nat} (h : ∀ j y, j < k → l[j]? = some y → p y = false) (hk : l.length ≤ k) : idxF p l = -1 := by
  have : l.findIdx? p = none := by
    rw [List.findIdx?_eq_none_iff]
    intro x hx
    obtain ⟨j, hj, rfl⟩ := List.getElem_of_mem hx
    exact h j _ (by omega) (List.getElem?_eq_getElem hj)
  simp [idxF, this]
theorem idxF_found {p : Int → Bool} {l : List Int} {k : Nat} {x : Int} (h : ∀ j y, j < k → l[j]? = some y → p y = false) (hx : l[k]? = some x) (hp : p x = true) : idxF p l = k := by
  have : l.findIdx? p = some k := by
    obtain ⟨hk, rfl⟩ := List.getElem?_eq_some_iff.1 hx
    rw [List.findIdx?_eq_some_iff_getElem]
    exact ⟨hk, hp, fun j hj => by rw [h j _ hj (List.getElem?_eq_getElem (by omega))]; simp⟩
  simp [idxF, this]
theorem contains_eq (l : List Int) : decide (0 ≤ idxF (fun n => !knownF n) l) = !l.all knownF := by
  unfold idxF
  cases h : l.findIdx? (fun n => !knownF n) with
  | none => rw [List.findIdx?_eq_none_iff] at h; simp at h ⊢; exact h
  | some i =>
    rw [List.findIdx?_eq_some_iff_getElem] at h
    obtain ⟨hi, hp, _⟩ := h
    simp at hp ⊢
    exact ⟨l[i], List.getElem_mem hi, hp⟩
def minTo (l : List Int) (k : Nat) : Int := ((l.take k).tail).foldl min (l.headD 0)
def minF (l : List Int) : Int := l.tail.foldl min (l.headD 0)
def agreeF (l : List Int) : Int := if decide (l.length = 0) || !l.all knownF then 0 else minF l
def readyF (v : Int) (l : List Int) : Bool := (decide (1 ≤ v) && decide (v < 3)) && decide (v < agreeF l)
theorem take_succ_get {α : Type} {l : List α} {k : Nat} {x : α} (hx : l[k]? = some x) : l.take (k + 1) = l.take k ++ [x] := by
  rw [List.take_add_one, hx]; rfl
theorem known_step {l : List Int} {k : Nat} {x : Int} (h : ∀ j y, j < k → l[j]? = some y → knownF y = true) (hx : l[k]? = some x) (hp : knownF x = true) : ∀ j y, j < k + 1 → l[j]? = some y → knownF y = true := by
  intro j y hj hy
  by_cases hjk : j = k
  · subst hjk; rw [hx] at hy; cases hy; exact hp
  · exact h j y (by omega) hy
theorem foldl_step {l : List Int} {k : Nat} {x z : Int} (hx : l[k]? = some x) : min ((l.take k).foldl min z) x = (l.take (k + 1)).foldl min z := by
  rw [take_succ_get hx, List.foldl_append]; rfl
theorem minTo_step {l : List Int} {k : Nat} {x : Int} (hk : 1 ≤ k) (hx : l[k]? = some x) : min (minTo l k) x = minTo l (k + 1) := by
  unfold minTo
  rw [take_succ_get hx, List.tail_append_of_ne_nil, List.foldl_append]
  · rfl
  · intro h
    have h3 : (l.take k).length = 0 := by rw [h]; rfl
    have h2 := get_lt hx
    rw [List.length_take] at h3
    omega
theorem minTo_one {l : List Int} {x : Int} (hx : l[0]? = some x) : x = minTo l 1 := by
  cases l with
  | nil => simp at hx
  | cons a r => simp at hx; simp [minTo, hx]
theorem minTo_all {l : List Int} {k : Nat} (hk : l.length ≤ k) : minTo l k = minF l := by
  unfold minTo minF; rw [List.take_of_length_le hk]
theorem agreeF_q1 {l : List Int} (h : (decide (((l.length : Nat) : Int) = 0) || !l.all knownF) = true) : 0 = agreeF l := by
  have e : decide (((l.length : Nat) : Int) = 0) = decide (l.length = 0) := by simp
  rw [e] at h; unfold agreeF; rw [h]; rfl
theorem agreeF_q2 {l : List Int} (h : (decide (((l.length : Nat) : Int) = 0) || !l.all knownF) = false) : minF l = agreeF l := by
  have e : decide (((l.length : Nat) : Int) = 0) = decide (l.length = 0) := by simp
  rw [e] at h; unfold agreeF; rw [h]; rfl
theorem agreeF_nil {l : List Int} (h : ((l.length : Nat) : Int) = 0) : agreeF l = 0 := by
  have : l = [] := List.eq_nil_of_length_eq_zero (by omega)
  simp [agreeF, this]
theorem agreeF_bad {l : List Int} {k : Nat} {x : Int} (hx : l[k]? = some x) (h : knownF x = false) : agreeF l = 0 := by
  have : l.all knownF = false := by
    rw [List.all_eq_false]
    exact ⟨x, List.mem_of_getElem? hx, by simp [h]⟩
  simp [agreeF, this]
theorem foldl_min_le (l : List Int) : ∀ z : Int, l.foldl min z ≤ z := by
  induction l with
  | nil => intro z; exact Int.le_refl _
  | cons a l ih => intro z; exact Int.le_trans (ih _) (by omega)
theorem agreeF_ok {l : List Int} {k : Nat} (h : ∀ j y, j < k → l[j]? = some y → knownF y = true) (hk : l.length ≤ k) (h0 : ¬ ((l.length : Nat) : Int) = 0) : agreeF l = (l.take k).foldl min 3 := by
  have hall : l.all knownF = true := by
    rw [List.all_eq_true]
    intro x hx
    obtain ⟨j, hj, rfl⟩ := List.getElem_of_mem hx
    exact h j _ (by omega) (List.getElem?_eq_getElem hj)
  rw [List.take_of_length_le hk]
  cases l with
  | nil => simp at h0
  | cons a r =>
    have ha : knownF a = true := h 0 a (by simp at hk; omega) rfl
    simp only [knownF, Bool.and_eq_true, decide_eq_true_eq] at ha
    have e : min 3 a = a := by omega
    simp [agreeF, hall, minF, e]

theorem sz3 : (Try.prog.info? 3).map (·.size) = some 1 := by kernel_rfl
theorem fa51_0 {n : Nat} {fr : Fr} {w : World} {ty : TypeId} {x : Operand} {g k : Nat} (hx : ev fr x = some (.pointer (some ⟨g, k, none⟩))) : Runs Try.prog n fr w (.fieldAddr 51 x 0) ty (.pointer (some ⟨g, k + 0, none⟩)) w := R.fieldAddrB hx Try.underlying51 rfl rfl sz3
theorem zr3 : ((Try.prog.info? 3).bind (·.zero)).map Value.cells = some ([.int .i64 0] : List Value).toArray := by kernel_rfl

set_option maxRecDepth 100000 in
set_option maxHeartbeats 400000 in
theorem within_s {w : World} (n : Int) (a : Int) (b : Int)  :
    Ret Try.prog 35 [.int .i64 n, .int .i64 a, .int .i64 b].toArray w fun r w' => r = .bool ((decide (a ≤ n)) && (decide (n ≤ b))) ∧ w = w' := by
 refine Ret.enter Try.func35 rfl Try.ntmps35 rfl rfl ?_
 refine WC.sel [0, 1, 2] rfl ?_
 refine WC.seq ?_
 refine WC.region ?_
 refine WO.v (R.assign rfl) rfl ?_
 refine WO.nil ?_
 refine WX.sel [0, 1, 2, 6] rfl ?_
 refine WX.next ?_
 refine WC.seq ?_
 refine WC.region ?_
 refine WO.v (R.move rfl) rfl ?_
 refine WO.v (R.move rfl) rfl ?_
 refine WO.v (R.leq rfl rfl) rfl ?_
 refine WO.v (R.move rfl) rfl ?_
 refine WO.cutP 4 [(14, (.bool ((decide (a ≤ n)) && (decide (n ≤ b)))))] (fun w' => w = w') ?_ ?_
 rcases Bool.eq_false_or_eq_true (decide (a ≤ n)) with hb1 | hb1
 have phb1 : a ≤ n := of_decide_eq_true hb1
 refine WO.on rfl rfl hb1 ?_
 refine WO.v (R.move rfl) rfl ?_
 refine WO.on rfl rfl hb1 ?_
 refine WO.v (R.move rfl) rfl ?_
 refine WO.on rfl rfl hb1 ?_
 refine WO.v (R.leq rfl rfl) rfl ?_
 refine WO.v (R.pickT rfl hb1 rfl) rfl ?_
 refine WO.nil ?_
 exact WX.cutDoneP 4 rfl rfl ⟨⟨_, rfl, vb (band_on hb1)⟩, trivial⟩ (rfl)
 have phb1 : ¬ (a ≤ n) := of_decide_eq_false hb1
 refine WO.off rfl rfl hb1 rfl ?_
 refine WO.off rfl rfl hb1 rfl ?_
 refine WO.off rfl rfl hb1 rfl ?_
 refine WO.v (R.pickF rfl hb1 rfl) rfl ?_
 refine WO.nil ?_
 exact WX.cutDoneP 4 rfl rfl ⟨⟨_, rfl, vb (band_off hb1)⟩, trivial⟩ (rfl)
 rintro _ rfl
 refine WO.v (R.assign rfl) rfl ?_
 refine WO.nil ?_
 refine WX.sel [0, 1, 2, 6] rfl ?_
 refine WX.next ?_
 refine WC.ret ?_
 have e0 : ((decide (a ≤ n)) && (decide (n ≤ b))) = ((decide (a ≤ n)) && (decide (n ≤ b))) := by rfl
 refine WX.ret1 Try.results35 rfl ?_
 exact ⟨by rw [e0], rfl⟩

set_option maxRecDepth 100000 in
set_option maxHeartbeats 400000 in
theorem there_s {w : World} (n : Int)  :
    Ret Try.prog 23 [.int .i64 n].toArray w fun r w' => r = .bool ((decide (1 ≤ n)) && (decide (n ≤ 3))) ∧ w = w' := by
 refine Ret.enter Try.func23 rfl Try.ntmps23 rfl rfl ?_
 refine WC.sel [0] rfl ?_
 refine WC.seq ?_
 refine WC.region ?_
 refine WO.v (R.assign rfl) rfl ?_
 refine WO.nil ?_
 refine WX.sel [0, 2] rfl ?_
 refine WX.next ?_
 refine WC.seq ?_
 refine WC.region ?_
 refine WO.v (R.move rfl) rfl ?_
 refine WO.v (R.geq rfl rfl) rfl ?_
 refine WO.v (R.move rfl) rfl ?_
 refine WO.cutP 3 [(8, (.bool ((decide ((1 : Int) ≤ n)) && (decide (n ≤ (3 : Int))))))] (fun w' => w = w') ?_ ?_
 rcases Bool.eq_false_or_eq_true (decide ((1 : Int) ≤ n)) with hb1 | hb1
 have phb1 : (1 : Int) ≤ n := of_decide_eq_true hb1
 refine WO.on rfl rfl hb1 ?_
 refine WO.v (R.move rfl) rfl ?_
 refine WO.on rfl rfl hb1 ?_
 refine WO.v (R.leq rfl rfl) rfl ?_
 refine WO.v (R.pickT rfl hb1 rfl) rfl ?_
 refine WO.nil ?_
 exact WX.cutDoneP 3 rfl rfl ⟨⟨_, rfl, vb (band_on hb1)⟩, trivial⟩ (rfl)
 have phb1 : ¬ ((1 : Int) ≤ n) := of_decide_eq_false hb1
 refine WO.off rfl rfl hb1 rfl ?_
 refine WO.off rfl rfl hb1 rfl ?_
 refine WO.v (R.pickF rfl hb1 rfl) rfl ?_
 refine WO.nil ?_
 exact WX.cutDoneP 3 rfl rfl ⟨⟨_, rfl, vb (band_off hb1)⟩, trivial⟩ (rfl)
 rintro _ rfl
 refine WO.v (R.assign rfl) rfl ?_
 refine WO.nil ?_
 refine WX.sel [0, 2] rfl ?_
 refine WX.next ?_
 refine WC.ret ?_
 have e0 : ((decide ((1 : Int) ≤ n)) && (decide (n ≤ (3 : Int)))) = ((decide (1 ≤ n)) && (decide (n ≤ 3))) := by rfl
 refine WX.ret1 Try.results23 rfl ?_
 exact ⟨by rw [e0], rfl⟩

set_option maxRecDepth 100000 in
set_option maxHeartbeats 400000 in
theorem clientOf_s {w : World} {cs_x : List Value} {x : Sess} (h_x : Rp.rp false 0 w.heap.size w cs_x x) :
    Ret Try.prog 37 [.agg cs_x.toArray].toArray w fun r w' => r = .int .i64 (x.client) ∧ Kp [] w w' := by
 obtain ⟨rfl, i1, i2, i3, i4⟩ := Sess.el h_x
 refine Ret.enter Try.func37 rfl Try.ntmps37 rfl rfl ?_
 refine WC.sel [0] rfl ?_
 refine WC.seq ?_
 refine WC.region ?_
 refine WO.box rfl rfl rfl ?_
 intro w5 n5
 have z5 : w.heap.size < w5.heap.size := n5.lt
 have b5 := old_kp0 (Below.refl w.heap.size w) n5.kp
 have y5 : w.heap.size ≤ w5.heap.size := b5.size
 refine WO.v (R.assign rfl) rfl ?_
 refine WO.nil ?_
 refine WX.sel [0, 1, 2] rfl ?_
 refine WX.next ?_
 refine WC.seq ?_
 refine WC.region ?_
 refine WO.v (fa51_0 rfl) rfl ?_
 refine WO.v (R.loadB rfl n5.blk rfl Try.underlying3 rfl) rfl ?_
 refine WO.v (R.assign rfl) rfl ?_
 refine WO.nil ?_
 refine WX.sel [0, 1, 2] rfl ?_
 refine WX.next ?_
 refine WC.ret ?_
 have e0 : x.client = (x.client) := by rfl
 refine WX.ret1 Try.results37 rfl ?_
 exact ⟨by rw [e0], Kp.of_below b5⟩

set_option maxRecDepth 100000 in
set_option maxHeartbeats 400000 in
theorem starts_s {w : World} (a : Int) (b : Int)  :
    Ret Try.prog 10 [.int .i64 a, .int .i64 b].toArray w fun r w' => r = .int .i64 (startsF a b) ∧ w = w' := by
 refine Ret.enter Try.func10 rfl Try.ntmps10 rfl rfl ?_
 refine WC.sel [0, 1] rfl ?_
 refine WC.seq ?_
 refine WC.region ?_
 refine WO.v (R.assign rfl) rfl ?_
 refine WO.nil ?_
 refine WX.sel [0, 1, 4] rfl ?_
 refine WX.next ?_
 refine WC.seq ?_
 refine WC.block ?_
 refine WC.seq ?_
 refine WC.region ?_
 refine WO.v (R.move rfl) rfl ?_
 refine WO.c (E.call rfl rfl Try.func23 rfl rfl) (there_s (n := a) ) rfl ?_
 rintro _ _ ⟨rfl, rfl⟩
 refine WO.v (R.not rfl) rfl ?_
 refine WO.v (R.move rfl) rfl ?_
 refine WO.cutP 4 [(13, (.bool ((!((decide (1 ≤ (a))) && (decide ((a) ≤ 3)))) || (!((decide (1 ≤ (b))) && (decide ((b) ≤ 3)))))))] (fun w' => w = w') ?_ ?_
 rcases Bool.eq_false_or_eq_true (!((decide (1 ≤ (a))) && (decide ((a) ≤ 3)))) with hb1 | hb1
 have phb1 : (¬ (1 ≤ (a))) ∨ (¬ ((a) ≤ 3)) := Or.imp (fun h => of_decide_eq_false h) (fun h => of_decide_eq_false h) (band_f (bnot_t hb1))
 refine WO.off rfl rfl hb1 rfl ?_
 refine WO.off rfl rfl hb1 rfl ?_
 refine WO.off rfl rfl hb1 rfl ?_
 refine WO.v (R.pickT rfl hb1 rfl) rfl ?_
 refine WO.nil ?_
 exact WX.cutDoneP 4 rfl rfl ⟨⟨_, rfl, vb (bor_on hb1)⟩, trivial⟩ (rfl)
 have phb1 : (1 ≤ (a)) ∧ ((a) ≤ 3) := ⟨of_decide_eq_true (band_t (bnot_f hb1)).1, of_decide_eq_true (band_t (bnot_f hb1)).2⟩
 refine WO.on rfl rfl hb1 ?_
 refine WO.v (R.move rfl) rfl ?_
 refine WO.on rfl rfl hb1 ?_
 refine WO.c (E.call rfl rfl Try.func23 rfl rfl) (there_s (n := b) ) rfl ?_
 rintro _ _ ⟨rfl, rfl⟩
 refine WO.on rfl rfl hb1 ?_
 refine WO.v (R.not rfl) rfl ?_
 refine WO.v (R.pickF rfl hb1 rfl) rfl ?_
 refine WO.nil ?_
 exact WX.cutDoneP 4 rfl rfl ⟨⟨_, rfl, vb (bor_off hb1)⟩, trivial⟩ (rfl)
 rintro _ rfl
 refine WO.v (R.assign rfl) rfl ?_
 refine WO.nil ?_
 refine WX.sel [0, 1, 4, 5] rfl ?_
 refine WX.next ?_
 refine WC.cond rfl (fun q2 => ?_) (fun q2 => ?_)
 have p2 : ((¬ (1 ≤ (a))) ∨ (¬ ((a) ≤ 3))) ∨ ((¬ (1 ≤ (b))) ∨ (¬ ((b) ≤ 3))) := Or.imp (fun h => Or.imp (fun h => of_decide_eq_false h) (fun h => of_decide_eq_false h) (band_f (bnot_t h))) (fun h => Or.imp (fun h => of_decide_eq_false h) (fun h => of_decide_eq_false h) (band_f (bnot_t h))) (bor_t q2)
 refine WC.seq ?_
 refine WC.region ?_
 refine WO.v (R.assign rfl) rfl ?_
 refine WO.nil ?_
 refine WX.sel [0, 1, 4, 5] rfl ?_
 refine WX.next ?_
 refine WC.ret ?_
 refine WX.blkRet ?_
 refine WX.thenRet ?_
 have e0 : (1 : Int) = (startsF a b) := by unfold startsF; (repeat' split) <;> omega
 refine WX.ret1 Try.results10 rfl ?_
 exact ⟨by rw [e0], rfl⟩
 have p2 : ((1 ≤ (a)) ∧ ((a) ≤ 3)) ∧ ((1 ≤ (b)) ∧ ((b) ≤ 3)) := ⟨⟨of_decide_eq_true (band_t (bnot_f (bor_f q2).1)).1, of_decide_eq_true (band_t (bnot_f (bor_f q2).1)).2⟩, ⟨of_decide_eq_true (band_t (bnot_f (bor_f q2).2)).1, of_decide_eq_true (band_t (bnot_f (bor_f q2).2)).2⟩⟩
 refine WC.seq ?_
 refine WC.region ?_
 refine WO.v (R.move rfl) rfl ?_
 refine WO.v (R.move rfl) rfl ?_
 refine WO.v (R.lss rfl rfl) rfl ?_
 refine WO.v (R.assign rfl) rfl ?_
 refine WO.nil ?_
 refine WX.sel [0, 1, 4, 5, 14] rfl ?_
 refine WX.next ?_
 refine WC.cond rfl (fun q3 => ?_) (fun q3 => ?_)
 have p3 : a < b := of_decide_eq_true q3
 refine WC.seq ?_
 refine WC.region ?_
 refine WO.v (R.assign rfl) rfl ?_
 refine WO.nil ?_
 refine WX.sel [0, 1, 4, 5, 14] rfl ?_
 refine WX.next ?_
 refine WC.ret ?_
 refine WX.blkRet ?_
 refine WX.thenRet ?_
 have e0 : (32 : Int) = (startsF a b) := by unfold startsF; (repeat' split) <;> omega
 refine WX.ret1 Try.results10 rfl ?_
 exact ⟨by rw [e0], rfl⟩
 have p3 : ¬ (a < b) := of_decide_eq_false q3
 refine WC.skip ?_
 refine WX.blkNormal ?_
 refine WX.next ?_
 refine WC.seq ?_
 refine WC.region ?_
 refine WO.v (R.assign rfl) rfl ?_
 refine WO.nil ?_
 refine WX.sel [0, 1, 4, 5, 14] rfl ?_
 refine WX.next ?_
 refine WC.ret ?_
 have e0 : (0 : Int) = (startsF a b) := by unfold startsF; (repeat' split) <;> omega
 refine WX.ret1 Try.results10 rfl ?_
 exact ⟨by rw [e0], rfl⟩

set_option maxRecDepth 100000 in
set_option maxHeartbeats 400000 in
theorem agree1_s {w : World} (n : Int)  :
    Ret Try.prog 22 [.int .i64 n].toArray w fun r w' => r = .bool (!knownF n) ∧ w = w' := by
 refine Ret.enter Try.func22 rfl Try.ntmps22 rfl rfl ?_
 refine WC.sel [0] rfl ?_
 refine WC.seq ?_
 refine WC.region ?_
 refine WO.v (R.assign rfl) rfl ?_
 refine WO.nil ?_
 refine WX.sel [0, 2] rfl ?_
 refine WX.next ?_
 refine WC.seq ?_
 refine WC.region ?_
 refine WO.v (R.move rfl) rfl ?_
 refine WO.c (E.call rfl rfl Try.func23 rfl rfl) (there_s (n := n) ) rfl ?_
 rintro _ _ ⟨rfl, rfl⟩
 refine WO.v (R.not rfl) rfl ?_
 refine WO.v (R.assign rfl) rfl ?_
 refine WO.nil ?_
 refine WX.sel [0, 2] rfl ?_
 refine WX.next ?_
 refine WC.ret ?_
 have e0 : (!((decide (1 ≤ (n))) && (decide ((n) ≤ 3)))) = (!knownF n) := by simp [knownF]
 refine WX.ret1 Try.results22 rfl ?_
 exact ⟨by rw [e0], rfl⟩

set_option maxRecDepth 100000 in
set_option maxHeartbeats 400000 in
theorem indexFunc_s {w : World} {a_l : Option Addr} {c_l : Nat} {l : List Int} (h_l : Sl false 0 w.heap.size w (.slice a_l l.length c_l) l) :
    Ret Try.prog 34 [.slice a_l l.length c_l, .func (.func 22) #[] #[]].toArray w fun r w' => r = .int .i64 (idxF (fun n => !knownF n) l) ∧ Kp [] w w' := by
 have len_l : (l).length * 8 ≤ 140737488355328 := h_l.lenle
 refine Ret.enter Try.func34 rfl Try.ntmps34 rfl rfl ?_
 refine WC.sel [0, 1] rfl ?_
 refine WC.seq ?_
 refine WC.region ?_
 refine WO.v (R.assign rfl) rfl ?_
 refine WO.nil ?_
 refine WX.sel [0, 1, 4] rfl ?_
 refine WX.next ?_
 refine WC.seq ?_
 refine WC.seq ?_
 refine WC.region ?_
 refine WO.v (R.move rfl) rfl ?_
 refine WO.v (R.len rfl Try.underlying24) rfl ?_
 refine WO.v (R.move rfl) rfl ?_
 refine WO.nil ?_
 refine WX.sel [0, 1, 4, 7, 8] rfl ?_
 refine WX.next ?_
 refine WC.block ?_
 refine WC.loopK [0, 1, 4, 7] rfl (fun zz : Nat => [(8, (.int .i64 (((zz) : Nat) : Int)))]) (fun (zz : Nat) (w' : World) => (Kp [] w w') ∧ ((zz) ≤ l.length) ∧ (∀ j y, j < (zz) → l[j]? = some y → (!knownF y) = false)) (fun zz => l.length - (zz)) (0) ?_ ?_ ?_
 exact ⟨⟨_, rfl, rfl⟩, trivial⟩
 exact ⟨Kp.refl _, Nat.zero_le _, by intro j y h; omega⟩
 rintro k w1 ⟨k1, hk, hall⟩
 try dsimp only at hk hall
 have z1 : w.heap.size ≤ w1.heap.size := k1.size
 have b1 := old_kp0 (Below.refl w.heap.size w) k1
 have y1 : w.heap.size ≤ w1.heap.size := b1.size
 refine (?_ : WC _ _ _ _ ([(8, (.int .i64 ((k : Nat) : Int)))] ++ _) w1)
 refine WC.seq ?_
 refine WC.region ?_
 refine WO.v (R.lss rfl rfl) rfl ?_
 refine WO.nil ?_
 refine WX.sel [0, 1, 4, 7, 8, 9] rfl ?_
 refine WX.next ?_
 refine WC.seq ?_
 refine WC.cond rfl (fun q2 => ?_) (fun q2 => ?_)
 have p2 : ((k : Nat) : Int) < ((l.length : Nat) : Int) := of_decide_eq_true q2
 refine WC.skip ?_
 refine WX.next ?_
 refine WC.seq ?_
 refine WC.block ?_
 refine WC.seq ?_
 refine WC.region ?_
 refine WO.v (R.move rfl) rfl ?_
 refine WO.v (R.assign rfl) rfl ?_
 refine WO.nil ?_
 refine WX.sel [0, 1, 4, 5, 7, 8, 9] rfl ?_
 refine WX.next ?_
 refine WC.seq ?_
 refine WC.region ?_
 refine WO.v (R.move rfl) rfl ?_
 refine WO.v (R.move rfl) rfl ?_
 refine WO.v (R.move rfl) rfl ?_
 obtain ⟨x3, hx3⟩ := get_ex (xs := l) (i := k) (by omega)
 obtain ⟨A4, cs5, hA4, loA4, hiA4, ccA4, r6⟩ := (sl_old h_l b1).at_ hx3
 obtain ⟨rfl, i7⟩ := r6
 refine WO.v (R.indexAddrN rfl rfl Try.underlying24 sz3 hA4 (by omega)) rfl ?_
 refine WO.v (R.load1 rfl Try.underlying3 rfl (CellsAt.one0 ccA4)) rfl ?_
 refine WO.c (E.call rfl rfl Try.func22 rfl rfl) (agree1_s (n := x3) ) rfl ?_
 rintro _ _ ⟨rfl, rfl⟩
 refine WO.nil ?_
 refine WX.sel [0, 1, 4, 5, 7, 8, 9, 16] rfl ?_
 refine WX.next ?_
 refine WC.cond rfl (fun q8 => ?_) (fun q8 => ?_)
 have p8 : (!knownF (x3)) = true := q8
 refine WC.seq ?_
 refine WC.region ?_
 refine WO.v (R.move rfl) rfl ?_
 refine WO.v (R.assign rfl) rfl ?_
 refine WO.nil ?_
 refine WX.sel [0, 1, 4, 5, 7, 8, 9, 16] rfl ?_
 refine WX.next ?_
 refine WC.ret ?_
 refine WX.blkRet ?_
 refine WX.thenRet ?_
 refine WX.loopRet ?_
 refine WX.blkRet ?_
 refine WX.thenRet ?_
 have e0 : ((k : Nat) : Int) = (idxF (fun n => !knownF n) l) := by first | exact (idxF_none hall (by omega)).symm | exact (idxF_found hall ‹_› q8).symm
 refine WX.ret1 Try.results34 rfl ?_
 exact ⟨by rw [e0], Kp.of_below b1⟩
 have p8 : (!knownF (x3)) = false := q8
 refine WC.skip ?_
 refine WX.blkNormal ?_
 refine WX.next ?_
 refine WC.region ?_
 refine WO.v (R.inc rfl (by omega)) rfl ?_
 refine WO.v (R.move rfl) rfl ?_
 refine WO.nil ?_
 refine WX.sel [0, 1, 4, 5, 7, 8, 9, 16] rfl ?_
 exact WX.loopNextK [0, 1, 4, 7] (k + 1) rfl ⟨⟨_, rfl, rfl⟩, trivial⟩ ⟨(Kp.refl _).step k1 (by simp), by omega, idx_step hall hx3 q8⟩ (by show (l.length - (k + 1)) < (l.length - k); omega)
 have p2 : ¬ (((k : Nat) : Int) < ((l.length : Nat) : Int)) := of_decide_eq_false q2
 refine WC.exit ?_
 refine WX.thenExit ?_
 refine WX.loopExit ?_
 refine WX.blkHit ?_
 refine WX.next ?_
 refine WC.seq ?_
 refine WC.region ?_
 refine WO.v (R.assign rfl) rfl ?_
 refine WO.nil ?_
 refine WX.sel [0, 1, 4, 7, 8, 9] rfl ?_
 refine WX.next ?_
 refine WC.ret ?_
 have e0 : (-1 : Int) = (idxF (fun n => !knownF n) l) := by first | exact (idxF_none hall (by omega)).symm | exact (idxF_found hall ‹_› q2).symm
 refine WX.ret1 Try.results34 rfl ?_
 exact ⟨by rw [e0], Kp.of_below b1⟩

set_option maxRecDepth 100000 in
set_option maxHeartbeats 400000 in
theorem containsFunc_s {w : World} {a_l : Option Addr} {c_l : Nat} {l : List Int} (h_l : Sl false 0 w.heap.size w (.slice a_l l.length c_l) l) :
    Ret Try.prog 24 [.slice a_l l.length c_l, .func (.func 22) #[] #[]].toArray w fun r w' => r = .bool (!l.all knownF) ∧ Kp [] w w' := by
 have len_l : (l).length * 8 ≤ 140737488355328 := h_l.lenle
 refine Ret.enter Try.func24 rfl Try.ntmps24 rfl rfl ?_
 refine WC.sel [0, 1] rfl ?_
 refine WC.seq ?_
 refine WC.region ?_
 refine WO.v (R.assign rfl) rfl ?_
 refine WO.nil ?_
 refine WX.sel [0, 1, 4] rfl ?_
 refine WX.next ?_
 refine WC.seq ?_
 refine WC.region ?_
 refine WO.v (R.move rfl) rfl ?_
 refine WO.v (R.move rfl) rfl ?_
 refine WO.c (E.call rfl rfl Try.func34 rfl rfl) (indexFunc_s (l := l) (a_l := a_l) (c_l := c_l) ((h_l).mono (lo' := 0) (hi' := w.heap.size) (Nat.zero_le _) (by omega))) rfl ?_
 rintro _ w1 ⟨rfl, k1⟩
 have z1 : w.heap.size ≤ w1.heap.size := k1.size
 have b1 := old_kp0 (Below.refl w.heap.size w) k1
 have y1 : w.heap.size ≤ w1.heap.size := b1.size
 refine WO.v (R.geq rfl rfl) rfl ?_
 refine WO.v (R.assign rfl) rfl ?_
 refine WO.nil ?_
 refine WX.sel [0, 1, 4] rfl ?_
 refine WX.next ?_
 refine WC.ret ?_
 have e0 : (decide ((0 : Int) ≤ idxF (fun n => !knownF n) (l))) = (!l.all knownF) := by exact contains_eq _
 refine WX.ret1 Try.results24 rfl ?_
 exact ⟨by rw [e0], Kp.of_below b1⟩

set_option maxRecDepth 100000 in
set_option maxHeartbeats 400000 in
theorem min_s {w : World} {a_l : Option Addr} {c_l : Nat} {l : List Int} (h_l : Sl false 0 w.heap.size w (.slice a_l l.length c_l) l) (pre0 : 0 < l.length) :
    Ret Try.prog 25 [.slice a_l l.length c_l].toArray w fun r w' => r = .int .i64 (minF l) ∧ Kp [] w w' := by
 have len_l : (l).length * 8 ≤ 140737488355328 := h_l.lenle
 refine Ret.enter Try.func25 rfl Try.ntmps25 rfl rfl ?_
 refine WC.sel [0] rfl ?_
 refine WC.seq ?_
 refine WC.region ?_
 refine WO.v (R.assign rfl) rfl ?_
 refine WO.nil ?_
 refine WX.sel [0, 2] rfl ?_
 refine WX.next ?_
 refine WC.seq ?_
 refine WC.seq ?_
 refine WC.region ?_
 refine WO.v (R.move rfl) rfl ?_
 refine WO.v (R.len rfl Try.underlying24) rfl ?_
 refine WO.v (R.lss rfl rfl) rfl ?_
 refine WO.nil ?_
 refine WX.sel [0, 2, 7] rfl ?_
 refine WX.next ?_
 refine WC.cond rfl (fun q1 => ?_) (fun q1 => ?_)
 have p1 : ((l.length : Nat) : Int) < (1 : Int) := of_decide_eq_true q1
 exact False.elim (by omega)
 have p1 : ¬ (((l.length : Nat) : Int) < (1 : Int)) := of_decide_eq_false q1
 refine WC.skip ?_
 refine WX.next ?_
 refine WC.seq ?_
 refine WC.region ?_
 refine WO.v (R.move rfl) rfl ?_
 obtain ⟨x2, hx2⟩ := get_ex (xs := l) (i := 0) (by omega)
 obtain ⟨A3, cs4, hA3, loA3, hiA3, ccA3, r5⟩ := (h_l).at_ hx2
 obtain ⟨rfl, i6⟩ := r5
 refine WO.v (R.indexAddrN rfl rfl Try.underlying24 sz3 hA3 (by omega)) rfl ?_
 refine WO.v (R.load1 rfl Try.underlying3 rfl (CellsAt.one0 ccA3)) rfl ?_
 refine WO.v (R.assign rfl) rfl ?_
 refine WO.nil ?_
 refine WX.sel [0, 2, 3, 7] rfl ?_
 refine WX.next ?_
 refine WC.seq ?_
 refine WC.seq ?_
 refine WC.region ?_
 refine WO.v (R.assign rfl) rfl ?_
 refine WO.nil ?_
 refine WX.sel [0, 2, 3, 4, 7] rfl ?_
 refine WX.next ?_
 refine WC.block ?_
 refine WC.loopK [0, 2, 7] rfl (fun zz : Nat => [(4, (.int .i64 (((zz) : Nat) : Int))), (3, (.int .i64 (minTo l (zz))))]) (fun (zz : Nat) (w' : World) => (Kp [] w w') ∧ ((zz) ≤ l.length) ∧ (1 ≤ (zz))) (fun zz => l.length - (zz)) (1) ?_ ?_ ?_
 exact ⟨⟨_, rfl, rfl⟩, ⟨_, rfl, vi (minTo_one hx2)⟩, trivial⟩
 exact ⟨Kp.refl _, by omega, Nat.le_refl _⟩
 rintro k w7 ⟨k7, hk, hk1⟩
 try dsimp only at hk hk1
 have z7 : w.heap.size ≤ w7.heap.size := k7.size
 have b7 := old_kp0 (Below.refl w.heap.size w) k7
 have y7 : w.heap.size ≤ w7.heap.size := b7.size
 refine (?_ : WC _ _ _ _ ([(4, (.int .i64 ((k : Nat) : Int))), (3, (.int .i64 (minTo l k)))] ++ _) w7)
 refine WC.seq ?_
 refine WC.seq ?_
 refine WC.region ?_
 refine WO.v (R.move rfl) rfl ?_
 refine WO.v (R.move rfl) rfl ?_
 refine WO.v (R.len rfl Try.underlying24) rfl ?_
 refine WO.v (R.lss rfl rfl) rfl ?_
 refine WO.nil ?_
 refine WX.sel [0, 2, 3, 4, 7, 15] rfl ?_
 refine WX.next ?_
 refine WC.cond rfl (fun q8 => ?_) (fun q8 => ?_)
 have p8 : ((k : Nat) : Int) < ((l.length : Nat) : Int) := of_decide_eq_true q8
 refine WC.skip ?_
 refine WX.next ?_
 refine WC.seq ?_
 refine WC.block ?_
 refine WC.region ?_
 refine WO.v (R.move rfl) rfl ?_
 refine WO.v (R.move rfl) rfl ?_
 refine WO.v (R.move rfl) rfl ?_
 obtain ⟨x9, hx9⟩ := get_ex (xs := l) (i := k) (by omega)
 obtain ⟨A10, cs11, hA10, loA10, hiA10, ccA10, r12⟩ := (sl_old h_l b7).at_ hx9
 obtain ⟨rfl, i13⟩ := r12
 refine WO.v (R.indexAddrN rfl rfl Try.underlying24 sz3 hA10 (by omega)) rfl ?_
 refine WO.v (R.load1 rfl Try.underlying3 rfl (CellsAt.one0 ccA10)) rfl ?_
 refine WO.v (R.min2 rfl rfl) rfl ?_
 refine WO.v (R.assign rfl) rfl ?_
 refine WO.nil ?_
 refine WX.sel [0, 2, 3, 4, 7, 15] rfl ?_
 refine WX.blkNormal ?_
 refine WX.next ?_
 refine WC.region ?_
 refine WO.v (R.move rfl) rfl ?_
 refine WO.v (R.inc rfl (by omega)) rfl ?_
 refine WO.v (R.assign rfl) rfl ?_
 refine WO.nil ?_
 refine WX.sel [0, 2, 3, 4, 7, 15] rfl ?_
 exact WX.loopNextK [0, 2, 7] (k + 1) rfl ⟨⟨_, rfl, rfl⟩, ⟨_, rfl, vi (minTo_step hk1 hx9)⟩, trivial⟩ ⟨(Kp.refl _).step k7 (by simp), by omega, by omega⟩ (by show (l.length - (k + 1)) < (l.length - k); omega)
 have p8 : ¬ (((k : Nat) : Int) < ((l.length : Nat) : Int)) := of_decide_eq_false q8
 refine WC.exit ?_
 refine WX.thenExit ?_
 refine WX.loopExit ?_
 refine WX.blkHit ?_
 refine WX.next ?_
 refine WC.seq ?_
 refine WC.region ?_
 refine WO.v (R.move rfl) rfl ?_
 refine WO.v (R.assign rfl) rfl ?_
 refine WO.nil ?_
 refine WX.sel [0, 2, 3, 4, 7, 15] rfl ?_
 refine WX.next ?_
 refine WC.ret ?_
 have e0 : (minTo l k) = (minF l) := by exact minTo_all (by omega)
 refine WX.ret1 Try.results25 rfl ?_
 exact ⟨by rw [e0], Kp.of_below b7⟩

set_option maxRecDepth 100000 in
set_option maxHeartbeats 400000 in
theorem agree_s {w : World} {a_l : Option Addr} {c_l : Nat} {l : List Int} (h_l : Sl false 0 w.heap.size w (.slice a_l l.length c_l) l) :
    Ret Try.prog 8 [.slice a_l l.length c_l].toArray w fun r w' => r = .int .i64 (agreeF l) ∧ Kp [] w w' := by
 have len_l : (l).length * 8 ≤ 140737488355328 := h_l.lenle
 refine Ret.enter Try.func8 rfl Try.ntmps8 rfl rfl ?_
 refine WC.sel [0] rfl ?_
 refine WC.seq ?_
 refine WC.region ?_
 refine WO.v (R.assign rfl) rfl ?_
 refine WO.nil ?_
 refine WX.sel [0, 2] rfl ?_
 refine WX.next ?_
 refine WC.seq ?_
 refine WC.region ?_
 refine WO.v (R.assign rfl) rfl ?_
 refine WO.nil ?_
 refine WX.sel [0, 2, 3] rfl ?_
 refine WX.next ?_
 refine WC.seq ?_
 refine WC.seq ?_
 refine WC.region ?_
 refine WO.v (R.move rfl) rfl ?_
 refine WO.v (R.len rfl Try.underlying24) rfl ?_
 refine WO.v (R.eql rfl rfl) rfl ?_
 refine WO.v (R.move rfl) rfl ?_
 refine WO.cutP 4 [(11, (.bool ((decide (((l.length : Nat) : Int) = (0 : Int))) || (!l.all knownF))))] (fun w' => Kp [] w w') ?_ ?_
 rcases Bool.eq_false_or_eq_true (decide (((l.length : Nat) : Int) = (0 : Int))) with hb1 | hb1
 have phb1 : ((l.length : Nat) : Int) = (0 : Int) := of_decide_eq_true hb1
 refine WO.off rfl rfl hb1 rfl ?_
 refine WO.off rfl rfl hb1 rfl ?_
 refine WO.off rfl rfl hb1 rfl ?_
 refine WO.v (R.pickT rfl hb1 rfl) rfl ?_
 refine WO.nil ?_
 exact WX.cutDoneP 4 rfl rfl ⟨⟨_, rfl, vb (bor_on hb1)⟩, trivial⟩ (Kp.refl _)
 have phb1 : ¬ (((l.length : Nat) : Int) = (0 : Int)) := of_decide_eq_false hb1
 refine WO.on rfl rfl hb1 ?_
 refine WO.v (R.move rfl) rfl ?_
 refine WO.on rfl rfl hb1 ?_
 refine WO.v (R.move rfl) rfl ?_
 refine WO.on rfl rfl hb1 ?_
 refine WO.c (E.call rfl rfl Try.func24 rfl rfl) (containsFunc_s (l := l) (a_l := a_l) (c_l := c_l) ((h_l).mono (lo' := 0) (hi' := w.heap.size) (Nat.zero_le _) (by omega))) rfl ?_
 rintro _ w2 ⟨rfl, k2⟩
 have z2 : w.heap.size ≤ w2.heap.size := k2.size
 have b2 := old_kp0 (Below.refl w.heap.size w) k2
 have y2 : w.heap.size ≤ w2.heap.size := b2.size
 refine WO.v (R.pickF rfl hb1 rfl) rfl ?_
 refine WO.nil ?_
 exact WX.cutDoneP 4 rfl rfl ⟨⟨_, rfl, vb (bor_off hb1)⟩, trivial⟩ ((Kp.refl _).step k2 (by simp))
 intro w3 k3
 have z3 : w.heap.size ≤ w3.heap.size := k3.size
 have b3 := old_kp0 (Below.refl w.heap.size w) k3
 have y3 : w.heap.size ≤ w3.heap.size := b3.size
 refine WO.nil ?_
 refine WX.sel [0, 2, 3, 11] rfl ?_
 refine WX.next ?_
 refine WC.cond rfl (fun q4 => ?_) (fun q4 => ?_)
 have p4 : (((l.length : Nat) : Int) = (0 : Int)) ∨ ((!l.all knownF) = true) := Or.imp (fun h => of_decide_eq_true h) (fun h => h) (bor_t q4)
 refine WC.seq ?_
 refine WC.region ?_
 refine WO.v (R.assign rfl) rfl ?_
 refine WO.nil ?_
 refine WX.sel [0, 2, 3, 11] rfl ?_
 refine WX.next ?_
 refine WC.ret ?_
 refine WX.thenRet ?_
 have e0 : (0 : Int) = (agreeF l) := by first | exact agreeF_q1 q4 | exact agreeF_q2 q4
 refine WX.ret1 Try.results8 rfl ?_
 exact ⟨by rw [e0], Kp.of_below b3⟩
 have p4 : (¬ (((l.length : Nat) : Int) = (0 : Int))) ∧ ((!l.all knownF) = false) := ⟨of_decide_eq_false (bor_f q4).1, (bor_f q4).2⟩
 refine WC.skip ?_
 refine WX.next ?_
 refine WC.seq ?_
 refine WC.region ?_
 refine WO.v (R.move rfl) rfl ?_
 refine WO.c (E.call rfl rfl Try.func25 rfl rfl) (min_s (l := l) (a_l := a_l) (c_l := c_l) ((sl_old h_l b3).mono (lo' := 0) (hi' := w3.heap.size) (Nat.zero_le _) (by omega)) (by omega)) rfl ?_
 rintro _ w5 ⟨rfl, k5⟩
 have z5 : w3.heap.size ≤ w5.heap.size := k5.size
 have b5 := old_kp0 b3 k5
 have y5 : w.heap.size ≤ w5.heap.size := b5.size
 refine WO.v (R.assign rfl) rfl ?_
 refine WO.nil ?_
 refine WX.sel [0, 2, 3, 11] rfl ?_
 refine WX.next ?_
 refine WC.ret ?_
 have e0 : minF (l) = (agreeF l) := by first | exact agreeF_q1 q4 | exact agreeF_q2 q4
 refine WX.ret1 Try.results8 rfl ?_
 exact ⟨by rw [e0], Kp.of_below b5⟩

set_option maxRecDepth 100000 in
set_option maxHeartbeats 400000 in
theorem ready_s {w : World} (v : Int) {a_l : Option Addr} {c_l : Nat} {l : List Int} (h_l : Sl false 0 w.heap.size w (.slice a_l l.length c_l) l) :
    Ret Try.prog 9 [.int .i64 v, .slice a_l l.length c_l].toArray w fun r w' => r = .bool (readyF v l) ∧ Kp [] w w' := by
 have len_l : (l).length * 8 ≤ 140737488355328 := h_l.lenle
 refine Ret.enter Try.func9 rfl Try.ntmps9 rfl rfl ?_
 refine WC.sel [0, 1] rfl ?_
 refine WC.seq ?_
 refine WC.region ?_
 refine WO.v (R.assign rfl) rfl ?_
 refine WO.nil ?_
 refine WX.sel [0, 1, 4] rfl ?_
 refine WX.next ?_
 refine WC.seq ?_
 refine WC.region ?_
 refine WO.v (R.move rfl) rfl ?_
 refine WO.v (R.geq rfl rfl) rfl ?_
 refine WO.v (R.move rfl) rfl ?_
 refine WO.cutP 3 [(10, (.bool ((decide ((1 : Int) ≤ v)) && (decide (v < (3 : Int))))))] (fun w' => w = w') ?_ ?_
 rcases Bool.eq_false_or_eq_true (decide ((1 : Int) ≤ v)) with hb1 | hb1
 have phb1 : (1 : Int) ≤ v := of_decide_eq_true hb1
 refine WO.on rfl rfl hb1 ?_
 refine WO.v (R.move rfl) rfl ?_
 refine WO.on rfl rfl hb1 ?_
 refine WO.v (R.lss rfl rfl) rfl ?_
 refine WO.v (R.pickT rfl hb1 rfl) rfl ?_
 refine WO.nil ?_
 exact WX.cutDoneP 3 rfl rfl ⟨⟨_, rfl, vb (band_on hb1)⟩, trivial⟩ (rfl)
 have phb1 : ¬ ((1 : Int) ≤ v) := of_decide_eq_false hb1
 refine WO.off rfl rfl hb1 rfl ?_
 refine WO.off rfl rfl hb1 rfl ?_
 refine WO.v (R.pickF rfl hb1 rfl) rfl ?_
 refine WO.nil ?_
 exact WX.cutDoneP 3 rfl rfl ⟨⟨_, rfl, vb (band_off hb1)⟩, trivial⟩ (rfl)
 rintro _ rfl
 refine WO.v (R.move rfl) rfl ?_
 refine WO.cutP 5 [(16, (.bool (((decide ((1 : Int) ≤ v)) && (decide (v < (3 : Int)))) && (decide (v < agreeF (l))))))] (fun w' => Kp [] w w') ?_ ?_
 rcases Bool.eq_false_or_eq_true ((decide ((1 : Int) ≤ v)) && (decide (v < (3 : Int)))) with hb2 | hb2
 have phb2 : ((1 : Int) ≤ v) ∧ (v < (3 : Int)) := ⟨of_decide_eq_true (band_t hb2).1, of_decide_eq_true (band_t hb2).2⟩
 refine WO.on rfl rfl hb2 ?_
 refine WO.v (R.move rfl) rfl ?_
 refine WO.on rfl rfl hb2 ?_
 refine WO.c (E.call rfl rfl Try.func8 rfl rfl) (agree_s (l := l) (a_l := a_l) (c_l := c_l) ((h_l).mono (lo' := 0) (hi' := w.heap.size) (Nat.zero_le _) (by omega))) rfl ?_
 rintro _ w3 ⟨rfl, k3⟩
 have z3 : w.heap.size ≤ w3.heap.size := k3.size
 have b3 := old_kp0 (Below.refl w.heap.size w) k3
 have y3 : w.heap.size ≤ w3.heap.size := b3.size
 refine WO.on rfl rfl hb2 ?_
 refine WO.v (R.move rfl) rfl ?_
 refine WO.on rfl rfl hb2 ?_
 refine WO.v (R.gtr rfl rfl) rfl ?_
 refine WO.v (R.pickT rfl hb2 rfl) rfl ?_
 refine WO.nil ?_
 exact WX.cutDoneP 5 rfl rfl ⟨⟨_, rfl, vb (band_on hb2)⟩, trivial⟩ ((Kp.refl _).step k3 (by simp))
 have phb2 : (¬ ((1 : Int) ≤ v)) ∨ (¬ (v < (3 : Int))) := Or.imp (fun h => of_decide_eq_false h) (fun h => of_decide_eq_false h) (band_f hb2)
 refine WO.off rfl rfl hb2 rfl ?_
 refine WO.off rfl rfl hb2 rfl ?_
 refine WO.off rfl rfl hb2 rfl ?_
 refine WO.off rfl rfl hb2 rfl ?_
 refine WO.v (R.pickF rfl hb2 rfl) rfl ?_
 refine WO.nil ?_
 exact WX.cutDoneP 5 rfl rfl ⟨⟨_, rfl, vb (band_off hb2)⟩, trivial⟩ (Kp.refl _)
 intro w4 k4
 have z4 : w.heap.size ≤ w4.heap.size := k4.size
 have b4 := old_kp0 (Below.refl w.heap.size w) k4
 have y4 : w.heap.size ≤ w4.heap.size := b4.size
 refine WO.v (R.assign rfl) rfl ?_
 refine WO.nil ?_
 refine WX.sel [0, 1, 4] rfl ?_
 refine WX.next ?_
 refine WC.ret ?_
 have e0 : (((decide ((1 : Int) ≤ v)) && (decide (v < (3 : Int)))) && (decide (v < agreeF (l)))) = (readyF v l) := by rfl
 refine WX.ret1 Try.results9 rfl ?_
 exact ⟨by rw [e0], Kp.of_below b4⟩

set_option maxRecDepth 100000 in
set_option maxHeartbeats 400000 in
theorem known_s {w : World} (n : Int)  :
    Ret Try.prog 32 [.int .i64 n].toArray w fun r w' => r = .bool ((decide (1 ≤ n)) && (decide (n ≤ 3))) ∧ w = w' := by
 refine Ret.enter Try.func32 rfl Try.ntmps32 rfl rfl ?_
 refine WC.sel [0] rfl ?_
 refine WC.seq ?_
 refine WC.region ?_
 refine WO.v (R.assign rfl) rfl ?_
 refine WO.nil ?_
 refine WX.sel [0, 2] rfl ?_
 refine WX.next ?_
 refine WC.seq ?_
 refine WC.region ?_
 refine WO.v (R.move rfl) rfl ?_
 refine WO.v (R.geq rfl rfl) rfl ?_
 refine WO.v (R.move rfl) rfl ?_
 refine WO.cutP 3 [(8, (.bool ((decide ((1 : Int) ≤ n)) && (decide (n ≤ (3 : Int))))))] (fun w' => w = w') ?_ ?_
 rcases Bool.eq_false_or_eq_true (decide ((1 : Int) ≤ n)) with hb1 | hb1
 have phb1 : (1 : Int) ≤ n := of_decide_eq_true hb1
 refine WO.on rfl rfl hb1 ?_
 refine WO.v (R.move rfl) rfl ?_
 refine WO.on rfl rfl hb1 ?_
 refine WO.v (R.leq rfl rfl) rfl ?_
 refine WO.v (R.pickT rfl hb1 rfl) rfl ?_
 refine WO.nil ?_
 exact WX.cutDoneP 3 rfl rfl ⟨⟨_, rfl, vb (band_on hb1)⟩, trivial⟩ (rfl)
 have phb1 : ¬ ((1 : Int) ≤ n) := of_decide_eq_false hb1
 refine WO.off rfl rfl hb1 rfl ?_
 refine WO.off rfl rfl hb1 rfl ?_
 refine WO.v (R.pickF rfl hb1 rfl) rfl ?_
 refine WO.nil ?_
 exact WX.cutDoneP 3 rfl rfl ⟨⟨_, rfl, vb (band_off hb1)⟩, trivial⟩ (rfl)
 rintro _ rfl
 refine WO.v (R.assign rfl) rfl ?_
 refine WO.nil ?_
 refine WX.sel [0, 2] rfl ?_
 refine WX.next ?_
 refine WC.ret ?_
 have e0 : ((decide ((1 : Int) ≤ n)) && (decide (n ≤ (3 : Int)))) = ((decide (1 ≤ n)) && (decide (n ≤ 3))) := by rfl
 refine WX.ret1 Try.results32 rfl ?_
 exact ⟨by rw [e0], rfl⟩

set_option maxRecDepth 100000 in
set_option maxHeartbeats 400000 in
theorem startsR_s {w : World} (a : Int) (b : Int)  :
    Ret Try.prog 19 [.int .i64 a, .int .i64 b].toArray w fun r w' => r = .int .i64 (startsF a b) ∧ w = w' := by
 refine Ret.enter Try.func19 rfl Try.ntmps19 rfl rfl ?_
 refine WC.sel [0, 1] rfl ?_
 refine WC.seq ?_
 refine WC.region ?_
 refine WO.v (R.assign rfl) rfl ?_
 refine WO.nil ?_
 refine WX.sel [0, 1, 4] rfl ?_
 refine WX.next ?_
 refine WC.seq ?_
 refine WC.seq ?_
 refine WC.region ?_
 refine WO.v (R.move rfl) rfl ?_
 refine WO.c (E.call rfl rfl Try.func32 rfl rfl) (known_s (n := a) ) rfl ?_
 rintro _ _ ⟨rfl, rfl⟩
 refine WO.v (R.not rfl) rfl ?_
 refine WO.v (R.move rfl) rfl ?_
 refine WO.cutP 4 [(12, (.bool ((!((decide (1 ≤ (a))) && (decide ((a) ≤ 3)))) || (!((decide (1 ≤ (b))) && (decide ((b) ≤ 3)))))))] (fun w' => w = w') ?_ ?_
 rcases Bool.eq_false_or_eq_true (!((decide (1 ≤ (a))) && (decide ((a) ≤ 3)))) with hb1 | hb1
 have phb1 : (¬ (1 ≤ (a))) ∨ (¬ ((a) ≤ 3)) := Or.imp (fun h => of_decide_eq_false h) (fun h => of_decide_eq_false h) (band_f (bnot_t hb1))
 refine WO.off rfl rfl hb1 rfl ?_
 refine WO.off rfl rfl hb1 rfl ?_
 refine WO.off rfl rfl hb1 rfl ?_
 refine WO.v (R.pickT rfl hb1 rfl) rfl ?_
 refine WO.nil ?_
 exact WX.cutDoneP 4 rfl rfl ⟨⟨_, rfl, vb (bor_on hb1)⟩, trivial⟩ (rfl)
 have phb1 : (1 ≤ (a)) ∧ ((a) ≤ 3) := ⟨of_decide_eq_true (band_t (bnot_f hb1)).1, of_decide_eq_true (band_t (bnot_f hb1)).2⟩
 refine WO.on rfl rfl hb1 ?_
 refine WO.v (R.move rfl) rfl ?_
 refine WO.on rfl rfl hb1 ?_
 refine WO.c (E.call rfl rfl Try.func32 rfl rfl) (known_s (n := b) ) rfl ?_
 rintro _ _ ⟨rfl, rfl⟩
 refine WO.on rfl rfl hb1 ?_
 refine WO.v (R.not rfl) rfl ?_
 refine WO.v (R.pickF rfl hb1 rfl) rfl ?_
 refine WO.nil ?_
 exact WX.cutDoneP 4 rfl rfl ⟨⟨_, rfl, vb (bor_off hb1)⟩, trivial⟩ (rfl)
 rintro _ rfl
 refine WO.nil ?_
 refine WX.sel [0, 1, 4, 12] rfl ?_
 refine WX.next ?_
 refine WC.cond rfl (fun q2 => ?_) (fun q2 => ?_)
 have p2 : ((¬ (1 ≤ (a))) ∨ (¬ ((a) ≤ 3))) ∨ ((¬ (1 ≤ (b))) ∨ (¬ ((b) ≤ 3))) := Or.imp (fun h => Or.imp (fun h => of_decide_eq_false h) (fun h => of_decide_eq_false h) (band_f (bnot_t h))) (fun h => Or.imp (fun h => of_decide_eq_false h) (fun h => of_decide_eq_false h) (band_f (bnot_t h))) (bor_t q2)
 refine WC.seq ?_
 refine WC.region ?_
 refine WO.v (R.assign rfl) rfl ?_
 refine WO.nil ?_
 refine WX.sel [0, 1, 4, 12] rfl ?_
 refine WX.next ?_
 refine WC.ret ?_
 refine WX.thenRet ?_
 have e0 : (1 : Int) = (startsF a b) := by unfold startsF; (repeat' split) <;> omega
 refine WX.ret1 Try.results19 rfl ?_
 exact ⟨by rw [e0], rfl⟩
 have p2 : ((1 ≤ (a)) ∧ ((a) ≤ 3)) ∧ ((1 ≤ (b)) ∧ ((b) ≤ 3)) := ⟨⟨of_decide_eq_true (band_t (bnot_f (bor_f q2).1)).1, of_decide_eq_true (band_t (bnot_f (bor_f q2).1)).2⟩, ⟨of_decide_eq_true (band_t (bnot_f (bor_f q2).2)).1, of_decide_eq_true (band_t (bnot_f (bor_f q2).2)).2⟩⟩
 refine WC.skip ?_
 refine WX.next ?_
 refine WC.seq ?_
 refine WC.seq ?_
 refine WC.region ?_
 refine WO.v (R.move rfl) rfl ?_
 refine WO.v (R.move rfl) rfl ?_
 refine WO.v (R.lss rfl rfl) rfl ?_
 refine WO.nil ?_
 refine WX.sel [0, 1, 4, 12, 15] rfl ?_
 refine WX.next ?_
 refine WC.cond rfl (fun q3 => ?_) (fun q3 => ?_)
 have p3 : a < b := of_decide_eq_true q3
 refine WC.seq ?_
 refine WC.region ?_
 refine WO.v (R.assign rfl) rfl ?_
 refine WO.nil ?_
 refine WX.sel [0, 1, 4, 12, 15] rfl ?_
 refine WX.next ?_
 refine WC.ret ?_
 refine WX.thenRet ?_
 have e0 : (32 : Int) = (startsF a b) := by unfold startsF; (repeat' split) <;> omega
 refine WX.ret1 Try.results19 rfl ?_
 exact ⟨by rw [e0], rfl⟩
 have p3 : ¬ (a < b) := of_decide_eq_false q3
 refine WC.skip ?_
 refine WX.next ?_
 refine WC.seq ?_
 refine WC.region ?_
 refine WO.v (R.assign rfl) rfl ?_
 refine WO.nil ?_
 refine WX.sel [0, 1, 4, 12, 15] rfl ?_
 refine WX.next ?_
 refine WC.ret ?_
 have e0 : (0 : Int) = (startsF a b) := by unfold startsF; (repeat' split) <;> omega
 refine WX.ret1 Try.results19 rfl ?_
 exact ⟨by rw [e0], rfl⟩

set_option maxRecDepth 100000 in
set_option maxHeartbeats 400000 in
theorem agreeR_s {w : World} {a_l : Option Addr} {c_l : Nat} {l : List Int} (h_l : Sl false 0 w.heap.size w (.slice a_l l.length c_l) l) :
    Ret Try.prog 20 [.slice a_l l.length c_l].toArray w fun r w' => r = .int .i64 (agreeF l) ∧ Kp [] w w' := by
 have len_l : (l).length * 8 ≤ 140737488355328 := h_l.lenle
 refine Ret.enter Try.func20 rfl Try.ntmps20 rfl rfl ?_
 refine WC.sel [0] rfl ?_
 refine WC.seq ?_
 refine WC.region ?_
 refine WO.v (R.assign rfl) rfl ?_
 refine WO.nil ?_
 refine WX.sel [0, 2] rfl ?_
 refine WX.next ?_
 refine WC.seq ?_
 refine WC.region ?_
 refine WO.v (R.assign rfl) rfl ?_
 refine WO.nil ?_
 refine WX.sel [0, 2, 3] rfl ?_
 refine WX.next ?_
 refine WC.seq ?_
 refine WC.seq ?_
 refine WC.region ?_
 refine WO.v (R.assign rfl) rfl ?_
 refine WO.nil ?_
 refine WX.sel [0, 2, 3, 4] rfl ?_
 refine WX.next ?_
 refine WC.block ?_
 refine WC.loopK [0, 2] rfl (fun zz : Nat => [(4, (.int .i64 (((zz) : Nat) : Int))), (3, (.int .i64 ((l.take (zz)).foldl min 3)))]) (fun (zz : Nat) (w' : World) => (Kp [] w w') ∧ ((zz) ≤ l.length) ∧ (∀ j y, j < (zz) → l[j]? = some y → knownF y = true)) (fun zz => l.length - (zz)) (0) ?_ ?_ ?_
 exact ⟨⟨_, rfl, rfl⟩, ⟨_, rfl, rfl⟩, trivial⟩
 exact ⟨Kp.refl _, Nat.zero_le _, by intro j y h; omega⟩
 rintro k w1 ⟨k1, hk, hall⟩
 try dsimp only at hk hall
 have z1 : w.heap.size ≤ w1.heap.size := k1.size
 have b1 := old_kp0 (Below.refl w.heap.size w) k1
 have y1 : w.heap.size ≤ w1.heap.size := b1.size
 refine (?_ : WC _ _ _ _ ([(4, (.int .i64 ((k : Nat) : Int))), (3, (.int .i64 ((l.take k).foldl min 3)))] ++ _) w1)
 refine WC.seq ?_
 refine WC.seq ?_
 refine WC.region ?_
 refine WO.v (R.move rfl) rfl ?_
 refine WO.v (R.move rfl) rfl ?_
 refine WO.v (R.len rfl Try.underlying24) rfl ?_
 refine WO.v (R.lss rfl rfl) rfl ?_
 refine WO.nil ?_
 refine WX.sel [0, 2, 3, 4, 8] rfl ?_
 refine WX.next ?_
 refine WC.cond rfl (fun q2 => ?_) (fun q2 => ?_)
 have p2 : ((k : Nat) : Int) < ((l.length : Nat) : Int) := of_decide_eq_true q2
 refine WC.skip ?_
 refine WX.next ?_
 refine WC.seq ?_
 refine WC.block ?_
 refine WC.seq ?_
 refine WC.seq ?_
 refine WC.region ?_
 refine WO.v (R.move rfl) rfl ?_
 refine WO.v (R.move rfl) rfl ?_
 obtain ⟨x3, hx3⟩ := get_ex (xs := l) (i := k) (by omega)
 obtain ⟨A4, cs5, hA4, loA4, hiA4, ccA4, r6⟩ := (sl_old h_l b1).at_ hx3
 obtain ⟨rfl, i7⟩ := r6
 refine WO.v (R.indexAddrN rfl rfl Try.underlying24 sz3 hA4 (by omega)) rfl ?_
 refine WO.v (R.load1 rfl Try.underlying3 rfl (CellsAt.one0 ccA4)) rfl ?_
 refine WO.c (E.call rfl rfl Try.func32 rfl rfl) (known_s (n := x3) ) rfl ?_
 rintro _ _ ⟨rfl, rfl⟩
 refine WO.v (R.not rfl) rfl ?_
 refine WO.nil ?_
 refine WX.sel [0, 2, 3, 4, 8, 16] rfl ?_
 refine WX.next ?_
 refine WC.cond rfl (fun q8 => ?_) (fun q8 => ?_)
 have p8 : (¬ (1 ≤ (x3))) ∨ (¬ ((x3) ≤ 3)) := Or.imp (fun h => of_decide_eq_false h) (fun h => of_decide_eq_false h) (band_f (bnot_t q8))
 refine WC.seq ?_
 refine WC.region ?_
 refine WO.v (R.assign rfl) rfl ?_
 refine WO.nil ?_
 refine WX.sel [0, 2, 3, 4, 8, 16] rfl ?_
 refine WX.next ?_
 refine WC.ret ?_
 refine WX.thenRet ?_
 refine WX.blkRet ?_
 refine WX.thenRet ?_
 refine WX.loopRet ?_
 refine WX.blkRet ?_
 refine WX.thenRet ?_
 have e0 : (0 : Int) = (agreeF l) := by first | exact (agreeF_bad ‹_› (by simp [knownF]; omega)).symm | exact (agreeF_nil (by omega)).symm | exact (agreeF_ok hall (by omega) (by omega)).symm
 refine WX.ret1 Try.results20 rfl ?_
 exact ⟨by rw [e0], Kp.of_below b1⟩
 have p8 : (1 ≤ (x3)) ∧ ((x3) ≤ 3) := ⟨of_decide_eq_true (band_t (bnot_f q8)).1, of_decide_eq_true (band_t (bnot_f q8)).2⟩
 refine WC.skip ?_
 refine WX.next ?_
 refine WC.region ?_
 refine WO.v (R.move rfl) rfl ?_
 refine WO.v (R.move rfl) rfl ?_
 refine WO.v (R.move rfl) rfl ?_
 obtain ⟨A10, cs11, hA10, loA10, hiA10, ccA10, r12⟩ := (sl_old h_l b1).at_ hx3
 obtain ⟨rfl, i13⟩ := r12
 refine WO.v (R.indexAddrN rfl rfl Try.underlying24 sz3 hA10 (by omega)) rfl ?_
 refine WO.v (R.load1 rfl Try.underlying3 rfl (CellsAt.one0 ccA10)) rfl ?_
 refine WO.v (R.min2 rfl rfl) rfl ?_
 refine WO.v (R.assign rfl) rfl ?_
 refine WO.nil ?_
 refine WX.sel [0, 2, 3, 4, 8, 16] rfl ?_
 refine WX.blkNormal ?_
 refine WX.next ?_
 refine WC.region ?_
 refine WO.v (R.move rfl) rfl ?_
 refine WO.v (R.inc rfl (by omega)) rfl ?_
 refine WO.v (R.assign rfl) rfl ?_
 refine WO.nil ?_
 refine WX.sel [0, 2, 3, 4, 8, 16] rfl ?_
 exact WX.loopNextK [0, 2] (k + 1) rfl ⟨⟨_, rfl, rfl⟩, ⟨_, rfl, vi (foldl_step hx3)⟩, trivial⟩ ⟨(Kp.refl _).step k1 (by simp), by omega, known_step hall hx3 (by simp [knownF]; omega)⟩ (by show (l.length - (k + 1)) < (l.length - k); omega)
 have p2 : ¬ (((k : Nat) : Int) < ((l.length : Nat) : Int)) := of_decide_eq_false q2
 refine WC.exit ?_
 refine WX.thenExit ?_
 refine WX.loopExit ?_
 refine WX.blkHit ?_
 refine WX.next ?_
 refine WC.seq ?_
 refine WC.seq ?_
 refine WC.region ?_
 refine WO.v (R.move rfl) rfl ?_
 refine WO.v (R.len rfl Try.underlying24) rfl ?_
 refine WO.v (R.eql rfl rfl) rfl ?_
 refine WO.nil ?_
 refine WX.sel [0, 2, 3, 4, 8, 25] rfl ?_
 refine WX.next ?_
 refine WC.cond rfl (fun q14 => ?_) (fun q14 => ?_)
 have p14 : ((l.length : Nat) : Int) = (0 : Int) := of_decide_eq_true q14
 refine WC.seq ?_
 refine WC.region ?_
 refine WO.v (R.assign rfl) rfl ?_
 refine WO.nil ?_
 refine WX.sel [0, 2, 3, 4, 8, 25] rfl ?_
 refine WX.next ?_
 refine WC.ret ?_
 refine WX.thenRet ?_
 have e0 : (0 : Int) = (agreeF l) := by first | exact (agreeF_bad ‹_› (by simp [knownF]; omega)).symm | exact (agreeF_nil (by omega)).symm | exact (agreeF_ok hall (by omega) (by omega)).symm
 refine WX.ret1 Try.results20 rfl ?_
 exact ⟨by rw [e0], Kp.of_below b1⟩
 have p14 : ¬ (((l.length : Nat) : Int) = (0 : Int)) := of_decide_eq_false q14
 refine WC.skip ?_
 refine WX.next ?_
 refine WC.seq ?_
 refine WC.region ?_
 refine WO.v (R.move rfl) rfl ?_
 refine WO.v (R.assign rfl) rfl ?_
 refine WO.nil ?_
 refine WX.sel [0, 2, 3, 4, 8, 25] rfl ?_
 refine WX.next ?_
 refine WC.ret ?_
 have e0 : ((l.take k).foldl min 3) = (agreeF l) := by first | exact (agreeF_bad ‹_› (by simp [knownF]; omega)).symm | exact (agreeF_nil (by omega)).symm | exact (agreeF_ok hall (by omega) (by omega)).symm
 refine WX.ret1 Try.results20 rfl ?_
 exact ⟨by rw [e0], Kp.of_below b1⟩

set_option maxRecDepth 100000 in
set_option maxHeartbeats 400000 in
theorem readyR_s {w : World} (v : Int) {a_l : Option Addr} {c_l : Nat} {l : List Int} (h_l : Sl false 0 w.heap.size w (.slice a_l l.length c_l) l) :
    Ret Try.prog 21 [.int .i64 v, .slice a_l l.length c_l].toArray w fun r w' => r = .bool (readyF v l) ∧ Kp [] w w' := by
 have len_l : (l).length * 8 ≤ 140737488355328 := h_l.lenle
 refine Ret.enter Try.func21 rfl Try.ntmps21 rfl rfl ?_
 refine WC.sel [0, 1] rfl ?_
 refine WC.seq ?_
 refine WC.region ?_
 refine WO.v (R.assign rfl) rfl ?_
 refine WO.nil ?_
 refine WX.sel [0, 1, 4] rfl ?_
 refine WX.next ?_
 refine WC.seq ?_
 refine WC.region ?_
 refine WO.v (R.move rfl) rfl ?_
 refine WO.v (R.geq rfl rfl) rfl ?_
 refine WO.v (R.move rfl) rfl ?_
 refine WO.cutP 3 [(10, (.bool ((decide ((1 : Int) ≤ v)) && (decide (v < (3 : Int))))))] (fun w' => w = w') ?_ ?_
 rcases Bool.eq_false_or_eq_true (decide ((1 : Int) ≤ v)) with hb1 | hb1
 have phb1 : (1 : Int) ≤ v := of_decide_eq_true hb1
 refine WO.on rfl rfl hb1 ?_
 refine WO.v (R.move rfl) rfl ?_
 refine WO.on rfl rfl hb1 ?_
 refine WO.v (R.lss rfl rfl) rfl ?_
 refine WO.v (R.pickT rfl hb1 rfl) rfl ?_
 refine WO.nil ?_
 exact WX.cutDoneP 3 rfl rfl ⟨⟨_, rfl, vb (band_on hb1)⟩, trivial⟩ (rfl)
 have phb1 : ¬ ((1 : Int) ≤ v) := of_decide_eq_false hb1
 refine WO.off rfl rfl hb1 rfl ?_
 refine WO.off rfl rfl hb1 rfl ?_
 refine WO.v (R.pickF rfl hb1 rfl) rfl ?_
 refine WO.nil ?_
 exact WX.cutDoneP 3 rfl rfl ⟨⟨_, rfl, vb (band_off hb1)⟩, trivial⟩ (rfl)
 rintro _ rfl
 refine WO.v (R.move rfl) rfl ?_
 refine WO.cutP 5 [(16, (.bool (((decide ((1 : Int) ≤ v)) && (decide (v < (3 : Int)))) && (decide (v < agreeF (l))))))] (fun w' => Kp [] w w') ?_ ?_
 rcases Bool.eq_false_or_eq_true ((decide ((1 : Int) ≤ v)) && (decide (v < (3 : Int)))) with hb2 | hb2
 have phb2 : ((1 : Int) ≤ v) ∧ (v < (3 : Int)) := ⟨of_decide_eq_true (band_t hb2).1, of_decide_eq_true (band_t hb2).2⟩
 refine WO.on rfl rfl hb2 ?_
 refine WO.v (R.move rfl) rfl ?_
 refine WO.on rfl rfl hb2 ?_
 refine WO.c (E.call rfl rfl Try.func20 rfl rfl) (agreeR_s (l := l) (a_l := a_l) (c_l := c_l) ((h_l).mono (lo' := 0) (hi' := w.heap.size) (Nat.zero_le _) (by omega))) rfl ?_
 rintro _ w3 ⟨rfl, k3⟩
 have z3 : w.heap.size ≤ w3.heap.size := k3.size
 have b3 := old_kp0 (Below.refl w.heap.size w) k3
 have y3 : w.heap.size ≤ w3.heap.size := b3.size
 refine WO.on rfl rfl hb2 ?_
 refine WO.v (R.move rfl) rfl ?_
 refine WO.on rfl rfl hb2 ?_
 refine WO.v (R.gtr rfl rfl) rfl ?_
 refine WO.v (R.pickT rfl hb2 rfl) rfl ?_
 refine WO.nil ?_
 exact WX.cutDoneP 5 rfl rfl ⟨⟨_, rfl, vb (band_on hb2)⟩, trivial⟩ ((Kp.refl _).step k3 (by simp))
 have phb2 : (¬ ((1 : Int) ≤ v)) ∨ (¬ (v < (3 : Int))) := Or.imp (fun h => of_decide_eq_false h) (fun h => of_decide_eq_false h) (band_f hb2)
 refine WO.off rfl rfl hb2 rfl ?_
 refine WO.off rfl rfl hb2 rfl ?_
 refine WO.off rfl rfl hb2 rfl ?_
 refine WO.off rfl rfl hb2 rfl ?_
 refine WO.v (R.pickF rfl hb2 rfl) rfl ?_
 refine WO.nil ?_
 exact WX.cutDoneP 5 rfl rfl ⟨⟨_, rfl, vb (band_off hb2)⟩, trivial⟩ (Kp.refl _)
 intro w4 k4
 have z4 : w.heap.size ≤ w4.heap.size := k4.size
 have b4 := old_kp0 (Below.refl w.heap.size w) k4
 have y4 : w.heap.size ≤ w4.heap.size := b4.size
 refine WO.v (R.assign rfl) rfl ?_
 refine WO.nil ?_
 refine WX.sel [0, 1, 4] rfl ?_
 refine WX.next ?_
 refine WC.ret ?_
 have e0 : (((decide ((1 : Int) ≤ v)) && (decide (v < (3 : Int)))) && (decide (v < agreeF (l)))) = (readyF v l) := by rfl
 refine WX.ret1 Try.results21 rfl ?_
 exact ⟨by rw [e0], Kp.of_below b4⟩

set_option maxRecDepth 100000 in
set_option maxHeartbeats 400000 in
theorem shown_s {w : World}   :
    Ret Try.prog 7 [].toArray w fun r w' => r = .bool true ∧ Kp [] w w' := by
 refine Ret.enter Try.func7 rfl Try.ntmps7 rfl rfl ?_
 refine WC.sel [] rfl ?_
 refine WC.seq ?_
 refine WC.region ?_
 refine WO.v (R.assign rfl) rfl ?_
 refine WO.nil ?_
 refine WX.sel [0] rfl ?_
 refine WX.next ?_
 refine WC.seq ?_
 refine WC.region ?_
 refine WO.buildSlice (parts := [_, _, _]) (vss := [[_], [_], [_]]) Try.underlying24 sz3 zr3 rfl rfl (by simp) rfl rfl rfl ?_
 intro w1 n1
 have z1 : w.heap.size < w1.heap.size := n1.lt
 have b1 := old_kp0 (Below.refl w.heap.size w) n1.kp
 have y1 : w.heap.size ≤ w1.heap.size := b1.size
 have ac2 : Ac (α := Int) (w.heap.size) true (w.heap.size) (w1.heap.size) (w1.heap.size) w1 (.slice (some ⟨w.heap.size, 0, none⟩) 3 3) ([(3 : Int), (2 : Int), (3 : Int)] : List Int) := Ac.lit (α := Int) (ys := ([(3 : Int), (2 : Int), (3 : Int)] : List Int)) (css := [[_], [_], [_]]) n1.blk (.cons (⟨rfl, show I64 (3) from ⟨by omega, by omega⟩⟩) (.cons (⟨rfl, show I64 (2) from ⟨by omega, by omega⟩⟩) (.cons (⟨rfl, show I64 (3) from ⟨by omega, by omega⟩⟩) (.nil)))) (by omega) (by omega) (by simp [maxLen]) (by show 3 * 8 ≤ 140737488355328; decide) rfl
 have lenac2 : ([(3 : Int), (2 : Int), (3 : Int)] : List Int).length = 3 := rfl
 refine WO.v (R.assign rfl) rfl ?_
 refine WO.nil ?_
 refine WX.sel [0, 1] rfl ?_
 refine WX.next ?_
 refine WC.seq ?_
 refine WC.region ?_
 refine WO.v (R.move rfl) rfl ?_
 refine WO.c (E.call rfl rfl Try.func8 rfl rfl) (agree_s (l := ([(3 : Int), (2 : Int), (3 : Int)] : List Int)) (a_l := (some ⟨w.heap.size, 0, none⟩)) (c_l := 3) ((ac2).pub (L := 0) (H := w1.heap.size) (by omega) (by omega) (by omega) (by omega))) rfl ?_
 rintro _ w3 ⟨rfl, k3⟩
 have z3 : w1.heap.size ≤ w3.heap.size := k3.size
 have b3 := old_kp0 b1 k3
 have y3 : w.heap.size ≤ w3.heap.size := b3.size
 refine WO.v (R.eql rfl rfl) rfl ?_
 refine WO.v (R.move rfl) rfl ?_
 refine WO.cutP 3 [(9, (.bool ((decide (agreeF (([(3 : Int), (2 : Int), (3 : Int)] : List Int)) = (2 : Int))) && (readyF ((1 : Int)) (([(3 : Int), (2 : Int), (3 : Int)] : List Int))))))] (fun w' => Kp [] w3 w') ?_ ?_
 rcases Bool.eq_false_or_eq_true (decide (agreeF (([(3 : Int), (2 : Int), (3 : Int)] : List Int)) = (2 : Int))) with hb4 | hb4
 have phb4 : agreeF (([(3 : Int), (2 : Int), (3 : Int)] : List Int)) = (2 : Int) := of_decide_eq_true hb4
 refine WO.on rfl rfl hb4 ?_
 refine WO.v (R.move rfl) rfl ?_
 refine WO.on rfl rfl hb4 ?_
 refine WO.c (E.call rfl rfl Try.func9 rfl rfl) (ready_s (v := (1 : Int)) (l := ([(3 : Int), (2 : Int), (3 : Int)] : List Int)) (a_l := (some ⟨w.heap.size, 0, none⟩)) (c_l := 3) ((ac_kp0 (ac2) k3 (by omega) (by omega)).pub (L := 0) (H := w3.heap.size) (by omega) (by omega) (by omega) (by omega))) rfl ?_
 rintro _ w5 ⟨rfl, k5⟩
 have z5 : w3.heap.size ≤ w5.heap.size := k5.size
 have b5 := old_kp0 b3 k5
 have y5 : w.heap.size ≤ w5.heap.size := b5.size
 refine WO.v (R.pickT rfl hb4 rfl) rfl ?_
 refine WO.nil ?_
 exact WX.cutDoneP 3 rfl rfl ⟨⟨_, rfl, vb (band_on hb4)⟩, trivial⟩ ((Kp.refl _).step k5 (by simp))
 have phb4 : ¬ (agreeF (([(3 : Int), (2 : Int), (3 : Int)] : List Int)) = (2 : Int)) := of_decide_eq_false hb4
 refine WO.off rfl rfl hb4 rfl ?_
 refine WO.off rfl rfl hb4 rfl ?_
 refine WO.v (R.pickF rfl hb4 rfl) rfl ?_
 refine WO.nil ?_
 exact WX.cutDoneP 3 rfl rfl ⟨⟨_, rfl, vb (band_off hb4)⟩, trivial⟩ (Kp.refl _)
 intro w6 k6
 have z6 : w3.heap.size ≤ w6.heap.size := k6.size
 have b6 := old_kp0 b3 k6
 have y6 : w.heap.size ≤ w6.heap.size := b6.size
 refine WO.v (R.move rfl) rfl ?_
 refine WO.cutP 4 [(14, (.bool (((decide (agreeF (([(3 : Int), (2 : Int), (3 : Int)] : List Int)) = (2 : Int))) && (readyF ((1 : Int)) (([(3 : Int), (2 : Int), (3 : Int)] : List Int)))) && (!(readyF ((2 : Int)) (([(3 : Int), (2 : Int), (3 : Int)] : List Int)))))))] (fun w' => Kp [] w6 w') ?_ ?_
 rcases Bool.eq_false_or_eq_true ((decide (agreeF (([(3 : Int), (2 : Int), (3 : Int)] : List Int)) = (2 : Int))) && (readyF ((1 : Int)) (([(3 : Int), (2 : Int), (3 : Int)] : List Int)))) with hb7 | hb7
 have phb7 : (agreeF (([(3 : Int), (2 : Int), (3 : Int)] : List Int)) = (2 : Int)) ∧ ((readyF ((1 : Int)) (([(3 : Int), (2 : Int), (3 : Int)] : List Int))) = true) := ⟨of_decide_eq_true (band_t hb7).1, (band_t hb7).2⟩
 refine WO.on rfl rfl hb7 ?_
 refine WO.v (R.move rfl) rfl ?_
 refine WO.on rfl rfl hb7 ?_
 refine WO.c (E.call rfl rfl Try.func9 rfl rfl) (ready_s (v := (2 : Int)) (l := ([(3 : Int), (2 : Int), (3 : Int)] : List Int)) (a_l := (some ⟨w.heap.size, 0, none⟩)) (c_l := 3) ((ac_kp0 (ac_kp0 (ac2) k3 (by omega) (by omega)) k6 (by omega) (by omega)).pub (L := 0) (H := w6.heap.size) (by omega) (by omega) (by omega) (by omega))) rfl ?_
 rintro _ w8 ⟨rfl, k8⟩
 have z8 : w6.heap.size ≤ w8.heap.size := k8.size
 have b8 := old_kp0 b6 k8
 have y8 : w.heap.size ≤ w8.heap.size := b8.size
 refine WO.on rfl rfl hb7 ?_
 refine WO.v (R.not rfl) rfl ?_
 refine WO.v (R.pickT rfl hb7 rfl) rfl ?_
 refine WO.nil ?_
 exact WX.cutDoneP 4 rfl rfl ⟨⟨_, rfl, vb (band_on hb7)⟩, trivial⟩ ((Kp.refl _).step k8 (by simp))
 have phb7 : (¬ (agreeF (([(3 : Int), (2 : Int), (3 : Int)] : List Int)) = (2 : Int))) ∨ ((readyF ((1 : Int)) (([(3 : Int), (2 : Int), (3 : Int)] : List Int))) = false) := Or.imp (fun h => of_decide_eq_false h) (fun h => h) (band_f hb7)
 refine WO.off rfl rfl hb7 rfl ?_
 refine WO.off rfl rfl hb7 rfl ?_
 refine WO.off rfl rfl hb7 rfl ?_
 refine WO.v (R.pickF rfl hb7 rfl) rfl ?_
 refine WO.nil ?_
 exact WX.cutDoneP 4 rfl rfl ⟨⟨_, rfl, vb (band_off hb7)⟩, trivial⟩ (Kp.refl _)
 intro w9 k9
 have z9 : w6.heap.size ≤ w9.heap.size := k9.size
 have b9 := old_kp0 b6 k9
 have y9 : w.heap.size ≤ w9.heap.size := b9.size
 refine WO.v (R.move rfl) rfl ?_
 refine WO.cutP 3 [(18, (.bool ((((decide (agreeF (([(3 : Int), (2 : Int), (3 : Int)] : List Int)) = (2 : Int))) && (readyF ((1 : Int)) (([(3 : Int), (2 : Int), (3 : Int)] : List Int)))) && (!(readyF ((2 : Int)) (([(3 : Int), (2 : Int), (3 : Int)] : List Int))))) && (decide (startsF ((2 : Int)) ((3 : Int)) = (32 : Int))))))] (fun w' => w9 = w') ?_ ?_
 rcases Bool.eq_false_or_eq_true (((decide (agreeF (([(3 : Int), (2 : Int), (3 : Int)] : List Int)) = (2 : Int))) && (readyF ((1 : Int)) (([(3 : Int), (2 : Int), (3 : Int)] : List Int)))) && (!(readyF ((2 : Int)) (([(3 : Int), (2 : Int), (3 : Int)] : List Int))))) with hb10 | hb10
 have phb10 : ((agreeF (([(3 : Int), (2 : Int), (3 : Int)] : List Int)) = (2 : Int)) ∧ ((readyF ((1 : Int)) (([(3 : Int), (2 : Int), (3 : Int)] : List Int))) = true)) ∧ ((readyF ((2 : Int)) (([(3 : Int), (2 : Int), (3 : Int)] : List Int))) = false) := ⟨⟨of_decide_eq_true (band_t (band_t hb10).1).1, (band_t (band_t hb10).1).2⟩, (bnot_t (band_t hb10).2)⟩
 refine WO.on rfl rfl hb10 ?_
 refine WO.c (E.call rfl rfl Try.func10 rfl rfl) (starts_s (a := (2 : Int)) (b := (3 : Int)) ) rfl ?_
 rintro _ _ ⟨rfl, rfl⟩
 refine WO.on rfl rfl hb10 ?_
 refine WO.v (R.eql rfl rfl) rfl ?_
 refine WO.v (R.pickT rfl hb10 rfl) rfl ?_
 refine WO.nil ?_
 exact WX.cutDoneP 3 rfl rfl ⟨⟨_, rfl, vb (band_on hb10)⟩, trivial⟩ (rfl)
 have phb10 : ((¬ (agreeF (([(3 : Int), (2 : Int), (3 : Int)] : List Int)) = (2 : Int))) ∨ ((readyF ((1 : Int)) (([(3 : Int), (2 : Int), (3 : Int)] : List Int))) = false)) ∨ ((readyF ((2 : Int)) (([(3 : Int), (2 : Int), (3 : Int)] : List Int))) = true) := Or.imp (fun h => Or.imp (fun h => of_decide_eq_false h) (fun h => h) (band_f h)) (fun h => (bnot_f h)) (band_f hb10)
 refine WO.off rfl rfl hb10 rfl ?_
 refine WO.off rfl rfl hb10 rfl ?_
 refine WO.v (R.pickF rfl hb10 rfl) rfl ?_
 refine WO.nil ?_
 exact WX.cutDoneP 3 rfl rfl ⟨⟨_, rfl, vb (band_off hb10)⟩, trivial⟩ (rfl)
 rintro _ rfl
 refine WO.v (R.assign rfl) rfl ?_
 refine WO.nil ?_
 refine WX.sel [0, 1] rfl ?_
 refine WX.next ?_
 refine WC.ret ?_
 have e0 : ((((decide (agreeF (([(3 : Int), (2 : Int), (3 : Int)] : List Int)) = (2 : Int))) && (readyF ((1 : Int)) (([(3 : Int), (2 : Int), (3 : Int)] : List Int)))) && (!(readyF ((2 : Int)) (([(3 : Int), (2 : Int), (3 : Int)] : List Int))))) && (decide (startsF ((2 : Int)) ((3 : Int)) = (32 : Int)))) = true := by decide
 refine WX.ret1 Try.results7 rfl ?_
 exact ⟨by rw [e0], Kp.of_below b9⟩


end Go.Proofs.Ytaenkjlhdlddgaa
