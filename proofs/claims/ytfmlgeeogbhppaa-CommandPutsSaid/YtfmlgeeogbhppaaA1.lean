/- Contracts of functions, walked operation by operation. -/
import Derived.Test.YtfmlgeeogbhppaaTy
import Derived.Test.YtfmlgeeogbhppaaSet
namespace Go.Proofs.Ytfmlgeeogbhppaa
open Go.RowKit

def startsF (a b : Int) : Int := if (1 ≤ a ∧ a ≤ 3) ∧ (1 ≤ b ∧ b ≤ 3) then (if a < b then 32 else 0) else 1
def knownF (n : Int) : Bool := decide (1 ≤ n) && decide (n ≤ 3)
def idxF (p : Int → Bool) (l : List Int) : Int := match l.findIdx? p with | some i => (i : Int) | none => -1
theorem idx_step {p : Int → Bool} {l : List Int} {k : Nat} {x : Int} (h : ∀ j y, j < k → l[j]? = some y → p y = false) (hx : l[k]? = some x) (hp : p x = false) : ∀ j y, j < k + 1 → l[j]? = some y → p y = false := by
  intro j y hj hy
  by_cases hjk : j = k
  · subst hjk; rw [hx] at hy; cases hy; exact hp
  · exact h j y (by omega) hy
theorem idxF_none {p : Int → Bool} {l : List Int} {k : Nat} (h : ∀ j y, j < k → l[j]? = some y → p y = false) (hk : l.length ≤ k) : idxF p l = -1 := by
  have : l.findIdx? p = none := by
    rw [List.findIdx?_eq_none_iff]
    intro x hx
    obtain ⟨j, hj, rfl⟩ := List.getElem_of_mem hx
    exact h j _ (by omega) (List.getElem?_eq_getElem hj)
  simp [idxF, this]
theorem idxF_found {p : Int → Bool} {l : List Int} {k : Nat} {x : Int} (h : ∀ j y, j < k → l[j]? = some y → p y = false) (hx : l[k]? = some x) (hp : p x = true) : idxF p l = k := by
  have : l.findIdx? p = some k := by
    obtain ⟨hk, rfl⟩ := List.getElem?_eq_some_iff.1 hx
    rw [List.findIdx?_eq_some_iff_getElem]
    exact ⟨hk, hp, fun j hj => by rw [h j _ hj (List.getElem?_eq_getElem (by omega))]; simp⟩
  simp [idxF, this]
theorem contains_eq (l : List Int) : decide (0 ≤ idxF (fun n => !knownF n) l) = !l.all knownF := by
  unfold idxF
  cases h : l.findIdx? (fun n => !knownF n) with
  | none => rw [List.findIdx?_eq_none_iff] at h; simp at h ⊢; exact h
  | some i =>
    rw [List.findIdx?_eq_some_iff_getElem] at h
    obtain ⟨hi, hp, _⟩ := h
    simp at hp ⊢
    exact ⟨l[i], List.getElem_mem hi, hp⟩
def minTo (l : List Int) (k : Nat) : Int := ((l.take k).tail).foldl min (l.headD 0)
def minF (l : List Int) : Int := l.tail.foldl min (l.headD 0)
def agreeF (l : List Int) : Int := if decide (l.length = 0) || !l.all knownF then 0 else minF l
def readyF (v : Int) (l : List Int) : Bool := (decide (1 ≤ v) && decide (v < 3)) && decide (v < agreeF l)
theorem take_succ_get {α : Type} {l : List α} {k : Nat} {x : α} (hx : l[k]? = some x) : l.take (k + 1) = l.take k ++ [x] := by
  rw [List.take_add_one, hx]; rfl
theorem known_step {l : List Int} {k : Nat} {x : Int} (h : ∀ j y, j < k → l[j]? = some y → knownF y = true) (hx : l[k]? = some x) (hp : knownF x = true) : ∀ j y, j < k + 1 → l[j]? = some y → knownF y = true := by
  intro j y hj hy
  by_cases hjk : j = k
  · subst hjk; rw [hx] at hy; cases hy; exact hp
  · exact h j y (by omega) hy
theorem foldl_step {l : List Int} {k : Nat} {x z : Int} (hx : l[k]? = some x) : min ((l.take k).foldl min z) x = (l.take (k + 1)).foldl min z := by
  rw [take_succ_get hx, List.foldl_append]; rfl
theorem minTo_step {l : List Int} {k : Nat} {x : Int} (hk : 1 ≤ k) (hx : l[k]? = some x) : min (minTo l k) x = minTo l (k + 1) := by
  unfold minTo
  rw [take_succ_get hx, List.tail_append_of_ne_nil, List.foldl_append]
  · rfl
  · intro h
    have h3 : (l.take k).length = 0 := by rw [h]; rfl
    have h2 := get_lt hx
    rw [List.length_take] at h3
    omega
theorem minTo_one {l : List Int} {x : Int} (hx : l[0]? = some x) : x = minTo l 1 := by
  cases l with
  | nil => simp at hx
  | cons a r => simp at hx; simp [minTo, hx]
theorem minTo_all {l : List Int} {k : Nat} (hk : l.length ≤ k) : minTo l k = minF l := by
  unfold minTo minF; rw [List.take_of_length_le hk]
theorem agreeF_q1 {l : List Int} (h : (decide (((l.length : Nat) : Int) = 0) || !l.all knownF) = true) : 0 = agreeF l := by
  have e : decide (((l.length : Nat) : Int) = 0) = decide (l.length = 0) := by simp
  rw [e] at h; unfold agreeF; rw [h]; rfl
theorem agreeF_q2 {l : List Int} (h : (decide (((l.length : Nat) : Int) = 0) || !l.all knownF) = false) : minF l = agreeF l := by
  have e : decide (((l.length : Nat) : Int) = 0) = decide (l.length = 0) := by simp
  rw [e] at h; unfold agreeF; rw [h]; rfl
theorem agreeF_nil {l : List Int} (h : ((l.length : Nat) : Int) = 0) : agreeF l = 0 := by
  have : l = [] := List.eq_nil_of_length_eq_zero (by omega)
  simp [agreeF, this]
theorem agreeF_bad {l : List Int} {k : Nat} {x : Int} (hx : l[k]? = some x) (h : knownF x = false) : agreeF l = 0 := by
  have : l.all knownF = false := by
    rw [List.all_eq_false]
    exact ⟨x, List.mem_of_getElem? hx, by simp [h]⟩
  simp [agreeF, this]
theorem foldl_min_le (l : List Int) : ∀ z : Int, l.foldl min z ≤ z := by
  induction l with
  | nil => intro z; exact Int.le_refl _
  | cons a l ih => intro z; exact Int.le_trans (ih _) (by omega)
theorem agreeF_ok {l : List Int} {k : Nat} (h : ∀ j y, j < k → l[j]? = some y → knownF y = true) (hk : l.length ≤ k) (h0 : ¬ ((l.length : Nat) : Int) = 0) : agreeF l = (l.take k).foldl min 3 := by
  have hall : l.all knownF = true := by
    rw [List.all_eq_true]
    intro x hx
    obtain ⟨j, hj, rfl⟩ := List.getElem_of_mem hx
    exact h j _ (by omega) (List.getElem?_eq_getElem hj)
  rw [List.take_of_length_le hk]
  cases l with
  | nil => simp at h0
  | cons a r =>
    have ha : knownF a = true := h 0 a (by simp at hk; omega) rfl
    simp only [knownF, Bool.and_eq_true, decide_eq_true_eq] at ha
    have e : min 3 a = a := by omega
    simp [agreeF, hall, minF, e]





end Go.Proofs.Ytfmlgeeogbhppaa
