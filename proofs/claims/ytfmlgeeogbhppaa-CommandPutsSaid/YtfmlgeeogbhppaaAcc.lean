/- Slices that a call builds: append, make, and stores into rows of its own. Conditions: each lemma's own. -/
import Derived.Test.YtfmlgeeogbhppaaOps
namespace Go.Proofs.Ytfmlgeeogbhppaa
open Go.RowKit

/-- A slice in a row of the call's own (from block lo on), whose elements read as xs (o2, lo2: theirs). -/
def Ac {α : Type} [Rp α] (lo : Nat) (o2 : Bool) (lo2 hi2 hi : Nat) (w : World) (v : Value) (xs : List α) : Prop :=
  xs.length * Rp.by_ α ≤ 140737488355328 ∧ ∃ css, ((xs = [] ∧ ∃ a, v = .slice a 0 0) ∨ (w.ownsRow lo (Rp.tid α) (Rp.sz α) v xs.length css.flatten ∧ ∀ g, v.ownBlock = some g → g < hi)) ∧ All2 (Rp.rp o2 lo2 hi2 w) css xs
/-- What is appended. -/
def Src {α : Type} [Rp α] (o2 : Bool) (lo2 hi2 : Nat) (w : World) (A : Option Addr) (ys : List α) : Prop :=
  ∃ css, All2 (Rp.rp o2 lo2 hi2 w) css ys ∧ (ys = [] ∨ ∃ ad, A = some ad ∧ CellsAt w ad css.flatten)
/-- The row that an append may write: none where there is no room. -/
def ob : Value → List Nat
  | .slice (some a) _ c => if c = 0 then [] else [a.block]
  | _ => []
theorem ob_own {v : Value} {g : Nat} (h : g ∈ ob v) : v.ownBlock = some g := by
  cases v <;> simp only [ob, List.not_mem_nil] at h
  rename_i a n c
  cases a with
  | none => simp at h
  | some a =>
    simp only at h
    split at h
    · simp at h
    · simp at h; simp [Value.ownBlock, h]

section
variable {α : Type} [Rp α] {lo lo2 hi2 hi : Nat} {o o2 : Bool} {w w' : World} {v : Value} {xs ys : List α}
theorem Ac.empty (lo : Nat) (o2 : Bool) (lo2 hi2 hi : Nat) (w : World) (a : Option Addr) : Ac (α := α) lo o2 lo2 hi2 hi w (.slice a 0 0) [] := ⟨by simp, [], .inl ⟨rfl, a, rfl⟩, .nil⟩
theorem Ac.nil (lo : Nat) (o2 : Bool) (lo2 hi2 hi : Nat) (w : World) : Ac (α := α) lo o2 lo2 hi2 hi w (.slice none 0 0) [] := Ac.empty _ _ _ _ _ _ _
theorem Ac.bd (h : Ac lo o2 lo2 hi2 hi w v xs) : ∀ g ∈ ob v, lo ≤ g ∧ g < hi := by
  obtain ⟨_, css, h1, _⟩ := h
  intro g hg
  have hg' := ob_own hg
  rcases h1 with ⟨_, a, rfl⟩ | ⟨h1, h2⟩
  · cases a <;> simp [ob] at hg
  · exact ⟨(h1.lt g hg').1, h2 g hg'⟩
theorem Ac.lenle (h : Ac lo o2 lo2 hi2 hi w v xs) : xs.length * Rp.by_ α ≤ 140737488355328 := h.1
theorem Ac.form (h : Ac lo o2 lo2 hi2 hi w v xs) : ∃ a c, v = .slice a xs.length c := by
  obtain ⟨_, css, h1, _⟩ := h
  rcases h1 with ⟨h0, a, rfl⟩ | ⟨h1, _⟩
  · subst h0; exact ⟨a, 0, rfl⟩
  · rcases h1.2 with ⟨rfl, h0⟩ | ⟨g, cap, cur, rfl, _⟩
    · exact ⟨none, 0, by rw [h0]⟩
    · exact ⟨_, _, rfl⟩
theorem ownsRow_of {w' : World} {e : TypeId} {s n : Nat} {cs : List Value} (h : w.ownsRow lo e s v n cs) (k : ∀ g, v.ownBlock = some g → w'.heap[g]? = w.heap[g]?) : w'.ownsRow lo e s v n cs := by
  refine ⟨h.1, ?_⟩
  rcases h.2 with h0 | ⟨g, cap, cur, hv, hg, hh, r⟩
  · exact .inl h0
  · exact .inr ⟨g, cap, cur, hv, hg, (k g (by simp [hv, Value.ownBlock])).trans hh, r⟩
theorem Ac.keep (h : Ac lo o2 lo2 hi2 hi w v xs) (k : ∀ b, lo ≤ b → b < hi → w'.heap[b]? = w.heap[b]?) (k2 : ∀ b, lo2 ≤ b → b < hi2 → w'.heap[b]? = w.heap[b]?) : Ac lo o2 lo2 hi2 hi w' v xs := by
  obtain ⟨hB, css, h1, h3⟩ := h
  refine ⟨hB, css, ?_, h3.imp fun _ _ h => Rp.keep h k2⟩
  rcases h1 with h0 | ⟨h1, h2⟩
  · exact .inl h0
  · exact .inr ⟨ownsRow_of h1 fun g hg => k g (h1.lt g hg).1 (h2 g hg), h2⟩
theorem Ac.mono {lo' lo2' hi2' hi' : Nat} (h : Ac lo o2 lo2 hi2 hi w v xs) (a : lo' ≤ lo) (b : lo2' ≤ lo2) (b' : hi2 ≤ hi2') (c : hi ≤ hi') : Ac lo' o2 lo2' hi2' hi' w v xs := by
  obtain ⟨hB, css, h1, h3⟩ := h
  refine ⟨hB, css, ?_, h3.imp fun _ _ h => Rp.mono h b b'⟩
  rcases h1 with h0 | ⟨h1, h2⟩
  · exact .inl h0
  · refine .inr ⟨⟨h1.1, ?_⟩, fun g hg => Nat.lt_of_lt_of_le (h2 g hg) c⟩
    rcases h1.2 with h0 | ⟨g, cap, cur, hv, hg, r⟩
    · exact .inl h0
    · exact .inr ⟨g, cap, cur, hv, by omega, r⟩
theorem Ac.weak (h : Ac lo o2 lo2 hi2 hi w v xs) : Ac lo false lo2 hi2 hi w v xs := by
  obtain ⟨hB, css, h1, h3⟩ := h
  exact ⟨hB, css, h1, h3.imp fun _ _ h => Rp.weak h⟩
theorem sl_empty (o : Bool) (lo hi : Nat) (w : World) (a : Option Addr) : Sl (α := α) o lo hi w (.slice a 0 0) [] := ⟨a, 0, [], rfl, Nat.le_refl _, ⟨by simp [maxLen], by simp⟩, .nil, .inl rfl, fun _ => .inl rfl⟩
/-- As what others read. -/
theorem Ac.pub {L H : Nat} (h : Ac lo o2 lo2 hi2 hi w v xs) (h1 : L ≤ lo) (h2 : L ≤ lo2) (h3 : hi ≤ H) (h4 : hi2 ≤ H) : Sl false L H w v xs := by
  obtain ⟨hB, css, hr, ha⟩ := h.weak
  rcases hr with ⟨rfl, a, rfl⟩ | ⟨hw, hb⟩
  · exact sl_empty _ _ _ _ _
  rcases hw.2 with ⟨rfl, h0⟩ | ⟨g, cap, cur, rfl, hg, hh, hn, hm, hs, ht⟩
  · have hx : xs = [] := List.eq_nil_of_length_eq_zero h0
    subst hx
    exact Sl.nil _ _ _ _
  · have := hb g rfl
    refine ⟨some ⟨g, 0, none⟩, cap, css, rfl, hn, ⟨hm, hB⟩, ha.imp fun _ _ h => Rp.mono h h2 h4, .inr ⟨⟨g, 0, none⟩, rfl, by simp only []; omega, by simp only []; omega, hw.cells (g := g) rfl⟩, fun h => by cases h⟩
/-- As what is the call's own, whole. -/
theorem Ac.own {L H : Nat} (h : Ac lo true lo2 hi2 hi w v xs) (h1 : L ≤ lo) (h2 : L ≤ lo2) (h3 : hi ≤ H) (h4 : hi2 ≤ H) : Sl true L H w v xs := by
  obtain ⟨hB, css, hr, ha⟩ := h
  rcases hr with ⟨rfl, a, rfl⟩ | ⟨hw, hb⟩
  · exact sl_empty _ _ _ _ _
  rcases hw.2 with ⟨rfl, h0⟩ | ⟨g, cap, cur, rfl, hg, hh, hn, hm, hs, ht⟩
  · have hx : xs = [] := List.eq_nil_of_length_eq_zero h0
    subst hx
    exact Sl.nil _ _ _ _
  · have := hb g rfl
    exact ⟨some ⟨g, 0, none⟩, cap, css, rfl, hn, ⟨hm, hB⟩, ha.imp fun _ _ h => Rp.mono h h2 h4, .inr ⟨⟨g, 0, none⟩, rfl, by simp only []; omega, by simp only []; omega, hw.cells (g := g) rfl⟩,
      fun _ => .inr ⟨g, cur, (0, 0), rfl, by omega, by omega, ⟨hh, Rp.mrk0⟩, hs⟩⟩
theorem Sl.ac (h : Sl true lo hi w v xs) (hM : ∀ fr, Rp.mrk α fr → fr = (0, 0) := by exact fun _ h => h) : Ac lo true lo hi hi w v xs := by
  obtain ⟨a, c, css, rfl, h1, h2, h3, h4, h5⟩ := h
  have hfl : css.flatten.length = xs.length * Rp.sz α := by rw [flatten_length h3.lens, h3.length]
  rcases h5 rfl with hc | ⟨g, cur, fr, rfl, hlo, hhi, ⟨hh, hmk⟩, hs⟩
  · subst hc
    have hx : xs = [] := List.eq_nil_of_length_eq_zero (by omega)
    subst hx
    exact Ac.empty _ _ _ _ _ _ _
  · have := hM fr hmk
    subst this
    refine ⟨h2.2, css, .inr ⟨⟨hfl, .inr ⟨g, c, cur, rfl, hlo, hh, h1, h2.1, hs, ?_⟩⟩, fun g' hg' => by simp [Value.ownBlock] at hg'; omega⟩, h3⟩
    rcases h4 with h4 | ⟨A, hA, _, _, hc⟩
    · subst h4; cases h3; simp
    · cases hA
      apply List.ext_getElem?
      intro j
      rw [← hfl]
      by_cases hj : j < css.flatten.length
      · have h6 := hc j _ (List.getElem?_eq_getElem hj)
        rw [add_lit, Nat.zero_add, cell_of_row w g j cur _ _ hh] at h6
        rw [List.getElem?_take, if_pos hj, List.getElem?_eq_getElem hj, ← h6]
        simp
      · rw [List.getElem?_take, if_neg hj, List.getElem?_eq_none (by omega)]
theorem ac_kp0 (h : Ac lo o2 lo2 hi2 hi w v xs) (k : Kp [] w w') (hhi : hi ≤ w.heap.size) (hhi2 : hi2 ≤ w.heap.size) : Ac lo o2 lo2 hi2 hi w' v xs := h.keep (fun b _ hb => k.block b (by omega) (by simp)) (fun b _ hb => k.block b (by omega) (by simp))
theorem ac_kp {S : List Nat} (h : Ac lo o2 lo2 hi2 hi w v xs) (k : Kp S w w') (hhi : hi ≤ w.heap.size) (hhi2 : hi2 ≤ w.heap.size) (hS : ∀ g ∈ S, (g < lo ∨ hi ≤ g) ∧ (g < lo2 ∨ hi2 ≤ g)) : Ac lo o2 lo2 hi2 hi w' v xs :=
  h.keep (fun b h1 h2 => k.block b (by omega) fun hm => by have := hS b hm; omega) (fun b h1 h2 => k.block b (by omega) fun hm => by have := hS b hm; omega)
theorem Ac.row (h : Ac lo o2 lo2 hi2 hi w v xs) : (xs = [] ∧ ∃ a, v = .slice a 0 0) ∨ ∃ g c cur, v = .slice (some ⟨g, 0, none⟩) xs.length c ∧ w.heap[g]? = some (.cells cur (Rp.tid α) (0, 0)) := by
  obtain ⟨_, css, h1, _⟩ := h
  rcases h1 with h0 | ⟨h1, _⟩
  · exact .inl h0
  · rcases h1.2 with ⟨rfl, h0⟩ | ⟨g, cap, cur, rfl, _, hh, _⟩
    · exact .inl ⟨List.eq_nil_of_length_eq_zero h0, none, rfl⟩
    · exact .inr ⟨g, cap, cur, rfl, hh⟩
theorem Ac.ty (h : Ac lo o2 lo2 hi2 hi w v xs) : ∀ g ∈ ob v, ∃ cur, w.heap[g]? = some (.cells cur (Rp.tid α) (0, 0)) := by
  intro g hg
  have hg' := ob_own hg
  rcases h.row with ⟨_, a, rfl⟩ | ⟨g', c, cur, rfl, hh⟩
  · cases a <;> simp [ob] at hg
  · cases hg'; exact ⟨cur, hh⟩
/-- A row of another call's own is written: ours is another one. -/
theorem ac_kpD {S : List Nat} (h : Ac lo o2 lo2 hi2 hi w v xs) (k : Kp S w w') (hhi : hi ≤ w.heap.size) (hhi2 : hi2 ≤ w.heap.size) (hD : ∀ g ∈ ob v, g ∉ S)
    (hE : Rp.inner α = [] ∨ (o2 = true ∧ ∀ g ∈ S, ∃ cur t, w.heap[g]? = some (.cells cur t (0, 0)) ∧ t ∉ Rp.inner α) ∨ (∀ g ∈ S, g < lo2 ∨ hi2 ≤ g)) : Ac lo o2 lo2 hi2 hi w' v xs := by
  obtain ⟨hB, css, h1, h3⟩ := h
  refine ⟨hB, css, ?_, h3.imp fun _ _ hz => ?_⟩
  · rcases h1 with h0 | ⟨h1, h2⟩
    · exact .inl h0
    · by_cases hc : ∃ a, v = .slice a 0 0
      · obtain ⟨a, rfl⟩ := hc
        refine .inl ⟨?_, a, rfl⟩
        rcases h1.2 with ⟨_, h0⟩ | ⟨g, cap, cur, hv, _, _, hn, _⟩
        · exact List.eq_nil_of_length_eq_zero h0
        · injection hv with _ e1 _; exact List.eq_nil_of_length_eq_zero e1.symm
      · refine .inr ⟨ownsRow_of h1 fun g hg => k.block g (by have := h2 g hg; omega) (hD g ?_), h2⟩
        rcases h1.2 with ⟨rfl, h0⟩ | ⟨g', cap, cur, rfl, _, _, hn, _⟩
        · cases hg
        · cases hg
          simp only [ob]
          rw [if_neg]
          · simp
          · intro h0; subst h0; exact hc ⟨_, by rw [show xs.length = 0 by omega]⟩
  · rcases hE with h | ⟨h, hni⟩ | h
    · exact Rp.keepT hz (.inl h) fun b cur t _ _ _ _ ht => by rw [h] at ht; cases ht
    · refine Rp.keepT hz (.inr h) fun b cur t fr _ hb hbt ht => k.block b (by omega) fun hm => ?_
      obtain ⟨cur', t', hc, hn⟩ := hni b hm
      rw [hc] at hbt
      injection hbt with hbt
      injection hbt with _ he
      exact hn (he ▸ ht)
    · exact Rp.keep hz fun b a1 hb => k.block b (by omega) fun hm => by have := h b hm; omega
/-- Rows of unlike types differ. -/
theorem ac_ne {β : Type} [Rp β] {lo' lo2' hi2' hi' : Nat} {o2' : Bool} {u : Value} {ys : List β} (h : Ac lo o2 lo2 hi2 hi w v xs) (h' : Ac lo' o2' lo2' hi2' hi' w u ys) (hne : Rp.tid α ≠ Rp.tid β) : ∀ g ∈ ob v, g ∉ ob u := by
  intro g hg hg'
  obtain ⟨c, hc⟩ := h.ty g hg
  obtain ⟨c', hc'⟩ := h'.ty g hg'
  rw [hc] at hc'
  injection hc' with hc'
  injection hc' with _ he
  exact hne he
theorem blk_kpT {S : List Nat} {g : Nat} {t t' : TypeId} {cs : List Value} (h : Blk w g t cs) (k : Kp S w w') (hS : ∀ g ∈ S, ∃ cur, w.heap[g]? = some (.cells cur t' (0, 0))) (hne : t ≠ t') : Blk w' g t cs :=
  h.kp k fun hm => by
    obtain ⟨c, hc⟩ := hS g hm
    unfold Blk at h
    rw [h] at hc
    injection hc with hc
    injection hc with _ he
    exact hne he
/-- What is the call's own, whole, of rows of other types. -/
theorem sl_kpT {S : List Nat} {t' : TypeId} (h : Sl true lo hi w v xs) (k : Kp S w w') (hhi : hi ≤ w.heap.size) (hS : ∀ g ∈ S, ∃ cur, w.heap[g]? = some (.cells cur t' (0, 0))) (hne : t' ∉ Rp.tid α :: Rp.inner α) : Sl true lo hi w' v xs :=
  h.keepT fun b cur t fr _ hb hbt ht => k.block b (by omega) fun hm => by
    obtain ⟨c, hc⟩ := hS b hm
    rw [hc] at hbt
    injection hbt with hbt
    injection hbt with _ he
    exact hne (he ▸ ht)
theorem Src.of_sl {A : Option Addr} {n c : Nat} (h : Sl o lo hi w (.slice A n c) ys) (ho : o2 = true → o = true) (hlo : lo2 ≤ lo) (hhi : hi ≤ hi2) : Src o2 lo2 hi2 w A ys := by
  obtain ⟨a, c', css, hv, _, _, h3, h4, _⟩ := h
  injection hv with e1
  subst e1
  refine ⟨css, h3.imp fun _ _ h => ?_, ?_⟩
  · have h5 := Rp.mono h hlo hhi
    cases o2 with
    | true => rw [ho rfl] at h5; exact h5
    | false => exact Rp.weak h5
  · rcases h4 with h4 | ⟨A, hA, _, _, hc⟩
    · exact .inl h4
    · exact .inr ⟨A, hA, hc⟩
/-- ..of elements that hold no memory. -/
theorem Src.flat {A : Option Addr} {n c : Nat} (h : Sl o lo hi w (.slice A n c) ys) (hff : ∀ {o o' : Bool} {a b a' b' : Nat} {w : World} {cs : List Value} {x : α}, Rp.rp o a b w cs x → Rp.rp o' a' b' w cs x) : Src o2 lo2 hi2 w A ys := by
  obtain ⟨a, c', css, hv, _, _, h3, h4, _⟩ := h
  injection hv with e1
  subst e1
  refine ⟨css, h3.imp fun _ _ h => hff h, ?_⟩
  rcases h4 with h4 | ⟨A, hA, _, _, hc⟩
  · exact .inl h4
  · exact .inr ⟨A, hA, hc⟩
theorem Src.of_ac {A : Option Addr} {m c : Nat} (h : Ac lo o2 lo2 hi2 hi w (.slice A m c) ys) : Src o2 lo2 hi2 w A ys := by
  obtain ⟨_, css, hr, ha⟩ := h
  refine ⟨css, ha, ?_⟩
  rcases hr with ⟨h0, _⟩ | ⟨hw, hb⟩
  · exact .inl h0
  rcases hw.2 with ⟨hv, h0⟩ | ⟨g, cap, cur, hv, hg, hh, hn, hm, hs, ht⟩
  · exact .inl (List.eq_nil_of_length_eq_zero h0)
  · refine .inr ⟨⟨g, 0, none⟩, by injection hv, hw.cells (g := g) (by rw [hv]; rfl)⟩
theorem Src.lit {g : Nat} {e : TypeId} {css : List (List Value)} (hb : Blk w g e css.flatten) (h : All2 (Rp.rp o2 lo2 hi2 w) css ys) : Src o2 lo2 hi2 w (some ⟨g, 0, none⟩) ys := ⟨css, h, .inr ⟨_, rfl, hb.cells⟩⟩
/-- A new literal row. -/
theorem Ac.lit {g : Nat} {css : List (List Value)} (hb : Blk w g (Rp.tid α) css.flatten) (h : All2 (Rp.rp o2 lo2 hi2 w) css ys) (hlo : lo ≤ g) (hhi : g < hi) (hm : ys.length ≤ maxLen) (hB : ys.length * Rp.by_ α ≤ 140737488355328) {n : Nat} (hn : ys.length = n) : Ac lo o2 lo2 hi2 hi w (.slice (some ⟨g, 0, none⟩) n n) ys := by
  subst hn
  have hfl : css.flatten.length = ys.length * Rp.sz α := by rw [flatten_length h.lens, h.length]
  refine ⟨hB, css, .inr ⟨⟨hfl, .inr ⟨g, ys.length, css.flatten.toArray, rfl, hlo, hb, Nat.le_refl _, hm, by simpa using hfl, ?_⟩⟩, fun g' hg' => by simp [Value.ownBlock] at hg'; omega⟩, h⟩
  rw [← hfl]
  exact List.take_length
end

theorem dj_cast {α β : Type} {xs ys : List α} {us vs : List β} {a a' : Option Addr} {c c' : Nat} (e1 : xs = ys) (e2 : us = vs) (h : ∀ g ∈ ob (.slice a xs.length c), g ∉ ob (.slice a' us.length c')) : ∀ g ∈ ob (.slice a ys.length c), g ∉ ob (.slice a' vs.length c') := by
  subst e1; subst e2; exact h
/-- One element. -/
theorem all1 {α : Type} [Rp α] {o : Bool} {lo hi : Nat} {w : World} {cs : List Value} {x : α} (h : Rp.rp o lo hi w cs x) : All2 (Rp.rp o lo hi w) [cs] [x] := .cons h .nil
theorem Src.none {α : Type} [Rp α] {o : Bool} {lo hi : Nat} {w : World} {A : Option Addr} : Src (α := α) o lo hi w A [] := ⟨[], .nil, .inl rfl⟩
theorem info_of {P : Program} {e : TypeId} {s b : Nat} {z : List Value} (h : (P.info? e).map (fun i => (i.zero.map Value.cells, i.size, i.bytes)) = some (some z.toArray, s, b)) :
    ∃ i zv, P.info? e = some i ∧ i.zero = some zv ∧ zv.cells = z.toArray ∧ i.size = s ∧ i.bytes = b := by
  cases hq : P.info? e with
  | none => simp [hq] at h
  | some i =>
    simp only [hq, Option.map_some, Option.some.injEq, Prod.mk.injEq, Option.map_eq_some_iff] at h
    obtain ⟨⟨zv, h1, h2⟩, h3, h4⟩ := h
    exact ⟨i, zv, rfl, h1, h2, h3, h4⟩

section
variable {P : Program} {n : Nat} {fr : Fr} {w : World} {x y : Operand} {ty t : TypeId} {Q : Exit → Act → World → Prop} {l rest : List Oper} {d : Nat} {pos : String} {af : Array Edge}
variable {α : Type} [Rp α] {lo lo2 hi2 hi : Nat} {o2 : Bool} {v : Value} {xs ys : List α}
theorem WO.append {A : Option Addr} {m c s b : Nat} {z : List Value} (hx : ev fr x = some v) (hv : Ac lo o2 lo2 hi2 hi w v xs) (hhi : hi ≤ w.heap.size) (hhi2 : hi2 ≤ w.heap.size) (hlo : lo ≤ w.heap.size) (hy : ev fr y = some (.slice A m c)) (hm : m = ys.length) (hys : Src o2 lo2 hi2 w A ys) (hsep : Rp.inner α = [] ∨ (o2 = true ∧ Rp.tid α ∉ Rp.inner α) ∨ hi2 ≤ lo)
    (ht : P.underlying t = some (.slice (Rp.tid α))) (hi' : (P.info? (Rp.tid α)).map (fun i => (i.zero.map Value.cells, i.size, i.bytes)) = some (some z.toArray, s, b)) (hs : Rp.sz α = s) (hby : Rp.by_ α = b) (hz : z.length = s) (hs0 : 0 < s)
    (hlen : (xs.length + ys.length) * b ≤ 140737488355328) (h63 : xs.length + ys.length ≤ 9223372036854775807) (hd : Nat.blt d n = true)
    (k : ∀ a' c' w', Ac lo o2 lo2 hi2 w'.heap.size w' (.slice a' (xs ++ ys).length c') (xs ++ ys) → Kp (ob v) w w' → (∀ g ∈ ob (.slice a' (xs ++ ys).length c'), g ∈ ob v ∨ (g = w.heap.size ∧ w.heap.size < w'.heap.size)) → WO P Q n l rest ((d, .slice a' (xs ++ ys).length c') :: fr) w') :
    WO P Q n l (⟨some d, .call { callee := .builtin .append, args := #[x, y], argTypes := #[t, t] }, ty, pos, af, none⟩ :: rest) fr w := by
  subst hm
  obtain ⟨i, zv, hq, hzv, hzc, hsz, hby_⟩ := info_of hi'
  have hvrow := hv.ty
  obtain ⟨_, css, hrow, hall⟩ := hv
  obtain ⟨cys, hally, hcells⟩ := hys
  have hh : hi ≤ w.heap.size := hhi
  have hfl : cys.flatten.length = ys.length * Rp.sz α := by rw [flatten_length hally.lens, hally.length]
  have hones := hally.ones
  have hzs : zv.cells.size = Rp.sz α := by rw [hzc, hs]; simpa using hz
  have hcl : ∀ ad, A = some ad → ∀ j u, cys.flatten[j]? = some u → w.cell? (ad.add j) = some u := by
    intro ad hA j u hu
    rcases hcells with h | ⟨ad', h, hc⟩
    · subst h; cases hally; simp at hu
    · rw [hA] at h; cases h; exact hc j u hu
  have hA0 : A = none → ys = [] := by
    intro hA
    rcases hcells with h | ⟨ad', h, hc⟩
    · exact h
    · rw [hA] at h; cases h
  -- what the append does to any row of the call's own
  have runOwn : ∀ (v : Value) (n : Nat) (olds : List Value), w.ownsRow lo (Rp.tid α) (Rp.sz α) v n olds → n + ys.length ≤ 9223372036854775807 → (n + ys.length) * b ≤ 140737488355328 →
      ∃ v' w', (Builtin.append_ #[t, t] ty #[v, .slice A ys.length c]).run P w = .ok v' w' ∧ w'.ownsRow lo (Rp.tid α) (Rp.sz α) v' (n + ys.length) (olds ++ cys.flatten) ∧ w.grownBy w' v.ownBlock ∧
        (v'.ownBlock = v.ownBlock ∨ v'.ownBlock = some w.heap.size) ∧ (v'.ownBlock = some w.heap.size → w.heap.size < w'.heap.size) := by
    intro v n olds hown h63 hlen
    rcases A with _ | ad
    · have hy0 := hA0 rfl
      subst hy0
      cases hally
      refine ⟨v, w, ?_, by simpa using hown, ⟨rfl, rfl, rfl, Nat.le_refl _, fun _ _ _ => rfl⟩, .inl rfl, fun h => ?_⟩
      · rcases hown.2 with ⟨rfl, h0⟩ | ⟨g, cap, cur, rfl, _, _, hnc, _⟩
        · simp [Builtin.append_, run_underlying ht, sizeOf, typeInfo, hq, Builtin.lenOf, Builtin.firstCells]
        · simp [Builtin.append_, run_underlying ht, sizeOf, typeInfo, hq, Builtin.lenOf, Builtin.firstCells, hnc, storeCells]
      · exact absurd (hown.lt _ h).2 (by omega)
    · obtain ⟨v', w', hrun, h2, h3, _, h5⟩ := run_append_own_at (P := P) w lo t ty (Rp.tid α) i zv (Rp.sz α) b ht hq hzv (hsz.trans hs.symm) hby_ hzs (by omega) v n olds hown ad ys.length c cys.flatten hfl (hcl ad rfl) hones (by simpa [maxLen] using h63) hlen (by omega)
      exact ⟨v', w', hrun, h2, h3, h5, fun h => (h2.lt _ h).2⟩
  have run : ∃ v' w', (Builtin.append_ #[t, t] ty #[v, .slice A ys.length c]).run P w = .ok v' w' ∧ ((xs ++ ys = [] ∧ ∃ a, v' = .slice a 0 0) ∨ w'.ownsRow lo (Rp.tid α) (Rp.sz α) v' (xs.length + ys.length) (css.flatten ++ cys.flatten)) ∧ Kp (ob v) w w' ∧
      (∀ g ∈ ob v', g ∈ ob v ∨ (g = w.heap.size ∧ w.heap.size < w'.heap.size)) := by
    by_cases hcap : ∃ a, v = .slice a 0 0
    · -- no room: as at nil
      obtain ⟨a0, rfl⟩ := hcap
      have hx0 : xs = [] := by
        rcases hrow with ⟨h, _⟩ | ⟨h1, _⟩
        · exact h
        · rcases h1.2 with ⟨_, h0⟩ | ⟨g, cap, cur, hv, _, _, hn, _⟩
          · exact List.eq_nil_of_length_eq_zero h0
          · injection hv with _ e1 _; exact List.eq_nil_of_length_eq_zero e1.symm
      subst hx0
      cases hall
      by_cases hy0 : ys = []
      · subst hy0
        cases hally
        refine ⟨.slice a0 0 0, w, ?_, .inl ⟨rfl, a0, rfl⟩, (Kp.refl w).sub (by simp), fun g hg => .inl hg⟩
        cases a0 <;> cases A <;> simp [Builtin.append_, run_underlying ht, sizeOf, typeInfo, hq, Builtin.lenOf, Builtin.firstCells, storeCells, loadCells, loadCellsFrom]
      · obtain ⟨ad, rfl⟩ : ∃ ad, A = some ad := by
          cases A with
          | none => exact absurd (hA0 rfl) hy0
          | some ad => exact ⟨ad, rfl⟩
        have hyl : 0 < ys.length := List.length_pos_iff.2 hy0
        simp only [List.length_nil, Nat.zero_add] at h63 hlen
        obtain ⟨v', w', hrun, h2, h3, h5, h6⟩ := runOwn (.slice none 0 0) 0 [] (World.ownsRow_nil _ _ _ _) (by simpa using h63) (by simpa using hlen)
        have heq : (Builtin.append_ #[t, t] ty #[.slice a0 0 0, .slice (some ad) ys.length c]).run P w = (Builtin.append_ #[t, t] ty #[.slice none 0 0, .slice (some ad) ys.length c]).run P w := by
          cases a0 with
          | none => rfl
          | some b0 =>
            have hsz' : i.size = Rp.sz α := hsz.trans hs.symm
            rw [run_append_nil (P := P) w t ty (Rp.tid α) i zv ht hq hzv ad ys.length c cys.flatten (by rw [hfl, hsz']) (hcl ad rfl) hyl (by omega) (by rw [hby_]; omega)]
            rw [run_append_grow (P := P) w t ty (Rp.tid α) i zv ht hq hzv b0 0 0 [] (by simp) (by simp) ad ys.length c cys.flatten (by rw [hfl, hsz']) (hcl ad rfl) (by omega) (by omega) (by
              rw [hby_]; exact growslice_fits (by omega) (by simpa using hlen))]
            simp
        refine ⟨v', w', heq.trans hrun, .inr (by simpa using h2), ⟨h3.os, h3.tape, h3.output, h3.size, fun b hb _ => h3.block b hb (by simp [Value.ownBlock])⟩, fun g hg => ?_⟩
        have hg' := ob_own hg
        rcases h5 with h5 | h5
        · rw [h5] at hg'; cases hg'
        · exact .inr ⟨by rw [h5] at hg'; exact (Option.some.inj hg').symm, h6 h5⟩
    · have hown : w.ownsRow lo (Rp.tid α) (Rp.sz α) v xs.length css.flatten := by
        rcases hrow with ⟨_, h⟩ | ⟨h1, _⟩
        · exact absurd h hcap
        · exact h1
      obtain ⟨v', w', hrun, h2, h3, h5, h6⟩ := runOwn v xs.length css.flatten hown h63 hlen
      have hob : ∀ g, v.ownBlock = some g → g ∈ ob v := by
        intro g hg
        rcases hown.2 with ⟨rfl, h0⟩ | ⟨g', cap, cur, rfl, _, _, hn, _⟩
        · cases hg
        · cases hg
          simp only [ob]
          rw [if_neg]
          · simp
          · intro h0; subst h0; exact hcap ⟨_, by rw [show xs.length = 0 by omega]⟩
      refine ⟨v', w', hrun, .inr h2, ⟨h3.os, h3.tape, h3.output, h3.size, fun b hb hn => h3.block b hb fun he => hn (hob b he.symm)⟩, fun g hg => ?_⟩
      have hg' := ob_own hg
      rcases h5 with h5 | h5
      · rw [h5] at hg'; exact .inl (hob g hg')
      · exact .inr ⟨by rw [h5] at hg'; exact (Option.some.inj hg').symm, h6 h5⟩
  obtain ⟨v', w', hrun, h2, hkp, h5⟩ := run
  have hlapp : (xs ++ ys).length = xs.length + ys.length := List.length_append
  have hform : ∃ a' c', v' = .slice a' (xs ++ ys).length c' := by
    rcases h2 with ⟨h0, a, h⟩ | h2
    · exact ⟨a, 0, by rw [h, h0]; rfl⟩
    · rw [hlapp]
      rcases h2.2 with ⟨h, h0⟩ | ⟨g, cap, cur, h, _⟩
      · exact ⟨none, 0, by rw [h, h0]⟩
      · exact ⟨_, _, h⟩
  obtain ⟨a', c', rfl⟩ := hform
  have hkeep : ∀ {cs : List Value} {z : α}, Rp.rp o2 lo2 hi2 w cs z → Rp.rp o2 lo2 hi2 w' cs z := by
    intro cs z hz
    rcases hsep with h | ⟨h, hni⟩ | h
    · exact Rp.keepT hz (.inl h) fun b cur t _ _ _ _ ht => by rw [h] at ht; cases ht
    · refine Rp.keepT hz (.inr h) fun b cur t _ _ hb hbt ht => hkp.block b (by omega) fun hm => ?_
      obtain ⟨cur', hc⟩ := hvrow b hm
      rw [hc] at hbt
      injection hbt with hbt
      injection hbt with _ he
      exact hni (he ▸ ht)
    · refine Rp.keep hz fun b _ hb => hkp.block b (by omega) fun hm => ?_
      rcases hrow with ⟨_, a, rfl⟩ | ⟨h1, _⟩
      · cases a <;> simp [ob] at hm
      · have := (h1.lt b (ob_own hm)).1
        omega
  refine WO.v (v := .slice a' (xs ++ ys).length c') (w' := w') (fun a _ _ _ _ ha => ?_) hd (k a' c' w' ?_ hkp h5)
  · simp [execOp, resolve, invoke, builtin, ha.ev hx, ha.ev hy, hrun]
  · refine ⟨by rw [hlapp, hby]; exact hlen, css ++ cys, ?_, (hall.imp fun _ _ h => hkeep h).append (hally.imp fun _ _ h => hkeep h)⟩
    rcases h2 with ⟨h0, a, h⟩ | h2
    · exact .inl ⟨h0, a, h⟩
    · rw [hlapp] at h2 ⊢
      exact .inr ⟨by rw [List.flatten_append]; exact h2, fun g hg => (h2.lt g hg).2⟩
end

end Go.Proofs.Ytfmlgeeogbhppaa
