/- Memory: blocks known whole, what a step keeps, and how Go's data read as Lean's. Conditions: none beyond each lemma's own. -/
import Derived.Test.YtfmlgeeogbhppaaEng
import Derived.Maps.AppendAt
namespace Go.Proofs.Ytfmlgeeogbhppaa
open Go.RowKit

/-! ### what a step keeps -/
/-- All blocks of w but those of S are in w' as they were. -/
structure Kp (S : List Nat) (w w' : World) : Prop where
  os : w'.os = w.os
  tape : w'.tape = w.tape
  output : w'.output = w.output
  size : w.heap.size ≤ w'.heap.size
  block : ∀ b, b < w.heap.size → b ∉ S → w'.heap[b]? = w.heap[b]?

theorem Kp.refl (w : World) : Kp [] w w := ⟨rfl, rfl, rfl, Nat.le_refl _, fun _ _ _ => rfl⟩
theorem Kp.trans {S T : List Nat} {a b c : World} (h : Kp S a b) (k : Kp T b c) : Kp (S ++ T) a c :=
  ⟨k.os.trans h.os, k.tape.trans h.tape, k.output.trans h.output, Nat.le_trans h.size k.size, fun i hi hn => by
    simp only [List.mem_append, not_or] at hn
    exact (k.block i (Nat.lt_of_lt_of_le hi h.size) hn.2).trans (h.block i hi hn.1)⟩
theorem Kp.sub {S T : List Nat} {a b : World} (h : Kp S a b) (hs : ∀ g ∈ S, g ∈ T) : Kp T a b :=
  ⟨h.os, h.tape, h.output, h.size, fun i hi hn => h.block i hi fun hm => hn (hs i hm)⟩
theorem Kp.step {S T : List Nat} {a b c : World} (h : Kp S a b) (k : Kp T b c) (hS : ∀ g ∈ T, g ∈ S ∨ a.heap.size ≤ g) : Kp S a c :=
  ⟨k.os.trans h.os, k.tape.trans h.tape, k.output.trans h.output, Nat.le_trans h.size k.size, fun i hi hn => (k.block i (Nat.lt_of_lt_of_le hi h.size) fun hm => by
    rcases hS i hm with h1 | h1
    · exact hn h1
    · omega).trans (h.block i hi hn)⟩
theorem Kp.of_below {w w' : World} (h : Below w.heap.size w w') : Kp [] w w' := ⟨h.os, h.tape, h.output, h.size, fun b hb _ => h.block b hb⟩
theorem Kp.below {w w' : World} (h : Kp [] w w') : Below w.heap.size w w' := ⟨h.os, h.tape, h.output, h.size, fun b hb => h.block b hb (by simp)⟩
theorem Kp.drew {S : List Nat} {a w : World} (h : Kp S a w) : Kp S a w.drew := ⟨h.os, h.tape, h.output, h.size, h.block⟩
theorem Kp.alloc (w : World) (o : Obj) : Kp [] w (w.alloc o) := ⟨rfl, rfl, rfl, by simp, fun b hb _ => Below.heap_alloc w o b hb⟩
theorem Kp.setCell (w : World) (a : Addr) (u : Value) : Kp [a.block] w (w.setCell a u) :=
  ⟨rfl, rfl, rfl, by simp, fun b _ hn => Below.heap_setCell w a u b (by simpa using hn)⟩
theorem Kp.of_grown {w w' : World} {g : Nat} (h : w.grownBy w' (some g)) : Kp [g] w w' := ⟨h.os, h.tape, h.output, h.size, fun b hb hn => h.block b hb (by simpa using hn)⟩
theorem Kp.of_grown0 {w w' : World} (h : w.grownBy w' none) : Kp [] w w' := ⟨h.os, h.tape, h.output, h.size, fun b hb _ => h.block b hb (by simp)⟩
theorem below_kp {B : Nat} {S : List Nat} {w0 w w' : World} (h : Below B w0 w) (k : Kp S w w') (hB : B ≤ w.heap.size) (hS : ∀ g ∈ S, B ≤ g) : Below B w0 w' :=
  ⟨k.os.trans h.os, k.tape.trans h.tape, k.output.trans h.output, Nat.le_trans h.size k.size, fun b hb => (k.block b (Nat.lt_of_lt_of_le hb hB) fun hm => Nat.not_le_of_lt hb (hS b hm)).trans (h.block b hb)⟩
/-- What is old to w0 is in w as it was; a step that keeps it. -/
theorem old_kp {S : List Nat} {w0 w w' : World} (h : Below w0.heap.size w0 w) (k : Kp S w w') (hS : ∀ g ∈ S, w0.heap.size ≤ g) : Below w0.heap.size w0 w' := below_kp h k h.size hS
theorem old_kp0 {w0 w w' : World} (h : Below w0.heap.size w0 w) (k : Kp [] w w') : Below w0.heap.size w0 w' := below_kp h k h.size (by simp)

theorem mem1 {p : Nat → Prop} {a : Nat} (h : p a) : ∀ g ∈ [a], p g := by simpa using h
theorem mem2 {p : Nat → Prop} {a b : Nat} (h : p a) (h2 : p b) : ∀ g ∈ [a, b], p g := by simpa using ⟨h, h2⟩
theorem mem3 {p : Nat → Prop} {a b c : Nat} (h : p a) (h2 : p b) (h3 : p c) : ∀ g ∈ [a, b, c], p g := by simpa using ⟨h, h2, h3⟩
theorem mem4 {p : Nat → Prop} {a b c d : Nat} (h : p a) (h2 : p b) (h3 : p c) (h4 : p d) : ∀ g ∈ [a, b, c, d], p g := by simpa using ⟨h, h2, h3, h4⟩

/-! ### a block that is known whole -/
def Blk (w : World) (g : Nat) (t : TypeId) (cs : List Value) : Prop := w.heap[g]? = some (.cells cs.toArray t (0, 0))
section
variable {w w' : World} {g : Nat} {t : TypeId} {cs : List Value}
theorem Blk.lt (h : Blk w g t cs) : g < w.heap.size := by
  rcases Nat.lt_or_ge g w.heap.size with hlt | hge
  · exact hlt
  · unfold Blk at h; rw [Array.getElem?_eq_none hge] at h; cases h
theorem Blk.cell (h : Blk w g t cs) (i : Nat) : w.cell? ⟨g, i, none⟩ = cs[i]? := by
  rw [cell_of_row w g i cs.toArray t (0, 0) h]; simp
theorem Blk.frozen (h : Blk w g t cs) (i : Nat) : w.frozen? ⟨g, i, none⟩ = false := by unfold Blk at h; simp [World.frozen?, h]
theorem Blk.new (w : World) (t : TypeId) (cs : List Value) : Blk (w.alloc (.cells cs.toArray t)) w.heap.size t cs := heap_alloc_new w _
theorem Blk.kp {S : List Nat} (h : Blk w g t cs) (k : Kp S w w') (hg : g ∉ S) : Blk w' g t cs := (k.block g h.lt hg).trans h
theorem Blk.kp0 (h : Blk w g t cs) (k : Kp [] w w') : Blk w' g t cs := h.kp k (by simp)
theorem Blk.kp1 {g' : Nat} (h : Blk w g t cs) (k : Kp [g'] w w') (hg : g ≠ g') : Blk w' g t cs := h.kp k (by simpa using hg)
theorem Blk.old {w0 : World} (h : Blk w0 g t cs) (k : Below w0.heap.size w0 w) : Blk w g t cs := (k.block g h.lt).trans h
theorem Blk.ne_ {g' : Nat} {t' : TypeId} {cs' : List Value} (h : Blk w g t cs) (h' : Blk w g' t' cs') (hne : t ≠ t') : g ≠ g' := by
  rintro rfl
  unfold Blk at h h'
  rw [h] at h'
  injection h' with h'
  injection h' with _ ht
  exact hne ht
theorem Blk.setCell (h : Blk w g t cs) (i : Nat) (u : Value) : Blk (w.setCell ⟨g, i, none⟩ u) g t (cs.set i u) := by
  unfold Blk at h ⊢
  simp [World.setCell, Array.getElem?_modify, h]
theorem Blk.setRow (h : Blk w g t cs) (cs' : List Value) : Blk (w.setRow g cs'.toArray) g t cs' := setRow_heap w g _ _ t _ h
end
theorem Kp.setRow (w : World) (g : Nat) (cs : Array Value) : Kp [g] w (w.setRow g cs) := ⟨rfl, rfl, rfl, by simp, fun b _ hn => setRow_other w g b cs (by simpa using hn)⟩

/-- A new block. -/
structure NB (w w' : World) (t : TypeId) (cs : List Value) : Prop where
  kp : Kp [] w w'
  blk : Blk w' w.heap.size t cs
  lt : w.heap.size < w'.heap.size
theorem NB.alloc (w : World) (t : TypeId) (cs : List Value) : NB w (w.alloc (.cells cs.toArray t)) t cs := ⟨Kp.alloc _ _, Blk.new _ _ _, by simp⟩

/-! ### cells at an address -/
def CellsAt (w : World) (a : Addr) (cs : List Value) : Prop := ∀ j v, cs[j]? = some v → w.cell? (a.add j) = some v
theorem add_add (a : Addr) (i j : Nat) : (a.add i).add j = a.add (i + j) := by
  unfold Addr.add
  by_cases hi : i = 0 <;> by_cases hj : j = 0 <;> simp [hi, hj, Nat.add_assoc]
theorem add_block (a : Addr) (n : Nat) : (a.add n).block = a.block := by unfold Addr.add; split <;> rfl
theorem add_lit (g i j : Nat) : (⟨g, i, none⟩ : Addr).add j = ⟨g, i + j, none⟩ := by unfold Addr.add; split <;> simp_all
section
variable {w w' : World} {a : Addr} {cs : List Value}
theorem CellsAt.keep (h : CellsAt w a cs) (k : w'.heap[a.block]? = w.heap[a.block]?) : CellsAt w' a cs := fun j v hv => by
  exact (World.cell?_of_block (a := a.add j) (by rw [add_block]; exact k)).trans (h j v hv)
theorem CellsAt.shift (h : CellsAt w a cs) (i : Nat) : CellsAt w (a.add i) (cs.drop i) := fun j v hv => by
  rw [add_add]; exact h _ _ (by rw [← hv, List.getElem?_drop])
theorem CellsAt.take (h : CellsAt w a cs) (i : Nat) : CellsAt w a (cs.take i) := fun j v hv => h j v (by
  rw [List.getElem?_take] at hv; split at hv
  · exact hv
  · cases hv)
theorem CellsAt.one (h : CellsAt w a cs) {j : Nat} {v : Value} (hv : cs[j]? = some v) : w.cell? (a.add j) = some v := h j v hv
theorem CellsAt.nil : CellsAt w a [] := fun j v hv => by simp at hv
end
theorem Blk.cells {w : World} {g : Nat} {t : TypeId} {cs : List Value} (h : Blk w g t cs) : CellsAt w ⟨g, 0, none⟩ cs := fun j v hv => by
  rw [add_lit, Nat.zero_add, h.cell]; exact hv

/-! ### how data read -/
def I64 (n : Int) : Prop := -9223372036854775808 ≤ n ∧ n ≤ 9223372036854775807

inductive All2 {α β : Type} (R : α → β → Prop) : List α → List β → Prop
  | nil : All2 R [] []
  | cons {a : α} {b : β} {as : List α} {bs : List β} : R a b → All2 R as bs → All2 R (a :: as) (b :: bs)
section
variable {α β : Type} {R R' : α → β → Prop}
theorem All2.imp {as : List α} {bs : List β} (h : All2 R as bs) (hh : ∀ a b, R a b → R' a b) : All2 R' as bs := by
  induction h with
  | nil => exact .nil
  | cons h _ ih => exact .cons (hh _ _ h) ih
theorem All2.length {as : List α} {bs : List β} (h : All2 R as bs) : as.length = bs.length := by
  induction h with
  | nil => rfl
  | cons _ _ ih => simp [ih]
theorem All2.get {as : List α} {bs : List β} (h : All2 R as bs) : ∀ (i : Nat) (b : β), bs[i]? = some b → ∃ a, as[i]? = some a ∧ R a b := by
  induction h with
  | nil => intro i b hb; simp at hb
  | cons h _ ih =>
    intro i b hb
    cases i with
    | zero => simp at hb; subst hb; exact ⟨_, rfl, h⟩
    | succ i => simpa using ih i b (by simpa using hb)
theorem All2.append {as as' : List α} {bs bs' : List β} (h : All2 R as bs) (h' : All2 R as' bs') : All2 R (as ++ as') (bs ++ bs') := by
  induction h with
  | nil => exact h'
  | cons h _ ih => exact .cons h ih
theorem All2.take {as : List α} {bs : List β} (h : All2 R as bs) : ∀ n, All2 R (as.take n) (bs.take n) := by
  induction h with
  | nil => intro n; simp; exact .nil
  | cons h _ ih => intro n; cases n with
    | zero => exact .nil
    | succ n => exact .cons h (ih n)
theorem All2.drop {as : List α} {bs : List β} (h : All2 R as bs) : ∀ n, All2 R (as.drop n) (bs.drop n) := by
  induction h with
  | nil => intro n; simp; exact .nil
  | cons h hh ih => intro n; cases n with
    | zero => exact .cons h hh
    | succ n => exact ih n
theorem All2.set {as : List α} {bs : List β} (h : All2 R as bs) : ∀ (i : Nat) {a : α} {b : β}, R a b → All2 R (as.set i a) (bs.set i b) := by
  induction h with
  | nil => intro i a b _; exact .nil
  | cons h hh ih => intro i a b hr; cases i with
    | zero => exact .cons hr hh
    | succ i => exact .cons h (ih i hr)
end

/-- Values of a Go type, as Lean's: how many cells, the type's number (of a row of them), and when the cells read as x: o: every list lies in a row of its own; all of it in blocks from lo to below hi. -/
class Rp (α : Type) where
  sz : Nat
  by_ : Nat                        -- how many bytes an element of a slice takes
  tid : TypeId
  rp : Bool → Nat → Nat → World → List Value → α → Prop
  len : ∀ {o lo hi w cs x}, rp o lo hi w cs x → cs.length = sz
  one : ∀ {o lo hi w cs x}, rp o lo hi w cs x → ∀ u ∈ cs, u.oneCell' = true
  keep : ∀ {o lo hi w w' cs x}, rp o lo hi w cs x → (∀ b, lo ≤ b → b < hi → w'.heap[b]? = w.heap[b]?) → rp o lo hi w' cs x
  mono : ∀ {o lo hi lo' hi' w cs x}, rp o lo hi w cs x → lo' ≤ lo → hi ≤ hi' → rp o lo' hi' w cs x
  weak : ∀ {o lo hi w cs x}, rp o lo hi w cs x → rp false lo hi w cs x
  inner : List TypeId              -- of the rows inside
  mrk : Nat × Nat → Prop := fun fr => fr = (0, 0)   -- the marks that a row of these may bear
  mrk0 : mrk (0, 0) := by exact rfl
  keepT : ∀ {o lo hi w w' cs x}, rp o lo hi w cs x → (inner = [] ∨ o = true) → (∀ b cur t fr, lo ≤ b → b < hi → w.heap[b]? = some (.cells cur t fr) → t ∈ inner → w'.heap[b]? = w.heap[b]?) → rp o lo hi w' cs x

/-- A slice value that reads as the list xs. -/
def Sl {α : Type} [Rp α] (o : Bool) (lo hi : Nat) (w : World) (v : Value) (xs : List α) : Prop :=
  ∃ a c css, v = .slice a xs.length c ∧ xs.length ≤ c ∧ (c ≤ maxLen ∧ xs.length * Rp.by_ α ≤ 140737488355328) ∧ All2 (Rp.rp o lo hi w) css xs ∧
    (xs = [] ∨ ∃ A : Addr, a = some A ∧ lo ≤ A.block ∧ A.block < hi ∧ CellsAt w A css.flatten) ∧
    (o = true → c = 0 ∨ ∃ g cur fr, a = some ⟨g, 0, none⟩ ∧ lo ≤ g ∧ g < hi ∧ (w.heap[g]? = some (.cells cur (Rp.tid α) fr) ∧ Rp.mrk α fr) ∧ cur.size = c * Rp.sz α)

section
variable {α : Type} [Rp α] {o : Bool} {lo hi : Nat} {w w' : World} {v : Value} {xs : List α}
theorem Sl.keep (h : Sl o lo hi w v xs) (k : ∀ b, lo ≤ b → b < hi → w'.heap[b]? = w.heap[b]?) : Sl o lo hi w' v xs := by
  obtain ⟨a, c, css, hv, h1, h2, h3, h4, h5⟩ := h
  refine ⟨a, c, css, hv, h1, h2, h3.imp fun _ _ h => Rp.keep h k, ?_, fun ho => ?_⟩
  · rcases h4 with h4 | ⟨A, hA, hlo, hhi, hc⟩
    · exact .inl h4
    · exact .inr ⟨A, hA, hlo, hhi, hc.keep (k _ hlo hhi)⟩
  · rcases h5 ho with h5 | ⟨g, cur, fr, hg, hlo, hhi, hh, hs⟩
    · exact .inl h5
    · exact .inr ⟨g, cur, fr, hg, hlo, hhi, ⟨(k g hlo hhi).trans hh.1, hh.2⟩, hs⟩
theorem Sl.mono {lo' hi' : Nat} (h : Sl o lo hi w v xs) (h1 : lo' ≤ lo) (h2 : hi ≤ hi') : Sl o lo' hi' w v xs := by
  obtain ⟨a, c, css, hv, ha, hb, h3, h4, h5⟩ := h
  refine ⟨a, c, css, hv, ha, hb, h3.imp fun _ _ h => Rp.mono h h1 h2, ?_, fun ho => ?_⟩
  · rcases h4 with h4 | ⟨A, hA, hlo, hhi, hc⟩
    · exact .inl h4
    · exact .inr ⟨A, hA, by omega, by omega, hc⟩
  · rcases h5 ho with h5 | ⟨g, cur, fr, hg, hlo, hhi, hh, hs⟩
    · exact .inl h5
    · exact .inr ⟨g, cur, fr, hg, by omega, by omega, hh, hs⟩
theorem Sl.weak (h : Sl o lo hi w v xs) : Sl false lo hi w v xs := by
  obtain ⟨a, c, css, hv, h1, h2, h3, h4, _⟩ := h
  exact ⟨a, c, css, hv, h1, h2, h3.imp fun _ _ h => Rp.weak h, h4, fun ho => by cases ho⟩
theorem Sl.nil (o : Bool) (lo hi : Nat) (w : World) : Sl (α := α) o lo hi w (.slice none 0 0) [] :=
  ⟨none, 0, [], rfl, Nat.le_refl _, ⟨by simp [maxLen], by simp⟩, .nil, .inl rfl, fun _ => .inl rfl⟩
theorem Sl.keepT (h : Sl true lo hi w v xs) (k : ∀ b cur t fr, lo ≤ b → b < hi → w.heap[b]? = some (.cells cur t fr) → t ∈ Rp.tid α :: Rp.inner α → w'.heap[b]? = w.heap[b]?) : Sl true lo hi w' v xs := by
  obtain ⟨a, c, css, hv, h1, h2, h3, h4, h5⟩ := h
  refine ⟨a, c, css, hv, h1, h2, h3.imp fun _ _ h => Rp.keepT h (.inr rfl) fun b cur t fr a1 a2 a3 a4 => k b cur t fr a1 a2 a3 (List.mem_cons_of_mem _ a4), ?_, fun _ => ?_⟩
  · rcases h4 with h4 | ⟨A, hA, hlo, hhi, hc⟩
    · exact .inl h4
    · refine .inr ⟨A, hA, hlo, hhi, ?_⟩
      rcases h5 rfl with ha | ⟨g, cur, fr, hg, hlo', hhi', hh, hs⟩
      · have hx : xs = [] := List.eq_nil_of_length_eq_zero (by omega)
        subst hx
        cases h3
        exact CellsAt.nil
      · rw [hA] at hg
        cases hg
        exact hc.keep (k _ _ _ _ hlo' hhi' hh.1 (by simp))
  · rcases h5 rfl with h5 | ⟨g, cur, fr, hg, hlo, hhi, hh, hs⟩
    · exact .inl h5
    · exact .inr ⟨g, cur, fr, hg, hlo, hhi, ⟨(k g _ _ _ hlo hhi hh.1 (by simp)).trans hh.1, hh.2⟩, hs⟩
/-- The value's own form. -/
theorem Sl.form (h : Sl o lo hi w v xs) : ∃ a c, v = .slice a xs.length c ∧ xs.length ≤ c ∧ c ≤ maxLen := by
  obtain ⟨a, c, css, hv, h1, h2, _⟩ := h
  exact ⟨a, c, hv, h1, h2.1⟩
theorem Sl.lenle (h : Sl o lo hi w v xs) : xs.length * Rp.by_ α ≤ 140737488355328 := by
  obtain ⟨a, c, css, hv, h1, h2, _⟩ := h
  exact h2.2
theorem Sl.one (h : Sl o lo hi w v xs) : v.oneCell' = true := by
  obtain ⟨a, c, rfl, _⟩ := h.form
  rfl
end

theorem flatten_at {n : Nat} : ∀ {css : List (List Value)} (_ : ∀ cs ∈ css, cs.length = n) {i : Nat} {cs : List Value}, css[i]? = some cs → (css.flatten.drop (i * n)).take n = cs
  | [], _, i, cs, h => by simp at h
  | c :: css, hl, 0, cs, h => by
    simp at h; subst h
    have h1 := hl c (by simp)
    simp [← h1]
  | c :: css, hl, i + 1, cs, h => by
    have h1 := hl c (by simp)
    have := flatten_at (css := css) (fun x hx => hl x (by simp [hx])) (by simpa using h)
    rw [List.flatten_cons, show (i + 1) * n = c.length + i * n by rw [h1, Nat.add_mul]; omega, List.drop_append, List.drop_eq_nil_of_le (show c.length ≤ c.length + i * n by omega)]
    simpa using this
theorem flatten_length {n : Nat} : ∀ {css : List (List Value)} (_ : ∀ cs ∈ css, cs.length = n), css.flatten.length = css.length * n
  | [], _ => by simp
  | c :: css, hl => by
    have h1 := hl c (by simp)
    have := flatten_length (css := css) (fun x hx => hl x (by simp [hx]))
    simp [this, h1, Nat.add_mul]; omega
theorem All2.lens {α : Type} [Rp α] {o : Bool} {lo hi : Nat} {w : World} {css : List (List Value)} {xs : List α} (h : All2 (Rp.rp o lo hi w) css xs) : ∀ cs ∈ css, cs.length = Rp.sz α := by
  induction h with
  | nil => intro cs hcs; simp at hcs
  | cons h _ ih => intro cs hcs; rcases List.mem_cons.1 hcs with rfl | hcs
                   · exact Rp.len h
                   · exact ih cs hcs
theorem All2.ones {α : Type} [Rp α] {o : Bool} {lo hi : Nat} {w : World} {css : List (List Value)} {xs : List α} (h : All2 (Rp.rp o lo hi w) css xs) : ∀ u ∈ css.flatten, u.oneCell' = true := by
  induction h with
  | nil => intro u hu; simp at hu
  | cons h _ ih => intro u hu
                   rw [List.flatten_cons, List.mem_append] at hu
                   rcases hu with hu | hu
                   · exact Rp.one h u hu
                   · exact ih u hu

/-- The element at a place: its cells, and how they read. -/
theorem Sl.at_ {α : Type} [Rp α] {o : Bool} {lo hi : Nat} {w : World} {a : Option Addr} {n c : Nat} {xs : List α} (h : Sl o lo hi w (.slice a n c) xs) {i : Nat} {x : α} (hx : xs[i]? = some x) :
    ∃ A cs, a = some A ∧ lo ≤ A.block ∧ A.block < hi ∧ CellsAt w (A.add (i * Rp.sz α)) cs ∧ Rp.rp o lo hi w cs x := by
  obtain ⟨a', c', css, hv, h1, h2, h3, h4, _⟩ := h
  injection hv with e1 e2 e3
  subst e1
  rcases h4 with h4 | ⟨A, hA, hlo, hhi, hc⟩
  · subst h4; simp at hx
  · obtain ⟨cs, hcs, hr⟩ := h3.get i x hx
    refine ⟨A, cs, hA, hlo, hhi, ?_, hr⟩
    have := flatten_at h3.lens hcs
    rw [← this]
    exact (hc.shift _).take _

instance : Rp Int where
  sz := 1
  by_ := 8
  tid := 3
  rp _ _ _ _ cs x := cs = [.int .i64 x] ∧ I64 x
  len h := by rw [h.1]; rfl
  one h := by rw [h.1]; simp [Value.oneCell']
  keep h _ := h
  mono h _ _ := h
  weak h := h
  inner := []
  keepT h _ _ := h
instance : Rp Bool where
  sz := 1
  by_ := 1
  tid := 4
  rp _ _ _ _ cs x := cs = [.bool x]
  len h := by rw [h]; rfl
  one h := by rw [h]; simp [Value.oneCell']
  keep h _ := h
  mono h _ _ := h
  weak h := h
  inner := []
  keepT h _ _ := h
/-- A byte. -/
instance : Rp UInt8 where
  sz := 1
  by_ := 1
  tid := 5
  rp _ _ _ _ cs x := cs = [.int .u8 x.toNat]
  len h := by rw [h]; rfl
  one h := by rw [h]; simp [Value.oneCell']
  keep h _ := h
  mono h _ _ := h
  weak h := h
  mrk _ := True
  mrk0 := trivial
  inner := []
  keepT h _ _ := h
/-- A number of 64 bits without a sign. -/
structure U64 where
  n : Nat
deriving DecidableEq
instance : Rp U64 where
  sz := 1
  by_ := 8
  tid := 35
  rp _ _ _ _ cs x := cs = [.int .u64 x.n] ∧ x.n < 18446744073709551616
  len h := by rw [h.1]; rfl
  one h := by rw [h.1]; simp [Value.oneCell']
  keep h _ := h
  mono h _ _ := h
  weak h := h
  inner := []
  keepT h _ _ := h
/-- A text. -/
structure Str where
  b : List UInt8
deriving DecidableEq
def Str.val (s : Str) : Value := .string ⟨s.b.toArray⟩
instance : Rp Str where
  sz := 1
  by_ := 16
  tid := 9
  rp _ _ _ _ cs x := cs = [x.val] ∧ x.b.length ≤ 140737488355328
  len h := by rw [h.1]; rfl
  one h := by rw [h.1]; simp [Value.oneCell', Str.val]
  keep h _ := h
  mono h _ _ := h
  weak h := h
  inner := []
  keepT h _ _ := h
/-- A list: a slice. (The number of a slice's own type is not asked: a row of slices takes the wrapper's.) -/
instance (priority := low) listRp {α : Type} [Rp α] : Rp (List α) where
  sz := 1
  by_ := 24
  tid := 0
  rp o lo hi w cs xs := ∃ v, cs = [v] ∧ Sl o lo hi w v xs
  len h := by obtain ⟨v, rfl, _⟩ := h; rfl
  one h := by obtain ⟨v, rfl, h⟩ := h; simp [h.one]
  keep h k := by obtain ⟨v, rfl, h⟩ := h; exact ⟨v, rfl, h.keep k⟩
  mono h h1 h2 := by obtain ⟨v, rfl, h⟩ := h; exact ⟨v, rfl, h.mono h1 h2⟩
  weak h := by obtain ⟨v, rfl, h⟩ := h; exact ⟨v, rfl, h.weak⟩
  inner := Rp.tid α :: Rp.inner α
  keepT h ho k := by
    obtain ⟨v, rfl, h⟩ := h
    have ho' := ho.resolve_left (by simp)
    subst ho'
    exact ⟨v, rfl, h.keepT k⟩
/-- Two parts of a struct, one behind the other. -/
instance pairRp {α β : Type} [Rp α] [Rp β] : Rp (α × β) where
  by_ := 0
  sz := Rp.sz α + Rp.sz β
  tid := 0
  rp o lo hi w cs x := ∃ c1 c2, cs = c1 ++ c2 ∧ Rp.rp o lo hi w c1 x.1 ∧ Rp.rp o lo hi w c2 x.2
  len h := by obtain ⟨c1, c2, rfl, h1, h2⟩ := h; rw [List.length_append, Rp.len h1, Rp.len h2]
  one h := by
    obtain ⟨c1, c2, rfl, h1, h2⟩ := h
    intro u hu
    rcases List.mem_append.1 hu with hu | hu
    · exact Rp.one h1 u hu
    · exact Rp.one h2 u hu
  keep h k := by obtain ⟨c1, c2, rfl, h1, h2⟩ := h; exact ⟨c1, c2, rfl, Rp.keep h1 k, Rp.keep h2 k⟩
  mono h ha hb := by obtain ⟨c1, c2, rfl, h1, h2⟩ := h; exact ⟨c1, c2, rfl, Rp.mono h1 ha hb, Rp.mono h2 ha hb⟩
  weak h := by obtain ⟨c1, c2, rfl, h1, h2⟩ := h; exact ⟨c1, c2, rfl, Rp.weak h1, Rp.weak h2⟩
  inner := Rp.inner α ++ Rp.inner β
  keepT h ho k := by
    obtain ⟨c1, c2, rfl, h1, h2⟩ := h
    exact ⟨c1, c2, rfl, Rp.keepT h1 (ho.imp (fun h => (List.append_eq_nil_iff.1 h).1) id) fun b cur t fr a1 a2 a3 a4 => k b cur t fr a1 a2 a3 (List.mem_append_left _ a4),
      Rp.keepT h2 (ho.imp (fun h => (List.append_eq_nil_iff.1 h).2) id) fun b cur t fr a1 a2 a3 a4 => k b cur t fr a1 a2 a3 (List.mem_append_right _ a4)⟩
/-- A struct of these parts. -/
@[reducible] def Rp.via {S T : Type} [Rp T] (t : TypeId) (b : Nat) (f : S → T) : Rp S where
  by_ := b
  sz := Rp.sz T
  tid := t
  rp o lo hi w cs x := Rp.rp o lo hi w cs (f x)
  len h := Rp.len h
  one h := Rp.one h
  keep h k := Rp.keep h k
  mono h h1 h2 := Rp.mono h h1 h2
  weak h := Rp.weak h
  inner := Rp.inner T
  mrk fr := fr = (0, 0)
  mrk0 := rfl
  keepT h ho k := Rp.keepT h ho k

section
variable {α : Type} [Rp α] {o : Bool} {lo hi : Nat} {w w' : World} {cs : List Value} {x : α}
theorem rp_kp {S : List Nat} (h : Rp.rp o lo hi w cs x) (k : Kp S w w') (hhi : hi ≤ w.heap.size) (hS : ∀ g ∈ S, g < lo ∨ hi ≤ g) : Rp.rp o lo hi w' cs x :=
  Rp.keep h fun b h1 h2 => k.block b (by omega) fun hm => by have := hS b hm; omega
theorem rp_kp0 (h : Rp.rp o lo hi w cs x) (k : Kp [] w w') (hhi : hi ≤ w.heap.size) : Rp.rp o lo hi w' cs x := rp_kp h k hhi (by simp)
theorem rp_old {w0 : World} (h : Rp.rp o lo w0.heap.size w0 cs x) (k : Below w0.heap.size w0 w) : Rp.rp o lo w0.heap.size w cs x := Rp.keep h fun b _ h2 => k.block b h2
variable {v : Value} {xs : List α}
theorem sl_kp {S : List Nat} (h : Sl o lo hi w v xs) (k : Kp S w w') (hhi : hi ≤ w.heap.size) (hS : ∀ g ∈ S, g < lo ∨ hi ≤ g) : Sl o lo hi w' v xs :=
  h.keep fun b h1 h2 => k.block b (by omega) fun hm => by have := hS b hm; omega
theorem sl_kp0 (h : Sl o lo hi w v xs) (k : Kp [] w w') (hhi : hi ≤ w.heap.size) : Sl o lo hi w' v xs := sl_kp h k hhi (by simp)
theorem sl_old {w0 : World} (h : Sl o lo w0.heap.size w0 v xs) (k : Below w0.heap.size w0 w) : Sl o lo w0.heap.size w v xs := h.keep fun b _ h2 => k.block b h2
end

end Go.Proofs.Ytfmlgeeogbhppaa
