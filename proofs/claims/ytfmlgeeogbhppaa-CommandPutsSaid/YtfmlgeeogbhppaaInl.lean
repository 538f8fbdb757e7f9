/- Calls walked in place, loops walked round by round, rows of what has no reading. Conditions: each lemma's own. -/
import Derived.Test.YtfmlgeeogbhppaaMix
import Derived.Test.YtfmlgeeogbhppaaDraw
import Derived.Test.YtfmlgeeogbhppaaTy
namespace Go.Proofs.Ytfmlgeeogbhppaa
open Go.RowKit

section
variable {P : Program} {Q : Exit → Act → World → Prop} {n d : Nat} {l rest : List Oper} {fr : Fr} {w : World} {op : Op} {ty : TypeId} {pos : String} {af : Array Edge}
/-- A call whose body is walked in place. -/
theorem WO.inl {f : FuncId} {args0 : Array Value} (args : List Value) (h : Enters P n fr w op ty f args0) (hd : Nat.blt d n = true) (ha : args0 = args.toArray) (hc : Ret P f args.toArray w (fun v w' => WO P Q n l rest ((d, v) :: fr) w')) :
    WO P Q n l (⟨some d, op, ty, pos, af, none⟩ :: rest) fr w := by
  subst ha; exact WO.c h hc hd (fun _ _ h => h)
theorem WO.inl0 {f : FuncId} {args0 : Array Value} (args : List Value) (h : Enters P n fr w op ty f args0) (ha : args0 = args.toArray) (hc : Ret P f args.toArray w (fun _ w' => WO P Q n l rest fr w')) :
    WO P Q n l (⟨none, op, ty, pos, af, none⟩ :: rest) fr w := by
  subst ha; exact WO.c0 h hc (fun _ _ h => h)
end
section
variable {P : Program} {Q : Exit → Act → World → Prop} {n : Nat} {fr : Fr} {w : World}
/-- Inside a loop, ahead of a round. -/
def inQ (P : Program) (Q : Exit → Act → World → Prop) (c : Code) (a : Act) (w : World) : Prop :=
  ∀ (b : Frame) (k : List Item) (cs : List Frame), ∃ e a' w', Q e a' w' ∧ Arrives P (lone (b.at a (.code c :: .inLoop c :: k)) cs w) b k cs e a' w'
/-- What a round of a loop ends in, if the next is walked too. -/
def unrQ (P : Program) (Q : Exit → Act → World → Prop) (c : Code) : Exit → Act → World → Prop
  | .normal, a, w => inQ P Q c a w
  | e, a, w => Q e a w
theorem inQ_of {c : Code} {a : Act} (h : c.wp P (unrQ P Q c) a w) : inQ P Q c a w := by
  intro b k cs
  obtain ⟨e, a₁, w₁, hq, harr⟩ := h b (.inLoop c :: k) cs
  cases e with
  | normal =>
    obtain ⟨e₂, a₂, w₂, hq₂, harr₂⟩ := hq b k cs
    exact ⟨e₂, a₂, w₂, hq₂, .of_steps (Steps.trans harr (.one step_inLoop)) harr₂⟩
  | exit id => exact ⟨_, a₁, w₁, hq, .pass (x := .inLoop c) rfl (fun _ _ => .inl (by simp)) harr⟩
  | goto l => exact ⟨_, a₁, w₁, hq, .pass (x := .inLoop c) rfl (fun _ _ => .inl (by simp)) harr⟩
  | ret => exact ⟨_, a₁, w₁, hq, .pass (x := .inLoop c) rfl (fun _ _ => .inl (by simp)) harr⟩
  | panic ch => exact ⟨_, a₁, w₁, hq, .pass (x := .inLoop c) rfl (fun _ _ => .inl (by simp)) harr⟩
  | outgrown => exact ⟨_, a₁, w₁, hq, .pass (x := .inLoop c) rfl (fun _ _ => .inl (by simp)) harr⟩
theorem WC.unroll {c : Code} (h : WC P (unrQ P Q c) n c fr w) : WC P Q n (.loop c) fr w := fun a ha b k cs => by
  obtain ⟨e, a', w', hq, harr⟩ := inQ_of (h a ha) b k cs
  exact ⟨e, a', w', hq, .of_steps (.one step_loop) harr⟩
theorem WX.unrNext {c : Code} (h : WC P (unrQ P Q c) n c fr w) : WX (unrQ P Q c) n .normal fr w := fun a ha => inQ_of (h a ha)
theorem WX.unrRet {c : Code} (h : WX Q n .ret fr w) : WX (unrQ P Q c) n .ret fr w := h
theorem WX.unrExit {c : Code} {id : Nat} (h : WX Q n (.exit id) fr w) : WX (unrQ P Q c) n (.exit id) fr w := h
end
/-- What a guarded operation yields. -/
def sel (g : Bool) (v : Value) : Value := bif g then v else undef
theorem sel_t {g : Bool} {u c : Value} (h : u = sel g c) (hg : g = true) : u = c := by subst hg; exact h
theorem sel_u {g : Bool} {u c : Value} (h : u = sel g c) (hg : g = false) : u = undef := by subst hg; exact h
theorem sel_on {g : Bool} {u c : Value} (hg : g = true) (h : u = c) : u = sel g c := by subst hg; exact h
theorem sel_of {g : Bool} {c : Value} (hg : g = false) : undef = sel g c := by subst hg; rfl
/-- A step that writes two kinds of blocks, as two steps. -/
theorem Kp.split {S T : List Nat} {w w' : World} (h : Kp (S ++ T) w w') : ∃ wm, Kp S w wm ∧ Kp T wm w' ∧ wm.heap.size = w'.heap.size := by
  classical
  let hp : Array Obj := Array.ofFn (n := w'.heap.size) fun i => if i.1 ∈ T ∧ i.1 < w.heap.size then w.heap.getD i.1 w'.heap[i.1] else w'.heap[i.1]
  have hsz : hp.size = w'.heap.size := by simp [hp]
  have hget : ∀ i, i < w'.heap.size → hp[i]? = if i ∈ T ∧ i < w.heap.size then w.heap[i]? else w'.heap[i]? := by
    intro i hi
    have : hp[i]? = some hp[i] := Array.getElem?_eq_getElem (by omega)
    rw [this]
    simp only [hp, Array.getElem_ofFn]
    split
    · rename_i hc
      rw [Array.getElem?_eq_getElem hc.2]
      simp [Array.getD, hc.2]
    · rw [Array.getElem?_eq_getElem hi]
  refine ⟨{ w' with heap := hp }, ⟨h.os, h.tape, h.output, by show w.heap.size ≤ hp.size; rw [hsz]; exact h.size, fun i hi hn => ?_⟩, ⟨rfl, rfl, rfl, by show hp.size ≤ _; omega, fun i hi hn => ?_⟩, hsz⟩
  · show hp[i]? = _
    have := h.size
    rw [hget i (by omega)]
    split
    · rfl
    · rename_i hc
      exact h.block i hi (fun hm => (List.mem_append.1 hm).elim hn fun ht => hc ⟨ht, hi⟩)
  · have hi' : i < w'.heap.size := by rw [← hsz]; exact hi
    show w'.heap[i]? = hp[i]?
    rw [hget i hi', if_neg (fun hc => hn hc.1)]
theorem or2_n {a : Option Addr} {m r c p : Nat} {S : List Nat} (h : ∀ g ∈ ob (.slice a m c), g ∈ S ∨ (p ≤ g ∧ True)) : ∀ g ∈ ob (.slice a r c), g ∈ S ∨ (p ≤ g ∧ True) := by
  rw [ob_n (m' := m)]; exact h
/-- A row whose first k elements are changed. -/
def upto {α : Type} (f : α → α) (l : List α) (k : Nat) : List α := (l.take k).map f ++ l.drop k
section
variable {α : Type} {f : α → α} {l : List α} {k : Nat}
theorem take_snoc {x : α} (hx : l[k]? = some x) : l.take (k + 1) = l.take k ++ [x] := by rw [List.take_add_one, hx]; rfl
theorem upto_zero : l = upto f l 0 := by simp [upto]
theorem upto_len : (upto f l k).length = l.length := by simp [upto]; omega
theorem upto_all (h : l.length ≤ k) : upto f l k = l.map f := by simp [upto, List.take_of_length_le h, List.drop_of_length_le h]
theorem upto_get {x : α} (hx : (upto f l k)[k]? = some x) : l[k]? = some x := by
  unfold upto at hx
  have hk : k < l.length := by
    have := get_lt hx
    simp at this; omega
  rw [List.getElem?_append_right (by simp; omega)] at hx
  simpa [List.getElem?_drop, Nat.min_eq_left (Nat.le_of_lt hk)] using hx
theorem upto_set {x : α} (hx : (upto f l k)[k]? = some x) : (upto f l k).set k (f x) = upto f l (k + 1) := by
  have hl := upto_get hx
  have hk := get_lt hl
  unfold upto
  rw [take_snoc hl, List.map_append, List.set_append_right _ _ (by rw [List.length_map, List.length_take]; omega), List.length_map, List.length_take, Nat.min_eq_left (Nat.le_of_lt hk), Nat.sub_self]
  rw [List.drop_eq_getElem_cons hk, List.set_cons_zero, List.append_assoc]
  rfl
theorem upto_skip (hk : k < l.length) (h : ∀ x, l[k]? = some x → f x = x) : upto f l k = upto f l (k + 1) := by
  have hl : l[k]? = some l[k] := List.getElem?_eq_getElem hk
  unfold upto
  rw [take_snoc hl, List.map_append, List.drop_eq_getElem_cons hk, List.append_assoc, List.map_cons, List.map_nil, h _ hl]
  rfl
theorem set_get_eq {z x : α} (hx : (l.set k z)[k]? = some x) : x = z := by
  have hk : k < l.length := by have := get_lt hx; simpa using this
  rw [List.getElem?_set_self hk] at hx
  exact (Option.some.inj hx).symm
end
section
variable {P : Program} {n : Nat} {fr : Fr} {w : World} {x y : Operand} {ty t : TypeId}
theorem R.indexAddrRaw {g m c i k : Nat} {kk : IntKind} {e : TypeId} {s : Nat} (hx : ev fr x = some (.slice (some ⟨g, 0, none⟩) m c)) (hy : ev fr y = some (.int kk (i : Int))) (ht : P.underlying t = some (.slice e)) (hs : (P.info? e).map (·.size) = some s)
    (h1 : i < m) (hk : i * s = k) : Runs P n fr w (.indexAddr t x y) ty (.pointer (some ⟨g, k, none⟩)) w := by
  have := R.indexAddrN (P := P) (n := n) (w := w) (ty := ty) hx hy ht hs rfl h1
  rwa [add_lit, Nat.zero_add, hk] at this
end

end Go.Proofs.Ytfmlgeeogbhppaa
