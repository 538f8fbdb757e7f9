/- A row of the call's own whose first k elements are the call's own, whole, the others as they were of old: what a loop leaves that clones a list in each element. Conditions: each lemma's own. -/
import Derived.Test.YtfmlgeeogbhppaaSet
namespace Go.Proofs.Ytfmlgeeogbhppaa
open Go.RowKit

def Mix {α : Type} [Rp α] (k lo M hi2 hi : Nat) (w : World) (v : Value) (xs : List α) : Prop :=
  xs.length * Rp.by_ α ≤ 140737488355328 ∧ ∃ css : List (List Value), ((xs = [] ∧ ∃ a, v = .slice a 0 0) ∨ (w.ownsRow lo (Rp.tid α) (Rp.sz α) v xs.length css.flatten ∧ ∀ g, v.ownBlock = some g → g < hi)) ∧
    (∀ cs ∈ css, cs.length = Rp.sz α) ∧ css.length = xs.length ∧
    (∀ i cs x, css[i]? = some cs → xs[i]? = some x → (i < k → Rp.rp true M hi2 w cs x) ∧ (k ≤ i → Rp.rp false 0 M w cs x))

section
variable {α : Type} [Rp α] {k lo M hi2 hi : Nat} {w w' : World} {v : Value} {xs : List α}
theorem Ac.mix (h : Ac lo false 0 M hi w v xs) : Mix 0 lo M hi2 hi w v xs := by
  obtain ⟨hB, css, h1, h2⟩ := h
  refine ⟨hB, css, h1, h2.lens, h2.length, fun i cs x hc hx => ⟨fun h => by omega, fun _ => ?_⟩⟩
  obtain ⟨cs', hc', hr⟩ := h2.get i x hx
  rw [hc] at hc'
  cases hc'
  exact hr
theorem all2_of {β γ : Type} {R : β → γ → Prop} : ∀ {as : List β} {bs : List γ}, as.length = bs.length → (∀ (i : Nat) a b, as[i]? = some a → bs[i]? = some b → R a b) → All2 R as bs
  | [], [], _, _ => .nil
  | a :: as, b :: bs, hl, h => .cons (h 0 a b rfl rfl) (all2_of (by simpa using hl) fun i a' b' ha hb => h (i + 1) a' b' (by simpa using ha) (by simpa using hb))
  | [], _ :: _, hl, _ => by simp at hl
  | _ :: _, [], hl, _ => by simp at hl
theorem Sl.isNone {o : Bool} {a : Option Addr} {m c : Nat} (h : Sl o lo hi w (.slice a m c) xs) (ha : a.isNone = true) : xs = [] := by
  obtain ⟨a', c', css, hv, _, _, _, h4, _⟩ := h
  injection hv with e1 e2 e3
  subst e1
  rcases h4 with h4 | ⟨A, hA, _⟩
  · exact h4
  · rw [hA] at ha; cases ha
theorem Mix.done (h : Mix k lo M hi2 hi w v xs) (hk : xs.length ≤ k) {L H : Nat} (h1 : L ≤ lo) (h2 : L ≤ M) (h3 : hi ≤ H) (h4 : hi2 ≤ H) : Sl true L H w v xs := by
  obtain ⟨hB, css, hr, hl, hcl, he⟩ := h
  have hac : Ac lo true M hi2 hi w v xs := ⟨hB, css, hr, all2_of hcl fun i a b ha hb => (he i a b ha hb).1 (by have := get_lt hb; omega)⟩
  exact hac.own h1 h2 h3 h4
theorem Mix.bd (h : Mix k lo M hi2 hi w v xs) : ∀ g ∈ ob v, lo ≤ g ∧ g < hi := by
  obtain ⟨_, css, h1, _⟩ := h
  intro g hg
  have hg' := ob_own hg
  rcases h1 with ⟨_, a, rfl⟩ | ⟨h1, h2⟩
  · cases a <;> simp [ob] at hg
  · exact ⟨(h1.lt g hg').1, h2 g hg'⟩
theorem Mix.kp0 (h : Mix k lo M hi2 hi w v xs) (kp : Kp [] w w') (hhi : hi ≤ w.heap.size) (hM : M ≤ w.heap.size) (hh2 : hi2 ≤ w.heap.size) : Mix k lo M w'.heap.size w'.heap.size w' v xs := by
  obtain ⟨hB, css, h1, hl, hcl, he⟩ := h
  have hsz := kp.size
  refine ⟨hB, css, ?_, hl, hcl, fun i cs x hc hx => ⟨fun h => ?_, fun h => ?_⟩⟩
  · rcases h1 with h0 | ⟨h1, h2⟩
    · exact .inl h0
    · exact .inr ⟨ownsRow_of h1 fun g hg => kp.block g (by have := h2 g hg; omega) (by simp), fun g hg => by have := h2 g hg; omega⟩
  · exact Rp.mono (rp_kp0 ((he i cs x hc hx).1 h) kp hh2) (Nat.le_refl _) (by omega)
  · exact rp_kp0 ((he i cs x hc hx).2 h) kp hM
/-- An element that is still as of old. -/
theorem Mix.at_ {a : Option Addr} {m c i : Nat} {x : α} (h : Mix k lo M hi2 hi w (.slice a m c) xs) (hx : xs[i]? = some x) (hi' : k ≤ i) :
    ∃ A cs, a = some A ∧ lo ≤ A.block ∧ A.block < hi ∧ CellsAt w (A.add (i * Rp.sz α)) cs ∧ Rp.rp false 0 M w cs x := by
  obtain ⟨_, css, h1, hl, hcl, he⟩ := h
  have hil := get_lt hx
  rcases h1 with ⟨h0, _⟩ | ⟨h1, h2⟩
  · subst h0; simp at hx
  · rcases h1.2 with ⟨_, h0⟩ | ⟨g, cap, cur, hv, hg, hh, hn, hm, hs, ht⟩
    · omega
    · injection hv with e1 e2 e3
      subst e1
      have hci : css[i]? = some (css[i]'(by omega)) := List.getElem?_eq_getElem (by omega)
      have hcells : CellsAt w ⟨g, 0, none⟩ css.flatten := h1.cells (g := g) rfl
      refine ⟨_, css[i]'(by omega), rfl, hg, h2 g rfl, ?_, (he i _ x hci hx).2 hi'⟩
      rw [← flatten_at hl hci]
      exact (hcells.shift _).take _
end

section
variable {P : Program} {Q : Exit → Act → World → Prop} {n : Nat} {fr : Fr} {w : World} {x y : Operand} {ty t : TypeId} {l rest : List Oper} {pos : String} {af : Array Edge}
variable {α : Type} [Rp α] {k lo M hi2 hi : Nat} {xs : List α}
/-- The k-th becomes the call's own: its value is what it was. -/
theorem WO.storeM {a : Option Addr} {A p : Addr} {m c j : Nat} {u : Value} {x0 : α} (hx : ev fr x = some (.pointer (some p))) (hy : ev fr y = some u) (hv : Mix k lo M hi2 hi w (.slice a m c) xs) (hhi : hi ≤ w.heap.size) (hhi2 : hi2 ≤ w.heap.size) (hM : M ≤ lo)
    (hA : a = some A) (hg : xs[k]? = some x0) (hj : j < Rp.sz α) (hp : p = (A.add (k * Rp.sz α)).add j) (hu : u.oneCell' = true) (hi' : (P.info? t).map (·.size) = some 1) (hsep : Rp.tid α ∉ Rp.inner α)
    (hz : ∀ cs, Rp.rp false 0 M w cs x0 → Rp.rp true M w.heap.size w (cs.set j u) x0)
    (kk : ∀ w', Mix (k + 1) lo M w'.heap.size w'.heap.size w' (.slice a m c) xs → Kp (ob (.slice a m c)) w w' → w'.heap.size = w.heap.size → WO P Q n l rest fr w') :
    WO P Q n l (⟨none, .store t x y, ty, pos, af, none⟩ :: rest) fr w := by
  have hil := get_lt hg
  obtain ⟨hB, css, hrow, hl, hcl, he⟩ := hv
  rcases hrow with ⟨h0, _⟩ | ⟨⟨hlen, hr⟩, hb⟩
  · subst h0; simp at hg
  rcases hr with ⟨_, h0⟩ | ⟨g, cap, cur, hv, hg0, hh, hn, hm, hs, ht⟩
  · omega
  injection hv with e1 e2 e3
  subst e1; subst e2; subst e3
  cases hA
  subst hp
  have hpp : ((⟨g, 0, none⟩ : Addr).add (k * Rp.sz α)).add j = ⟨g, k * Rp.sz α + j, none⟩ := by rw [add_add, add_lit, Nat.zero_add]
  have hij : k * Rp.sz α + j < xs.length * Rp.sz α := by
    have : (k + 1) * Rp.sz α ≤ xs.length * Rp.sz α := Nat.mul_le_mul_right _ hil
    rw [Nat.add_mul] at this
    omega
  have hcs : xs.length * Rp.sz α ≤ c * Rp.sz α := Nat.mul_le_mul_right _ hn
  have hjc : k * Rp.sz α + j < cur.size := by omega
  have hcs1 : css[k]? = some (css[k]'(by omega)) := List.getElem?_eq_getElem (by omega)
  have hob : ob (.slice (some ⟨g, 0, none⟩) xs.length c) = [g] := by
    simp only [ob]
    rw [if_neg (by omega)]
  have hcell : w.cell? ⟨g, k * Rp.sz α + j, none⟩ = some cur[k * Rp.sz α + j] := by
    rw [cell_of_row w g _ cur _ _ hh]; simp [hjc]
  have hfz : w.frozen? ⟨g, k * Rp.sz α + j, none⟩ = false := by simp [World.frozen?, hh]
  have hkp : Kp [g] w (w.setCell ⟨g, k * Rp.sz α + j, none⟩ u) := Kp.setCell w ⟨g, k * Rp.sz α + j, none⟩ u
  have hh' : (w.setCell ⟨g, k * Rp.sz α + j, none⟩ u).heap[g]? = some (.cells (cur.setIfInBounds (k * Rp.sz α + j) u) (Rp.tid α) (0, 0)) := by
    simp [World.setCell, Array.getElem?_modify, hh]
  have hw' : (w.setCell ⟨g, k * Rp.sz α + j, none⟩ u).heap.size = w.heap.size := by simp
  have keepO : ∀ {h : Nat} {cs : List Value} {z : α}, h ≤ w.heap.size → Rp.rp true M h w cs z → Rp.rp true M w.heap.size (w.setCell ⟨g, k * Rp.sz α + j, none⟩ u) cs z := by
    intro h cs z hle hz
    refine Rp.keepT (Rp.mono hz (Nat.le_refl _) hle) (.inr rfl) fun b cur' t _ _ hb' hbt ht => hkp.block b (by omega) fun hmm => ?_
    have : b = g := by simpa using hmm
    subst this
    rw [hh] at hbt
    injection hbt with hbt
    injection hbt with _ he
    exact hsep (he ▸ ht)
  have keepF : ∀ {cs : List Value} {z : α}, Rp.rp false 0 M w cs z → Rp.rp false 0 M (w.setCell ⟨g, k * Rp.sz α + j, none⟩ u) cs z := fun hz => Rp.keep hz fun b _ hb' => hkp.block b (by
    have := (Array.getElem?_eq_some_iff.1 hh).1
    omega) fun hmm => by
      have : b = g := by simpa using hmm
      omega
  refine WO.s (w' := w.setCell ⟨g, k * Rp.sz α + j, none⟩ u) (fun a _ _ _ _ ha => ?_) (kk _ ⟨hB, css.set k ((css[k]'(by omega)).set j u), .inr ⟨⟨?_, .inr ⟨g, c, cur.setIfInBounds (k * Rp.sz α + j) u, rfl, hg0, hh', hn, hm, by simp [hs], ?_⟩⟩, ?_⟩, ?_, ?_, ?_⟩ (by rw [hob]; exact hkp) hw')
  · cases hq : P.info? t with
    | none => simp [hq] at hi'
    | some q =>
      have hs : q.size = 1 := by simpa [hq] using hi'
      have hcells : u.cells = #[u] := by cases u <;> simp_all [Value.cells, Value.oneCell']
      have hst : (store (⟨g, k * Rp.sz α + j, none⟩ : Addr) u).run P w = .ok () (w.setCell ⟨g, k * Rp.sz α + j, none⟩ u) := by
        rw [run_store P w _ u _ hu, hcell]
        simp [hfz]
      rw [hpp] at hx
      simp [execOp, ha.ev hx, ha.ev hy, Instr.storeAt, Instr.sureAddr, storeVar, sizeOf, typeInfo, hq, hs, hcells, storeCells, Addr.add_zero', hst]
  · rw [flatten_set hl hcs1 hj, List.length_set]; exact hlen
  · rw [flatten_set hl hcs1 hj, Array.toList_setIfInBounds, List.take_set, ht]
  · intro g' hg'
    have := hb g' hg'
    omega
  · intro cs hcs
    rcases List.mem_or_eq_of_mem_set hcs with h | h
    · exact hl cs h
    · subst h; rw [List.length_set]; exact hl _ (List.getElem_mem _)
  · rw [List.length_set]; exact hcl
  · intro i cs z hc hz'
    by_cases hik : i = k
    · subst hik
      rw [List.getElem?_set_self (by omega)] at hc
      cases hc
      rw [hg] at hz'
      cases hz'
      refine ⟨fun _ => ?_, fun h => by omega⟩
      rw [hw']
      exact keepO (Nat.le_refl _) (hz _ ((he i _ _ hcs1 hg).2 (Nat.le_refl _)))
    · rw [List.getElem?_set_ne (fun e => hik e.symm)] at hc
      refine ⟨fun h => ?_, fun h => keepF ((he i cs z hc hz').2 (by omega))⟩
      rw [hw']
      exact keepO hhi2 ((he i cs z hc hz').1 (by omega))
end

end Go.Proofs.Ytfmlgeeogbhppaa
