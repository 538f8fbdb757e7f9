/- Stores into rows of the call's own; make; slices of slices and of strings. Conditions: each lemma's own. -/
import Derived.Test.YtfmlgeeogbhppaaAcc
namespace Go.Proofs.Ytfmlgeeogbhppaa
open Go.RowKit

theorem flatten_set {n : Nat} : ∀ {css : List (List Value)} (_ : ∀ cs ∈ css, cs.length = n) {i j : Nat} {cs : List Value} {u : Value}, css[i]? = some cs → j < n → (css.set i (cs.set j u)).flatten = css.flatten.set (i * n + j) u
  | [], _, i, j, cs, u, h, _ => by simp at h
  | c :: css, hl, 0, j, cs, u, h, hj => by
    simp at h; subst h
    have h1 := hl c (by simp)
    rw [List.set_cons_zero, List.flatten_cons, List.flatten_cons, Nat.zero_mul, Nat.zero_add, List.set_append_left _ _ (by omega)]
  | c :: css, hl, i + 1, j, cs, u, h, hj => by
    have h1 := hl c (by simp)
    have ih := flatten_set (css := css) (fun x hx => hl x (by simp [hx])) (i := i) (j := j) (cs := cs) (u := u) (by simpa using h) hj
    rw [List.set_cons_succ, List.flatten_cons, List.flatten_cons, ih, show (i + 1) * n + j = c.length + (i * n + j) by rw [h1, Nat.add_mul]; omega, List.set_append_right _ _ (by omega)]
    congr 2
    omega
theorem All2.at_ {α β : Type} {R : α → β → Prop} {as : List α} {bs : List β} (h : All2 R as bs) {i : Nat} {b : β} (hb : bs[i]? = some b) : ∃ a, as[i]? = some a ∧ R a b := h.get i b hb

section
variable {P : Program} {Q : Exit → Act → World → Prop} {n : Nat} {fr : Fr} {w : World} {x y : Operand} {ty t : TypeId} {l rest : List Oper} {d : Nat} {pos : String} {af : Array Edge}
variable {α : Type} [Rp α] {lo lo2 hi2 hi : Nat} {o2 : Bool} {xs : List α}
/-- A store into a cell of an element of a row of the call's own. -/
theorem WO.storeE {a : Option Addr} {A p : Addr} {m c i j : Nat} {u : Value} {x0 z : α} (hx : ev fr x = some (.pointer (some p))) (hy : ev fr y = some u) (hv : Ac lo o2 lo2 hi2 hi w (.slice a m c) xs) (hhi2 : hi2 ≤ w.heap.size)
    (hA : a = some A) (hg : xs[i]? = some x0) (hj : j < Rp.sz α) (hp : p = (A.add (i * Rp.sz α)).add j) (hu : u.oneCell' = true) (hi' : (P.info? t).map (·.size) = some 1)
    (hsep : Rp.inner α = [] ∨ (o2 = true ∧ Rp.tid α ∉ Rp.inner α) ∨ hi2 ≤ lo)
    (hz : ∀ cs, Rp.rp o2 lo2 hi2 w cs x0 → Rp.rp o2 lo2 hi2 w (cs.set j u) z)
    (k : ∀ w', Ac lo o2 lo2 hi2 hi w' (.slice a m c) (xs.set i z) → Kp (ob (.slice a m c)) w w' → w'.heap.size = w.heap.size → WO P Q n l rest fr w') :
    WO P Q n l (⟨none, .store t x y, ty, pos, af, none⟩ :: rest) fr w := by
  have hil := get_lt hg
  have hvrow := hv.ty
  obtain ⟨hB, css, hrow, hall⟩ := hv
  rcases hrow with ⟨h0, _⟩ | ⟨⟨hlen, hr⟩, hb⟩
  · subst h0; simp at hg
  rcases hr with ⟨_, h0⟩ | ⟨g, cap, cur, hv, hg0, hh, hn, hm, hs, ht⟩
  · omega
  injection hv with e1 e2 e3
  subst e1; subst e2; subst e3
  cases hA
  subst hp
  have hpp : ((⟨g, 0, none⟩ : Addr).add (i * Rp.sz α)).add j = ⟨g, i * Rp.sz α + j, none⟩ := by rw [add_add, add_lit, Nat.zero_add]
  have hij : i * Rp.sz α + j < xs.length * Rp.sz α := by
    have : (i + 1) * Rp.sz α ≤ xs.length * Rp.sz α := Nat.mul_le_mul_right _ hil
    rw [Nat.add_mul] at this
    omega
  have hcs : xs.length * Rp.sz α ≤ c * Rp.sz α := Nat.mul_le_mul_right _ hn
  have hjc : i * Rp.sz α + j < cur.size := by omega
  obtain ⟨cs, hcs1, hcs2⟩ := hall.get i x0 hg
  have hob : ob (.slice (some ⟨g, 0, none⟩) xs.length c) = [g] := by
    simp only [ob]
    rw [if_neg (by omega)]
  have hcell : w.cell? ⟨g, i * Rp.sz α + j, none⟩ = some cur[i * Rp.sz α + j] := by
    rw [cell_of_row w g _ cur _ _ hh]; simp [hjc]
  have hfz : w.frozen? ⟨g, i * Rp.sz α + j, none⟩ = false := by simp [World.frozen?, hh]
  have hkp : Kp [g] w (w.setCell ⟨g, i * Rp.sz α + j, none⟩ u) := Kp.setCell w ⟨g, i * Rp.sz α + j, none⟩ u
  have hh' : (w.setCell ⟨g, i * Rp.sz α + j, none⟩ u).heap[g]? = some (.cells (cur.setIfInBounds (i * Rp.sz α + j) u) (Rp.tid α) (0, 0)) := by
    simp [World.setCell, Array.getElem?_modify, hh]
  have hkeep : ∀ {cs : List Value} {z : α}, Rp.rp o2 lo2 hi2 w cs z → Rp.rp o2 lo2 hi2 (w.setCell ⟨g, i * Rp.sz α + j, none⟩ u) cs z := by
    intro cs z hz
    rcases hsep with h | ⟨h, hni⟩ | h
    · exact Rp.keepT hz (.inl h) fun b cur t _ _ _ _ ht => by rw [h] at ht; cases ht
    · refine Rp.keepT hz (.inr h) fun b cur' t _ _ hb' hbt ht => hkp.block b (by omega) fun hmm => ?_
      have : b = g := by simpa using hmm
      subst this
      rw [hh] at hbt
      injection hbt with hbt
      injection hbt with _ he
      exact hni (he ▸ ht)
    · exact Rp.keep hz fun b _ hb' => hkp.block b (by omega) fun hmm => by
        have : b = g := by simpa using hmm
        omega
  refine WO.s (w' := w.setCell ⟨g, i * Rp.sz α + j, none⟩ u) (fun a _ _ _ _ ha => ?_) (k _ ⟨?_, css.set i (cs.set j u), .inr ⟨⟨?_, .inr ⟨g, c, cur.setIfInBounds (i * Rp.sz α + j) u, by rw [List.length_set], hg0, hh', by rw [List.length_set]; exact hn, hm, by simp [hs], ?_⟩⟩, ?_⟩, ?_⟩ (by rw [hob]; exact hkp) (by simp))
  · cases hq : P.info? t with
    | none => simp [hq] at hi'
    | some q =>
      have hs : q.size = 1 := by simpa [hq] using hi'
      have hcells : u.cells = #[u] := by cases u <;> simp_all [Value.cells, Value.oneCell']
      have hst : (store (⟨g, i * Rp.sz α + j, none⟩ : Addr) u).run P w = .ok () (w.setCell ⟨g, i * Rp.sz α + j, none⟩ u) := by
        rw [run_store P w _ u _ hu, hcell]
        simp [hfz]
      rw [hpp] at hx
      simp [execOp, ha.ev hx, ha.ev hy, Instr.storeAt, Instr.sureAddr, storeVar, sizeOf, typeInfo, hq, hs, hcells, storeCells, Addr.add_zero', hst]
  · rw [List.length_set]; exact hB
  · rw [flatten_set hall.lens hcs1 hj, List.length_set, List.length_set]; exact hlen
  · rw [flatten_set hall.lens hcs1 hj, List.length_set, Array.toList_setIfInBounds, List.take_set, ht]
  · intro g' hg'
    exact hb g' hg'
  · exact (hall.imp fun _ _ h => hkeep h).set i (hkeep (hz cs hcs2))
/-- make, of elements of one cell, all of them noughts. -/
theorem WO.make1 {kl kc : IntKind} {m s b : Nat} {u : Value} {z : α} (hx : ev fr x = some (.int kl (m : Int))) (hy : ev fr y = some (.int kc (m : Int))) (ht : P.underlying t = some (.slice (Rp.tid α)))
    (hi' : (P.info? (Rp.tid α)).map (fun i => (i.zero.map Value.cells, i.size, i.bytes)) = some (some ([u] : List Value).toArray, s, b)) (hs : Rp.sz α = s) (hby : Rp.by_ α = b) (hs1 : s = 1) (hz : ∀ o lo hi w, Rp.rp o lo hi w [u] z)
    (hlen : m * b ≤ 140737488355328) (hm : m ≤ maxLen) (hd : Nat.blt d n = true)
    (k : ∀ w', Ac w.heap.size o2 lo2 hi2 w'.heap.size w' (.slice (some ⟨w.heap.size, 0, none⟩) m m) (List.replicate m z) → Kp [] w w' → w.heap.size < w'.heap.size → WO P Q n l rest ((d, .slice (some ⟨w.heap.size, 0, none⟩) m m) :: fr) w') :
    WO P Q n l (⟨some d, .makeSlice t x y, ty, pos, af, none⟩ :: rest) fr w := by
  obtain ⟨i, zv, hq, hzv, hzc, hsz, hb_⟩ := info_of hi'
  obtain ⟨w', hrun, hown, hgr⟩ := run_make_full (P := P) w w.heap.size t (Rp.tid α) i zv 1 ht hq hzv (by omega) kl kc m (by rw [hb_, Nat.mul_comm]; omega) hm (Nat.le_refl _)
  have hfl : ((List.replicate m [u]).flatten) = List.replicate m u := by
    rw [List.flatten_replicate_singleton]
  have hlt : w.heap.size < w'.heap.size := by
    rcases hown.2 with ⟨h, _⟩ | ⟨g, cap, cur, h, _, hh, _⟩
    · cases h
    · injection h with h1 _ _
      cases h1
      exact (Array.getElem?_eq_some_iff.1 hh).1
  have hmade : (madeCells zv.cells (m * 1)).toList = List.replicate m u := by
    rw [hzc]; simp [madeCells, Nat.mod_one, List.map_const']
  refine WO.v (v := .slice (some ⟨w.heap.size, 0, none⟩) m m) (w' := w') (fun a _ _ _ _ ha => ?_) hd (k w' ⟨?_, List.replicate m [u], .inr ⟨?_, fun g hg => ?_⟩, ?_⟩ (Kp.of_grown0 hgr) hlt)
  · simp [execOp, ha.ev hx, ha.ev hy, hrun]
  · rw [List.length_replicate, hby]; exact hlen
  · rw [List.length_replicate, hfl, hs, hs1, ← hmade]
    exact hown
  · simp [Value.ownBlock] at hg; omega
  · have : ∀ m, All2 (Rp.rp o2 lo2 hi2 w') (List.replicate m [u]) (List.replicate m z) := by
      intro m
      induction m with
      | zero => exact .nil
      | succ m ih => exact .cons (hz _ _ _ _) ih
    exact this m
theorem WC.cutEndK {cc : Code} (ks : List Nat) {fr2 : Fr} (_hs : selF ks fr = some fr2) (ch : Fr) (J : World → Prop) (h : WC P (cutQ Q n (ch ++ fr2) J) n cc fr w) (k : ∀ w', J w' → WX Q n .normal (ch ++ fr2) w') : WC P Q n cc fr w := WC.cutEnd (ch ++ fr2) J h k
theorem add_zero_ (a : Addr) : a.add 0 = a := by simp [Addr.add_zero']
/-- A slice of a slice reads as a part of the list. -/
theorem Sl.cut {o : Bool} {a : Option Addr} {m c i j s : Nat} (h : Sl o lo hi w (.slice a m c) xs) (hs : Rp.sz α = s) (hij : i ≤ j) (hj : j ≤ m) :
    ∃ a', (if c = i then a else a.map (·.add (i * s))) = a' ∧ Sl false lo hi w (.slice a' (j - i) (c - i)) ((xs.drop i).take (j - i)) ∧ m ≤ c ∧ ((xs.drop i).take (j - i)).length = j - i := by
  subst hs
  obtain ⟨a', c', css, hv, h1, ⟨h2, hB⟩, h3, h4, _⟩ := h
  injection hv with e1 e2 e3
  subst e1; subst e2; subst e3
  have hl : ((xs.drop i).take (j - i)).length = j - i := by rw [List.length_take, List.length_drop]; omega
  have hlB : ((xs.drop i).take (j - i)).length * Rp.by_ α ≤ 140737488355328 := by
    have : ((xs.drop i).take (j - i)).length * Rp.by_ α ≤ xs.length * Rp.by_ α := Nat.mul_le_mul_right _ (by omega)
    omega
  have hw : All2 (Rp.rp false lo hi w) ((css.drop i).take (j - i)) ((xs.drop i).take (j - i)) := (((h3.imp fun _ _ h => Rp.weak h).drop i).take (j - i))
  have hfl : ∀ css' : List (List Value), (∀ cs ∈ css', cs.length = Rp.sz α) → ∀ i, (css'.drop i).flatten = css'.flatten.drop (i * Rp.sz α) := by
    intro css'
    induction css' with
    | nil => intro _ i; simp
    | cons c0 r ih =>
      intro hc i
      cases i with
      | zero => simp
      | succ i =>
        have h0 := hc c0 (by simp)
        rw [List.drop_succ_cons, ih (fun x hx => hc x (by simp [hx])), List.flatten_cons, show (i + 1) * Rp.sz α = c0.length + i * Rp.sz α by rw [h0, Nat.add_mul]; omega, List.drop_append, (List.drop_eq_nil_of_le (by omega) : c0.drop (c0.length + i * Rp.sz α) = [])]
        simp
  have hft : ∀ css' : List (List Value), (∀ cs ∈ css', cs.length = Rp.sz α) → ∀ i, (css'.take i).flatten = css'.flatten.take (i * Rp.sz α) := by
    intro css'
    induction css' with
    | nil => intro _ i; simp
    | cons c0 r ih =>
      intro hc i
      cases i with
      | zero => simp
      | succ i =>
        have h0 := hc c0 (by simp)
        rw [List.take_succ_cons, List.flatten_cons, ih (fun x hx => hc x (by simp [hx])), List.flatten_cons, show (i + 1) * Rp.sz α = c0.length + i * Rp.sz α by rw [h0, Nat.add_mul]; omega, List.take_append, List.take_of_length_le (l := c0) (by omega)]
        simp
  refine ⟨_, rfl, ⟨_, c - i, (css.drop i).take (j - i), by rw [hl], by rw [hl]; omega, ⟨by omega, hlB⟩, hw, ?_, fun h => by cases h⟩, h1, hl⟩
  rcases h4 with h4 | ⟨A, rfl, hlo, hhi, hc⟩
  · subst h4; exact .inl (by simp)
  · by_cases hci : c = i
    · left
      have : j - i = 0 := by omega
      rw [this]; rfl
    · right
      rw [if_neg hci]
      refine ⟨A.add (i * Rp.sz α), rfl, by rw [add_block]; exact hlo, by rw [add_block]; exact hhi, ?_⟩
      have := hc.shift (i * Rp.sz α)
      rw [hft _ (fun x hx => h3.lens x (List.mem_of_mem_drop hx)), hfl _ h3.lens]
      exact this.take _
theorem R.sliceLH {a a' : Option Addr} {m c i j s : Nat} {kl kh : IntKind} {z z' : Operand} (hx : ev fr x = some (.slice a m c)) (hz : ev fr z = some (.int kl (i : Int))) (hz' : ev fr z' = some (.int kh (j : Int))) {e : TypeId} (ht : P.underlying t = some (.slice e)) (hs : (P.info? e).map (·.size) = some s)
    (ha : (if c = i then a else a.map (·.add (i * s))) = a') (hij : i ≤ j) (hj : j ≤ c) : Runs P n fr w (.slice t x (some z) (some z') none) ty (.slice a' (j - i) (c - i)) w := fun _ _ _ _ _ hfr => by
  subst ha
  cases hq : P.info? e with
  | none => simp [hq] at hs
  | some q =>
    have hs' : q.size = s := by simpa [hq] using hs
    have he : P.elem t = e := by simp [Program.elem, ht]
    have e0 := run_sliceAt_slice (P := P) w t (.slice a m c) (some (.int kl (i : Int))) (some (.int kh (j : Int))) none (by rw [he]; exact ht)
    have := run_slice_lh (P := P) w t a m c (by rw [he]; exact ht) kl kh (i : Int) (j : Int) (by omega) (by omega) (by omega)
    simp [execOp, hfr.ev hx, hfr.ev hz, hfr.ev hz', e0, this, he, sizeOf, typeInfo, hq, hs', sliced, Result.andThen]
theorem R.sliceH {a a' : Option Addr} {m c j s : Nat} {kh : IntKind} {z' : Operand} (hx : ev fr x = some (.slice a m c)) (hz' : ev fr z' = some (.int kh (j : Int))) {e : TypeId} (ht : P.underlying t = some (.slice e)) (hs : (P.info? e).map (·.size) = some s)
    (ha : (if c = 0 then a else a.map (·.add (0 * s))) = a') (hj : j ≤ c) : Runs P n fr w (.slice t x none (some z') none) ty (.slice a' (j - 0) (c - 0)) w := fun _ _ _ _ _ hfr => by
  subst ha
  cases hq : P.info? e with
  | none => simp [hq] at hs
  | some q =>
    have hs' : q.size = s := by simpa [hq] using hs
    have he : P.elem t = e := by simp [Program.elem, ht]
    have e0 := run_sliceAt_slice (P := P) w t (.slice a m c) none (some (.int kh (j : Int))) none (by rw [he]; exact ht)
    have := run_slice_h (P := P) w t a m c (by rw [he]; exact ht) kh (j : Int) (by omega) (by omega)
    simp [execOp, hfr.ev hx, hfr.ev hz', e0, this, he, sizeOf, typeInfo, hq, hs', sliced, Result.andThen]
theorem R.sliceL {a a' : Option Addr} {m c i s : Nat} {kl : IntKind} {z : Operand} (hx : ev fr x = some (.slice a m c)) (hz : ev fr z = some (.int kl (i : Int))) {e : TypeId} (ht : P.underlying t = some (.slice e)) (hs : (P.info? e).map (·.size) = some s)
    (ha : (if c = i then a else a.map (·.add (i * s))) = a') (hj : i ≤ m) : Runs P n fr w (.slice t x (some z) none none) ty (.slice a' (m - i) (c - i)) w := fun _ _ _ _ _ hfr => by
  subst ha
  cases hq : P.info? e with
  | none => simp [hq] at hs
  | some q =>
    have hs' : q.size = s := by simpa [hq] using hs
    have he : P.elem t = e := by simp [Program.elem, ht]
    have e0 := run_sliceAt_slice (P := P) w t (.slice a m c) (some (.int kl (i : Int))) none none (by rw [he]; exact ht)
    have := run_slice_l (P := P) w t a m c (by rw [he]; exact ht) kl (i : Int) (by omega) (by omega)
    simp [execOp, hfr.ev hx, hfr.ev hz, e0, this, he, sizeOf, typeInfo, hq, hs', sliced, Result.andThen]
def Str.cut (s : Str) (i j : Nat) : Str := ⟨(s.b.drop i).take (j - i)⟩
theorem Str.cut_val (s : Str) (i j : Nat) : (Value.string ((⟨s.b.toArray⟩ : ByteArray).extract i j)) = (s.cut i j).val := by
  simp only [Str.val, Str.cut]
  congr 1
  apply ByteArray.ext
  apply Array.ext'
  simp [ByteArray.data_extract]
theorem Str.cut_all {s : Str} {j : Nat} (h : s.b.length ≤ j) : s = s.cut 0 j := by
  cases s with | mk b =>
  show _ = (⟨(b.drop 0).take (j - 0)⟩ : Str)
  rw [List.drop_zero, List.take_of_length_le (by simpa using h)]
theorem Str.cut_len (s : Str) (i j : Nat) : (s.cut i j).b.length ≤ s.b.length := by simp only [Str.cut, List.length_take, List.length_drop]; omega
theorem R.strH {s : Str} {j : Nat} {kh : IntKind} {z' : Operand} (hx : ev fr x = some s.val) (hz' : ev fr z' = some (.int kh (j : Int))) (ht : P.underlying t = some .string) (hj : j ≤ s.b.length) :
    Runs P n fr w (.slice t x none (some z') none) ty (s.cut 0 j).val w := fun _ _ _ _ _ hfr => by
  have e0 := run_sliceAt_string (P := P) w t (.string ⟨s.b.toArray⟩) none (some (.int kh (j : Int))) none ht
  have := run_slice_string_h (P := P) w t ⟨s.b.toArray⟩ ht kh (j : Int) (by omega) (by show (j : Int) ≤ ((s.b.toArray.size : Nat) : Int); simp; omega)
  rw [← Str.cut_val s 0 j]
  simp only [Str.val] at hx
  simp [execOp, hfr.ev hx, hfr.ev hz', e0, this]
theorem wrap_i64 (z : Int) : I64 (IntKind.i64.wrap z) := by
  show I64 (if (true && decide (z % 18446744073709551616 ≥ 9223372036854775808)) = true then z % 18446744073709551616 - 18446744073709551616 else z % 18446744073709551616)
  simp only [Bool.true_and, decide_eq_true_eq]
  unfold I64
  split <;> omega
theorem wrap_u8 (a : Nat) : IntKind.u8.wrap (a : Int) = (((UInt8.ofNat a).toNat : Nat) : Int) := by
  rw [UInt8.toNat_ofNat']
  show (a : Int) % 256 = _
  omega
theorem wrap_u64 {a : Nat} (h : a < 18446744073709551616) : IntKind.u64.wrap (a : Int) = (a : Int) := by
  show (a : Int) % 18446744073709551616 = _
  omega
theorem R.toU8 {k : IntKind} {a : Nat} {t' : TypeId} {dd : TypeDesc} (hx : ev fr x = some (.int k (a : Int))) (hs : P.underlying t = some dd) (hd : P.underlying t' = some (.int .u8)) : Runs P n fr w (.convert t t' x) ty (.int .u8 (((UInt8.ofNat a).toNat : Nat) : Int)) w := by
  have := R.conv (P := P) (n := n) (w := w) (ty := ty) hx hs hd
  rwa [wrap_u8] at this
theorem R.toU64 {k : IntKind} {a : Nat} {t' : TypeId} {dd : TypeDesc} (hx : ev fr x = some (.int k (a : Int))) (hs : P.underlying t = some dd) (hd : P.underlying t' = some (.int .u64)) (h : a < 18446744073709551616) : Runs P n fr w (.convert t t' x) ty (.int .u64 (a : Int)) w := by
  have := R.conv (P := P) (n := n) (w := w) (ty := ty) hx hs hd
  rwa [wrap_u64 h] at this
theorem R.toU64J {k : IntKind} {z : Int} {a : Nat} {t' : TypeId} {dd : TypeDesc} (hx : ev fr x = some (.int k z)) (hs : P.underlying t = some dd) (hd : P.underlying t' = some (.int .u64)) (hz : z = (a : Int)) (h : a < 18446744073709551616) : Runs P n fr w (.convert t t' x) ty (.int .u64 (a : Int)) w := by
  subst hz; exact R.toU64 hx hs hd h
theorem R.toI64 {k : IntKind} {a : Nat} {t' : TypeId} {dd : TypeDesc} (hx : ev fr x = some (.int k (a : Int))) (hs : P.underlying t = some dd) (hd : P.underlying t' = some (.int .i64)) (h : a ≤ 9223372036854775807) : Runs P n fr w (.convert t t' x) ty (.int .i64 (a : Int)) w := by
  have := R.conv (P := P) (n := n) (w := w) (ty := ty) hx hs hd
  rwa [I64.wrap ⟨by omega, by omega⟩] at this
theorem R.orU8 {a b : UInt8} {t' : TypeId} (hx : ev fr x = some (.int .u8 (a.toNat : Int))) (hy : ev fr y = some (.int .u8 (b.toNat : Int))) : Runs P n fr w (.binOp .or t x y t') ty (.int .u8 ((a ||| b).toNat : Int)) w := fun _ _ _ _ _ ha => by
  have e : bits .or .u8 (a.toNat : Int) (b.toNat : Int) = ((a ||| b).toNat : Int) := by
    have h1 : ∀ c : UInt8, (BitVec.ofInt 8 (c.toNat : Int)) = c.toBitVec := fun c => by
      rw [BitVec.ofInt_natCast]; exact BitVec.eq_of_toNat_eq (by simp)
    show IntKind.u8.wrap ((BitVec.ofInt 8 (a.toNat : Int) ||| BitVec.ofInt 8 (b.toNat : Int)).toNat : Int) = _
    rw [h1, h1, ← UInt8.toBitVec_or]
    have := (a ||| b).toNat_lt
    exact wrapU8 this
  simp [execOp, ha.ev hx, ha.ev hy, eqGuard_or, binOp_or, intBits_or, e]
theorem R.shrN {k kc : IntKind} {a b : Nat} {t' : TypeId} (hx : ev fr x = some (.int k (a : Int))) (hy : ev fr y = some (.int kc (b : Int))) (hb : b ≤ k.bits) : Runs P n fr w (.binOp .shr t x y t') ty (.int k ((a / 2 ^ b : Nat) : Int)) w := fun _ _ _ _ _ ha => by
  have e : (a : Int) / 2 ^ min (b : Int).toNat k.bits = ((a / 2 ^ b : Nat) : Int) := by
    rw [Int.toNat_natCast, Nat.min_eq_left hb]; simp
  simp [execOp, ha.ev hx, ha.ev hy, eqGuard_shr, binOp_shr, shift_shr_any _ _ _ _ (Int.natCast_nonneg b)]
  simpa using e
theorem ob_n {a : Option Addr} {m m' c : Nat} : ob (.slice a m c) = ob (.slice a m' c) := by cases a <;> rfl
theorem dj_n {a a' : Option Addr} {c c' m m' r r' : Nat} (h : ∀ g ∈ ob (.slice a m c), g ∉ ob (.slice a' m' c')) : ∀ g ∈ ob (.slice a r c), g ∉ ob (.slice a' r' c') := by
  rw [ob_n (m := r) (m' := m), ob_n (m := r') (m' := m')]; exact h
theorem ac_n {hi' : Nat} {a : Option Addr} {m r c : Nat} {ys : List α} (h : Ac lo o2 lo2 hi2 hi' w (.slice a m c) xs) (e : xs = ys) (en : m = r) : Ac lo o2 lo2 hi2 hi' w (.slice a r c) ys := by
  subst e; subst en; exact h
theorem sl_n {hi' : Nat} {o : Bool} {a : Option Addr} {m c : Nat} {ys : List α} (h : Sl o lo hi' w (.slice a m c) xs) (e : xs = ys) (en : m = ys.length) : Sl o lo hi' w (.slice a ys.length c) ys := by
  subst e; subst en; exact h
theorem ac_kpF {hi : Nat} {w' : World} {v : Value} {S : List Nat} (h : Ac lo o2 lo2 hi2 hi w v xs) (k : Kp S w w') (hhi : hi ≤ w.heap.size) (hhi2 : hi2 ≤ w.heap.size) (hS : ∀ g ∈ S, g < lo ∨ hi ≤ g) (hE : Rp.inner α = []) : Ac lo o2 lo2 hi2 hi w' v xs :=
  ac_kpD h k hhi hhi2 (fun g hg hm => by have := h.bd g hg; have := hS g hm; omega) (.inl hE)
theorem ac_kpB {hi : Nat} {w' : World} {v : Value} {S : List Nat} (h : Ac lo true lo2 hi2 hi w v xs) (k : Kp S w w') (hhi : hi ≤ w.heap.size) (hhi2 : hi2 ≤ w.heap.size) (hS : ∀ g ∈ S, g < lo ∨ hi ≤ g) (hT : ∀ g ∈ S, ∃ cur t, w.heap[g]? = some (.cells cur t (0, 0)) ∧ t ∉ Rp.inner α) : Ac lo true lo2 hi2 hi w' v xs :=
  ac_kpD h k hhi hhi2 (fun g hg hm => by have := h.bd g hg; have := hS g hm; omega) (.inr (.inl ⟨rfl, hT⟩))
theorem acl_n {hi' : Nat} {a : Option Addr} {m c : Nat} {ys : List α} (h : Ac lo o2 lo2 hi2 hi' w (.slice a m c) xs) (e : xs = ys) (en : m = ys.length) : Ac lo o2 lo2 hi2 hi' w (.slice a ys.length c) ys := by
  subst e; subst en; exact h
theorem rp_cast {o : Bool} {a b : Nat} {cs cs' : List Value} {z : α} (e : cs = cs') (h : Rp.rp o a b w cs' z) : Rp.rp o a b w cs z := e ▸ h
theorem or_init {a : Option Addr} {m m' c p : Nat} : ∀ g ∈ ob (.slice a m c), g ∈ ob (.slice a m' c) ∨ p ≤ g := fun _ hg => .inl (by rw [ob_n (m' := m)]; exact hg)
theorem or_n {a : Option Addr} {m r c p : Nat} {S : List Nat} (h : ∀ g ∈ ob (.slice a m c), g ∈ S ∨ p ≤ g) : ∀ g ∈ ob (.slice a r c), g ∈ S ∨ p ≤ g := by
  rw [ob_n (m' := m)]; exact h
theorem vs_n {a : Option Addr} {m r c : Nat} (en : m = r) : Value.slice a m c = Value.slice a r c := by rw [en]
end

end Go.Proofs.Ytfmlgeeogbhppaa
