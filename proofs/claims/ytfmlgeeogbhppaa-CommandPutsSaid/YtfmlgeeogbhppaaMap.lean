/- Maps that a call makes of integer keys: a literal, its look-ups. Conditions: each lemma's own. -/
import Derived.Test.YtfmlgeeogbhppaaInl
import Derived.MapKept
import Derived.Laws.IdiomStrings
namespace Go.Proofs.Ytfmlgeeogbhppaa
open Go.RowKit
open Go.MapKept (IsKey run_checkKey run_findKey run_setObj_map heap_set heap_alloc)

theorem stabAgg {α : Type} [Rp α] {X : α} {u : Value} {w w' : World} (h : ∃ cs : List Value, u = .agg cs.toArray ∧ Rp.rp false 0 w.heap.size w cs X) (k : Kp [] w w') : ∃ cs : List Value, u = .agg cs.toArray ∧ Rp.rp false 0 w'.heap.size w' cs X := by
  obtain ⟨cs, e, h⟩ := h
  exact ⟨cs, e, Rp.mono (rp_kp0 h k (Nat.le_refl _)) (Nat.le_refl _) k.size⟩
theorem ga {a b : Bool} (h : a = true) (h2 : b = true) : (a && b) = true := by rw [h, h2]; rfl
theorem gn {a : Bool} (h : a = false) : (!a) = true := by rw [h]; rfl
theorem gnf {a : Bool} (h : a = true) : (!a) = false := by rw [h]; rfl
theorem gfl {a b : Bool} (h : a = false) : (a && b) = false := by rw [h]; rfl
theorem gfr {a b : Bool} (h : b = false) : (a && b) = false := by rw [h]; cases a <;> rfl
theorem gno {a : Bool} {p : Prop} (h : a = false) (h2 : a = true) : p := by rw [h] at h2; cases h2
/-- The map in block g has these entries, in this order. -/
def MapB (w : World) (g : Nat) (L : List (Int × Value)) : Prop :=
  ∃ a, w.heap[g]? = some (.map a L.length) ∧ a.toList.map (fun e => (e.key, e.val)) = L.map (fun p => (Value.int .i64 p.1, p.2))
def mget (z : Value) (k : Int) : List (Int × Value) → Value
  | [] => z
  | p :: r => if k = p.1 then p.2 else mget z k r
def mhas (k : Int) : List (Int × Value) → Bool
  | [] => false
  | p :: r => decide (k = p.1) || mhas k r
def mgetA {β : Type} (z : β) (k : Int) : List (Int × β) → β
  | [] => z
  | p :: r => if k = p.1 then p.2 else mgetA z k r
def spanV (p : Int × Int) : Value := .agg #[.int .i64 p.1, .int .i64 p.2]
theorem mget_f {β : Type} {f : β → Value} {z : β} {k : Int} : ∀ {es : List (Int × β)}, mget (f z) k (es.map fun p => (p.1, f p.2)) = f (mgetA z k es)
  | [] => rfl
  | p :: r => by
    simp only [List.map_cons, mget, mgetA]
    split
    · rfl
    · exact mget_f
section
variable {w w' : World} {g : Nat} {L : List (Int × Value)}
theorem MapB.lt (h : MapB w g L) : g < w.heap.size := by
  obtain ⟨a, h, _⟩ := h
  exact (Array.getElem?_eq_some_iff.1 h).1
theorem MapB.kp {S : List Nat} (h : MapB w g L) (k : Kp S w w') (hg : g ∉ S) : MapB w' g L := by
  have hl := h.lt
  obtain ⟨a, h, h2⟩ := h
  exact ⟨a, (k.block g hl hg).trans h, h2⟩
theorem MapB.kp0 (h : MapB w g L) (k : Kp [] w w') : MapB w' g L := h.kp k (by simp)
theorem MapB.kp1 {a : Nat} (h : MapB w g L) (k : Kp [a] w w') (hg : g ≠ a) : MapB w' g L := h.kp k (by simpa using hg)
theorem map_kpT {S : List Nat} {t' : TypeId} (h : MapB w g L) (k : Kp S w w') (hS : ∀ g ∈ S, ∃ cur, w.heap[g]? = some (.cells cur t' (0, 0))) : MapB w' g L :=
  h.kp k fun hm => by
    obtain ⟨c, hc⟩ := hS g hm
    obtain ⟨a, ha, _⟩ := h
    rw [ha] at hc; cases hc
end
theorem findNow_m {k : Int} {z : Value} : ∀ {l : List MapEntry} {L : List (Int × Value)} {i : Nat}, l.map (fun e => (e.key, e.val)) = L.map (fun p => (Value.int .i64 p.1, p.2)) →
    ∃ r, Instr.findNow (.int .i64) (.int .i64 k) l i = some r ∧ ((∃ j, mhas k L = true ∧ r = some (j, mget z k L)) ∨ (mhas k L = false ∧ r = none ∧ mget z k L = z))
  | [], [], i, _ => ⟨none, rfl, .inr ⟨rfl, rfl, rfl⟩⟩
  | [], p :: L, i, h => by simp at h
  | e :: l, [], i, h => by simp at h
  | e :: l, p :: L, i, h => by
    simp only [List.map_cons, List.cons.injEq, Prod.mk.injEq] at h
    obtain ⟨⟨hk, hv⟩, hr⟩ := h
    by_cases hkp : k = p.1
    · refine ⟨some (i, e.val), ?_, .inl ⟨i, by simp [mhas, hkp], by simp [mget, hkp, hv]⟩⟩
      simp [Instr.findNow, hk, Instr.sameNow, hkp]
    · obtain ⟨r, h1, h2⟩ := findNow_m (k := k) (z := z) (i := i + 1) hr
      refine ⟨r, ?_, ?_⟩
      · have hb : (k == p.1) = false := by simpa using hkp
        simp [Instr.findNow, hk, Instr.sameNow, hb, h1]
      · simpa [mhas, mget, hkp] using h2
section
variable {P : Program} {Q : Exit → Act → World → Prop} {n d : Nat} {l rest : List Oper} {fr : Fr} {w : World} {x y z' : Operand} {t ty kt et : TypeId} {pos : String} {af : Array Edge} {g : Nat} {L : List (Int × Value)} {k : Int}
theorem WO.makeMap (hd : Nat.blt d n = true) (kk : ∀ w', MapB w' w.heap.size [] → Kp [] w w' → w.heap.size < w'.heap.size → WO P Q n l rest ((d, .map (some w.heap.size)) :: fr) w') :
    WO P Q n l (⟨some d, .makeMap t none, ty, pos, af, none⟩ :: rest) fr w := by
  refine WO.v (v := .map (some w.heap.size)) (w' := w.alloc (.map #[] 0)) (fun a _ _ _ _ ha => ?_) hd (kk _ ⟨#[], (heap_alloc w _).1, rfl⟩ (Kp.alloc w _) (by simp))
  simp [execOp, Instr.makeMap, newObj, Sem.run]
theorem run_lookup_m {kt et : TypeId} {z : Value} (hm : P.underlying t = some (.map kt et)) (hk : P.underlying kt = some (.int .i64)) (hz : (P.info? et).bind (·.zero) = some z) (h : MapB w g L) (ok : Bool) :
    (Instr.lookup t (.map (some g)) (.int .i64 k) ok).run P w = .ok (if ok then .tuple #[mget z k L, .bool (mhas k L)] else mget z k L) w := by
  obtain ⟨a, hg, hl⟩ := h
  obtain ⟨r, h1, h2⟩ := findNow_m (k := k) (z := z) (i := 0) hl
  have hik : IsKey (.int .i64) (.int .i64 k) := rfl
  have e2 : (zeroValue et).run P w = .ok z w := by
    cases hq : P.info? et with
    | none => simp [hq] at hz
    | some i => simp [hq] at hz; simp [zeroValue, typeInfo, hq, hz]
  unfold Instr.lookup
  simp only [Sem.run_bind, run_underlying hm, Result.andThen]
  simp only [Sem.run_bind, MapKept.run_getObj_map hg, Result.andThen, Sem.run_pure, show (10000 : Nat) = 9999 + 1 from rfl, run_checkKey hk hik, run_findKey hk h1]
  rcases h2 with ⟨j, hh, rfl⟩ | ⟨hh, rfl, hz'⟩
  · cases ok <;> simp [hh]
  · cases ok <;> simp [hh, hz', e2]
theorem R.lookup {z : Value} (hx : ev fr x = some (.map (some g))) (hy : ev fr y = some (.int .i64 k)) (hm : P.underlying t = some (.map kt et)) (hk : P.underlying kt = some (.int .i64)) (hz : (P.info? et).bind (·.zero) = some z) (h : MapB w g L) :
    Runs P n fr w (.lookup t x y false) ty (mget z k L) w := fun a _ _ _ _ ha => by
  simp [execOp, ha.ev hx, ha.ev hy, run_lookup_m hm hk hz h]
theorem R.lookupAt {z v : Value} (hx : ev fr x = some (.map (some g))) (hy : ev fr y = some (.int .i64 k)) (hm : P.underlying t = some (.map kt et)) (hk : P.underlying kt = some (.int .i64)) (hz : (P.info? et).bind (·.zero) = some z) (h : MapB w g L) (hv : mget z k L = v) :
    Runs P n fr w (.lookup t x y false) ty v w := by
  subst hv; exact R.lookup hx hy hm hk hz h
theorem R.lookupOk {z : Value} (hx : ev fr x = some (.map (some g))) (hy : ev fr y = some (.int .i64 k)) (hm : P.underlying t = some (.map kt et)) (hk : P.underlying kt = some (.int .i64)) (hz : (P.info? et).bind (·.zero) = some z) (h : MapB w g L) :
    Runs P n fr w (.lookup t x y true) ty (.tuple #[mget z k L, .bool (mhas k L)]) w := fun a _ _ _ _ ha => by
  simp [execOp, ha.ev hx, ha.ev hy, run_lookup_m hm hk hz h]
theorem R.lookupF {β : Type} (f : β → Value) (es : List (Int × β)) (z : β) (hx : ev fr x = some (.map (some g))) (hy : ev fr y = some (.int .i64 k)) (h : MapB w g L) (hL : L = es.map fun p => (p.1, f p.2)) (hm : P.underlying t = some (.map kt et)) (hk : P.underlying kt = some (.int .i64)) (hz : (P.info? et).bind (·.zero) = some (f z)) :
    Runs P n fr w (.lookup t x y false) ty (f (mgetA z k es)) w := by
  subst hL
  rw [← mget_f (f := f) (z := z) (k := k) (es := es)]
  exact R.lookup hx hy hm hk hz h
theorem WO.insert {v : Value} (hx : ev fr x = some (.map (some g))) (hy : ev fr y = some (.int .i64 k)) (hv : ev fr z' = some v) (h : MapB w g L) (hn : mhas k L = false) (hm : P.underlying t = some (.map kt et)) (hk : P.underlying kt = some (.int .i64))
    (kk : ∀ w', MapB w' g (L ++ [(k, v)]) → Kp [g] w w' → w'.heap.size = w.heap.size → WO P Q n l rest fr w') :
    WO P Q n l (⟨none, .insert t x y z', ty, pos, af, none⟩ :: rest) fr w := by
  have hlt := h.lt
  obtain ⟨a, hg, hl⟩ := h
  obtain ⟨r, h1, h2⟩ := findNow_m (k := k) (z := undef) (i := 0) hl
  have hik : IsKey (.int .i64) (.int .i64 k) := rfl
  have hr : r = none := by
    rcases h2 with ⟨j, hh, _⟩ | ⟨_, hr, _⟩
    · rw [hn] at hh; cases hh
    · exact hr
  subst hr
  have hs := heap_set (o' := .map (a.push { key := .int .i64 k, val := v, born := L.length }) (L.length + 1)) hg
  refine WO.s (w' := { w with heap := w.heap.setIfInBounds g (.map (a.push { key := .int .i64 k, val := v, born := L.length }) (L.length + 1)) }) (fun a' _ _ _ _ ha => ?_) (kk _ ⟨_, by simpa using hs.1, by simp [hl]⟩ ⟨rfl, rfl, rfl, by simp, fun i hi hn => hs.2 i (by simpa using hn)⟩ (by simp))
  have e : (Instr.mapUpdate t (.map (some g)) (.int .i64 k) v).run P w = .ok () { w with heap := w.heap.setIfInBounds g (.map (a.push { key := .int .i64 k, val := v, born := L.length }) (L.length + 1)) } := by
    unfold Instr.mapUpdate
    simp only [Sem.run_bind, run_underlying hm, Result.andThen]
    simp only [Sem.run_bind, MapKept.run_getObj_map hg, Result.andThen, show (10000 : Nat) = 9999 + 1 from rfl, run_checkKey hk hik, run_findKey hk h1, run_setObj_map _ hg]
  simp [execOp, ha.ev hx, ha.ev hy, ha.ev hv, e]
end

section
variable {P : Program} {Q : Exit → Act → World → Prop} {n d : Nat} {l rest : List Oper} {fr : Fr} {w : World} {x y : Operand} {t t' ty e : TypeId} {pos : String} {af : Array Edge}
theorem R.indexAgg {cs : List Value} {m i : Nat} {k : IntKind} {v : Value} {dd : TypeDesc} (hx : ev fr x = some (.agg cs.toArray)) (hy : ev fr y = some (.int k (i : Int))) (ht : P.underlying t = some (.array m e)) (he : P.underlying e = some dd) (hd : aggD dd = false) (hs : (P.info? e).map (·.size) = some 1) (hi : i < m) (hv : cs[i]? = some v) :
    Runs P n fr w (.index t x y) ty v w := fun _ _ _ _ _ ha => by
  cases hq : P.info? e with
  | none => simp [hq] at hs
  | some q =>
    have hq1 : q.size = 1 := by simpa [hq] using hs
    have e1 : (Instr.index t (.agg cs.toArray) (.int k (i : Int))).run P w = .ok v w := by
      unfold Instr.index
      simp [asIntOf, run_underlying ht, Result.andThen, hi, part, run_isAgg he, hd, sizeOf, typeInfo, hq, hq1, hv]
    simp [execOp, ha.ev hx, ha.ev hy, e1]
theorem R.addU64 {a b : Nat} (hx : ev fr x = some (.int .u64 (a : Int))) (hy : ev fr y = some (.int .u64 (b : Int))) (h : a + b < 18446744073709551616) : Runs P n fr w (.binOp .add t x y t') ty (.int .u64 ((a + b : Nat) : Int)) w := by
  have := R.addw (P := P) (n := n) (w := w) (ty := ty) (t := t) (t' := t') hx hy
  rw [show (a : Int) + b = ((a + b : Nat) : Int) by simp, wrap_u64 h] at this
  exact this
theorem bytes_len {css : List (List Value)} {xs : List UInt8} {o : Bool} {lo hi : Nat} {w : World} (h : All2 (Rp.rp o lo hi w) css xs) : css.flatten = xs.map (fun b => Value.int .u8 (b.toNat : Int)) := by
  induction h with
  | nil => rfl
  | cons h _ ih => rw [List.flatten_cons, ih, show _ = _ from h]; rfl
theorem R.toStr {a : Option Addr} {m c lo hi : Nat} {o : Bool} {xs : List UInt8} (hx : ev fr x = some (.slice a m c)) (hs : P.underlying t = some (.slice e)) (hd : P.underlying t' = some .string) (he : P.underlying e = some (.int .u8)) (h : Sl o lo hi w (.slice a m c) xs) :
    Runs P n fr w (.convert t t' x) ty (⟨xs⟩ : Str).val w := fun _ _ _ _ _ ha => by
  obtain ⟨a', c', css, hv, h1, ⟨h2, hB⟩, h3, h4, _⟩ := h
  injection hv with e1 e2 e3
  subst e1; subst e2; subst e3
  have hfl := bytes_len h3
  have main : (convert t t' (.slice a xs.length c)).run P w = .ok (.string ⟨xs.toArray⟩) w := by
    cases a with
    | none =>
      have hn : xs = [] := by
        rcases h4 with h4 | ⟨A, hA, _⟩
        · exact h4
        · cases hA
      subst hn
      rw [run_convert_bytes_string w t t' e none _ c hs he hd]; rfl
    | some A =>
      refine run_convert_bytes_back w t t' e A c xs hs he hd fun j hj => ?_
      rcases h4 with h4 | ⟨A', hA, _, _, hc⟩
      · subst h4; simp at hj
      · cases hA
        rw [hfl] at hc
        exact hc j _ (by simp [hj])
  simp [execOp, ha.ev hx, main, Str.val]
theorem WO.toBytes {s : Str} {B : Nat} (hx : ev fr x = some s.val) (hlen : s.b.length ≤ 140737488355328) (hs : P.underlying t = some .string) (hd : P.underlying t' = some (.slice e)) (he : P.underlying e = some (.int .u8)) (hdn : Nat.blt d n = true) (_hB : B ≤ w.heap.size)
    (k : ∀ a c w', Sl true w.heap.size w'.heap.size w' (.slice a s.b.length c) s.b → Kp [] w w' → WO P Q n l rest ((d, .slice a s.b.length c) :: fr) w') (hid : e = Rp.tid UInt8 := by rfl) :
    WO P Q n l (⟨some d, .convert t t' x, ty, pos, af, none⟩ :: rest) fr w := by
  subst hid
  have hrun := run_bytes_of_string w t t' (Rp.tid UInt8) ⟨s.b.toArray⟩ hs hd he
  have hsz : (⟨s.b.toArray⟩ : ByteArray).size = s.b.length := by simp [ByteArray.size]
  have hge := grownCap_ge w (⟨s.b.toArray⟩ : ByteArray).size 0 (Rp.tid UInt8)
  have hle := grownCap_le_maxLen w (⟨s.b.toArray⟩ : ByteArray).size 0 (Rp.tid UInt8) (by rw [hsz]; simp [maxLen]; omega)
  generalize hcap : grownCap w (⟨s.b.toArray⟩ : ByteArray).size 0 (Rp.tid UInt8) = cap at *
  rw [hsz] at hge
  generalize hC : bytesRow ⟨s.b.toArray⟩ cap = C at hrun
  have hCs : C.size = cap := by rw [← hC]; simp [bytesRow, hsz]; omega
  have hnew : (w.drew.alloc (.cells C (Rp.tid UInt8) (C.size, C.size + 1))).heap[w.heap.size]? = some (.cells C (Rp.tid UInt8) (C.size, C.size + 1)) := heap_alloc_new w.drew _
  refine WO.v (v := .slice (some ⟨w.heap.size, 0, none⟩) s.b.length cap) (w' := w.drew.alloc (.cells C (Rp.tid UInt8) (C.size, C.size + 1))) (fun a _ _ _ _ ha => ?_) hdn (k _ _ _ ?_ ?_)
  · rw [hsz] at hrun
    simp only [Str.val] at hx
    simp [execOp, ha.ev hx, hrun]
  · refine ⟨_, cap, s.b.map fun b => [Value.int .u8 (b.toNat : Int)], rfl, hge, ⟨hle, by show s.b.length * 1 ≤ _; omega⟩, ?_, ?_, fun _ => .inr ⟨w.heap.size, C, (C.size, C.size + 1), rfl, Nat.le_refl _, by simp, ⟨hnew, trivial⟩, by rw [hCs]; exact (Nat.mul_one _).symm⟩⟩
    · have : ∀ l : List UInt8, All2 (Rp.rp true w.heap.size (w.drew.alloc (.cells C (Rp.tid UInt8) (C.size, C.size + 1))).heap.size (w.drew.alloc (.cells C (Rp.tid UInt8) (C.size, C.size + 1)))) (l.map fun b => [Value.int .u8 (b.toNat : Int)]) l := by
        intro l
        induction l with
        | nil => exact .nil
        | cons b l ih => exact .cons rfl ih
      exact this _
    · refine .inr ⟨⟨w.heap.size, 0, none⟩, rfl, Nat.le_refl _, by simp, fun j v hv => ?_⟩
      have hfl : (s.b.map fun b => [Value.int .u8 (b.toNat : Int)]).flatten = s.b.map (fun b => Value.int .u8 (b.toNat : Int)) := by
        induction s.b with
        | nil => rfl
        | cons b l ih => simp [ih]
      rw [hfl] at hv
      rw [add_lit, Nat.zero_add, cell_of_row _ w.heap.size j C _ _ hnew]
      have hj : j < s.b.length := by have := (List.getElem?_eq_some_iff.1 hv).1; simpa using this
      have := bytesRow_at ⟨s.b.toArray⟩ cap j (by simpa using hj)
      rw [hC] at this
      rw [this]
      simp only [List.getElem?_map, List.getElem?_eq_getElem hj, Option.map_some, Option.some.injEq] at hv
      rw [← hv]; simp
  · exact (Kp.drew (Kp.refl w)).trans (Kp.alloc w.drew _)
end

section
variable {P : Program} {n : Nat} {fr : Fr} {w : World} {x y : Operand} {ty t : TypeId} {Q : Exit → Act → World → Prop} {l rest : List Oper} {d : Nat} {pos : String} {af : Array Edge}
variable {α : Type} [Rp α] {lo lo2 hi2 hi : Nat} {v : Value} {xs ys : List α}
/-- An append of what is old to a row whose insides are the call's own. -/
theorem WO.appendM {B : Nat} {A : Option Addr} {m c s b : Nat} {z : List Value} (hx : ev fr x = some v) (hv : Ac lo true lo2 hi2 hi w v xs) (hhi : hi ≤ w.heap.size) (hhi2 : hi2 ≤ w.heap.size) (hlo : lo ≤ w.heap.size) (hy : ev fr y = some (.slice A m c)) (hm : m = ys.length) (hys : Src false 0 B w A ys) (hni : Rp.tid α ∉ Rp.inner α) (hB : B ≤ lo)
    (ht : P.underlying t = some (.slice (Rp.tid α))) (hi' : (P.info? (Rp.tid α)).map (fun i => (i.zero.map Value.cells, i.size, i.bytes)) = some (some z.toArray, s, b)) (hs : Rp.sz α = s) (hby : Rp.by_ α = b) (hz : z.length = s) (hs0 : 0 < s)
    (hlen : (xs.length + ys.length) * b ≤ 140737488355328) (h63 : xs.length + ys.length ≤ 9223372036854775807) (hd : Nat.blt d n = true)
    (k : ∀ a' c' w', Ac lo false 0 w'.heap.size w'.heap.size w' (.slice a' (xs ++ ys).length c') (xs ++ ys) → Kp (ob v) w w' → (∀ g ∈ ob (.slice a' (xs ++ ys).length c'), g ∈ ob v ∨ (g = w.heap.size ∧ w.heap.size < w'.heap.size)) → WO P Q n l rest ((d, .slice a' (xs ++ ys).length c') :: fr) w') :
    WO P Q n l (⟨some d, .call { callee := .builtin .append, args := #[x, y], argTypes := #[t, t] }, ty, pos, af, none⟩ :: rest) fr w := by
  subst hm
  obtain ⟨i, zv, hq, hzv, hzc, hsz, hby_⟩ := info_of hi'
  have hvrow := hv.ty
  obtain ⟨_, css, hrow, hall⟩ := hv
  obtain ⟨cys, hally, hcells⟩ := hys
  have hh : hi ≤ w.heap.size := hhi
  have hfl : cys.flatten.length = ys.length * Rp.sz α := by rw [flatten_length hally.lens, hally.length]
  have hones := hally.ones
  have hzs : zv.cells.size = Rp.sz α := by rw [hzc, hs]; simpa using hz
  have hcl : ∀ ad, A = some ad → ∀ j u, cys.flatten[j]? = some u → w.cell? (ad.add j) = some u := by
    intro ad hA j u hu
    rcases hcells with h | ⟨ad', h, hc⟩
    · subst h; cases hally; simp at hu
    · rw [hA] at h; cases h; exact hc j u hu
  have hA0 : A = none → ys = [] := by
    intro hA
    rcases hcells with h | ⟨ad', h, hc⟩
    · exact h
    · rw [hA] at h; cases h
  -- what the append does to any row of the call's own
  have runOwn : ∀ (v : Value) (n : Nat) (olds : List Value), w.ownsRow lo (Rp.tid α) (Rp.sz α) v n olds → n + ys.length ≤ 9223372036854775807 → (n + ys.length) * b ≤ 140737488355328 →
      ∃ v' w', (Builtin.append_ #[t, t] ty #[v, .slice A ys.length c]).run P w = .ok v' w' ∧ w'.ownsRow lo (Rp.tid α) (Rp.sz α) v' (n + ys.length) (olds ++ cys.flatten) ∧ w.grownBy w' v.ownBlock ∧
        (v'.ownBlock = v.ownBlock ∨ v'.ownBlock = some w.heap.size) ∧ (v'.ownBlock = some w.heap.size → w.heap.size < w'.heap.size) := by
    intro v n olds hown h63 hlen
    rcases A with _ | ad
    · have hy0 := hA0 rfl
      subst hy0
      cases hally
      refine ⟨v, w, ?_, by simpa using hown, ⟨rfl, rfl, rfl, Nat.le_refl _, fun _ _ _ => rfl⟩, .inl rfl, fun h => ?_⟩
      · rcases hown.2 with ⟨rfl, h0⟩ | ⟨g, cap, cur, rfl, _, _, hnc, _⟩
        · simp [Builtin.append_, run_underlying ht, sizeOf, typeInfo, hq, Builtin.lenOf, Builtin.firstCells]
        · simp [Builtin.append_, run_underlying ht, sizeOf, typeInfo, hq, Builtin.lenOf, Builtin.firstCells, hnc, storeCells]
      · exact absurd (hown.lt _ h).2 (by omega)
    · obtain ⟨v', w', hrun, h2, h3, _, h5⟩ := run_append_own_at (P := P) w lo t ty (Rp.tid α) i zv (Rp.sz α) b ht hq hzv (hsz.trans hs.symm) hby_ hzs (by omega) v n olds hown ad ys.length c cys.flatten hfl (hcl ad rfl) hones (by simpa [maxLen] using h63) hlen (by omega)
      exact ⟨v', w', hrun, h2, h3, h5, fun h => (h2.lt _ h).2⟩
  have run : ∃ v' w', (Builtin.append_ #[t, t] ty #[v, .slice A ys.length c]).run P w = .ok v' w' ∧ ((xs ++ ys = [] ∧ ∃ a, v' = .slice a 0 0) ∨ w'.ownsRow lo (Rp.tid α) (Rp.sz α) v' (xs.length + ys.length) (css.flatten ++ cys.flatten)) ∧ Kp (ob v) w w' ∧
      (∀ g ∈ ob v', g ∈ ob v ∨ (g = w.heap.size ∧ w.heap.size < w'.heap.size)) := by
    by_cases hcap : ∃ a, v = .slice a 0 0
    · -- no room: as at nil
      obtain ⟨a0, rfl⟩ := hcap
      have hx0 : xs = [] := by
        rcases hrow with ⟨h, _⟩ | ⟨h1, _⟩
        · exact h
        · rcases h1.2 with ⟨_, h0⟩ | ⟨g, cap, cur, hv, _, _, hn, _⟩
          · exact List.eq_nil_of_length_eq_zero h0
          · injection hv with _ e1 _; exact List.eq_nil_of_length_eq_zero e1.symm
      subst hx0
      cases hall
      by_cases hy0 : ys = []
      · subst hy0
        cases hally
        refine ⟨.slice a0 0 0, w, ?_, .inl ⟨rfl, a0, rfl⟩, (Kp.refl w).sub (by simp), fun g hg => .inl hg⟩
        cases a0 <;> cases A <;> simp [Builtin.append_, run_underlying ht, sizeOf, typeInfo, hq, Builtin.lenOf, Builtin.firstCells, storeCells, loadCells, loadCellsFrom]
      · obtain ⟨ad, rfl⟩ : ∃ ad, A = some ad := by
          cases A with
          | none => exact absurd (hA0 rfl) hy0
          | some ad => exact ⟨ad, rfl⟩
        have hyl : 0 < ys.length := List.length_pos_iff.2 hy0
        simp only [List.length_nil, Nat.zero_add] at h63 hlen
        obtain ⟨v', w', hrun, h2, h3, h5, h6⟩ := runOwn (.slice none 0 0) 0 [] (World.ownsRow_nil _ _ _ _) (by simpa using h63) (by simpa using hlen)
        have heq : (Builtin.append_ #[t, t] ty #[.slice a0 0 0, .slice (some ad) ys.length c]).run P w = (Builtin.append_ #[t, t] ty #[.slice none 0 0, .slice (some ad) ys.length c]).run P w := by
          cases a0 with
          | none => rfl
          | some b0 =>
            have hsz' : i.size = Rp.sz α := hsz.trans hs.symm
            rw [run_append_nil (P := P) w t ty (Rp.tid α) i zv ht hq hzv ad ys.length c cys.flatten (by rw [hfl, hsz']) (hcl ad rfl) hyl (by omega) (by rw [hby_]; omega)]
            rw [run_append_grow (P := P) w t ty (Rp.tid α) i zv ht hq hzv b0 0 0 [] (by simp) (by simp) ad ys.length c cys.flatten (by rw [hfl, hsz']) (hcl ad rfl) (by omega) (by omega) (by
              rw [hby_]; exact growslice_fits (by omega) (by simpa using hlen))]
            simp
        refine ⟨v', w', heq.trans hrun, .inr (by simpa using h2), ⟨h3.os, h3.tape, h3.output, h3.size, fun b hb _ => h3.block b hb (by simp [Value.ownBlock])⟩, fun g hg => ?_⟩
        have hg' := ob_own hg
        rcases h5 with h5 | h5
        · rw [h5] at hg'; cases hg'
        · exact .inr ⟨by rw [h5] at hg'; exact (Option.some.inj hg').symm, h6 h5⟩
    · have hown : w.ownsRow lo (Rp.tid α) (Rp.sz α) v xs.length css.flatten := by
        rcases hrow with ⟨_, h⟩ | ⟨h1, _⟩
        · exact absurd h hcap
        · exact h1
      obtain ⟨v', w', hrun, h2, h3, h5, h6⟩ := runOwn v xs.length css.flatten hown h63 hlen
      have hob : ∀ g, v.ownBlock = some g → g ∈ ob v := by
        intro g hg
        rcases hown.2 with ⟨rfl, h0⟩ | ⟨g', cap, cur, rfl, _, _, hn, _⟩
        · cases hg
        · cases hg
          simp only [ob]
          rw [if_neg]
          · simp
          · intro h0; subst h0; exact hcap ⟨_, by rw [show xs.length = 0 by omega]⟩
      refine ⟨v', w', hrun, .inr h2, ⟨h3.os, h3.tape, h3.output, h3.size, fun b hb hn => h3.block b hb fun he => hn (hob b he.symm)⟩, fun g hg => ?_⟩
      have hg' := ob_own hg
      rcases h5 with h5 | h5
      · rw [h5] at hg'; exact .inl (hob g hg')
      · exact .inr ⟨by rw [h5] at hg'; exact (Option.some.inj hg').symm, h6 h5⟩
  obtain ⟨v', w', hrun, h2, hkp, h5⟩ := run
  have hlapp : (xs ++ ys).length = xs.length + ys.length := List.length_append
  have hform : ∃ a' c', v' = .slice a' (xs ++ ys).length c' := by
    rcases h2 with ⟨h0, a, h⟩ | h2
    · exact ⟨a, 0, by rw [h, h0]; rfl⟩
    · rw [hlapp]
      rcases h2.2 with ⟨h, h0⟩ | ⟨g, cap, cur, h, _⟩
      · exact ⟨none, 0, by rw [h, h0]⟩
      · exact ⟨_, _, h⟩
  obtain ⟨a', c', rfl⟩ := hform
  have hkeep : ∀ {cs : List Value} {z : α}, Rp.rp true lo2 hi2 w cs z → Rp.rp false 0 w'.heap.size w' cs z := by
    intro cs z hz
    refine Rp.mono (Rp.weak (Rp.keepT hz (.inr rfl) fun b cur t _ _ hb hbt ht => hkp.block b (by omega) fun hm => ?_)) (Nat.zero_le _) (by have := hkp.size; omega)
    obtain ⟨cur', hc⟩ := hvrow b hm
    rw [hc] at hbt
    injection hbt with hbt
    injection hbt with _ he
    exact hni (he ▸ ht)
  have hkeep2 : ∀ {cs : List Value} {z : α}, Rp.rp false 0 B w cs z → Rp.rp false 0 w'.heap.size w' cs z := by
    intro cs z hz
    refine Rp.mono (Rp.keep hz fun b _ hb => hkp.block b (by omega) fun hm => ?_) (Nat.le_refl _) (by have := hkp.size; omega)
    rcases hrow with ⟨_, a, rfl⟩ | ⟨h1, _⟩
    · cases a <;> simp [ob] at hm
    · have := (h1.lt b (ob_own hm)).1
      omega
  refine WO.v (v := .slice a' (xs ++ ys).length c') (w' := w') (fun a _ _ _ _ ha => ?_) hd (k a' c' w' ?_ hkp h5)
  · simp [execOp, resolve, invoke, builtin, ha.ev hx, ha.ev hy, hrun]
  · refine ⟨by rw [hlapp, hby]; exact hlen, css ++ cys, ?_, (hall.imp fun _ _ h => hkeep h).append (hally.imp fun _ _ h => hkeep2 h)⟩
    rcases h2 with ⟨h0, a, h⟩ | h2
    · exact .inl ⟨h0, a, h⟩
    · rw [hlapp] at h2 ⊢
      exact .inr ⟨by rw [List.flatten_append]; exact h2, fun g hg => (h2.lt g hg).2⟩
end

end Go.Proofs.Ytfmlgeeogbhppaa
