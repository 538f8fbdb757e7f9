/- What a law is handed, read as lists and structs; and the law's own form. Conditions: each lemma's own. -/
import Derived.Test.YtfmlgeeogbhppaaAcc
import Derived.Test.YtfmlgeeogbhppaaTy
import Derived.SizedLaws
import Derived.ProofKit
namespace Go.Proofs.Ytfmlgeeogbhppaa
open Go.RowKit Go.ChangeShapes Go.WideShapes

/-- Whatever is read at type t in memory is a value of α there. -/
def Tr (P : Program) (t : TypeId) (α : Type) [Rp α] : Prop :=
  ∀ (H : Type) (enc : TypeId × Value → H) (w : World) (fuel : Nat) (cs : List Value) (x : DataW H × List MemPlace),
    DataW.trod enc P w 0 (fun _ => true) true fuel t cs = some x → (∀ n ∈ x.1.weights P t, n ≤ 140737488351232) → (∀ q ∈ x.2, q.block < w.heap.size) → ∃ y : α, Rp.rp false 0 w.heap.size w cs y
/-- Of fields from cell o on. -/
def TrF (P : Program) (fs : List Go.Field) (o : Nat) (α : Type) [Rp α] : Prop :=
  ∀ (H : Type) (enc : TypeId × Value → H) (w : World) (fuel : Nat) (cs : List Value) (xs : List (DataW H × List MemPlace)),
    cs.length = o + Rp.sz α → xs.length = fs.length → (∀ (i : Nat) (f : Go.Field), fs[i]? = some f → DataW.trod enc P w 0 (fun _ => true) true fuel f.type ((cs.drop f.offset).take (P.cellsOf f.type)) = xs[i]?) →
    (∀ n ∈ DataW.weightsEach P (fs.map (·.type)) (xs.map (·.1)), n ≤ 140737488351232) → (∀ q ∈ xs.flatMap (·.2), q.block < w.heap.size) → ∃ y : α, Rp.rp false 0 w.heap.size w (cs.drop o) y

section
variable {P : Program} {t : TypeId}
theorem Tr.int (h : P.underlying t = some (.int .i64)) : Tr P t Int := fun _ enc w fuel cs x hx _ _ => by
  obtain ⟨n, rfl, _, hw⟩ := DataW.trod_int h hx
  refine ⟨n, rfl, ?_⟩
  have h1 : IntKind.i64.min = -9223372036854775808 := rfl
  have h2 : IntKind.i64.max = 9223372036854775807 := rfl
  simp only [Lit.wf, Bool.and_eq_true, decide_eq_true_eq] at hw
  exact ⟨by omega, by omega⟩
theorem Tr.bool (h : P.underlying t = some .bool) : Tr P t Bool := fun _ enc w fuel cs x hx _ _ => by
  obtain ⟨n, rfl, _⟩ := DataW.trod_bool h hx
  exact ⟨n, rfl⟩
theorem Tr.u8 (h : P.underlying t = some (.int .u8)) : Tr P t UInt8 := fun _ enc w fuel cs x hx _ _ => by
  obtain ⟨n, rfl, _, hw⟩ := DataW.trod_int h hx
  have h1 : IntKind.u8.min = 0 := rfl
  have h2 : IntKind.u8.max = 255 := rfl
  simp only [Lit.wf, Bool.and_eq_true, decide_eq_true_eq] at hw
  refine ⟨UInt8.ofNat n.toNat, ?_⟩
  show _ = [Value.int .u8 ((UInt8.ofNat n.toNat).toNat : Int)]
  have : ((UInt8.ofNat n.toNat).toNat : Int) = n := by
    rw [UInt8.toNat_ofNat']; omega
  rw [this]
theorem Tr.u64 (h : P.underlying t = some (.int .u64)) : Tr P t U64 := fun _ enc w fuel cs x hx _ _ => by
  obtain ⟨n, rfl, _, hw⟩ := DataW.trod_int h hx
  have h1 : IntKind.u64.min = 0 := rfl
  have h2 : IntKind.u64.max = 18446744073709551615 := rfl
  simp only [Lit.wf, Bool.and_eq_true, decide_eq_true_eq] at hw
  refine ⟨⟨n.toNat⟩, ?_, by show n.toNat < _; omega⟩
  show _ = [Value.int .u64 (n.toNat : Int)]
  rw [show (n.toNat : Int) = n by omega]
theorem Tr.str (h : P.underlying t = some .string) : Tr P t Str := fun _ enc w fuel cs x hx hw _ => by
  obtain ⟨s, rfl, hx, _⟩ := DataW.trod_string h hx
  refine ⟨⟨s.data.toList⟩, by simp [Str.val], ?_⟩
  have := hw s.data.toList.length (by rw [hx]; simp [DataW.weights])
  show s.data.toList.length ≤ _
  omega
theorem weightsAll_mem {H : Type} {e : TypeId} : ∀ {ds : List (DataW H)} {d : DataW H}, d ∈ ds → ∀ n ∈ d.weights P e, n ∈ DataW.weightsAll P e ds
  | [], _, h, _, _ => by cases h
  | d0 :: ds, d, h, n, hn => by
    rw [DataW.weightsAll, List.mem_append]
    rcases List.mem_cons.1 h with rfl | h
    · exact .inl hn
    · exact .inr (weightsAll_mem h n hn)
theorem Tr.list {α : Type} [Rp α] {e : TypeId} (ht : P.underlying t = some (.slice e)) (hC : P.cellsOf e = Rp.sz α) (hB : P.bytesOf e = Rp.by_ α) (hp : 0 < Rp.sz α) (he : Tr P e α) : Tr P t (List α) := fun H enc w fuel cs x hx hw hlt => by
  rcases DataW.trod_slice ht hx with ⟨rfl, _⟩ | ⟨a, len, cap, elems, rest, n, rfl, rfl, rfl, _, hl, hc, hel, hget, hrest, _⟩
  · exact ⟨[], _, rfl, Sl.nil _ _ _ _⟩
  · rw [hC] at *
    have step : ∀ m, m ≤ len → ∃ (css : List (List Value)) (xs : List α), All2 (Rp.rp false 0 w.heap.size w) css xs ∧ xs.length = m ∧ CellsAt w a css.flatten := by
      intro m
      induction m with
      | zero => intro _; exact ⟨[], [], .nil, rfl, CellsAt.nil⟩
      | succ m ih =>
        intro hm
        obtain ⟨css, xs, h1, h2, h3⟩ := ih (by omega)
        have hg := hget m (by omega)
        have hem : elems[m]? = some (elems[m]'(by omega)) := List.getElem?_eq_getElem (by omega)
        rw [hem, Option.bind_eq_some_iff] at hg
        obtain ⟨cs, hcs, htr⟩ := hg
        have hmem : elems[m]'(by omega) ∈ elems := List.getElem_mem _
        obtain ⟨y, hy⟩ := he H enc w n cs _ htr
          (fun k hk => hw k (by
            simp only [DataW.weights, ht, List.mem_cons, List.mem_append]
            exact .inr (.inl (weightsAll_mem (List.mem_map_of_mem hmem) k hk))))
          (fun q hq => hlt q (by
            simp only [List.mem_append, List.mem_flatMap]
            exact .inr ⟨_, .inl hmem, hq⟩))
        obtain ⟨_, hcl, hat⟩ := World.cells?_some hcs
        refine ⟨css ++ [cs], xs ++ [y], h1.append (.cons hy .nil), by simp [h2], fun j v hv => ?_⟩
        rw [List.flatten_append] at hv
        have hfl : css.flatten.length = m * Rp.sz α := by rw [flatten_length h1.lens, h1.length, h2]
        by_cases hj : j < m * Rp.sz α
        · rw [List.getElem?_append_left (by omega)] at hv
          exact h3 j v hv
        · rw [List.getElem?_append_right (by omega), hfl] at hv
          simp only [List.flatten_cons, List.flatten_nil, List.append_nil] at hv
          have hj2 := get_lt hv
          have := hat (j - m * Rp.sz α) (by omega)
          rw [hv, add_add, show m * Rp.sz α + (j - m * Rp.sz α) = j by omega] at this
          exact this
    obtain ⟨css, xs, h1, h2, h3⟩ := step len (Nat.le_refl _)
    have hwt : (elems.length + rest.length) * P.bytesOf e ≤ 140737488351232 := hw _ (by simp [DataW.weights, ht])
    refine ⟨xs, _, rfl, some a, cap, css, by rw [h2], by omega, ⟨hc, ?_⟩, h1, ?_, fun h => by cases h⟩
    · rw [hB] at hwt
      have : xs.length * Rp.by_ α ≤ (elems.length + rest.length) * Rp.by_ α := Nat.mul_le_mul_right _ (by omega)
      omega
    · by_cases h0 : len = 0
      · left; exact List.eq_nil_of_length_eq_zero (by omega)
      · right
        refine ⟨a, rfl, Nat.zero_le _, ?_, h3⟩
        have : MemPlace.cell a.block (a.off + 0) ∈ MemPlace.row a ((elems.length + rest.length) * Rp.sz α) := MemPlace.mem_row.2 ⟨0, Nat.mul_pos (by omega) hp, rfl⟩
        exact hlt _ (List.mem_append_left _ this)
theorem TrF.one {α : Type} [Rp α] {f : Go.Field} {o : Nat} (h : Tr P f.type α) (ho : f.offset = o) (hC : P.cellsOf f.type = Rp.sz α) : TrF P [f] o α := fun H enc w fuel cs xs hl hx hf hw hlt => by
  match xs, hx with
  | [x], _ =>
    have h1 := hf 0 f rfl
    rw [ho, hC, List.take_of_length_le (by rw [List.length_drop]; omega)] at h1
    exact h H enc w fuel _ x h1 (fun n hn => hw n (by simp [DataW.weightsEach, hn])) (fun q hq => hlt q (by simp [hq]))
theorem TrF.cons {α β : Type} [Rp α] [Rp β] {f : Go.Field} {fs : List Go.Field} {o : Nat} (h : Tr P f.type α) (ho : f.offset = o) (hC : P.cellsOf f.type = Rp.sz α) (hr : TrF P fs (o + Rp.sz α) β) : TrF P (f :: fs) o (α × β) := fun H enc w fuel cs xs hl hx hf hw hlt => by
  match xs, hx with
  | x :: xs, hx =>
    have hl' : cs.length = o + (Rp.sz α + Rp.sz β) := hl
    have h1 := hf 0 f rfl
    rw [ho, hC] at h1
    obtain ⟨y, hy⟩ := h H enc w fuel _ x h1 (fun n hn => hw n (by simp [DataW.weightsEach, hn])) (fun q hq => hlt q (by simp [hq]))
    obtain ⟨z, hz⟩ := hr H enc w fuel cs xs (by omega) (by simpa using hx) (fun i f' hi => by simpa using hf (i + 1) f' (by simpa using hi)) (fun n hn => hw n (by simp only [List.map_cons, DataW.weightsEach, List.mem_append]; exact .inr hn)) (fun q hq => hlt q (by simp only [List.flatMap_cons, List.mem_append]; exact .inr hq))
    refine ⟨(y, z), _, _, ?_, hy, hz⟩
    rw [← List.drop_drop, List.take_append_drop]
theorem Tr.struct {α : Type} [Rp α] {fs : Array Go.Field} (ht : P.underlying t = some (.struct fs)) (hC : P.cellsOf t = Rp.sz α) (h : TrF P fs.toList 0 α) : Tr P t α := fun H enc w fuel cs x hx hw hlt => by
  obtain ⟨xs, n, _, rfl, hl, hxl, hf⟩ := DataW.trod_struct ht hx
  have := h H enc w n cs xs (by omega) (by simpa using hxl) (fun i f hi => hf i f (by simpa using hi)) (fun k hk => hw k (by simpa [DataW.weights, ht] using hk)) hlt
  simpa using this
theorem Tr.via {S T : Type} [Rp T] {tid b : Nat} {f : S → T} (g : T → S) (hg : ∀ y, f (g y) = y) (h : Tr P t T) : @Tr P t S (Rp.via tid b f) := fun H enc w fuel cs x hx hw hlt => by
  obtain ⟨y, hy⟩ := h H enc w fuel cs x hx hw hlt
  exact ⟨g y, by show Rp.rp false 0 w.heap.size w cs (f (g y)); rw [hg]; exact hy⟩
end

/-! ### the law's own form -/
section
variable {H : Type} {enc : TypeId × Value → H} {P : Program}
/-- One argument: it is formed, and it reads. -/
structure Ar (enc : TypeId × Value → H) (P : Program) (W : World) (t : TypeId) (v : Value) : Prop where
  form : ∃ base, Value.okWide P W .any base t v
  read : ∃ d p fuel, DataW.trod enc P W 0 (fun _ => true) true fuel t v.cells.toList = some (d, p) ∧ (∀ n ∈ d.weights P t, n ≤ 140737488351232) ∧ (∀ q ∈ p, q.block < W.heap.size)
variable {W : World} {t : TypeId} {v : Value}
theorem Ar.rp {α : Type} [Rp α] (h : Ar enc P W t v) (ht : Tr P t α) : ∃ y : α, Rp.rp false 0 W.heap.size W v.cells.toList y := by
  obtain ⟨d, p, fuel, h1, h2, h3⟩ := h.read
  exact ht H enc W fuel _ _ h1 h2 h3
theorem Ar.int (h : Ar enc P W t v) (ht : P.underlying t = some (.int .i64)) : ∃ y : Int, v = .int .i64 y ∧ I64 y := by
  obtain ⟨base, hf⟩ := h.form
  obtain ⟨n, rfl⟩ := okWide_int ht hf
  obtain ⟨y, h1, h2⟩ := h.rp (Tr.int ht)
  simp [Value.cells] at h1
  subst h1
  exact ⟨n, rfl, h2⟩
theorem Ar.u8 (h : Ar enc P W t v) (ht : P.underlying t = some (.int .u8)) : ∃ y : UInt8, v = .int .u8 y.toNat := by
  obtain ⟨base, hf⟩ := h.form
  obtain ⟨n, rfl⟩ := okWide_int ht hf
  obtain ⟨y, h1⟩ := h.rp (Tr.u8 ht)
  have h1 : [Value.int .u8 n] = [.int .u8 (y.toNat : Int)] := h1
  exact ⟨y, List.head_eq_of_cons_eq h1⟩
theorem Ar.bool (h : Ar enc P W t v) (ht : P.underlying t = some .bool) : ∃ y : Bool, v = .bool y := by
  obtain ⟨base, hf⟩ := h.form
  exact okWide_bool ht hf
theorem Ar.str (h : Ar enc P W t v) (ht : P.underlying t = some .string) : ∃ y : Str, v = y.val ∧ y.b.length ≤ 140737488355328 := by
  obtain ⟨base, hf⟩ := h.form
  obtain ⟨s, rfl⟩ := okWide_string ht hf
  obtain ⟨y, h1, h2⟩ := h.rp (Tr.str ht)
  have h1 : [Value.string s] = [y.val] := by simpa [Value.cells] using h1
  exact ⟨y, List.head_eq_of_cons_eq h1, h2⟩
theorem Ar.list {α : Type} [Rp α] {e : TypeId} (h : Ar enc P W t v) (hu : P.underlying t = some (.slice e)) (ht : Tr P t (List α)) : ∃ (xs : List α) (a : Option Addr) (c : Nat), v = .slice a xs.length c ∧ Sl false 0 W.heap.size W (.slice a xs.length c) xs := by
  obtain ⟨base, hf⟩ := h.form
  obtain ⟨a, len, cap, rfl⟩ := okWide_slice hu hf
  obtain ⟨y, u, h1, h2⟩ := h.rp ht
  have h1 : [Value.slice a len cap] = [u] := by simpa [Value.cells] using h1
  have h3 := List.head_eq_of_cons_eq h1
  subst h3
  obtain ⟨a', c', h4, _⟩ := h2.form
  injection h4 with e1 e2 e3
  subst e1; subst e2; subst e3
  exact ⟨y, _, _, rfl, h2⟩
theorem Ar.struct {α : Type} [Rp α] {fs : Array Go.Field} (h : Ar enc P W t v) (hu : P.underlying t = some (.struct fs)) (ht : Tr P t α) : ∃ (x : α) (cs : List Value), v = .agg cs.toArray ∧ Rp.rp false 0 W.heap.size W cs x := by
  obtain ⟨base, hf⟩ := h.form
  obtain ⟨cs, rfl, _⟩ := okWide_struct hu hf
  obtain ⟨y, h1⟩ := h.rp ht
  exact ⟨y, cs.toList, by simp, by simpa [Value.cells] using h1⟩
/-- All arguments. -/
theorem args_ar {base : Nat} {ts : List TypeId} {args : Array Value} {ds : List (DataW H)} {p : List MemPlace} (hf : ∀ (j : Nat) t v, ts[j]? = some t → args[j]? = some v → Value.okWide P W .any base t v)
    (h : DataW.TrodAll enc P W 0 (fun _ => true) true ts args.toList ds p) (hw : ∀ n ∈ DataW.weightsEach P ts ds, n ≤ 140737488351232) (hlt : ∀ q ∈ p, q.block < W.heap.size) :
    args.size = ts.length ∧ ∀ (j : Nat) t v, ts[j]? = some t → args[j]? = some v → Ar enc P W t v := by
  have key : ∀ (ts : List TypeId) (vs : List Value) (ds : List (DataW H)) (p : List MemPlace), DataW.TrodAll enc P W 0 (fun _ => true) true ts vs ds p → (∀ n ∈ DataW.weightsEach P ts ds, n ≤ 140737488351232) → (∀ q ∈ p, q.block < W.heap.size) →
      vs.length = ts.length ∧ ∀ (j : Nat) t v, ts[j]? = some t → vs[j]? = some v → ∃ d p fuel, DataW.trod enc P W 0 (fun _ => true) true fuel t v.cells.toList = some (d, p) ∧ (∀ n ∈ d.weights P t, n ≤ 140737488351232) ∧ (∀ q ∈ p, q.block < W.heap.size) := by
    intro ts
    induction ts with
    | nil => intro vs ds p h _ _; obtain ⟨rfl, _, _⟩ := trodAll_nil h; exact ⟨rfl, fun j t v h => by simp at h⟩
    | cons t ts ih =>
      intro vs ds p h hw hlt
      obtain ⟨v, vs, d, ds, p1, p2, rfl, rfl, rfl, h1, h2⟩ := trodAll_cons h
      obtain ⟨k1, k2⟩ := ih vs ds p2 h2 (fun n hn => hw n (by rw [DataW.weightsEach, List.mem_append]; exact .inr hn)) (fun q hq => hlt q (List.mem_append_right _ hq))
      refine ⟨by simp [k1], fun j t' v' ht hv => ?_⟩
      cases j with
      | zero =>
        simp at ht hv
        subst ht; subst hv
        obtain ⟨fuel, hf⟩ := h1
        exact ⟨d, p1, fuel, hf, fun n hn => hw n (by rw [DataW.weightsEach, List.mem_append]; exact .inl hn), fun q hq => hlt q (List.mem_append_left _ hq)⟩
      | succ j => exact k2 j t' v' (by simpa using ht) (by simpa using hv)
  obtain ⟨k1, k2⟩ := key ts args.toList ds p h hw hlt
  exact ⟨by simpa using k1, fun j t v ht hv => ⟨⟨base, hf j t v ht hv⟩, k2 j t v ht (by simpa using hv)⟩⟩
theorem below_all (hl : laidOutB P = true) {W' : World} (hb : Below W.heap.size W W') : ∀ (ts : List TypeId) (vs : List Value) (ds : List (DataW H)) (p : List MemPlace), ts.all (fun t => P.readableRec t && decide (t < P.types.size)) = true → DataW.TrodAll enc P W 0 (fun _ => true) true ts vs ds p → (∀ q ∈ p, q.block < W.heap.size) →
    DataW.TrodAll enc P W' 0 (fun b => decide (b < W.heap.size)) true ts vs ds p := by
  intro ts
  induction ts with
  | nil => intro vs ds p _ h _; obtain ⟨rfl, rfl, rfl⟩ := trodAll_nil h; rfl
  | cons t ts ih =>
    intro vs ds p hr h hlt
    obtain ⟨v, vs, d, ds, p1, p2, rfl, rfl, rfl, h1, h2⟩ := trodAll_cons h
    rw [List.all_cons, Bool.and_eq_true, Bool.and_eq_true, decide_eq_true_eq] at hr
    exact ⟨p1, p2, Below.trod hl hr.1.1 hr.1.2 h1 hb fun q hq => hlt q (List.mem_append_left _ hq), ih vs ds p2 hr.2 h2 fun q hq => hlt q (List.mem_append_right _ hq), rfl⟩
/-- The law: it returns true, and writes nothing that was there. -/
theorem law_post {fn : Func} {s : ChangeSpec} {tb : TypeId} {W' : World} {args : Array Value} {ds : List (DataW H)} {p : List MemPlace} (hl : laidOutB P = true)
    (hrow : fn.params.toList.all (fun t => P.readableRec t && decide (t < P.types.size)) = true) (hr : fn.resultTypes = #[tb]) (hb : P.underlying tb = some .bool) (hv : s.vars = [])
    (hs : s.fn H (ds ++ []) = { results := [.lit (.bool true)], args := ds }) (hW : DataW.Whole enc P fn.params.toList s.vars false W args.toList ds [] p) (hA : DataW.TrodAll enc P W 0 (fun _ => true) true fn.params.toList args.toList ds p) (hlt : ∀ q ∈ p, q.block < W.heap.size) (hk : Kp [] W W') :
    s.post enc P fn false true false false W args (.bool true) W' := by
  refine ⟨ds, [], p, [], p, [], hW, ?_, ?_, ?_, hk.below.frame _, fun h => by cases h⟩
  · rw [hs, hr]
    exact trodAll_mk1 ⟨1, by simp [DataW.trod, Value.cells, hb]⟩
  · rw [hs]
    exact below_all hl hk.below _ _ _ _ hrow hA hlt
  · rw [hs, hv]; rfl
/-- From a contract of the function to what the row asks of it. -/
theorem law_lift {C : Checked} {os : Os} {f : FuncId} {fn : Func} {s : ChangeSpec} {conds : List PathCond} {tb : TypeId} (own : ownKnob C.prog.godebug = none) (started : os.Started) (noInit : C.prog.inits.idxOf? f = none) (hfn : C.prog.funcs[f]? = some fn)
    (witness : ∃ (w : World) (tape : Tape) (i : Input), w.os = os ∧ (w.forCall tape i).Shaped C.prog ∧ i.vars = [] ∧ Input.okWide C.prog (w.forCall tape i) .any w.heap.size f i ∧
      s.pre6 enc C.prog fn conds false (w.forCall tape i).memory i.args ∧ ({} : Assume).holds C.prog (lone (Frame.enter C.prog f i.args .normal) [] (w.forCall tape i)))
    (hl : laidOutB C.prog = true) (hrow : fn.params.toList.all (fun t => C.prog.readableRec t && decide (t < C.prog.types.size)) = true) (hr : fn.resultTypes = #[tb]) (hb : C.prog.underlying tb = some .bool) (hv : s.vars = [])
    (hs : ∀ ds : List (DataW H), ds.length = fn.params.size → s.fn H ds = { results := [.lit (.bool true)], args := ds })
    (law : ∀ (W : World) (args : Array Value), args.size = fn.params.toList.length → (∀ (j : Nat) t v, fn.params.toList[j]? = some t → args[j]? = some v → Ar enc C.prog W t v) → Ret C.prog f args W fun r W' => r = .bool true ∧ Kp [] W W') :
    ReturnsInHanded {} C os f .any (s.pre6 enc C.prog fn conds false) (s.post enc C.prog fn false true false false) := by
  refine returnsInHanded_of_change_sized own started noInit hfn witness ?_
  intro W base args ds gs before hval hW _ hsz _
  have hW0 := hW
  obtain ⟨p, q, hA, hV, rfl, _, _⟩ := hW
  rw [hv] at hV
  obtain ⟨rfl, rfl⟩ := trodVars_none hV
  simp only [List.append_nil] at hW0 hsz
  have hlt : ∀ x ∈ p, x.block < W.heap.size := fun x hx => by simpa using hW0.lt x hx
  have hwt : ∀ n ∈ DataW.weightsEach C.prog fn.params.toList ds, n ≤ 140737488351232 := fun n hn => by
    have hmem : n ∈ DataW.weightsEach C.prog (fn.params.toList ++ s.plain.varTypes C.prog) ds := by
      have : ∀ (ts us : List TypeId) (ds : List (DataW H)), n ∈ DataW.weightsEach C.prog ts ds → n ∈ DataW.weightsEach C.prog (ts ++ us) ds := by
        intro ts
        induction ts with
        | nil => intro us ds h; simp [DataW.weightsEach] at h
        | cons t ts ih =>
          intro us ds h
          cases ds with
          | nil => simp [DataW.weightsEach] at h
          | cons d ds =>
            rw [DataW.weightsEach, List.mem_append] at h
            rw [List.cons_append, DataW.weightsEach, List.mem_append]
            exact h.imp id (ih us ds)
      exact this _ _ _ hn
    exact of_decide_eq_true (List.all_eq_true.1 hsz n hmem)
  obtain ⟨hsize, har⟩ := args_ar (fun j t v ht hv => hval j t v (by simpa using ht) hv) hA hwt hlt
  have hdl : ds.length = fn.params.size := by
    have : ∀ (ts : List TypeId) (vs : List Value) (ds : List (DataW H)) (p : List MemPlace), DataW.TrodAll enc C.prog W 0 (fun _ => true) true ts vs ds p → ds.length = ts.length := by
      intro ts
      induction ts with
      | nil => intro vs ds p h; obtain ⟨_, rfl, _⟩ := trodAll_nil h; rfl
      | cons t ts ih => intro vs ds p h; obtain ⟨v, vs, d, ds, p1, p2, rfl, rfl, rfl, _, h2⟩ := trodAll_cons h; simp [ih vs ds p2 h2]
    simpa using this _ _ _ _ hA
  refine Calls.mono (law W args hsize har) fun e W' ⟨v, he, hv', hk⟩ => ⟨v, he, ?_⟩
  subst hv'
  exact law_post hl hrow hr hb hv (by rw [List.append_nil]; exact hs ds hdl) hW0 hA hlt hk
end

end Go.Proofs.Ytfmlgeeogbhppaa
