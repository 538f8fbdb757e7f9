/- One lemma for each kind of operation: how it runs from a frame of which a list is known. Conditions: each lemma's own. -/
import Derived.Test.YtfmlgeeogbhppaaMem
import Derived.LaidEqlPtr
import Derived.Lib.SliceRun
namespace Go.Proofs.Ytfmlgeeogbhppaa
open Go.RowKit

theorem I64.wrap {x : Int} (h : I64 x) : IntKind.i64.wrap x = x := IntWalk.i64_in x ⟨h.1, h.2⟩

theorem wrapU8 {m : Nat} (h : m < 256) : IntKind.u8.wrap (m : Int) = m := by
  simp only [IntKind.wrap, IntKind.bits, IntKind.signed]
  simp
  omega

section
variable {P : Program} {n : Nat} {fr : Fr} {w : World} {x y z : Operand} {ty t t' : TypeId}

/-- An operation that only computes, out of one equation on its run. -/
theorem R.of {op : Op} {v : Value} (h : ∀ a d pos af g, M n fr a → (execOp a.eval ⟨d, op, ty, pos, af, g⟩).run P w = .ok (.value v) w) : Runs P n fr w op ty v w := h

theorem R.move {v : Value} (hx : ev fr x = some v) : Runs P n fr w (.move x) ty v w := fun a _ _ _ _ ha => by simp [execOp, ha.ev hx]
theorem R.assign {v : Value} (hx : ev fr x = some v) : Runs P n fr w (.assign x) ty v w := fun a _ _ _ _ ha => by simp [execOp, ha.ev hx]
theorem R.pickT {v : Value} {b : Bool} (hc : ev fr z = some (.bool b)) (hb : b = true) (hx : ev fr x = some v) : Runs P n fr w (.pick z x y) ty v w := fun a _ _ _ _ ha => by
  subst hb; simp [execOp, ha.ev hc, ha.ev hx, asBool]
theorem R.pickF {v : Value} {b : Bool} (hc : ev fr z = some (.bool b)) (hb : b = false) (hy : ev fr y = some v) : Runs P n fr w (.pick z x y) ty v w := fun a _ _ _ _ ha => by
  subst hb; simp [execOp, ha.ev hc, ha.ev hy, asBool]
theorem R.not {b : Bool} (hx : ev fr x = some (.bool b)) : Runs P n fr w (.unOp .not t x) ty (.bool (!b)) w := fun a _ _ _ _ ha => by
  simp [execOp, ha.ev hx, Op.unary]
section ints
variable {k : IntKind} {a b : Int}
theorem R.lss (hx : ev fr x = some (.int k a)) (hy : ev fr y = some (.int k b)) : Runs P n fr w (.binOp .lss t x y t') ty (.bool (decide (a < b))) w := fun _ _ _ _ _ ha => by
  simp [execOp, ha.ev hx, ha.ev hy, eqGuard_lss, binOp_lss]
theorem R.leq (hx : ev fr x = some (.int k a)) (hy : ev fr y = some (.int k b)) : Runs P n fr w (.binOp .leq t x y t') ty (.bool (decide (a ≤ b))) w := fun _ _ _ _ _ ha => by
  simp [execOp, ha.ev hx, ha.ev hy, eqGuard_leq, binOp_leq]
theorem R.gtr (hx : ev fr x = some (.int k a)) (hy : ev fr y = some (.int k b)) : Runs P n fr w (.binOp .gtr t x y t') ty (.bool (decide (b < a))) w := fun _ _ _ _ _ ha => by
  simp [execOp, ha.ev hx, ha.ev hy, eqGuard_gtr, binOp_gtr]
theorem R.geq (hx : ev fr x = some (.int k a)) (hy : ev fr y = some (.int k b)) : Runs P n fr w (.binOp .geq t x y t') ty (.bool (decide (b ≤ a))) w := fun _ _ _ _ _ ha => by
  simp [execOp, ha.ev hx, ha.ev hy, eqGuard_geq, binOp_geq]
theorem R.eql (hx : ev fr x = some (.int k a)) (hy : ev fr y = some (.int k b)) : Runs P n fr w (.binOp .eql t x y t') ty (.bool (decide (a = b))) w := fun _ _ _ _ _ ha => by
  simp [execOp, ha.ev hx, ha.ev hy, eqGuard_at_int, binOp_eql]; rfl
theorem R.neq (hx : ev fr x = some (.int k a)) (hy : ev fr y = some (.int k b)) : Runs P n fr w (.binOp .neq t x y t') ty (.bool (!decide (a = b))) w := fun _ _ _ _ _ ha => by
  simp [execOp, ha.ev hx, ha.ev hy, eqGuard_at_int, binOp_neq]; rfl
theorem R.addw (hx : ev fr x = some (.int k a)) (hy : ev fr y = some (.int k b)) : Runs P n fr w (.binOp .add t x y t') ty (.int k (k.wrap (a + b))) w := fun _ _ _ _ _ ha => by
  simp [execOp, ha.ev hx, ha.ev hy, eqGuard_add, binOp_add, Op.intArith]
theorem R.subw (hx : ev fr x = some (.int k a)) (hy : ev fr y = some (.int k b)) : Runs P n fr w (.binOp .sub t x y t') ty (.int k (k.wrap (a - b))) w := fun _ _ _ _ _ ha => by
  simp [execOp, ha.ev hx, ha.ev hy, eqGuard_sub, binOp_sub, Op.intArith]
theorem R.mulw (hx : ev fr x = some (.int k a)) (hy : ev fr y = some (.int k b)) : Runs P n fr w (.binOp .mul t x y t') ty (.int k (k.wrap (a * b))) w := fun _ _ _ _ _ ha => by
  simp [execOp, ha.ev hx, ha.ev hy, eqGuard_mul, binOp_mul, Op.intArith]
theorem R.add (hx : ev fr x = some (.int .i64 a)) (hy : ev fr y = some (.int .i64 b)) (h : I64 (a + b)) : Runs P n fr w (.binOp .add t x y t') ty (.int .i64 (a + b)) w := by
  have := R.addw (P := P) (n := n) (w := w) (ty := ty) (t := t) (t' := t') hx hy
  rwa [h.wrap] at this
theorem R.sub (hx : ev fr x = some (.int .i64 a)) (hy : ev fr y = some (.int .i64 b)) (h : I64 (a - b)) : Runs P n fr w (.binOp .sub t x y t') ty (.int .i64 (a - b)) w := by
  have := R.subw (P := P) (n := n) (w := w) (ty := ty) (t := t) (t' := t') hx hy
  rwa [h.wrap] at this
theorem R.mul (hx : ev fr x = some (.int .i64 a)) (hy : ev fr y = some (.int .i64 b)) (h : I64 (a * b)) : Runs P n fr w (.binOp .mul t x y t') ty (.int .i64 (a * b)) w := by
  have := R.mulw (P := P) (n := n) (w := w) (ty := ty) (t := t) (t' := t') hx hy
  rwa [h.wrap] at this
/-- A counter's step. -/
theorem R.inc {m : Nat} (hx : ev fr x = some (.int .i64 (m : Int))) (h : m < 9223372036854775807) : Runs P n fr w (.binOp .add t x (.const (.int .i64 1)) t') ty (.int .i64 ((m + 1 : Nat) : Int)) w := by
  have := R.add (P := P) (n := n) (w := w) (ty := ty) (t := t) (t' := t') hx (y := .const (.int .i64 1)) (b := 1) rfl ⟨by omega, by omega⟩
  simpa using this
theorem R.conv {k' : IntKind} {d : TypeDesc} (hx : ev fr x = some (.int k a)) (hs : P.underlying t = some d) (hd : P.underlying t' = some (.int k')) : Runs P n fr w (.convert t t' x) ty (.int k' (k'.wrap a)) w := fun _ _ _ _ _ ha => by
  simp [execOp, ha.ev hx, convert, run_underlying hs, run_underlying hd, Conv.intToInt]
theorem R.min2 {as : Array TypeId} (hx : ev fr x = some (.int k a)) (hy : ev fr y = some (.int k b)) : Runs P n fr w (.call { callee := .builtin .min, args := #[x, y], argTypes := as }) ty (.int k (min a b)) w := fun _ _ _ _ _ ha => by
  simp [execOp, resolve, invoke, builtin, ha.ev hx, ha.ev hy, run_min_int2]
  split <;> omega
theorem R.max2 {as : Array TypeId} (hx : ev fr x = some (.int k a)) (hy : ev fr y = some (.int k b)) : Runs P n fr w (.call { callee := .builtin .max, args := #[x, y], argTypes := as }) ty (.int k (max a b)) w := fun _ _ _ _ _ ha => by
  simp [execOp, resolve, invoke, builtin, ha.ev hx, ha.ev hy, run_max_int2]
  split <;> omega
theorem R.addN {a b : Nat} (hx : ev fr x = some (.int .i64 (a : Int))) (hy : ev fr y = some (.int .i64 (b : Int))) (h : a + b ≤ 9223372036854775807) : Runs P n fr w (.binOp .add t x y t') ty (.int .i64 ((a + b : Nat) : Int)) w := by
  have := R.add (P := P) (n := n) (w := w) (ty := ty) (t := t) (t' := t') hx hy ⟨by omega, by omega⟩
  simpa using this
theorem R.mulN {a b : Nat} (hx : ev fr x = some (.int .i64 (a : Int))) (hy : ev fr y = some (.int .i64 (b : Int))) (h : a * b ≤ 9223372036854775807) : Runs P n fr w (.binOp .mul t x y t') ty (.int .i64 ((a * b : Nat) : Int)) w := by
  have e : ((a * b : Nat) : Int) = (a : Int) * b := Int.natCast_mul a b
  have h' : I64 ((a : Int) * b) := by rw [← e]; exact ⟨by omega, by omega⟩
  rw [e]
  exact R.mul hx hy h'
theorem R.subN {a b : Nat} (hx : ev fr x = some (.int .i64 (a : Int))) (hy : ev fr y = some (.int .i64 (b : Int))) (h : b ≤ a) (ha : a ≤ 9223372036854775807) : Runs P n fr w (.binOp .sub t x y t') ty (.int .i64 ((a - b : Nat) : Int)) w := by
  have := R.sub (P := P) (n := n) (w := w) (ty := ty) (t := t) (t' := t') hx hy ⟨by omega, by omega⟩
  rw [show ((a - b : Nat) : Int) = (a : Int) - b by omega]; exact this
theorem R.remN {k : IntKind} {a b : Nat} (hx : ev fr x = some (.int k (a : Int))) (hy : ev fr y = some (.int k (b : Int))) (hb : 0 < b) : Runs P n fr w (.binOp .rem t x y t') ty (.int k ((a % b : Nat) : Int)) w := fun _ _ _ _ _ ha => by
  have hb' : ¬ b = 0 := by omega
  have e : (a : Int).tmod b = ((a % b : Nat) : Int) := by rw [Int.tmod_eq_emod_of_nonneg (by omega)]; omega
  simp [execOp, ha.ev hx, ha.ev hy, eqGuard_rem, binOp_rem, Op.intDiv, hb', e]
theorem R.quoN {k : IntKind} {a b : Nat} (hx : ev fr x = some (.int k (a : Int))) (hy : ev fr y = some (.int k (b : Int))) (hb : 0 < b) (hw : k.wrap ((a / b : Nat) : Int) = ((a / b : Nat) : Int)) : Runs P n fr w (.binOp .quo t x y t') ty (.int k ((a / b : Nat) : Int)) w := fun _ _ _ _ _ ha => by
  have hb' : ¬ b = 0 := by omega
  have e : (a : Int).tdiv b = ((a / b : Nat) : Int) := by rw [Int.tdiv_eq_ediv_of_nonneg (by omega)]; omega
  simp [execOp, ha.ev hx, ha.ev hy, eqGuard_quo, binOp_quo, Op.intDiv, hb', e]
  simpa using hw
theorem R.convU8 {b : UInt8} {d : TypeDesc} (hx : ev fr x = some (.int .u8 (b.toNat : Int))) (hs : P.underlying t = some d) (hd : P.underlying t' = some (.int .i64)) : Runs P n fr w (.convert t t' x) ty (.int .i64 (b.toNat : Int)) w := by
  have := R.conv (P := P) (n := n) (w := w) (ty := ty) hx hs hd
  have hb := b.toNat_lt
  rwa [I64.wrap ⟨by omega, by omega⟩] at this
theorem R.andU8 {a b : UInt8} (hx : ev fr x = some (.int .u8 (a.toNat : Int))) (hy : ev fr y = some (.int .u8 (b.toNat : Int))) : Runs P n fr w (.binOp .and t x y t') ty (.int .u8 ((a &&& b).toNat : Int)) w := fun _ _ _ _ _ ha => by
  have e : bits .and .u8 (a.toNat : Int) (b.toNat : Int) = ((a &&& b).toNat : Int) := by
    have h1 : ∀ c : UInt8, (BitVec.ofInt 8 (c.toNat : Int)) = c.toBitVec := fun c => by
      rw [BitVec.ofInt_natCast]; exact BitVec.eq_of_toNat_eq (by simp)
    show IntKind.u8.wrap ((BitVec.ofInt 8 (a.toNat : Int) &&& BitVec.ofInt 8 (b.toNat : Int)).toNat : Int) = _
    rw [h1, h1, ← UInt8.toBitVec_and]
    have := (a &&& b).toNat_lt
    exact wrapU8 this
  simp [execOp, ha.ev hx, ha.ev hy, eqGuard_and, binOp_and, intBits_and, e]
end ints
theorem R.eqlB {a b : Bool} (hx : ev fr x = some (.bool a)) (hy : ev fr y = some (.bool b)) (ht : P.underlying t = some .bool) : Runs P n fr w (.binOp .eql t x y t') ty (.bool (a == b)) w := fun _ _ _ _ _ ha => by
  simp [execOp, ha.ev hx, ha.ev hy, eqGuard_at_bool, run_eql_bool _ _ _ _ ht]
theorem R.neqB {a b : Bool} (hx : ev fr x = some (.bool a)) (hy : ev fr y = some (.bool b)) (ht : P.underlying t = some .bool) : Runs P n fr w (.binOp .neq t x y t') ty (.bool (!(a == b))) w := fun _ _ _ _ _ ha => by
  simp [execOp, ha.ev hx, ha.ev hy, eqGuard_at_bool, run_neq_bool _ _ _ _ ht]

theorem R.eqlS {a b : Str} (hx : ev fr x = some a.val) (hy : ev fr y = some b.val) : Runs P n fr w (.binOp .eql t x y t') ty (.bool (decide (a = b))) w := fun _ _ _ _ _ ha => by
  have e : (a.b == b.b) = decide (a = b) := by
    rw [Bool.eq_iff_iff]
    cases a; cases b; simp
  simp [execOp, ha.ev hx, ha.ev hy, Str.val, eqGuard_at_string, binOp, Op.stringOp, e]
theorem R.neqS {a b : Str} (hx : ev fr x = some a.val) (hy : ev fr y = some b.val) : Runs P n fr w (.binOp .neq t x y t') ty (.bool (!decide (a = b))) w := fun _ _ _ _ _ ha => by
  have e : (a.b == b.b) = decide (a = b) := by
    rw [Bool.eq_iff_iff]
    cases a; cases b; simp
  simp [execOp, ha.ev hx, ha.ev hy, Str.val, eqGuard_at_string, binOp, Op.stringOp, e]

theorem R.extract {vs : Array Value} {v : Value} {i : Nat} (hx : ev fr x = some (.tuple vs)) (hi : vs[i]? = some v) : Runs P n fr w (.extract x i) ty v w := fun _ _ _ _ _ ha => by
  simp [execOp, ha.ev hx, Instr.extract, hi]
theorem R.nilCheckP {a : Addr} (hx : ev fr x = some (.pointer (some a))) : Runs P n fr w (.nilCheck x) ty (.pointer (some a)) w := fun _ _ _ _ _ ha => by
  simp [execOp, ha.ev hx]
theorem R.nilCheckF {f : FuncId} {a c : Array Value} (hx : ev fr x = some (.func (.func f) a c)) : Runs P n fr w (.nilCheck x) ty (.func (.func f) a c) w := fun _ _ _ _ _ ha => by
  simp [execOp, ha.ev hx]
theorem R.makeFunc {f : FuncId} {caps : Array Operand} {cv : Array Value} (h : ∀ a, M n fr a → caps.map a.eval = cv) : Runs P n fr w (.makeFunc (.func f) #[] caps) ty (.func (.func f) #[] cv) w := fun _ _ _ _ _ ha => by
  simp [execOp, Instr.makeFunc, h _ ha]
theorem R.makeFunc1 {f : FuncId} {v : Value} (hx : ev fr x = some v) : Runs P n fr w (.makeFunc (.func f) #[] #[x]) ty (.func (.func f) #[] #[v]) w := R.makeFunc fun a ha => by simp [ha.ev hx]
theorem R.makeFunc2 {f : FuncId} {v v' : Value} (hx : ev fr x = some v) (hy : ev fr y = some v') : Runs P n fr w (.makeFunc (.func f) #[] #[x, y]) ty (.func (.func f) #[] #[v, v']) w := R.makeFunc fun a ha => by simp [ha.ev hx, ha.ev hy]
theorem R.len {a : Option Addr} {m c : Nat} {e : TypeId} (hx : ev fr x = some (.slice a m c)) (ht : P.underlying t = some (.slice e)) : Runs P n fr w (.call { callee := .builtin .len, args := #[x], argTypes := #[t] }) ty (.int .i64 (m : Int)) w := fun _ _ _ _ _ ha => by
  simp [execOp, resolve, invoke, builtin, ha.ev hx, Builtin.len_, run_underlying ht, goInt]
theorem R.lenS {s : Str} (hx : ev fr x = some s.val) (ht : P.underlying t = some .string) : Runs P n fr w (.call { callee := .builtin .len, args := #[x], argTypes := #[t] }) ty (.int .i64 (s.b.length : Int)) w := fun _ _ _ _ _ ha => by
  simp [execOp, resolve, invoke, builtin, ha.ev hx, Str.val, Builtin.len_, run_underlying ht, goInt]
  rfl
theorem R.eqlNil {a : Option Addr} {m c : Nat} {e : TypeId} (hx : ev fr x = some (.slice a m c)) (hy : ev fr y = some (.slice none 0 0)) (ht : P.underlying t = some (.slice e)) : Runs P n fr w (.binOp .eql t x y t') ty (.bool a.isNone) w := fun _ _ _ _ _ ha => by
  simp [execOp, ha.ev hx, ha.ev hy, eqGuard_at_slice, Lib.run_eql_slice_nil w t e a m c 0 0 ht]
theorem R.neqNil {a : Option Addr} {m c : Nat} {e : TypeId} (hx : ev fr x = some (.slice a m c)) (hy : ev fr y = some (.slice none 0 0)) (ht : P.underlying t = some (.slice e)) : Runs P n fr w (.binOp .neq t x y t') ty (.bool (!a.isNone)) w := fun _ _ _ _ _ ha => by
  simp [execOp, ha.ev hx, ha.ev hy, eqGuard_at_slice, run_neq_slice_nil_any w t e a m c 0 0 ht]
/-- A struct built of its parts, off the tables alone. -/
theorem R.build {parts : Array (Nat × Operand)} {pv : List (Nat × Value)} {cells : Array Value} (hp : ∀ a, M n fr a → (parts.map fun p => (p.1, a.eval p.2)) = pv.toArray) (hb : P.built t pv = some cells) :
    Runs P n fr w (.build t parts) ty (.agg cells) w := fun _ _ _ _ _ ha => by
  have h1 := run_build (P := P) w t pv.toArray cells (by simpa using hb)
  simp [execOp, hp _ ha, h1]

/-! ### memory -/
/-- Is the type's value a row of cells (a struct, an array)? -/
def aggD : TypeDesc → Bool | .struct _ => true | .array _ _ => true | _ => false
theorem run_isAgg {d : TypeDesc} (hu : P.underlying t = some d) (w : World) : (isAgg t).run P w = .ok (aggD d) w := by
  unfold isAgg
  rw [Sem.run_bind, run_underlying hu w]
  cases d <;> rfl
theorem run_loadOne {a : Addr} {v : Value} {d : TypeDesc} (hu : P.underlying t = some d) (hd : aggD d = false) (hc : w.cell? a = some v) : (loadVar t a).run P w = .ok v w := by
  simp [loadVar, run_isAgg hu, hd, hc]
theorem run_loadAgg {a : Addr} {cs : List Value} {d : TypeDesc} (hu : P.underlying t = some d) (hd : aggD d = true) (hi : (P.info? t).map (·.size) = some cs.length) (hc : CellsAt w a cs) : (loadVar t a).run P w = .ok (.agg cs.toArray) w := by
  cases hq : P.info? t with
  | none => simp [hq] at hi
  | some i =>
    have hs : i.size = cs.length := by simpa [hq] using hi
    simp [loadVar, run_isAgg hu, hd, sizeOf, typeInfo, hq, hs, run_loadCells_list (P := P) w a cs hc]

theorem R.load1 {a : Addr} {v : Value} {d : TypeDesc} (hx : ev fr x = some (.pointer (some a))) (hu : P.underlying t = some d) (hd : aggD d = false) (hc : w.cell? a = some v) : Runs P n fr w (.load t x) ty v w := fun _ _ _ _ _ ha => by
  simp [execOp, ha.ev hx, Instr.loadAt, Instr.sureAddr, run_loadOne hu hd hc]
theorem R.loadN {a : Addr} {cs : List Value} {d : TypeDesc} (hx : ev fr x = some (.pointer (some a))) (hu : P.underlying t = some d) (hd : aggD d = true) (hi : (P.info? t).map (·.size) = some cs.length) (hc : CellsAt w a cs) :
    Runs P n fr w (.load t x) ty (.agg cs.toArray) w := fun _ _ _ _ _ ha => by
  simp [execOp, ha.ev hx, Instr.loadAt, Instr.sureAddr, run_loadAgg hu hd hi hc]
/-- A cell of a block that is known whole. -/
theorem R.loadB {g i : Nat} {tb : TypeId} {cs : List Value} {v : Value} {d : TypeDesc} (hx : ev fr x = some (.pointer (some ⟨g, i, none⟩))) (hB : Blk w g tb cs) (hv : cs[i]? = some v) (hu : P.underlying t = some d) (hd : aggD d = false) :
    Runs P n fr w (.load t x) ty v w := R.load1 hx hu hd (by rw [hB.cell]; exact hv)
/-- Several of its cells. -/
theorem R.loadBN {g i : Nat} {tb : TypeId} {cs vs : List Value} {d : TypeDesc} (hx : ev fr x = some (.pointer (some ⟨g, i, none⟩))) (hB : Blk w g tb cs) (hv : (cs.drop i).take vs.length = vs) (hu : P.underlying t = some d) (hd : aggD d = true)
    (hi : (P.info? t).map (·.size) = some vs.length) : Runs P n fr w (.load t x) ty (.agg vs.toArray) w :=
  R.loadN hx hu hd hi (by
    have h := (hB.cells.shift i).take vs.length
    rw [hv, add_lit, Nat.zero_add] at h
    exact h)

theorem fieldPlace_run {a : Addr} {f : Field} {s : Nat} (hs : (P.info? f.type).map (·.size) = some (s + 1)) : (fieldPlace a f).run P w = .ok (a.add f.offset) w := by
  cases hq : P.info? f.type with
  | none => simp [hq] at hs
  | some i =>
    have : i.size = s + 1 := by simpa [hq] using hs
    simp [fieldPlace, sizeOf, typeInfo, hq, this]
theorem R.fieldAddr {a : Addr} {fs : Array Field} {i j s : Nat} {f : Field} (hx : ev fr x = some (.pointer (some a))) (ht : P.underlying t = some (.struct fs)) (hf : fs[i]? = some f) (ho : f.offset = j) (hs : (P.info? f.type).map (·.size) = some (s + 1)) :
    Runs P n fr w (.fieldAddr t x i) ty (.pointer (some (a.add j))) w := fun _ _ _ _ _ ha => by
  subst ho
  simp [execOp, ha.ev hx, Instr.fieldAt, run_underlying ht, hf, Instr.sureAddr, fieldPlace_run hs]
theorem R.fieldAddrB {g k : Nat} {fs : Array Field} {i j s : Nat} {f : Field} (hx : ev fr x = some (.pointer (some ⟨g, k, none⟩))) (ht : P.underlying t = some (.struct fs)) (hf : fs[i]? = some f) (ho : f.offset = j) (hs : (P.info? f.type).map (·.size) = some (s + 1)) :
    Runs P n fr w (.fieldAddr t x i) ty (.pointer (some ⟨g, k + j, none⟩)) w := by
  have := R.fieldAddr (P := P) (n := n) (w := w) (ty := ty) hx ht hf ho hs
  rwa [add_lit] at this
theorem R.indexAddr {a : Option Addr} {A : Addr} {m c : Nat} {k : IntKind} {i : Int} {e : TypeId} {s : Nat} (hx : ev fr x = some (.slice a m c)) (hy : ev fr y = some (.int k i)) (ht : P.underlying t = some (.slice e)) (hs : (P.info? e).map (·.size) = some s)
    (hA : a = some A) (h0 : 0 ≤ i) (h1 : i < (m : Int)) : Runs P n fr w (.indexAddr t x y) ty (.pointer (some (A.add (i.toNat * s)))) w := fun _ _ _ _ _ ha => by
  subst hA
  cases hq : P.info? e with
  | none => simp [hq] at hs
  | some q =>
    have : q.size = s := by simpa [hq] using hs
    simp [execOp, ha.ev hx, ha.ev hy, Instr.indexAt, run_underlying ht, asIntOf, h0, h1, sizeOf, typeInfo, hq, this]
/-- ..at a counter. -/
theorem R.indexAddrN {a : Option Addr} {A : Addr} {m c : Nat} {k : IntKind} {i : Nat} {e : TypeId} {s : Nat} (hx : ev fr x = some (.slice a m c)) (hy : ev fr y = some (.int k (i : Int))) (ht : P.underlying t = some (.slice e)) (hs : (P.info? e).map (·.size) = some s)
    (hA : a = some A) (h1 : i < m) : Runs P n fr w (.indexAddr t x y) ty (.pointer (some (A.add (i * s)))) w := by
  have := R.indexAddr (P := P) (n := n) (w := w) (ty := ty) hx hy ht hs hA (by omega) (by omega)
  simpa using this
theorem R.indexAddrJ {a : Option Addr} {A : Addr} {m c : Nat} {k : IntKind} {z : Int} {i : Nat} {e : TypeId} {s : Nat} (hx : ev fr x = some (.slice a m c)) (hy : ev fr y = some (.int k z)) (ht : P.underlying t = some (.slice e)) (hs : (P.info? e).map (·.size) = some s)
    (hA : a = some A) (hz : z = (i : Int)) (h1 : i < m) : Runs P n fr w (.indexAddr t x y) ty (.pointer (some (A.add (i * s)))) w := by
  subst hz
  exact R.indexAddrN hx hy ht hs hA h1

variable {Q : Exit → Act → World → Prop} {l rest : List Oper} {d : Nat} {pos : String} {af : Array Edge}
theorem WO.box {v : Value} {cs : List Value} (hx : ev fr x = some v) (hcs : v.cells = cs.toArray) (hd : Nat.blt d n = true) (k : ∀ w', NB w w' t cs → WO P Q n l rest ((d, .pointer (some ⟨w.heap.size, 0, none⟩)) :: fr) w') :
    WO P Q n l (⟨some d, .box t x, ty, pos, af, none⟩ :: rest) fr w :=
  WO.v (w' := w.alloc (.cells cs.toArray t)) (fun a _ _ _ _ ha => by simp [execOp, ha.ev hx, Instr.box, newVar, newRow, hcs]) hd (k _ (NB.alloc w t cs))
theorem WO.alloc {cs : List Value} (hz : ((P.info? t).bind (·.zero)).map Value.cells = some cs.toArray) (hd : Nat.blt d n = true) (k : ∀ w', NB w w' t cs → WO P Q n l rest ((d, .pointer (some ⟨w.heap.size, 0, none⟩)) :: fr) w') :
    WO P Q n l (⟨some d, .alloc t, ty, pos, af, none⟩ :: rest) fr w :=
  WO.v (w' := w.alloc (.cells cs.toArray t)) (fun a _ _ _ _ _ => by
    cases hq : P.info? t with
    | none => simp [hq] at hz
    | some i =>
      cases hz' : i.zero with
      | none => simp [hq, hz'] at hz
      | some z =>
        have : z.cells = cs.toArray := by simpa [hq, hz'] using hz
        simp [execOp, Instr.alloc, newVar, newRow, zeroValue, typeInfo, hq, hz', this]) hd (k _ (NB.alloc w t cs))
/-- A store of one cell into a block that is known whole. -/
theorem WO.storeB {g i : Nat} {tb : TypeId} {cs cs' : List Value} {u v : Value} (hx : ev fr x = some (.pointer (some ⟨g, i, none⟩))) (hy : ev fr y = some v) (hB : Blk w g tb cs) (hu : cs[i]? = some u) (h1 : v.oneCell' = true) (hi : (P.info? t).map (·.size) = some 1)
    (hcs : cs.set i v = cs') (k : ∀ w', Kp [g] w w' → Blk w' g tb cs' → w'.heap.size = w.heap.size → WO P Q n l rest fr w') :
    WO P Q n l (⟨none, .store t x y, ty, pos, af, none⟩ :: rest) fr w :=
  WO.s (w' := w.setCell ⟨g, i, none⟩ v) (fun a _ _ _ _ ha => by
    cases hq : P.info? t with
    | none => simp [hq] at hi
    | some q =>
      have hs : q.size = 1 := by simpa [hq] using hi
      have hcells : v.cells = #[v] := by cases v <;> simp_all [Value.cells, Value.oneCell']
      have hst : (store (⟨g, i, none⟩ : Addr) v).run P w = .ok () (w.setCell ⟨g, i, none⟩ v) := by
        rw [run_store P w _ v _ h1, hB.cell, hu]
        simp [hB.frozen]
      simp [execOp, ha.ev hx, ha.ev hy, Instr.storeAt, Instr.sureAddr, storeVar, sizeOf, typeInfo, hq, hs, hcells, storeCells, Addr.add_zero', hst]) (k _ (Kp.setCell w ⟨g, i, none⟩ v) (hcs ▸ hB.setCell i v) (by simp))
/-- A store of a whole struct into its block. -/
theorem WO.storeBN {g : Nat} {tb : TypeId} {cs vs : List Value} (hx : ev fr x = some (.pointer (some ⟨g, 0, none⟩))) (hy : ev fr y = some (.agg vs.toArray)) (hB : Blk w g tb cs) (hl : cs.length = vs.length) (h1 : ∀ u ∈ vs, u.oneCell' = true)
    (hi : (P.info? t).map (·.size) = some vs.length) (k : ∀ w', Kp [g] w w' → Blk w' g tb vs → w'.heap.size = w.heap.size → WO P Q n l rest fr w') :
    WO P Q n l (⟨none, .store t x y, ty, pos, af, none⟩ :: rest) fr w :=
  WO.s (w' := w.setRow g vs.toArray) (fun a _ _ _ _ ha => by
    have := run_storeVar_row (P := P) w g tb t cs.toArray vs.toArray hB (by simpa using hi) (by simpa using hl) (by simpa using h1)
    simp [execOp, ha.ev hx, ha.ev hy, Instr.storeAt, Instr.sureAddr, this]) (k _ (Kp.setRow w g _) (hB.setRow vs) (by simp))

/-- The values of some operands. -/
def evs (fr : Fr) : List Operand → Option (List Value)
  | [] => some []
  | x :: r =>
    match ev fr x, evs fr r with
    | some v, some vs => some (v :: vs)
    | _, _ => none
theorem evs_map {a : Act} (ha : M n fr a) : ∀ {xs : List Operand} {vs : List Value}, evs fr xs = some vs → xs.map a.eval = vs
  | [], vs, h => by simp [evs] at h; subst h; rfl
  | x :: r, vs, h => by
    simp only [evs] at h
    split at h
    · rename_i v vs' hv hvs
      cases h
      simp [ha.ev hv, evs_map ha hvs]
    · cases h
/-- The parts of a struct or slice. -/
def evp (fr : Fr) : List (Nat × Operand) → Option (List (Nat × Value))
  | [] => some []
  | (i, x) :: r =>
    match ev fr x, evp fr r with
    | some v, some vs => some ((i, v) :: vs)
    | _, _ => none
theorem evp_map {a : Act} (ha : M n fr a) : ∀ {xs : List (Nat × Operand)} {vs : List (Nat × Value)}, evp fr xs = some vs → xs.map (fun p => (p.1, a.eval p.2)) = vs
  | [], vs, h => by simp [evp] at h; subst h; rfl
  | (i, x) :: r, vs, h => by
    simp only [evp] at h
    split at h
    · rename_i v vs' hv hvs
      cases h
      simp [ha.ev hv, evp_map ha hvs]
    · cases h
/-- A struct built of its parts. -/
theorem R.buildL {parts : List (Nat × Operand)} {pv : List (Nat × Value)} {cells : Array Value} (hp : evp fr parts = some pv) (hb : P.built t pv = some cells) : Runs P n fr w (.build t parts.toArray) ty (.agg cells) w :=
  R.build (pv := pv) (fun a ha => by simp [← evp_map ha hp]) hb

theorem fill_place (s : Nat) : ∀ (vss : List (List Value)) (k : Nat) (pre post : List Value), (∀ vs ∈ vss, vs.length = s) → pre.length = k * s → post.length = vss.length * s → ∀ (pv : List (Nat × Value)), pv.map (fun p => (p.1, p.2.cells.toList)) = (List.range' k vss.length).zip vss →
    Instr.fill (fun i => some (i * s, s)) (pre ++ post).toArray pv = some (pre ++ vss.flatten).toArray
  | [], k, pre, post, _, _, hpost, pv, hpv => by
    have : pv = [] := by simpa using hpv
    subst this
    have : post = [] := by simpa using hpost
    subst this
    simp [Instr.fill]
  | vs :: vss, k, pre, post, hl, hpre, hpost, [], hpv => by simp [List.range'_succ] at hpv
  | vs :: vss, k, pre, post, hl, hpre, hpost, (i, v) :: pv, hpv => by
    simp only [List.map_cons, List.length_cons, List.range'_succ, List.zip_cons_cons, List.cons.injEq, Prod.mk.injEq] at hpv
    obtain ⟨⟨hi, hv⟩, hpv⟩ := hpv
    subst hi
    have hvs : vs.length = s := hl vs (by simp)
    have hsz : v.cells.size = s := by rw [← Array.length_toList, hv, hvs]
    have hpl : post.length = s + vss.length * s := by rw [hpost, List.length_cons, Nat.add_mul]; omega
    have key : ∀ (us : List Value) (j : Nat) (a b : List Value), us.length ≤ b.length → a.length = i * s + j →
        (us.zipIdx j).foldl (fun cs (c : Value × Nat) => cs.setIfInBounds (i * s + c.2) c.1) (a ++ b).toArray = (a ++ us ++ b.drop us.length).toArray := by
      intro us
      induction us with
      | nil => intro j a b _ _; simp
      | cons u us ih =>
        intro j a b hb ha
        cases b with
        | nil => simp at hb
        | cons b0 b =>
          simp only [List.zipIdx_cons, List.foldl_cons]
          have : ((a ++ b0 :: b).toArray.setIfInBounds (i * s + j) u) = ((a ++ [u]) ++ b).toArray := by
            simp [← ha]
          rw [this, ih (j + 1) (a ++ [u]) b (by simpa using hb) (by simp [ha]; omega)]
          simp
    have hfold : v.cells.zipIdx.foldl (fun cs (c : Value × Nat) => cs.setIfInBounds (i * s + c.2) c.1) (pre ++ post).toArray = ((pre ++ vs) ++ post.drop s).toArray := by
      have h1 := key vs 0 pre post (by omega) (by omega)
      rw [hvs] at h1
      have h2 : v.cells = vs.toArray := by simp [← hv]
      rw [← h1, h2]
      simp
    simp only [Instr.fill, hsz, ne_eq, not_true_eq_false]
    rw [if_neg (by simp [hpre, hpl])]
    have := fill_place s vss (i + 1) (pre ++ vs) (post.drop s) (fun x hx => hl x (by simp [hx])) (by simp [hpre, hvs, Nat.add_mul]) (by simp [hpl]) pv (by simpa using hpv)
    refine Eq.trans ?_ (this.trans (by simp))
    congr 1
theorem WO.buildSlice {parts : List (Nat × Operand)} {pv : List (Nat × Value)} {vss : List (List Value)} {m s : Nat} {e : TypeId} {z : List Value} (ht : P.underlying t = some (.slice e)) (hs : (P.info? e).map (·.size) = some s)
    (hz : ((P.info? e).bind (·.zero)).map Value.cells = some z.toArray) (hp : evp fr parts = some pv) (hv : pv.map (fun p => (p.1, p.2.cells.toList)) = (List.range' 0 vss.length).zip vss) (hl : ∀ vs ∈ vss, vs.length = s) (hm : vss.length = m)
    (hsmall : Nat.ble (m * s) 16777216 = true) (hd : Nat.blt d n = true) (k : ∀ w', NB w w' e vss.flatten → WO P Q n l rest ((d, .slice (some ⟨w.heap.size, 0, none⟩) m m) :: fr) w') :
    WO P Q n l (⟨some d, .buildSlice t m parts.toArray, ty, pos, af, none⟩ :: rest) fr w :=
  WO.v (w' := w.alloc (.cells vss.flatten.toArray e)) (fun a _ _ _ _ ha => by
    subst hm
    have hsm : vss.length * s ≤ 16777216 := by simpa using hsmall
    cases hq : P.info? e with
    | none => simp [hq] at hs
    | some i =>
      have hi : i.size = s := by simpa [hq] using hs
      cases hz' : i.zero with
      | none => simp [hq, hz'] at hz
      | some zv =>
        have hzc : zv.cells = z.toArray := by simpa [hq, hz'] using hz
        have hparts : (parts.toArray.map fun p => (p.1, a.eval p.2)) = pv.toArray := by simp [← evp_map ha hp]
        have hf : ∀ zc : List Value, zc.length = vss.length * s → Instr.fill (fun i => some (i * s, s)) zc.toArray pv = some vss.flatten.toArray := fun zc hzc => by
          simpa using fill_place s vss 0 [] zc hl (by simp) hzc pv hv
        by_cases h0 : vss.length * s = 0
        · have := hf [] (by simp [h0])
          simp [execOp, hparts, Instr.buildSlice, run_underlying ht, sizeOf, typeInfo, hq, hi, h0, Array.range_zero', this, newRow]
        · have := hf ((List.range (vss.length * s)).map fun j => zv.cells[j % zv.cells.size]!) (by simp)
          have h2 : (Array.range (vss.length * s)).map (fun j => zv.cells[j % zv.cells.size]!) = ((List.range (vss.length * s)).map fun j => zv.cells[j % zv.cells.size]!).toArray := by rw [← List.toArray_range, List.map_toArray]
          simp only [execOp, Instr.buildSlice, Sem.run_bind, run_underlying ht, sizeOf, typeInfo, run_program, hq, hi, Result.andThen_ok, Sem.run_ite, if_neg (show ¬ vss.length * s > 2 ^ 24 by omega), Sem.run_pure, h0, if_false, zeroValue, hz', h2]
          rw [show (Array.map (fun x => (x.1, a.eval x.2)) parts.toArray).toList = pv by rw [hparts]]
          simp [this, newRow]) hd (k _ (NB.alloc w e _))

/-! ### calls -/
theorem E.call {f : FuncId} {as : Array TypeId} {fn : Func} {xs : List Operand} {vs cap : List Value} (hx : ev fr x = some (.func (.func f) #[] cap.toArray)) (hvs : evs fr xs = some vs) (hf : P.funcs[f]? = some fn) (hn : (fn.name == "runtime.NumGoroutine") = false) (hb : fn.body.isNone = false) :
    Enters P n fr w (.call { callee := .value x, args := xs.toArray, argTypes := as }) ty f (vs ++ cap).toArray := fun _ _ _ _ _ ha => by
  simp [execOp, resolve, ha.ev hx, Deferred.ofValue, invoke, callFunc, hf, show ¬ fn.name = "runtime.NumGoroutine" by simpa using hn, show ¬ fn.body = none by intro h; simp [h] at hb, evs_map ha hvs]
end

/-! ### joins, for the printed proofs -/
def clash (pre ch fr : Fr) : Bool := fr.any fun q => (!ch.any fun c => Nat.beq c.1 q.1) && pre.any fun p => Nat.beq p.1 q.1
theorem look_app : ∀ {pre fr : Fr} {i : Nat}, (∀ p ∈ pre, p.1 ≠ i) → look (pre ++ fr) i = look fr i
  | [], _, _, _ => rfl
  | (j, v) :: r, fr, i, h => by
    rw [List.cons_append, look_cons, if_neg (h (j, v) (by simp))]
    exact look_app fun p hp => h p (by simp [hp])
theorem look_mem : ∀ {fr : Fr} {i : Nat} {v : Value}, look fr i = some v → ∃ q ∈ fr, q.1 = i
  | [], _, _, h => by cases h
  | (j, u) :: r, i, v, h => by
    rw [look_cons] at h
    by_cases hj : j = i
    · exact ⟨(j, u), by simp, hj⟩
    · rw [if_neg hj] at h
      obtain ⟨q, hq, he⟩ := look_mem h
      exact ⟨q, by simp [hq], he⟩
theorem has_app {frX ch fr : Fr} (m : Nat) (hx : frX.drop m = fr) (hcl : clash (frX.take m) ch fr = false) (hch : Has frX ch) : ∀ i v, look (ch ++ fr) i = some v → look frX i = some v := by
  intro i v hv
  by_cases hi : ∃ c ∈ ch, c.1 = i
  · have : look ch i = some v := by
      clear hch hcl
      induction ch with
      | nil => obtain ⟨c, hc, _⟩ := hi; simp at hc
      | cons c ch ih =>
        obtain ⟨j, u⟩ := c
        rw [List.cons_append, look_cons] at hv
        rw [look_cons]
        by_cases hj : j = i
        · rw [if_pos hj] at hv ⊢; exact hv
        · rw [if_neg hj] at hv ⊢
          obtain ⟨c, hc, he⟩ := hi
          rcases List.mem_cons.1 hc with rfl | hc
          · exact absurd he hj
          · exact ih hv ⟨c, hc, he⟩
    exact hch.look i v this
  · have h1 : look fr i = some v := by
      rw [look_app] at hv
      · exact hv
      · intro p hp he; exact hi ⟨p, hp, he⟩
    have h2 : frX = frX.take m ++ fr := by rw [← hx, List.take_append_drop]
    rw [h2, look_app, h1]
    intro p hp he
    obtain ⟨q, hq, hqi⟩ := look_mem h1
    have hcl' := hcl
    simp only [clash, List.any_eq_false, Bool.and_eq_true, Bool.not_eq_true', not_and, Bool.not_eq_true, List.any_eq_true, not_exists] at hcl'
    have h3 := hcl' q hq (by
      intro c hc
      rw [← Bool.not_eq_true, Nat.beq_eq]
      intro hbeq
      exact hi ⟨c, hc, by omega⟩) p hp
    rw [← Bool.not_eq_true, Nat.beq_eq] at h3
    omega
section
variable {P : Program} {Q : Exit → Act → World → Prop} {n : Nat} {fr : Fr} {w : World}
theorem WO.cutP {l rest : List Oper} (k : Nat) (ch : Fr) (J : World → Prop) (h : WO P (cutQ Q n (ch ++ fr) J) n l (rest.take k) fr w) (hk : ∀ w', J w' → WO P Q n l (rest.drop k) (ch ++ fr) w') : WO P Q n l rest fr w := WO.cut k (ch ++ fr) J h hk
theorem WX.cutDoneP {frX ch : Fr} {J : World → Prop} (m : Nat) (hx : frX.drop m = fr) (hcl : clash (frX.take m) ch fr = false) (hch : Has frX ch) (hJ : J w) : WX (cutQ Q n (ch ++ fr) J) n .normal frX w :=
  fun _ ha => ⟨ha.sub (has_app m hx hcl hch), hJ⟩
theorem look_join {ks : List Nat} {frX ch fr2 : Fr} (hch : Has frX ch) (hs : selF ks frX = some fr2) : ∀ i v, look (ch ++ fr2) i = some v → look frX i = some v := by
  intro i v hv
  by_cases hi : ∃ c ∈ ch, c.1 = i
  · refine hch.look i v ?_
    clear hch
    induction ch with
    | nil => obtain ⟨c, hc, _⟩ := hi; simp at hc
    | cons c ch ih =>
      obtain ⟨j, u⟩ := c
      rw [List.cons_append, look_cons] at hv
      rw [look_cons]
      by_cases hj : j = i
      · rw [if_pos hj] at hv ⊢; exact hv
      · rw [if_neg hj] at hv ⊢
        obtain ⟨c, hc, he⟩ := hi
        rcases List.mem_cons.1 hc with rfl | hc
        · exact absurd he hj
        · exact ih hv ⟨c, hc, he⟩
  · rw [look_app] at hv
    · exact sel_look hs i v hv
    · intro p hp he; exact hi ⟨p, hp, he⟩
/-- Two ways meet again behind x: the slots of ch are new, those of ks as they were. -/
theorem WC.cutK {x y : Code} (ks : List Nat) {fr2 : Fr} (_hs : selF ks fr = some fr2) (ch : Fr) (J : World → Prop) (h : WC P (cutQ Q n (ch ++ fr2) J) n x fr w) (k : ∀ w', J w' → WC P Q n y (ch ++ fr2) w') : WC P Q n (.seq x y) fr w := WC.cut (ch ++ fr2) J h k
theorem WX.cutDoneK {frX ch fr2 : Fr} {J : World → Prop} (ks : List Nat) (hs : selF ks frX = some fr2) (hch : Has frX ch) (hJ : J w) : WX (cutQ Q n (ch ++ fr2) J) n .normal frX w :=
  fun _ ha => ⟨ha.sub (look_join hch hs), hJ⟩
theorem WC.loopK {σ : Type} {c : Code} (ks : List Nat) {fr2 : Fr} (hs : selF ks fr = some fr2) (G : σ → Fr) (J : σ → World → Prop) (μ : σ → Nat) (s0 : σ) (h0 : Has fr (G s0)) (hJ : J s0 w)
    (round : ∀ s w', J s w' → WC P (loopQ Q n (fun s => G s ++ fr2) J μ (μ s)) n c (G s ++ fr2) w') : WC P Q n (.loop c) fr w :=
  WC.loopS (fun s => G s ++ fr2) J μ s0 (look_join h0 hs) hJ round
theorem WX.loopNextK {σ : Type} {frX fr2 : Fr} {G : σ → Fr} {J : σ → World → Prop} {μ : σ → Nat} {m : Nat} (ks : List Nat) (s : σ) (hs : selF ks frX = some fr2) (hch : Has frX (G s)) (hJ : J s w) (hm : μ s < m) :
    WX (loopQ Q n (fun s => G s ++ fr2) J μ m) n .normal frX w :=
  fun _ ha => ⟨s, ha.sub (look_join hch hs), hJ, hm⟩
theorem WX.retC {fn : Func} {φ : Value → World → Prop} {p : Tmp} {ty tb : TypeId} {g : Nat} {cs : List Value} {d : TypeDesc} (hr : fn.results = #[.cell p ty]) (hp : look fr p = some (.pointer (some ⟨g, 0, none⟩))) (hB : Blk w g tb cs)
    (hu : P.underlying ty = some d) (hd : aggD d = true) (hi : (P.info? ty).map (·.size) = some cs.length) (hφ : φ (.agg cs.toArray) w) : WX (bodyPost P fn fun e w' => ∃ v, e = .returned v ∧ φ v w') n .ret fr w :=
  WX.ret_of (fun a ha => by
    have := run_loadAgg (P := P) hu hd hi hB.cells
    simp [results, hr, ha.at_ hp, asAddr, this]) hφ
theorem WX.retCT {fn : Func} {φ : Value → World → Prop} {p u : Tmp} {v : Value} {ty tb : TypeId} {g : Nat} {cs : List Value} {d : TypeDesc} (hr : fn.results = #[.cell p ty, .tmp u]) (hp : look fr p = some (.pointer (some ⟨g, 0, none⟩))) (hv : look fr u = some v) (hB : Blk w g tb cs)
    (hu : P.underlying ty = some d) (hd : aggD d = true) (hi : (P.info? ty).map (·.size) = some cs.length) (hφ : φ (.tuple #[.agg cs.toArray, v]) w) : WX (bodyPost P fn fun e w' => ∃ v, e = .returned v ∧ φ v w') n .ret fr w :=
  WX.ret_of (fun a ha => by
    have := run_loadAgg (P := P) hu hd hi hB.cells
    simp [results, hr, ha.at_ hp, ha.at_ hv, asAddr, this]) hφ
end

/-! ### small words for the printed proofs -/
theorem get_ex {α : Type} {xs : List α} {i : Nat} (h : i < xs.length) : ∃ x, xs[i]? = some x := ⟨xs[i], List.getElem?_eq_getElem h⟩
theorem get_lt {α : Type} {xs : List α} {i : Nat} {x : α} (h : xs[i]? = some x) : i < xs.length := (List.getElem?_eq_some_iff.1 h).1
theorem CellsAt.one0 {w : World} {a : Addr} {v : Value} {cs : List Value} (h : CellsAt w a (v :: cs)) : w.cell? a = some v := by
  have := h 0 v rfl
  simpa [Addr.add] using this
theorem CellsAt.kp {S : List Nat} {w w' : World} {a : Addr} {cs : List Value} (h : CellsAt w a cs) (k : Kp S w w') (hlt : a.block < w.heap.size) (hS : ∀ g ∈ S, g ≠ a.block) : CellsAt w' a cs :=
  h.keep (k.block _ hlt fun hm => hS _ hm rfl)
theorem CellsAt.kpA {S : List Nat} {w w' : World} {A : Addr} {i : Nat} {cs : List Value} (h : CellsAt w (A.add i) cs) (k : Kp S w w') (hlt : A.block < w.heap.size) (hS : ∀ g ∈ S, g ≠ A.block) : CellsAt w' (A.add i) cs :=
  h.kp k (by rw [add_block]; exact hlt) (by rw [add_block]; exact hS)
theorem band_off {b c : Bool} (h : b = false) : false = (b && c) := by simp [h]
theorem band_on {b c : Bool} (h : b = true) : c = (b && c) := by simp [h]
theorem bor_on {b c : Bool} (h : b = true) : true = (b || c) := by simp [h]
theorem bor_off {b c : Bool} (h : b = false) : c = (b || c) := by simp [h]
theorem bnot_t {b : Bool} (h : (!b) = true) : b = false := by simpa using h
theorem bnot_f {b : Bool} (h : (!b) = false) : b = true := by simpa using h
theorem band_t {b c : Bool} (h : (b && c) = true) : b = true ∧ c = true := by simpa using h
theorem band_f {b c : Bool} (h : (b && c) = false) : b = false ∨ c = false := by cases b <;> simp_all
theorem bor_t {b c : Bool} (h : (b || c) = true) : b = true ∨ c = true := by simpa using h
theorem bor_f {b c : Bool} (h : (b || c) = false) : b = false ∧ c = false := by simpa using h
theorem vb {b c : Bool} (h : b = c) : Value.bool b = .bool c := by rw [h]
theorem vi {k : IntKind} {b c : Int} (h : b = c) : Value.int k b = .int k c := by rw [h]

end Go.Proofs.Ytfmlgeeogbhppaa
